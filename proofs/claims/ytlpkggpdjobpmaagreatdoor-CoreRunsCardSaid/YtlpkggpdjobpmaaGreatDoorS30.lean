/- Lemmas. -/
import Derived.DataReads
import Derived.Deep.Strs
import Derived.Test.YtlpkggpdjobpmaaGreatDoorProg
import Derived.KernelRfl
import Derived.Test.YtlpkggpdjobpmaaGreatDoorS1
import Derived.Test.YtlpkggpdjobpmaaGreatDoorS7
import Derived.Test.YtlpkggpdjobpmaaGreatDoorS15
import Derived.Test.YtlpkggpdjobpmaaGreatDoorS16
import Derived.Test.YtlpkggpdjobpmaaGreatDoorS17
import Derived.Test.YtlpkggpdjobpmaaGreatDoorS18
import Derived.Test.YtlpkggpdjobpmaaGreatDoorS19
import Derived.Test.YtlpkggpdjobpmaaGreatDoorS29
set_option linter.all false
namespace Go.Proofs.YtlpkggpdjobpmaaGreatDoor
open Go.RowKit
inductive TT where
 |leaf (k:Nat) (i:TI)
 |node (k:Nat) (l r:TT)
def TT.find:TT->Nat->Option TI
 | .leaf k i,t=>match Nat.beq t k with|true=>some i|false=>none
 | .node k l r,t=>match Nat.blt t k with|true=>l.find t|false=>r.find t
def Tb(P:Program):TT->Prop
 | .leaf k i=>TyOk P k i
 | .node _ l r=>Tb P l∧Tb P r
theorem TT.find_ok{P:Program}:∀(T:TT),Tb P T->∀t i,T.find t=some i->TyOk P t i
 | .leaf k i,h,t,i',hf=>by
  simp only[TT.find]at hf;split at hf
  ·rename_i hb;injection hf with hf;subst hf;rw[aO hb];exact h
  ·cases hf
 | .node k l r,h,t,i,hf=>by
  simp only[TT.find]at hf;split at hf
  ·exact TT.find_ok l h.1 t i hf
  ·exact TT.find_ok r h.2 t i hf
def Wk(P:Program)(inf:TypeInfo)(z:Value)(i:TI):Bool:=
 inf.size==i.sz&&inf.bytes==i.bytes&&z.cells.size==i.sz&&Nat.blt 0 i.sz&&Nat.ble i.bytes 1000&&YJ z.cells.toList
def Tc{P}{t}{i}{inf}{z}(h1:P.info? t=some inf)(h2:inf.zero=some z)(h3:i.zero=Pq z)(hc:Wk P inf z i=true){d}(hd:P.underlying t=some d)(hrow:d.isRow=i.ag)
  (hk:match i.kd with
  | .bool=>d=.bool
  | .int k=>d=.int k
  | .string=>d=.string
  | .slice e=>d=.slice e
  | .array n e=>d=.array n e
  | .struct fs=>∃fields,d=.struct fields∧fields.toList.map (λf=>(f.offset,f.type))=fs∧(fields.toList.all λf=>match P.info? f.type with|some i=> !(i.size==0)|none=>false)=true
  |_=>True) (he:i.eq≠[]->YU P t i.eq):TyOk P t i:=by
 simp only[Wk,aP,pU]at hc;obtain⟨⟨⟨⟨⟨c1,c2⟩,c3⟩,c4⟩,c5⟩,c6⟩:=hc;refine⟨⟨inf,z,h1,c1,c2,h2,h3,c3,aJ c4,aJ c5⟩,λinf' z' e1 e2 k u hu=>?_,⟨d,hd,hrow⟩,?_,he⟩
 ·rw[h1]at e1;injection e1 with e1;subst e1;rw[h2]at e2;injection e2 with e2;subst e2;exact BR _ c6 k u (sU hu)
 ·cases hkd:i.kd<;>rw[hkd]at hk<;>simp only at hk⊢ <;>first|(rw[hd,hk];done)|trivial|skip
  obtain⟨fields,rfl,g1,g2⟩:=hk;refine⟨fields,hd,g1,λf hf=>?_⟩;have:=rC.1 g2 f hf;split at this
  ·rename_i inf' hi;exact⟨inf',hi,sU this⟩
  ·cases this
theorem Mx:∀(ks:List CK) (xs ys:List Value) (b:Bool),eqVL ks xs ys=some b->xs.length=ks.length∧ys.length=ks.length
 |[],[],[],_,_=>⟨rfl,rfl⟩
 | k::ks,x::xs,y::ys,b,h=>by
  simp only[eqVL]at h;split at h
  ·rename_i a c h1 h2;obtain⟨e1,e2⟩:=Mx ks xs ys c h2;exact⟨by simp[e1],by simp[e2]⟩
  ·cases h
 |[],[],_::_,_,h=>by simp[eqVL]at h
 |[],_::_,_,_,h=>by simp[eqVL]at h
 |_::_,[],_,_,h=>by simp[eqVL]at h
 |_::_,_::_,[],_,h=>by simp[eqVL]at h
theorem Bs:∀(ks js:List CK) (xs ys:List Value) (b:Bool),eqVL (ks++js) xs ys=some b->
  ∃b1 b2,eqVL ks (xs.take ks.length) (ys.take ks.length)=some b1∧eqVL js (xs.drop ks.length) (ys.drop ks.length)=some b2∧b=(b1&&b2)
 |[],js,xs,ys,b,h=>⟨true,b,by simp[eqVL],sU h,by simp⟩
 | k::ks,js,x::xs,y::ys,b,h=>by
  simp only[nV,eqVL]at h;split at h
  ·rename_i a c h1 h2;injection h with h;subst h;obtain⟨b1,b2,e1,e2,e3⟩:=Bs ks js xs ys c h2;refine⟨a&&b1,b2,?_,sU e2,by rw[e3,lG]⟩;simp only[bN,oP,eqVL,h1,e1]
  ·cases h
 |_::_,_,[],_,_,h=>by simp[eqVL]at h
 |_::_,_,_::_,[],_,h=>by simp[eqVL]at h
def Bu(P:Program)(K:TypeId->Option (List CK)):Nat->List Field->Option (List CK)
 |_,[]=>some []
 | off,f::fs=>match f.name== "_",f.offset==off,P.info? f.type,K f.type with
  |false,true,some inf,some ks=>match inf.size==ks.length,Bu P K (off+ks.length) fs with
   |true,some js=>some (ks++js)
   |_,_=>none
  |_,_,_,_=>none
def cellK(P:Program):Nat->TypeId->Option (List CK)
 |0,_=>none
 | d+1,t=>match P.underlying t with
  |some .bool=>some [.b]
  |some (.int _)=>some [.i]
  |some .string=>some [.s]
  |some (.struct fs)=>match P.stoodInHeld t with|true=>none|false=>Bu P (cellK P d) 0 fs.toList
  |some (.array n e)=>match P.info? e,cellK P d e with
   |some inf,some ks=>(match inf.size==ks.length with|true=>some (List.flatten (List.replicate n ks))|false=>none)
   |_,_=>none
  |_=>none
def Gp(P:Program)(D:Nat)(t:TypeId)(ks:List CK):Prop:=∀(xs ys:Array Value) (off:Nat) (b:Bool) (w:World),
 eqVL ks ((xs.toList.drop off).take ks.length) ((ys.toList.drop off).take ks.length)=some b->
 ∃u v,(part t xs off).run P w=.ok u w∧(part t ys off).run P w=.ok v w∧(Op.equalIn D t u v).run P w=.ok b w
theorem My{P:Program}{D:Nat}{K:TypeId->Option (List CK)}(hK:∀t ks inf,K t=some ks->P.info? t=some inf->inf.size=ks.length->Gp P D t ks):
  ∀(fs:List Field) (off:Nat) (js:List CK) (xs ys:Array Value) (b:Bool) (w:World),Bu P K off fs=some js->eqVL js (xs.toList.drop off) (ys.toList.drop off)=some b->
  (forIn fs ((none,()):Option Bool×PUnit) (λf r=>do
    if f.name≠ "_" then
     if !(<-Op.equalIn D f.type (<-part f.type xs f.offset) (<-part f.type ys f.offset))then pure (ForInStep.done (some false,()))else pure (ForInStep.yield (none,()))
    else pure (ForInStep.yield (none,())):Field->Option Bool×PUnit->Sem (ForInStep (Option Bool×PUnit)))).run P w=.ok (match b with|true=>(none,())|false=>(some false,())) w
 | [],off,js,xs,ys,b,w,hf,h=>by
  simp only[Bu,af6]at hf;subst hf;have hb:b=true:=by
   cases hx:xs.toList.drop off<;>cases hy:ys.toList.drop off<;>rw[hx,hy]at h<;>simp[eqVL]at h<;>first|exact h|exact h.symm
  subst hb;rfl
 | f ::fs,off,js,xs,ys,b,w,hf,h=>by
  simp only[Bu]at hf;split at hf
  ·rename_i inf ks h1 h2 h3 h4;split at hf
   ·rename_i js' h5 h6;injection hf with hf;subst hf;have e2:f.offset=off:=sU h2;have e5:inf.size=ks.length:=sU h5;have e1:f.name≠ "_" :=sU h1;obtain⟨b1,b2,g1,g2,g3⟩:=Bs ks js' _ _ b h;obtain⟨u,v,p1,p2,p3⟩:=hK f.type ks inf h4 h3 e5 xs ys off b1 w g1;have IH:=My hK fs (off+ks.length) js' xs ys b2 w h6 (by simpa [lH]using g2);simp only[List.forIn_cons,Sem.run_bind,e1,e2,ne_eq,not_false_eq_true,fD,p1,p2,p3,Result.andThen_ok]
    cases b1 with
    |false=>subst g3;simp
    |true=>
     simp only[mD,cS,eE,Sem.run_pure,Result.andThen_ok];rw[g3,kL];simpa only[ne_eq]using IH
   ·cases hf
  ·cases hf
def YS{P}{D}{t}{K}(hK:∀t ks inf,K t=some ks->P.info? t=some inf->inf.size=ks.length->Gp P D t ks)
  {fs} (hu:P.underlying t=some (.struct fs)) (hst:P.stoodInHeld t=false) {ks} (hf:Bu P K 0 fs.toList=some ks) {xs ys} {b} (w) (h:eqVL ks xs.toList ys.toList=some b):
  (Op.equalIn (D+1) t (.agg xs) (.agg ys)).run P w=.ok b w:=by
 rw[Op.equalIn];have:=My hK fs.toList 0 ks xs ys b w hf (sU h);simp only[Sem.run_bind,run_underlying hu,Result.andThen_ok,show Sem.run P program w=.ok P w from rfl,hst,cS,eE];rw[<-Array.forIn_toList];simp only[ne_eq,Sem.run_bind]at this⊢;rw[this];cases b<;>rfl
theorem Lk{P:Program}{D:Nat}{e:TypeId}{ks:List CK}{inf:TypeInfo}(hi:P.info? e=some inf)(hsz:inf.size=ks.length)(hK:Gp P D e ks):
  ∀(m s:Nat) (xs ys:Array Value) (b:Bool) (w:World),eqVL (List.flatten (List.replicate m ks)) (xs.toList.drop (s*ks.length)) (ys.toList.drop (s*ks.length))=some b->
  (forIn (List.range' s m) ((none,()):Option Bool×PUnit) (λi r=>do
    if !(<-Op.equalIn D e (<-part e xs (i*ks.length)) (<-part e ys (i*ks.length)))then pure (ForInStep.done (some false,()))else pure (ForInStep.yield (none,())):Nat->Option Bool×PUnit->Sem (ForInStep (Option Bool×PUnit)))).run P w=.ok (match b with|true=>(none,())|false=>(some false,())) w
 | 0,s,xs,ys,b,w,h=>by
  have hb:b=true:=by
   simp only[List.replicate_zero,List.flatten_nil]at h;cases hx:xs.toList.drop (s*ks.length)<;>cases hy:ys.toList.drop (s*ks.length)<;>rw[hx,hy]at h<;>simp[eqVL]at h<;>first|exact h|exact h.symm
  subst hb;rfl
 | m+1,s,xs,ys,b,w,h=>by
  rw[List.replicate_succ,mU]at h;obtain⟨b1,b2,g1,g2,g3⟩:=Bs ks _ _ _ b h;obtain⟨u,v,p1,p2,p3⟩:=hK xs ys (s*ks.length) b1 w g1;have IH:=Lk hi hsz hK m (s+1) xs ys b2 w (by rw[cG,lD];simpa [lH]using g2);rw[nX];simp only[List.forIn_cons,Sem.run_bind,p1,p2,p3,Result.andThen_ok]
  cases b1 with
  |false=>subst g3;simp
  |true=>
   simp only[mD,cS,eE,Sem.run_pure,Result.andThen_ok];rw[g3,kL];exact IH
theorem Mz{P:Program}:∀(d D:Nat),d<=D->∀t ks inf,cellK P d t=some ks->P.info? t=some inf->inf.size=ks.length->Gp P D t ks
 |0,_,_,t,ks,_,h,_,_=>by simp[cellK]at h
 |d+1,0,hD,_,_,_,_,_,_=>by omega
 | d + 1,D+1,hD,t,ks,inf,h,hi,hsz=>by
  intro xs ys off b w he;simp only[cellK]at h;have sc:∀(k:CK),ks=[k]->∃u v,xs.toList[off]?=some u∧ys.toList[off]?=some v∧eqV k u v=some b:=by
   intro k hk;subst hk;obtain⟨l1,l2⟩:=Mx _ _ _ _ he
   cases hx:(xs.toList.drop off)with
   |nil=>rw[hx]at l1;simp at l1
   | cons u us=>
    cases hy:(ys.toList.drop off)with
    |nil=>rw[hy]at l2;simp at l2
    | cons v vs=>
     rw[hx,hy]at he;simp only[bN,cX,bJ,oP,pV,eqVL]at he;refine⟨u,v,?_,?_,?_⟩
     ·have:(xs.toList.drop off)[0]?=some u:=by rw[hx];rfl
      simpa using this
     ·have:(ys.toList.drop off)[0]?=some v:=by rw[hy];rfl
      simpa using this
     ·split at he
      ·rename_i a c g1 g2;injection g2 with g2;subst g2;rw[g1];simpa using he
      ·cases he
  have pt:∀(dd:TypeDesc) (zs:Array Value) (u:Value),P.underlying t=some dd->dd.isRow=false->zs.toList[off]?=some u->(part t zs off).run P w=.ok u w:=by
   intro dd zs u hu hr hz;have hz':zs[off]?=some u:=sU hz;unfold part isAgg;simp only[Sem.run_bind,run_underlying hu,Result.andThen_ok];cases dd<;>first|(simp[TypeDesc.isRow]at hr;done)|(simp[hz'])
  split at h
  ·rename_i hu;injection h with h;subst h;obtain⟨u,v,g1,g2,g3⟩:=sc .b rfl;refine⟨u,v,pt _ _ _ hu rfl g1,pt _ _ _ hu rfl g2,?_⟩;cases u<;>cases v<;>simp[eqV]at g3;rw[Op.equalIn];simp only[Sem.run_bind,run_underlying hu,Result.andThen_ok,Sem.run_pure];simp[g3]
  ·rename_i k0 hu;injection h with h;subst h;obtain⟨u,v,g1,g2,g3⟩:=sc .i rfl;refine⟨u,v,pt _ _ _ hu rfl g1,pt _ _ _ hu rfl g2,?_⟩;cases u<;>cases v<;>simp only[eqV]at g3<;>try (cases g3;done)
   split at g3
   ·rename_i hk;have:=Ey hk;subst this;rw[Op.equalIn];simp only[Sem.run_bind,run_underlying hu,Result.andThen_ok,fD,Sem.run_pure];simpa using g3
   ·cases g3
  ·rename_i hu;injection h with h;subst h;obtain⟨u,v,g1,g2,g3⟩:=sc .s rfl;refine⟨u,v,pt _ _ _ hu rfl g1,pt _ _ _ hu rfl g2,?_⟩;cases u<;>cases v<;>simp[eqV]at g3;rw[Op.equalIn];simp only[Sem.run_bind,run_underlying hu,Result.andThen_ok,Sem.run_pure];simp[g3]
  ·rename_i fs hu;split at h
   ·cases h
   ·rename_i hst;have IH:∀t ks inf,cellK P d t=some ks->P.info? t=some inf->inf.size=ks.length->Gp P D t ks:=Mz d D oT;have pa:∀zs:Array Value,(part t zs off).run P w=.ok (.agg (zs.extract off (off+ks.length))) w:=by
     intro zs;unfold part isAgg sizeOf typeInfo;simp[run_underlying hu,hi,hsz]
    refine⟨_,_,pa xs,pa ys,YS IH hu hst h w ?_⟩;simpa [nY,List.extract]using he
  ·rename_i n e hu;split at h
   ·rename_i inf' ks' h1 h2;split at h
    ·rename_i h3;injection h with h;have hs':inf'.size=ks'.length:=sU h3;have IH:Gp P D e ks':=Mz d D oT e ks' inf' h2 h1 hs';have pa:∀zs:Array Value,(part t zs off).run P w=.ok (.agg (zs.extract off (off+ks.length))) w:=by
      intro zs;unfold part isAgg sizeOf typeInfo;simp[run_underlying hu,hi,hsz]
     refine⟨_,_,pa xs,pa ys,?_⟩;rw[Op.equalIn];have hz:(sizeOf e).run P w=.ok ks'.length w:=by unfold sizeOf typeInfo;simp[h1,hs']
     have L:=Lk h1 hs' IH n 0 (xs.extract off (off+ks.length)) (ys.extract off (off+ks.length)) b w (by rw[h];simpa [nY,List.extract]using he);simp only[Sem.run_bind,run_underlying hu,Result.andThen_ok,hz];simp only[Std.Legacy.Range.forIn_eq_forIn_range',Std.Legacy.Range.size,Nat.sub_zero,Nat.add_one_sub_one,qU]
     (try simp only[Sem.run_bind]at L)
     rw[L];cases b<;>rfl
    ·cases h
   ·cases h
  ·cases h
def vJ{P}{d}{t}{ks}(h:(match P.underlying t with
  |some (.struct fs)=>if(!P.stoodInHeld t&& !P.eqGuardType P.depth t)=true then Bu P (cellK P d) 0 fs.toList else none
  |_=>none)=some ks) (hd:Nat.ble d 9999=true:=by rfl):YU P t ks:=by
 intro xs ys b x y w he;split at h
 ·rename_i fs hu;split at h
  ·rename_i hc;simp only[aP,qI]at hc;have e1:(Op.equal t (.agg xs) (.agg ys)).run P w=.ok b w:=by
    unfold Op.equal;rw[show Op.maxDepth=9999+1 from rfl];exact YS (Mz d 9999 (aJ hd)) hu hc.1 h w he
   have e2:∀op,(op=.eql∨op=.neq)->(eqGuard op t x y (.agg xs) (.agg ys)).run P w=.ok () w:=by
    intro op ho;unfold eqGuard;rcases ho with rfl|rfl<;>simp[show Sem.run P program w=.ok P w from rfl,hc.2]
   constructor
   ·simp only[Sem.run_bind,e2 .eql (.inl rfl),Result.andThen_ok,binOp,e1,Sem.run_pure]
   ·simp only[Sem.run_bind,e2 .neq (.inr rfl),Result.andThen_ok,binOp,e1,Sem.run_pure]
  ·cases h
 ·cases h
def Ta{P}{d}{t e}{n}{inf}{ks ks'}(hu:P.underlying t=some (.array n e))(h1:P.info? e=some inf)(h2:cellK P d e=some ks')(hs:inf.size=ks'.length)(h:List.flatten (List.replicate n ks')=ks)(hg:P.eqGuardType P.depth t=false)(hd:Nat.ble d 9999=true:=by rfl):YU P t ks:=by
 intro xs ys b x y w he;have e1:(Op.equal t (.agg xs) (.agg ys)).run P w=.ok b w:=by
  unfold Op.equal;rw[show Op.maxDepth=9999+1 from rfl,Op.equalIn];have hz:(sizeOf e).run P w=.ok ks'.length w:=by unfold sizeOf typeInfo;simp[h1,hs]
  have L:=Lk h1 hs (Mz d 9999 (aJ hd) e ks' inf h2 h1 hs) n 0 xs ys b w (by rw[h];simpa using he);simp only[Sem.run_bind,run_underlying hu,Result.andThen_ok,hz];simp only[Std.Legacy.Range.forIn_eq_forIn_range',Std.Legacy.Range.size,Nat.sub_zero,Nat.add_one_sub_one,qU]
  (try simp only[Sem.run_bind]at L)
  rw[L];cases b<;>rfl
 have e2:∀op,(op=.eql∨op=.neq)->(eqGuard op t x y (.agg xs) (.agg ys)).run P w=.ok () w:=by
  intro op ho;unfold eqGuard;rcases ho with rfl|rfl<;>simp[show Sem.run P program w=.ok P w from rfl,hg]
 constructor
 ·simp only[Sem.run_bind,e2 .eql (.inl rfl),Result.andThen_ok,binOp,e1,Sem.run_pure]
 simp only[Sem.run_bind,e2 .neq (.inr rfl),Result.andThen_ok,binOp,e1,Sem.run_pure]
def slotsF:List (Nat×AV)->Nat->AV
 |[],_=>.any
 |(i,x)::l,j=>match Nat.beq i j with|true=>x|false=>slotsF l j
def heapF:List (Nat×Blk)->AH
 |[],_=>none
 |(i,x)::l,j=>match Nat.beq i j with|true=>some x|false=>heapF l j
def WT(st:ASt)(n:Nat)(σ:Nat->Nat):List (Nat×AV)->Prop
 |[]=>True
 |(i,x)::l=>(st.t i=uW σ x∧mR n x=true)∧WT st n σ l
def WH(st:ASt)(n:Nat)(σ:Nat->Nat):List (Nat×Blk)->Prop
 |[]=>True
 |(i,x)::l=>(Nat.blt i n=true∧st.h (σ i)=some (DI σ x)∧qM n x=true)∧WH st n σ l
def Mw(x:Nat):List Nat->Bool
 |[]=>true
 |y::l=>match Nat.beq x y with|true=>false|false=>Mw x l
def En:List Nat->Bool
 |[]=>true
 |x::l=>match Mw x l with|true=>En l|false=>false
theorem Gj:∀(l:List Nat) (x:Nat),Mw x l=true->x ∉ l
 |[],_,_=>by simp
 | y::l,x,h=>by
  simp only[Mw]at h;split at h
  ·cases h
  ·rename_i hb;have:x≠y:=λe=>by subst e;simp at hb
   simp[this,Gj l x h]
theorem Gk{σ:Nat->Nat}:∀(l:List Nat),En (l.map σ)=true->∀a∈l,∀b∈l,σ a=σ b->a=b
 |[],_=>by simp
 | x::l,h=>by
  simp only[jC,En]at h;split at h
  ·rename_i hf;have hn:=Gj _ _ hf;have ih:=Gk l h;intro a ha b hb e;rcases al_List_mem_cons.1 ha with rfl|ha
   ·rcases al_List_mem_cons.1 hb with hb|hb
    ·exact hb.symm
    ·exact absurd (pG.2 ⟨b,hb,e.symm⟩) hn
   ·rcases al_List_mem_cons.1 hb with hb|hb
    ·exact absurd (pG.2 ⟨a,ha,e.trans (af2 σ hb)⟩) hn
    ·exact ih a ha b hb e
  ·cases h
theorem Weak.of_lists{st}{l}{hp}{n}(σ)(ht:WT st n σ l)(hh:WH st n σ hp)(hi:En ((hp.map (·.1)).map σ)=true):Weak st ⟨slotsF l,heapF hp,n⟩ σ:=by
 have keyH:∀(hp:List _) s blk,heapF hp s=some blk->s∈hp.map (·.1):=by
  intro hp
  induction hp with
  |nil=>intro s blk h;simp[heapF]at h
  | cons p hp ih=>
   obtain⟨i,x⟩:=p;intro s blk h;simp only[heapF]at h;split at h
   ·rename_i hb;simp[aO hb]
   ·simp[ih s blk h]
 refine⟨λi=>?_,λs blk hs=>?_,λs s' h1 h2 e=>?_⟩
 ·clear hh hi
  induction l with
  |nil=>exact .inl rfl
  |cons p l ih=>
   obtain⟨j,x⟩:=p;obtain⟨⟨h1,h2⟩,h3⟩:=ht;simp only[slotsF]
   cases hb:Nat.beq j i with
   |true=>exact .inr (by rw[<-aO hb];exact⟨h1,h2⟩)
   |false=>exact ih h3
 ·clear ht hi
  induction hp with
  |nil=>cases hs
  | cons p hp ih=>
   obtain⟨j,x⟩:=p;obtain⟨⟨h1,h2,h3⟩,h4⟩:=hh
   change heapF _ _=_ at hs
   simp only[heapF]at hs
   cases hb:Nat.beq j s with
   |true=>
    rw[hb]at hs;injection hs with hs;subst hs;rw[<-aO hb]
    exact⟨aJ h1,h2,h3⟩
   |false=>rw[hb]at hs;exact ih h4 hs
 ·cases e1:heapF hp s with
  |none=>exact absurd e1 h1
  |some b1=>
   cases e2:heapF hp s' with
   |none=>exact absurd e2 h2
   |some b2=>exact Gk _ hi s (keyH hp s b1 e1) s' (keyH hp s' b2 e2) e
abbrev wOL:= @Weak.of_lists
section
variable {C:Ctx}{V:Inv C.fr}{R:FuncId->List AV->AV->Prop}
def Pv{h}{s}{r}{K K'}(hk:∀x h,K x h->K' x h)(hn:node C R h s r K):node C R h s r K':=by
 cases r<;>simp only[node]at hn⊢
 case ok=>exact hk _ _ hn
 case need=>exact .mk hn.1 (hk _ _ hn.2)
 case idx=>
  obtain⟨row,hr,h1⟩:=hn;refine .mk row hr ?_;split
  ·rename_i hx;rw[hx]at h1;exact hk _ _ h1
  rename_i hx;rw[hx]at h1;exact h1.elim
 case fx=>exact .mk hn.1 (hk _ _ hn.2)
 case idxfx=>
  obtain⟨row,hr,h1⟩:=hn;refine .mk row hr ?_;split
  ·rename_i hx;rw[hx]at h1;exact hk _ _ h1
  rename_i hx;rw[hx]at h1;exact h1.elim
 case str=>obtain⟨l,h1,h2⟩:=hn;exact .mk l h1 (hk _ _ h2)
 case call=>
  rcases hn with hn|hn
  ·obtain⟨x,a,b,c,d,e⟩:=hn;exact .inl (.mk x a b c d (hk _ _ e))
  obtain⟨Post,a,b⟩:=hn;exact .inr (.mk Post a λr h' hP=>hk _ _ (b r h' hP))
def Gl{h}{g}{r}{K K'}(hk:∀x h,K x h->K' x h)(hn:DH C R h g r K):DH C R h g r K':=by
 cases r<;>simp only[DH]at hn⊢
 case ok=>exact hk _ _ hn
 case need=>exact .mk hn.1 (hk _ _ hn.2)
 case idx=>
  obtain⟨row,hr,h1⟩:=hn;refine .mk row hr ?_;split
  ·rename_i hx;rw[hx]at h1;exact hk _ _ h1
  rename_i hx;rw[hx]at h1;exact h1.elim
 case str=>obtain⟨l,h1,h2⟩:=hn;exact .mk l h1 (hk _ _ h2)
 case call=>obtain⟨x,a,b,c,d,e⟩:=hn;exact .mk x a b c d (hk _ _ e)
def Og{r}{K K'}(hk:∀x h,K x h->K' x h)(hn:Ov r K):Ov r K':=by
 cases r<;>simp only[Ov]at hn⊢
 case fx=>exact .mk hn.1 (hk _ _ hn.2)
def Gm{all}{o}{s}{t}{h}{K K'}(hk:∀x h,K x h->K' x h)(hn:xG C R all o s t h K):xG C R all o s t h K':=by
 unfold xG at hn⊢;split
 ·rename_i hg;rw[hg]at hn;exact Pv hk hn
 rename_i i pol hg;rw[hg]at hn;simp only at hn;split
 ·rename_i hd;rw[hd]at hn;exact hn
 rename_i d hd;rw[hd]at hn;simp only at hn;split
 ·rename_i hv;rw[hv]at hn;exact hn
 rename_i g hv;rw[hv]at hn;simp only at hn;split
 ·rename_i hc;rw[hc]at hn;exact hn.imp (Gl hk) λq=>⟨q.1,Og hk q.2⟩
 rename_i c hc;rw[hc]at hn;exact .mk hn.1 (Gl hk hn.2)
theorem Eo{all:List Oper}{K K':ASt->Prop}(hk:∀st,K st->K' st):∀(l:List Oper) (j:Nat) (st:ASt),jS C R all l j st K->jS C R all l j st K'
 |[],_,_,h=>hk _ h
 |_::l,j,_,h=>Gm (λ_ _ q=>Eo hk l (j+1) _ q) h
theorem Jy{α:Type}{P P':α->Prop}(h:∀x,P x->P' x):∀l,forL P l->forL P' l
 |[],_=>trivial
 |x::l,k=>⟨h x k.1,Jy h l k.2⟩
theorem Jz{ops:Array Oper}{K K':ASt->Prop}(hk:∀st,K st->K' st):∀(fuel:Nat) (listed:Array Bool) (st:ASt),Wx C R ops K fuel listed st->Wx C R ops K' fuel listed st
 |0,_,_,h=>⟨h.1,hk _ h.2⟩
 | fuel+1,listed,st,h=>⟨h.1,Jy (λi q=>by
   unfold Zc at q⊢;split
   ·rename_i o ho;rw[ho]at q;exact Gm (λ_ _ q=>Jz hk fuel _ _ q) q
   ·rename_i ho;rw[ho]at q;exact q) _ h.2⟩
theorem lE:∀(c:Code) (st:ASt) (Q Q':AEx->ASt->Prop),(∀e st,Q e st->Q' e st)->eA C R c st Q->eA C R c st Q'
 | .skip,_,_,_,hq,h=>hq _ _ h
 | .label _,_,_,_,hq,h=>hq _ _ h
 | .region _ ops dr,_,_,_,hq,h=>by
  simp only[eA]at h⊢;split
  ·rename_i hb;rw[hb]at h;exact h.elim (λh=>.inl (Jz (λst q=>hq _ st q) _ _ _ h)) λh=>.inr ⟨h.1,Eo (λst q=>⟨q.1,hq _ st q.2⟩) _ _ _ h.2⟩
  ·rename_i hb;rw[hb]at h;exact Eo (λst q=>hq _ st q) _ _ _ h
 | .seq a b,st,Q,Q',hq,h=>h.imp
  (λh=>lE a st _ _ (λe st' k=>by
   cases e with
   |normal=>exact lE b st' Q Q' hq k
   |exit i=>exact hq _ _ k
   |ret=>exact hq _ _ k) h)
  (λh=>h.imp (λh=>lE a st _ _ (λe st' k=>by
   cases e with
   |normal=>obtain⟨st2,g,k⟩:=k;exact .mk st2 g (lE b st2 Q Q' hq k)
   |exit i=>exact hq _ _ k
   |ret=>exact hq _ _ k) h)
   (λh=>lE a st _ _ (λe st' k=>by
   cases e with
   |normal=>obtain⟨st2,g,st3,σ,h1,h2,k⟩:=k;exact .mk st2 g (.mk st3 σ h1 h2 (lE b st3 Q Q' hq k))
   |exit i=>exact hq _ _ k
   |ret=>exact hq _ _ k) h))
 | .cond c x y,st,Q,Q',hq,h=>by
  simp only[eA]at h⊢;split
  ·rename_i b hv;rw[hv]at h;obtain⟨h1,h2⟩:=h;exact .mk (λe=>lE x st Q Q' hq (h1 e)) (λe=>lE y st Q Q' hq (h2 e))
  ·rename_i hv;split at h
   ·rename_i b hv';exact absurd hv' (hv b)
   ·exact h
 | .block id b,st,Q,Q',hq,h=>lE b st _ _ (λe st' k=>by
   cases e with
   |normal=>exact hq _ _ k
   |exit i=>
    simp only at k⊢;split
    ·rename_i hb;rw[hb]at k;exact hq _ _ k
    ·rename_i hb;rw[hb]at k;exact hq _ _ k
   |ret=>exact hq _ _ k) h
 | .loop b,st,Q,Q',hq,h=>by
  obtain⟨I,μ,st0,σ,hw,hf,h0,round⟩:=h;exact .mk I μ st0 σ hw hf h0 λst' hi=>lE b st' _ _ (λe st'' k=>by
   cases e with
   |normal=>exact k
   |exit i=>exact hq _ _ k
   |ret=>exact hq _ _ k) (round st' hi)
 | .exit id,_,_,_,hq,h=>hq _ _ h
 | .ret,_,_,_,hq,h=>hq _ _ h
end
def sX{C}{R}{b}{st}{Q}{κ}(S:κ->ASt)(G:κ->Prop)(μ:κ->Nat)(k0)(σ)(hw:Weak st (S k0) σ)(hf:keepB C.fr σ (S k0).n=true)(h0:G k0)
  (round:∀k,G k->eA C R b (S k) (λe st'=>match e with| .normal=>GhostN st' (λstg=>∃k' σ,Weak stg (S k') σ∧keepB C.fr σ (S k').n=true∧G k'∧μ k'<μ k)|e=>Q e st')):eA C R (.loop b) st Q:=by
 show LoopN C.fr (eA C R b) st Q
 classical
 have least:∀(st:ASt) (n:Nat) (k:κ),G k->st=S k->μ k<=n->∃k,G k∧st=S k∧∀k',G k'->st=S k'->μ k<=μ k':=by
  intro st n
  induction n with
  |zero=>intro k h1 h2 h3;exact⟨k,h1,h2,λk' _ _=>by omega⟩
  |succ n ih=>
   intro k h1 h2 h3;by_cases hc:∃k',G k'∧st=S k'∧μ k'<=n
   ·obtain⟨k',p,q,r⟩:=hc;exact ih k' p q r
   ·exact⟨k,h1,h2,λk' p q=>aI (bG (aL h3 (Nat.lt_of_not_le λr=>hc ⟨k',p,q,r⟩)))⟩
 have hl:∀st:ASt,(∃k,G k∧st=S k)->∃k,G k∧st=S k∧∀k',G k'->st=S k'->μ k<=μ k':=λst ⟨k,p,q⟩=>least st (μ k) k p q (aC _)
 let M:ASt->Nat:=λst=>open Classical in if h:∃k,G k∧st=S k then μ (Classical.choose (hl st h))else 0
 have hM:∀st k,G k->st=S k->M st<=μ k:=by
  intro st k p q;have h:∃k,G k∧st=S k:=⟨k,p,q⟩;show dite _ _ _<=_;rw[dif_pos h];exact(nE (hl st h)).2.2 k p q
 refine .mk (λst=>∃k,G k∧st=S k) M (S k0) σ hw hf ⟨k0,h0,rfl⟩ ?_;rintro st' h;have e:M st'=μ (Classical.choose (hl st' h)):=dif_pos h;obtain⟨p,q,r⟩:=nE (hl st' h);generalize Classical.choose (hl st' h)=k at e p q r;subst q;have:=round k p;refine lE b _ _ _ (λe' st'' hq=>?_) this
 cases e' with
 |normal=>
  obtain⟨stg,g,k',σ',h1,hf',h2,h3⟩:=hq
  exact .mk stg g ⟨S k',σ',h1,hf',⟨k',h2,rfl⟩,by rw[e];exact bL (hM _ k' h2 rfl) h3⟩
 |exit i=>exact hq
 |ret=>exact hq
def jR{C}{R}{b}{st}{Q}{κ}(S:κ->ASt)(G:κ->Prop)(μ:κ->Nat)(k0)(σ)(hw:Weak st (S k0) σ)(h0:G k0)
  (round:∀k,G k->eA C R b (S k) (λe st'=>match e with| .normal=>∃k' σ,Weak st' (S k') σ∧G k'∧μ k'<μ k|e=>Q e st')) (hfr:C.fr=0:=by rfl):eA C R (.loop b) st Q:=by
 refine sX S G μ k0 σ hw (by rw[hfr];rfl) h0 λk hk=>lE b _ _ _ (λe st' q=>?_) (round k hk)
 cases e with
 |normal=>obtain⟨k',σ',h1,h2,h3⟩:=q;exact .mk st' (.refl _) ⟨k',σ',h1,by rw[hfr];rfl,h2,h3⟩
 |exit i=>exact q
 |ret=>exact q
def abP:List AV->Option (List Value)
 |[]=>some []
 | .v x::cs=>match abP cs with|some l=>some (x::l)|none=>none
 |_::_=>none
def SZ:AV->Option Value
 | .v x=>some x
 | .agg cs=>match abP cs with|some l=>(match YJ l with|true=>some (.agg l.toArray)|false=>none)|none=>none
 |_=>none
def Ju:List AV->Option (List Value)
 |[]=>some []
 |x::cs=>match SZ x,Ju cs with|some u,some l=>some (u::l)|_,_=>none
theorem Hi:∀(cs:List AV) (l:List Value),abP cs=some l->cs=l.map .v
 |[],l,h=>by injection h with h;subst h;rfl
 | c::cs,l,h=>by
  cases c<;>simp only[abP]at h<;>try (cases h;done)
  split at h
  ·rename_i l' hl;injection h with h;subst h;rw[Hi cs l' hl];rfl
  ·cases h
section
variable {S:Nat->Prop}{w:World}{β:Bt}
def Hj{a}{u}(h:SZ a=some u):Rep S w β a u:=by
 cases a<;>simp only[SZ]at h<;>try (cases h;done)
 case v x=>injection h with h;subst h;exact .v _
 case agg cs=>
  split at h
  ·rename_i l hl;split at h
   ·rename_i ho;injection h with h;subst h;have:=Hi cs l hl;subst this;refine .agg _ _ (by simp) (λi u hu=>BR _ ho i u (sU hu)) λi a u h1 h2=>?_;have h2':l[i]?=some u:=sU h2;simp[h2']at h1;subst h1;exact .v _
   cases h
  cases h
def Pw{a}{u v}(h:SZ a=some u)(hr:Rep S w β a v):v=u:=by
 cases a<;>simp only[SZ]at h<;>try (cases h;done)
 case v x=>injection h with h;subst h;cases hr;rfl
 case agg cs=>
  split at h
  ·rename_i l hl;split at h
   ·injection h with h;subst h;have:=Hi cs l hl;subst this
    cases hr with
    | agg _ vs hl1 h1 hh=>
     congr 1;apply Array.ext
     ·simpa using hl1.symm
     ·intro i p q;have p1:vs[i]?=some vs[i]:=aT p;have q1:i<l.length:=sU q;have:=hh i (.v l[i]) vs[i] (by simp[q1]) p1;have:=lV this;rw[this];simp
   ·cases h
  ·cases h
theorem Hk:∀{args:List AV} {vs:List Value},Ju args=some vs->args.length=vs.length
 |[],vs,h=>by injection h with h;subst h;rfl
 | x::args,vs,h=>by
  simp only[Ju]at h;split at h
  ·rename_i u l h1 h2;injection h with h;subst h;simp[Hk h2]
  ·cases h
theorem Hl:∀{args:List AV} {vs:List Value},Ju args=some vs->∀(i:Nat) a u,args[i]?=some a->vs[i]?=some u->SZ a=some u
 |[],vs,h,i,a,u,h1,_=>by simp at h1
 | x::args,vs,h,i,a,u,h1,h2=>by
  simp only[Ju]at h;split at h
  ·rename_i u' l g1 g2;injection h with h;subst h
   cases i with
   |zero=>simp at h1 h2;subst h1;subst h2;exact g1
   |succ i=>exact Hl g2 i a u (sU h1) (sU h2)
  ·cases h
def BL{args:List AV}{vs:List Value}(h:Ju args=some vs):RepL S w β args vs:=
 ⟨Hk h,λi a u h1 h2=>Hj (Hl h i a u h1 h2)⟩
def Lj{args}{vs us}(h:Ju args=some vs)(hr:RepL S w β args us):us=vs:=by
 apply dD;intro i;have l1:=Hk h;have l2:args.length=us.length:=hr.1;rcases al_Nat_lt_or_ge i args.length with k|k
 ·have e1:args[i]?=some args[i]:=aA k;have e2:us[i]?=some us[i]:=aA oT;have e3:vs[i]?=some vs[i]:=aA oT;rw[e2,e3,Pw (Hl h i _ _ e1 e3) (hr.2 i _ _ e1 e2)]
 rw[bE oT,bE oT]
end
def okB{a b}(h:a=b):Res.ok (.v (.bool a))=.ok (.v (.bool b)):=by rw[h]
def okI{k}{a b}(h:a=b):Res.ok (.v (.int k a))=.ok (.v (.int k b)):=by rw[h]
def al8{p}{k}{a b}(h:a=b):Res.need p (.v (.int k a))=.need p (.v (.int k b)):=by rw[h]
def eqN(x y:Nat):((x:Int)==(y:Int))=(x==y):=by rw[bB];simp only[pU];omega
def neN(x y:Nat):((x:Int) != (y:Int))=(x != y):=by simp only[bne,eqN]
def ltN(x y:Nat):decide ((x:Int)<(y:Int))=decide (x<y):=by simp only[FF]
def leN(x y:Nat):decide ((x:Int)<=(y:Int))=decide (x<=y):=by simp only[FG]
def gtN(x y:Nat):decide ((x:Int)>(y:Int))=decide (x>y):=ltN y x
def geN(x y:Nat):decide ((x:Int)>=(y:Int))=decide (x>=y):=leN y x
def nJ{e B M}(h:e<=B)(hB:Nat.blt B M=true):((e%M:Nat):Int)=((e:Nat):Int):=by
 have:=aJ hB;rw[jM oT]
def Gn{x y B:Nat}(h:y<=B)(hB:Nat.ble B 4294967296=true):IntKind.wrap .u32 ((x:Int)-(y:Int))=(((x+4294967296-y)%4294967296:Nat):Int):=by
 have:=aJ hB;simp only[IntKind.wrap,IntKind.signed,IntKind.bits];simp;omega
def YO{x y B:Nat}(h:y<=B)(hB:Nat.ble B 18446744073709551616=true):IntKind.wrap .u64 ((x:Int)-(y:Int))=(((x+18446744073709551616-y)%18446744073709551616:Nat):Int):=by
 have:=aJ hB;simp only[IntKind.wrap,IntKind.signed,IntKind.bits];simp;omega
def wrap_i64{x}(h1: -9223372036854775808<=x)(h2:x<9223372036854775808):IntKind.wrap .i64 x=x:=by
 simp only[IntKind.wrap,IntKind.signed,IntKind.bits];simp;omega
def bH{e B}(h:e<=B)(hB:Nat.blt B 9223372036854775808=true):IntKind.wrap .i64 ((e:Nat):Int)=((e:Nat):Int):=by
 have:=aJ hB;exact wrap_i64 oT oT
def Wj{x n:Nat}(c)(h:x<2 ^ n):Int.fdiv (x:Int) (2 ^ (min c n))=((x/2 ^ c:Nat):Int):=by
 have e:((2:Int) ^ (min c n))=((2 ^ (min c n):Nat):Int):=by simp
 rw[e,Int.fdiv_eq_ediv_of_nonneg _ (aG _), <-Int.natCast_ediv];rcases Nat.le_total c n with k|k
 ·rw[kD k]
 rw[Nat.min_eq_right k,Nat.div_eq_of_lt h,Nat.div_eq_of_lt (af3 h (bU dT k))]
def YP{x B}(c:Nat)(h:x<=B)(hB:Nat.ble B 4294967295=true):Int.fdiv (x:Int) (2 ^ (min (Int.toNat (c:Int)) (IntKind.bits .u32)))=((x/2 ^ c:Nat):Int):=by
 have:=aJ hB;rw[Int.toNat_natCast];exact Wj (n:=32) c oT
def Vv{x B}(h:x<=B)(hB:Nat.ble B 4294967295=true):(BitVec.ofInt 32 (x:Int)).toNat=x:=by
 have:=aJ hB;rw[BitVec.toNat_ofInt];omega
def YQ{x:Nat}(h:x<4294967296):IntKind.wrap .u32 (x:Int)=(x:Int):=(nJ (aC _) (iL h))
def Px{x y B D:Nat}(hx:x<=B)(hy:y<=D)(hB:Nat.ble B 4294967295=true)(hD:Nat.ble D 4294967295=true):x^^^y<=4294967295:=
 aI (iM (n:=32) (bG (aL hx (aJ hB))) (bG (aL hy (aJ hD))))
def YR{x y B D}(hx:x<=B)(hy:y<=D)(hB:Nat.ble B 4294967295=true)(hD:Nat.ble D 4294967295=true):
  IntKind.wrap .u32 (BitVec.ofInt (IntKind.bits .u32) (x:Int)^^^BitVec.ofInt (IntKind.bits .u32) (y:Int)).toNat=((x^^^y:Nat):Int):=by
 show IntKind.wrap .u32 (BitVec.ofInt 32 (x:Int)^^^BitVec.ofInt 32 (y:Int)).toNat=_;rw[BitVec.toNat_xor,Vv hx hB,Vv hy hD];exact YQ (bG (Px hx hy hB hD))
def qY{C:Ctx}{fn:Func}{r:AV}{st:ASt}{rs:List AV}(h1:resA C st fn.results.toList=some rs)(h2:jU st.h (Dp rs))(h3:eP (vR st.h (Dp rs))=true)(h4:vR st.h (Dp rs)=r):ST C fn r st:=
 ⟨rs,h1,h2,h3,h4 ▸ Sub.refl _⟩
theorem bI.of_flat{C}{f}{fn}{args}{vs}{r}{v}(hf:C.P.funcs[f]?=some fn)(hb:fn.body.isSome=true)(hnm:(fn.name== "runtime.NumGoroutine")=false)
  (ha:Ju args=some vs) (hr:SZ r=some v) (hc:∀w,Calls C.P f vs.toArray w λe w'=>e=.returned v∧Below w.heap.size w w'):bI C f args r:=
 ⟨⟨fn,hf,hb,hnm⟩,λS w us hS hG hu=>by
  rw[Lj ha hu];exact(hc w).mono λe w' ⟨he,hB⟩=>⟨v,he,hB,Hj hr⟩⟩
theorem bI.flat{C}{f}{args}{vs}{r}{v}(h:bI C f args r)(hG:∀S w,GOk C S w)(ha:Ju args=some vs)(hr:SZ r=some v)(w):
  Calls C.P f vs.toArray w λe w'=>e=.returned v∧Below w.heap.size w w':=
 (h.2 (λ_=>False) w vs (λ_ h=>h.elim) (hG _ _) (BL ha)).mono λe w' ⟨u,he,hB,hu⟩=>⟨by rw[he,Pw hr hu],hB⟩
abbrev vU(n:Nat):AV:=.v (.int .u32 (n:Int))
abbrev zU:AV:=.v (.int .u32 0)
abbrev vN(n:Nat):AV:=.v (.int .i64 (n:Int))
abbrev vI(n:Int):AV:=.v (.int .i64 n)
abbrev vB(b:Bool):AV:=.v (.bool b)
section
variable {C:Ctx}{R:FuncId->List AV->AV->Prop}{all rest:List Oper}{o:Oper}{j n:Nat}{t:Nat->AV}{h h':AH}{K:ASt->Prop}{Q:AEx->ASt->Prop}{fn:Func}{st:ASt}
def rE(n':Nat)(k:K ⟨t,h,n'⟩)(e:n+j=n':=by exact rfl):jS C R all [] j ⟨t,h,n⟩ K:=ad6 e k
def rF(d:Nat)(x:AV)(h':AH)(k:jS C R all rest (j+1) ⟨upd t d x,h',n⟩ K)(hg:o.guard=none:=by exact rfl)(hd:o.dst=some d:=by exact rfl)(hx:opA C (evA C t) h (n+j) o.op=.fx True x h':=by exact rfl):jS C R all (o::rest) j ⟨t,h,n⟩ K:=rFx hg hd hx trivial k
def rS(h':AH)(k:jS C R all rest (j+1) ⟨t,h',n⟩ K)(hg:o.guard=none:=by exact rfl)(hd:o.dst=none:=by exact rfl)(hx:opA C (evA C t) h (n+j) o.op=.fx True .any h':=by exact rfl):jS C R all (o::rest) j ⟨t,h,n⟩ K:=Ow hg hd hx trivial k
def cEq{α:Type}[BEq α][LawfulBEq α](x y:α){c:Operand}{a b:Code}(k1:x=y->eA C R a ⟨t,h,n⟩ Q)(k2: ¬x=y->eA C R b ⟨t,h,n⟩ Q)(hv:evA C t c=.v (.bool (x==y)):=by exact rfl):eA C R (.cond c a b) ⟨t,h,n⟩ Q:=
 aV hv (λe=>k1 (sU e)) (λe=>k2 (sU e))
def cPr(p:Prop){v:Bool}(hp:v=true↔p){c:Operand}{a b:Code}(k1:p->eA C R a ⟨t,h,n⟩ Q)(k2: ¬p->eA C R b ⟨t,h,n⟩ Q)(hv:evA C t c=.v (.bool v):=by exact rfl):eA C R (.cond c a b) ⟨t,h,n⟩ Q:=
 aV hv (λe=>k1 (hp.1 e)) (λe=>k2 (λq=>by rw[hp.2 q]at e;cases e))
def cT{v:Bool}(hv':v=true){c:Operand}{a b:Code}(k1:eA C R a ⟨t,h,n⟩ Q)(hv:evA C t c=.v (.bool v):=by exact rfl):eA C R (.cond c a b) ⟨t,h,n⟩ Q:=
 aV hv (λ_=>k1) (λe=>by rw[hv']at e;cases e)
def fI{k:IntKind}{x y:Int}(h1:resA C st fn.results.toList=some [.v (.int k x)])(e:x=y):ST C fn (.v (.int k y)) st:=qY h1 trivial rfl (by rw[e];rfl)
def fN{k:IntKind}{x y:Nat}(h1:resA C st fn.results.toList=some [.v (.int k (x:Int))])(e:x=y):ST C fn (.v (.int k (y:Int))) st:=fI h1 (af2 Int.ofNat e)
def fB{x y:Bool}(h1:resA C st fn.results.toList=some [.v (.bool x)])(e:x=y):ST C fn (.v (.bool y)) st:=qY h1 trivial rfl (by rw[e];rfl)
def fS{x y:ByteArray}(h1:resA C st fn.results.toList=some [.v (.string x)])(e:x=y):ST C fn (.v (.string y)) st:=qY h1 trivial rfl (by rw[e];rfl)
end
def c2(c x y):cE c x y=(c&&x|| !c&&y):=by cases c<;>simp[cE]
def wP(x y){p q}(hx:x=true↔p)(hy:y=true↔q):cE x true y=true↔(p∨q):=by rw[<-hx, <-hy];cases x<;>simp[cE]
def uA(x y){p q}(hx:x=true↔p)(hy:y=true↔q):cE x y false=true↔(p∧q):=by rw[<-hx, <-hy];cases x<;>simp[cE]
def pEq{α}[BEq α][LawfulBEq α]{x y:α}:(x==y)=true↔x=y:=by simp
def pNe{α}[BEq α][LawfulBEq α]{x y:α}:(x != y)=true↔ ¬x=y:=by simp
def qW{p}[Decidable p]:decide p=true↔p:=by simp
def abW{b}{p}(h:b=true↔p):(!b)=true↔ ¬p:=by rw[<-h];cases b<;>simp
open Go.RowKit Go.ChangeShapes Go.WideShapes Go.ChangeAt Go.Deep
inductive TyV(P:Program):TypeId->List AV->Prop
 |bool {t:TypeId} (h:P.underlying t=some .bool) (b:Bool):TyV P t [.v (.bool b)]
 |int {t:TypeId} {k:IntKind} (h:P.underlying t=some (.int k)) (n:Int) (hn:(Lit.int k n).wf=true):TyV P t [.v (.int k n)]
 |string {t:TypeId} (h:P.underlying t=some .string) (s:ByteArray) (hs:s.size<=maxLen):TyV P t [.v (.string s)]
 |slice {t e:TypeId} (h:P.underlying t=some (.slice e)) (rows:List (List AV)) (hl:rows.length<=maxLen) (hr:∀row∈rows,TyV P e row) (hrs:∀row∈rows,row.length=P.cellsOf e):TyV P t [.sl (P.cellsOf e) rows false]
 |struct {t:TypeId} {fs:Array Field} (h:P.underlying t=some (.struct fs)) (parts:Nat->List AV) (hp:∀(j:Nat) f,fs[j]?=some f->TyV P f.type (parts j)):TyV P t ((List.range fs.size).flatMap parts)
 |array {t e:TypeId} {n:Nat} (h:P.underlying t=some (.array n e)) (parts:Nat->List AV) (hp:∀j,j<n->TyV P e (parts j)):TyV P t ((List.range n).flatMap parts)
def JU(P:Program):Nat->List Field->Option Nat
 |o,[]=>some o
 |o,f::fs=>match Nat.beq f.offset o with|true=>JU P (o+P.cellsOf f.type) fs|false=>none
def GD(P:Program):Nat->TypeId->Bool
 |0,_=>false
 |d+1,t=>match P.underlying t with
  |some .bool|some (.int _)|some .string=>true
  |some (.slice e)=>Nat.blt 0 (P.cellsOf e)&&GD P d e
  |some (.struct fs)=>(match JU P 0 fs.toList with|some n=>Nat.beq n (P.cellsOf t)|none=>false)&&fs.toList.all (λf=>GD P d f.type)
  |some (.array n e)=>Nat.beq (n*P.cellsOf e) (P.cellsOf t)&&GD P d e
  |_=>false
section
variable {H:Type}{enc:TypeId×Value->H}{P:Program}{w:World}{base:Nat}{spare:Nat->Bool}{held:Bool}
structure Opened(P:Program)(w:World)(t:TypeId)(cs:List AV)(vals:List Value):Prop where
 rep:RepL (· <w.heap.size) w noB cs vals
 one:∀u∈vals,u.oneCell'=true
 ty:TyV P t cs
theorem EK{S:Nat->Prop}{β:Bt}:∀(n:Nat) (A:Nat->List AV) (V:Nat->List Value),(∀i,i<n->RepL S w β (A i) (V i))->RepL S w β ((List.range n).flatMap A) ((List.range n).flatMap V)
 |0,_,_,_=>by simpa using RepL.nil S w β
 | n+1,A,V,h=>by
  rw[gZ,oS,oS];have ih:=EK n A V λi hi=>h i oT;have h1:=h n oT;simp only[gW,List.flatMap_nil,dY];refine⟨by simp[ih.1,h1.1],λi a u ha hu=>?_⟩;rcases al_Nat_lt_or_ge i ((List.range n).flatMap A).length with k|k
  ·rw[cF k]at ha;rw[cF (by rw[<-ih.1];exact k)]at hu;exact ih.2 i a u ha hu
  ·rw[bM k]at ha;rw[bM (by rw[<-ih.1];exact k), <-ih.1]at hu;exact h1.2 _ a u ha hu
theorem JV:∀(fs:List Field) (o n:Nat) (vals:List Value),JU P o fs=some n->o<=vals.length->n<=vals.length->o<=n∧
  (List.range fs.length).flatMap (λj=>match(fs[j]? :Option Field)with|some f=>(vals.drop (Field.offset f)).take (P.cellsOf (Field.type f))|none=>[])=(vals.drop o).take (n-o)
 |[],o,n,vals,h,_,_=>by
  simp only[JU,af6]at h;subst h;simp
 | f ::fs,o,n,vals,h,ho,hn=>by
  simp only[JU]at h;split at h
  ·rename_i hb;have hb:=aO hb;have hle:o+P.cellsOf f.type<=n:=by
    have:∀(fs:List Field) (o n:Nat),JU P o fs=some n->o<=n:=by
     intro fs
     induction fs with
     |nil=>intro o n h;simp only[JU,af6]at h;omega
     |cons f fs ih=>
      intro o n h;simp only[JU]at h;split at h
      ·have:=ih _ _ h;omega
      ·cases h
    exact this fs _ _ h
   obtain⟨h1,h2⟩:=JV fs (o+P.cellsOf f.type) n vals h oT hn;refine⟨oT,?_⟩;rw[bN,List.range_succ_eq_map,gW,List.flatMap_map];simp only[cP,Function.comp_def,dL];rw[h2,hb];have:n-o=P.cellsOf f.type+(n-(o+P.cellsOf f.type)):=oT;rw[this,List.take_add,lH]
  ·cases h
theorem JW(vals:List Value)(sz:Nat):∀n,n*sz<=vals.length->(List.range n).flatMap (λi=>(vals.drop (i*sz)).take sz)=vals.take (n*sz)
 |0,_=>by simp
 |n+1,h=>by
  rw[cG,lD]at h;rw[gZ,oS,JW vals sz n oT,cG,lD,List.take_add];simp
theorem vT:∀(D fuel:Nat) (t:TypeId) (vals:List Value) (x:DataW H×List MemPlace),DataW.trod enc P w base spare held fuel t vals=some x->GD P D t=true->∃cs,Opened P w t cs vals
 |0,_,_,_,_,_,h=>by simp[GD]at h
 | D + 1,fuel,t,vals,x,h,hp=>by
  have single:∀(a:AV) (u:Value),Rep (· <w.heap.size) w noB a u->u.oneCell'=true->TyV P t [a]->Opened P w t [a] [u]:=λa u h1 h2 h3=>⟨.cons h1 (.nil _ _ _),λv hv=>by simp at hv;subst hv;exact h2,h3⟩;unfold GD at hp
  cases hu:P.underlying t with
  |none=>rw[hu]at hp;cases hp
  | some d=>
   rw[hu]at hp;cases d<;>simp only[cS]at hp<;>try (cases hp;done)
   case bool=>
    obtain⟨b,rfl,_⟩:=DataW.trod_bool hu h;exact⟨_,single _ _ (.v _) rfl (.bool hu b)⟩
   case int k=>
    obtain⟨n,rfl,_,hw⟩:=DataW.trod_int hu h;exact⟨_,single _ _ (.v _) rfl (.int hu n hw)⟩
   case string=>
    obtain⟨s,rfl,_,hs⟩:=DataW.trod_string hu h;exact⟨_,single _ _ (.v _) rfl (.string hu s hs)⟩
   case slice e=>
    simp only[aP]at hp;obtain⟨hc0,hp⟩:=hp;have hc0:0<P.cellsOf e:=aJ hc0;rcases DataW.trod_slice hu h with ⟨rfl,_⟩|⟨a,len,cap,elems,rest,n,rfl,rfl,_,hb,hl,hm,he,hel,_⟩
    ·exact⟨_,single (.sl (P.cellsOf e) [] false) _ (.sl _ [] false none 0 0 0 (λ_ _=>.bool false) (by simp) (by simp) (λh=>by cases h) (λ_ h=>by simp at h) (λh=>by simp at h) (λi row j a h=>by simp at h) (λ_ _=>rfl) (λi row j a h=>by simp at h)) rfl (.slice hu [] (by simp) (λ_ h=>by simp at h) (λ_ h=>by simp at h))⟩
    ·have row:∀i,∃cs us,i<len->Opened P w e cs us∧us.length=P.cellsOf e∧∀(j:Nat),j<P.cellsOf e->w.cell? ((a.add (i*P.cellsOf e)).add j)=us[j]? :=by
      intro i;by_cases hi:i<len
      ·have h1:=hel i hi;have h2:elems[i]?=some (elems[i]' oT):=aA oT;rw[h2,Option.bind_eq_some_iff]at h1;obtain⟨us,g1,g2⟩:=h1;obtain⟨cs,hcs⟩:=vT D n e us _ g2 hp;unfold World.cells? at g1;split at g1
       ·have l1:us.length=P.cellsOf e:=sU (mapM_some_length g1);exact⟨cs,us,λ_=>⟨hcs,l1,λj hj=>mapM_some_get g1 j j (by simp[hj])⟩⟩
       ·cases g1
      ·exact⟨[],[],λh=>absurd h hi⟩
     obtain⟨A,hA⟩:=Classical.axiomOfChoice row;obtain⟨V,hV⟩:=Classical.axiomOfChoice hA;have lenA:∀i,i<len->(A i).length=P.cellsOf e:=λi hi=>(hV i hi).1.rep.1.trans (hV i hi).2.1;have spot:∀i,i<len->0<P.cellsOf e->a.spot=none∨i*P.cellsOf e≠0:=by
      intro i hi h0;by_cases hz:i*P.cellsOf e=0
      ·left;have h1:=(hV i hi).2.2 0 h0;have h2:(V i)[0]?=some ((V i)[0]'(by rw[(hV i hi).2.1];exact h0)):=aA _;rw[h2]at h1;simp only[Addr.add,hz,fD,World.cell?]at h1;split at h1
       ·cases hs:a.spot<;>simp[hs]at h1⊢
       ·cases h1
      ·exact .inr hz
     have hspot:0<len->0<P.cellsOf e->a.spot=none:=λh1 h2=>(spot 0 h1 h2).elim id λh=>absurd (Nat.zero_mul _) h;have cell:∀i,i<len->∀(j:Nat),j<P.cellsOf e->w.cell? ⟨a.block,a.off+i*P.cellsOf e+j,none⟩=(V i)[j]? :=by
      intro i hi j hj;rw[<-(hV i hi).2.2 j hj];have hsp:=hspot oT oT;congr 1;obtain⟨b,o,sp⟩:=a;simp only at hsp;subst hsp;unfold Addr.add;by_cases h1:i*P.cellsOf e=0<;>by_cases h2:j=0<;>simp[h1,h2]
     have hmem:∀row∈(List.range len).map A,∃i,i<len∧A i=row:=λrow hr=>by simpa using hr
     have at':∀(i:Nat) row,((List.range len).map A)[i]?=some row->i<len∧row=A i:=λi row h=>by
      rw[aX]at h;rcases al_Nat_lt_or_ge i len with hi|hi
      ·rw[eZ hi]at h;exact⟨hi,sU h.symm⟩
      ·rw[bE (sU hi)]at h;cases h
     have hval:∀i,i<len->∀(j:Nat) x,(A i)[j]?=some x->∃u,(V i)[j]?=some u∧(if i<len∧j<P.cellsOf e then(V i).getD j (.bool false)else .bool false)=u∧j<P.cellsOf e:=by
      intro i hi j x hx;have hj:j<P.cellsOf e:=by rw[<-lenA i hi];exact(Em.1 hx).1
      have hj':j<(V i).length:=by rw[(hV i hi).2.1];exact hj
      exact⟨(V i)[j],aA hj',by simp[hi,hj,hj'],hj⟩
     refine⟨_,single (.sl (P.cellsOf e) ((List.range len).map A) false) _ ?_ rfl (.slice hu _ (by simp;omega) (λrow hr=>?_) (λrow hr=>?_))⟩
     ·have:=Rep.sl (S:=(· <w.heap.size)) (w:=w) (β:=noB) (P.cellsOf e) ((List.range len).map A) false (if 0<len then some ⟨a.block,a.off,none⟩else some a) cap a.block a.off
       (λi j=>if i<len∧j<P.cellsOf e then(V i).getD j (.bool false)else .bool false) (sU hl) hm (λh=>by cases h)
       (λrow hr=>by obtain⟨i,hi,rfl⟩:=hmem row hr;exact lenA i hi) ?_ ?_ ?_ ?_
      ·simp only[aH,fV]at this;by_cases h0:0<len
       ·rw[af1 h0]at this;have hsp:=hspot h0 hc0;obtain⟨b,o,sp⟩:=a;simp only at hsp;subst hsp;exact this
       ·rw[dZ h0]at this;exact this
      ·intro h0;simp only[aH,fV]at h0;rw[af1 h0];refine⟨rfl,?_⟩;have h1:=cell 0 h0 0 hc0;have h2:(V 0)[0]?=some ((V 0)[0]'(by rw[(hV 0 h0).2.1];exact hc0)):=aA _;rw[h2]at h1;simp only[World.cell?]at h1;split at h1
       ·rename_i hb;exact fJ hb
       ·cases h1
      ·intro i row j x h1 h2;obtain⟨hi,rfl⟩:=at' i row h1;obtain⟨u,g1,g2,g3⟩:=hval i hi j x h2;rw[cell i hi j g3,g2,g1]
      ·intro i j;split
       ·rename_i hc;have hj':j<(V i).length:=by rw[(hV i hc.1).2.1];exact hc.2
        rw[aR,aA hj'];exact(hV i hc.1).1.one _ (jO hj')
       ·rfl
      ·intro i row j x h1 h2;obtain⟨hi,rfl⟩:=at' i row h1;obtain⟨u,g1,g2,g3⟩:=hval i hi j x h2;rw[g2];exact(hV i hi).1.rep.2 j x u h2 g1
     ·obtain⟨i,hi,rfl⟩:=hmem row hr;exact(hV i hi).1.ty
     ·obtain⟨i,hi,rfl⟩:=hmem row hr;exact lenA i hi
   case struct fs=>
    simp only[aP]at hp;obtain⟨hp1,hp2⟩:=hp;split at hp1
    ·rename_i n hn;have hn':=aO hp1;obtain⟨xs,m,rfl,_,hlen,hxl,hfd⟩:=DataW.trod_struct hu h;have part:∀j:Nat,∃cs,∀f:Field,fs[j]?=some f->Opened P w f.type cs ((vals.drop f.offset).take (P.cellsOf f.type)):=by
      intro j
      cases hf:fs[j]? with
      |none=>exact⟨[],λf hf=>by cases hf⟩
      |some f=>
       have h1:=hfd j f hf;have hj:j<fs.size:=(DP.1 hf).1;rw[aA oT]at h1;obtain⟨cs,hcs⟩:=vT D m f.type _ _ h1 (rC.1 hp2 f (Jt.2 (nI hf)));exact⟨cs,λf' hf'=>by injection hf' with hf';subst hf';exact hcs⟩
     obtain⟨A,hA⟩:=Classical.axiomOfChoice part;obtain⟨_,hr⟩:=JV fs.toList 0 n vals hn (aE _) oT;have hall:(List.range fs.size).flatMap (λj=>match(fs[j]? :Option Field)with|some f=>(vals.drop (Field.offset f)).take (P.cellsOf (Field.type f))|none=>[])=vals:=by
      have:(List.range fs.toList.length).flatMap (λj=>match(fs.toList[j]? :Option Field)with|some f=>(vals.drop f.offset).take (P.cellsOf f.type)|none=>[])=vals:=by
       rw[hr];simp[hn', <-hlen]
      simpa using this
     have hrep:=EK (S:=(· <w.heap.size)) (w:=w) (β:=noB) fs.size A (λj=>match(fs[j]? :Option Field)with|some f=>(vals.drop (Field.offset f)).take (P.cellsOf (Field.type f))|none=>[]) (λj hj=>by
      have hf:fs[j]?=some fs[j]:=aT hj;simp only[hf];exact(hA j _ hf).rep)
     rw[hall]at hrep;refine⟨_,hrep,λu hu'=>?_,.struct hu A λj f hf=>(hA j f hf).ty⟩;rw[<-hall]at hu';obtain⟨j,hj,hju⟩:=Mu.1 hu';have hj':j<fs.size:=sU hj;have hf:fs[j]?=some fs[j]:=aT hj';simp only[hf]at hju;exact(hA j _ hf).one u hju
    ·cases hp1
   case array n e=>
    simp only[aP]at hp;obtain⟨hp1,hp2⟩:=hp;have hn:=aO hp1;obtain⟨xs,m,rfl,_,hlen,hxl,hfd⟩:=DataW.trod_array hu h;have part:∀i,∃cs,i<n->Opened P w e cs ((vals.drop (i*P.cellsOf e)).take (P.cellsOf e)):=by
     intro i;by_cases hi:i<n
     ·have h1:=hfd i hi;rw[aA oT]at h1;obtain⟨cs,hcs⟩:=vT D m e _ _ h1 hp2;exact⟨cs,λ_=>hcs⟩
     ·exact⟨[],λh=>absurd h hi⟩
    obtain⟨A,hA⟩:=Classical.axiomOfChoice part;have hall:=JW vals (P.cellsOf e) n oT;rw[hn, <-hlen,cH]at hall;have hrep:=EK (S:=(· <w.heap.size)) (w:=w) (β:=noB) n A _ (λj hj=>(hA j hj).rep);rw[hall]at hrep;refine⟨_,hrep,λu hu'=>?_,.array hu A λj hj=>(hA j hj).ty⟩;rw[<-hall]at hu';obtain⟨j,hj,hju⟩:=Mu.1 hu';exact(hA j (sU hj)).one u hju
end
def fA:AV->Option AV
 | .v x=>some (.v x)
 | .agg cs=>some (.agg cs)
 | .tup cs=>some (.tup cs)
 | .sl a b c=>some (.sl a b c)
 | .dp a b c=>some (.dp a b c)
 | .ptr a b=>some (.ptr a b)
 | .ptr2 a b c=>some (.ptr2 a b c)
 | .osl a b c d=>some (.osl a b c d)
 | .clo f a b=>some (.clo f a b)
 | .opt g x=>some (.opt g x)
 | .any=>some .any
def Qn{x y}(h:fA x=some y):x=y:=by cases x<;>cases h<;>rfl
def Zk:List AV->Nat->Option AV
 |[],_=>none
 |x::_,0=>fA x
 |_::xs,n+1=>Zk xs n
def LD{l}{i}{y}(h:Zk l i=some y):Lg l i=some y:=by
 induction l generalizing i with
 |nil=>cases h
 |cons x l ih=>cases i with
  |zero=>exact af2 some (Qn h)
  |succ i=>exact ih h
def TN:Nat->List AV->(List AV->Option AV)->Option AV
 |0,_,k=>k []
 |_+1,[],k=>k []
 |n+1,x::xs,k=>TN n xs (λl=>k (x::l))
def Ig(n)(l)(k):TN n l k=k (HD n l):=by
 induction n generalizing l k with
 |zero=>rfl
 |succ n ih=>cases l with
  |nil=>rfl
  |cons x l=>exact ih l _
def TO(C:Ctx)(t:TypeId)(rs col:Nat)(row:List AV):Option AV:=
 match C.ty t with
 |some ⟨_,sz,true,_,_,_⟩=>
  match col,Nat.beq sz rs with
  |0,true=>some (.agg row)
  |_,_=>TN sz (FK col row) λl=>match Nat.beq l.length sz with|true=>some (.agg l)|false=>none
 |some ⟨_,_,false,_,_,_⟩=>Zk row col
 |none=>none
def MK{C}{t}{rs col}{row}{y}(h:TO C t rs col row=some y):HI C t rs col row=some y:=by
 unfold TO at h;unfold HI
 cases ht:C.ty t with
 |none=>rw[ht]at h;cases h
 | some ti=>
  obtain⟨kd,sz,ag,z,b,eq⟩:=ti;rw[ht]at h
  cases ag with
  |false=>exact LD h
  |true=>
   cases col with
   |zero=>cases hb:Nat.beq sz rs<;>(simp only[hb,Ig]at h⊢;exact h)
   |succ c=>simp only[Ig]at h⊢;exact h
def WL(C:Ctx)(t:TypeId)(cs:List AV)(off:Nat):Option AV:=
 match C.ty t with
 |some ⟨_,sz,true,_,_,_⟩=>TN sz (FK off cs) λl=>some (.agg l)
 |some ⟨_,_,false,_,_,_⟩=>Zk cs off
 |none=>none
def TP{C}{t}{cs}{off}{y}(h:WL C t cs off=some y):Ot C t cs off=some y:=by
 unfold WL at h;unfold Ot
 cases ht:C.ty t with
 |none=>rw[ht]at h;cases h
 |some ti=>
  obtain⟨kd,sz,ag,z,b,eq⟩:=ti;rw[ht]at h
  cases ag with
  |false=>exact LD h
  |true=>simp only[Ig]at h⊢;exact h
def Qo(C:Ctx)(h:AH)(t:TypeId)(a:AV):Option AV:=
 match a with
 | .ptr b c=>match h b with|some (.box cells)=>TO C t cells.length c cells|_=>none
 | .dp rs c row=>TO C t rs c row
 |_=>none
def VC(C:Ctx)(t:TypeId)(f:Nat)(a:AV):Option AV:=
 match C.ty t with
 |some ⟨.struct fs,_,_,_,_,_⟩=>match PU fs f,a with|some (off,ft),.agg cs=>WL C ft cs off|_,_=>none
 |_=>none
def okF(r:Res):Option AV:=match r with| .ok x=>fA x|_=>none
def sA(C:Ctx)(ev:Operand->AV)(h:AH)(op:Op):Option AV:=
 match op with
 | .move x| .assign x=>fA (ev x)
 | .load t a=>Qo C h t (ev a)
 | .nilCheck x=>okF (TD (ev x))
 | .fieldAddr t x f=>okF (oJ C t f (ev x))
 | .field t x f=>VC C t f (ev x)
 | .extract x i=>match ev x with| .tup vs=>Zk vs i|_=>none
 | .unOp .not _ x=>match ev x with| .v (.bool b)=>some (.v (.bool (!b)))|_=>none
 |_=>none
def VD{r}{x}(h:okF r=some x):r=.ok x:=by
 unfold okF at h;split at h
 ·exact af2 Res.ok (Qn h)
 cases h
def TQ{C}{ev}{h}{s}{op}{x}(e:sA C ev h op=some x):opA C ev h s op=.ok x:=by
 unfold sA at e;split at e
 ·exact af2 Res.ok (Qn e)
 ·exact af2 Res.ok (Qn e)
 ·rename_i t a;show tG C h t _=.ok x;unfold Qo at e;unfold tG;generalize ev a=z at e⊢
  cases z with
  |ptr b c=>
   simp only at e⊢;split at e
   ·rename_i h1;simp only[h1];rw[MK e];rfl
   ·cases e
  |dp rs c row=>simp only at e⊢;rw[MK e];rfl
  |_=>cases e
 ·exact VD e
 ·exact VD e
 ·rename_i t y f;show Ab C t f _=.ok x;unfold VC at e;unfold Ab;split at e
  ·rename_i h1;simp only[h1];split at e
   ·rename_i h2 h3;simp only[h2,h3];rw[TP e];rfl
   ·cases e
  ·cases e
 ·rename_i y i;show rY i _=.ok x;unfold rY;split at e
  ·rename_i h1;simp only[h1];rw[LD e];rfl
  ·cases e
 ·rename_i t y;show unA .not _=.ok x;split at e
  ·rename_i h1;cases e;simp only[unA,h1]
  ·cases e
 ·cases e
def sO(C:Ctx)(t:Nat->AV)(h:AH)(o:Oper):Option (Nat×AV):=
 match o.guard,o.dst with
 |none,some d=>(match sA C (evA C t) h o.op with|some x=>some (d,x)|none=>none)
 |_,_=>none
def Zl{C}{t}{h}{o}{d}{x}(e:sO C t h o=some (d,x)):o.guard=none∧o.dst=some d∧sA C (evA C t) h o.op=some x:=by
 unfold sO at e;split at e
 ·rename_i h1 h2;split at e
  ·rename_i h3;cases e;exact⟨h1,h2,h3⟩
  cases e
 cases e
def ab2(C:Ctx)(h:AH):Nat->List Oper->(Nat->AV)->Option (List Oper×(Nat->AV))
 |0,ops,t=>some (ops,t)
 |_+1,[],_=>none
 |m+1,o::ops,t=>match sO C t h o with|some (d,x)=>ab2 C h m ops (upd t d x)|none=>none
def ML:AV->Bool->Option Bool
 | .v (.bool b),true=>some b
 | .v (.bool b),false=>some (!b)
 | .opt a (.v (.bool b)),true=>some (a&&b)
 | .opt a (.v (.bool b)),false=>some (a&& !b)
 |_,_=>none
def Ce{x}{pol g}(e:ML x pol=some g):Ad x pol=some g:=by
 unfold ML at e;split at e<;>first|(cases e;rfl)|cases e
def sG(C:Ctx)(t:Nat->AV)(h:AH)(all:List Oper)(o:Oper):Option (Nat×Bool×Option Bool×AV):=
 match o.guard,o.dst with
 | some (i,pol),some d=>
  (match(all[i]?).bind (·.dst)with
  |some e=>(match ML (t e) pol,condsO t o.op with
   |some g,none=>(match sA C (evA C t) h o.op with|some x=>some (d,g,none,x)|none=>none)
   |some g,some c=>(match sA C (evS C t o.op) h o.op with|some x=>some (d,g,some c,x)|none=>none)
   |none,_=>none)
  |none=>none)
 |_,_=>none
def sGd(t:Nat->AV)(all:List Oper)(o:Oper):Option (Nat×Bool×Option Bool):=
 match o.guard,o.dst with
 | some (i,pol),some d=>
  (match(all[i]?).bind (·.dst)with
  |some e=>(match ML (t e) pol,condsO t o.op with
   |some g,none=>some (d,g,none)
   |some g,some c=>some (d,g,some c)
   |none,_=>none)
  |none=>none)
 |_,_=>none
def abQ:Nat->List AV->List AV->(List AV->Option AH)->Option AH
 |0,[],xs,k=>k xs
 |0,c::cs,_::xs,k=>abQ 0 cs xs λl=>k (c::l)
 |0,_::_,[],k=>k []
 |n+1,cs,x::xs,k=>abQ n cs xs λl=>k (x::l)
 |_+1,_,[],k=>k []
theorem LE:∀(n:Nat) (cs xs:List AV) (k:List AV->Option AH),abQ n cs xs k=k (zS n cs xs)
 |0,[],[],k=>rfl
 |0,[],_::_,k=>rfl
 |0,c::cs,_::xs,k=>LE 0 cs xs _
 |0,_::_,[],k=>rfl
 |n+1,cs,x::xs,k=>LE n cs xs _
 |_+1,_,[],k=>rfl
theorem MM:∀(cs xs:List AV),Nat.beq cs.length xs.length=true->zS 0 cs xs=cs
 |[],[],_=>rfl
 |[],_::_,h=>by cases h
 |c::cs,[],h=>by cases h
 |c::cs,x::xs,h=>af2 (c:: ·) (MM cs xs h)
def ab3(C:Ctx)(h:AH)(ty:TypeId)(a x:AV):Option AH:=
 match C.ty ty,kN x,a with
 | some ti,some cs,.ptr b c=>
  (match Nat.beq cs.length ti.sz,h b with
  | true,some (.box cells)=>(match Nat.ble (c+cs.length) cells.length with
   |true=>(match c,Nat.beq cs.length cells.length with
    |0,true=>some (upd h b (some (.box cs)))
    |c,_=>abQ c cs cells λl=>some (upd h b (some (.box l))))
   |false=>none)
  |_,_=>none)
 |_,_,_=>none
def sSt(C:Ctx)(t:Nat->AV)(h:AH)(o:Oper):Option AH:=
 match o.guard,o.dst,o.op with
 |none,none,.store ty a x=>ab3 C h ty (evA C t a) (evA C t x)
 |_,_,_=>none
def sAl(C:Ctx)(t:Nat->AV)(o:Oper):Option (Nat×List AV):=
 match o.guard,o.dst,o.op with
 |none,some d,.alloc ty=>(match AL C ty with|some cs=>some (d,cs)|none=>none)
 |none,some d,.box _ x=>(match kN (evA C t x)with|some cs=>some (d,cs)|none=>none)
 |_,_,_=>none
def fL:List AV->(List AV->Option (Nat×FuncId×List AV))->Option (Nat×FuncId×List AV)
 |[],k=>k []
 |x::xs,k=>(match fA x with|some y=>fL xs λl=>k (y::l)|none=>none)
theorem Zm:∀{l:List AV} {k:List AV->Option (Nat×FuncId×List AV)} {r:Nat×FuncId×List AV},fL l k=some r->k l=some r
 |[],k,r,h=>h
 | x::xs,k,r,h=>by
  simp only[fL]at h;split at h
  ·rename_i y hy;rw[Qn hy];exact Zm (k:=λl=>k (y::l)) h
  ·cases h
def sC(C:Ctx)(t:Nat->AV)(o:Oper):Option (Nat×FuncId×List AV):=
 match o.guard,o.dst,o.op with
 | none,some d,.call c=>(match c.callee with
  | .value f=>(match evA C t f with
   | .clo f first caps=>fL (first++c.args.toList.map (evA C t)++caps) λl=>some (d,f,l)
   |_=>none)
  |_=>none)
 |_,_,_=>none
def ab4{C}{t}{h}{s}{o}{d}{f}{args}(e:sC C t o=some (d,f,args)):o.guard=none∧o.dst=some d∧opA C (evA C t) h s o.op=.call f args:=by
 unfold sC at e;split at e
 ·rename_i d' c h1 h2 h3;split at e
  ·rename_i g hc;split at e
   ·rename_i f' first caps hf
    have:=Zm e;cases this
    refine⟨h1,h2,?_⟩;rw[h3];show(match c.callee with| .builtin b=>_| .value f=>_|_=>_)=_;rw[hc];simp only[hf]
   cases e
  cases e
 cases e
def sV(C:Ctx)(t:Nat->AV)(h:AH)(s:Nat)(o:Oper):Option (Nat×AV):=match o.guard,o.dst,opA C (evA C t) h s o.op with|none,some d,.ok x=>some (d,x)|_,_,_=>none
def sD(o:Oper):Option Nat:=match o.guard with|none=>o.dst|_=>none
def OB{o}{d}(h:sD o=some d):o.guard=none∧o.dst=some d:=by
 unfold sD at h;split at h
 ·rename_i e;exact⟨e,h⟩
 cases h
def ixT{a b:Nat}(h:a<b:=by first|omega|rfl|(simp only[aH,bN,cX,aU,cC,aM,bD,cM,fV,jH];done)|(simp only[aH,bN,cX,aU,cC,aM,bD,cM,fV,jH];omega)|(simp[jH];done)|(simp[jH];omega)):0<=(a:Int)∧(a:Int)<(b:Int):=⟨aG _,FF.2 h⟩
def omT{p:Prop}(h:p:=by first|omega|rfl|(simp only[aH,bN,cX,aU,cC,aM,bD,cM,fV,jH];done)|(simp only[aH,bN,cX,aU,cC,aM,bD,cM,fV,jH];omega)|(simp[jH];done)|(simp[jH];omega)):p:=h
def r4{q:Prop}(h:q):True∧True∧True∧True∧q:=⟨trivial,trivial,trivial,trivial,h⟩
def tvT{p:Prop}(h:p:=by repeat (first|exact trivial|refine⟨trivial,?_⟩)):p:=h
def rbT{p:Prop}(h:p:=by repeat (first|exact trivial|refine⟨⟨rfl,_,rfl,.refl _⟩,?_⟩)):p:=h
def rcT{p:Prop}(h:p:=by repeat' (first|exact trivial|constructor)):p:=h
def hsT{p q:Prop}(h:p->q:=by intro h;first|(simp_all;done)|exact(Bool.and_eq_true_iff.1 h).1|exact Bool.and_eq_true_iff.2 ⟨h,h⟩):p->q:=h
def slT{p:Prop}(h:p:=by refine⟨?_,?_,?_⟩;all_goals (first|exact aG _|decide|(apply FG.2;exact omT)|(show((_:Nat):Int)=((_:Nat):Int);congr 1;omega)|rfl)):p:=h
def wT{p:Prop}(h:p:=by repeat (first|exact trivial|refine⟨⟨rfl,rfl⟩,?_⟩)):p:=h
def wH{p:Prop}(h:p:=by repeat (first|exact trivial|refine⟨⟨rfl,rfl,rfl⟩,?_⟩)):p:=h
section
variable {C:Ctx}{R:FuncId->List AV->AV->Prop}{all rest ops:List Oper}{o:Oper}{j n:Nat}{t t':Nat->AV}{h h':AH}{K:ASt->Prop}{Q:AEx->ASt->Prop}{fn:Func}{st:ASt}{x:AV}{d:Nat}
def oR(m)(hx:ab2 C h m ops t=some (rest,t'))(k:jS C R all rest (j+m) ⟨t',h,n⟩ K):jS C R all ops j ⟨t,h,n⟩ K:=by
 induction m generalizing ops t j with
 |zero=>cases hx;exact k
 | succ m ih=>
  cases ops with
  |nil=>cases hx
  | cons o ops=>
   simp only[ab2]at hx;split at hx
   ·rename_i d x e;obtain⟨h1,h2,h3⟩:=Zl e;exact rOk h1 h2 (TQ h3) (ih hx (by rw[dW,gJ 1];exact k))
   ·cases hx
def gN{g}(hx:sG C t h all o=some (d,g,none,x))(k:jS C R all rest (j+1) ⟨upd t d (.opt g x),h,n⟩ K):jS C R all (o::rest) j ⟨t,h,n⟩ K:=by
 unfold sG at hx;split at hx
 ·rename_i i pol d' h1 h2;split at hx
  ·rename_i e h3;split at hx
   ·rename_i g' h4 h5;split at hx
    ·rename_i x' h6;cases hx;exact gOk h1 h3 (Ce h4) h5 h2 (TQ h6) k
    cases hx
   ·split at hx<;>cases hx
   cases hx
  cases hx
 cases hx
def gS{g c}(hx:sG C t h all o=some (d,g,some c,x))(hs:g=true->c=true)(k:jS C R all rest (j+1) ⟨upd t d (.opt g x),h,n⟩ K):jS C R all (o::rest) j ⟨t,h,n⟩ K:=by
 unfold sG at hx;split at hx
 ·rename_i i pol d' h1 h2;split at hx
  ·rename_i e h3;split at hx
   ·split at hx<;>cases hx
   ·rename_i g' c' h4 h5;split at hx
    ·rename_i x' h6;cases hx;exact adJ h1 h3 (Ce h4) h5 hs h2 (TQ h6) k
    cases hx
   cases hx
  cases hx
 cases hx
def VE{g}{c}(hx:sGd t all o=some (d,g,c)):∃i pol e,o.guard=some (i,pol)∧(all[i]?).bind (·.dst)=some e∧Ad (t e) pol=some g∧condsO t o.op=c∧o.dst=some d:=by
 unfold sGd at hx;split at hx
 ·rename_i i pol d' h1 h2;split at hx
  ·rename_i e h3;split at hx
   ·rename_i g' h4 h5;cases hx;exact⟨i,pol,e,h1,h3,Ce h4,h5,h2⟩
   ·rename_i g' c' h4 h5;cases hx;exact⟨i,pol,e,h1,h3,Ce h4,h5,h2⟩
   cases hx
  cases hx
 cases hx
def gB{g}(hg:sGd t all o=some (d,g,none))(hx:opA C (evA C t) h (n+j) o.op=.ok x)(k:jS C R all rest (j+1) ⟨upd t d (.opt g x),h,n⟩ K):jS C R all (o::rest) j ⟨t,h,n⟩ K:=by
 obtain⟨i,pol,e,h1,h2,h3,h4,h5⟩:=VE hg;exact gOk h1 h2 h3 h4 h5 hx k
def gBS{g c}(hg:sGd t all o=some (d,g,some c))(hs:g=true->c=true)(hx:opA C (evS C t o.op) h (n+j) o.op=.ok x)(k:jS C R all rest (j+1) ⟨upd t d (.opt g x),h,n⟩ K):jS C R all (o::rest) j ⟨t,h,n⟩ K:=by
 obtain⟨i,pol,e,h1,h2,h3,h4,h5⟩:=VE hg;exact adJ h1 h2 h3 h4 hs h5 hx k
def rAl(s){cs}(hs:n+j=s)(hx:sAl C t o=some (d,cs))(k:jS C R all rest (j+1) ⟨upd t d (.ptr s 0),upd h s (some (.box cs)),n⟩ K):jS C R all (o::rest) j ⟨t,h,n⟩ K:=by
 subst hs;unfold sAl at hx;split at hx
 rotate_left 2
 ·cases hx
 all_goals
  first|rename_i d' ty h1 h2 h3|rename_i d' ty y h1 h2 h3
  split at hx
  ·rename_i cs' h4;cases hx
   exact rFx h1 h2 (by rw[h3];simp only[opA,h4]) trivial k
  cases hx
def WM{ty}{a y}{h'}(e:ab3 C h ty a y=some h'):(match C.ty ty,kN y with
  | some ti,some cs=>(match Nat.beq cs.length ti.sz with
   |true=>(match a with
    | .ptr b c=>(match h b with|some (.box cells)=>(match Nat.ble (c+cs.length) cells.length with|true=>Res.fx True .any (upd h b (some (.box (zS c cs cells))))|false=>.bad)|_=>.bad)
    |_=>.bad)
   |false=>.bad)
  |_,_=>.bad)=.fx True .any h':=by
 unfold ab3 at e;split at e
 ·rename_i ti cs b c h1 h2;split at e
  ·rename_i cells h3 h4;split at e
   ·rename_i h5;simp only[h1,h2,h3,h4,h5];split at e
    ·rename_i h6;cases e;rw[MM _ _ h6]
    ·rw[LE]at e;cases e;rfl
   ·cases e
  ·cases e
 ·cases e
def rSt(hx:sSt C t h o=some h')(k:jS C R all rest (j+1) ⟨t,h',n⟩ K):jS C R all (o::rest) j ⟨t,h,n⟩ K:=by
 unfold sSt at hx;split at hx
 ·rename_i ty a y h1 h2 h3;have e:=WM hx;refine Ow (x:=.any) h1 h2 ?_ trivial k;rw[h3];simp only[opA];split at e
  ·rename_i ti cs q1 q2;simp only[q1,q2];split at e
   ·rename_i q3;simp only[q3];split at e
    ·rename_i b c q4;simp only[q4];exact e
    cases e
   cases e
  cases e
 cases hx
def rSx(s:Nat)(cs:List AV)(hg:o.guard=none)(hd:o.dst=none)(hx:opA C (evA C t) h (n+j) o.op=.fx True .any (upd h s (some (.box cs))))(k:jS C R all rest (j+1) ⟨t,upd h s (some (.box cs)),n⟩ K):jS C R all (o::rest) j ⟨t,h,n⟩ K:=Ow hg hd hx trivial k
def rCl{f}{args}(hx:sC C t o=some (d,f,args))(hf:oU args=true∨(CQ x=true∧jV h args))(hc:R f (rO h args) x)(k:jS C R all rest (j+1) ⟨upd t d x,h,n⟩ K)(hcl:eW (rO h args)=true:=by exact rfl)(hr:eP x=true:=by exact rfl):jS C R all (o::rest) j ⟨t,h,n⟩ K:=by
 obtain⟨h1,h2,h3⟩:=ab4 hx;exact abZ h1 h2 h3 hcl hf hr hc k
def rV(x)(hx:sV C t h (n+j) o=some (d,x))(k:jS C R all rest (j+1) ⟨upd t d x,h,n⟩ K):jS C R all (o::rest) j ⟨t,h,n⟩ K:=by
 unfold sV at hx;split at hx
 ·rename_i h1 h2 h3;cases hx;exact rOk h1 h2 h3 k
 cases hx
def rW(x:AV)(hd:sD o=some d)(hx:opA C (evA C t) h (n+j) o.op=.ok x)(k:jS C R all rest (j+1) ⟨upd t d x,h,n⟩ K):jS C R all (o::rest) j ⟨t,h,n⟩ K:=rOk (OB hd).1 (OB hd).2 hx k
def nW{p:Prop}(x:AV)(hd:sD o=some d)(hx:opA C (evA C t) h (n+j) o.op=.need p x)(hp:p)(k:jS C R all rest (j+1) ⟨upd t d x,h,n⟩ K):jS C R all (o::rest) j ⟨t,h,n⟩ K:=bO (OB hd).1 (OB hd).2 hx hp k
def rCi{f:FuncId}{args:List AV}(hx:sC C t o=some (d,f,args))(hc:R f (rO h args) x)(k:jS C R all rest (j+1) ⟨upd t d x,h,n⟩ K)(hcl:eW (rO h args)=true:=by exact rfl)(hr:eP x=true:=by exact rfl)(hf:oU args=true:=by exact rfl):jS C R all (o::rest) j ⟨t,h,n⟩ K:=rCl hx (.inl hf) hc k hcl hr
def rIx{rows:List (List AV)}{i:Int}{f:List AV->Option AV}(row:List AV)(x:AV)(hd:sD o=some d)(hx:opA C (evA C t) h (n+j) o.op=.idx rows i f)(hi:rows[i.toNat]?=some row)(hf:f row=some x)(k:jS C R all rest (j+1) ⟨upd t d x,h,n⟩ K)(h0:0<=i:=by exact aG _):jS C R all (o::rest) j ⟨t,h,n⟩ K:=FO row (OB hd).1 (OB hd).2 hx ⟨h0,hi⟩ hf k
end
def cSR{C:Ctx}{R:FuncId->List AV->AV->Prop}{Q:AEx->ASt->Prop}{st:ASt}{id:Nat}{ops:Array Oper}{dr:Bool}{b:Code}(k:jS (C.noHif dr) R ops.toList ops.toList 0 st (λst'=>eA C R b st' Q))(hd:(dr&&FN ops.toList)=false:=by kernel_rfl):eA C R (.seq (.region id ops dr) b) st Q:=uR (Wz rfl k hd)
def cRg{C:Ctx}{R:FuncId->List AV->AV->Prop}{Q:AEx->ASt->Prop}{st:ASt}{id:Nat}{ops:Array Oper}{dr:Bool}(k:jS (C.noHif dr) R ops.toList ops.toList 0 st (Q .normal))(hd:(dr&&FN ops.toList)=false:=by kernel_rfl):eA C R (.region id ops dr) st Q:=Wz rfl k hd
inductive Fr where
 |code (c:Code)
 |blk (id:Nat)
def mZ(C:Ctx)(R:FuncId->List AV->AV->Prop):List Fr->(AEx->ASt->Prop)->AEx->ASt->Prop
 |[],F=>F
 | .code b::s,F=>λe st=>match e with| .normal=>eA C R b st (mZ C R s F)|e=>mZ C R s F e st
 | .blk id::s,F=>λe st=>match e with| .exit i=>(match Nat.beq i id with|true=>mZ C R s F .normal st|false=>mZ C R s F (.exit i) st)|e=>mZ C R s F e st
inductive Cu where
 |ops (all ops:List Oper) (j:Nat)
 |code (c:Code)
 |ex (e:AEx)
inductive Out where
 |reg (all ops:List Oper) (j:Nat) (t:Nat->AV) (h:AH) (n:Nat) (s:List Fr)
 |cod (c:Code) (t:Nat->AV) (h:AH) (n:Nat) (s:List Fr)
 |fin (e:AEx) (t:Nat->AV) (h:AH) (n:Nat)
 |bad
def goA(C:Ctx)(sb:Bool):Nat->Nat->Nat->Cu->(Nat->AV)->AH->Nat->List Fr->Out
 |0,_,_,_,_,_,_,_=>.bad
 |f+1,m,z,.ops _ [] j,t,h,n,s=>goA C sb f m z (.ex .normal) t h (n+j) s
 | f +1,m,z,.ops all (o::ops) j,t,h,n,s=>
  match sO C t h o with
  |some (d,x)=>goA C sb f m z (.ops all ops (j+1)) (upd t d x) h n s
  | none=>
   match(match sb with|true=>sSt C t h o|false=>none)with
   |some h'=>goA C sb f m z (.ops all ops (j+1)) t h' n s
   | none=>
    match sAl C t o with
    |some (d,cs)=>goA C sb f m z (.ops all ops (j+1)) (upd t d (.ptr (n+j) 0)) (upd h (n+j) (some (.box cs))) n s
    |none=>
     match sG C t h all o with
     |some (d,g,none,x)=>goA C sb f m z (.ops all ops (j+1)) (upd t d (.opt g x)) h n s
     |_=>.reg all (o::ops) j t h n s
 |f+1,m,z,.code .skip,t,h,n,s=>goA C sb f m z (.ex .normal) t h n s
 |f+1,m,z,.code (.exit i),t,h,n,s=>goA C sb f m z (.ex (.exit i)) t h n s
 |f+1,m,z,.code .ret,t,h,n,s=>goA C sb f m z (.ex .ret) t h n s
 |f+1,m,z,.code (.seq a b),t,h,n,s=>match z with|0=>.cod (.seq a b) t h n s|z+1=>goA C sb f m z (.code a) t h n (.code b::s)
 |f+1,m,z,.code (.block id b),t,h,n,s=>goA C sb f m z (.code b) t h n (.blk id::s)
 |f+1,m,z,.code (.region id ops dr),t,h,n,s=>match dr with|false=>goA C sb f m z (.ops ops.toList ops.toList 0) t h n s|true=>.cod (.region id ops true) t h n s
 |f+1,m,z,.code (.cond c x y),t,h,n,s=>
  match m with
  |0=>.cod (.cond c x y) t h n s
  |m+1=>match evA C t c with| .v (.bool true)=>goA C sb f m z (.code x) t h n s| .v (.bool false)=>goA C sb f m z (.code y) t h n s|_=>.bad
 |_+1,_,_,.code c,t,h,n,s=>.cod c t h n s
 |f+1,m,z,.ex .normal,t,h,n,.code b::s=>goA C sb f m z (.code b) t h n s
 |f+1,m,z,.ex e,t,h,n,.code _::s=>goA C sb f m z (.ex e) t h n s
 |f+1,m,z,.ex (.exit i),t,h,n,.blk id::s=>match Nat.beq i id with|true=>goA C sb f m z (.ex .normal) t h n s|false=>goA C sb f m z (.ex (.exit i)) t h n s
 |f+1,m,z,.ex e,t,h,n,.blk _::s=>goA C sb f m z (.ex e) t h n s
 |_+1,_,_,.ex e,t,h,n,[]=>.fin e t h n
section
variable {C:Ctx}{R:FuncId->List AV->AV->Prop}{F:AEx->ASt->Prop}
def cuP(C:Ctx)(R:FuncId->List AV->AV->Prop)(F:AEx->ASt->Prop)(c:Cu)(t:Nat->AV)(h:AH)(n:Nat)(s:List Fr):Prop:=
 match c with
 | .ops all ops j=>jS C R all ops j ⟨t,h,n⟩ (mZ C R s F .normal)
 | .code c=>eA C R c ⟨t,h,n⟩ (mZ C R s F)
 | .ex e=>mZ C R s F e ⟨t,h,n⟩
abbrev aeA(C:Ctx)(R:FuncId->List AV->AV->Prop)(F:AEx->ASt->Prop):Out->Prop
 | .reg all ops j t h n s=>jS C R all ops j ⟨t,h,n⟩ (mZ C R s F .normal)
 | .cod c t h n s=>eA C R c ⟨t,h,n⟩ (mZ C R s F)
 | .fin e t h n=>F e ⟨t,h,n⟩
 | .bad=>False
def LC(C:Ctx):C.noHif false=C:=by unfold Ctx.noHif;rfl
theorem jI(sb:Bool):∀(f m z:Nat) (c:Cu) (t:Nat->AV) (h:AH) (n:Nat) (s:List Fr),aeA C R F (goA C sb f m z c t h n s)->cuP C R F c t h n s
 |0,_,_,_,_,_,_,_,k=>k.elim
 |f+1,m,z,.ops all [] j,t,h,n,s,k=>jI sb f m z (.ex .normal) t h (n+j) s k
 | f +1,m,z,.ops all (o::ops) j,t,h,n,s,k=>by
  unfold goA at k;split at k
  ·rename_i d x e;obtain⟨h1,h2,h3⟩:=Zl e;exact rOk h1 h2 (TQ h3) (jI sb f m z _ _ _ _ _ k)
  ·split at k
   ·rename_i h' e;have e:sSt C t h o=some h':=by cases sb with|true=>exact e|false=>cases e
    exact rSt e (jI sb f m z _ _ _ _ _ k)
   ·split at k
    ·rename_i d cs e;exact rAl _ rfl e (jI sb f m z _ _ _ _ _ k)
    ·split at k
     ·rename_i d g x e;exact gN e (jI sb f m z _ _ _ _ _ k)
     ·exact k
 |f+1,m,z,.code .skip,t,h,n,s,k=>jI sb f m z (.ex .normal) t h n s k
 |f+1,m,z,.code (.exit i),t,h,n,s,k=>jI sb f m z (.ex (.exit i)) t h n s k
 |f+1,m,z,.code .ret,t,h,n,s,k=>jI sb f m z (.ex .ret) t h n s k
 |f+1,m,0,.code (.seq a b),t,h,n,s,k=>k
 |f+1,m,z+1,.code (.seq a b),t,h,n,s,k=>uR (jI sb f m z (.code a) t h n (.code b::s) k)
 |f+1,m,z,.code (.block id b),t,h,n,s,k=>kO (jI sb f m z (.code b) t h n (.blk id::s) k)
 |f+1,m,z,.code (.region id ops dr),t,h,n,s,k=>by
  cases dr with
  |true=>exact k
  |false=>exact Wz (id:=id) (dr:=false) rfl (by rw[LC];exact jI sb f m z (.ops ops.toList ops.toList 0) t h n s k) rfl
 |f+1,0,z,.code (.cond c x y),t,h,n,s,k=>k
 |f+1,m+1,z,.code (.cond c x y),t,h,n,s,k=>by
  simp only[goA]at k;split at k
  ·rename_i e;exact aV e (λ_=>jI sb f m z (.code x) t h n s k) (λh=>by cases h)
  ·rename_i e;exact aV e (λh=>by cases h) (λ_=>jI sb f m z (.code y) t h n s k)
  ·exact k.elim
 |f+1,m,z,.code (.loop b),t,h,n,s,k=>k
 |f+1,m,z,.code (.label _),t,h,n,s,k=>k
 |f+1,m,z,.code (.rangeFunc _ _ _ _),t,h,n,s,k=>k
 |f+1,m,z,.code (.scope _),t,h,n,s,k=>k
 |f+1,m,z,.code (.goto _),t,h,n,s,k=>k
 |f+1,m,z,.code (.refuse _),t,h,n,s,k=>k
 |f+1,m,z,.ex .normal,t,h,n,.code b::s,k=>jI sb f m z (.code b) t h n s k
 |f+1,m,z,.ex (.exit i),t,h,n,.code b::s,k=>jI sb f m z (.ex (.exit i)) t h n s k
 |f+1,m,z,.ex .ret,t,h,n,.code b::s,k=>jI sb f m z (.ex .ret) t h n s k
 |f+1,m,z,.ex (.exit i),t,h,n,.blk id::s,k=>by
  unfold goA at k;show(match Nat.beq i id with|true=>mZ C R s F .normal ⟨t,h,n⟩|false=>mZ C R s F (.exit i) ⟨t,h,n⟩);split at k
  ·exact jI sb f m z (.ex .normal) t h n s k
  ·exact jI sb f m z (.ex (.exit i)) t h n s k
 |f+1,m,z,.ex .normal,t,h,n,.blk id::s,k=>jI sb f m z (.ex .normal) t h n s k
 |f+1,m,z,.ex .ret,t,h,n,.blk id::s,k=>jI sb f m z (.ex .ret) t h n s k
 |f+1,m,z,.ex e,t,h,n,[],k=>by cases e<;>exact k
variable {all ops all' ops':List Oper}{j j' n n':Nat}{t t':Nat->AV}{h h':AH}{s s':List Fr}{c c':Code}{e:AEx}
def qS(m:Nat)(hx:goA C true 9999 m 9999 (.code c) t h n []=.reg all' ops' j' t' h' n' s')(k:jS C R all' ops' j' ⟨t',h',n'⟩ (mZ C R s' F .normal)):eA C R c ⟨t,h,n⟩ F:=jI true 9999 m 9999 (.code c) t h n [] (by rw[hx];exact k)
def qSC(m:Nat)(hx:goA C true 9999 m 9999 (.code c) t h n []=.cod c' t' h' n' s')(k:eA C R c' ⟨t',h',n'⟩ (mZ C R s' F)):eA C R c ⟨t,h,n⟩ F:=jI true 9999 m 9999 (.code c) t h n [] (by rw[hx];exact k)
def qR(m:Nat)(hx:goA C true 9999 m 9999 (.ops all ops j) t h n s=.reg all' ops' j' t' h' n' s')(k:jS C R all' ops' j' ⟨t',h',n'⟩ (mZ C R s' F .normal)):jS C R all ops j ⟨t,h,n⟩ (mZ C R s F .normal):=jI true 9999 m 9999 (.ops all ops j) t h n s (by rw[hx];exact k)
def qRC(m:Nat)(hx:goA C true 9999 m 9999 (.ops all ops j) t h n s=.cod c' t' h' n' s')(k:eA C R c' ⟨t',h',n'⟩ (mZ C R s' F)):jS C R all ops j ⟨t,h,n⟩ (mZ C R s F .normal):=jI true 9999 m 9999 (.ops all ops j) t h n s (by rw[hx];exact k)
def qRF(m:Nat)(hx:goA C true 9999 m 9999 (.ops all ops j) t h n s=.fin e t' h' n')(k:F e ⟨t',h',n'⟩):jS C R all ops j ⟨t,h,n⟩ (mZ C R s F .normal):=jI true 9999 m 9999 (.ops all ops j) t h n s (by rw[hx];exact k)
def qC(m:Nat)(hx:goA C true 9999 m 9999 (.code c) t h n s=.reg all' ops' j' t' h' n' s')(k:jS C R all' ops' j' ⟨t',h',n'⟩ (mZ C R s' F .normal)):eA C R c ⟨t,h,n⟩ (mZ C R s F):=jI true 9999 m 9999 (.code c) t h n s (by rw[hx];exact k)
def qCC(m:Nat)(hx:goA C true 9999 m 9999 (.code c) t h n s=.cod c' t' h' n' s')(k:eA C R c' ⟨t',h',n'⟩ (mZ C R s' F)):eA C R c ⟨t,h,n⟩ (mZ C R s F):=jI true 9999 m 9999 (.code c) t h n s (by rw[hx];exact k)
def qCF(m:Nat)(hx:goA C true 9999 m 9999 (.code c) t h n s=.fin e t' h' n')(k:F e ⟨t',h',n'⟩):eA C R c ⟨t,h,n⟩ (mZ C R s F):=jI true 9999 m 9999 (.code c) t h n s (by rw[hx];exact k)
def qX(m:Nat)(hx:goA C true 9999 m 9999 (.ex e) t h n s=.reg all' ops' j' t' h' n' s')(k:jS C R all' ops' j' ⟨t',h',n'⟩ (mZ C R s' F .normal)):mZ C R s F e ⟨t,h,n⟩:=jI true 9999 m 9999 (.ex e) t h n s (by rw[hx];exact k)
def qXC(m:Nat)(hx:goA C true 9999 m 9999 (.ex e) t h n s=.cod c' t' h' n' s')(k:eA C R c' ⟨t',h',n'⟩ (mZ C R s' F)):mZ C R s F e ⟨t,h,n⟩:=jI true 9999 m 9999 (.ex e) t h n s (by rw[hx];exact k)
def qXF{e':AEx}(m:Nat)(hx:goA C true 9999 m 9999 (.ex e) t h n s=.fin e' t' h' n')(k:F e' ⟨t',h',n'⟩):mZ C R s F e ⟨t,h,n⟩:=jI true 9999 m 9999 (.ex e) t h n s (by rw[hx];exact k)
def qRJ(m z:Nat)(hx:goA C true 9999 m z (.ops all ops j) t h n s=.cod c' t' h' n' s')(k:eA C R c' ⟨t',h',n'⟩ (mZ C R s' F)):jS C R all ops j ⟨t,h,n⟩ (mZ C R s F .normal):=jI true 9999 m z (.ops all ops j) t h n s (by rw[hx];exact k)
def qCJ(m z:Nat)(hx:goA C true 9999 m z (.code c) t h n s=.cod c' t' h' n' s')(k:eA C R c' ⟨t',h',n'⟩ (mZ C R s' F)):eA C R c ⟨t,h,n⟩ (mZ C R s F):=jI true 9999 m z (.code c) t h n s (by rw[hx];exact k)
def qXJ(m z:Nat)(hx:goA C true 9999 m z (.ex e) t h n s=.cod c' t' h' n' s')(k:eA C R c' ⟨t',h',n'⟩ (mZ C R s' F)):mZ C R s F e ⟨t,h,n⟩:=jI true 9999 m z (.ex e) t h n s (by rw[hx];exact k)
def qRN(m:Nat)(hx:goA C false 9999 m 9999 (.ops all ops j) t h n s=.reg all' ops' j' t' h' n' s')(k:jS C R all' ops' j' ⟨t',h',n'⟩ (mZ C R s' F .normal)):jS C R all ops j ⟨t,h,n⟩ (mZ C R s F .normal):=jI false 9999 m 9999 (.ops all ops j) t h n s (by rw[hx];exact k)
def qCN(m:Nat)(hx:goA C false 9999 m 9999 (.code c) t h n s=.reg all' ops' j' t' h' n' s')(k:jS C R all' ops' j' ⟨t',h',n'⟩ (mZ C R s' F .normal)):eA C R c ⟨t,h,n⟩ (mZ C R s F):=jI false 9999 m 9999 (.code c) t h n s (by rw[hx];exact k)
def qXN(m:Nat)(hx:goA C false 9999 m 9999 (.ex e) t h n s=.reg all' ops' j' t' h' n' s')(k:jS C R all' ops' j' ⟨t',h',n'⟩ (mZ C R s' F .normal)):mZ C R s F e ⟨t,h,n⟩:=jI false 9999 m 9999 (.ex e) t h n s (by rw[hx];exact k)
end
section
variable {C:Ctx}{R:FuncId->List AV->AV->Prop}{F:AEx->ASt->Prop}{all rest:List Oper}{o:Oper}{j n:Nat}{t:Nat->AV}{h h':AH}{s:List Fr}{x:AV}{d:Nat}{a b:Code}{e:Operand}
abbrev goQ(C:Ctx)(R:FuncId->List AV->AV->Prop)(F:AEx->ASt->Prop)(c:Cu)(t:Nat->AV)(h:AH)(n:Nat)(s:List Fr):Prop:=aeA C R F (goA C true 9999 0 9999 c t h n s)
def zK{c:Cu}(k:goQ C R F c t h n s):cuP C R F c t h n s:=jI _ _ _ _ _ _ _ _ _ k
def dO(o:Oper):Nat:=match o.dst with|some d=>d|none=>0
def gD(o:Oper):Bool:=match o.guard,o.dst with|none,some _=>true|_,_=>false
def afX(e:gD o=true):o.guard=none∧o.dst=some (dO o):=by
 unfold gD at e;split at e
 ·rename_i h1 h2;exact⟨h1,by unfold dO;rw[h2]⟩
 cases e
abbrev pC(C:Ctx)(R:FuncId->List AV->AV->Prop)(t:Nat->AV)(h:AH)(o:Oper)(x:AV):Prop:=match sC C t o with|some (_,f,args)=>R f (rO h args) x|none=>False
def bC(C:Ctx)(t:Nat->AV)(h:AH)(o:Oper):Bool:=match sC C t o with|some (_,_,args)=>(match oU args with|true=>eW (rO h args)|false=>false)|none=>false
def zW(x:AV)(hx:opA C (evA C t) h (n+j) o.op=.ok x)(k:goQ C R F (.ops all rest (j+1)) (upd t (dO o) x) h n s)(hd:gD o=true:=by exact rfl):jS C R all (o::rest) j ⟨t,h,n⟩ (mZ C R s F .normal):=rOk (afX hd).1 (afX hd).2 hx (zK k)
def zV(x:AV)(k:goQ C R F (.ops all rest (j+1)) (upd t (dO o) x) h n s)(hx:opA C (evA C t) h (n+j) o.op=.ok x:=by exact rfl)(hd:gD o=true:=by exact rfl):jS C R all (o::rest) j ⟨t,h,n⟩ (mZ C R s F .normal):=rOk (afX hd).1 (afX hd).2 hx (zK k)
def zN{p:Prop}(hx:opA C (evA C t) h (n+j) o.op=.need p x)(hp:p)(k:goQ C R F (.ops all rest (j+1)) (upd t (dO o) x) h n s)(hd:gD o=true:=by exact rfl):jS C R all (o::rest) j ⟨t,h,n⟩ (mZ C R s F .normal):=bO (afX hd).1 (afX hd).2 hx hp (zK k)
def zM{p:Prop}(x:AV)(hx:opA C (evA C t) h (n+j) o.op=.need p x)(hp:p)(k:goQ C R F (.ops all rest (j+1)) (upd t (dO o) x) h n s)(hd:gD o=true:=by exact rfl):jS C R all (o::rest) j ⟨t,h,n⟩ (mZ C R s F .normal):=zN hx hp k hd
def afZ{f}{args}(hx:sC C t o=some (d,f,args)):d=dO o:=by
 have:=(ab4 (h:=λ_=>none) (s:=0) hx).2.1;unfold dO;rw[this]
def zC(hc:pC C R t h o x)(k:goQ C R F (.ops all rest (j+1)) (upd t (dO o) x) h n s)(hr:eP x=true:=by exact rfl)(hb:bC C t h o=true:=by exact rfl):jS C R all (o::rest) j ⟨t,h,n⟩ (mZ C R s F .normal):=by
 unfold bC at hb;simp only[pC]at hc;split at hb
 ·rename_i d f args e;rw[e]at hc;rw[<-afZ e]at k;split at hb
  ·rename_i h2;exact rCl e (.inl h2) hc (zK k) hb hr
  cases hb
 cases hb
def zL{f:FuncId}{args:List AV}(hx:sC C t o=some (d,f,args))(hf:oU args=true∨(CQ x=true∧jV h args))(hc:R f (rO h args) x)(k:goQ C R F (.ops all rest (j+1)) (upd t d x) h n s)(hcl:eW (rO h args)=true:=by exact rfl)(hr:eP x=true:=by exact rfl):jS C R all (o::rest) j ⟨t,h,n⟩ (mZ C R s F .normal):=rCl hx hf hc (zK k) hcl hr
def zX{rows:List (List AV)}{i:Int}{f:List AV->Option AV}(row:List AV)(x:AV)(hx:opA C (evA C t) h (n+j) o.op=.idx rows i f)(hi:rows[i.toNat]?=some row)(k:goQ C R F (.ops all rest (j+1)) (upd t (dO o) x) h n s)(hf:f row=some x:=by exact rfl)(hd:gD o=true:=by exact rfl)(h0:0<=i:=by exact aG _):jS C R all (o::rest) j ⟨t,h,n⟩ (mZ C R s F .normal):=FO row (afX hd).1 (afX hd).2 hx ⟨h0,hi⟩ hf (zK k)
def zF{p:Prop}(hx:opA C (evA C t) h (n+j) o.op=.fx p x h')(hp:p)(k:goQ C R F (.ops all rest (j+1)) (upd t (dO o) x) h' n s)(hd:gD o=true:=by exact rfl):jS C R all (o::rest) j ⟨t,h,n⟩ (mZ C R s F .normal):=rFx (afX hd).1 (afX hd).2 hx hp (zK k)
def zG{g c:Bool}(hx:sG C t h all o=some (d,g,some c,x))(hs:g=true->c=true)(k:goQ C R F (.ops all rest (j+1)) (upd t d (.opt g x)) h n s):jS C R all (o::rest) j ⟨t,h,n⟩ (mZ C R s F .normal):=gS hx hs (zK k)
def zAS{g c:Bool}(hg:sGd t all o=some (d,g,some c))(hs:g=true->c=true)(hx:opA C (evS C t o.op) h (n+j) o.op=.ok x)(k:goQ C R F (.ops all rest (j+1)) (upd t d (.opt g x)) h n s):jS C R all (o::rest) j ⟨t,h,n⟩ (mZ C R s F .normal):=gBS hg hs hx (zK k)
def zQ{f}{args}{g c}(hg:sGd t all o=some (d,g,some c))(hs:g=true->c=true)(hx:opA C (evS C t o.op) h (n+j) o.op=.call f args)(hf:oU args=true∨(CQ x=true∧jV h args))(hp:g=true->R f (rO h args) x)(k:goQ C R F (.ops all rest (j+1)) (upd t d (.opt g x)) h n s)(hcl:eW (rO h args)=true:=by exact rfl)(hr:eP x=true:=by exact rfl):jS C R all (o::rest) j ⟨t,h,n⟩ (mZ C R s F .normal):=by
 obtain⟨i,pol,e,h1,h2,h3,h4,h5⟩:=VE hg;exact jQ h1 h2 h3 h4 hs h5 hx hcl hf hr hp (zK k)
def zH{f:FuncId}{args:List AV}{Post:AV->AH->Prop}(hx:opA C (evA C t) h (n+j) o.op=.call f args)(hH:C.H f args h (n+j) Post)(k:∀x h',Post x h'->goQ C R F (.ops all rest (j+1)) (upd t (dO o) x) h' n s)(hd:gD o=true:=by exact rfl):jS C R all (o::rest) j ⟨t,h,n⟩ (mZ C R s F .normal):=fU Post (afX hd).1 (afX hd).2 hx hH (λx h' q=>zK (k x h' q))
def zB{v:Bool}(hv:evA C t e=.v (.bool v))(k1:v=true->goQ C R F (.code a) t h n s)(k2:v=false->goQ C R F (.code b) t h n s):eA C R (.cond e a b) ⟨t,h,n⟩ (mZ C R s F):=aV hv (λq=>zK (k1 q)) (λq=>zK (k2 q))
def zEq{α:Type}[BEq α][LawfulBEq α](x y:α)(k1:x=y->goQ C R F (.code a) t h n s)(k2: ¬x=y->goQ C R F (.code b) t h n s)(hv:evA C t e=.v (.bool (x==y)):=by exact rfl):eA C R (.cond e a b) ⟨t,h,n⟩ (mZ C R s F):=cEq x y (λq=>zK (k1 q)) (λq=>zK (k2 q)) hv
def zPr(p:Prop){v:Bool}(hp:v=true↔p)(k1:p->goQ C R F (.code a) t h n s)(k2: ¬p->goQ C R F (.code b) t h n s)(hv:evA C t e=.v (.bool v):=by exact rfl):eA C R (.cond e a b) ⟨t,h,n⟩ (mZ C R s F):=cPr p hp (λq=>zK (k1 q)) (λq=>zK (k2 q)) hv
def zT{v:Bool}(hv':v=true)(k1:goQ C R F (.code a) t h n s)(hv:evA C t e=.v (.bool v):=by exact rfl):eA C R (.cond e a b) ⟨t,h,n⟩ (mZ C R s F):=cT hv' (zK k1) hv
abbrev brQ(C:Ctx)(R:FuncId->List AV->AV->Prop)(F:AEx->ASt->Prop)(pol:Bool)(u:Out):Prop:=match u with| .cod (.cond _ a b) t h n s=>(match pol with|true=>goQ C R F (.code a) t h n s|false=>goQ C R F (.code b) t h n s)|_=>False
abbrev evQ(C:Ctx)(v:Bool)(u:Out):Prop:=match u with| .cod (.cond e _ _) t _ _ _=>evA C t e=.v (.bool v)|_=>False
def ag3{v}{u}(k1:v=true->brQ C R F true u)(k2:v=false->brQ C R F false u)(hv:evQ C v u):aeA C R F u:=by
 unfold evQ at hv;split at hv
 ·exact zB hv k1 k2
 exact hv.elim
def zWB{v:Bool}(hx:opA C (evA C t) h (n+j) o.op=.ok (.v (.bool v)))(k1:v=true->brQ C R F true (goA C true 9999 0 9999 (.ops all rest (j+1)) (upd t (dO o) (.v (.bool v))) h n s))(k2:v=false->brQ C R F false (goA C true 9999 0 9999 (.ops all rest (j+1)) (upd t (dO o) (.v (.bool v))) h n s))(hv:evQ C v (goA C true 9999 0 9999 (.ops all rest (j+1)) (upd t (dO o) (.v (.bool v))) h n s):=by exact rfl)(hd:gD o=true:=by exact rfl):jS C R all (o::rest) j ⟨t,h,n⟩ (mZ C R s F .normal):=zW _ hx (ag3 k1 k2 hv) hd
def zVB(v:Bool)(k1:v=true->brQ C R F true (goA C true 9999 0 9999 (.ops all rest (j+1)) (upd t (dO o) (.v (.bool v))) h n s))(k2:v=false->brQ C R F false (goA C true 9999 0 9999 (.ops all rest (j+1)) (upd t (dO o) (.v (.bool v))) h n s))(hx:opA C (evA C t) h (n+j) o.op=.ok (.v (.bool v)):=by exact rfl)(hv:evQ C v (goA C true 9999 0 9999 (.ops all rest (j+1)) (upd t (dO o) (.v (.bool v))) h n s):=by exact rfl)(hd:gD o=true:=by exact rfl):jS C R all (o::rest) j ⟨t,h,n⟩ (mZ C R s F .normal):=zW _ hx (ag3 k1 k2 hv) hd
def zE2{α:Type}[BEq α][LawfulBEq α](x y:α)(k1:x=y->brQ C R F true (goA C true 9999 0 9999 (.ops all rest (j+1)) (upd t (dO o) (.v (.bool (x==y)))) h n s))(k2: ¬x=y->brQ C R F false (goA C true 9999 0 9999 (.ops all rest (j+1)) (upd t (dO o) (.v (.bool (x==y)))) h n s))(hx:opA C (evA C t) h (n+j) o.op=.ok (.v (.bool (x==y))):=by exact rfl)(hv:evQ C (x==y) (goA C true 9999 0 9999 (.ops all rest (j+1)) (upd t (dO o) (.v (.bool (x==y)))) h n s):=by exact rfl)(hd:gD o=true:=by exact rfl):jS C R all (o::rest) j ⟨t,h,n⟩ (mZ C R s F .normal):=zVB _ (λe=>k1 (sU e)) (λe=>k2 (sU e)) hx hv hd
def agE(e:(match o.guard,o.dst with|none,none=>true|_,_=>false)=true):o.guard=none∧o.dst=none:=by
 split at e
 ·rename_i h1 h2;exact⟨h1,h2⟩
 cases e
def zY{rows:List (List AV)}{i:Int}{f:List AV->Option AH}(row:List AV)(hx:opA C (evA C t) h (n+j) o.op=.idxfx rows i f)(hi:0<=i∧rows[i.toNat]?=some row)(k:goQ C R F (.ops all rest (j+1)) t h' n s)(hf:f row=some h':=by exact rfl)(hd:(match o.guard,o.dst with|none,none=>true|_,_=>false)=true:=by exact rfl):jS C R all (o::rest) j ⟨t,h,n⟩ (mZ C R s F .normal):=nM row (agE hd).1 (agE hd).2 hx hi hf (zK k)
def zLo{st:ASt}{κ:Type}(S:κ->ASt)(G:κ->Prop)(μ:κ->Nat)(k0:κ)(σ:Nat->Nat)(hw:Weak st (S k0) σ)(h0:G k0)(round:∀k,G k->goQ C R (λe st'=>match e with| .normal=>∃k' σ,Weak st' (S k') σ∧G k'∧μ k'<μ k|e=>goQ C R F (.ex e) st'.t st'.h st'.n s) (.code b) (S k).t (S k).h (S k).n [])(hfr:C.fr=0:=by rfl):eA C R (.loop b) st (mZ C R s F):=
 jR S G μ k0 σ hw h0 (λk hk=>lE b _ _ _ (λe st' q=>by cases e with|normal=>exact q|exit i=>exact zK q|ret=>exact zK q) (zK (round k hk))) hfr
def zLK{st:ASt}{κ:Type}(S:κ->ASt)(G:κ->Prop)(μ:κ->Nat)(k0:κ)(σ:Nat->Nat)(hw:Weak st (S k0) σ)(hf:keepB C.fr σ (S k0).n=true)(h0:G k0)(round:∀k,G k->goQ C R (λe st'=>match e with| .normal=>GhostN st' (λstg=>∃k' σ,Weak stg (S k') σ∧keepB C.fr σ (S k').n=true∧G k'∧μ k'<μ k)|e=>goQ C R F (.ex e) st'.t st'.h st'.n s) (.code b) (S k).t (S k).h (S k).n []):eA C R (.loop b) st (mZ C R s F):=
 sX S G μ k0 σ hw hf h0 (λk hk=>lE b _ _ _ (λe st' q=>by cases e with|normal=>exact q|exit i=>exact zK q|ret=>exact zK q) (zK (round k hk)))
theorem afH{F':AEx->ASt->Prop}(hm:∀e st,F e st->F' e st):∀(s:List Fr) (e:AEx) (st:ASt),mZ C R s F e st->mZ C R s F' e st
 |[],e,st,k=>hm e st k
 | .code b::s,e,st,k=>by
  cases e with
  |normal=>exact lE b _ _ _ (afH hm s) k
  |exit i=>exact afH hm s _ _ k
  |ret=>exact afH hm s _ _ k
 | .blk id::s,e,st,k=>by
  cases e with
  |normal=>exact afH hm s _ _ k
  |ret=>exact afH hm s _ _ k
  |exit i=>
   simp only[mZ]at k⊢;split at k
   ·exact afH hm s _ _ k
   ·exact afH hm s _ _ k
theorem afY{F':AEx->ASt->Prop}(hm:∀e st,F e st->F' e st):∀(u:Out),aeA C R F u->aeA C R F' u
 | .reg _ l j t h n s,k=>Eo (afH hm s .normal) l j _ k
 | .cod c t h n s,k=>lE c _ _ _ (afH hm s) k
 | .fin e t h n,k=>hm e _ k
 | .bad,k=>k.elim
def zR{id:Nat}{ops:Array Oper}{dr:Bool}(k:goQ (C.noHif dr) R (λ_ st=>goQ C R F (.ex .normal) st.t st.h st.n s) (.ops ops.toList ops.toList 0) t h n [])(hd:(dr&&FN ops.toList)=false:=by kernel_rfl):eA C R (.region id ops dr) ⟨t,h,n⟩ (mZ C R s F):=
 Wz rfl (jI (F:=λe st=>mZ C R s F .normal st) true 9999 0 9999 (.ops ops.toList ops.toList 0) t h n [] (afY (λ_ st q=>zK q) _ k)) hd
end
open Go.Proofs.Tryz
set_option maxRecDepth 100000
def qK(inf:TypeInfo){t:TypeId}{i:TI}{d:TypeDesc}(hd:Tryz.prog.underlying t=some d)
  (hk:match i.kd with
  | .bool=>d=.bool
  | .int k=>d=.int k
  | .string=>d=.string
  | .slice e=>d=.slice e
  | .array n e=>d=.array n e
  | .struct fs=>∃fields,d=.struct fields∧fields.toList.map (λf=>(f.offset,f.type))=fs∧(fields.toList.all λf=>match Tryz.prog.info? f.type with|some i=> !(i.size==0)|none=>false)=true
  |_=>True) (he:i.eq≠[]->YU Tryz.prog t i.eq:=by exact λh=>absurd rfl h) (h1:Tryz.prog.info? t=some inf:=by kernel_rfl) (h2:inf.zero=some (inf.zero.getD .nilFunc):=by rfl) (h3:i.zero=Pq (inf.zero.getD .nilFunc):=by rfl) (hc:Wk Tryz.prog inf (inf.zero.getD .nilFunc) i=true:=by kernel_rfl) (hrow:d.isRow=i.ag:=by rfl):TyOk Tryz.prog t i:=
 Tc h1 h2 h3 hc hd hrow hk he
abbrev anW:TI:=⟨.int .u32,1,false,.v (.int .u32 0),4,[]⟩
set_option maxRecDepth 100000
abbrev aeL:TI:=⟨.func,1,false,.v .nilFunc,8,[]⟩
def tys:TT:=.node 61 (.node 33 (.node 24 (.node 5 (.node 3 (.leaf 2 ⟨.int .i64,1,false,.v (.int .i64 0),8,[]⟩) (.node 4 (.leaf 3 ⟨.int .i64,1,false,.v (.int .i64 0),8,[]⟩) (.leaf 4 ⟨.bool,1,false,.v (.bool false),1,[]⟩))) (.node 22 (.node 9 (.leaf 5 ⟨.int .u8,1,false,.v (.int .u8 0),1,[]⟩) (.leaf 9 ⟨.string,1,false,.v (.string ⟨#[]⟩),16,[]⟩)) (.node 23 (.leaf 22 ⟨.slice 3,1,false,.sl 0 [] true,24,[]⟩) (.leaf 23 ⟨.slice 28,1,false,.sl 0 [] true,24,[]⟩)))) (.node 29 (.node 25 (.leaf 24 ⟨.struct [(0,3),(1,3),(2,3),(3,3),(4,3),(5,3),(6,3),(7,3),(8,22),(9,4),(10,23)],11,true,.agg [.v (.int .i64 0),.v (.int .i64 0),.v (.int .i64 0),.v (.int .i64 0),.v (.int .i64 0),.v (.int .i64 0),.v (.int .i64 0),.v (.int .i64 0),.sl 0 [] true,.v (.bool false),.sl 0 [] true],120,[]⟩) (.node 28 (.leaf 25 ⟨.struct [(0,3),(1,3),(2,3),(3,3),(4,3),(5,3),(6,3),(7,3),(8,22),(9,4),(10,23)],11,true,.agg [.v (.int .i64 0),.v (.int .i64 0),.v (.int .i64 0),.v (.int .i64 0),.v (.int .i64 0),.v (.int .i64 0),.v (.int .i64 0),.v (.int .i64 0),.sl 0 [] true,.v (.bool false),.sl 0 [] true],120,[]⟩) (.leaf 28 anW))) (.node 31 (.node 30 (.leaf 29 ⟨.array 32 28,32,true,.agg [zU,zU,zU,zU,zU,zU,zU,zU,zU,zU,zU,zU,zU,zU,zU,zU,zU,zU,zU,zU,zU,zU,zU,zU,zU,zU,zU,zU,zU,zU,zU,zU],128,[.i,.i,.i,.i,.i,.i,.i,.i,.i,.i,.i,.i,.i,.i,.i,.i,.i,.i,.i,.i,.i,.i,.i,.i,.i,.i,.i,.i,.i,.i,.i,.i]⟩) (.leaf 30 ⟨.slice 103,1,false,.sl 0 [] true,24,[]⟩)) (.node 32 (.leaf 31 ⟨.slice 92,1,false,.sl 0 [] true,24,[]⟩) (.leaf 32 ⟨.slice 96,1,false,.sl 0 [] true,24,[]⟩))))) (.node 40 (.node 36 (.node 34 (.leaf 33 ⟨.slice 157,1,false,.sl 0 [] true,24,[]⟩) (.node 35 (.leaf 34 ⟨.struct [(0,3),(1,33)],2,true,.agg [.v (.int .i64 0),.sl 0 [] true],32,[]⟩) (.leaf 35 ⟨.struct [(0,3),(1,33)],2,true,.agg [.v (.int .i64 0),.sl 0 [] true],32,[]⟩))) (.node 38 (.node 37 (.leaf 36 ⟨.slice 107,1,false,.sl 0 [] true,24,[]⟩) (.leaf 37 ⟨.slice 171,1,false,.sl 0 [] true,24,[]⟩)) (.node 39 (.leaf 38 ⟨.struct [(0,37),(1,28),(2,23)],3,true,.agg [.sl 0 [] true,zU,.sl 0 [] true],56,[]⟩) (.leaf 39 ⟨.struct [(0,37),(1,28),(2,23)],3,true,.agg [.sl 0 [] true,zU,.sl 0 [] true],56,[]⟩)))) (.node 46 (.node 42 (.node 41 (.leaf 40 ⟨.slice 49,1,false,.sl 0 [] true,24,[]⟩) (.leaf 41 ⟨.struct [(0,25),(11,23),(12,3),(13,29),(45,28),(46,4),(47,30),(48,31),(49,3),(50,32),(51,35),(53,35),(55,36),(56,3),(57,3),(58,9),(59,39),(62,3),(63,40)],64,true,.agg [.v (.int .i64 0),.v (.int .i64 0),.v (.int .i64 0),.v (.int .i64 0),.v (.int .i64 0),.v (.int .i64 0),.v (.int .i64 0),.v (.int .i64 0),.sl 0 [] true,.v (.bool false),.sl 0 [] true,.sl 0 [] true,.v (.int .i64 0),zU,zU,zU,zU,zU,zU,zU,zU,zU,zU,zU,zU,zU,zU,zU,zU,zU,zU,zU,zU,zU,zU,zU,zU,zU,zU,zU,zU,zU,zU,zU,zU,zU,.v (.bool false),.sl 0 [] true,.sl 0 [] true,.v (.int .i64 0),.sl 0 [] true,.v (.int .i64 0),.sl 0 [] true,.v (.int .i64 0),.sl 0 [] true,.sl 0 [] true,.v (.int .i64 0),.v (.int .i64 0),.v (.string ⟨#[]⟩),.sl 0 [] true,zU,.sl 0 [] true,.v (.int .i64 0),.sl 0 [] true],576,[]⟩)) (.node 45 (.leaf 42 ⟨.struct [(0,25),(11,23),(12,3),(13,29),(45,28),(46,4),(47,30),(48,31),(49,3),(50,32),(51,35),(53,35),(55,36),(56,3),(57,3),(58,9),(59,39),(62,3),(63,40)],64,true,.agg [.v (.int .i64 0),.v (.int .i64 0),.v (.int .i64 0),.v (.int .i64 0),.v (.int .i64 0),.v (.int .i64 0),.v (.int .i64 0),.v (.int .i64 0),.sl 0 [] true,.v (.bool false),.sl 0 [] true,.sl 0 [] true,.v (.int .i64 0),zU,zU,zU,zU,zU,zU,zU,zU,zU,zU,zU,zU,zU,zU,zU,zU,zU,zU,zU,zU,zU,zU,zU,zU,zU,zU,zU,zU,zU,zU,zU,zU,zU,.v (.bool false),.sl 0 [] true,.sl 0 [] true,.v (.int .i64 0),.sl 0 [] true,.v (.int .i64 0),.sl 0 [] true,.v (.int .i64 0),.sl 0 [] true,.sl 0 [] true,.v (.int .i64 0),.v (.int .i64 0),.v (.string ⟨#[]⟩),.sl 0 [] true,zU,.sl 0 [] true,.v (.int .i64 0),.sl 0 [] true],576,[]⟩) (.leaf 45 ⟨.struct [(0,28),(1,29),(33,9),(34,3)],35,true,.agg [zU,zU,zU,zU,zU,zU,zU,zU,zU,zU,zU,zU,zU,zU,zU,zU,zU,zU,zU,zU,zU,zU,zU,zU,zU,zU,zU,zU,zU,zU,zU,zU,zU,.v (.string ⟨#[]⟩),.v (.int .i64 0)],160,[]⟩))) (.node 49 (.node 48 (.leaf 46 ⟨.struct [(0,28),(1,29),(33,9),(34,3)],35,true,.agg [zU,zU,zU,zU,zU,zU,zU,zU,zU,zU,zU,zU,zU,zU,zU,zU,zU,zU,zU,zU,zU,zU,zU,zU,zU,zU,zU,zU,zU,zU,zU,zU,zU,.v (.string ⟨#[]⟩),.v (.int .i64 0)],160,[.i,.i,.i,.i,.i,.i,.i,.i,.i,.i,.i,.i,.i,.i,.i,.i,.i,.i,.i,.i,.i,.i,.i,.i,.i,.i,.i,.i,.i,.i,.i,.i,.i,.s,.i]⟩) (.leaf 48 ⟨.struct [(0,28),(1,28),(2,3),(3,28),(4,28),(5,3),(6,4),(7,3),(8,3)],9,true,.agg [zU,zU,.v (.int .i64 0),zU,zU,.v (.int .i64 0),.v (.bool false),.v (.int .i64 0),.v (.int .i64 0)],56,[]⟩)) (.node 60 (.leaf 49 ⟨.struct [(0,28),(1,28),(2,3),(3,28),(4,28),(5,3),(6,4),(7,3),(8,3)],9,true,.agg [zU,zU,.v (.int .i64 0),zU,zU,.v (.int .i64 0),.v (.bool false),.v (.int .i64 0),.v (.int .i64 0)],56,[.i,.i,.i,.i,.i,.i,.b,.i,.i]⟩) (.leaf 60 ⟨.slice 5,1,false,.sl 0 [] true,24,[]⟩)))))) (.node 106 (.node 71 (.node 64 (.node 62 (.leaf 61 ⟨.struct [(0,42)],64,true,.agg [.v (.int .i64 0),.v (.int .i64 0),.v (.int .i64 0),.v (.int .i64 0),.v (.int .i64 0),.v (.int .i64 0),.v (.int .i64 0),.v (.int .i64 0),.sl 0 [] true,.v (.bool false),.sl 0 [] true,.sl 0 [] true,.v (.int .i64 0),zU,zU,zU,zU,zU,zU,zU,zU,zU,zU,zU,zU,zU,zU,zU,zU,zU,zU,zU,zU,zU,zU,zU,zU,zU,zU,zU,zU,zU,zU,zU,zU,zU,.v (.bool false),.sl 0 [] true,.sl 0 [] true,.v (.int .i64 0),.sl 0 [] true,.v (.int .i64 0),.sl 0 [] true,.v (.int .i64 0),.sl 0 [] true,.sl 0 [] true,.v (.int .i64 0),.v (.int .i64 0),.v (.string ⟨#[]⟩),.sl 0 [] true,zU,.sl 0 [] true,.v (.int .i64 0),.sl 0 [] true],576,[]⟩) (.node 63 (.leaf 62 ⟨.struct [(0,42)],64,true,.agg [.v (.int .i64 0),.v (.int .i64 0),.v (.int .i64 0),.v (.int .i64 0),.v (.int .i64 0),.v (.int .i64 0),.v (.int .i64 0),.v (.int .i64 0),.sl 0 [] true,.v (.bool false),.sl 0 [] true,.sl 0 [] true,.v (.int .i64 0),zU,zU,zU,zU,zU,zU,zU,zU,zU,zU,zU,zU,zU,zU,zU,zU,zU,zU,zU,zU,zU,zU,zU,zU,zU,zU,zU,zU,zU,zU,zU,zU,zU,.v (.bool false),.sl 0 [] true,.sl 0 [] true,.v (.int .i64 0),.sl 0 [] true,.v (.int .i64 0),.sl 0 [] true,.v (.int .i64 0),.sl 0 [] true,.sl 0 [] true,.v (.int .i64 0),.v (.int .i64 0),.v (.string ⟨#[]⟩),.sl 0 [] true,zU,.sl 0 [] true,.v (.int .i64 0),.sl 0 [] true],576,[]⟩) (.leaf 63 aeL))) (.node 69 (.node 65 (.leaf 64 ⟨.pointer,1,false,.v (.pointer none),8,[]⟩) (.leaf 65 ⟨.array 7 63,7,true,.agg [.v .nilFunc,.v .nilFunc,.v .nilFunc,.v .nilFunc,.v .nilFunc,.v .nilFunc,.v .nilFunc],56,[]⟩)) (.node 70 (.leaf 69 ⟨.struct [(0,3),(1,3),(2,3),(3,3),(4,28)],5,true,.agg [.v (.int .i64 0),.v (.int .i64 0),.v (.int .i64 0),.v (.int .i64 0),zU],40,[]⟩) (.leaf 70 ⟨.struct [(0,3),(1,3),(2,3),(3,3),(4,28)],5,true,.agg [.v (.int .i64 0),.v (.int .i64 0),.v (.int .i64 0),.v (.int .i64 0),zU],40,[.i,.i,.i,.i,.i]⟩)))) (.node 95 (.node 91 (.leaf 71 ⟨.int .i64,1,false,.v (.int .i64 0),8,[]⟩) (.node 92 (.leaf 91 ⟨.struct [(0,3),(1,28),(2,70),(7,28),(8,3),(9,3),(10,28),(11,28),(12,28),(13,3),(14,3),(15,4),(16,4)],17,true,.agg [.v (.int .i64 0),zU,.v (.int .i64 0),.v (.int .i64 0),.v (.int .i64 0),.v (.int .i64 0),zU,zU,.v (.int .i64 0),.v (.int .i64 0),zU,zU,zU,.v (.int .i64 0),.v (.int .i64 0),.v (.bool false),.v (.bool false)],120,[]⟩) (.leaf 92 ⟨.struct [(0,3),(1,28),(2,70),(7,28),(8,3),(9,3),(10,28),(11,28),(12,28),(13,3),(14,3),(15,4),(16,4)],17,true,.agg [.v (.int .i64 0),zU,.v (.int .i64 0),.v (.int .i64 0),.v (.int .i64 0),.v (.int .i64 0),zU,zU,.v (.int .i64 0),.v (.int .i64 0),zU,zU,zU,.v (.int .i64 0),.v (.int .i64 0),.v (.bool false),.v (.bool false)],120,[.i,.i,.i,.i,.i,.i,.i,.i,.i,.i,.i,.i,.i,.i,.i,.b,.b]⟩))) (.node 102 (.node 96 (.leaf 95 ⟨.struct [(0,28),(1,9)],2,true,.agg [zU,.v (.string ⟨#[]⟩)],24,[]⟩) (.leaf 96 ⟨.struct [(0,28),(1,9)],2,true,.agg [zU,.v (.string ⟨#[]⟩)],24,[.i,.s]⟩)) (.node 103 (.leaf 102 ⟨.struct [(0,28),(1,28)],2,true,.agg [zU,zU],8,[]⟩) (.leaf 103 ⟨.struct [(0,28),(1,28)],2,true,.agg [zU,zU],8,[.i,.i]⟩))))) (.node 170 (.node 115 (.node 107 (.leaf 106 ⟨.struct [(0,3),(1,28),(2,3),(3,9)],4,true,.agg [.v (.int .i64 0),zU,.v (.int .i64 0),.v (.string ⟨#[]⟩)],40,[]⟩) (.node 114 (.leaf 107 ⟨.struct [(0,3),(1,28),(2,3),(3,9)],4,true,.agg [.v (.int .i64 0),zU,.v (.int .i64 0),.v (.string ⟨#[]⟩)],40,[.i,.i,.i,.s]⟩) (.leaf 114 ⟨.struct [(0,28),(1,4),(2,9)],3,true,.agg [zU,.v (.bool false),.v (.string ⟨#[]⟩)],24,[]⟩))) (.node 147 (.node 132 (.leaf 115 ⟨.struct [(0,28),(1,4),(2,9)],3,true,.agg [zU,.v (.bool false),.v (.string ⟨#[]⟩)],24,[.i,.b,.s]⟩) (.leaf 132 ⟨.slice 4,1,false,.sl 0 [] true,24,[]⟩)) (.node 157 (.leaf 147 ⟨.int .u64,1,false,.v (.int .u64 0),8,[]⟩) (.leaf 157 ⟨.slice 115,1,false,.sl 0 [] true,24,[]⟩)))) (.node 228 (.node 217 (.node 171 (.leaf 170 ⟨.struct [(0,28),(1,28)],2,true,.agg [zU,zU],8,[]⟩) (.leaf 171 ⟨.struct [(0,28),(1,28)],2,true,.agg [zU,zU],8,[.i,.i]⟩)) (.node 218 (.leaf 217 ⟨.int .u64,1,false,.v (.int .u64 0),8,[]⟩) (.leaf 218 ⟨.slice 235,1,false,.sl 0 [] true,24,[]⟩))) (.node 234 (.node 229 (.leaf 228 ⟨.struct [(0,28),(1,3),(2,9),(3,4)],4,true,.agg [zU,.v (.int .i64 0),.v (.string ⟨#[]⟩),.v (.bool false)],40,[]⟩) (.leaf 229 ⟨.struct [(0,28),(1,3),(2,9),(3,4)],4,true,.agg [zU,.v (.int .i64 0),.v (.string ⟨#[]⟩),.v (.bool false)],40,[]⟩)) (.node 235 (.leaf 234 ⟨.struct [(0,3),(1,3)],2,true,.agg [.v (.int .i64 0),.v (.int .i64 0)],16,[]⟩) (.leaf 235 ⟨.struct [(0,3),(1,3)],2,true,.agg [.v (.int .i64 0),.v (.int .i64 0)],16,[]⟩))))))
def ZX:Tb Tryz.prog tys:=⟨⟨⟨⟨⟨qK Tryz.t2 underlying2 rfl,⟨qK Tryz.t3 underlying3 rfl,qK Tryz.t4 underlying4 rfl⟩⟩,⟨⟨qK Tryz.t5 underlying5 rfl,qK Tryz.t9 underlying9 rfl⟩,⟨qK Tryz.t22 underlying22 rfl,qK Tryz.t23 underlying23 rfl⟩⟩⟩,⟨⟨qK Tryz.t24 underlying24 ⟨_,rfl,by kernel_rfl,by kernel_rfl⟩,⟨qK Tryz.t25 underlying25 ⟨_,rfl,by kernel_rfl,by kernel_rfl⟩,qK Tryz.t28 underlying28 rfl⟩⟩,⟨⟨qK Tryz.t29 underlying29 rfl (λ_=>Ta (d:=20) (inf:=Tryz.t28) (ks':=[.i]) underlying29 (by kernel_rfl) (by kernel_rfl) (by kernel_rfl) (by kernel_rfl) (by kernel_rfl)),qK Tryz.t30 underlying30 rfl⟩,⟨qK Tryz.t31 underlying31 rfl,qK Tryz.t32 underlying32 rfl⟩⟩⟩⟩,⟨⟨⟨qK Tryz.t33 underlying33 rfl,⟨qK Tryz.t34 underlying34 ⟨_,rfl,by kernel_rfl,by kernel_rfl⟩,qK Tryz.t35 underlying35 ⟨_,rfl,by kernel_rfl,by kernel_rfl⟩⟩⟩,⟨⟨qK Tryz.t36 underlying36 rfl,qK Tryz.t37 underlying37 rfl⟩,⟨qK Tryz.t38 underlying38 ⟨_,rfl,by kernel_rfl,by kernel_rfl⟩,qK Tryz.t39 underlying39 ⟨_,rfl,by kernel_rfl,by kernel_rfl⟩⟩⟩⟩,⟨⟨⟨qK Tryz.t40 underlying40 rfl,qK Tryz.t41 underlying41 ⟨_,rfl,by kernel_rfl,by kernel_rfl⟩⟩,⟨qK Tryz.t42 underlying42 ⟨_,rfl,by kernel_rfl,by kernel_rfl⟩,qK Tryz.t45 underlying45 ⟨_,rfl,by kernel_rfl,by kernel_rfl⟩⟩⟩,⟨⟨qK Tryz.t46 underlying46 ⟨_,rfl,by kernel_rfl,by kernel_rfl⟩ (λ_=>vJ (d:=20) (by kernel_rfl)),qK Tryz.t48 underlying48 ⟨_,rfl,by kernel_rfl,by kernel_rfl⟩⟩,⟨qK Tryz.t49 underlying49 ⟨_,rfl,by kernel_rfl,by kernel_rfl⟩ (λ_=>vJ (d:=20) (by kernel_rfl)),qK Tryz.t60 underlying60 rfl⟩⟩⟩⟩⟩,⟨⟨⟨⟨qK Tryz.t61 underlying61 ⟨_,rfl,by kernel_rfl,by kernel_rfl⟩,⟨qK Tryz.t62 underlying62 ⟨_,rfl,by kernel_rfl,by kernel_rfl⟩,qK Tryz.t63 underlying63 trivial⟩⟩,⟨⟨qK Tryz.t64 underlying64 trivial,qK Tryz.t65 underlying65 rfl⟩,⟨qK Tryz.t69 underlying69 ⟨_,rfl,by kernel_rfl,by kernel_rfl⟩,qK Tryz.t70 underlying70 ⟨_,rfl,by kernel_rfl,by kernel_rfl⟩ (λ_=>vJ (d:=20) (by kernel_rfl))⟩⟩⟩,⟨⟨qK Tryz.t71 underlying71 rfl,⟨qK Tryz.t91 underlying91 ⟨_,rfl,by kernel_rfl,by kernel_rfl⟩,qK Tryz.t92 underlying92 ⟨_,rfl,by kernel_rfl,by kernel_rfl⟩ (λ_=>vJ (d:=20) (by kernel_rfl))⟩⟩,⟨⟨qK Tryz.t95 underlying95 ⟨_,rfl,by kernel_rfl,by kernel_rfl⟩,qK Tryz.t96 underlying96 ⟨_,rfl,by kernel_rfl,by kernel_rfl⟩ (λ_=>vJ (d:=20) (by kernel_rfl))⟩,⟨qK Tryz.t102 underlying102 ⟨_,rfl,by kernel_rfl,by kernel_rfl⟩,qK Tryz.t103 underlying103 ⟨_,rfl,by kernel_rfl,by kernel_rfl⟩ (λ_=>vJ (d:=20) (by kernel_rfl))⟩⟩⟩⟩,⟨⟨⟨qK Tryz.t106 underlying106 ⟨_,rfl,by kernel_rfl,by kernel_rfl⟩,⟨qK Tryz.t107 underlying107 ⟨_,rfl,by kernel_rfl,by kernel_rfl⟩ (λ_=>vJ (d:=20) (by kernel_rfl)),qK Tryz.t114 underlying114 ⟨_,rfl,by kernel_rfl,by kernel_rfl⟩⟩⟩,⟨⟨qK Tryz.t115 underlying115 ⟨_,rfl,by kernel_rfl,by kernel_rfl⟩ (λ_=>vJ (d:=20) (by kernel_rfl)),qK Tryz.t132 underlying132 rfl⟩,⟨qK Tryz.t147 underlying147 rfl,qK Tryz.t157 underlying157 rfl⟩⟩⟩,⟨⟨⟨qK Tryz.t170 underlying170 ⟨_,rfl,by kernel_rfl,by kernel_rfl⟩,qK Tryz.t171 underlying171 ⟨_,rfl,by kernel_rfl,by kernel_rfl⟩ (λ_=>vJ (d:=20) (by kernel_rfl))⟩,⟨qK Tryz.t217 underlying217 rfl,qK Tryz.t218 underlying218 rfl⟩⟩,⟨⟨qK Tryz.t228 underlying228 ⟨_,rfl,by kernel_rfl,by kernel_rfl⟩,qK Tryz.t229 underlying229 ⟨_,rfl,by kernel_rfl,by kernel_rfl⟩⟩,⟨qK Tryz.t234 underlying234 ⟨_,rfl,by kernel_rfl,by kernel_rfl⟩,qK Tryz.t235 underlying235 ⟨_,rfl,by kernel_rfl,by kernel_rfl⟩⟩⟩⟩⟩⟩⟩
def Fl:List AV:=VA.map λk=>.v (.int .u32 (k:Nat))
noncomputable def C0:Ctx:={P:=Tryz.prog,ty:=tys.find,G:=λg=>match g with|0=>some Fl|_=>none,H:=pM Tryz.prog (λg=>match g with|0=>some Fl|_=>none)}
def c0Ok:CtxOk C0:=⟨TT.find_ok tys ZX,by kernel_rfl,λ_ _ _ _ _ h=>h⟩
theorem dI{f}{fn}{body}{args}{r}(hf:C0.P.funcs[f]?=some fn)(hw:eA C0 (bI C0) body ⟨argsT args,λ _=>none,0⟩ (Fin C0 fn r))(hb:fn.body=some body:=by rfl)(hnm:(fn.name== "runtime.NumGoroutine")=false:=by rfl) (hN:rU fn.ntmps body=true:=by kernel_rfl) (hlen:Nat.ble args.length fn.ntmps=true:=by rfl):bI C0 f args r:=bI.intro c0Ok hf hb hnm hN hlen hw
theorem dIZ{f}{fn}{body}{args}{r}(hf:C0.P.funcs[f]?=some fn)(hb:fn.body=some body)(hw:goQ C0 (bI C0) (Fin C0 fn r) (.code body) (argsT args) (λ _=>none) 0 [])(hnm:(fn.name== "runtime.NumGoroutine")=false:=by rfl) (hN:rU fn.ntmps body=true:=by kernel_rfl) (hlen:Nat.ble args.length fn.ntmps=true:=by rfl):bI C0 f args r:=dI hf (zK hw) hb hnm hN hlen
def GZ(k)(hk:k<49):Fl[k]?=some (.v (.int .u32 (code k))):=by
 have:∀k,k<49->VA[k]?=some (code k):=dT;simp only[Fl,aX,this k hk,dF]
def aeM{S:Nat->Prop}{w:World}(h:EE w)(hS:S 0):GOk C0 S w:=λg cells hg=>by
 match g,hg with
 | 0,hg=>
  injection hg with hg;subst hg;have hget:∀(j:Nat) a,Fl[j]?=some a->j<49:=λj a hj=>(Em.1 hj).1;exact .dp Fl.length 0 Fl 0 0 (λk=>.int .u32 (code k)) rfl hS (λj a hj=>by rw[bJ];exact h j (hget j a hj)) (λ_=>rfl) λj a hj=>by
   rw[GZ j (hget j a hj)]at hj;injection hj with hj;subst hj;exact .v _
def Db{S}{w}(h:GOk C0 S w):EE w:=by
 have:=h 0 Fl rfl;generalize hp:Value.pointer _=p at this
 cases this with
 |dp _ _ _ b o u hrs hb hw h1 hr=>
  simp only[Value.pointer.injEq,af6,Addr.mk.injEq]at hp;obtain⟨rfl,ho, -⟩:=hp;obtain rfl:o=0:=oT;intro k hk;have e:=GZ k hk;have:=hw k _ e;rw[bJ]at this;rw[this,lV (hr k _ e)]
structure St where
 pc:Nat
 r:Nat->Nat
 mem:ByteArray
 halt:Int
structure Sp where
 pc:Nat
 next:Nat
 rd:Int
 value:Nat
 agZ:Nat
 size:Int
 store:Bool
 halt:Int
 agV:Int
abbrev stL(pc:Nat)(r:Nat->Nat)(m:ByteArray)(h:Int):List AV:=
 [.v (.int .u32 (pc:Int)),.v (.int .u32 (r 0:Int)),.v (.int .u32 (r 1:Int)),.v (.int .u32 (r 2:Int)),.v (.int .u32 (r 3:Int)),.v (.int .u32 (r 4:Int)),.v (.int .u32 (r 5:Int)),.v (.int .u32 (r 6:Int)),.v (.int .u32 (r 7:Int)),.v (.int .u32 (r 8:Int)),.v (.int .u32 (r 9:Int)),.v (.int .u32 (r 10:Int)),.v (.int .u32 (r 11:Int)),.v (.int .u32 (r 12:Int)),.v (.int .u32 (r 13:Int)),.v (.int .u32 (r 14:Int)),.v (.int .u32 (r 15:Int)),.v (.int .u32 (r 16:Int)),.v (.int .u32 (r 17:Int)),.v (.int .u32 (r 18:Int)),.v (.int .u32 (r 19:Int)),.v (.int .u32 (r 20:Int)),.v (.int .u32 (r 21:Int)),.v (.int .u32 (r 22:Int)),.v (.int .u32 (r 23:Int)),.v (.int .u32 (r 24:Int)),.v (.int .u32 (r 25:Int)),.v (.int .u32 (r 26:Int)),.v (.int .u32 (r 27:Int)),.v (.int .u32 (r 28:Int)),.v (.int .u32 (r 29:Int)),.v (.int .u32 (r 30:Int)),.v (.int .u32 (r 31:Int)),.v (.string m),.v (.int .i64 h)]
abbrev stA(s:St):AV:=.agg (stL s.pc s.r s.mem s.halt)
abbrev spL(x:Sp):List AV:=[.v (.int .u32 (x.pc:Int)),.v (.int .u32 (x.next:Int)),.v (.int .i64 x.rd),.v (.int .u32 (x.value:Int)),.v (.int .u32 (x.agZ:Int)),.v (.int .i64 x.size),.v (.bool x.store),.v (.int .i64 x.halt),.v (.int .i64 x.agV)]
abbrev spA(x:Sp):AV:=.agg (spL x)
abbrev siA(i:SI):AV:=.agg [.v (.int .i64 i.op),.v (.int .i64 i.rd),.v (.int .i64 i.ag0),.v (.int .i64 i.ag1),.v (.int .u32 (i.agR:Int))]
abbrev two(x:St×Sp):AV:=.tup [stA x.1,spA x.2]
structure St.ok(s:St):Prop where
 pc:s.pc<=4294967295
 r:∀k,s.r k<=4294967295
 mem:s.mem.size<=256
def setR(r:Nat->Nat)(k v:Nat):Nat->Nat:=λj=>if j=k then v else r j
def ldR(pc)(r)(m)(h)(n)(hn:n<32):okO (Lg (stL pc r m h) (1+n*1))=.ok (.v (.int .u32 (r n:Int))):=by
 have:∀(n:_root_.Fin 32),okO (Lg (stL pc r m h) (1+n.1*1))=.ok (.v (.int .u32 (r n.1:Int))):=by
  intro n
  match n with
  |⟨0,_⟩=>rfl
  |⟨1,_⟩=>rfl
  |⟨2,_⟩=>rfl
  |⟨3,_⟩=>rfl
  |⟨4,_⟩=>rfl
  |⟨5,_⟩=>rfl
  |⟨6,_⟩=>rfl
  |⟨7,_⟩=>rfl
  |⟨8,_⟩=>rfl
  |⟨9,_⟩=>rfl
  |⟨10,_⟩=>rfl
  |⟨11,_⟩=>rfl
  |⟨12,_⟩=>rfl
  |⟨13,_⟩=>rfl
  |⟨14,_⟩=>rfl
  |⟨15,_⟩=>rfl
  |⟨16,_⟩=>rfl
  |⟨17,_⟩=>rfl
  |⟨18,_⟩=>rfl
  |⟨19,_⟩=>rfl
  |⟨20,_⟩=>rfl
  |⟨21,_⟩=>rfl
  |⟨22,_⟩=>rfl
  |⟨23,_⟩=>rfl
  |⟨24,_⟩=>rfl
  |⟨25,_⟩=>rfl
  |⟨26,_⟩=>rfl
  |⟨27,_⟩=>rfl
  |⟨28,_⟩=>rfl
  |⟨29,_⟩=>rfl
  |⟨30,_⟩=>rfl
  |⟨31,_⟩=>rfl
  |⟨k+32,h⟩=>exact absurd h oT
 exact this ⟨n,hn⟩
def aeJ(pc)(r)(m)(h)(n v:Nat)(hn:n<32):zS (1+n*1) [.v (.int .u32 (v:Int))] (stL pc r m h)=stL pc (setR r n v) m h:=by
 have:∀(n:_root_.Fin 32),zS (1+n.1*1) [.v (.int .u32 (v:Int))] (stL pc r m h)=stL pc (setR r n.1 v) m h:=by
  intro n
  match n with
  |⟨0,_⟩=>rfl
  |⟨1,_⟩=>rfl
  |⟨2,_⟩=>rfl
  |⟨3,_⟩=>rfl
  |⟨4,_⟩=>rfl
  |⟨5,_⟩=>rfl
  |⟨6,_⟩=>rfl
  |⟨7,_⟩=>rfl
  |⟨8,_⟩=>rfl
  |⟨9,_⟩=>rfl
  |⟨10,_⟩=>rfl
  |⟨11,_⟩=>rfl
  |⟨12,_⟩=>rfl
  |⟨13,_⟩=>rfl
  |⟨14,_⟩=>rfl
  |⟨15,_⟩=>rfl
  |⟨16,_⟩=>rfl
  |⟨17,_⟩=>rfl
  |⟨18,_⟩=>rfl
  |⟨19,_⟩=>rfl
  |⟨20,_⟩=>rfl
  |⟨21,_⟩=>rfl
  |⟨22,_⟩=>rfl
  |⟨23,_⟩=>rfl
  |⟨24,_⟩=>rfl
  |⟨25,_⟩=>rfl
  |⟨26,_⟩=>rfl
  |⟨27,_⟩=>rfl
  |⟨28,_⟩=>rfl
  |⟨29,_⟩=>rfl
  |⟨30,_⟩=>rfl
  |⟨31,_⟩=>rfl
  |⟨k+32,h⟩=>exact absurd h oT
 exact this ⟨n,hn⟩
def stR{ev}{h}{s b n v:Nat}{a x}{pc}{r}{m}{hl}(ha:ev a=.ptr b (1+n*1))(hb:h b=some (.box (stL pc r m hl)))(hx:ev x=.v (.int .u32 (v:Int)))(hn:n<32):
  opA C0 ev h s (.store 28 a x)=.fx True .any (upd h b (some (.box (stL pc (setR r n v) m hl)))):=by
 have hty:C0.ty 28=some anW:=rfl;have hc:(1+n*1+([.v (.int .u32 (v:Int))]:List AV).length).ble (stL pc r m hl).length=true:=iL (by simp;omega);simp only[opA,hty,hx,kN,ha,hb];rw[show([AV.v (Value.int IntKind.u32 (v:Int))].length.beq 1)=true from rfl];simp only;rw[hc];simp only;rw[aeJ _ _ _ _ _ _ hn]
def wr(i:SI):Int:=if yW (cW i.op)then i.rd else 0
def fetchP(prog:List Nat)(pc:Nat):Option Nat:=if pc%4=0 then prog[pc/4]? else none
def DD(m:ByteArray)(agZ:Nat)(b:ByteArray):ByteArray:=⟨(m.data.toList.take agZ++b.data.toList++m.data.toList.drop (agZ+b.size)).toArray⟩
def Cv(m:ByteArray)(agZ n:Nat):ByteArray:=m.extract agZ (agZ+n)
def Gc(s:St)(why:Int)(agZ:Nat):St×Sp:=({s with halt:=why},⟨s.pc,s.pc,0,0,agZ,0,false,why,0⟩)
def up4(pc:Nat):Nat:=(pc+4)%4294967296
def addrOf(i:SI)(a:Nat):Nat:=(a+i.agR)%4294967296
def valB(b n:Nat):Nat:=joinTo (oF b n).data.toList (oF b n).size
def sN(s:St)(i:SI)(a b:Nat):St×Sp:=
 if kZ (s.mem.size:Int) (addrOf i a) (sizeOf' i.op:Nat)=true then
  if kindOf i.op=4 then({s with pc:=up4 s.pc,mem:=DD s.mem (addrOf i a) (oF b (sizeOf' i.op))},⟨s.pc,up4 s.pc,wr i,valB b (sizeOf' i.op),addrOf i a,(sizeOf' i.op:Nat),kindOf i.op==4,0,0⟩)
  else if wr i=0 then({s with pc:=up4 s.pc},⟨s.pc,up4 s.pc,wr i,0,addrOf i a,(sizeOf' i.op:Nat),kindOf i.op==4,0,0⟩)
  else({s with pc:=up4 s.pc,r:=setR s.r (wr i).toNat (loadP i.op (Cv s.mem (addrOf i a) (sizeOf' i.op)))},⟨s.pc,up4 s.pc,wr i,loadP i.op (Cv s.mem (addrOf i a) (sizeOf' i.op)),addrOf i a,(sizeOf' i.op:Nat),kindOf i.op==4,0,0⟩)
 else Gc s (if kindOf i.op=4 then 5 else 4) (addrOf i a)
def IJ(s:St)(i:SI)(a b nx:Nat)(tk:Int):St×Sp:=
 if wr i=0 then({s with pc:=nx},⟨s.pc,nx,wr i,0,0,0,false,0,tk⟩)
 else({s with pc:=nx,r:=setR s.r (wr i).toNat (BF i.op i.agR s.pc a b)},⟨s.pc,nx,wr i,BF i.op i.agR s.pc a b,0,0,false,0,tk⟩)
def oN(s:St)(i:SI)(a b:Nat):St×Sp:=
 if kindOf i.op=5 then
  if qP i.op i.agR s.pc a b%4=0 then IJ s i a b (qP i.op i.agR s.pc a b) 0 else Gc s 3 0
 else IJ s i a b (up4 s.pc) (if kindOf i.op=2 then tookP i.op a b else 0)
def aeK:Sp:=⟨0,0,0,0,0,0,false,0,0⟩
def doI(s:St)(i:SI):St×Sp:=
 if i.op=47 then Gc s 6 0
 else if i.op=48 then Gc s 7 0
 else if kindOf i.op=3∨kindOf i.op=4 then sN s i (s.r i.ag0.toNat) (s.r i.ag1.toNat)
 else oN s i (s.r i.ag0.toNat) (s.r i.ag1.toNat)
def fetchW(prog:List Nat)(pc:Nat):Nat:=(fetchP prog pc).getD 0
def rA(prog:List Nat)(s:St):SI:=decN (fetchW prog s.pc)
def gE(prog:List Nat)(s:St):St×Sp:=
 if s.halt=0 then
  if(fetchP prog s.pc).isSome=true then
   if opOf (fetchW prog s.pc)=0 then Gc s 2 0 else doI s (rA prog s)
  else Gc s 1 0
 else(s,aeK)
def IK(x):0<=(decN x).rd∧(decN x).rd<32∧0<=(decN x).ag0∧(decN x).ag0<32∧0<=(decN x).ag1∧(decN x).ag1<32∧(decN x).agR<4294967296:=by
 unfold decN;split
 ·exact⟨dT,dT,dT,dT,dT,dT,dT⟩
 have h1:=iR x 7 5;have h2:=iR x 15 5;have h3:=iR x 20 5;refine⟨?_,?_,?_,?_,?_,?_,KC _ _ (sB _)⟩<;>simp only[xW]<;>split<;>omega
def ZU(x):0<=wr (decN x)∧wr (decN x)<32:=by
 have:=IK x;unfold wr;split<;>omega
def abT:AV->Option Value
 | .tup cs=>match Ju cs with|some l=>some (.tuple l.toArray)|none=>none
 |x=>SZ x
def Uz{S}{w}{β}{a}{u}(h:abT a=some u):Rep S w β a u:=by
 cases a with
 | tup cs=>
  simp only[abT]at h;split at h
  ·rename_i l hl;injection h with h;subst h;have:=BL (S:=S) (w:=w) (β:=β) hl;exact .tup cs l.toArray (sU this.1) λi a u h1 h2=>this.2 i a u h1 (sU h2)
  ·cases h
 |_=>exact Hj h
theorem bI.of_tupG{C}{f}{fn}{args}{vs}{r}{v}(hf:C.P.funcs[f]?=some fn)(hb:fn.body.isSome=true)(hnm:(fn.name== "runtime.NumGoroutine")=false)
  (ha:Ju args=some vs) (hr:abT r=some v) (hc:∀S w,GOk C S w->Calls C.P f vs.toArray w λe w'=>e=.returned v∧Below w.heap.size w w'):bI C f args r:=
 ⟨⟨fn,hf,hb,hnm⟩,λS w us hS hG hu=>by
  rw[Lj ha hu];exact(hc S w hG).mono λe w' ⟨he,hB⟩=>⟨v,he,hB,Uz hr⟩⟩
theorem bI.of_tup{C}{f}{fn}{args}{vs}{r}{v}(hf:C.P.funcs[f]?=some fn)(hb:fn.body.isSome=true)(hnm:(fn.name== "runtime.NumGoroutine")=false)
  (ha:Ju args=some vs) (hr:abT r=some v) (hc:∀w,Calls C.P f vs.toArray w λe w'=>e=.returned v∧Below w.heap.size w w'):bI C f args r:=
 .of_tupG hf hb hnm ha hr λ_ w _=>hc w
section
variable (i:SI)
def pS:bI C0 63 [siA i] (.v (.int .i64 ((kindOf i.op:Nat):Int))):=
 .of_flat func63 rfl rfl rfl rfl λw=>IP i.op i.rd i.ag0 i.ag1 i.agR w
def Gd:bI C0 108 [siA i] (.v (.int .i64 ((sizeOf' i.op:Nat):Int))):=
 .of_flat func108 rfl rfl rfl rfl λw=>Nz i.op i.rd i.ag0 i.ag1 i.agR w
def Da:bI C0 104 [siA i] (.v (.int .i64 (wr i))):=
 .of_flat func104 rfl rfl rfl rfl λw=>OX i.op i.rd i.ag0 i.ag1 i.agR w
def LW(pc a b:Nat)(hi:i.agR<4294967296)(hp:pc<4294967296)(ha:a<4294967296)(hb:b<4294967296):bI C0 163 [siA i,.v (.int .u32 (pc:Int)),.v (.int .u32 (a:Int)),.v (.int .u32 (b:Int))] (.tup [.v (.int .u32 ((qP i.op i.agR pc a b:Nat):Int)),.v (.bool (decide (qP i.op i.agR pc a b%4=0)))]):=
 .of_tup func163 rfl rfl rfl rfl λw=>OV i.op i.rd i.ag0 i.ag1 i.agR pc a b w hi hp ha hb
def Nu(pc a b:Nat)(hi:i.agR<4294967296)(hp:pc<4294967296)(ha:a<4294967296)(hb:b<4294967296):bI C0 161 [siA i,.v (.int .u32 (pc:Int)),.v (.int .u32 (a:Int)),.v (.int .u32 (b:Int))] (.v (.int .u32 ((BF i.op i.agR pc a b:Nat):Int))):=
 .of_flat func161 rfl rfl rfl rfl λw=>Rq i.op i.rd i.ag0 i.ag1 i.agR pc a b w hi hp ha hb
def Xz(op:Int)(a b:Nat)(ha:a<4294967296)(hb:b<4294967296):bI C0 162 [.v (.int .i64 op),.v (.int .u32 (a:Int)),.v (.int .u32 (b:Int))] (.v (.int .i64 (tookP op a b))):=
 .of_flat func162 rfl rfl rfl rfl λw=>(UC op a b w ha hb).mono λ_ _ ⟨h1,h2⟩=>⟨h1,h2 ▸ Below.refl _ _⟩
def GY(size:Int)(agZ:Nat)(many:Int)(hs:size<9223372036854775808)(ha:agZ<4294967296):bI C0 47 [.v (.int .i64 size),.v (.int .u32 (agZ:Int)),.v (.int .i64 many)] (.v (.bool (kZ size agZ many))):=
 .of_flat func47 rfl rfl rfl rfl λw=>(Ru size agZ many w hs ha).mono λ_ _ ⟨h1,h2⟩=>⟨h1,h2 ▸ Below.refl _ _⟩
def Nv(x n:Nat)(hx:x<4294967296)(hn:n<=4):bI C0 115 [.v (.int .u32 (x:Int)),.v (.int .i64 (n:Int))] (.tup [.v (.string (oF x n)),.v (.int .i64 0)]):=
 .of_tup func115 rfl rfl rfl rfl λw=>Rx x n w hx hn
def ZV(s:ByteArray)(hs:s.size<=4):bI C0 148 [.v (.string s)] (.tup [.v (.int .u32 ((joinTo s.data.toList s.size:Nat):Int)),.v (.int .i64 0)]):=
 .of_tup func148 rfl rfl rfl rfl λw=>(NB s w hs).mono λ_ _ ⟨h1,h2⟩=>⟨h1,h2 ▸ Below.refl _ _⟩
def ZW(op:Int)(s:ByteArray)(hs:s.size<9223372036854775808):bI C0 105 [.v (.int .i64 op),.v (.string s)] (.v (.int .u32 ((loadP op s:Nat):Int))):=
 .of_flat func105 rfl rfl rfl rfl λw=>UE op s w hs
end
structure Req where
 kind:Int
 agY:Nat
 left:Int
 data:ByteArray
structure Wy where
 agY:Nat
 agQ:Bool
 data:ByteArray
structure Ca where
 ways:Int
 agJ:List (List Wy)
structure Pt where
 agZ:Nat
 data:ByteArray
structure Gs where
 pc:Nat
 next:Nat
structure Gu where
 agP:List Gs
 ag2:Nat
 rets:List Nat
structure Ft where
 pc:Nat
 agK:Nat
structure Cf where
 mode:Int
 agN:Int
 agI:Int
 queue:Int
 agF:Int
 agP:Int
 agJ:Int
 ways:Int
 agW:List Int
 tables:Bool
 tape:List Nat
structure Ent where
 no:Int
 pc:Nat
 i:SI
 agK:Nat
 is:Int
 left:Int
 value:Nat
 next:Nat
 agZ:Nat
 halt:Int
 agV:Int
 known:Bool
 agU:Bool
structure Co where
 agL:Cf
 prog:List Nat
 cycle:Int
 r:Nat->Nat
 agM:Nat
 stop:Bool
 agH:List Ft
 agI:List Ent
 next:Int
 agF:List Pt
 data:Ca
 agO:Ca
 agS:List Req
 asked:Int
 agT:Int
 mem:ByteArray
 agK:Gu
 halt:Int
 agG:List Sp
def oZ:ByteArray:=⟨#[]⟩
def Cs:Ent:=⟨0,0,MG,0,0,0,0,0,0,0,0,false,false⟩
def OU:Req:=⟨0,0,0,oZ⟩
def qE:Wy:=⟨0,false,oZ⟩
def bV(n lo hi:Int):Int:=if(if n<lo then lo else n)>hi then hi else(if n<lo then lo else n)
def bZ(c:Cf):Cf:=
 {mode:=bV c.mode 0 2,agN:=bV c.agN 1 2,agI:=bV c.agI 2 8,queue:=bV c.queue 1 4,agF:=bV c.agF 1 4,agP:=bV c.agP 2 6
  agJ:=if bV c.agJ 1 4=3 then 2 else bV c.agJ 1 4,ways:=bV c.ways 1 2
  agW:=(c.agW.take 64).map λn=>bV n 1 8,tables:=c.tables,tape:=c.tape.take 64}
def inI(n lo hi:Int):Bool:=decide (n>=lo)&&decide (n<=hi)
def wA(c:Cf):Bool:=
 (c.agW.all λn=>inI n 1 8)&&inI c.mode 0 2&&inI c.agN 1 2&&inI c.agI 2 8&&inI c.queue 1 4&&inI c.agF 1 4&&inI c.agP 2 6&&inI c.agJ 1 4&&decide (c.agJ≠3)&&inI c.ways 1 2&&decide (c.agW.length<=64)&&decide (c.tape.length<=64)
def lX(c:Cf)(k:Int):Int:=
 match(bZ c).agW with
 |[]=>1
 |l=>l.getD ((max k 0).toNat%l.length) 1
def yG(c:Cf)(k:Int)(pc:Nat):Nat:=
 match(bZ c).tape with
 |[]=>up4 pc
 |l=>l.getD ((max k 0).toNat%l.length) 0
def lineOf(a:Nat):Nat:=a-a%16
def Bi(q:List Req)(kind:Int)(agY:Nat)(left:Int)(data:ByteArray):List Req:=q++[⟨kind,agY,max left 1,data⟩]
def eH(q:List Req):List Req×Req×Bool:=
 match q with
 |[]=>([],OU,false)
 |x::r=>if wrap64 (x.left-1)>0 then({x with left:=wrap64 (x.left-1)}::r,OU,false)else(r,{x with left:=wrap64 (x.left-1)},true)
def Ec(q:List Req)(agY:Nat)(kind:Int):Bool:=q.any λx=>decide (x.agY=agY)&&decide (x.kind=kind)
def yH(q:List Req):Nat:=(q.filter λx=>decide (x.kind≠4)).length
def afM(c:Ca)(agY:Nat):Nat:=agY/16%c.agJ.length
def jY:List Wy->Nat->Option Nat
 |[],_=>none
 |w::l,agY=>if w.agY=agY then some 0 else(jY l agY).map (· +1)
def xB(c:Ca)(k:Nat)(set:List Wy):Bool:=
 decide ((set.length:Int)<=c.ways)&&(List.range set.length).all λat_=>match set[at_]? with
  |some w=>decide (lineOf w.agY=w.agY)&&decide (afM c w.agY=k)&&(decide (w.data.size=0)||decide (w.data.size=16))&&(jY (set.take at_) w.agY).isNone
  |none=>true
def gG(c:Ca):Bool:=
 (decide (c.agJ.length=1)||decide (c.agJ.length=2)||decide (c.agJ.length=4))&&(decide (c.ways=1)||decide (c.ways=2))&&(List.range c.agJ.length).all λk=>match c.agJ[k]? with
  |some s=>xB c k s
  |none=>true
def CZ(agJ ways:Int):Ca:=⟨bV ways 1 2,List.replicate (if bV agJ 1 4=3 then 2 else bV agJ 1 4).toNat []⟩
def eY{α:Type}(l:List α)(k:Nat):List α:=(match l[k]? with|some x=>[x]|none=>[])++l.take k++l.drop (k+1)
def rK(c:Ca)(k:Nat)(set:List Wy):Ca:=⟨c.ways,c.agJ.set k set⟩
def bK(c:Ca)(agY:Nat):Nat×Option Nat:=
 if gG c=true then(afM c (lineOf agY),jY ((c.agJ[afM c (lineOf agY)]?).getD []) (lineOf agY))else(0,none)
def pF(c:Ca)(k:Nat):List Wy:=(c.agJ[k]?).getD []
def tO(c:Ca)(agY:Nat):Ca:=
 match bK c agY with
 |(k,some j)=>rK c k (eY (pF c k) j)
 |(_,none)=>c
def dC(d:ByteArray):ByteArray:=if d.size=16 then d else oZ
def modHd{α:Type}(f:α->α):List α->List α
 |[]=>[]
 |x::l=>f x::l
def qZ(c:Ca)(agY:Nat)(data:ByteArray)(agQ:Bool):Ca×Wy×Bool:=
 if gG c=true then
  match bK c agY with
  |(k,some j)=>(rK c k (modHd (λw=>{w with data:=if(dC data).size=0 then w.data else dC data,agQ:=w.agQ||agQ}) (eY (pF c k) j)),qE,false)
  | (k,none)=>
   if((pF c k).length:Int)=c.ways then
    (rK c k (⟨lineOf agY,agQ,dC data⟩::(pF c k).dropLast),(pF c k).getLast?.getD qE,true)
   else(rK c k (⟨lineOf agY,agQ,dC data⟩::pF c k),qE,false)
 else(c,qE,false)
def Fk(d:ByteArray)(from_:Nat)(b:ByteArray):ByteArray:=d.extract 0 from_++b++d.extract (from_+b.size) d.size
def xL(c:Ca)(agZ:Nat)(bytes:ByteArray):Ca×Bool:=
 match bK c agZ with
 | (k,some j)=>
  match(pF c k)[j]? with
  |some w=>if w.data.size=0∨bytes.size+agZ%16>16 then(c,false)
   else(rK c k (modHd (λw=>{w with data:=Fk w.data (agZ%16) bytes,agQ:=true}) (eY (pF c k) j)),true)
  |none=>(c,false)
 |(_,none)=>(c,false)
def wB(c:Ca)(agY:Nat):Ca:=
 match bK c agY with
 |(k,some j)=>rK c k ((pF c k).modify j λw=>{w with agQ:=false})
 |(_,none)=>c
def cR(c:Ca):Option Wy:=if gG c=true then c.agJ.flatten.find? (·.agQ)else none
def BE(m:ByteArray)(p:Pt):ByteArray:=
 if p.agZ<m.size then m.extract 0 p.agZ++p.data.extract 0 (min p.data.size (m.size-p.agZ))++m.extract (p.agZ+min p.data.size (m.size-p.agZ)) m.size else m
def rP(m:ByteArray)(l:List Pt):ByteArray:=l.foldl BE m
def fP(q:List Req):List Pt:=(q.filter λx=>decide (x.kind=4)).map λx=>⟨x.agY,x.data⟩
def jZ(q:List Req)(m:ByteArray):ByteArray:=rP m (fP q)
def LV(c:Ca):List Pt:=c.agJ.flatten.map λw=>⟨w.agY,w.data⟩
def Ct(c:Ca)(q:List Req)(m:ByteArray):ByteArray:=rP (jZ q m) (LV c)
def ZS(agF:List Pt)(c:Ca)(q:List Req)(m:ByteArray):ByteArray:=rP (Ct c q m) agF
def Ga(m:ByteArray)(agY:Nat):ByteArray:=if lineOf agY<m.size then m.extract (lineOf agY) (lineOf agY+min (m.size-lineOf agY) 16)else oZ
def ZT:Gu:=⟨List.replicate 8 ⟨0,0⟩,0,[]⟩
def sM(g:Gu):Bool:=decide (g.agP.length=8)&&decide (g.ag2<8)&&decide (g.rets.length<=4)
def gO(g:Gu)(pc:Nat):Nat:=(pc/4^^^g.ag2)%8
def Ro(i:SI):Bool:=(decide (i.op=3)||decide (i.op=4))&&decide (i.rd=1)
def Gb(i:SI):Bool:=decide (i.op=4)&&decide (i.rd=0)&&decide (i.ag0=1)
def xC(g:Gu)(pc:Nat)(i:SI):Nat:=
 if sM g=true∧kindOf i.op=5 then
  if Gb i=true∧0<g.rets.length then g.rets.getLast?.getD 0
  else match g.agP[gO g pc]? with
   |some s=>if s.pc=pc∧ ¬(s.pc=0∧s.next=0)then s.next else up4 pc
   |none=>up4 pc
 else up4 pc
def fM(g:Gu)(pc next:Nat)(i:SI):Gu:=
 if sM g=true∧kindOf i.op=5 then
  {agP:=g.agP.set (gO g pc) ⟨pc,next⟩
   ag2:=(2*g.ag2+(if next≠up4 pc then 1 else 0))%8
   rets:=if Ro i=true then(if(g.rets++[up4 pc]).length>4 then(g.rets++[up4 pc]).drop 1 else g.rets++[up4 pc])
    else if Gb i=true∧0<g.rets.length then g.rets.dropLast else g.rets}
 else g
end Go.Proofs.YtlpkggpdjobpmaaGreatDoor
