/- Joined texts. -/
import Derived.Test.YtlhofpglndhfaaaGreatDoorS1
import Derived.Test.YtlhofpglndhfaaaGreatDoorS30
set_option linter.unusedVariables false
set_option linter.unusedSimpArgs false
namespace Go.Proofs.YtlhofpglndhfaaaGreatDoor
open Go.RowKit
theorem KD:∀ (ks:List CK) (xs ys:List Value) (b:Bool),eqVL ks xs ys=some b→xs.length=ks.length∧ys.length=ks.length
 |[],[],[],_,_=>⟨rfl,rfl⟩
 | k::ks,x::xs,y::ys,b,h=>by
  simp only[eqVL]at h;split at h
  ·rename_i a c h1 h2;obtain⟨e1,e2⟩:=KD ks xs ys c h2;exact⟨by simp[e1],by simp[e2]⟩
  ·cases h
 |[],[],_::_,_,h=>by simp[eqVL]at h
 |[],_::_,_,_,h=>by simp[eqVL]at h
 |_::_,[],_,_,h=>by simp[eqVL]at h
 |_::_,_::_,[],_,h=>by simp[eqVL]at h
theorem Ao:∀ (ks js:List CK) (xs ys:List Value) (b:Bool),eqVL (ks++js) xs ys=some b→
  ∃ b1 b2,eqVL ks (xs.take ks.length) (ys.take ks.length)=some b1∧eqVL js (xs.drop ks.length) (ys.drop ks.length)=some b2∧b=(b1&&b2)
 |[],js,xs,ys,b,h=>⟨true,b,by simp[eqVL],by simpa using h,by simp⟩
 | k::ks,js,x::xs,y::ys,b,h=>by
  simp only[mZ,eqVL]at h;split at h
  ·rename_i a c h1 h2;injection h with h;subst h;obtain⟨b1,b2,e1,e2,e3⟩:=Ao ks js xs ys c h2;refine⟨a&&b1,b2,?_,by simpa using e2,by rw[e3,pE]⟩;simp only[bN,nY,eqVL,h1,e1]
  ·cases h
 |_::_,_,[],_,_,h=>by simp[eqVL]at h
 |_::_,_,_::_,[],_,h=>by simp[eqVL]at h
def Ap(P:Program)(K:TypeId→Option (List CK)):Nat→List Field→Option (List CK)
 |_,[]=>some []
 | off,f::fs=>match f.name== "_",f.offset==off,P.info? f.type,K f.type with
  |false,true,some inf,some ks=>match inf.size==ks.length,Ap P K (off+ks.length) fs with
   |true,some js=>some (ks++js)
   |_,_=>none
  |_,_,_,_=>none
def cellK(P:Program):Nat→TypeId→Option (List CK)
 |0,_=>none
 | d+1,t=>match P.underlying t with
  |some .bool=>some [.b]
  |some (.int _)=>some [.i]
  |some .string=>some [.s]
  |some (.struct fs)=>match P.stoodInHeld t with|true=>none|false=>Ap P (cellK P d) 0 fs.toList
  |some (.array n e)=>match P.info? e,cellK P d e with
   |some inf,some ks=>(match inf.size==ks.length with|true=>some (List.flatten (List.replicate n ks))|false=>none)
   |_,_=>none
  |_=>none
def ER(P:Program)(D:Nat)(t:TypeId)(ks:List CK):Prop:=∀ (xs ys:Array Value) (off:Nat) (b:Bool) (w:World),
 eqVL ks ((xs.toList.drop off).take ks.length) ((ys.toList.drop off).take ks.length)=some b→
 ∃ u v,(part t xs off).run P w=.ok u w∧(part t ys off).run P w=.ok v w∧(Op.equalIn D t u v).run P w=.ok b w
theorem KE{P:Program}{D:Nat}{K:TypeId→Option (List CK)}(hK:∀ t ks inf,K t=some ks→P.info? t=some inf→inf.size=ks.length→ER P D t ks):
  ∀ (fs:List Field) (off:Nat) (js:List CK) (xs ys:Array Value) (b:Bool) (w:World),Ap P K off fs=some js→eqVL js (xs.toList.drop off) (ys.toList.drop off)=some b→
  (forIn fs ((none,()):Option Bool×PUnit) (λ f r=>do
    if f.name≠ "_" then
     if !(←Op.equalIn D f.type (←part f.type xs f.offset) (←part f.type ys f.offset))then pure (ForInStep.done (some false,()))else pure (ForInStep.yield (none,()))
    else pure (ForInStep.yield (none,())):Field→Option Bool×PUnit→Sem (ForInStep (Option Bool×PUnit)))).run P w=.ok (match b with|true=>(none,())|false=>(some false,())) w
 | [],off,js,xs,ys,b,w,hf,h=>by
  simp only[Ap,Option.some.injEq]at hf;subst hf;have hb:b=true:=by
   cases hx:xs.toList.drop off<;>cases hy:ys.toList.drop off<;>rw[hx,hy]at h<;>simp[eqVL]at h<;>first|exact h|exact h.symm
  subst hb;rfl
 | f ::fs,off,js,xs,ys,b,w,hf,h=>by
  simp only[Ap]at hf;split at hf
  ·rename_i inf ks h1 h2 h3 h4;split at hf
   ·rename_i js' h5 h6;injection hf with hf;subst hf;have e2:f.offset=off:=by simpa using h2
    have e5:inf.size=ks.length:=by simpa using h5
    have e1:f.name≠ "_" :=by simpa using h1
    obtain⟨b1,b2,g1,g2,g3⟩:=Ao ks js' _ _ b h;obtain⟨u,v,p1,p2,p3⟩:=hK f.type ks inf h4 h3 e5 xs ys off b1 w g1;have IH:=KE hK fs (off+ks.length) js' xs ys b2 w h6 (by simpa [kJ]using g2);simp only[List.forIn_cons,Sem.run_bind,e1,e2,ne_eq,not_false_eq_true,kK,p1,p2,p3,Result.andThen_ok]
    cases b1 with
    |false=>subst g3;simp
    |true=>
     simp only[lO,cR,gZ,Sem.run_pure,Result.andThen_ok];rw[g3,lP];simpa only[ne_eq]using IH
   ·cases hf
  ·cases hf
theorem UU{P:Program}{D:Nat}{t:TypeId}{K:TypeId→Option (List CK)}(hK:∀ t ks inf,K t=some ks→P.info? t=some inf→inf.size=ks.length→ER P D t ks)
  {fs:Array Field} (hu:P.underlying t=some (.struct fs)) (hst:P.stoodInHeld t=false) {ks:List CK} (hf:Ap P K 0 fs.toList=some ks) {xs ys:Array Value} {b:Bool} (w:World) (h:eqVL ks xs.toList ys.toList=some b):
  (Op.equalIn (D+1) t (.agg xs) (.agg ys)).run P w=.ok b w:=by
 rw[Op.equalIn];have:=KE hK fs.toList 0 ks xs ys b w hf (by simpa using h);simp only[Sem.run_bind,run_underlying hu,Result.andThen_ok,show Sem.run P program w=.ok P w from rfl,hst,cR,gZ];rw[←Array.forIn_toList];simp only[ne_eq,Sem.run_bind]at this⊢;rw[this];cases b<;>rfl
theorem Jo{P:Program}{D:Nat}{e:TypeId}{ks:List CK}{inf:TypeInfo}(hi:P.info? e=some inf)(hsz:inf.size=ks.length)(hK:ER P D e ks):
  ∀ (m s:Nat) (xs ys:Array Value) (b:Bool) (w:World),eqVL (List.flatten (List.replicate m ks)) (xs.toList.drop (s * ks.length)) (ys.toList.drop (s * ks.length))=some b→
  (forIn (List.range' s m) ((none,()):Option Bool×PUnit) (λ i r=>do
    if !(←Op.equalIn D e (←part e xs (i * ks.length)) (←part e ys (i * ks.length)))then pure (ForInStep.done (some false,()))else pure (ForInStep.yield (none,())):Nat→Option Bool×PUnit→Sem (ForInStep (Option Bool×PUnit)))).run P w=.ok (match b with|true=>(none,())|false=>(some false,())) w
 | 0,s,xs,ys,b,w,h=>by
  have hb:b=true:=by
   simp only[List.replicate_zero,List.flatten_nil]at h;cases hx:xs.toList.drop (s * ks.length)<;>cases hy:ys.toList.drop (s * ks.length)<;>rw[hx,hy]at h<;>simp[eqVL]at h<;>first|exact h|exact h.symm
  subst hb;rfl
 | m+1,s,xs,ys,b,w,h=>by
  rw[List.replicate_succ,mJ]at h;obtain⟨b1,b2,g1,g2,g3⟩:=Ao ks _ _ _ b h;obtain⟨u,v,p1,p2,p3⟩:=hK xs ys (s * ks.length) b1 w g1;have IH:=Jo hi hsz hK m (s+1) xs ys b2 w (by rw[cD,kG];simpa [kJ]using g2);rw[nA];simp only[List.forIn_cons,Sem.run_bind,p1,p2,p3,Result.andThen_ok]
  cases b1 with
  |false=>subst g3;simp
  |true=>
   simp only[lO,cR,gZ,Sem.run_pure,Result.andThen_ok];rw[g3,lP];exact IH
theorem KF{P:Program}:∀ (d D:Nat),d≤D→∀ t ks inf,cellK P d t=some ks→P.info? t=some inf→inf.size=ks.length→ER P D t ks
 |0,_,_,t,ks,_,h,_,_=>by simp[cellK]at h
 |d+1,0,hD,_,_,_,_,_,_=>by omega
 | d + 1,D+1,hD,t,ks,inf,h,hi,hsz=>by
  intro xs ys off b w he;simp only[cellK]at h;have sc:∀ (k:CK),ks=[k]→∃ u v,xs.toList[off]?=some u∧ys.toList[off]?=some v∧eqV k u v=some b:=by
   intro k hk;subst hk;obtain⟨l1,l2⟩:=KD _ _ _ _ he
   cases hx:(xs.toList.drop off)with
   |nil=>rw[hx]at l1;simp at l1
   | cons u us=>
    cases hy:(ys.toList.drop off)with
    |nil=>rw[hy]at l2;simp at l2
    | cons v vs=>
     rw[hx,hy]at he;simp only[bN,cW,bU,nY,pF,eqVL]at he;refine⟨u,v,?_,?_,?_⟩
     ·have:(xs.toList.drop off)[0]?=some u:=by rw[hx];rfl
      simpa using this
     ·have:(ys.toList.drop off)[0]?=some v:=by rw[hy];rfl
      simpa using this
     ·split at he
      ·rename_i a c g1 g2;injection g2 with g2;subst g2;rw[g1];simpa using he
      ·cases he
  have pt:∀ (dd:TypeDesc) (zs:Array Value) (u:Value),P.underlying t=some dd→dd.isRow=false→zs.toList[off]?=some u→(part t zs off).run P w=.ok u w:=by
   intro dd zs u hu hr hz;have hz':zs[off]?=some u:=by simpa using hz
   unfold part isAgg;simp only[Sem.run_bind,run_underlying hu,Result.andThen_ok];cases dd<;>first|(simp[TypeDesc.isRow]at hr;done)|(simp[hz'])
  split at h
  ·rename_i hu;injection h with h;subst h;obtain⟨u,v,g1,g2,g3⟩:=sc .b rfl;refine⟨u,v,pt _ _ _ hu rfl g1,pt _ _ _ hu rfl g2,?_⟩;cases u<;>cases v<;>simp[eqV]at g3
   rw[Op.equalIn];simp only[Sem.run_bind,run_underlying hu,Result.andThen_ok,Sem.run_pure];simp[g3]
  ·rename_i k0 hu;injection h with h;subst h;obtain⟨u,v,g1,g2,g3⟩:=sc .i rfl;refine⟨u,v,pt _ _ _ hu rfl g1,pt _ _ _ hu rfl g2,?_⟩;cases u<;>cases v<;>simp only[eqV]at g3<;>try (cases g3;done)
   split at g3
   ·rename_i hk;have:=Dl hk;subst this;rw[Op.equalIn];simp only[Sem.run_bind,run_underlying hu,Result.andThen_ok,kK,Sem.run_pure];simpa using g3
   ·cases g3
  ·rename_i hu;injection h with h;subst h;obtain⟨u,v,g1,g2,g3⟩:=sc .s rfl;refine⟨u,v,pt _ _ _ hu rfl g1,pt _ _ _ hu rfl g2,?_⟩;cases u<;>cases v<;>simp[eqV]at g3
   rw[Op.equalIn];simp only[Sem.run_bind,run_underlying hu,Result.andThen_ok,Sem.run_pure];simp[g3]
  ·rename_i fs hu;split at h
   ·cases h
   ·rename_i hst;have IH:∀ t ks inf,cellK P d t=some ks→P.info? t=some inf→inf.size=ks.length→ER P D t ks:=KF d D (by omega);have pa:∀ zs:Array Value,(part t zs off).run P w=.ok (.agg (zs.extract off (off+ks.length))) w:=by
     intro zs;unfold part isAgg sizeOf typeInfo;simp[run_underlying hu,hi,hsz]
    refine⟨_,_,pa xs,pa ys,UU IH hu hst h w ?_⟩;simpa [nB,List.extract]using he
  ·rename_i n e hu;split at h
   ·rename_i inf' ks' h1 h2;split at h
    ·rename_i h3;injection h with h;have hs':inf'.size=ks'.length:=by simpa using h3
     have IH:ER P D e ks':=KF d D (by omega) e ks' inf' h2 h1 hs';have pa:∀ zs:Array Value,(part t zs off).run P w=.ok (.agg (zs.extract off (off+ks.length))) w:=by
      intro zs;unfold part isAgg sizeOf typeInfo;simp[run_underlying hu,hi,hsz]
     refine⟨_,_,pa xs,pa ys,?_⟩;rw[Op.equalIn];have hz:(sizeOf e).run P w=.ok ks'.length w:=by unfold sizeOf typeInfo;simp[h1,hs']
     have L:=Jo h1 hs' IH n 0 (xs.extract off (off+ks.length)) (ys.extract off (off+ks.length)) b w (by rw[h];simpa [nB,List.extract]using he);simp only[Sem.run_bind,run_underlying hu,Result.andThen_ok,hz];simp only[Std.Legacy.Range.forIn_eq_forIn_range',Std.Legacy.Range.size,Nat.sub_zero,Nat.add_one_sub_one,sZ]
     (try simp only[Sem.run_bind]at L)
     rw[L];cases b<;>rfl
    ·cases h
   ·cases h
  ·cases h
theorem wW{P:Program}{d:Nat}{t:TypeId}{ks:List CK}(h:(match P.underlying t with
  |some (.struct fs)=>if (!P.stoodInHeld t&& !P.eqGuardType P.depth t)=true then Ap P (cellK P d) 0 fs.toList else none
  |_=>none)=some ks) (hd:Nat.ble d 9999=true:=by rfl):UW P t ks:=by
 intro xs ys b x y w he;split at h
 ·rename_i fs hu;split at h
  ·rename_i hc;simp only[aK,pR]at hc;have e1:(Op.equal t (.agg xs) (.agg ys)).run P w=.ok b w:=by
    unfold Op.equal;rw[show Op.maxDepth=9999+1 from rfl];exact UU (KF d 9999 (aR hd)) hu hc.1 h w he
   have e2:∀ op,(op=.eql∨op=.neq)→(eqGuard op t x y (.agg xs) (.agg ys)).run P w=.ok () w:=by
    intro op ho;unfold eqGuard;rcases ho with rfl|rfl<;>simp[show Sem.run P program w=.ok P w from rfl,hc.2]
   constructor
   ·simp only[Sem.run_bind,e2 .eql (.inl rfl),Result.andThen_ok,binOp,e1,Sem.run_pure]
   ·simp only[Sem.run_bind,e2 .neq (.inr rfl),Result.andThen_ok,binOp,e1,Sem.run_pure]
  ·cases h
 ·cases h
theorem Qh{P:Program}{d:Nat}{t e:TypeId}{n:Nat}{inf:TypeInfo}{ks ks':List CK}(hu:P.underlying t=some (.array n e))(h1:P.info? e=some inf)(h2:cellK P d e=some ks')(hs:inf.size=ks'.length)(h:List.flatten (List.replicate n ks')=ks)(hg:P.eqGuardType P.depth t=false)(hd:Nat.ble d 9999=true:=by rfl):UW P t ks:=by
 intro xs ys b x y w he;have e1:(Op.equal t (.agg xs) (.agg ys)).run P w=.ok b w:=by
  unfold Op.equal;rw[show Op.maxDepth=9999+1 from rfl,Op.equalIn];have hz:(sizeOf e).run P w=.ok ks'.length w:=by unfold sizeOf typeInfo;simp[h1,hs]
  have L:=Jo h1 hs (KF d 9999 (aR hd) e ks' inf h2 h1 hs) n 0 xs ys b w (by rw[h];simpa using he);simp only[Sem.run_bind,run_underlying hu,Result.andThen_ok,hz];simp only[Std.Legacy.Range.forIn_eq_forIn_range',Std.Legacy.Range.size,Nat.sub_zero,Nat.add_one_sub_one,sZ]
  (try simp only[Sem.run_bind]at L)
  rw[L];cases b<;>rfl
 have e2:∀ op,(op=.eql∨op=.neq)→(eqGuard op t x y (.agg xs) (.agg ys)).run P w=.ok () w:=by
  intro op ho;unfold eqGuard;rcases ho with rfl|rfl<;>simp[show Sem.run P program w=.ok P w from rfl,hg]
 constructor
 ·simp only[Sem.run_bind,e2 .eql (.inl rfl),Result.andThen_ok,binOp,e1,Sem.run_pure]
 ·simp only[Sem.run_bind,e2 .neq (.inr rfl),Result.andThen_ok,binOp,e1,Sem.run_pure]
def cI:List (Nat×AV)→Nat→AV
 |[],_=>.any
 |(i,x)::l,j=>match Nat.beq i j with|true=>x|false=>cI l j
def heapF:List (Nat×Blk)→AH
 |[],_=>none
 |(i,x)::l,j=>match Nat.beq i j with|true=>some x|false=>heapF l j
def WT(st:ASt)(n:Nat)(σ:Nat→Nat):List (Nat×AV)→Prop
 |[]=>True
 |(i,x)::l=>(st.t i=uK σ x∧mW n x=true)∧WT st n σ l
def WH(st:ASt)(n:Nat)(σ:Nat→Nat):List (Nat×Blk)→Prop
 |[]=>True
 |(i,x)::l=>(Nat.blt i n=true∧st.h (σ i)=some (Ew σ x)∧tC n x=true)∧WH st n σ l
def KC(x:Nat):List Nat→Bool
 |[]=>true
 |y::l=>match Nat.beq x y with|true=>false|false=>KC x l
def EM:List Nat→Bool
 |[]=>true
 |x::l=>match KC x l with|true=>EM l|false=>false
theorem EN:∀ (l:List Nat) (x:Nat),KC x l=true→x ∉ l
 |[],_,_=>by simp
 | y::l,x,h=>by
  simp only[KC]at h;split at h
  ·cases h
  ·rename_i hb;have:x≠y:=λ e=>by subst e;simp at hb
   simp[this,EN l x h]
theorem EO{σ:Nat→Nat}:∀ (l:List Nat),EM (l.map σ)=true→∀ a∈l,∀ b∈l,σ a=σ b→a=b
 |[],_=>by simp
 | x::l,h=>by
  simp only[iW,EM]at h;split at h
  ·rename_i hf;have hn:=EN _ _ hf;have ih:=EO l h;intro a ha b hb e;rcases al_List_mem_cons.1 ha with rfl|ha
   ·rcases al_List_mem_cons.1 hb with hb|hb
    ·exact hb.symm
    ·exact absurd (rK.2 ⟨b,hb,e.symm⟩) hn
   ·rcases al_List_mem_cons.1 hb with hb|hb
    ·exact absurd (rK.2 ⟨a,ha,e.trans (congrArg σ hb)⟩) hn
    ·exact ih a ha b hb e
  ·cases h
theorem Weak.of_lists{st:ASt}{l:List (Nat×AV)}{hp:List (Nat×Blk)}{n:Nat}(σ:Nat→Nat)(ht:WT st n σ l)(hh:WH st n σ hp)(hi:EM ((hp.map (·.1)).map σ)=true):Weak st ⟨cI l,heapF hp,n⟩ σ:=by
 have keyH:∀ (hp:List (Nat×Blk)) s blk,heapF hp s=some blk→s∈hp.map (·.1):=by
  intro hp
  induction hp with
  |nil=>intro s blk h;simp[heapF]at h
  | cons p hp ih=>
   obtain⟨i,x⟩:=p;intro s blk h;simp only[heapF]at h;split at h
   ·rename_i hb;simp[aM hb]
   ·simp[ih s blk h]
 refine⟨λ i=>?_,λ s blk hs=>?_,λ s s' h1 h2 e=>?_⟩
 ·clear hh hi
  induction l with
  |nil=>exact .inl rfl
  |cons p l ih=>
   obtain⟨j,x⟩:=p;obtain⟨⟨h1,h2⟩,h3⟩:=ht;show cI _ _=_∨(_=uK σ (cI _ _)∧mW n (cI _ _)=true);simp only[cI]
   cases hb:Nat.beq j i with
   |true=>exact .inr (by rw[←aM hb];exact⟨h1,h2⟩)
   |false=>exact ih h3
 ·clear ht hi
  induction hp with
  |nil=>cases hs
  | cons p hp ih=>
   obtain⟨j,x⟩:=p;obtain⟨⟨h1,h2,h3⟩,h4⟩:=hh
   change heapF _ _=_ at hs
   simp only[heapF]at hs
   cases hb:Nat.beq j s with
   |true=>
    rw[hb]at hs;injection hs with hs;subst hs;rw[←aM hb]
    exact⟨aR h1,h2,h3⟩
   |false=>rw[hb]at hs;exact ih h4 hs
 ·cases e1:heapF hp s with
  |none=>exact absurd e1 h1
  |some b1=>
   cases e2:heapF hp s' with
   |none=>exact absurd e2 h2
   |some b2=>exact EO _ hi s (keyH hp s b1 e1) s' (keyH hp s' b2 e2) e
section
variable {C:Ctx}{V:Inv C.fr}{R:FuncId→List AV→AV→Prop}
theorem MZ{h:AH}{s:Nat}{r:Res}{K K':AV→AH→Prop}(hk:∀ x h,K x h→K' x h)(hn:node C R h s r K):node C R h s r K':=by
 cases r<;>simp only[node]at hn⊢
 case ok=>exact hk _ _ hn
 case need=>exact .mk hn.1 (hk _ _ hn.2)
 case idx=>
  obtain⟨row,hr,h1⟩:=hn;refine .mk row hr ?_;split
  ·rename_i hx;rw[hx]at h1;exact hk _ _ h1
  ·rename_i hx;rw[hx]at h1;exact h1.elim
 case fx=>exact .mk hn.1 (hk _ _ hn.2)
 case idxfx=>
  obtain⟨row,hr,h1⟩:=hn;refine .mk row hr ?_;split
  ·rename_i hx;rw[hx]at h1;exact hk _ _ h1
  ·rename_i hx;rw[hx]at h1;exact h1.elim
 case str=>obtain⟨l,h1,h2⟩:=hn;exact .mk l h1 (hk _ _ h2)
 case call=>
  rcases hn with hn|hn
  ·obtain⟨x,a,b,c,d,e⟩:=hn;exact .inl (.mk x a b c d (hk _ _ e))
  ·obtain⟨Post,a,b⟩:=hn;exact .inr (.mk Post a λ r h' hP=>hk _ _ (b r h' hP))
theorem EP{h:AH}{g:Bool}{r:Res}{K K':AV→AH→Prop}(hk:∀ x h,K x h→K' x h)(hn:BI C R h g r K):BI C R h g r K':=by
 cases r<;>simp only[BI]at hn⊢
 case ok=>exact hk _ _ hn
 case need=>exact .mk hn.1 (hk _ _ hn.2)
 case idx=>
  obtain⟨row,hr,h1⟩:=hn;refine .mk row hr ?_;split
  ·rename_i hx;rw[hx]at h1;exact hk _ _ h1
  ·rename_i hx;rw[hx]at h1;exact h1.elim
 case str=>obtain⟨l,h1,h2⟩:=hn;exact .mk l h1 (hk _ _ h2)
 case call=>obtain⟨x,a,b,c,d,e⟩:=hn;exact .mk x a b c d (hk _ _ e)
theorem EQ{all:List Oper}{o:Oper}{s:Nat}{t:Nat→AV}{h:AH}{K K':AV→AH→Prop}(hk:∀ x h,K x h→K' x h)(hn:uZ C R all o s t h K):uZ C R all o s t h K':=by
 unfold uZ at hn⊢;split
 ·rename_i hg;rw[hg]at hn;exact MZ hk hn
 ·rename_i i pol hg;rw[hg]at hn;simp only at hn;split
  ·rename_i hd;rw[hd]at hn;exact hn
  ·rename_i d hd;rw[hd]at hn;simp only at hn;split
   ·rename_i hv;rw[hv]at hn;exact hn
   ·rename_i g hv;rw[hv]at hn;simp only at hn;split
    ·rename_i hc;rw[hc]at hn;exact EP hk hn
    ·rename_i c hc;rw[hc]at hn;exact .mk hn.1 (EP hk hn.2)
theorem Dc{all:List Oper}{K K':ASt→Prop}(hk:∀ st,K st→K' st):∀ (l:List Oper) (j:Nat) (st:ASt),kL C R all l j st K→kL C R all l j st K'
 |[],_,_,h=>hk _ h
 |_::l,j,_,h=>EQ (λ _ _ q=>Dc hk l (j+1) _ q) h
theorem Ho{α:Type}{P P':α→Prop}(h:∀ x,P x→P' x):∀ l,forL P l→forL P' l
 |[],_=>trivial
 |x::l,k=>⟨h x k.1,Ho h l k.2⟩
theorem Hp{ops:Array Oper}{K K':ASt→Prop}(hk:∀ st,K st→K' st):∀ (fuel:Nat) (listed:Array Bool) (st:ASt),Tm C R ops K fuel listed st→Tm C R ops K' fuel listed st
 |0,_,_,h=>⟨h.1,hk _ h.2⟩
 | fuel+1,listed,st,h=>⟨h.1,Ho (λ i q=>by
   unfold Ve at q⊢;split
   ·rename_i o ho;rw[ho]at q;exact EQ (λ _ _ q=>Hp hk fuel _ _ q) q
   ·rename_i ho;rw[ho]at q;exact q) _ h.2⟩
theorem kI:∀ (c:Code) (st:ASt) (Q Q':AEx→ASt→Prop),(∀ e st,Q e st→Q' e st)→gC C R c st Q→gC C R c st Q'
 | .skip,_,_,_,hq,h=>hq _ _ h
 | .label _,_,_,_,hq,h=>hq _ _ h
 | .region _ ops dr,_,_,_,hq,h=>by
  simp only[gC]at h⊢;split
  ·rename_i hb;rw[hb]at h;exact h.elim (λ h=>.inl (Hp (λ st q=>hq _ st q) _ _ _ h)) λ h=>.inr ⟨h.1,Dc (λ st q=>⟨q.1,hq _ st q.2⟩) _ _ _ h.2⟩
  ·rename_i hb;rw[hb]at h;exact Dc (λ st q=>hq _ st q) _ _ _ h
 | .seq a b,st,Q,Q',hq,h=>h.imp
  (λ h=>kI a st _ _ (λ e st' k=>by
   cases e with
   |normal=>exact kI b st' Q Q' hq k
   |exit i=>exact hq _ _ k
   |ret=>exact hq _ _ k) h)
  (λ h=>h.imp (λ h=>kI a st _ _ (λ e st' k=>by
   cases e with
   |normal=>obtain⟨st2,g,k⟩:=k;exact .mk st2 g (kI b st2 Q Q' hq k)
   |exit i=>exact hq _ _ k
   |ret=>exact hq _ _ k) h)
   (λ h=>kI a st _ _ (λ e st' k=>by
   cases e with
   |normal=>obtain⟨st2,g,st3,σ,h1,h2,k⟩:=k;exact .mk st2 g (.mk st3 σ h1 h2 (kI b st3 Q Q' hq k))
   |exit i=>exact hq _ _ k
   |ret=>exact hq _ _ k) h))
 | .cond c x y,st,Q,Q',hq,h=>by
  simp only[gC]at h⊢;split
  ·rename_i b hv;rw[hv]at h;obtain⟨h1,h2⟩:=h;exact .mk (λ e=>kI x st Q Q' hq (h1 e)) (λ e=>kI y st Q Q' hq (h2 e))
  ·rename_i hv;split at h
   ·rename_i b hv';exact absurd hv' (hv b)
   ·exact h
 | .block id b,st,Q,Q',hq,h=>kI b st _ _ (λ e st' k=>by
   cases e with
   |normal=>exact hq _ _ k
   |exit i=>
    simp only at k⊢;split
    ·rename_i hb;rw[hb]at k;exact hq _ _ k
    ·rename_i hb;rw[hb]at k;exact hq _ _ k
   |ret=>exact hq _ _ k) h
 | .loop b,st,Q,Q',hq,h=>by
  obtain⟨I,μ,st0,σ,hw,hf,h0,round⟩:=h;exact .mk I μ st0 σ hw hf h0 λ st' hi=>kI b st' _ _ (λ e st'' k=>by
   cases e with
   |normal=>exact k
   |exit i=>exact hq _ _ k
   |ret=>exact hq _ _ k) (round st' hi)
 | .exit id,_,_,_,hq,h=>hq _ _ h
 | .ret,_,_,_,hq,h=>hq _ _ h
end
theorem qW{C:Ctx}{R:FuncId→List AV→AV→Prop}{b:Code}{st:ASt}{Q:AEx→ASt→Prop}{κ:Type}(S:κ→ASt)(G:κ→Prop)(μ:κ→Nat)(k0:κ)(σ:Nat→Nat)(hw:Weak st (S k0) σ)(hf:keepB C.fr σ (S k0).n=true)(h0:G k0)
  (round:∀ k,G k→gC C R b (S k) (λ e st'=>match e with| .normal=>GhostN st' (λ stg=>∃ k' σ,Weak stg (S k') σ∧keepB C.fr σ (S k').n=true∧G k'∧μ k'<μ k)|e=>Q e st')):gC C R (.loop b) st Q:=by
 show LoopN C.fr (gC C R b) st Q
 classical
 have least:∀ (st:ASt) (n:Nat) (k:κ),G k→st=S k→μ k≤n→∃ k,G k∧st=S k∧∀ k',G k'→st=S k'→μ k≤μ k':=by
  intro st n
  induction n with
  |zero=>intro k h1 h2 h3;exact⟨k,h1,h2,λ k' _ _=>by omega⟩
  |succ n ih=>
   intro k h1 h2 h3;by_cases hc:∃ k',G k'∧st=S k'∧μ k'≤n
   ·obtain⟨k',p,q,r⟩:=hc;exact ih k' p q r
   ·exact⟨k,h1,h2,λ k' p q=>aT (jY (aL h3 (Nat.lt_of_not_le λ r=>hc ⟨k',p,q,r⟩)))⟩
 have hl:∀ st:ASt,(∃ k,G k∧st=S k)→∃ k,G k∧st=S k∧∀ k',G k'→st=S k'→μ k≤μ k':=λ st ⟨k,p,q⟩=>least st (μ k) k p q (aC _)
 let M:ASt→Nat:=λ st=>open Classical in if h:∃ k,G k∧st=S k then μ (Classical.choose (hl st h))else 0
 have hM:∀ st k,G k→st=S k→M st≤μ k:=by
  intro st k p q;have h:∃ k,G k∧st=S k:=⟨k,p,q⟩;show dite _ _ _≤_;rw[dif_pos h];exact (mR (hl st h)).2.2 k p q
 refine .mk (λ st=>∃ k,G k∧st=S k) M (S k0) σ hw hf ⟨k0,h0,rfl⟩ ?_;rintro st' h;have e:M st'=μ (Classical.choose (hl st' h)):=dif_pos h;obtain⟨p,q,r⟩:=mR (hl st' h);generalize Classical.choose (hl st' h)=k at e p q r;subst q;have:=round k p;refine kI b _ _ _ (λ e' st'' hq=>?_) this
 cases e' with
 |normal=>
  obtain⟨stg,g,k',σ',h1,hf',h2,h3⟩:=hq
  exact .mk stg g ⟨S k',σ',h1,hf',⟨k',h2,rfl⟩,by rw[e];exact bM (hM _ k' h2 rfl) h3⟩
 |exit i=>exact hq
 |ret=>exact hq
theorem kZ{C:Ctx}{R:FuncId→List AV→AV→Prop}{b:Code}{st:ASt}{Q:AEx→ASt→Prop}{κ:Type}(S:κ→ASt)(G:κ→Prop)(μ:κ→Nat)(k0:κ)(σ:Nat→Nat)(hw:Weak st (S k0) σ)(h0:G k0)
  (round:∀ k,G k→gC C R b (S k) (λ e st'=>match e with| .normal=>∃ k' σ,Weak st' (S k') σ∧G k'∧μ k'<μ k|e=>Q e st')) (hfr:C.fr=0:=by rfl):gC C R (.loop b) st Q:=by
 refine qW S G μ k0 σ hw (by rw[hfr];rfl) h0 λ k hk=>kI b _ _ _ (λ e st' q=>?_) (round k hk)
 cases e with
 |normal=>obtain⟨k',σ',h1,h2,h3⟩:=q;exact .mk st' (.refl _) ⟨k',σ',h1,by rw[hfr];rfl,h2,h3⟩
 |exit i=>exact q
 |ret=>exact q
def Ww:List AV→Option (List Value)
 |[]=>some []
 | .v x::cs=>match Ww cs with|some l=>some (x::l)|none=>none
 |_::_=>none
def Qg:AV→Option Value
 | .v x=>some x
 | .agg cs=>match Ww cs with|some l=>(match UO l with|true=>some (.agg l.toArray)|false=>none)|none=>none
 |_=>none
def Hq:List AV→Option (List Value)
 |[]=>some []
 |x::cs=>match Qg x,Hq cs with|some u,some l=>some (u::l)|_,_=>none
theorem FC:∀ (cs:List AV) (l:List Value),Ww cs=some l→cs=l.map .v
 |[],l,h=>by injection h with h;subst h;rfl
 | c::cs,l,h=>by
  cases c<;>simp only[Ww]at h<;>try (cases h;done)
  split at h
  ·rename_i l' hl;injection h with h;subst h;rw[FC cs l' hl];rfl
  ·cases h
section
variable {S:Nat→Prop}{w:World}{β:Bt}
theorem FD{a:AV}{u:Value}(h:Qg a=some u):Rep S w β a u:=by
 cases a<;>simp only[Qg]at h<;>try (cases h;done)
 case v x=>injection h with h;subst h;exact .v _
 case agg cs=>
  split at h
  ·rename_i l hl;split at h
   ·rename_i ho;injection h with h;subst h;have:=FC cs l hl;subst this;refine .agg _ _ (by simp) (λ i u hu=>AP _ ho i u (by simpa using hu)) λ i a u h1 h2=>?_;have h2':l[i]?=some u:=by simpa using h2
    simp[h2']at h1;subst h1;exact .v _
   ·cases h
  ·cases h
theorem Na{a:AV}{u v:Value}(h:Qg a=some u)(hr:Rep S w β a v):v=u:=by
 cases a<;>simp only[Qg]at h<;>try (cases h;done)
 case v x=>injection h with h;subst h;cases hr;rfl
 case agg cs=>
  split at h
  ·rename_i l hl;split at h
   ·injection h with h;subst h;have:=FC cs l hl;subst this
    cases hr with
    | agg _ vs hl1 h1 hh=>
     congr 1;apply Array.ext
     ·simpa using hl1.symm
     ·intro i p q;have p1:vs[i]?=some vs[i]:=aS p;have q1:i<l.length:=by simpa using q
      have:=hh i (.v l[i]) vs[i] (by simp[q1]) p1;have:=kW this;rw[this];simp
   ·cases h
  ·cases h
theorem FE:∀ {args:List AV} {vs:List Value},Hq args=some vs→args.length=vs.length
 |[],vs,h=>by injection h with h;subst h;rfl
 | x::args,vs,h=>by
  simp only[Hq]at h;split at h
  ·rename_i u l h1 h2;injection h with h;subst h;simp[FE h2]
  ·cases h
theorem FF:∀ {args:List AV} {vs:List Value},Hq args=some vs→∀ (i:Nat) a u,args[i]?=some a→vs[i]?=some u→Qg a=some u
 |[],vs,h,i,a,u,h1,_=>by simp at h1
 | x::args,vs,h,i,a,u,h1,h2=>by
  simp only[Hq]at h;split at h
  ·rename_i u' l g1 g2;injection h with h;subst h
   cases i with
   |zero=>simp at h1 h2;subst h1;subst h2;exact g1
   |succ i=>exact FF g2 i a u (by simpa using h1) (by simpa using h2)
  ·cases h
theorem CL{args:List AV}{vs:List Value}(h:Hq args=some vs):RepL S w β args vs:=
 ⟨FE h,λ i a u h1 h2=>FD (FF h i a u h1 h2)⟩
theorem Jm{args:List AV}{vs us:List Value}(h:Hq args=some vs)(hr:RepL S w β args us):us=vs:=by
 apply dQ;intro i;have l1:=FE h;have l2:args.length=us.length:=hr.1;rcases al_Nat_lt_or_ge i args.length with k|k
 ·have e1:args[i]?=some args[i]:=aA k;have e2:us[i]?=some us[i]:=aA (by omega);have e3:vs[i]?=some vs[i]:=aA (by omega);rw[e2,e3,Na (FF h i _ _ e1 e3) (hr.2 i _ _ e1 e2)]
 ·rw[bR (by omega),bR (by omega)]
end
theorem okB{a b:Bool}(h:a=b):Res.ok (.v (.bool a))=.ok (.v (.bool b)):=by rw[h]
theorem okI{k:IntKind}{a b:Int}(h:a=b):Res.ok (.v (.int k a))=.ok (.v (.int k b)):=by rw[h]
theorem Jn{p:Prop}{k:IntKind}{a b:Int}(h:a=b):Res.need p (.v (.int k a))=.need p (.v (.int k b)):=by rw[h]
theorem eqN(x y:Nat):((x:Int)==(y:Int))=(x==y):=by rw[bT];simp only[pD];omega
theorem neN(x y:Nat):((x:Int) != (y:Int))=(x != y):=by simp only[bne,eqN]
theorem ltN(x y:Nat):decide ((x:Int)<(y:Int))=decide (x<y):=by simp only[En]
theorem leN(x y:Nat):decide ((x:Int)≤(y:Int))=decide (x≤y):=by simp only[Eo]
theorem gtN(x y:Nat):decide ((x:Int)>(y:Int))=decide (x>y):=ltN y x
theorem geN(x y:Nat):decide ((x:Int)≥(y:Int))=decide (x≥y):=leN y x
theorem Hr{e B M:Nat}(h:e≤B)(hB:Nat.blt B M=true):((e % M:Nat):Int)=((e:Nat):Int):=by
 have:=aR hB;rw[qH (by omega)]
theorem Se{x y B:Nat}(h:y≤B)(hB:Nat.ble B 4294967296=true):IntKind.wrap .u32 ((x:Int) - (y:Int))=(((x+4294967296 - y) % 4294967296:Nat):Int):=by
 have:=aR hB;simp only[IntKind.wrap,IntKind.signed,IntKind.bits];simp;omega
theorem wrap_i64{x:Int}(h1: -9223372036854775808≤x)(h2:x<9223372036854775808):IntKind.wrap .i64 x=x:=by
 simp only[IntKind.wrap,IntKind.signed,IntKind.bits];simp;omega
theorem bS{e B:Nat}(h:e≤B)(hB:Nat.blt B 9223372036854775808=true):IntKind.wrap .i64 ((e:Nat):Int)=((e:Nat):Int):=by
 have:=aR hB;exact wrap_i64 (by omega) (by omega)
theorem Sf{x B:Nat}(h:x≤B)(hB:Nat.ble B 4294967295=true):(BitVec.ofInt 32 (x:Int)).toNat=x:=by
 have:=aR hB;rw[BitVec.toNat_ofInt];omega
theorem US{x:Nat}(h:x<4294967296):IntKind.wrap .u32 (x:Int)=(x:Int):=(Hr (e:=x) (B:=x) (M:=4294967296) (aC _) (jS h))
theorem Nb{x y B D:Nat}(hx:x≤B)(hy:y≤D)(hB:Nat.ble B 4294967295=true)(hD:Nat.ble D 4294967295=true):x ^^^ y≤4294967295:=
 aT (mB (n:=32) (jY (aL hx (aR hB))) (jY (aL hy (aR hD))))
theorem UT{x y B D:Nat}(hx:x≤B)(hy:y≤D)(hB:Nat.ble B 4294967295=true)(hD:Nat.ble D 4294967295=true):
  IntKind.wrap .u32 (BitVec.ofInt (IntKind.bits .u32) (x:Int) ^^^ BitVec.ofInt (IntKind.bits .u32) (y:Int)).toNat=((x ^^^ y:Nat):Int):=by
 show IntKind.wrap .u32 (BitVec.ofInt 32 (x:Int) ^^^ BitVec.ofInt 32 (y:Int)).toNat=_;rw[BitVec.toNat_xor,Sf hx hB,Sf hy hD];exact US (jY (Nb hx hy hB hD))
theorem FG{C:Ctx}{fn:Func}{r:AV}{st:ASt}{rs:List AV}(h1:resA C st fn.results.toList=some rs)(h2:jG st.h (Cz rs))(h3:eM (uJ st.h (Cz rs))=true)(h4:uJ st.h (Cz rs)=r):Sg C fn r st:=
 ⟨rs,h1,h2,h3,h4 ▸ Sub.refl _⟩
theorem bY.of_flat{C:Ctx}{f:FuncId}{fn:Func}{args:List AV}{vs:List Value}{r:AV}{v:Value}(hf:C.P.funcs[f]?=some fn)(hb:fn.body.isSome=true)(hnm:(fn.name== "runtime.NumGoroutine")=false)
  (ha:Hq args=some vs) (hr:Qg r=some v) (hc:∀ w,Calls C.P f vs.toArray w λ e w'=>e=.returned v∧Below w.heap.size w w'):bY C f args r:=
 ⟨⟨fn,hf,hb,hnm⟩,λ S w us hS hG hu=>by
  rw[Jm ha hu];exact (hc w).mono λ e w' ⟨he,hB⟩=>⟨v,he,hB,FD hr⟩⟩
theorem bY.flat{C:Ctx}{f:FuncId}{args:List AV}{vs:List Value}{r:AV}{v:Value}(h:bY C f args r)(hG:∀ S w,GOk C S w)(ha:Hq args=some vs)(hr:Qg r=some v)(w:World):
  Calls C.P f vs.toArray w λ e w'=>e=.returned v∧Below w.heap.size w w':=
 (h.2 (λ _=>False) w vs (λ _ h=>h.elim) (hG _ _) (CL ha)).mono λ e w' ⟨u,he,hB,hu⟩=>⟨by rw[he,Na hr hu],hB⟩
abbrev vU(n:Nat):AV:=.v (.int .u32 (n:Int))
abbrev zU:AV:=.v (.int .u32 0)
abbrev vN(n:Nat):AV:=.v (.int .i64 (n:Int))
abbrev vI(n:Int):AV:=.v (.int .i64 n)
abbrev vB(b:Bool):AV:=.v (.bool b)
section
variable {C:Ctx}{R:FuncId→List AV→AV→Prop}{all rest:List Oper}{o:Oper}{j n:Nat}{t:Nat→AV}{h h':AH}{K:ASt→Prop}{Q:AEx→ASt→Prop}{fn:Func}{st:ASt}
theorem rE(n':Nat)(k:K ⟨t,h,n'⟩)(e:n+j=n':=by exact rfl):kL C R all [] j ⟨t,h,n⟩ K:=JE e k
theorem rF(d:Nat)(x:AV)(h':AH)(k:kL C R all rest (j+1) ⟨upd t d x,h',n⟩ K)(hg:o.guard=none:=by exact rfl)(hd:o.dst=some d:=by exact rfl)(hx:opA C (evA C t) h (n+j) o.op=.fx True x h':=by exact rfl):kL C R all (o::rest) j ⟨t,h,n⟩ K:=rFx hg hd hx trivial k
theorem rS(h':AH)(k:kL C R all rest (j+1) ⟨t,h',n⟩ K)(hg:o.guard=none:=by exact rfl)(hd:o.dst=none:=by exact rfl)(hx:opA C (evA C t) h (n+j) o.op=.fx True .any h':=by exact rfl):kL C R all (o::rest) j ⟨t,h,n⟩ K:=Vf hg hd hx trivial k
theorem fB{x y:Bool}(h1:resA C st fn.results.toList=some [.v (.bool x)])(e:x=y):Sg C fn (.v (.bool y)) st:=FG h1 trivial rfl (by rw[e];rfl)
end
theorem c2(c x y:Bool):cA c x y=(c&&x|| !c&&y):=by cases c<;>simp[cA]
def fA:AV→Option AV
 | .v x=>some (.v x)
 | .agg cs=>some (.agg cs)
 | .tup cs=>some (.tup cs)
 | .sl a b c=>some (.sl a b c)
 | .dp a b c=>some (.dp a b c)
 | .ptr a b=>some (.ptr a b)
 | .ptr2 a b c=>some (.ptr2 a b c)
 | .osl a b c d=>some (.osl a b c d)
 | .clo f a b=>some (.clo f a b)
 | .opt g x=>some (.opt g x)
 | .any=>some .any
theorem NK{x y:AV}(h:fA x=some y):x=y:=by cases x<;>cases h<;>rfl
def Vh:List AV→Nat→Option AV
 |[],_=>none
 |x::_,0=>fA x
 |_::xs,n+1=>Vh xs n
theorem JK{l:List AV}{i:Nat}{y:AV}(h:Vh l i=some y):KL l i=some y:=by
 induction l generalizing i with
 |nil=>cases h
 |cons x l ih=>cases i with
  |zero=>exact congrArg some (NK h)
  |succ i=>exact ih h
def QM:Nat→List AV→(List AV→Option AV)→Option AV
 |0,_,k=>k []
 |_+1,[],k=>k []
 |n+1,x::xs,k=>QM n xs (λ l=>k (x::l))
theorem Gm(n:Nat)(l:List AV)(k:List AV→Option AV):QM n l k=k (FY n l):=by
 induction n generalizing l k with
 |zero=>rfl
 |succ n ih=>cases l with
  |nil=>rfl
  |cons x l=>exact ih l _
def QN(C:Ctx)(t:TypeId)(rs col:Nat)(row:List AV):Option AV:=
 match C.ty t with
 |some ⟨_,sz,true,_,_,_⟩=>
  match col,Nat.beq sz rs with
  |0,true=>some (.agg row)
  |_,_=>QM sz (Et col row) λ l=>match Nat.beq l.length sz with|true=>some (.agg l)|false=>none
 |some ⟨_,_,false,_,_,_⟩=>Vh row col
 |none=>none
theorem KN{C:Ctx}{t:TypeId}{rs col:Nat}{row:List AV}{y:AV}(h:QN C t rs col row=some y):Gb C t rs col row=some y:=by
 unfold QN at h;unfold Gb
 cases ht:C.ty t with
 |none=>rw[ht]at h;cases h
 | some ti=>
  obtain⟨kd,sz,ag,z,b,eq⟩:=ti;rw[ht]at h
  cases ag with
  |false=>exact JK h
  |true=>
   cases col with
   |zero=>cases hb:Nat.beq sz rs<;>(simp only[hb,Gm]at h⊢;exact h)
   |succ c=>simp only[Gm]at h⊢;exact h
def Tp(C:Ctx)(t:TypeId)(cs:List AV)(off:Nat):Option AV:=
 match C.ty t with
 |some ⟨_,sz,true,_,_,_⟩=>QM sz (Et off cs) λ l=>some (.agg l)
 |some ⟨_,_,false,_,_,_⟩=>Vh cs off
 |none=>none
theorem QO{C:Ctx}{t:TypeId}{cs:List AV}{off:Nat}{y:AV}(h:Tp C t cs off=some y):Me C t cs off=some y:=by
 unfold Tp at h;unfold Me
 cases ht:C.ty t with
 |none=>rw[ht]at h;cases h
 |some ti=>
  obtain⟨kd,sz,ag,z,b,eq⟩:=ti;rw[ht]at h
  cases ag with
  |false=>exact JK h
  |true=>simp only[Gm]at h⊢;exact h
def NL(C:Ctx)(h:AH)(t:TypeId)(a:AV):Option AV:=
 match a with
 | .ptr b c=>match h b with|some (.box cells)=>QN C t cells.length c cells|_=>none
 | .dp rs c row=>QN C t rs c row
 |_=>none
def So(C:Ctx)(t:TypeId)(f:Nat)(a:AV):Option AV:=
 match C.ty t with
 |some ⟨.struct fs,_,_,_,_,_⟩=>match Nz fs f,a with|some (off,ft),.agg cs=>Tp C ft cs off|_,_=>none
 |_=>none
def okF(r:Res):Option AV:=match r with| .ok x=>fA x|_=>none
def sA(C:Ctx)(ev:Operand→AV)(h:AH)(op:Op):Option AV:=
 match op with
 | .move x| .assign x=>fA (ev x)
 | .load t a=>NL C h t (ev a)
 | .nilCheck x=>okF (QJ (ev x))
 | .fieldAddr t x f=>okF (nO C t f (ev x))
 | .field t x f=>So C t f (ev x)
 | .extract x i=>match ev x with| .tup vs=>Vh vs i|_=>none
 | .unOp .not _ x=>match ev x with| .v (.bool b)=>some (.v (.bool (!b)))|_=>none
 |_=>none
theorem Sq{r:Res}{x:AV}(h:okF r=some x):r=.ok x:=by
 unfold okF at h;split at h
 ·exact congrArg Res.ok (NK h)
 ·cases h
theorem Tq{C:Ctx}{ev:Operand→AV}{h:AH}{s:Nat}{op:Op}{x:AV}(e:sA C ev h op=some x):opA C ev h s op=.ok x:=by
 unfold sA at e;split at e
 ·exact congrArg Res.ok (NK e)
 ·exact congrArg Res.ok (NK e)
 ·rename_i t a;show rX C h t (ev a)=.ok x;unfold NL at e;unfold rX;generalize ev a=z at e⊢
  cases z with
  |ptr b c=>
   simp only at e⊢;split at e
   ·rename_i h1;simp only[h1];rw[KN e];rfl
   ·cases e
  |dp rs c row=>simp only at e⊢;rw[KN e];rfl
  |_=>cases e
 ·exact Sq e
 ·exact Sq e
 ·rename_i t y f;show yU C t f (ev y)=.ok x;unfold So at e;unfold yU;split at e
  ·rename_i h1;simp only[h1];split at e
   ·rename_i h2 h3;simp only[h2,h3];rw[QO e];rfl
   ·cases e
  ·cases e
 ·rename_i y i;show qY i (ev y)=.ok x;unfold qY;split at e
  ·rename_i h1;simp only[h1];rw[JK e];rfl
  ·cases e
 ·rename_i t y;show unA .not (ev y)=.ok x;split at e
  ·rename_i h1;cases e;simp only[unA,h1]
  ·cases e
 ·cases e
def sO(C:Ctx)(t:Nat→AV)(h:AH)(o:Oper):Option (Nat×AV):=
 match o.guard,o.dst with
 |none,some d=>(match sA C (evA C t) h o.op with|some x=>some (d,x)|none=>none)
 |_,_=>none
theorem WL{C:Ctx}{t:Nat→AV}{h:AH}{o:Oper}{d:Nat}{x:AV}(e:sO C t h o=some (d,x)):o.guard=none∧o.dst=some d∧sA C (evA C t) h o.op=some x:=by
 unfold sO at e;split at e
 ·rename_i h1 h2;split at e
  ·rename_i h3;cases e;exact⟨h1,h2,h3⟩
  ·cases e
 ·cases e
def WM(C:Ctx)(h:AH):Nat→List Oper→(Nat→AV)→Option (List Oper×(Nat→AV))
 |0,ops,t=>some (ops,t)
 |_+1,[],_=>none
 |m+1,o::ops,t=>match sO C t h o with|some (d,x)=>WM C h m ops (upd t d x)|none=>none
def KO:AV→Bool→Option Bool
 | .v (.bool b),true=>some b
 | .v (.bool b),false=>some (!b)
 | .opt a (.v (.bool b)),true=>some (a&&b)
 | .opt a (.v (.bool b)),false=>some (a&& !b)
 |_,_=>none
theorem Be{x:AV}{pol g:Bool}(e:KO x pol=some g):yC x pol=some g:=by
 unfold KO at e;split at e<;>first|(cases e;rfl)|cases e
def sG(C:Ctx)(t:Nat→AV)(h:AH)(all:List Oper)(o:Oper):Option (Nat×Bool×Option Bool×AV):=
 match o.guard,o.dst with
 | some (i,pol),some d=>
  (match (all[i]?).bind (·.dst)with
  |some e=>(match KO (t e) pol,condsO t o.op with
   |some g,none=>(match sA C (evA C t) h o.op with|some x=>some (d,g,none,x)|none=>none)
   |some g,some c=>(match sA C (evS C t o.op) h o.op with|some x=>some (d,g,some c,x)|none=>none)
   |none,_=>none)
  |none=>none)
 |_,_=>none
def sGd(t:Nat→AV)(all:List Oper)(o:Oper):Option (Nat×Bool×Option Bool):=
 match o.guard,o.dst with
 | some (i,pol),some d=>
  (match (all[i]?).bind (·.dst)with
  |some e=>(match KO (t e) pol,condsO t o.op with
   |some g,none=>some (d,g,none)
   |some g,some c=>some (d,g,some c)
   |none,_=>none)
  |none=>none)
 |_,_=>none
def Wx:Nat→List AV→List AV→(List AV→Option AH)→Option AH
 |0,[],xs,k=>k xs
 |0,c::cs,_::xs,k=>Wx 0 cs xs λ l=>k (c::l)
 |0,_::_,[],k=>k []
 |n+1,cs,x::xs,k=>Wx n cs xs λ l=>k (x::l)
 |_+1,_,[],k=>k []
theorem JL:∀ (n:Nat) (cs xs:List AV) (k:List AV→Option AH),Wx n cs xs k=k (yT n cs xs)
 |0,[],[],k=>rfl
 |0,[],_::_,k=>rfl
 |0,c::cs,_::xs,k=>JL 0 cs xs _
 |0,_::_,[],k=>rfl
 |n+1,cs,x::xs,k=>JL n cs xs _
 |_+1,_,[],k=>rfl
theorem KP:∀ (cs xs:List AV),Nat.beq cs.length xs.length=true→yT 0 cs xs=cs
 |[],[],_=>rfl
 |[],_::_,h=>by cases h
 |c::cs,[],h=>by cases h
 |c::cs,x::xs,h=>congrArg (c:: ·) (KP cs xs h)
def WN(C:Ctx)(h:AH)(ty:TypeId)(a x:AV):Option AH:=
 match C.ty ty,kD x,a with
 | some ti,some cs,.ptr b c=>
  (match Nat.beq cs.length ti.sz,h b with
  | true,some (.box cells)=>(match Nat.ble (c+cs.length) cells.length with
   |true=>(match c,Nat.beq cs.length cells.length with
    |0,true=>some (upd h b (some (.box cs)))
    |c,_=>Wx c cs cells λ l=>some (upd h b (some (.box l))))
   |false=>none)
  |_,_=>none)
 |_,_,_=>none
def sSt(C:Ctx)(t:Nat→AV)(h:AH)(o:Oper):Option AH:=
 match o.guard,o.dst,o.op with
 |none,none,.store ty a x=>WN C h ty (evA C t a) (evA C t x)
 |_,_,_=>none
def sAl(C:Ctx)(t:Nat→AV)(o:Oper):Option (Nat×List AV):=
 match o.guard,o.dst,o.op with
 |none,some d,.alloc ty=>(match zW C ty with|some cs=>some (d,cs)|none=>none)
 |none,some d,.box _ x=>(match kD (evA C t x)with|some cs=>some (d,cs)|none=>none)
 |_,_,_=>none
def fL:List AV→(List AV→Option (Nat×FuncId×List AV))→Option (Nat×FuncId×List AV)
 |[],k=>k []
 |x::xs,k=>(match fA x with|some y=>fL xs λ l=>k (y::l)|none=>none)
theorem Vi:∀ {l:List AV} {k:List AV→Option (Nat×FuncId×List AV)} {r:Nat×FuncId×List AV},fL l k=some r→k l=some r
 |[],k,r,h=>h
 | x::xs,k,r,h=>by
  simp only[fL]at h;split at h
  ·rename_i y hy;rw[NK hy];exact Vi (k:=λ l=>k (y::l)) h
  ·cases h
def sC(C:Ctx)(t:Nat→AV)(o:Oper):Option (Nat×FuncId×List AV):=
 match o.guard,o.dst,o.op with
 | none,some d,.call c=>(match c.callee with
  | .value f=>(match evA C t f with
   | .clo f first caps=>fL (first++c.args.toList.map (evA C t)++caps) λ l=>some (d,f,l)
   |_=>none)
  |_=>none)
 |_,_,_=>none
theorem WO{C:Ctx}{t:Nat→AV}{h:AH}{s:Nat}{o:Oper}{d:Nat}{f:FuncId}{args:List AV}(e:sC C t o=some (d,f,args)):o.guard=none∧o.dst=some d∧opA C (evA C t) h s o.op=.call f args:=by
 unfold sC at e;split at e
 ·rename_i d' c h1 h2 h3;split at e
  ·rename_i g hc;split at e
   ·rename_i f' first caps hf
    have:=Vi e;cases this
    refine⟨h1,h2,?_⟩;rw[h3];show (match c.callee with| .builtin b=>_| .value f=>_|_=>_)=_;rw[hc];simp only[hf]
   ·cases e
  ·cases e
 ·cases e
def sV(C:Ctx)(t:Nat→AV)(h:AH)(s:Nat)(o:Oper):Option (Nat×AV):=match o.guard,o.dst,opA C (evA C t) h s o.op with|none,some d,.ok x=>some (d,x)|_,_,_=>none
def sD(o:Oper):Option Nat:=match o.guard with|none=>o.dst|_=>none
theorem Mk{o:Oper}{d:Nat}(h:sD o=some d):o.guard=none∧o.dst=some d:=by
 unfold sD at h;split at h
 ·rename_i e;exact⟨e,h⟩
 ·cases h
theorem ixT{a b:Nat}(h:a<b:=by first|omega|rfl|(simp only[aO,bN,cW,aY,bV,aQ,bA,cU,iT,oL];done)|(simp only[aO,bN,cW,aY,bV,aQ,bA,cU,iT,oL];omega)|(simp[oL];done)|(simp[oL];omega)):0≤(a:Int)∧(a:Int)<(b:Int):=⟨aI _,En.2 h⟩
theorem omT{p:Prop}(h:p:=by first|omega|rfl|(simp only[aO,bN,cW,aY,bV,aQ,bA,cU,iT,oL];done)|(simp only[aO,bN,cW,aY,bV,aQ,bA,cU,iT,oL];omega)|(simp[oL];done)|(simp[oL];omega)):p:=h
theorem r4{q:Prop}(h:q):True∧True∧True∧True∧q:=⟨trivial,trivial,trivial,trivial,h⟩
theorem tvT{p:Prop}(h:p:=by repeat (first|exact trivial|refine⟨trivial,?_⟩)):p:=h
theorem rbT{p:Prop}(h:p:=by repeat (first|exact trivial|refine⟨⟨rfl,_,rfl,.refl _⟩,?_⟩)):p:=h
theorem rcT{p:Prop}(h:p:=by repeat' (first|exact trivial|constructor)):p:=h
theorem hsT{p q:Prop}(h:p→q:=by intro h;first|(simp_all;done)|exact (Bool.and_eq_true_iff.1 h).1|exact Bool.and_eq_true_iff.2 ⟨h,h⟩):p→q:=h
theorem slT{p:Prop}(h:p:=by refine⟨?_,?_,?_⟩;all_goals (first|exact aI _|decide|(apply Eo.2;exact omT)|(show ((_:Nat):Int)=((_:Nat):Int);congr 1;omega)|rfl)):p:=h
theorem wT{p:Prop}(h:p:=by repeat (first|exact trivial|refine⟨⟨rfl,rfl⟩,?_⟩)):p:=h
theorem wH{p:Prop}(h:p:=by repeat (first|exact trivial|refine⟨⟨rfl,rfl,rfl⟩,?_⟩)):p:=h
section
variable {C:Ctx}{R:FuncId→List AV→AV→Prop}{all rest ops:List Oper}{o:Oper}{j n:Nat}{t t':Nat→AV}{h h':AH}{K:ASt→Prop}{Q:AEx→ASt→Prop}{fn:Func}{st:ASt}{x:AV}{d:Nat}
theorem oR(m:Nat)(hx:WM C h m ops t=some (rest,t'))(k:kL C R all rest (j+m) ⟨t',h,n⟩ K):kL C R all ops j ⟨t,h,n⟩ K:=by
 induction m generalizing ops t j with
 |zero=>cases hx;exact k
 | succ m ih=>
  cases ops with
  |nil=>cases hx
  | cons o ops=>
   simp only[WM]at hx;split at hx
   ·rename_i d x e;obtain⟨h1,h2,h3⟩:=WL e;exact rOk h1 h2 (Tq h3) (ih hx (by rw[dR,kQ 1];exact k))
   ·cases hx
theorem gN{g:Bool}(hx:sG C t h all o=some (d,g,none,x))(k:kL C R all rest (j+1) ⟨upd t d (.opt g x),h,n⟩ K):kL C R all (o::rest) j ⟨t,h,n⟩ K:=by
 unfold sG at hx;split at hx
 ·rename_i i pol d' h1 h2;split at hx
  ·rename_i e h3;split at hx
   ·rename_i g' h4 h5;split at hx
    ·rename_i x' h6;cases hx;exact gOk h1 h3 (Be h4) h5 h2 (Tq h6) k
    ·cases hx
   ·split at hx<;>cases hx
   ·cases hx
  ·cases hx
 ·cases hx
theorem gS{g c:Bool}(hx:sG C t h all o=some (d,g,some c,x))(hs:g=true→c=true)(k:kL C R all rest (j+1) ⟨upd t d (.opt g x),h,n⟩ K):kL C R all (o::rest) j ⟨t,h,n⟩ K:=by
 unfold sG at hx;split at hx
 ·rename_i i pol d' h1 h2;split at hx
  ·rename_i e h3;split at hx
   ·split at hx<;>cases hx
   ·rename_i g' c' h4 h5;split at hx
    ·rename_i x' h6;cases hx;exact UP h1 h3 (Be h4) h5 hs h2 (Tq h6) k
    ·cases hx
   ·cases hx
  ·cases hx
 ·cases hx
theorem Sr{g:Bool}{c:Option Bool}(hx:sGd t all o=some (d,g,c)):∃ i pol e,o.guard=some (i,pol)∧(all[i]?).bind (·.dst)=some e∧yC (t e) pol=some g∧condsO t o.op=c∧o.dst=some d:=by
 unfold sGd at hx;split at hx
 ·rename_i i pol d' h1 h2;split at hx
  ·rename_i e h3;split at hx
   ·rename_i g' h4 h5;cases hx;exact⟨i,pol,e,h1,h3,Be h4,h5,h2⟩
   ·rename_i g' c' h4 h5;cases hx;exact⟨i,pol,e,h1,h3,Be h4,h5,h2⟩
   ·cases hx
  ·cases hx
 ·cases hx
theorem gB{g:Bool}(hg:sGd t all o=some (d,g,none))(hx:opA C (evA C t) h (n+j) o.op=.ok x)(k:kL C R all rest (j+1) ⟨upd t d (.opt g x),h,n⟩ K):kL C R all (o::rest) j ⟨t,h,n⟩ K:=by
 obtain⟨i,pol,e,h1,h2,h3,h4,h5⟩:=Sr hg;exact gOk h1 h2 h3 h4 h5 hx k
theorem gBS{g c:Bool}(hg:sGd t all o=some (d,g,some c))(hs:g=true→c=true)(hx:opA C (evS C t o.op) h (n+j) o.op=.ok x)(k:kL C R all rest (j+1) ⟨upd t d (.opt g x),h,n⟩ K):kL C R all (o::rest) j ⟨t,h,n⟩ K:=by
 obtain⟨i,pol,e,h1,h2,h3,h4,h5⟩:=Sr hg;exact UP h1 h2 h3 h4 hs h5 hx k
theorem rAl(s:Nat){cs:List AV}(hs:n+j=s)(hx:sAl C t o=some (d,cs))(k:kL C R all rest (j+1) ⟨upd t d (.ptr s 0),upd h s (some (.box cs)),n⟩ K):kL C R all (o::rest) j ⟨t,h,n⟩ K:=by
 subst hs;unfold sAl at hx;split at hx
 ·rename_i d' ty h1 h2 h3;split at hx
  ·rename_i cs' h4;cases hx;exact rFx (p:=True) h1 h2 (by rw[h3];simp only[opA,h4]) trivial k
  ·cases hx
 ·rename_i d' ty y h1 h2 h3;split at hx
  ·rename_i cs' h4;cases hx;exact rFx (p:=True) h1 h2 (by rw[h3];simp only[opA,h4]) trivial k
  ·cases hx
 ·cases hx
theorem Ts{ty:TypeId}{a y:AV}{h':AH}(e:WN C h ty a y=some h'):(match C.ty ty,kD y with
  | some ti,some cs=>(match Nat.beq cs.length ti.sz with
   |true=>(match a with
    | .ptr b c=>(match h b with|some (.box cells)=>(match Nat.ble (c+cs.length) cells.length with|true=>Res.fx True .any (upd h b (some (.box (yT c cs cells))))|false=>.bad)|_=>.bad)
    |_=>.bad)
   |false=>.bad)
  |_,_=>.bad)=.fx True .any h':=by
 unfold WN at e;split at e
 ·rename_i ti cs b c h1 h2;split at e
  ·rename_i cells h3 h4;split at e
   ·rename_i h5;simp only[h1,h2,h3,h4,h5];split at e
    ·rename_i h6;cases e;rw[KP _ _ h6]
    ·rw[JL]at e;cases e;rfl
   ·cases e
  ·cases e
 ·cases e
theorem rSt(hx:sSt C t h o=some h')(k:kL C R all rest (j+1) ⟨t,h',n⟩ K):kL C R all (o::rest) j ⟨t,h,n⟩ K:=by
 unfold sSt at hx;split at hx
 ·rename_i ty a y h1 h2 h3;have e:=Ts hx;refine Vf (p:=True) (x:=.any) h1 h2 ?_ trivial k;rw[h3];simp only[opA];split at e
  ·rename_i ti cs q1 q2;simp only[q1,q2];split at e
   ·rename_i q3;simp only[q3];split at e
    ·rename_i b c q4;simp only[q4];exact e
    ·cases e
   ·cases e
  ·cases e
 ·cases hx
theorem rSx(s:Nat)(cs:List AV)(hg:o.guard=none)(hd:o.dst=none)(hx:opA C (evA C t) h (n+j) o.op=.fx True .any (upd h s (some (.box cs))))(k:kL C R all rest (j+1) ⟨t,upd h s (some (.box cs)),n⟩ K):kL C R all (o::rest) j ⟨t,h,n⟩ K:=Vf hg hd hx trivial k
theorem rCl{f:FuncId}{args:List AV}(hx:sC C t o=some (d,f,args))(hf:nL args=true∨(AZ x=true∧jH h args))(hc:R f (qB h args) x)(k:kL C R all rest (j+1) ⟨upd t d x,h,n⟩ K)(hcl:fR (qB h args)=true:=by exact rfl)(hr:eM x=true:=by exact rfl):kL C R all (o::rest) j ⟨t,h,n⟩ K:=by
 obtain⟨h1,h2,h3⟩:=WO (h:=h) (s:=n+j) hx;exact WE h1 h2 h3 hcl hf hr hc k
theorem rV(x:AV)(hx:sV C t h (n+j) o=some (d,x))(k:kL C R all rest (j+1) ⟨upd t d x,h,n⟩ K):kL C R all (o::rest) j ⟨t,h,n⟩ K:=by
 unfold sV at hx;split at hx
 ·rename_i h1 h2 h3;cases hx;exact rOk h1 h2 h3 k
 ·cases hx
theorem rW(x:AV)(hd:sD o=some d)(hx:opA C (evA C t) h (n+j) o.op=.ok x)(k:kL C R all rest (j+1) ⟨upd t d x,h,n⟩ K):kL C R all (o::rest) j ⟨t,h,n⟩ K:=rOk (Mk hd).1 (Mk hd).2 hx k
theorem nW{p:Prop}(x:AV)(hd:sD o=some d)(hx:opA C (evA C t) h (n+j) o.op=.need p x)(hp:p)(k:kL C R all rest (j+1) ⟨upd t d x,h,n⟩ K):kL C R all (o::rest) j ⟨t,h,n⟩ K:=cH (Mk hd).1 (Mk hd).2 hx hp k
theorem rCi{f:FuncId}{args:List AV}(hx:sC C t o=some (d,f,args))(hc:R f (qB h args) x)(k:kL C R all rest (j+1) ⟨upd t d x,h,n⟩ K)(hcl:fR (qB h args)=true:=by exact rfl)(hr:eM x=true:=by exact rfl)(hf:nL args=true:=by exact rfl):kL C R all (o::rest) j ⟨t,h,n⟩ K:=rCl hx (.inl hf) hc k hcl hr
theorem rIx{rows:List (List AV)}{i:Int}{f:List AV→Option AV}(row:List AV)(x:AV)(hd:sD o=some d)(hx:opA C (evA C t) h (n+j) o.op=.idx rows i f)(hi:rows[i.toNat]?=some row)(hf:f row=some x)(k:kL C R all rest (j+1) ⟨upd t d x,h,n⟩ K)(h0:0≤i:=by exact aI _):kL C R all (o::rest) j ⟨t,h,n⟩ K:=Fb row (Mk hd).1 (Mk hd).2 hx ⟨h0,hi⟩ hf k
end
end Go.Proofs.YtlhofpglndhfaaaGreatDoor
