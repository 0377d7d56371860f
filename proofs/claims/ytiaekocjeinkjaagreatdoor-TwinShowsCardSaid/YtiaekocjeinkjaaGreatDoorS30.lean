import Derived.DataReads
import Derived.Deep.Strs
import Derived.Test.YtiaekocjeinkjaaGreatDoorS18
import Derived.Test.YtiaekocjeinkjaaGreatDoorS19
import Derived.Test.YtiaekocjeinkjaaGreatDoorS29
set_option linter.all false
namespace Go.Proofs.YtiaekocjeinkjaaGreatDoor
open Go.RowKit
inductive TT where
 |leaf (k:Nat) (i:TI)
 |node (k:Nat) (l r:TT)
def TT.find:TT->Nat->Option TI
 | .leaf k i,t=>match Nat.beq t k with|true=>some i|false=>none
 | .node k l r,t=>match Nat.blt t k with|true=>l.find t|false=>r.find t
def Tb(P:Program):TT->Prop
 | .leaf k i=>mh P k i
 | .node _ l r=>Tb P l/\Tb P r
theorem TT.ZB{P:Program}:∀(T:TT),Tb P T->∀t i,T.find t=some i->mh P t i
 | .leaf k i,h,t,bb,z=>by
  simp only[TT.find]at z;split at z
  .rename_i f;injection z with z;subst z;rw[aO f];exact h
  .cases z
 | .node k l r,h,t,i,z=>by
  simp only[TT.find]at z;split at z
  .exact TT.ZB l h.1 t i z
  .exact TT.ZB r h.2 t i z
def Wk(P:Program)(inf:TypeInfo)(z:Value)(i:TI):Bool:=
 inf.size==i.j&&inf.bytes==i.bytes&&z.cells.size==i.j&&Nat.blt 0 i.j&&Nat.ble i.bytes 1000&&lA z.cells.toList
def Tc{P:Program}{t:TypeId}{i:TI}{inf:TypeInfo}{z:Value}(y:P.info? t=some inf)(A:inf.zero=some z)(N:i.zero=Pq z)(B:Wk P inf z i=true){d:TypeDesc}(r:P.underlying t=some d)(v:d.isRow=i.ag)
  (q:match i.kd with
  | .bool=>d=.bool
  | .int k=>d=.int k
  | .string=>d=.string
  | .slice e=>d=.slice e
  | .array n e=>d=.array n e
  | .struct M=>∃g,d=.struct g/\g.toList.map (λf=>(f.offset,f.type))=M/\(g.toList.all λf=>match P.info? f.type with|some i=> !(i.size==0)|none=>false)=true
  |_=>True) (O:i.eq≠[]->mj P t i.eq):mh P t i:=by
 simp only[Wk,aP,pU]at B;obtain⟨⟨⟨⟨⟨E,c2⟩,G⟩,I⟩,J⟩,L⟩:=B;refine⟨⟨inf,z,y,E,c2,A,N,G,aJ I,aJ J⟩,λl X m p k u W=>?_,⟨d,r,v⟩,?_,O⟩
 .rw[y]at m;injection m with m;subst m;rw[A]at p;injection p with p;subst p;exact BR _ L k u (sU W)
 .cases D:i.kd<;>rw[D]at q<;>simp only at q⊢ <;>first|(rw[r,q];done)|trivial|skip
  obtain⟨g,rfl,g1,g2⟩:=q;refine⟨g,r,g1,λf T=>?_⟩;have:=rC.1 g2 f T;split at this
  .rename_i l U;exact⟨l,U,sU this⟩
  .cases this
theorem Mx:∀(f:List CK) (g l:List Value) (b:Bool),fp f g l=some b->g.length=f.length/\l.length=f.length
 |[],[],[],_,_=>⟨R,R⟩
 | k::f,x::g,y::l,b,h=>by
  simp only[fp]at h;split at h
  .rename_i a c r q;obtain⟨m,p⟩:=Mx f g l c q;exact⟨by simp[m],by simp[p]⟩
  .cases h
 |[],[],_::_,_,h=>by simp[fp]at h
 |[],_::_,_,_,h=>by simp[fp]at h
 |_::_,[],_,_,h=>by simp[fp]at h
 |_::_,_::_,[],_,h=>by simp[fp]at h
theorem Bs:∀(f m:List CK) (g l:List Value) (b:Bool),fp (f++m) g l=some b->
  ∃p q,fp f (g.take f.length) (l.take f.length)=some p/\fp m (g.drop f.length) (l.drop f.length)=some q/\b=(p&&q)
 |[],m,g,l,b,h=>⟨true,b,by simp[fp],sU h,by simp⟩
 | k::f,m,x::g,y::l,b,h=>by
  simp only[nV,fp]at h;split at h
  .rename_i a c z A;injection h with h;subst h;obtain⟨p,q,r,u,v⟩:=Bs f m g l c A;refine⟨a&&p,q,?_,sU u,by rw[v,lG]⟩;simp only[bN,oP,fp,z,r]
  .cases h
 |_::_,_,[],_,_,h=>by simp[fp]at h
 |_::_,_,_::_,[],_,h=>by simp[fp]at h
def Bu(P:Program)(K:TypeId->Option (List CK)):Nat->List Field->Option (List CK)
 |_,[]=>some []
 | off,f::k=>match f.name== "_",f.offset==off,P.info? f.type,K f.type with
  |false,true,some inf,some g=>match inf.size==g.length,Bu P K (off+g.length) k with
   |true,some l=>some (g++l)
   |_,_=>none
  |_,_,_,_=>none
def kV(P:Program):Nat->TypeId->Option (List CK)
 |0,_=>none
 | d+1,t=>match P.underlying t with
  |some .bool=>some [.b]
  |some (.int _)=>some [.i]
  |some .string=>some [.s]
  |some (.struct g)=>match P.stoodInHeld t with|true=>none|false=>Bu P (kV P d) 0 g.toList
  |some (.array n e)=>match P.info? e,kV P d e with
   |some inf,some f=>(match inf.size==f.length with|true=>some (List.flatten (List.replicate n f))|false=>none)
   |_,_=>none
  |_=>none
def Gp(P:Program)(D:Nat)(t:TypeId)(g:List CK):Prop:=∀(k l:Array Value) (f:Nat) (b:Bool) (w:World),
 fp g ((k.toList.drop f).take g.length) ((l.toList.drop f).take g.length)=some b->
 ∃u v,(part t k f).run P w=.ok u w/\(part t l f).run P w=.ok v w/\(Op.equalIn D t u v).run P w=.ok b w
theorem My{P:Program}{D:Nat}{K:TypeId->Option (List CK)}(E:∀t l inf,K t=some l->P.info? t=some inf->inf.size=l.length->Gp P D t l):
  ∀(q:List Field) (g:Nat) (y:List CK) (m p:Array Value) (b:Bool) (w:World),Bu P K g q=some y->fp y (m.toList.drop g) (p.toList.drop g)=some b->
  (forIn q ((none,()):Option Bool×PUnit) (λf r=>do
    if f.name≠ "_" then
     if !(<-Op.equalIn D f.type (<-part f.type m f.offset) (<-part f.type p f.offset))then pure (ForInStep.done (some false,()))else pure (ForInStep.yield (none,()))
    else pure (ForInStep.yield (none,())):Field->Option Bool×PUnit->Sem (ForInStep (Option Bool×PUnit)))).run P w=.ok (match b with|true=>(none,())|false=>(some false,())) w
 | [],g,y,m,p,b,w,k,h=>by
  simp only[Bu,jc]at k;subst k;have Y:b=true:=by
   cases Z:m.toList.drop g<;>cases hy:p.toList.drop g<;>rw[Z,hy]at h<;>simp[fp]at h<;>first|exact h|exact h.symm
  subst Y;rfl
 | f ::q,g,y,m,p,b,w,k,h=>by
  simp only[Bu]at k;split at k
  .rename_i inf l N O T U;split at k
   .rename_i z W X;injection k with k;subst k;have L:f.offset=g:=sU O;have M:inf.size=l.length:=sU W;have J:f.name≠ "_" :=sU N;obtain⟨A,I,g1,g2,B⟩:=Bs l z _ _ b h;obtain⟨u,v,p1,p2,p3⟩:=E f.type l inf U T M m p g A w g1;have G:=My E q (g+l.length) z m p I w X (by simpa [lH]using g2);simp only[List.forIn_cons,Sem.run_bind,J,L,ne_eq,not_false_eq_true,fD,p1,p2,p3,Result.andThen_ok]
    cases A with
    |false=>subst B;simp
    |true=>
     simp only[mD,cS,eE,Sem.run_pure,Result.andThen_ok];rw[B,kL];simpa only[ne_eq]using G
   .cases k
  .cases k
def r_{P:Program}{D:Nat}{t:TypeId}{K:TypeId->Option (List CK)}(p:∀t f inf,K t=some f->P.info? t=some inf->inf.size=f.length->Gp P D t f)
  {g:Array Field} (r:P.underlying t=some (.struct g)) (m:P.stoodInHeld t=false) {f:List CK} (q:Bu P K 0 g.toList=some f) {k l:Array Value} {b:Bool} (w:World) (h:fp f k.toList l.toList=some b):
  (Op.equalIn (D+1) t (.agg k) (.agg l)).run P w=.ok b w:=by
 rw[Op.equalIn];have:=My p g.toList 0 f k l b w q (sU h);simp only[Sem.run_bind,run_underlying r,Result.andThen_ok,show Sem.run P program w=.ok P w from R,m,cS,eE];rw[<-Array.forIn_toList];simp only[ne_eq,Sem.run_bind]at this⊢;rw[this];cases b<;>rfl
theorem Lk{P:Program}{D:Nat}{e:TypeId}{f:List CK}{inf:TypeInfo}(E:P.info? e=some inf)(y:inf.size=f.length)(q:Gp P D e f):
  ∀(m s:Nat) (g k:Array Value) (b:Bool) (w:World),fp (List.flatten (List.replicate m f)) (g.toList.drop (s*f.length)) (k.toList.drop (s*f.length))=some b->
  (forIn (List.range' s m) ((none,()):Option Bool×PUnit) (λi r=>do
    if !(<-Op.equalIn D e (<-part e g (i*f.length)) (<-part e k (i*f.length)))then pure (ForInStep.done (some false,()))else pure (ForInStep.yield (none,())):Nat->Option Bool×PUnit->Sem (ForInStep (Option Bool×PUnit)))).run P w=.ok (match b with|true=>(none,())|false=>(some false,())) w
 | 0,s,g,k,b,w,h=>by
  have B:b=true:=by
   simp only[List.replicate_zero,List.flatten_nil]at h;cases G:g.toList.drop (s*f.length)<;>cases I:k.toList.drop (s*f.length)<;>rw[G,I]at h<;>simp[fp]at h<;>first|exact h|exact h.symm
  subst B;rfl
 | m+1,s,g,k,b,w,h=>by
  rw[List.replicate_succ,mU]at h;obtain⟨l,A,g1,g2,p⟩:=Bs f _ _ _ b h;obtain⟨u,v,J,L,M⟩:=q g k (s*f.length) l w g1;have z:=Lk E y q m (s+1) g k A w (by rw[cG,lD];simpa [lH]using g2);rw[nX];simp only[List.forIn_cons,Sem.run_bind,J,L,M,Result.andThen_ok]
  cases l with
  |false=>subst p;simp
  |true=>
   simp only[mD,cS,eE,Sem.run_pure,Result.andThen_ok];rw[p,kL];exact z
theorem Mz{P:Program}:∀(d D:Nat),d<=D->∀t l inf,kV P d t=some l->P.info? t=some inf->inf.size=l.length->Gp P D t l
 |0,_,_,t,l,_,h,_,_=>by simp[kV]at h
 |d+1,0,ag,_,_,_,_,_,_=>by omega
 | d + 1,D+1,ag,t,l,inf,h,X,I=>by
  intro y z f b w q;simp only[kV]at h;have W:∀(k:CK),l=[k]->∃u v,y.toList[f]?=some u/\z.toList[f]?=some v/\ma k u v=some b:=by
   intro k N;subst N;obtain⟨l1,l2⟩:=Mx _ _ _ _ q
   cases O:(y.toList.drop f)with
   |nil=>rw[O]at l1;simp at l1
   | cons u us=>
    cases T:(z.toList.drop f)with
    |nil=>rw[T]at l2;simp at l2
    | cons v vs=>
     rw[O,T]at q;simp only[bN,cX,bJ,oP,pV,fp]at q;refine⟨u,v,?_,?_,?_⟩
     .have:(y.toList.drop f)[0]?=some u:=by rw[O];rfl
      simpa using this
     .have:(z.toList.drop f)[0]?=some v:=by rw[T];rfl
      simpa using this
     .split at q
      .rename_i a c g1 g2;injection g2 with g2;subst g2;rw[g1];simpa using q
      .cases q
  have r:∀(G:TypeDesc) (m:Array Value) (u:Value),P.underlying t=some G->G.isRow=false->m.toList[f]?=some u->(part t m f).run P w=.ok u w:=by
   intro G m u g hr U;have Z:m[f]?=some u:=sU U;unfold part isAgg;simp only[Sem.run_bind,run_underlying g,Result.andThen_ok];cases G<;>first|(simp[TypeDesc.isRow]at hr;done)|(simp[Z])
  split at h
  .rename_i g;injection h with h;subst h;obtain⟨u,v,g1,g2,p⟩:=W .b R;refine⟨u,v,r _ _ _ g R g1,r _ _ _ g R g2,?_⟩;cases u<;>cases v<;>simp[ma]at p;rw[Op.equalIn];simp only[Sem.run_bind,run_underlying g,Result.andThen_ok,Sem.run_pure];simp[p]
  .rename_i k0 g;injection h with h;subst h;obtain⟨u,v,g1,g2,p⟩:=W .i R;refine⟨u,v,r _ _ _ g R g1,r _ _ _ g R g2,?_⟩;cases u<;>cases v<;>simp only[ma]at p<;>try (cases p;done)
   split at p
   .rename_i N;have:=Ey N;subst this;rw[Op.equalIn];simp only[Sem.run_bind,run_underlying g,Result.andThen_ok,fD,Sem.run_pure];simpa using p
   .cases p
  .rename_i g;injection h with h;subst h;obtain⟨u,v,g1,g2,p⟩:=W .s R;refine⟨u,v,r _ _ _ g R g1,r _ _ _ g R g2,?_⟩;cases u<;>cases v<;>simp[ma]at p;rw[Op.equalIn];simp only[Sem.run_bind,run_underlying g,Result.andThen_ok,Sem.run_pure];simp[p]
  .rename_i fs g;split at h
   .cases h
   .rename_i Y;have J:∀t l inf,kV P d t=some l->P.info? t=some inf->inf.size=l.length->Gp P D t l:=Mz d D oT;have E:∀m:Array Value,(part t m f).run P w=.ok (.agg (m.extract f (f+l.length))) w:=by
     intro m;unfold part isAgg sizeOf typeInfo;simp[run_underlying g,X,I]
    refine⟨_,_,E y,E z,r_ J g Y h w ?_⟩;simpa [nY,List.extract]using q
  .rename_i n e g;split at h
   .rename_i B ks' M h2;split at h
    .rename_i h3;injection h with h;have A:B.size=ks'.length:=sU h3;have J:Gp P D e ks':=Mz d D oT e ks' B h2 M A;have E:∀m:Array Value,(part t m f).run P w=.ok (.agg (m.extract f (f+l.length))) w:=by
      intro m;unfold part isAgg sizeOf typeInfo;simp[run_underlying g,X,I]
     refine⟨_,_,E y,E z,?_⟩;rw[Op.equalIn];have U:(sizeOf e).run P w=.ok ks'.length w:=by unfold sizeOf typeInfo;simp[M,A]
     have L:=Lk M A J n 0 (y.extract f (f+l.length)) (z.extract f (f+l.length)) b w (by rw[h];simpa [nY,List.extract]using q);simp only[Sem.run_bind,run_underlying g,Result.andThen_ok,U];simp only[Std.Legacy.Range.forIn_eq_forIn_range',Std.Legacy.Range.size,Nat.sub_zero,Nat.add_one_sub_one,qU]
     (try simp only[Sem.run_bind]at L)
     rw[L];cases b<;>rfl
    .cases h
   .cases h
  .cases h
def vJ{P:Program}{d:Nat}{t:TypeId}{p:List CK}(h:(match P.underlying t with
  |some (.struct m)=>if(!P.stoodInHeld t&& !P.eqGuardType P.depth t)=true then Bu P (kV P d) 0 m.toList else none
  |_=>none)=some p) (u:Nat.ble d 9999=true:=by rfl):mj P t p:=by
 intro q r b x y w v;split at h
 .rename_i m A;split at h
  .rename_i g;simp only[aP,qI]at g;have k:(Op.equal t (.agg q) (.agg r)).run P w=.ok b w:=by
    unfold Op.equal;rw[show Op.maxDepth=9999+1 from R];exact r_ (Mz d 9999 (aJ u)) A g.1 h w v
   have l:∀f,(f=.eql\/f=.neq)->(eqGuard f t x y (.agg q) (.agg r)).run P w=.ok () w:=by
    intro f z;unfold eqGuard;rcases z with rfl|rfl<;>simp[show Sem.run P program w=.ok P w from rfl,g.2]
   constructor
   .simp only[Sem.run_bind,l .eql (.inl rfl),Result.andThen_ok,binOp,k,Sem.run_pure]
   .simp only[Sem.run_bind,l .neq (.inr rfl),Result.andThen_ok,binOp,k,Sem.run_pure]
  .cases h
 .cases h
def Ta{P:Program}{d:Nat}{t e:TypeId}{n:Nat}{inf:TypeInfo}{r ks':List CK}(D:P.underlying t=some (.array n e))(g:P.info? e=some inf)(u:kV P d e=some ks')(k:inf.size=ks'.length)(h:List.flatten (List.replicate n ks')=r)(A:P.eqGuardType P.depth t=false)(v:Nat.ble d 9999=true:=by rfl):mj P t r:=by
 intro l m b x y w z;have p:(Op.equal t (.agg l) (.agg m)).run P w=.ok b w:=by
  unfold Op.equal;rw[show Op.maxDepth=9999+1 from R,Op.equalIn];have E:(sizeOf e).run P w=.ok ks'.length w:=by unfold sizeOf typeInfo;simp[g,k]
  have L:=Lk g k (Mz d 9999 (aJ v) e ks' inf u g k) n 0 l m b w (by rw[h];simpa using z);simp only[Sem.run_bind,run_underlying D,Result.andThen_ok,E];simp only[Std.Legacy.Range.forIn_eq_forIn_range',Std.Legacy.Range.size,Nat.sub_zero,Nat.add_one_sub_one,qU]
  (try simp only[Sem.run_bind]at L)
  rw[L];cases b<;>rfl
 have q:∀f,(f=.eql\/f=.neq)->(eqGuard f t x y (.agg l) (.agg m)).run P w=.ok () w:=by
  intro f B;unfold eqGuard;rcases B with rfl|rfl<;>simp[show Sem.run P program w=.ok P w from rfl,A]
 constructor
 .simp only[Sem.run_bind,q .eql (.inl rfl),Result.andThen_ok,binOp,p,Sem.run_pure]
 simp only[Sem.run_bind,q .neq (.inr rfl),Result.andThen_ok,binOp,p,Sem.run_pure]
def a6:List (Nat×AV)->Nat->AV
 |[],_=>.any
 |(i,x)::l,j=>match Nat.beq i j with|true=>x|false=>a6 l j
def aq:List (Nat×a')->AH
 |[],_=>none
 |(i,x)::l,j=>match Nat.beq i j with|true=>some x|false=>aq l j
def WT(st:a4)(n:Nat)(σ:Nat->Nat):List (Nat×AV)->Prop
 |[]=>True
 |(i,x)::l=>(st.t i=uW σ x/\mR n x=true)/\WT st n σ l
def WH(st:a4)(n:Nat)(σ:Nat->Nat):List (Nat×a')->Prop
 |[]=>True
 |(i,x)::l=>(Nat.blt i n=true/\st.h (σ i)=some (DI σ x)/\qM n x=true)/\WH st n σ l
def Mw(x:Nat):List Nat->Bool
 |[]=>true
 |y::l=>match Nat.beq x y with|true=>false|false=>Mw x l
def En:List Nat->Bool
 |[]=>true
 |x::l=>match Mw x l with|true=>En l|false=>false
theorem Gj:∀(l:List Nat) (x:Nat),Mw x l=true->x ∉ l
 |[],_,_=>by simp
 | y::l,x,h=>by
  simp only[Mw]at h;split at h
  .cases h
  .rename_i f;have:x≠y:=λe=>by subst e;simp at f
   simp[this,Gj l x h]
theorem Gk{σ:Nat->Nat}:∀(l:List Nat),En (l.map σ)=true->∀a∈l,∀b∈l,σ a=σ b->a=b
 |[],_=>by simp
 | x::l,h=>by
  simp only[jC,En]at h;split at h
  .rename_i g;have f:=Gj _ _ g;have ih:=Gk l h;intro a ha b hb e;rcases eu.1 ha with rfl|ha
   .rcases eu.1 hb with hb|hb
    .exact hb.symm
    .exact absurd (pG.2 ⟨b,hb,e.symm⟩) f
   .rcases eu.1 hb with hb|hb
    .exact absurd (pG.2 ⟨a,ha,e.trans (am σ hb)⟩) f
    .exact ih a ha b hb e
  .cases h
theorem di.ZG{st:a4}{l:List (Nat×AV)}{hp:List (Nat×a')}{n:Nat}(σ:Nat->Nat)(A:WT st n σ l)(z:WH st n σ hp)(u:En ((hp.map (·.1)).map σ)=true):di st ⟨a6 l,aq hp,n⟩ σ:=by
 have q:∀(hp:List (Nat×a')) s blk,aq hp s=some blk->s∈hp.map (·.1):=by
  intro hp
  induction hp with
  |nil=>intro s blk h;simp[aq]at h
  | cons p hp ih=>
   obtain⟨i,x⟩:=p;intro s blk h;simp only[aq]at h;split at h
   .rename_i g;simp[aO g]
   .simp[ih s blk h]
 refine⟨λi=>?_,λs blk f=>?_,λs s' k m e=>?_⟩
 .clear z u
  induction l with
  |nil=>exact .inl R
  |cons p l ih=>
   obtain⟨j,x⟩:=p;obtain⟨⟨k,m⟩,r⟩:=A;simp only[a6]
   cases g:Nat.beq j i with
   |true=>exact .inr (by rw[<-aO g];exact⟨k,m⟩)
   |false=>exact ih r
 .clear A u
  induction hp with
  |nil=>cases f
  | cons p hp ih=>
   obtain⟨j,x⟩:=p;obtain⟨⟨k,m,r⟩,B⟩:=z
   change aq _ _=_ at f
   simp only[aq]at f
   cases g:Nat.beq j s with
   |true=>
    rw[g]at f;injection f with f;subst f;rw[<-aO g]
    exact⟨aJ k,m,r⟩
   |false=>rw[g]at f;exact ih B f
 .cases v:aq hp s with
  |none=>exact absurd v k
  |some bb=>
   cases y:aq hp s' with
   |none=>exact absurd y m
   |some b4=>exact Gk _ u s (q hp s bb v) s' (q hp s' b4 y) e
abbrev au:= @di.ZG
section
variable {C:a5}{V:Inv C.fr}{R:FuncId->List AV->AV->Prop}
def Pv{h:AH}{s:Nat}{r:b1}{K p:AV->AH->Prop}(g:∀x h,K x h->p x h)(hn:i' C R h s r K):i' C R h s r p:=by
 cases r<;>simp only[i']at hn⊢
 case ok=>exact g _ _ hn
 case Z9=>exact .mk hn.1 (g _ _ hn.2)
 case idx=>
  obtain⟨row,m,f⟩:=hn;refine .mk row m ?_;split
  .rename_i k;rw[k]at f;exact g _ _ f
  rename_i k;rw[k]at f;exact f.elim
 case fx=>exact .mk hn.1 (g _ _ hn.2)
 case ZS=>
  obtain⟨row,m,f⟩:=hn;refine .mk row m ?_;split
  .rename_i k;rw[k]at f;exact g _ _ f
  rename_i k;rw[k]at f;exact f.elim
 case str=>obtain⟨l,f,q⟩:=hn;exact .mk l f (g _ _ q)
 case call=>
  rcases hn with hn|hn
  .obtain⟨x,a,b,c,d,e⟩:=hn;exact .inl (.mk x a b c d (g _ _ e))
  obtain⟨bs,a,b⟩:=hn;exact .inr (.mk bs a λr h' u=>g _ _ (b r h' u))
def Gl{h:AH}{g:Bool}{r:b1}{K q:AV->AH->Prop}(m:∀x h,K x h->q x h)(f:DH C R h g r K):DH C R h g r q:=by
 cases r<;>simp only[DH]at f⊢
 case ok=>exact m _ _ f
 case Z9=>exact .mk f.1 (m _ _ f.2)
 case idx=>
  obtain⟨row,v,k⟩:=f;refine .mk row v ?_;split
  .rename_i p;rw[p]at k;exact m _ _ k
  rename_i p;rw[p]at k;exact k.elim
 case str=>obtain⟨l,k,u⟩:=f;exact .mk l k (m _ _ u)
 case call=>obtain⟨x,a,b,c,d,e⟩:=f;exact .mk x a b c d (m _ _ e)
def Og{r:b1}{K g:AV->AH->Prop}(k:∀x h,K x h->g x h)(f:Ov r K):Ov r g:=by
 cases r<;>simp only[Ov]at f⊢
 case fx=>exact .mk f.1 (k _ _ f.2)
def Gm{all:List Oper}{o:Oper}{s:Nat}{t:Nat->AV}{h:AH}{K u:AV->AH->Prop}(k:∀x h,K x h->u x h)(f:xG C R all o s t h K):xG C R all o s t h u:=by
 unfold xG at f⊢;split
 .rename_i p;rw[p]at f;exact Pv k f
 rename_i i v p;rw[p]at f;simp only at f;split
 .rename_i m;rw[m]at f;exact f
 rename_i d m;rw[m]at f;simp only at f;split
 .rename_i r;rw[r]at f;exact f
 rename_i g r;rw[r]at f;simp only at f;split
 .rename_i l;rw[l]at f;exact f.imp (Gl k) λq=>⟨q.1,Og k q.2⟩
 rename_i c l;rw[l]at f;exact .mk f.1 (Gl k f.2)
theorem Eo{all:List Oper}{K f:a4->Prop}(g:∀st,K st->f st):∀(l:List Oper) (j:Nat) (st:a4),jS C R all l j st K->jS C R all l j st f
 |[],_,_,h=>g _ h
 |_::l,j,_,h=>Gm (λ_ _ q=>Eo g l (j+1) _ q) h
theorem Jy{g:Type}{P f:g->Prop}(h:∀x,P x->f x):∀l,ni P l->ni f l
 |[],_=>trivial
 |x::l,k=>⟨h x k.1,Jy h l k.2⟩
theorem Jz{ops:Array Oper}{K k:a4->Prop}(l:∀st,K st->k st):∀(fuel:Nat) (f:Array Bool) (st:a4),Wx C R ops K fuel f st->Wx C R ops k fuel f st
 |0,_,_,h=>⟨h.1,l _ h.2⟩
 | fuel+1,f,st,h=>⟨h.1,Jy (λi q=>by
   unfold mn at q⊢;split
   .rename_i o g;rw[g]at q;exact Gm (λ_ _ q=>Jz l fuel _ _ q) q
   .rename_i g;rw[g]at q;exact q) _ h.2⟩
theorem lE:∀(c:Code) (st:a4) (Q l:c8->a4->Prop),(∀e st,Q e st->l e st)->eA C R c st Q->eA C R c st l
 | .skip,_,_,_,f,h=>f _ _ h
 | .label _,_,_,_,f,h=>f _ _ h
 | .region _ ops dr,_,_,_,f,h=>by
  simp only[eA]at h⊢;split
  .rename_i p;rw[p]at h;exact h.elim (λh=>.inl (Jz (λst q=>f _ st q) _ _ _ h)) λh=>.inr ⟨h.1,Eo (λst q=>⟨q.1,f _ st q.2⟩) _ _ _ h.2⟩
  .rename_i p;rw[p]at h;exact Eo (λst q=>f _ st q) _ _ _ h
 | .seq a b,st,Q,l,f,h=>h.imp
  (λh=>lE a st _ _ (λe m k=>by
   cases e with
   |normal=>exact lE b m Q l f k
   |exit i=>exact f _ _ k
   |ret=>exact f _ _ k) h)
  (λh=>h.imp (λh=>lE a st _ _ (λe m k=>by
   cases e with
   |normal=>obtain⟨r,g,k⟩:=k;exact .mk r g (lE b r Q l f k)
   |exit i=>exact f _ _ k
   |ret=>exact f _ _ k) h)
   (λh=>lE a st _ _ (λe m k=>by
   cases e with
   |normal=>obtain⟨r,g,u,σ,v,z,k⟩:=k;exact .mk r g (.mk u σ v z (lE b u Q l f k))
   |exit i=>exact f _ _ k
   |ret=>exact f _ _ k) h))
 | .cond c x y,st,Q,l,f,h=>by
  simp only[eA]at h⊢;split
  .rename_i b A;rw[A]at h;obtain⟨v,z⟩:=h;exact .mk (λe=>lE x st Q l f (v e)) (λe=>lE y st Q l f (z e))
  .rename_i A;split at h
   .rename_i b B;exact absurd B (A b)
   .exact h
 | .block id b,st,Q,l,f,h=>lE b st _ _ (λe m k=>by
   cases e with
   |normal=>exact f _ _ k
   |exit i=>
    simp only at k⊢;split
    .rename_i p;rw[p]at k;exact f _ _ k
    .rename_i p;rw[p]at k;exact f _ _ k
   |ret=>exact f _ _ k) h
 | .loop b,st,Q,l,f,h=>by
  obtain⟨I,N,D,σ,L,G,E,round⟩:=h;exact .mk I N D σ L G E λm J=>lE b m _ _ (λe M k=>by
   cases e with
   |normal=>exact k
   |exit i=>exact f _ _ k
   |ret=>exact f _ _ k) (round m J)
 | .exit id,_,_,_,f,h=>f _ _ h
 | .ret,_,_,_,f,h=>f _ _ h
end
def sX{C:a5}{R:FuncId->List AV->AV->Prop}{b:Code}{st:a4}{Q:c8->a4->Prop}{κ:Type}(S:κ->a4)(G:κ->Prop)(l:κ->Nat)(z:κ)(σ:Nat->Nat)(W:di st (S z) σ)(U:ef C.fr σ (S z).n=true)(O:G z)
  (round:∀k,G k->eA C R b (S k) (λe m=>match e with| .normal=>he m (λA=>∃f σ,di A (S f) σ∧ef C.fr σ (S f).n=true∧G f∧l f<l k)|e=>Q e m)):eA C R (.loop b) st Q:=by
 show ph C.fr (eA C R b) st Q
 classical
 have D:∀(st:a4) (n:Nat) (k:κ),G k->st=S k->l k<=n->∃k,G k∧st=S k∧∀f,G f->st=S f->l k<=l f:=by
  intro st n
  induction n with
  |zero=>intro k v u B;exact⟨k,v,u,λf _ _=>by omega⟩
  |succ n ih=>
   intro k v u B;by_cases I:∃f,G f∧st=S f∧l f<=n
   .obtain⟨f,p,q,r⟩:=I;exact ih f p q r
   .exact⟨k,v,u,λf p q=>aI (bG (aL B (Nat.lt_of_not_le λr=>I ⟨f,p,q,r⟩)))⟩
 have y:∀st:a4,(∃k,G k∧st=S k)->∃k,G k∧st=S k∧∀f,G f->st=S f->l k<=l f:=λst ⟨k,p,q⟩=>D st (l k) k p q (aC _)
 let M:a4->Nat:=λst=>open Classical in if h:∃k,G k∧st=S k then l (Classical.choose (y st h))else 0
 have T:∀st k,G k->st=S k->M st<=l k:=by
  intro st k p q;have h:∃k,G k∧st=S k:=⟨k,p,q⟩;show dite _ _ _<=_;rw[dif_pos h];exact(nE (y st h)).2.2 k p q
 refine .mk (λst=>∃k,G k∧st=S k) M (S z) σ W U ⟨z,O,rfl⟩ ?_;rintro m h;have e:M m=l (Classical.choose (y m h)):=dif_pos h;obtain⟨p,q,r⟩:=nE (y m h);generalize Classical.choose (y m h)=k at e p q r;subst q;have:=round k p;refine lE b _ _ _ (λN X E=>?_) this
 cases N with
 |normal=>
  obtain⟨A,g,f,L,v,J,u,B⟩:=E
  exact .mk A g ⟨S f,L,v,J,⟨f,u,rfl⟩,by rw[e];exact bL (T _ f u rfl) B⟩
 |exit i=>exact E
 |ret=>exact E
def jR{C:a5}{R:FuncId->List AV->AV->Prop}{b:Code}{st:a4}{Q:c8->a4->Prop}{κ:Type}(S:κ->a4)(G:κ->Prop)(p:κ->Nat)(m:κ)(σ:Nat->Nat)(B:di st (S m) σ)(u:G m)
  (round:∀k,G k->eA C R b (S k) (λe f=>match e with| .normal=>∃g σ,di f (S g) σ∧G g∧p g<p k|e=>Q e f)) (l:C.fr=0:=by rfl):eA C R (.loop b) st Q:=by
 refine sX S G p m σ B (by rw[l];rfl) u λk A=>lE b _ _ _ (λe f q=>?_) (round k A)
 cases e with
 |normal=>obtain⟨g,r,v,y,z⟩:=q;exact .mk f (.refl _) ⟨g,r,v,by rw[l];rfl,y,z⟩
 |exit i=>exact q
 |ret=>exact q
def nR:List AV->Option (List Value)
 |[]=>some []
 | .v x::f=>match nR f with|some l=>some (x::l)|none=>none
 |_::_=>none
def SZ:AV->Option Value
 | .v x=>some x
 | .agg f=>match nR f with|some l=>(match lA l with|true=>some (.agg l.toArray)|false=>none)|none=>none
 |_=>none
def Ju:List AV->Option (List Value)
 |[]=>some []
 |x::f=>match SZ x,Ju f with|some u,some l=>some (u::l)|_,_=>none
theorem Hi:∀(f:List AV) (l:List Value),nR f=some l->f=l.map .v
 |[],l,h=>by injection h with h;subst h;rfl
 | c::f,l,h=>by
  cases c<;>simp only[nR]at h<;>try (cases h;done)
  split at h
  .rename_i k g;injection h with h;subst h;rw[Hi f k g];rfl
  .cases h
section
variable {S:Nat->Prop}{w:World}{β:Bt}
def Hj{a:AV}{u:Value}(h:SZ a=some u):av S w β a u:=by
 cases a<;>simp only[SZ]at h<;>try (cases h;done)
 case v x=>injection h with h;subst h;exact .v _
 case agg k=>
  split at h
  .rename_i l p;split at h
   .rename_i q;injection h with h;subst h;have:=Hi k l p;subst this;refine .agg _ _ (by simp) (λi u r=>BR _ q i u (sU r)) λi a u f m=>?_;have g:l[i]?=some u:=sU m;simp[g]at f;subst f;exact .v _
   cases h
  cases h
def Pw{a:AV}{u v:Value}(h:SZ a=some u)(k:av S w β a v):v=u:=by
 cases a<;>simp only[SZ]at h<;>try (cases h;done)
 case v x=>injection h with h;subst h;cases k;rfl
 case agg m=>
  split at h
  .rename_i l y;split at h
   .injection h with h;subst h;have:=Hi m l y;subst this
    cases k with
    | agg _ f g B r=>
     congr 1;apply Array.ext
     .simpa using g.symm
     .intro i p q;have z:f[i]?=some f[i]:=aT p;have A:i<l.length:=sU q;have:=r i (.v l[i]) f[i] (by simp[A]) z;have:=lV this;rw[this];simp
   .cases h
  .cases h
theorem Hk:∀{args:List AV} {f:List Value},Ju args=some f->args.length=f.length
 |[],f,h=>by injection h with h;subst h;rfl
 | x::args,f,h=>by
  simp only[Ju]at h;split at h
  .rename_i u l k g;injection h with h;subst h;simp[Hk g]
  .cases h
theorem Hl:∀{args:List AV} {g:List Value},Ju args=some g->∀(i:Nat) a u,args[i]?=some a->g[i]?=some u->SZ a=some u
 |[],g,h,i,a,u,f,_=>by simp at f
 | x::args,g,h,i,a,u,f,k=>by
  simp only[Ju]at h;split at h
  .rename_i m l g1 g2;injection h with h;subst h
   cases i with
   |zero=>simp at f k;subst f;subst k;exact g1
   |succ i=>exact Hl g2 i a u (sU f) (sU k)
  .cases h
def BL{args:List AV}{f:List Value}(h:Ju args=some f):b6 S w β args f:=
 ⟨Hk h,λi a u g k=>Hj (Hl h i a u g k)⟩
def Lj{args:List AV}{g f:List Value}(h:Ju args=some g)(q:b6 S w β args f):f=g:=by
 apply dD;intro i;have r:=Hk h;have u:args.length=f.length:=q.1;rcases fb i args.length with k|k
 .have l:args[i]?=some args[i]:=aA k;have m:f[i]?=some f[i]:=aA oT;have p:g[i]?=some g[i]:=aA oT;rw[m,p,Pw (Hl h i _ _ l p) (q.2 i _ _ l m)]
 rw[bE oT,bE oT]
end
def ak{a b:Bool}(h:a=b):b1.ok (.v (.bool a))=.ok (.v (.bool b)):=by rw[h]
def ap{k:IntKind}{a b:Int}(h:a=b):b1.ok (.v (.int k a))=.ok (.v (.int k b)):=by rw[h]
def ij{p:Prop}{k:IntKind}{a b:Int}(h:a=b):b1.Z9 p (.v (.int k a))=.Z9 p (.v (.int k b)):=by rw[h]
def ba(x y:Nat):((x:Int)==(y:Int))=(x==y):=by rw[bB];simp only[pU];omega
def db(x y:Nat):((x:Int) != (y:Int))=(x != y):=by simp only[bne,ba]
def bl(x y:Nat):decide ((x:Int)<(y:Int))=decide (x<y):=by simp only[FF]
def ju(x y:Nat):decide ((x:Int)<=(y:Int))=decide (x<=y):=by simp only[FG]
def fq(x y:Nat):decide ((x:Int)>(y:Int))=decide (x>y):=bl y x
def im(x y:Nat):decide ((x:Int)>=(y:Int))=decide (x>=y):=ju y x
def nJ{e B M:Nat}(h:e<=B)(f:Nat.blt B M=true):((e%M:Nat):Int)=((e:Nat):Int):=by
 have:=aJ f;rw[jM oT]
def Gn{x y B:Nat}(h:y<=B)(f:Nat.ble B 4294967296=true):IntKind.wrap .u32 ((x:Int)-(y:Int))=(((x+4294967296-y)%4294967296:Nat):Int):=by
 have:=aJ f;simp only[IntKind.wrap,IntKind.signed,IntKind.bits];simp;omega
def xR{x y B:Nat}(h:y<=B)(f:Nat.ble B 18446744073709551616=true):IntKind.wrap .u64 ((x:Int)-(y:Int))=(((x+18446744073709551616-y)%18446744073709551616:Nat):Int):=by
 have:=aJ f;simp only[IntKind.wrap,IntKind.signed,IntKind.bits];simp;omega
def dd{x:Int}(f: -9223372036854775808<=x)(g:x<9223372036854775808):IntKind.wrap .i64 x=x:=by
 simp only[IntKind.wrap,IntKind.signed,IntKind.bits];simp;omega
def bH{e B:Nat}(h:e<=B)(f:Nat.blt B 9223372036854775808=true):IntKind.wrap .i64 ((e:Nat):Int)=((e:Nat):Int):=by
 have:=aJ f;exact dd oT oT
def Wj{x n:Nat}(c:Nat)(h:x<2 ^ n):Int.fdiv (x:Int) (2 ^ (min c n))=((x/2 ^ c:Nat):Int):=by
 have e:((2:Int) ^ (min c n))=((2 ^ (min c n):Nat):Int):=by simp
 rw[e,Int.fdiv_eq_ediv_of_nonneg _ (aG _), <-Int.natCast_ediv];rcases Nat.le_total c n with k|k
 .rw[kD k]
 rw[Nat.min_eq_right k,Nat.div_eq_of_lt h,Nat.div_eq_of_lt (e5 h (bU dT k))]
def xS{x B:Nat}(c:Nat)(h:x<=B)(f:Nat.ble B 4294967295=true):Int.fdiv (x:Int) (2 ^ (min (Int.toNat (c:Int)) (IntKind.bits .u32)))=((x/2 ^ c:Nat):Int):=by
 have:=aJ f;rw[Int.toNat_natCast];exact Wj (n:=32) c oT
def Vv{x B:Nat}(h:x<=B)(f:Nat.ble B 4294967295=true):(BitVec.ofInt 32 (x:Int)).toNat=x:=by
 have:=aJ f;rw[BitVec.toNat_ofInt];omega
def xT{x:Nat}(h:x<4294967296):IntKind.wrap .u32 (x:Int)=(x:Int):=(nJ (e:=x) (B:=x) (M:=4294967296) (aC _) (iL h))
def Px{x y B D:Nat}(k:x<=B)(l:y<=D)(f:Nat.ble B 4294967295=true)(g:Nat.ble D 4294967295=true):x^^^y<=4294967295:=
 aI (iM (n:=32) (bG (aL k (aJ f))) (bG (aL l (aJ g))))
def x0{x y B D:Nat}(k:x<=B)(l:y<=D)(f:Nat.ble B 4294967295=true)(g:Nat.ble D 4294967295=true):
  IntKind.wrap .u32 (BitVec.ofInt (IntKind.bits .u32) (x:Int)^^^BitVec.ofInt (IntKind.bits .u32) (y:Int)).toNat=((x^^^y:Nat):Int):=by
 show IntKind.wrap .u32 (BitVec.ofInt 32 (x:Int)^^^BitVec.ofInt 32 (y:Int)).toNat=_;rw[BitVec.toNat_xor,Vv k f,Vv l g];exact xT (bG (Px k l f g))
def qY{C:a5}{fn:Func}{r:AV}{st:a4}{rs:List AV}(f:gx C st fn.results.toList=some rs)(g:jU st.h (Dp rs))(k:eP (vR st.h (Dp rs))=true)(l:vR st.h (Dp rs)=r):ST C fn r st:=
 ⟨rs,f,g,k,l ▸ Sub.refl _⟩
theorem bI.of_flat{C:a5}{f:FuncId}{fn:Func}{args:List AV}{k:List Value}{r:AV}{v:Value}(q:C.P.funcs[f]?=some fn)(m:fn.body.isSome=true)(g:(fn.name== "runtime.NumGoroutine")=false)
  (l:Ju args=some k) (u:SZ r=some v) (p:∀w,Calls C.P f k.toArray w λe w'=>e=.returned v/\Below w.heap.size w w'):bI C f args r:=
 ⟨⟨fn,q,m,g⟩,λS w D B A y=>by
  rw[Lj l y];exact(p w).mono λe w' ⟨bb,z⟩=>⟨v,bb,z,Hj u⟩⟩
theorem bI.flat{C:a5}{f:FuncId}{args:List AV}{g:List Value}{r:AV}{v:Value}(h:bI C f args r)(k:∀S w,j8 C S w)(l:Ju args=some g)(m:SZ r=some v)(w:World):
  Calls C.P f g.toArray w λe w'=>e=.returned v/\Below w.heap.size w w':=
 (h.2 (λ_=>False) w g (λ_ h=>h.elim) (k _ _) (BL l)).mono λe w' ⟨b4,bb,z,hu⟩=>⟨by rw[bb,Pw m hu],z⟩
abbrev vU(n:Nat):AV:=.v (.int .u32 (n:Int))
abbrev zU:AV:=.v (.int .u32 0)
abbrev vN(n:Nat):AV:=.v (.int .i64 (n:Int))
abbrev vI(n:Int):AV:=.v (.int .i64 n)
abbrev vB(b:Bool):AV:=.v (.bool b)
abbrev i4:List AV:=[.a 75 [] [],.a 76 [] [],.a 77 [] [],.a 78 [] [],.a 79 [] [],.a 80 [] [],.a 81 [] []]
abbrev i3:List AV:=[vI 0,vI 0,vI 0,vI 0,vI 0,vI 0,vI 0,vI 0,.Y 0 [] true,vB false,.Y 0 [] true]
section
variable {C:a5}{R:FuncId->List AV->AV->Prop}{all rest:List Oper}{o:Oper}{j n:Nat}{t:Nat->AV}{h h':AH}{K:a4->Prop}{Q:c8->a4->Prop}{fn:Func}{st:a4}
def rE(n':Nat)(k:K ⟨t,h,n'⟩)(e:n+j=n':=by exact rfl):jS C R all [] j ⟨t,h,n⟩ K:=A' e k
def rF(d:Nat)(x:AV)(h':AH)(k:jS C R all rest (j+1) ⟨an t d x,h',n⟩ K)(g:o.guard=none:=by exact rfl)(f:o.dst=some d:=by exact rfl)(l:bj C (bi C t) h (n+j) o.op=.fx True x h':=by exact rfl):jS C R all (o::rest) j ⟨t,h,n⟩ K:=eo g f l trivial k
def rS(h':AH)(k:jS C R all rest (j+1) ⟨t,h',n⟩ K)(g:o.guard=none:=by exact rfl)(f:o.dst=none:=by exact rfl)(l:bj C (bi C t) h (n+j) o.op=.fx True .any h':=by exact rfl):jS C R all (o::rest) j ⟨t,h,n⟩ K:=Ow g f l trivial k
def kg{f:Type}[BEq f][LawfulBEq f](x y:f){c:Operand}{a b:Code}(k:x=y->eA C R a ⟨t,h,n⟩ Q)(l: ¬x=y->eA C R b ⟨t,h,n⟩ Q)(g:bi C t c=.v (.bool (x==y)):=by exact rfl):eA C R (.cond c a b) ⟨t,h,n⟩ Q:=
 aV g (λe=>k (sU e)) (λe=>l (sU e))
def j3(p:Prop){v:Bool}(hp:v=true↔p){c:Operand}{a b:Code}(g:p->eA C R a ⟨t,h,n⟩ Q)(k: ¬p->eA C R b ⟨t,h,n⟩ Q)(f:bi C t c=.v (.bool v):=by exact rfl):eA C R (.cond c a b) ⟨t,h,n⟩ Q:=
 aV f (λe=>g (hp.1 e)) (λe=>k (λq=>by rw[hp.2 q]at e;cases e))
def cT{v:Bool}(f:v=true){c:Operand}{a b:Code}(k:eA C R a ⟨t,h,n⟩ Q)(g:bi C t c=.v (.bool v):=by exact rfl):eA C R (.cond c a b) ⟨t,h,n⟩ Q:=
 aV g (λ_=>k) (λe=>by rw[f]at e;cases e)
def fI{k:IntKind}{x y:Int}(f:gx C st fn.results.toList=some [.v (.int k x)])(e:x=y):ST C fn (.v (.int k y)) st:=qY f trivial rfl (by rw[e];rfl)
def fN{k:IntKind}{x y:Nat}(f:gx C st fn.results.toList=some [.v (.int k (x:Int))])(e:x=y):ST C fn (.v (.int k (y:Int))) st:=fI f (am Int.ofNat e)
def i6{x y:Bool}(f:gx C st fn.results.toList=some [.v (.bool x)])(e:x=y):ST C fn (.v (.bool y)) st:=qY f trivial rfl (by rw[e];rfl)
def fS{x y:ByteArray}(f:gx C st fn.results.toList=some [.v (.string x)])(e:x=y):ST C fn (.v (.string y)) st:=qY f trivial rfl (by rw[e];rfl)
end
def c2(c x y:Bool):cE c x y=(c&&x|| !c&&y):=by cases c<;>simp[cE]
def wP(x y:Bool){p q:Prop}(f:x=true↔p)(g:y=true↔q):cE x true y=true↔(p\/q):=by rw[<-f, <-g];cases x<;>simp[cE]
def uA(x y:Bool){p q:Prop}(f:x=true↔p)(g:y=true↔q):cE x y false=true↔(p/\q):=by rw[<-f, <-g];cases x<;>simp[cE]
def bT{f:Type}[BEq f][LawfulBEq f]{x y:f}:(x==y)=true↔x=y:=by simp
def jh{f:Type}[BEq f][LawfulBEq f]{x y:f}:(x != y)=true↔ ¬x=y:=by simp
def qW{p:Prop}[Decidable p]:decide p=true↔p:=by simp
def th{b:Bool}{p:Prop}(h:b=true↔p):(!b)=true↔ ¬p:=by rw[<-h];cases b<;>simp
open Go.RowKit Go.ChangeShapes Go.WideShapes Go.ChangeAt Go.Deep
inductive gz(P:Program):TypeId->List AV->Prop
 |bool {t:TypeId} (h:P.underlying t=some .bool) (b:Bool):gz P t [.v (.bool b)]
 |int {t:TypeId} {k:IntKind} (h:P.underlying t=some (.int k)) (n:Int) (hn:(Lit.int k n).wf=true):gz P t [.v (.int k n)]
 |string {t:TypeId} (h:P.underlying t=some .string) (s:ByteArray) (hs:s.size<=maxLen):gz P t [.v (.string s)]
 |slice {t e:TypeId} (h:P.underlying t=some (.slice e)) (rows:List (List AV)) (hl:rows.length<=maxLen) (hr:∀row∈rows,gz P e row) (hrs:∀row∈rows,row.length=P.cellsOf e):gz P t [.Y (P.cellsOf e) rows false]
 |struct {t:TypeId} {fs:Array Field} (h:P.underlying t=some (.struct fs)) (parts:Nat->List AV) (hp:∀(j:Nat) f,fs[j]?=some f->gz P f.type (parts j)):gz P t ((List.range fs.size).flatMap parts)
 |array {t e:TypeId} {n:Nat} (h:P.underlying t=some (.array n e)) (parts:Nat->List AV) (hp:∀j,j<n->gz P e (parts j)):gz P t ((List.range n).flatMap parts)
section
variable {H:Type}{enc:TypeId×Value->H}{P:Program}{w:World}{base:Nat}{spare:Nat->Bool}{held:Bool}
structure mg(P:Program)(w:World)(t:TypeId)(cs:List AV)(vals:List Value):Prop where
 ZX:b6 (· <w.heap.size) w cy cs vals
 one:∀u∈vals,u.oneCell'=true
 ty:gz P t cs
end
def fA:AV->Option AV
 | .v x=>some (.v x)
 | .agg k=>some (.agg k)
 | .F k=>some (.F k)
 | .Y a b c=>some (.Y a b c)
 | .k a b c=>some (.k a b c)
 | .ptr a b=>some (.ptr a b)
 | .x a b c=>some (.x a b c)
 | .X a b c d=>some (.X a b c d)
 | .a f a b=>some (.a f a b)
 | .ZY g x=>some (.ZY g x)
 | .any=>some .any
def Qn{x y:AV}(h:fA x=some y):x=y:=by cases x<;>cases h<;>rfl
def mo:List AV->Nat->Option AV
 |[],_=>none
 |x::_,0=>fA x
 |_::f,n+1=>mo f n
def LD{l:List AV}{i:Nat}{y:AV}(h:mo l i=some y):Lg l i=some y:=by
 induction l generalizing i with
 |nil=>cases h
 |cons x l ih=>cases i with
  |zero=>exact am some (Qn h)
  |succ i=>exact ih h
def TN:Nat->List AV->(List AV->Option AV)->Option AV
 |0,_,k=>k []
 |_+1,[],k=>k []
 |n+1,x::f,k=>TN n f (λl=>k (x::l))
def Ig(n:Nat)(l:List AV)(k:List AV->Option AV):TN n l k=k (HD n l):=by
 induction n generalizing l k with
 |zero=>rfl
 |succ n ih=>cases l with
  |nil=>rfl
  |cons x l=>exact ih l _
def TO(C:a5)(t:TypeId)(rs f:Nat)(row:List AV):Option AV:=
 match C.ty t with
 |some ⟨_,g,true,_,_,_⟩=>
  match f,Nat.beq g rs with
  |0,true=>some (.agg row)
  |_,_=>TN g (FK f row) λl=>match Nat.beq l.length g with|true=>some (.agg l)|false=>none
 |some ⟨_,_,false,_,_,_⟩=>mo row f
 |none=>none
def MK{C:a5}{t:TypeId}{rs f:Nat}{row:List AV}{y:AV}(h:TO C t rs f row=some y):HI C t rs f row=some y:=by
 unfold TO at h;unfold HI
 cases g:C.ty t with
 |none=>rw[g]at h;cases h
 | some ti=>
  obtain⟨q,m,k,z,b,p⟩:=ti;rw[g]at h
  cases k with
  |false=>exact LD h
  |true=>
   cases f with
   |zero=>cases l:Nat.beq m rs<;>(simp only[l,Ig]at h⊢;exact h)
   |succ c=>simp only[Ig]at h⊢;exact h
def WL(C:a5)(t:TypeId)(g:List AV)(f:Nat):Option AV:=
 match C.ty t with
 |some ⟨_,k,true,_,_,_⟩=>TN k (FK f g) λl=>some (.agg l)
 |some ⟨_,_,false,_,_,_⟩=>mo g f
 |none=>none
def TP{C:a5}{t:TypeId}{g:List AV}{f:Nat}{y:AV}(h:WL C t g f=some y):Ot C t g f=some y:=by
 unfold WL at h;unfold Ot
 cases k:C.ty t with
 |none=>rw[k]at h;cases h
 |some ti=>
  obtain⟨p,q,l,z,b,m⟩:=ti;rw[k]at h
  cases l with
  |false=>exact LD h
  |true=>simp only[Ig]at h⊢;exact h
def Qo(C:a5)(h:AH)(t:TypeId)(a:AV):Option AV:=
 match a with
 | .ptr b c=>match h b with|some (.box cells)=>TO C t cells.length c cells|_=>none
 | .k rs c row=>TO C t rs c row
 |_=>none
def VC(C:a5)(t:TypeId)(f:Nat)(a:AV):Option AV:=
 match C.ty t with
 |some ⟨.struct l,_,_,_,_,_⟩=>match PU l f,a with|some (g,m),.agg k=>WL C m k g|_,_=>none
 |_=>none
def o_(r:b1):Option AV:=match r with| .ok x=>fA x|_=>none
def sA(C:a5)(ev:Operand->AV)(h:AH)(g:Op):Option AV:=
 match g with
 | .move x| .assign x=>fA (ev x)
 | .load t a=>Qo C h t (ev a)
 | .nilCheck x=>o_ (TD (ev x))
 | .fieldAddr t x f=>o_ (oJ C t f (ev x))
 | .field t x f=>VC C t f (ev x)
 | .extract x i=>match ev x with| .F k=>mo k i|_=>none
 | .unOp .not _ x=>match ev x with| .v (.bool b)=>some (.v (.bool (!b)))|_=>none
 |_=>none
def VD{r:b1}{x:AV}(h:o_ r=some x):r=.ok x:=by
 unfold o_ at h;split at h
 .exact am b1.ok (Qn h)
 cases h
def TQ{C:a5}{ev:Operand->AV}{h:AH}{s:Nat}{k:Op}{x:AV}(e:sA C ev h k=some x):bj C ev h s k=.ok x:=by
 unfold sA at e;split at e
 .exact am b1.ok (Qn e)
 .exact am b1.ok (Qn e)
 .rename_i t a;show tG C h t (ev a)=.ok x;unfold Qo at e;unfold tG;generalize ev a=z at e⊢
  cases z with
  |ptr b c=>
   simp only at e⊢;split at e
   .rename_i g;simp only[g];rw[MK e];rfl
   .cases e
  |k rs c row=>simp only at e⊢;rw[MK e];rfl
  |_=>cases e
 .exact VD e
 .exact VD e
 .rename_i t y f;show Ab C t f (ev y)=.ok x;unfold VC at e;unfold Ab;split at e
  .rename_i g;simp only[g];split at e
   .rename_i l m;simp only[l,m];rw[TP e];rfl
   .cases e
  .cases e
 .rename_i y i;show rY i (ev y)=.ok x;unfold rY;split at e
  .rename_i g;simp only[g];rw[LD e];rfl
  .cases e
 .rename_i t y;show j5 .not (ev y)=.ok x;split at e
  .rename_i g;cases e;simp only[j5,g]
  .cases e
 .cases e
def sO(C:a5)(t:Nat->AV)(h:AH)(o:Oper):Option (Nat×AV):=
 match o.guard,o.dst with
 |none,some d=>(match sA C (bi C t) h o.op with|some x=>some (d,x)|none=>none)
 |_,_=>none
def sh{C:a5}{t:Nat->AV}{h:AH}{o:Oper}{d:Nat}{x:AV}(e:sO C t h o=some (d,x)):o.guard=none/\o.dst=some d/\sA C (bi C t) h o.op=some x:=by
 unfold sO at e;split at e
 .rename_i f g;split at e
  .rename_i k;cases e;exact⟨f,g,k⟩
  cases e
 cases e
def pt(C:a5)(h:AH):Nat->List Oper->(Nat->AV)->Option (List Oper×(Nat->AV))
 |0,ops,t=>some (ops,t)
 |_+1,[],_=>none
 |m+1,o::ops,t=>match sO C t h o with|some (d,x)=>pt C h m ops (an t d x)|none=>none
def ML:AV->Bool->Option Bool
 | .v (.bool b),true=>some b
 | .v (.bool b),false=>some (!b)
 | .ZY a (.v (.bool b)),true=>some (a&&b)
 | .ZY a (.v (.bool b)),false=>some (a&& !b)
 |_,_=>none
def Ce{x:AV}{f g:Bool}(e:ML x f=some g):Ad x f=some g:=by
 unfold ML at e;split at e<;>first|(cases e;rfl)|cases e
def sG(C:a5)(t:Nat->AV)(h:AH)(all:List Oper)(o:Oper):Option (Nat×Bool×Option Bool×AV):=
 match o.guard,o.dst with
 | some (i,f),some d=>
  (match(all[i]?).bind (·.dst)with
  |some e=>(match ML (t e) f,hU t o.op with
   |some g,none=>(match sA C (bi C t) h o.op with|some x=>some (d,g,none,x)|none=>none)
   |some g,some c=>(match sA C (gv C t o.op) h o.op with|some x=>some (d,g,some c,x)|none=>none)
   |none,_=>none)
  |none=>none)
 |_,_=>none
def mf(t:Nat->AV)(all:List Oper)(o:Oper):Option (Nat×Bool×Option Bool):=
 match o.guard,o.dst with
 | some (i,f),some d=>
  (match(all[i]?).bind (·.dst)with
  |some e=>(match ML (t e) f,hU t o.op with
   |some g,none=>some (d,g,none)
   |some g,some c=>some (d,g,some c)
   |none,_=>none)
  |none=>none)
 |_,_=>none
def nS:Nat->List AV->List AV->(List AV->Option AH)->Option AH
 |0,[],f,k=>k f
 |0,c::g,_::f,k=>nS 0 g f λl=>k (c::l)
 |0,_::_,[],k=>k []
 |n+1,g,x::f,k=>nS n g f λl=>k (x::l)
 |_+1,_,[],k=>k []
theorem LE:∀(n:Nat) (f g:List AV) (k:List AV->Option AH),nS n f g k=k (zS n f g)
 |0,[],[],k=>rfl
 |0,[],_::_,k=>rfl
 |0,c::f,_::g,k=>LE 0 f g _
 |0,_::_,[],k=>rfl
 |n+1,f,x::g,k=>LE n f g _
 |_+1,_,[],k=>rfl
theorem MM:∀(f g:List AV),Nat.beq f.length g.length=true->zS 0 f g=f
 |[],[],_=>rfl
 |[],_::_,h=>by cases h
 |c::f,[],h=>by cases h
 |c::f,x::g,h=>am (c:: ·) (MM f g h)
def pu(C:a5)(h:AH)(ty:TypeId)(a x:AV):Option AH:=
 match C.ty ty,kN x,a with
 | some ti,some f,.ptr b c=>
  (match Nat.beq f.length ti.j,h b with
  | true,some (.box cells)=>(match Nat.ble (c+f.length) cells.length with
   |true=>(match c,Nat.beq f.length cells.length with
    |0,true=>some (an h b (some (.box f)))
    |c,_=>nS c f cells λl=>some (an h b (some (.box l))))
   |false=>none)
  |_,_=>none)
 |_,_,_=>none
def pa(C:a5)(t:Nat->AV)(h:AH)(o:Oper):Option AH:=
 match o.guard,o.dst,o.op with
 |none,none,.store ty a x=>pu C h ty (bi C t a) (bi C t x)
 |_,_,_=>none
def r0(C:a5)(t:Nat->AV)(o:Oper):Option (Nat×List AV):=
 match o.guard,o.dst,o.op with
 |none,some d,.alloc ty=>(match AL C ty with|some f=>some (d,f)|none=>none)
 |none,some d,.box _ x=>(match kN (bi C t x)with|some f=>some (d,f)|none=>none)
 |_,_,_=>none
def fL:List AV->(List AV->Option (Nat×FuncId×List AV))->Option (Nat×FuncId×List AV)
 |[],k=>k []
 |x::f,k=>(match fA x with|some y=>fL f λl=>k (y::l)|none=>none)
theorem si:∀{l:List AV} {k:List AV->Option (Nat×FuncId×List AV)} {r:Nat×FuncId×List AV},fL l k=some r->k l=some r
 |[],k,r,h=>h
 | x::g,k,r,h=>by
  simp only[fL]at h;split at h
  .rename_i y f;rw[Qn f];exact si (k:=λl=>k (y::l)) h
  .cases h
def sC(C:a5)(t:Nat->AV)(o:Oper):Option (Nat×FuncId×List AV):=
 match o.guard,o.dst,o.op with
 | none,some d,.call c=>(match c.callee with
  | .value f=>(match bi C t f with
   | .a f first g=>fL (first++c.args.toList.map (bi C t)++g) λl=>some (d,f,l)
   |_=>none)
  |_=>none)
 |_,_,_=>none
def ta{C:a5}{t:Nat->AV}{h:AH}{s:Nat}{o:Oper}{d:Nat}{f:FuncId}{args:List AV}(e:sC C t o=some (d,f,args)):o.guard=none/\o.dst=some d/\bj C (bi C t) h s o.op=.call f args:=by
 unfold sC at e;split at e
 .rename_i u c l m p;split at e
  .rename_i g q;split at e
   .rename_i v first k r
    have:=si e;cases this
    refine⟨l,m,?_⟩;rw[p];show(match c.callee with| .builtin b=>_| .value f=>_|_=>_)=_;rw[q];simp only[r]
   cases e
  cases e
 cases e
def sV(C:a5)(t:Nat->AV)(h:AH)(s:Nat)(o:Oper):Option (Nat×AV):=match o.guard,o.dst,bj C (bi C t) h s o.op with|none,some d,.ok x=>some (d,x)|_,_,_=>none
def sD(o:Oper):Option Nat:=match o.guard with|none=>o.dst|_=>none
def OB{o:Oper}{d:Nat}(h:sD o=some d):o.guard=none/\o.dst=some d:=by
 unfold sD at h;split at h
 .rename_i e;exact⟨e,h⟩
 cases h
def fd{a b:Nat}(h:a<b:=by first|omega|rfl|(simp only[aH,bN,cX,aU,cC,aM,bD,cM,fV,jH];done)|(simp only[aH,bN,cX,aU,cC,aM,bD,cM,fV,jH];omega)|(simp[jH];done)|(simp[jH];omega)):0<=(a:Int)∧(a:Int)<(b:Int):=⟨aG _,FF.2 h⟩
def ad{p:Prop}(h:p:=by first|omega|rfl|(simp only[aH,bN,cX,aU,cC,aM,bD,cM,fV,jH];done)|(simp only[aH,bN,cX,aU,cC,aM,bD,cM,fV,jH];omega)|(simp[jH];done)|(simp[jH];omega)):p:=h
def r4{q:Prop}(h:q):True/\True/\True/\True/\q:=⟨tr,tr,tr,tr,h⟩
def ga{p:Prop}(h:p:=by repeat (first|exact trivial|refine⟨trivial,?_⟩)):p:=h
def kk{p:Prop}(h:p:=by repeat (first|exact trivial|refine⟨⟨rfl,_,rfl,.refl _⟩,?_⟩)):p:=h
def dc{p:Prop}(h:p:=by repeat' (first|exact trivial|constructor)):p:=h
def b9{p q:Prop}(h:p->q:=by intro h;first|(simp_all;done)|exact(Bool.and_eq_true_iff.1 h).1|exact Bool.and_eq_true_iff.2 ⟨h,h⟩):p->q:=h
def g_{p:Prop}(h:p:=by refine⟨?_,?_,?_⟩;all_goals (first|exact aG _|decide|(apply FG.2;exact ad)|(show((_:Nat):Int)=((_:Nat):Int);congr 1;omega)|rfl)):p:=h
def wT{p:Prop}(h:p:=by repeat (first|exact trivial|refine⟨⟨rfl,rfl⟩,?_⟩)):p:=h
def wH{p:Prop}(h:p:=by repeat (first|exact trivial|refine⟨⟨rfl,rfl,rfl⟩,?_⟩)):p:=h
section
variable {C:a5}{R:FuncId->List AV->AV->Prop}{all rest ops:List Oper}{o:Oper}{j n:Nat}{t t':Nat->AV}{h h':AH}{K:a4->Prop}{Q:c8->a4->Prop}{fn:Func}{st:a4}{x:AV}{d:Nat}
def oR(m:Nat)(f:pt C h m ops t=some (rest,t'))(k:jS C R all rest (j+m) ⟨t',h,n⟩ K):jS C R all ops j ⟨t,h,n⟩ K:=by
 induction m generalizing ops t j with
 |zero=>cases f;exact k
 | succ m ih=>
  cases ops with
  |nil=>cases f
  | cons o ops=>
   simp only[pt]at f;split at f
   .rename_i d x e;obtain⟨g,l,p⟩:=sh e;exact b' g l (TQ p) (ih f (by rw[dW,gJ 1];exact k))
   .cases f
def gN{g:Bool}(f:sG C t h all o=some (d,g,none,x))(k:jS C R all rest (j+1) ⟨an t d (.ZY g x),h,n⟩ K):jS C R all (o::rest) j ⟨t,h,n⟩ K:=by
 unfold sG at f;split at f
 .rename_i i v y l m;split at f
  .rename_i e p;split at f
   .rename_i z q r;split at f
    .rename_i A u;cases f;exact xm l p (Ce q) r m (TQ u) k
    cases f
   .split at f<;>cases f
   cases f
  cases f
 cases f
def gS{g c:Bool}(f:sG C t h all o=some (d,g,some c,x))(v:g=true->c=true)(k:jS C R all rest (j+1) ⟨an t d (.ZY g x),h,n⟩ K):jS C R all (o::rest) j ⟨t,h,n⟩ K:=by
 unfold sG at f;split at f
 .rename_i i y z l m;split at f
  .rename_i e p;split at f
   .split at f<;>cases f
   .rename_i A c' q r;split at f
    .rename_i B u;cases f;exact tw l p (Ce q) r v m (TQ u) k
    cases f
   cases f
  cases f
 cases f
def VE{g:Bool}{c:Option Bool}(f:mf t all o=some (d,g,c)):∃i k e,o.guard=some (i,k)∧(all[i]?).bind (·.dst)=some e∧Ad (t e) k=some g∧hU t o.op=c∧o.dst=some d:=by
 unfold mf at f;split at f
 .rename_i i k v p q;split at f
  .rename_i e r;split at f
   .rename_i u l m;cases f;exact⟨i,k,e,p,r,Ce l,m,q⟩
   .rename_i u c' l m;cases f;exact⟨i,k,e,p,r,Ce l,m,q⟩
   cases f
  cases f
 cases f
def gB{g:Bool}(r:mf t all o=some (d,g,none))(u:bj C (bi C t) h (n+j) o.op=.ok x)(k:jS C R all rest (j+1) ⟨an t d (.ZY g x),h,n⟩ K):jS C R all (o::rest) j ⟨t,h,n⟩ K:=by
 obtain⟨i,v,e,f,l,m,p,q⟩:=VE r;exact xm f l m p q u k
def aw{g c:Bool}(r:mf t all o=some (d,g,some c))(u:g=true->c=true)(v:bj C (gv C t o.op) h (n+j) o.op=.ok x)(k:jS C R all rest (j+1) ⟨an t d (.ZY g x),h,n⟩ K):jS C R all (o::rest) j ⟨t,h,n⟩ K:=by
 obtain⟨i,y,e,f,l,m,p,q⟩:=VE r;exact tw f l m p u q v k
def dm(s:Nat){g:List AV}(u:n+j=s)(f:r0 C t o=some (d,g))(k:jS C R all rest (j+1) ⟨an t d (.ptr s 0),an h s (some (.box g)),n⟩ K):jS C R all (o::rest) j ⟨t,h,n⟩ K:=by
 subst u;unfold r0 at f;split at f
 rotate_left 2
 .cases f
 all_goals
  first|rename_i q ty l m p|rename_i q ty y l m p
  split at f
  .rename_i v r;cases f
   exact eo (p:=True) l m (by rw[p];simp only[bj,r]) trivial k
  cases f
def WM{ty:TypeId}{a y:AV}{h':AH}(e:pu C h ty a y=some h'):(match C.ty ty,kN y with
  | some ti,some f=>(match Nat.beq f.length ti.j with
   |true=>(match a with
    | .ptr b c=>(match h b with|some (.box cells)=>(match Nat.ble (c+f.length) cells.length with|true=>b1.fx True .any (an h b (some (.box (zS c f cells))))|false=>.bad)|_=>.bad)
    |_=>.bad)
   |false=>.bad)
  |_,_=>.bad)=.fx True .any h':=by
 unfold pu at e;split at e
 .rename_i ti f b c g k;split at e
  .rename_i cells l m;split at e
   .rename_i p;simp only[g,k,l,m,p];split at e
    .rename_i q;cases e;rw[MM _ _ q]
    .rw[LE]at e;cases e;rfl
   .cases e
  .cases e
 .cases e
def a1(f:pa C t h o=some h')(k:jS C R all rest (j+1) ⟨t,h',n⟩ K):jS C R all (o::rest) j ⟨t,h,n⟩ K:=by
 unfold pa at f;split at f
 .rename_i ty a y g l m;have e:=WM f;refine Ow (p:=True) (x:=.any) g l ?_ trivial k;rw[m];simp only[bj];split at e
  .rename_i ti v p q;simp only[p,q];split at e
   .rename_i r;simp only[r];split at e
    .rename_i b c u;simp only[u];exact e
    cases e
   cases e
  cases e
 cases f
def dv(s:Nat)(f:List AV)(l:o.guard=none)(g:o.dst=none)(m:bj C (bi C t) h (n+j) o.op=.fx True .any (an h s (some (.box f))))(k:jS C R all rest (j+1) ⟨t,an h s (some (.box f)),n⟩ K):jS C R all (o::rest) j ⟨t,h,n⟩ K:=Ow l g m trivial k
def g5{f:FuncId}{args:List AV}(v:sC C t o=some (d,f,args))(r:oU args=true∨(CQ x=true∧jV h args))(q:R f (rO h args) x)(k:jS C R all rest (j+1) ⟨an t d x,h,n⟩ K)(g:eW (rO h args)=true:=by exact rfl)(u:eP x=true:=by exact rfl):jS C R all (o::rest) j ⟨t,h,n⟩ K:=by
 obtain⟨l,m,p⟩:=ta (h:=h) (s:=n+j) v;exact zE l m p g r u q k
def rV(x:AV)(f:sV C t h (n+j) o=some (d,x))(k:jS C R all rest (j+1) ⟨an t d x,h,n⟩ K):jS C R all (o::rest) j ⟨t,h,n⟩ K:=by
 unfold sV at f;split at f
 .rename_i g l m;cases f;exact b' g l m k
 cases f
def rW(x:AV)(f:sD o=some d)(g:bj C (bi C t) h (n+j) o.op=.ok x)(k:jS C R all rest (j+1) ⟨an t d x,h,n⟩ K):jS C R all (o::rest) j ⟨t,h,n⟩ K:=b' (OB f).1 (OB f).2 g k
def nW{p:Prop}(x:AV)(f:sD o=some d)(g:bj C (bi C t) h (n+j) o.op=.Z9 p x)(hp:p)(k:jS C R all rest (j+1) ⟨an t d x,h,n⟩ K):jS C R all (o::rest) j ⟨t,h,n⟩ K:=bO (OB f).1 (OB f).2 g hp k
def aW{f:FuncId}{args:List AV}(q:sC C t o=some (d,f,args))(l:R f (rO h args) x)(k:jS C R all rest (j+1) ⟨an t d x,h,n⟩ K)(g:eW (rO h args)=true:=by exact rfl)(p:eP x=true:=by exact rfl)(m:oU args=true:=by exact rfl):jS C R all (o::rest) j ⟨t,h,n⟩ K:=g5 q (.inl m) l k g p
def ja{rows:List (List AV)}{i:Int}{f:List AV->Option AV}(row:List AV)(x:AV)(g:sD o=some d)(q:bj C (bi C t) h (n+j) o.op=.idx rows i f)(p:rows[i.toNat]?=some row)(m:f row=some x)(k:jS C R all rest (j+1) ⟨an t d x,h,n⟩ K)(l:0<=i:=by exact aG _):jS C R all (o::rest) j ⟨t,h,n⟩ K:=FO row (OB g).1 (OB g).2 q ⟨l,p⟩ m k
end
def bk{C:a5}{R:FuncId->List AV->AV->Prop}{Q:c8->a4->Prop}{st:a4}{id:Nat}{ops:Array Oper}{dr:Bool}{b:Code}(k:jS (C.ZD dr) R ops.toList ops.toList 0 st (λf=>eA C R b f Q))(g:(dr&&FN ops.toList)=false:=by kernel_rfl):eA C R (.seq (.region id ops dr) b) st Q:=uR (Wz rfl k g)
def a7{C:a5}{R:FuncId->List AV->AV->Prop}{Q:c8->a4->Prop}{st:a4}{id:Nat}{ops:Array Oper}{dr:Bool}(k:jS (C.ZD dr) R ops.toList ops.toList 0 st (Q .normal))(f:(dr&&FN ops.toList)=false:=by kernel_rfl):eA C R (.region id ops dr) st Q:=Wz rfl k f
inductive Fr where
 |code (c:Code)
 |l (id:Nat)
def mZ(C:a5)(R:FuncId->List AV->AV->Prop):List Fr->(c8->a4->Prop)->c8->a4->Prop
 |[],F=>F
 | .code b::s,F=>λe st=>match e with| .normal=>eA C R b st (mZ C R s F)|e=>mZ C R s F e st
 | .l id::s,F=>λe st=>match e with| .exit i=>(match Nat.beq i id with|true=>mZ C R s F .normal st|false=>mZ C R s F (.exit i) st)|e=>mZ C R s F e st
inductive Cu where
 |ops (all ops:List Oper) (j:Nat)
 |code (c:Code)
 |ex (e:c8)
inductive jx where
 |Zl (all ops:List Oper) (j:Nat) (t:Nat->AV) (h:AH) (n:Nat) (s:List Fr)
 |ZE (c:Code) (t:Nat->AV) (h:AH) (n:Nat) (s:List Fr)
 |fin (e:c8) (t:Nat->AV) (h:AH) (n:Nat)
 |bad
def c4(C:a5)(k:Bool):Nat->Nat->Nat->Cu->(Nat->AV)->AH->Nat->List Fr->jx
 |0,_,_,_,_,_,_,_=>.bad
 |f+1,m,z,.ops _ [] j,t,h,n,s=>c4 C k f m z (.ex .normal) t h (n+j) s
 | f +1,m,z,.ops all (o::ops) j,t,h,n,s=>
  match sO C t h o with
  |some (d,x)=>c4 C k f m z (.ops all ops (j+1)) (an t d x) h n s
  | none=>
   match(match k with|true=>pa C t h o|false=>none)with
   |some h'=>c4 C k f m z (.ops all ops (j+1)) t h' n s
   | none=>
    match r0 C t o with
    |some (d,l)=>c4 C k f m z (.ops all ops (j+1)) (an t d (.ptr (n+j) 0)) (an h (n+j) (some (.box l))) n s
    |none=>
     match sG C t h all o with
     |some (d,g,none,x)=>c4 C k f m z (.ops all ops (j+1)) (an t d (.ZY g x)) h n s
     |_=>.Zl all (o::ops) j t h n s
 |f+1,m,z,.code .skip,t,h,n,s=>c4 C k f m z (.ex .normal) t h n s
 |f+1,m,z,.code (.exit i),t,h,n,s=>c4 C k f m z (.ex (.exit i)) t h n s
 |f+1,m,z,.code .ret,t,h,n,s=>c4 C k f m z (.ex .ret) t h n s
 |f+1,m,z,.code (.seq a b),t,h,n,s=>match z with|0=>.ZE (.seq a b) t h n s|z+1=>c4 C k f m z (.code a) t h n (.code b::s)
 |f+1,m,z,.code (.block id b),t,h,n,s=>c4 C k f m z (.code b) t h n (.l id::s)
 |f+1,m,z,.code (.region id ops dr),t,h,n,s=>match dr with|false=>c4 C k f m z (.ops ops.toList ops.toList 0) t h n s|true=>.ZE (.region id ops true) t h n s
 |f+1,m,z,.code (.cond c x y),t,h,n,s=>
  match m with
  |0=>.ZE (.cond c x y) t h n s
  |m+1=>match bi C t c with| .v (.bool true)=>c4 C k f m z (.code x) t h n s| .v (.bool false)=>c4 C k f m z (.code y) t h n s|_=>.bad
 |_+1,_,_,.code c,t,h,n,s=>.ZE c t h n s
 |f+1,m,z,.ex .normal,t,h,n,.code b::s=>c4 C k f m z (.code b) t h n s
 |f+1,m,z,.ex e,t,h,n,.code _::s=>c4 C k f m z (.ex e) t h n s
 |f+1,m,z,.ex (.exit i),t,h,n,.l id::s=>match Nat.beq i id with|true=>c4 C k f m z (.ex .normal) t h n s|false=>c4 C k f m z (.ex (.exit i)) t h n s
 |f+1,m,z,.ex e,t,h,n,.l _::s=>c4 C k f m z (.ex e) t h n s
 |_+1,_,_,.ex e,t,h,n,[]=>.fin e t h n
section
variable {C:a5}{R:FuncId->List AV->AV->Prop}{F:c8->a4->Prop}
def xk(C:a5)(R:FuncId->List AV->AV->Prop)(F:c8->a4->Prop)(c:Cu)(t:Nat->AV)(h:AH)(n:Nat)(s:List Fr):Prop:=
 match c with
 | .ops all ops j=>jS C R all ops j ⟨t,h,n⟩ (mZ C R s F .normal)
 | .code c=>eA C R c ⟨t,h,n⟩ (mZ C R s F)
 | .ex e=>mZ C R s F e ⟨t,h,n⟩
abbrev mu(C:a5)(R:FuncId->List AV->AV->Prop)(F:c8->a4->Prop):jx->Prop
 | .Zl all ops j t h n s=>jS C R all ops j ⟨t,h,n⟩ (mZ C R s F .normal)
 | .ZE c t h n s=>eA C R c ⟨t,h,n⟩ (mZ C R s F)
 | .fin e t h n=>F e ⟨t,h,n⟩
 | .bad=>False
def LC(C:a5):C.ZD false=C:=by unfold a5.ZD;rfl
theorem jI(l:Bool):∀(f m z:Nat) (c:Cu) (t:Nat->AV) (h:AH) (n:Nat) (s:List Fr),mu C R F (c4 C l f m z c t h n s)->xk C R F c t h n s
 |0,_,_,_,_,_,_,_,k=>k.elim
 |f+1,m,z,.ops all [] j,t,h,n,s,k=>jI l f m z (.ex .normal) t h (n+j) s k
 | f +1,m,z,.ops all (o::ops) j,t,h,n,s,k=>by
  unfold c4 at k;split at k
  .rename_i d x e;obtain⟨p,q,r⟩:=sh e;exact b' p q (TQ r) (jI l f m z _ _ _ _ _ k)
  .split at k
   .rename_i h' e;have e:pa C t h o=some h':=by cases l with|true=>exact e|false=>cases e
    exact a1 e (jI l f m z _ _ _ _ _ k)
   .split at k
    .rename_i d u e;exact dm _ rfl e (jI l f m z _ _ _ _ _ k)
    .split at k
     .rename_i d g x e;exact gN e (jI l f m z _ _ _ _ _ k)
     .exact k
 |f+1,m,z,.code .skip,t,h,n,s,k=>jI l f m z (.ex .normal) t h n s k
 |f+1,m,z,.code (.exit i),t,h,n,s,k=>jI l f m z (.ex (.exit i)) t h n s k
 |f+1,m,z,.code .ret,t,h,n,s,k=>jI l f m z (.ex .ret) t h n s k
 |f+1,m,0,.code (.seq a b),t,h,n,s,k=>k
 |f+1,m,z+1,.code (.seq a b),t,h,n,s,k=>uR (jI l f m z (.code a) t h n (.code b::s) k)
 |f+1,m,z,.code (.block id b),t,h,n,s,k=>kO (jI l f m z (.code b) t h n (.l id::s) k)
 |f+1,m,z,.code (.region id ops dr),t,h,n,s,k=>by
  cases dr with
  |true=>exact k
  |false=>exact Wz (id:=id) (dr:=false) rfl (by rw[LC];exact jI l f m z (.ops ops.toList ops.toList 0) t h n s k) rfl
 |f+1,0,z,.code (.cond c x y),t,h,n,s,k=>k
 |f+1,m+1,z,.code (.cond c x y),t,h,n,s,k=>by
  simp only[c4]at k;split at k
  .rename_i e;exact aV e (λ_=>jI l f m z (.code x) t h n s k) (λh=>by cases h)
  .rename_i e;exact aV e (λh=>by cases h) (λ_=>jI l f m z (.code y) t h n s k)
  .exact k.elim
 |f+1,m,z,.code (.loop b),t,h,n,s,k=>k
 |f+1,m,z,.code (.label _),t,h,n,s,k=>k
 |f+1,m,z,.code (.rangeFunc _ _ _ _),t,h,n,s,k=>k
 |f+1,m,z,.code (.scope _),t,h,n,s,k=>k
 |f+1,m,z,.code (.goto _),t,h,n,s,k=>k
 |f+1,m,z,.code (.refuse _),t,h,n,s,k=>k
 |f+1,m,z,.ex .normal,t,h,n,.code b::s,k=>jI l f m z (.code b) t h n s k
 |f+1,m,z,.ex (.exit i),t,h,n,.code b::s,k=>jI l f m z (.ex (.exit i)) t h n s k
 |f+1,m,z,.ex .ret,t,h,n,.code b::s,k=>jI l f m z (.ex .ret) t h n s k
 |f+1,m,z,.ex (.exit i),t,h,n,.l id::s,k=>by
  unfold c4 at k;show(match Nat.beq i id with|true=>mZ C R s F .normal ⟨t,h,n⟩|false=>mZ C R s F (.exit i) ⟨t,h,n⟩);split at k
  .exact jI l f m z (.ex .normal) t h n s k
  .exact jI l f m z (.ex (.exit i)) t h n s k
 |f+1,m,z,.ex .normal,t,h,n,.l id::s,k=>jI l f m z (.ex .normal) t h n s k
 |f+1,m,z,.ex .ret,t,h,n,.l id::s,k=>jI l f m z (.ex .ret) t h n s k
 |f+1,m,z,.ex e,t,h,n,[],k=>by cases e<;>exact k
variable {all ops all' ops':List Oper}{j j' n n':Nat}{t t':Nat->AV}{h h':AH}{s s':List Fr}{c c':Code}{e:c8}
def qS(m:Nat)(f:c4 C true 9999 m 9999 (.code c) t h n []=.Zl all' ops' j' t' h' n' s')(k:jS C R all' ops' j' ⟨t',h',n'⟩ (mZ C R s' F .normal)):eA C R c ⟨t,h,n⟩ F:=jI true 9999 m 9999 (.code c) t h n [] (by rw[f];exact k)
def rT(m:Nat)(f:c4 C true 9999 m 9999 (.code c) t h n []=.ZE c' t' h' n' s')(k:eA C R c' ⟨t',h',n'⟩ (mZ C R s' F)):eA C R c ⟨t,h,n⟩ F:=jI true 9999 m 9999 (.code c) t h n [] (by rw[f];exact k)
def qR(m:Nat)(f:c4 C true 9999 m 9999 (.ops all ops j) t h n s=.Zl all' ops' j' t' h' n' s')(k:jS C R all' ops' j' ⟨t',h',n'⟩ (mZ C R s' F .normal)):jS C R all ops j ⟨t,h,n⟩ (mZ C R s F .normal):=jI true 9999 m 9999 (.ops all ops j) t h n s (by rw[f];exact k)
def cr(m:Nat)(f:c4 C true 9999 m 9999 (.ops all ops j) t h n s=.ZE c' t' h' n' s')(k:eA C R c' ⟨t',h',n'⟩ (mZ C R s' F)):jS C R all ops j ⟨t,h,n⟩ (mZ C R s F .normal):=jI true 9999 m 9999 (.ops all ops j) t h n s (by rw[f];exact k)
def cg(m:Nat)(f:c4 C true 9999 m 9999 (.ops all ops j) t h n s=.fin e t' h' n')(k:F e ⟨t',h',n'⟩):jS C R all ops j ⟨t,h,n⟩ (mZ C R s F .normal):=jI true 9999 m 9999 (.ops all ops j) t h n s (by rw[f];exact k)
def qC(m:Nat)(f:c4 C true 9999 m 9999 (.code c) t h n s=.Zl all' ops' j' t' h' n' s')(k:jS C R all' ops' j' ⟨t',h',n'⟩ (mZ C R s' F .normal)):eA C R c ⟨t,h,n⟩ (mZ C R s F):=jI true 9999 m 9999 (.code c) t h n s (by rw[f];exact k)
def j4(m:Nat)(f:c4 C true 9999 m 9999 (.code c) t h n s=.ZE c' t' h' n' s')(k:eA C R c' ⟨t',h',n'⟩ (mZ C R s' F)):eA C R c ⟨t,h,n⟩ (mZ C R s F):=jI true 9999 m 9999 (.code c) t h n s (by rw[f];exact k)
def jj(m:Nat)(f:c4 C true 9999 m 9999 (.code c) t h n s=.fin e t' h' n')(k:F e ⟨t',h',n'⟩):eA C R c ⟨t,h,n⟩ (mZ C R s F):=jI true 9999 m 9999 (.code c) t h n s (by rw[f];exact k)
def qX(m:Nat)(f:c4 C true 9999 m 9999 (.ex e) t h n s=.Zl all' ops' j' t' h' n' s')(k:jS C R all' ops' j' ⟨t',h',n'⟩ (mZ C R s' F .normal)):mZ C R s F e ⟨t,h,n⟩:=jI true 9999 m 9999 (.ex e) t h n s (by rw[f];exact k)
def jk(m:Nat)(f:c4 C true 9999 m 9999 (.ex e) t h n s=.ZE c' t' h' n' s')(k:eA C R c' ⟨t',h',n'⟩ (mZ C R s' F)):mZ C R s F e ⟨t,h,n⟩:=jI true 9999 m 9999 (.ex e) t h n s (by rw[f];exact k)
def ck{f:c8}(m:Nat)(g:c4 C true 9999 m 9999 (.ex e) t h n s=.fin f t' h' n')(k:F f ⟨t',h',n'⟩):mZ C R s F e ⟨t,h,n⟩:=jI true 9999 m 9999 (.ex e) t h n s (by rw[g];exact k)
def lv(m z:Nat)(f:c4 C true 9999 m z (.ops all ops j) t h n s=.ZE c' t' h' n' s')(k:eA C R c' ⟨t',h',n'⟩ (mZ C R s' F)):jS C R all ops j ⟨t,h,n⟩ (mZ C R s F .normal):=jI true 9999 m z (.ops all ops j) t h n s (by rw[f];exact k)
def o'(m z:Nat)(f:c4 C true 9999 m z (.code c) t h n s=.ZE c' t' h' n' s')(k:eA C R c' ⟨t',h',n'⟩ (mZ C R s' F)):eA C R c ⟨t,h,n⟩ (mZ C R s F):=jI true 9999 m z (.code c) t h n s (by rw[f];exact k)
def xr(m z:Nat)(f:c4 C true 9999 m z (.ex e) t h n s=.ZE c' t' h' n' s')(k:eA C R c' ⟨t',h',n'⟩ (mZ C R s' F)):mZ C R s F e ⟨t,h,n⟩:=jI true 9999 m z (.ex e) t h n s (by rw[f];exact k)
def d_(m:Nat)(f:c4 C false 9999 m 9999 (.ops all ops j) t h n s=.Zl all' ops' j' t' h' n' s')(k:jS C R all' ops' j' ⟨t',h',n'⟩ (mZ C R s' F .normal)):jS C R all ops j ⟨t,h,n⟩ (mZ C R s F .normal):=jI false 9999 m 9999 (.ops all ops j) t h n s (by rw[f];exact k)
def S'(m:Nat)(f:c4 C false 9999 m 9999 (.code c) t h n s=.Zl all' ops' j' t' h' n' s')(k:jS C R all' ops' j' ⟨t',h',n'⟩ (mZ C R s' F .normal)):eA C R c ⟨t,h,n⟩ (mZ C R s F):=jI false 9999 m 9999 (.code c) t h n s (by rw[f];exact k)
def nj(m:Nat)(f:c4 C false 9999 m 9999 (.ex e) t h n s=.Zl all' ops' j' t' h' n' s')(k:jS C R all' ops' j' ⟨t',h',n'⟩ (mZ C R s' F .normal)):mZ C R s F e ⟨t,h,n⟩:=jI false 9999 m 9999 (.ex e) t h n s (by rw[f];exact k)
end
section
variable {C:a5}{R:FuncId->List AV->AV->Prop}{F:c8->a4->Prop}{all rest:List Oper}{o:Oper}{j n:Nat}{t:Nat->AV}{h h':AH}{s:List Fr}{x:AV}{d:Nat}{a b:Code}{e:Operand}
abbrev en(C:a5)(R:FuncId->List AV->AV->Prop)(F:c8->a4->Prop)(c:Cu)(t:Nat->AV)(h:AH)(n:Nat)(s:List Fr):Prop:=mu C R F (c4 C true 9999 0 9999 c t h n s)
def zK{c:Cu}(k:en C R F c t h n s):xk C R F c t h n s:=jI _ _ _ _ _ _ _ _ _ k
def dO(o:Oper):Nat:=match o.dst with|some d=>d|none=>0
def gD(o:Oper):Bool:=match o.guard,o.dst with|none,some _=>true|_,_=>false
def js(e:gD o=true):o.guard=none∧o.dst=some (dO o):=by
 unfold gD at e;split at e
 .rename_i f g;exact⟨f,by unfold dO;rw[g]⟩
 cases e
abbrev pC(C:a5)(R:FuncId->List AV->AV->Prop)(t:Nat->AV)(h:AH)(o:Oper)(x:AV):Prop:=match sC C t o with|some (_,f,args)=>R f (rO h args) x|none=>False
def bC(C:a5)(t:Nat->AV)(h:AH)(o:Oper):Bool:=match sC C t o with|some (_,_,args)=>(match oU args with|true=>eW (rO h args)|false=>false)|none=>false
def zW(x:AV)(g:bj C (bi C t) h (n+j) o.op=.ok x)(k:en C R F (.ops all rest (j+1)) (an t (dO o) x) h n s)(f:gD o=true:=by exact rfl):jS C R all (o::rest) j ⟨t,h,n⟩ (mZ C R s F .normal):=b' (js f).1 (js f).2 g (zK k)
def zV(x:AV)(k:en C R F (.ops all rest (j+1)) (an t (dO o) x) h n s)(g:bj C (bi C t) h (n+j) o.op=.ok x:=by exact rfl)(f:gD o=true:=by exact rfl):jS C R all (o::rest) j ⟨t,h,n⟩ (mZ C R s F .normal):=b' (js f).1 (js f).2 g (zK k)
def zN{p:Prop}(g:bj C (bi C t) h (n+j) o.op=.Z9 p x)(hp:p)(k:en C R F (.ops all rest (j+1)) (an t (dO o) x) h n s)(f:gD o=true:=by exact rfl):jS C R all (o::rest) j ⟨t,h,n⟩ (mZ C R s F .normal):=bO (js f).1 (js f).2 g hp (zK k)
def zM{p:Prop}(x:AV)(g:bj C (bi C t) h (n+j) o.op=.Z9 p x)(hp:p)(k:en C R F (.ops all rest (j+1)) (an t (dO o) x) h n s)(f:gD o=true:=by exact rfl):jS C R all (o::rest) j ⟨t,h,n⟩ (mZ C R s F .normal):=zN g hp k f
def E3{f:FuncId}{args:List AV}(g:sC C t o=some (d,f,args)):d=dO o:=by
 have:=(ta (h:=λ_=>none) (s:=0) g).2.1;unfold dO;rw[this]
def zC(l:pC C R t h o x)(k:en C R F (.ops all rest (j+1)) (an t (dO o) x) h n s)(p:eP x=true:=by exact rfl)(g:bC C t h o=true:=by exact rfl):jS C R all (o::rest) j ⟨t,h,n⟩ (mZ C R s F .normal):=by
 unfold bC at g;simp only[pC]at l;split at g
 .rename_i d f args e;rw[e]at l;rw[<-E3 e]at k;split at g
  .rename_i m;exact g5 e (.inl m) l (zK k) g p
  cases g
 cases g
def zL{f:FuncId}{args:List AV}(q:sC C t o=some (d,f,args))(m:oU args=true∨(CQ x=true∧jV h args))(l:R f (rO h args) x)(k:en C R F (.ops all rest (j+1)) (an t d x) h n s)(g:eW (rO h args)=true:=by exact rfl)(p:eP x=true:=by exact rfl):jS C R all (o::rest) j ⟨t,h,n⟩ (mZ C R s F .normal):=g5 q m l (zK k) g p
def zX{rows:List (List AV)}{i:Int}{f:List AV->Option AV}(row:List AV)(x:AV)(q:bj C (bi C t) h (n+j) o.op=.idx rows i f)(p:rows[i.toNat]?=some row)(k:en C R F (.ops all rest (j+1)) (an t (dO o) x) h n s)(m:f row=some x:=by exact rfl)(g:gD o=true:=by exact rfl)(l:0<=i:=by exact aG _):jS C R all (o::rest) j ⟨t,h,n⟩ (mZ C R s F .normal):=FO row (js g).1 (js g).2 q ⟨l,p⟩ m (zK k)
def zF{p:Prop}(g:bj C (bi C t) h (n+j) o.op=.fx p x h')(hp:p)(k:en C R F (.ops all rest (j+1)) (an t (dO o) x) h' n s)(f:gD o=true:=by exact rfl):jS C R all (o::rest) j ⟨t,h,n⟩ (mZ C R s F .normal):=eo (js f).1 (js f).2 g hp (zK k)
def zG{g c:Bool}(l:sG C t h all o=some (d,g,some c,x))(f:g=true->c=true)(k:en C R F (.ops all rest (j+1)) (an t d (.ZY g x)) h n s):jS C R all (o::rest) j ⟨t,h,n⟩ (mZ C R s F .normal):=gS l f (zK k)
def gn{g c:Bool}(f:mf t all o=some (d,g,some c))(l:g=true->c=true)(m:bj C (gv C t o.op) h (n+j) o.op=.ok x)(k:en C R F (.ops all rest (j+1)) (an t d (.ZY g x)) h n s):jS C R all (o::rest) j ⟨t,h,n⟩ (mZ C R s F .normal):=aw f l m (zK k)
def zQ{f:FuncId}{args:List AV}{g c:Bool}(y:mf t all o=some (d,g,some c))(A:g=true->c=true)(B:bj C (gv C t o.op) h (n+j) o.op=.call f args)(v:oU args=true∨(CQ x=true∧jV h args))(hp:g=true->R f (rO h args) x)(k:en C R F (.ops all rest (j+1)) (an t d (.ZY g x)) h n s)(l:eW (rO h args)=true:=by exact rfl)(z:eP x=true:=by exact rfl):jS C R all (o::rest) j ⟨t,h,n⟩ (mZ C R s F .normal):=by
 obtain⟨i,D,e,m,p,q,r,u⟩:=VE y;exact jQ m p q r A u B l v z hp (zK k)
def zH{f:FuncId}{args:List AV}{bs:AV->AH->Prop}(m:bj C (bi C t) h (n+j) o.op=.call f args)(l:C.H f args h (n+j) bs)(k:∀x h',bs x h'->en C R F (.ops all rest (j+1)) (an t (dO o) x) h' n s)(g:gD o=true:=by exact rfl):jS C R all (o::rest) j ⟨t,h,n⟩ (mZ C R s F .normal):=fU bs (js g).1 (js g).2 m l (λx h' q=>zK (k x h' q))
def zB{v:Bool}(f:bi C t e=.v (.bool v))(g:v=true->en C R F (.code a) t h n s)(k:v=false->en C R F (.code b) t h n s):eA C R (.cond e a b) ⟨t,h,n⟩ (mZ C R s F):=aV f (λq=>zK (g q)) (λq=>zK (k q))
def dx{f:Type}[BEq f][LawfulBEq f](x y:f)(k:x=y->en C R F (.code a) t h n s)(l: ¬x=y->en C R F (.code b) t h n s)(g:bi C t e=.v (.bool (x==y)):=by exact rfl):eA C R (.cond e a b) ⟨t,h,n⟩ (mZ C R s F):=kg x y (λq=>zK (k q)) (λq=>zK (l q)) g
def ci(p:Prop){v:Bool}(hp:v=true↔p)(g:p->en C R F (.code a) t h n s)(k: ¬p->en C R F (.code b) t h n s)(f:bi C t e=.v (.bool v):=by exact rfl):eA C R (.cond e a b) ⟨t,h,n⟩ (mZ C R s F):=j3 p hp (λq=>zK (g q)) (λq=>zK (k q)) f
def zT{v:Bool}(f:v=true)(k:en C R F (.code a) t h n s)(g:bi C t e=.v (.bool v):=by exact rfl):eA C R (.cond e a b) ⟨t,h,n⟩ (mZ C R s F):=cT f (zK k) g
abbrev kT(C:a5)(R:FuncId->List AV->AV->Prop)(F:c8->a4->Prop)(f:Bool)(u:jx):Prop:=match u with| .ZE (.cond _ a b) t h n s=>(match f with|true=>en C R F (.code a) t h n s|false=>en C R F (.code b) t h n s)|_=>False
abbrev nh(C:a5)(v:Bool)(u:jx):Prop:=match u with| .ZE (.cond e _ _) t _ _ _=>bi C t e=.v (.bool v)|_=>False
def uj{v:Bool}{u:jx}(g:v=true->kT C R F true u)(k:v=false->kT C R F false u)(f:nh C v u):mu C R F u:=by
 unfold nh at f;split at f
 .exact zB f g k
 exact f.elim
def b0{v:Bool}(k:bj C (bi C t) h (n+j) o.op=.ok (.v (.bool v)))(l:v=true->kT C R F true (c4 C true 9999 0 9999 (.ops all rest (j+1)) (an t (dO o) (.v (.bool v))) h n s))(m:v=false->kT C R F false (c4 C true 9999 0 9999 (.ops all rest (j+1)) (an t (dO o) (.v (.bool v))) h n s))(g:nh C v (c4 C true 9999 0 9999 (.ops all rest (j+1)) (an t (dO o) (.v (.bool v))) h n s):=by exact rfl)(f:gD o=true:=by exact rfl):jS C R all (o::rest) j ⟨t,h,n⟩ (mZ C R s F .normal):=zW _ k (uj l m g) f
def de(v:Bool)(l:v=true->kT C R F true (c4 C true 9999 0 9999 (.ops all rest (j+1)) (an t (dO o) (.v (.bool v))) h n s))(m:v=false->kT C R F false (c4 C true 9999 0 9999 (.ops all rest (j+1)) (an t (dO o) (.v (.bool v))) h n s))(k:bj C (bi C t) h (n+j) o.op=.ok (.v (.bool v)):=by exact rfl)(g:nh C v (c4 C true 9999 0 9999 (.ops all rest (j+1)) (an t (dO o) (.v (.bool v))) h n s):=by exact rfl)(f:gD o=true:=by exact rfl):jS C R all (o::rest) j ⟨t,h,n⟩ (mZ C R s F .normal):=zW _ k (uj l m g) f
def ct{f:Type}[BEq f][LawfulBEq f](x y:f)(m:x=y->kT C R F true (c4 C true 9999 0 9999 (.ops all rest (j+1)) (an t (dO o) (.v (.bool (x==y)))) h n s))(p: ¬x=y->kT C R F false (c4 C true 9999 0 9999 (.ops all rest (j+1)) (an t (dO o) (.v (.bool (x==y)))) h n s))(l:bj C (bi C t) h (n+j) o.op=.ok (.v (.bool (x==y))):=by exact rfl)(k:nh C (x==y) (c4 C true 9999 0 9999 (.ops all rest (j+1)) (an t (dO o) (.v (.bool (x==y)))) h n s):=by exact rfl)(g:gD o=true:=by exact rfl):jS C R all (o::rest) j ⟨t,h,n⟩ (mZ C R s F .normal):=de (x==y) (λe=>m (sU e)) (λe=>p (sU e)) l k g
def ul(e:(match o.guard,o.dst with|none,none=>true|_,_=>false)=true):o.guard=none∧o.dst=none:=by
 split at e
 .rename_i f g;exact⟨f,g⟩
 cases e
def zY{rows:List (List AV)}{i:Int}{f:List AV->Option AH}(row:List AV)(p:bj C (bi C t) h (n+j) o.op=.ZS rows i f)(m:0<=i∧rows[i.toNat]?=some row)(k:en C R F (.ops all rest (j+1)) t h' n s)(l:f row=some h':=by exact rfl)(g:(match o.guard,o.dst with|none,none=>true|_,_=>false)=true:=by exact rfl):jS C R all (o::rest) j ⟨t,h,n⟩ (mZ C R s F .normal):=nM row (ul g).1 (ul g).2 p m l (zK k)
def dk{st:a4}{κ:Type}(S:κ->a4)(G:κ->Prop)(m:κ->Nat)(l:κ)(σ:Nat->Nat)(v:di st (S l) σ)(r:G l)(round:∀k,G k->en C R (λe f=>match e with| .normal=>∃g σ,di f (S g) σ∧G g∧m g<m k|e=>en C R F (.ex e) f.t f.h f.n s) (.code b) (S k).t (S k).h (S k).n [])(p:C.fr=0:=by rfl):eA C R (.loop b) st (mZ C R s F):=
 jR S G m l σ v r (λk u=>lE b _ _ _ (λe f q=>by cases e with|normal=>exact q|exit i=>exact zK (c:=.ex (.exit i)) q|ret=>exact zK (c:=.ex .ret) q) (zK (c:=.code b) (round k u))) p
def lb{st:a4}{κ:Type}(S:κ->a4)(G:κ->Prop)(m:κ->Nat)(l:κ)(σ:Nat->Nat)(y:di st (S l) σ)(u:ef C.fr σ (S l).n=true)(r:G l)(round:∀k,G k->en C R (λe f=>match e with| .normal=>he f (λp=>∃g σ,di p (S g) σ∧ef C.fr σ (S g).n=true∧G g∧m g<m k)|e=>en C R F (.ex e) f.t f.h f.n s) (.code b) (S k).t (S k).h (S k).n []):eA C R (.loop b) st (mZ C R s F):=
 sX S G m l σ y u r (λk v=>lE b _ _ _ (λe f q=>by cases e with|normal=>exact q|exit i=>exact zK (c:=.ex (.exit i)) q|ret=>exact zK (c:=.ex .ret) q) (zK (c:=.code b) (round k v)))
theorem km{g:c8->a4->Prop}(f:∀e st,F e st->g e st):∀(s:List Fr) (e:c8) (st:a4),mZ C R s F e st->mZ C R s g e st
 |[],e,st,k=>f e st k
 | .code b::s,e,st,k=>by
  cases e with
  |normal=>exact lE b _ _ _ (km f s) k
  |exit i=>exact km f s _ _ k
  |ret=>exact km f s _ _ k
 | .l id::s,e,st,k=>by
  cases e with
  |normal=>exact km f s _ _ k
  |ret=>exact km f s _ _ k
  |exit i=>
   simp only[mZ]at k⊢;split at k
   .exact km f s _ _ k
   .exact km f s _ _ k
theorem E2{g:c8->a4->Prop}(f:∀e st,F e st->g e st):∀(u:jx),mu C R F u->mu C R g u
 | .Zl _ l j t h n s,k=>Eo (km f s .normal) l j _ k
 | .ZE c t h n s,k=>lE c _ _ _ (km f s) k
 | .fin e t h n,k=>f e _ k
 | .bad,k=>k.elim
def zR{id:Nat}{ops:Array Oper}{dr:Bool}(k:en (C.ZD dr) R (λ_ st=>en C R F (.ex .normal) st.t st.h st.n s) (.ops ops.toList ops.toList 0) t h n [])(f:(dr&&FN ops.toList)=false:=by kernel_rfl):eA C R (.region id ops dr) ⟨t,h,n⟩ (mZ C R s F):=
 Wz (l:=ops.toList) rfl (jI (F:=λe st=>mZ C R s F .normal st) true 9999 0 9999 (.ops ops.toList ops.toList 0) t h n [] (E2 (λ_ st q=>zK (c:=.ex .normal) q) _ k)) f
end
open Go.Proofs.Tryz
set_option maxRecDepth 100000
def qK(inf:TypeInfo){t:TypeId}{i:TI}{d:TypeDesc}(v:Tryz.prog.underlying t=some d)
  (z:match i.kd with
  | .bool=>d=.bool
  | .int k=>d=.int k
  | .string=>d=.string
  | .slice e=>d=.slice e
  | .array n e=>d=.array n e
  | .struct m=>∃g,d=.struct g∧g.toList.map (λf=>(f.offset,f.type))=m∧(g.toList.all λf=>match Tryz.prog.info? f.type with|some i=> !(i.size==0)|none=>false)=true
  |_=>True) (y:i.eq≠[]->mj Tryz.prog t i.eq:=by exact λh=>absurd rfl h) (p:Tryz.prog.info? t=some inf:=by kernel_rfl) (q:inf.zero=some (inf.zero.getD .nilFunc):=by rfl) (r:i.zero=Pq (inf.zero.getD .nilFunc):=by rfl) (u:Wk Tryz.prog inf (inf.zero.getD .nilFunc) i=true:=by kernel_rfl) (l:d.isRow=i.ag:=by rfl):mh Tryz.prog t i:=
 Tc p q r u v l z y
abbrev ru:TI:=⟨.int .u32,1,false,.v (.int .u32 0),4,[]⟩
set_option maxRecDepth 100000
abbrev D2:TI:=⟨.func,1,false,.v .nilFunc,8,[]⟩
def nk:TT:=.node 77 (.node 40 (.node 25 (.node 9 (.node 4 (.node 3 (.leaf 2 ⟨.int .i64,1,false,.v (.int .i64 0),8,[]⟩) (.leaf 3 ⟨.int .i64,1,false,.v (.int .i64 0),8,[]⟩)) (.node 5 (.leaf 4 ⟨.bool,1,false,.v (.bool false),1,[]⟩) (.leaf 5 ⟨.int .u8,1,false,.v (.int .u8 0),1,[]⟩))) (.node 23 (.node 22 (.leaf 9 ⟨.string,1,false,.v (.string ⟨#[]⟩),16,[]⟩) (.leaf 22 ⟨.slice 3,1,false,.Y 0 [] true,24,[]⟩)) (.node 24 (.leaf 23 ⟨.slice 29,1,false,.Y 0 [] true,24,[]⟩) (.leaf 24 ⟨.struct [(0,3),(1,3),(2,3),(3,3),(4,3),(5,3),(6,3),(7,3),(8,22),(9,4),(10,23)],11,true,.agg [.v (.int .i64 0),.v (.int .i64 0),.v (.int .i64 0),.v (.int .i64 0),.v (.int .i64 0),.v (.int .i64 0),.v (.int .i64 0),.v (.int .i64 0),.Y 0 [] true,.v (.bool false),.Y 0 [] true],120,[]⟩)))) (.node 32 (.node 30 (.node 29 (.leaf 25 ⟨.struct [(0,3),(1,3),(2,3),(3,3),(4,3),(5,3),(6,3),(7,3),(8,22),(9,4),(10,23)],11,true,.agg [.v (.int .i64 0),.v (.int .i64 0),.v (.int .i64 0),.v (.int .i64 0),.v (.int .i64 0),.v (.int .i64 0),.v (.int .i64 0),.v (.int .i64 0),.Y 0 [] true,.v (.bool false),.Y 0 [] true],120,[]⟩) (.leaf 29 ru)) (.node 31 (.leaf 30 ⟨.array 32 29,32,true,.agg [zU,zU,zU,zU,zU,zU,zU,zU,zU,zU,zU,zU,zU,zU,zU,zU,zU,zU,zU,zU,zU,zU,zU,zU,zU,zU,zU,zU,zU,zU,zU,zU],128,[.i,.i,.i,.i,.i,.i,.i,.i,.i,.i,.i,.i,.i,.i,.i,.i,.i,.i,.i,.i,.i,.i,.i,.i,.i,.i,.i,.i,.i,.i,.i,.i]⟩) (.leaf 31 ⟨.struct [(0,29),(1,30),(33,9),(34,3)],35,true,.agg [zU,zU,zU,zU,zU,zU,zU,zU,zU,zU,zU,zU,zU,zU,zU,zU,zU,zU,zU,zU,zU,zU,zU,zU,zU,zU,zU,zU,zU,zU,zU,zU,zU,.v (.string ⟨#[]⟩),.v (.int .i64 0)],160,[]⟩))) (.node 36 (.node 33 (.leaf 32 ⟨.struct [(0,29),(1,30),(33,9),(34,3)],35,true,.agg [zU,zU,zU,zU,zU,zU,zU,zU,zU,zU,zU,zU,zU,zU,zU,zU,zU,zU,zU,zU,zU,zU,zU,zU,zU,zU,zU,zU,zU,zU,zU,zU,zU,.v (.string ⟨#[]⟩),.v (.int .i64 0)],160,[.i,.i,.i,.i,.i,.i,.i,.i,.i,.i,.i,.i,.i,.i,.i,.i,.i,.i,.i,.i,.i,.i,.i,.i,.i,.i,.i,.i,.i,.i,.i,.i,.i,.s,.i]⟩) (.leaf 33 ⟨.slice 37,1,false,.Y 0 [] true,24,[]⟩)) (.node 37 (.leaf 36 ⟨.struct [(0,29),(1,29),(2,3),(3,29),(4,29),(5,3),(6,4),(7,3),(8,3)],9,true,.agg [zU,zU,.v (.int .i64 0),zU,zU,.v (.int .i64 0),.v (.bool false),.v (.int .i64 0),.v (.int .i64 0)],56,[]⟩) (.node 39 (.leaf 37 ⟨.struct [(0,29),(1,29),(2,3),(3,29),(4,29),(5,3),(6,4),(7,3),(8,3)],9,true,.agg [zU,zU,.v (.int .i64 0),zU,zU,.v (.int .i64 0),.v (.bool false),.v (.int .i64 0),.v (.int .i64 0)],56,[.i,.i,.i,.i,.i,.i,.b,.i,.i]⟩) (.leaf 39 ⟨.slice 5,1,false,.Y 0 [] true,24,[]⟩)))))) (.node 63 (.node 59 (.node 50 (.node 41 (.leaf 40 ⟨.struct [(0,3),(1,4),(2,3)],3,true,.agg [.v (.int .i64 0),.v (.bool false),.v (.int .i64 0)],24,[]⟩) (.leaf 41 ⟨.struct [(0,3),(1,4),(2,3)],3,true,.agg [.v (.int .i64 0),.v (.bool false),.v (.int .i64 0)],24,[.i,.b,.i]⟩)) (.node 51 (.leaf 50 ⟨.struct [(0,25),(11,23),(12,9),(13,3)],14,true,.agg [.v (.int .i64 0),.v (.int .i64 0),.v (.int .i64 0),.v (.int .i64 0),.v (.int .i64 0),.v (.int .i64 0),.v (.int .i64 0),.v (.int .i64 0),.Y 0 [] true,.v (.bool false),.Y 0 [] true,.Y 0 [] true,.v (.string ⟨#[]⟩),.v (.int .i64 0)],168,[]⟩) (.leaf 51 ⟨.struct [(0,25),(11,23),(12,9),(13,3)],14,true,.agg [.v (.int .i64 0),.v (.int .i64 0),.v (.int .i64 0),.v (.int .i64 0),.v (.int .i64 0),.v (.int .i64 0),.v (.int .i64 0),.v (.int .i64 0),.Y 0 [] true,.v (.bool false),.Y 0 [] true,.Y 0 [] true,.v (.string ⟨#[]⟩),.v (.int .i64 0)],168,[]⟩))) (.node 61 (.node 60 (.leaf 59 ⟨.slice 180,1,false,.Y 0 [] true,24,[]⟩) (.leaf 60 ⟨.slice 172,1,false,.Y 0 [] true,24,[]⟩)) (.node 62 (.leaf 61 ⟨.slice 176,1,false,.Y 0 [] true,24,[]⟩) (.leaf 62 ⟨.slice 139,1,false,.Y 0 [] true,24,[]⟩)))) (.node 67 (.node 65 (.node 64 (.leaf 63 ⟨.struct [(0,3),(1,62)],2,true,.agg [.v (.int .i64 0),.Y 0 [] true],32,[]⟩) (.leaf 64 ⟨.struct [(0,3),(1,62)],2,true,.agg [.v (.int .i64 0),.Y 0 [] true],32,[]⟩)) (.node 66 (.leaf 65 ⟨.slice 137,1,false,.Y 0 [] true,24,[]⟩) (.leaf 66 ⟨.slice 242,1,false,.Y 0 [] true,24,[]⟩))) (.node 69 (.node 68 (.leaf 67 ⟨.struct [(0,66),(1,29),(2,23)],3,true,.agg [.Y 0 [] true,zU,.Y 0 [] true],56,[]⟩) (.leaf 68 ⟨.struct [(0,66),(1,29),(2,23)],3,true,.agg [.Y 0 [] true,zU,.Y 0 [] true],56,[]⟩)) (.node 70 (.leaf 69 ⟨.struct [(0,25),(11,23),(12,3),(13,30),(45,29),(46,4),(47,59),(48,60),(49,3),(50,61),(51,64),(53,64),(55,65),(56,3),(57,3),(58,9),(59,68),(62,3),(63,33)],64,true,.agg [.v (.int .i64 0),.v (.int .i64 0),.v (.int .i64 0),.v (.int .i64 0),.v (.int .i64 0),.v (.int .i64 0),.v (.int .i64 0),.v (.int .i64 0),.Y 0 [] true,.v (.bool false),.Y 0 [] true,.Y 0 [] true,.v (.int .i64 0),zU,zU,zU,zU,zU,zU,zU,zU,zU,zU,zU,zU,zU,zU,zU,zU,zU,zU,zU,zU,zU,zU,zU,zU,zU,zU,zU,zU,zU,zU,zU,zU,zU,.v (.bool false),.Y 0 [] true,.Y 0 [] true,.v (.int .i64 0),.Y 0 [] true,.v (.int .i64 0),.Y 0 [] true,.v (.int .i64 0),.Y 0 [] true,.Y 0 [] true,.v (.int .i64 0),.v (.int .i64 0),.v (.string ⟨#[]⟩),.Y 0 [] true,zU,.Y 0 [] true,.v (.int .i64 0),.Y 0 [] true],576,[]⟩) (.node 72 (.leaf 70 ⟨.struct [(0,25),(11,23),(12,3),(13,30),(45,29),(46,4),(47,59),(48,60),(49,3),(50,61),(51,64),(53,64),(55,65),(56,3),(57,3),(58,9),(59,68),(62,3),(63,33)],64,true,.agg [.v (.int .i64 0),.v (.int .i64 0),.v (.int .i64 0),.v (.int .i64 0),.v (.int .i64 0),.v (.int .i64 0),.v (.int .i64 0),.v (.int .i64 0),.Y 0 [] true,.v (.bool false),.Y 0 [] true,.Y 0 [] true,.v (.int .i64 0),zU,zU,zU,zU,zU,zU,zU,zU,zU,zU,zU,zU,zU,zU,zU,zU,zU,zU,zU,zU,zU,zU,zU,zU,zU,zU,zU,zU,zU,zU,zU,zU,zU,.v (.bool false),.Y 0 [] true,.Y 0 [] true,.v (.int .i64 0),.Y 0 [] true,.v (.int .i64 0),.Y 0 [] true,.v (.int .i64 0),.Y 0 [] true,.Y 0 [] true,.v (.int .i64 0),.v (.int .i64 0),.v (.string ⟨#[]⟩),.Y 0 [] true,zU,.Y 0 [] true,.v (.int .i64 0),.Y 0 [] true],576,[]⟩) (.leaf 72 ⟨.slice 109,1,false,.Y 0 [] true,24,[]⟩))))))) (.node 146 (.node 116 (.node 106 (.node 87 (.node 86 (.leaf 77 ⟨.slice 107,1,false,.Y 0 [] true,24,[]⟩) (.leaf 86 ⟨.struct [(0,3),(1,3),(2,3),(3,3),(4,29)],5,true,.agg [.v (.int .i64 0),.v (.int .i64 0),.v (.int .i64 0),.v (.int .i64 0),zU],40,[]⟩)) (.node 88 (.leaf 87 ⟨.struct [(0,3),(1,3),(2,3),(3,3),(4,29)],5,true,.agg [.v (.int .i64 0),.v (.int .i64 0),.v (.int .i64 0),.v (.int .i64 0),zU],40,[.i,.i,.i,.i,.i]⟩) (.leaf 88 ⟨.int .i64,1,false,.v (.int .i64 0),8,[]⟩))) (.node 108 (.node 107 (.leaf 106 ⟨.struct [(0,29),(1,29),(2,3),(3,3),(4,29),(5,3)],6,true,.agg [zU,zU,.v (.int .i64 0),.v (.int .i64 0),zU,.v (.int .i64 0)],40,[]⟩) (.leaf 107 ⟨.struct [(0,29),(1,29),(2,3),(3,3),(4,29),(5,3)],6,true,.agg [zU,zU,.v (.int .i64 0),.v (.int .i64 0),zU,.v (.int .i64 0)],40,[.i,.i,.i,.i,.i,.i]⟩)) (.node 109 (.leaf 108 ⟨.struct [(0,62),(1,62),(2,65),(3,23)],4,true,.agg [.Y 0 [] true,.Y 0 [] true,.Y 0 [] true,.Y 0 [] true],96,[]⟩) (.leaf 109 ⟨.struct [(0,62),(1,62),(2,65),(3,23)],4,true,.agg [.Y 0 [] true,.Y 0 [] true,.Y 0 [] true,.Y 0 [] true],96,[]⟩)))) (.node 133 (.node 131 (.node 130 (.leaf 116 ⟨.int .u64,1,false,.v (.int .u64 0),8,[]⟩) (.leaf 130 ⟨.struct [(0,70)],64,true,.agg [.v (.int .i64 0),.v (.int .i64 0),.v (.int .i64 0),.v (.int .i64 0),.v (.int .i64 0),.v (.int .i64 0),.v (.int .i64 0),.v (.int .i64 0),.Y 0 [] true,.v (.bool false),.Y 0 [] true,.Y 0 [] true,.v (.int .i64 0),zU,zU,zU,zU,zU,zU,zU,zU,zU,zU,zU,zU,zU,zU,zU,zU,zU,zU,zU,zU,zU,zU,zU,zU,zU,zU,zU,zU,zU,zU,zU,zU,zU,.v (.bool false),.Y 0 [] true,.Y 0 [] true,.v (.int .i64 0),.Y 0 [] true,.v (.int .i64 0),.Y 0 [] true,.v (.int .i64 0),.Y 0 [] true,.Y 0 [] true,.v (.int .i64 0),.v (.int .i64 0),.v (.string ⟨#[]⟩),.Y 0 [] true,zU,.Y 0 [] true,.v (.int .i64 0),.Y 0 [] true],576,[]⟩)) (.node 132 (.leaf 131 ⟨.struct [(0,70)],64,true,.agg [.v (.int .i64 0),.v (.int .i64 0),.v (.int .i64 0),.v (.int .i64 0),.v (.int .i64 0),.v (.int .i64 0),.v (.int .i64 0),.v (.int .i64 0),.Y 0 [] true,.v (.bool false),.Y 0 [] true,.Y 0 [] true,.v (.int .i64 0),zU,zU,zU,zU,zU,zU,zU,zU,zU,zU,zU,zU,zU,zU,zU,zU,zU,zU,zU,zU,zU,zU,zU,zU,zU,zU,zU,zU,zU,zU,zU,zU,zU,.v (.bool false),.Y 0 [] true,.Y 0 [] true,.v (.int .i64 0),.Y 0 [] true,.v (.int .i64 0),.Y 0 [] true,.v (.int .i64 0),.Y 0 [] true,.Y 0 [] true,.v (.int .i64 0),.v (.int .i64 0),.v (.string ⟨#[]⟩),.Y 0 [] true,zU,.Y 0 [] true,.v (.int .i64 0),.Y 0 [] true],576,[]⟩) (.leaf 132 D2))) (.node 136 (.node 134 (.leaf 133 ⟨.pointer,1,false,.v (.pointer none),8,[]⟩) (.leaf 134 ⟨.array 7 132,7,true,.agg [.v .nilFunc,.v .nilFunc,.v .nilFunc,.v .nilFunc,.v .nilFunc,.v .nilFunc,.v .nilFunc],56,[]⟩)) (.node 137 (.leaf 136 ⟨.struct [(0,3),(1,29),(2,3),(3,9)],4,true,.agg [.v (.int .i64 0),zU,.v (.int .i64 0),.v (.string ⟨#[]⟩)],40,[]⟩) (.node 139 (.leaf 137 ⟨.struct [(0,3),(1,29),(2,3),(3,9)],4,true,.agg [.v (.int .i64 0),zU,.v (.int .i64 0),.v (.string ⟨#[]⟩)],40,[.i,.i,.i,.s]⟩) (.leaf 139 ⟨.slice 190,1,false,.Y 0 [] true,24,[]⟩)))))) (.node 190 (.node 176 (.node 172 (.node 171 (.leaf 146 ⟨.int .u64,1,false,.v (.int .u64 0),8,[]⟩) (.leaf 171 ⟨.struct [(0,3),(1,29),(2,87),(7,29),(8,3),(9,3),(10,29),(11,29),(12,29),(13,3),(14,3),(15,4),(16,4)],17,true,.agg [.v (.int .i64 0),zU,.v (.int .i64 0),.v (.int .i64 0),.v (.int .i64 0),.v (.int .i64 0),zU,zU,.v (.int .i64 0),.v (.int .i64 0),zU,zU,zU,.v (.int .i64 0),.v (.int .i64 0),.v (.bool false),.v (.bool false)],120,[]⟩)) (.node 175 (.leaf 172 ⟨.struct [(0,3),(1,29),(2,87),(7,29),(8,3),(9,3),(10,29),(11,29),(12,29),(13,3),(14,3),(15,4),(16,4)],17,true,.agg [.v (.int .i64 0),zU,.v (.int .i64 0),.v (.int .i64 0),.v (.int .i64 0),.v (.int .i64 0),zU,zU,.v (.int .i64 0),.v (.int .i64 0),zU,zU,zU,.v (.int .i64 0),.v (.int .i64 0),.v (.bool false),.v (.bool false)],120,[.i,.i,.i,.i,.i,.i,.i,.i,.i,.i,.i,.i,.i,.i,.i,.b,.b]⟩) (.leaf 175 ⟨.struct [(0,29),(1,9)],2,true,.agg [zU,.v (.string ⟨#[]⟩)],24,[]⟩))) (.node 180 (.node 179 (.leaf 176 ⟨.struct [(0,29),(1,9)],2,true,.agg [zU,.v (.string ⟨#[]⟩)],24,[.i,.s]⟩) (.leaf 179 ⟨.struct [(0,29),(1,29)],2,true,.agg [zU,zU],8,[]⟩)) (.node 189 (.leaf 180 ⟨.struct [(0,29),(1,29)],2,true,.agg [zU,zU],8,[.i,.i]⟩) (.leaf 189 ⟨.struct [(0,29),(1,4),(2,9)],3,true,.agg [zU,.v (.bool false),.v (.string ⟨#[]⟩)],24,[]⟩)))) (.node 284 (.node 241 (.node 207 (.leaf 190 ⟨.struct [(0,29),(1,4),(2,9)],3,true,.agg [zU,.v (.bool false),.v (.string ⟨#[]⟩)],24,[.i,.b,.s]⟩) (.leaf 207 ⟨.slice 4,1,false,.Y 0 [] true,24,[]⟩)) (.node 242 (.leaf 241 ⟨.struct [(0,29),(1,29)],2,true,.agg [zU,zU],8,[]⟩) (.leaf 242 ⟨.struct [(0,29),(1,29)],2,true,.agg [zU,zU],8,[.i,.i]⟩))) (.node 295 (.node 294 (.leaf 284 ⟨.slice 302,1,false,.Y 0 [] true,24,[]⟩) (.leaf 294 ⟨.struct [(0,29),(1,3),(2,9),(3,4)],4,true,.agg [zU,.v (.int .i64 0),.v (.string ⟨#[]⟩),.v (.bool false)],40,[]⟩)) (.node 301 (.leaf 295 ⟨.struct [(0,29),(1,3),(2,9),(3,4)],4,true,.agg [zU,.v (.int .i64 0),.v (.string ⟨#[]⟩),.v (.bool false)],40,[]⟩) (.node 302 (.leaf 301 ⟨.struct [(0,3),(1,3)],2,true,.agg [.v (.int .i64 0),.v (.int .i64 0)],16,[]⟩) (.leaf 302 ⟨.struct [(0,3),(1,3)],2,true,.agg [.v (.int .i64 0),.v (.int .i64 0)],16,[]⟩)))))))
def sg:Tb Tryz.prog nk:=⟨⟨⟨⟨⟨⟨qK Tryz.t2 underlying2 R,qK Tryz.t3 underlying3 R⟩,⟨qK Tryz.t4 underlying4 R,qK Tryz.t5 underlying5 R⟩⟩,⟨⟨qK Tryz.t9 underlying9 R,qK Tryz.t22 underlying22 R⟩,⟨qK Tryz.t23 underlying23 R,qK Tryz.t24 underlying24 ⟨_,R,by kernel_rfl,by kernel_rfl⟩⟩⟩⟩,⟨⟨⟨qK Tryz.t25 underlying25 ⟨_,R,by kernel_rfl,by kernel_rfl⟩,qK Tryz.t29 underlying29 R⟩,⟨qK Tryz.t30 underlying30 R (λ_=>Ta (d:=20) (inf:=Tryz.t29) (ks':=[.i]) underlying30 (by kernel_rfl) (by kernel_rfl) (by kernel_rfl) (by kernel_rfl) (by kernel_rfl)),qK Tryz.t31 underlying31 ⟨_,R,by kernel_rfl,by kernel_rfl⟩⟩⟩,⟨⟨qK Tryz.t32 underlying32 ⟨_,R,by kernel_rfl,by kernel_rfl⟩ (λ_=>vJ (d:=20) (by kernel_rfl)),qK Tryz.t33 underlying33 R⟩,⟨qK Tryz.t36 underlying36 ⟨_,R,by kernel_rfl,by kernel_rfl⟩,⟨qK Tryz.t37 underlying37 ⟨_,R,by kernel_rfl,by kernel_rfl⟩ (λ_=>vJ (d:=20) (by kernel_rfl)),qK Tryz.t39 underlying39 R⟩⟩⟩⟩⟩,⟨⟨⟨⟨qK Tryz.t40 underlying40 ⟨_,R,by kernel_rfl,by kernel_rfl⟩,qK Tryz.t41 underlying41 ⟨_,R,by kernel_rfl,by kernel_rfl⟩ (λ_=>vJ (d:=20) (by kernel_rfl))⟩,⟨qK Tryz.t50 underlying50 ⟨_,R,by kernel_rfl,by kernel_rfl⟩,qK Tryz.t51 underlying51 ⟨_,R,by kernel_rfl,by kernel_rfl⟩⟩⟩,⟨⟨qK Tryz.t59 underlying59 R,qK Tryz.t60 underlying60 R⟩,⟨qK Tryz.t61 underlying61 R,qK Tryz.t62 underlying62 R⟩⟩⟩,⟨⟨⟨qK Tryz.t63 underlying63 ⟨_,R,by kernel_rfl,by kernel_rfl⟩,qK Tryz.t64 underlying64 ⟨_,R,by kernel_rfl,by kernel_rfl⟩⟩,⟨qK Tryz.t65 underlying65 R,qK Tryz.t66 underlying66 R⟩⟩,⟨⟨qK Tryz.t67 underlying67 ⟨_,R,by kernel_rfl,by kernel_rfl⟩,qK Tryz.t68 underlying68 ⟨_,R,by kernel_rfl,by kernel_rfl⟩⟩,⟨qK Tryz.t69 underlying69 ⟨_,R,by kernel_rfl,by kernel_rfl⟩,⟨qK Tryz.t70 underlying70 ⟨_,R,by kernel_rfl,by kernel_rfl⟩,qK Tryz.t72 underlying72 R⟩⟩⟩⟩⟩⟩,⟨⟨⟨⟨⟨qK Tryz.t77 underlying77 R,qK Tryz.t86 underlying86 ⟨_,R,by kernel_rfl,by kernel_rfl⟩⟩,⟨qK Tryz.t87 underlying87 ⟨_,R,by kernel_rfl,by kernel_rfl⟩ (λ_=>vJ (d:=20) (by kernel_rfl)),qK Tryz.t88 underlying88 R⟩⟩,⟨⟨qK Tryz.t106 underlying106 ⟨_,R,by kernel_rfl,by kernel_rfl⟩,qK Tryz.t107 underlying107 ⟨_,R,by kernel_rfl,by kernel_rfl⟩ (λ_=>vJ (d:=20) (by kernel_rfl))⟩,⟨qK Tryz.t108 underlying108 ⟨_,R,by kernel_rfl,by kernel_rfl⟩,qK Tryz.t109 underlying109 ⟨_,R,by kernel_rfl,by kernel_rfl⟩⟩⟩⟩,⟨⟨⟨qK Tryz.t116 underlying116 R,qK Tryz.t130 underlying130 ⟨_,R,by kernel_rfl,by kernel_rfl⟩⟩,⟨qK Tryz.t131 underlying131 ⟨_,R,by kernel_rfl,by kernel_rfl⟩,qK Tryz.t132 underlying132 tr⟩⟩,⟨⟨qK Tryz.t133 underlying133 tr,qK Tryz.t134 underlying134 R⟩,⟨qK Tryz.t136 underlying136 ⟨_,R,by kernel_rfl,by kernel_rfl⟩,⟨qK Tryz.t137 underlying137 ⟨_,R,by kernel_rfl,by kernel_rfl⟩ (λ_=>vJ (d:=20) (by kernel_rfl)),qK Tryz.t139 underlying139 R⟩⟩⟩⟩⟩,⟨⟨⟨⟨qK Tryz.t146 underlying146 R,qK Tryz.t171 underlying171 ⟨_,R,by kernel_rfl,by kernel_rfl⟩⟩,⟨qK Tryz.t172 underlying172 ⟨_,R,by kernel_rfl,by kernel_rfl⟩ (λ_=>vJ (d:=20) (by kernel_rfl)),qK Tryz.t175 underlying175 ⟨_,R,by kernel_rfl,by kernel_rfl⟩⟩⟩,⟨⟨qK Tryz.t176 underlying176 ⟨_,R,by kernel_rfl,by kernel_rfl⟩ (λ_=>vJ (d:=20) (by kernel_rfl)),qK Tryz.t179 underlying179 ⟨_,R,by kernel_rfl,by kernel_rfl⟩⟩,⟨qK Tryz.t180 underlying180 ⟨_,R,by kernel_rfl,by kernel_rfl⟩ (λ_=>vJ (d:=20) (by kernel_rfl)),qK Tryz.t189 underlying189 ⟨_,R,by kernel_rfl,by kernel_rfl⟩⟩⟩⟩,⟨⟨⟨qK Tryz.t190 underlying190 ⟨_,R,by kernel_rfl,by kernel_rfl⟩ (λ_=>vJ (d:=20) (by kernel_rfl)),qK Tryz.t207 underlying207 R⟩,⟨qK Tryz.t241 underlying241 ⟨_,R,by kernel_rfl,by kernel_rfl⟩,qK Tryz.t242 underlying242 ⟨_,R,by kernel_rfl,by kernel_rfl⟩ (λ_=>vJ (d:=20) (by kernel_rfl))⟩⟩,⟨⟨qK Tryz.t284 underlying284 R,qK Tryz.t294 underlying294 ⟨_,R,by kernel_rfl,by kernel_rfl⟩⟩,⟨qK Tryz.t295 underlying295 ⟨_,R,by kernel_rfl,by kernel_rfl⟩,⟨qK Tryz.t301 underlying301 ⟨_,R,by kernel_rfl,by kernel_rfl⟩,qK Tryz.t302 underlying302 ⟨_,R,by kernel_rfl,by kernel_rfl⟩⟩⟩⟩⟩⟩⟩⟩
def Fl:List AV:=VA.map λk=>.v (.int .u32 (k:Nat))
noncomputable def C0:a5:={P:=Tryz.prog,ty:=nk.find,G:=λg=>match g with|0=>some Fl|_=>none,H:=pM Tryz.prog (λg=>match g with|0=>some Fl|_=>none)}
def gr:cb C0:=⟨TT.ZB nk sg,by kernel_rfl,λ_ _ _ _ _ h=>h⟩
theorem dI{f:FuncId}{fn:Func}{g:Code}{args:List AV}{r:AV}(q:C0.P.funcs[f]?=some fn)(u:eA C0 (bI C0) g ⟨gj args,λ _=>none,0⟩ (Fin C0 fn r))(p:fn.body=some g:=by rfl)(l:(fn.name== "runtime.NumGoroutine")=false:=by rfl) (m:rU fn.ntmps g=true:=by kernel_rfl) (k:Nat.ble args.length fn.ntmps=true:=by rfl):bI C0 f args r:=bI.intro gr q p l m k u
theorem bc{f:FuncId}{fn:Func}{g:Code}{args:List AV}{r:AV}(q:C0.P.funcs[f]?=some fn)(p:fn.body=some g)(u:en C0 (bI C0) (Fin C0 fn r) (.code g) (gj args) (λ _=>none) 0 [])(l:(fn.name== "runtime.NumGoroutine")=false:=by rfl) (m:rU fn.ntmps g=true:=by kernel_rfl) (k:Nat.ble args.length fn.ntmps=true:=by rfl):bI C0 f args r:=dI q (zK (c:=.code g) u) p l m k
def GZ(k:Nat)(f:k<49):Fl[k]?=some (.v (.int .u32 (cm k))):=by
 have:∀k,k<49->VA[k]?=some (cm k):=dT;simp only[Fl,aX,this k f,dF]
def D3{S:Nat->Prop}{w:World}(h:EE w)(p:S 0):j8 C0 S w:=λg cells l=>by
 match g,l with
 | 0,l=>
  injection l with l;subst l;have m:∀(j:Nat) a,Fl[j]?=some a->j<49:=λj a f=>(Em.1 f).1;exact .k Fl.length 0 Fl 0 0 (λk=>.int .u32 (cm k)) R p (λj a f=>by rw[bJ];exact h j (m j a f)) (λ_=>rfl) λj a f=>by
   rw[GZ j (m j a f)]at f;injection f with f;subst f;exact .v _
def Db{S:Nat->Prop}{w:World}(h:j8 C0 S w):EE w:=by
 have:=h 0 Fl R;generalize hp:Value.pointer (some (⟨0,0,none⟩:Addr))=p at this
 cases this with
 |k _ _ _ b o u m r l q g=>
  simp only[Value.pointer.injEq,jc,Addr.mk.injEq]at hp;obtain⟨rfl,v, -⟩:=hp;obtain rfl:o=0:=oT;intro k f;have e:=GZ k f;have:=l k _ e;rw[bJ]at this;rw[this,lV (g k _ e)]
structure St where
 M:Nat
 r:Nat->Nat
 mem:ByteArray
 halt:Int
structure Sp where
 M:Nat
 next:Nat
 rd:Int
 value:Nat
 W:Nat
 size:Int
 store:Bool
 halt:Int
 d:Int
abbrev c6(pc:Nat)(r:Nat->Nat)(m:ByteArray)(h:Int):List AV:=
 [.v (.int .u32 (pc:Int)),.v (.int .u32 (r 0:Int)),.v (.int .u32 (r 1:Int)),.v (.int .u32 (r 2:Int)),.v (.int .u32 (r 3:Int)),.v (.int .u32 (r 4:Int)),.v (.int .u32 (r 5:Int)),.v (.int .u32 (r 6:Int)),.v (.int .u32 (r 7:Int)),.v (.int .u32 (r 8:Int)),.v (.int .u32 (r 9:Int)),.v (.int .u32 (r 10:Int)),.v (.int .u32 (r 11:Int)),.v (.int .u32 (r 12:Int)),.v (.int .u32 (r 13:Int)),.v (.int .u32 (r 14:Int)),.v (.int .u32 (r 15:Int)),.v (.int .u32 (r 16:Int)),.v (.int .u32 (r 17:Int)),.v (.int .u32 (r 18:Int)),.v (.int .u32 (r 19:Int)),.v (.int .u32 (r 20:Int)),.v (.int .u32 (r 21:Int)),.v (.int .u32 (r 22:Int)),.v (.int .u32 (r 23:Int)),.v (.int .u32 (r 24:Int)),.v (.int .u32 (r 25:Int)),.v (.int .u32 (r 26:Int)),.v (.int .u32 (r 27:Int)),.v (.int .u32 (r 28:Int)),.v (.int .u32 (r 29:Int)),.v (.int .u32 (r 30:Int)),.v (.int .u32 (r 31:Int)),.v (.string m),.v (.int .i64 h)]
abbrev h_(s:St):AV:=.agg (c6 s.M s.r s.mem s.halt)
abbrev a2(x:Sp):List AV:=[.v (.int .u32 (x.M:Int)),.v (.int .u32 (x.next:Int)),.v (.int .i64 x.rd),.v (.int .u32 (x.value:Int)),.v (.int .u32 (x.W:Int)),.v (.int .i64 x.size),.v (.bool x.store),.v (.int .i64 x.halt),.v (.int .i64 x.d)]
abbrev r1(x:Sp):AV:=.agg (a2 x)
abbrev g9(i:SI):AV:=.agg [.v (.int .i64 i.op),.v (.int .i64 i.rd),.v (.int .i64 i.y),.v (.int .i64 i.A),.v (.int .u32 (i.C:Int))]
abbrev jl(x:St×Sp):AV:=.F [h_ x.1,r1 x.2]
structure St.ok(s:St):Prop where
 M:s.M<=4294967295
 r:∀k,s.r k<=4294967295
 mem:s.mem.size<=256
def hL(r:Nat->Nat)(k v:Nat):Nat->Nat:=λj=>if j=k then v else r j
def o8(pc:Nat)(r:Nat->Nat)(m:ByteArray)(h:Int)(n:Nat)(f:n<32):et (Lg (c6 pc r m h) (1+n*1))=.ok (.v (.int .u32 (r n:Int))):=by
 have:∀(n:_root_.Fin 32),et (Lg (c6 pc r m h) (1+n.1*1))=.ok (.v (.int .u32 (r n.1:Int))):=by
  intro n
  match n with
  |⟨0,_⟩=>rfl
  |⟨1,_⟩=>rfl
  |⟨2,_⟩=>rfl
  |⟨3,_⟩=>rfl
  |⟨4,_⟩=>rfl
  |⟨5,_⟩=>rfl
  |⟨6,_⟩=>rfl
  |⟨7,_⟩=>rfl
  |⟨8,_⟩=>rfl
  |⟨9,_⟩=>rfl
  |⟨10,_⟩=>rfl
  |⟨11,_⟩=>rfl
  |⟨12,_⟩=>rfl
  |⟨13,_⟩=>rfl
  |⟨14,_⟩=>rfl
  |⟨15,_⟩=>rfl
  |⟨16,_⟩=>rfl
  |⟨17,_⟩=>rfl
  |⟨18,_⟩=>rfl
  |⟨19,_⟩=>rfl
  |⟨20,_⟩=>rfl
  |⟨21,_⟩=>rfl
  |⟨22,_⟩=>rfl
  |⟨23,_⟩=>rfl
  |⟨24,_⟩=>rfl
  |⟨25,_⟩=>rfl
  |⟨26,_⟩=>rfl
  |⟨27,_⟩=>rfl
  |⟨28,_⟩=>rfl
  |⟨29,_⟩=>rfl
  |⟨30,_⟩=>rfl
  |⟨31,_⟩=>rfl
  |⟨k+32,h⟩=>exact absurd h oT
 exact this ⟨n,f⟩
def D0(pc:Nat)(r:Nat->Nat)(m:ByteArray)(h:Int)(n v:Nat)(f:n<32):zS (1+n*1) [.v (.int .u32 (v:Int))] (c6 pc r m h)=c6 pc (hL r n v) m h:=by
 have:∀(n:_root_.Fin 32),zS (1+n.1*1) [.v (.int .u32 (v:Int))] (c6 pc r m h)=c6 pc (hL r n.1 v) m h:=by
  intro n
  match n with
  |⟨0,_⟩=>rfl
  |⟨1,_⟩=>rfl
  |⟨2,_⟩=>rfl
  |⟨3,_⟩=>rfl
  |⟨4,_⟩=>rfl
  |⟨5,_⟩=>rfl
  |⟨6,_⟩=>rfl
  |⟨7,_⟩=>rfl
  |⟨8,_⟩=>rfl
  |⟨9,_⟩=>rfl
  |⟨10,_⟩=>rfl
  |⟨11,_⟩=>rfl
  |⟨12,_⟩=>rfl
  |⟨13,_⟩=>rfl
  |⟨14,_⟩=>rfl
  |⟨15,_⟩=>rfl
  |⟨16,_⟩=>rfl
  |⟨17,_⟩=>rfl
  |⟨18,_⟩=>rfl
  |⟨19,_⟩=>rfl
  |⟨20,_⟩=>rfl
  |⟨21,_⟩=>rfl
  |⟨22,_⟩=>rfl
  |⟨23,_⟩=>rfl
  |⟨24,_⟩=>rfl
  |⟨25,_⟩=>rfl
  |⟨26,_⟩=>rfl
  |⟨27,_⟩=>rfl
  |⟨28,_⟩=>rfl
  |⟨29,_⟩=>rfl
  |⟨30,_⟩=>rfl
  |⟨31,_⟩=>rfl
  |⟨k+32,h⟩=>exact absurd h oT
 exact this ⟨n,f⟩
def T3{ev:Operand->AV}{h:AH}{s b n v:Nat}{a x:Operand}{pc:Nat}{r:Nat->Nat}{m:ByteArray}{f:Int}(k:ev a=.ptr b (1+n*1))(l:h b=some (.box (c6 pc r m f)))(u:ev x=.v (.int .u32 (v:Int)))(q:n<32):
  bj C0 ev h s (.store 29 a x)=.fx True .any (an h b (some (.box (c6 pc (hL r n v) m f)))):=by
 have g:C0.ty 29=some ru:=rfl;have p:(1+n*1+([.v (.int .u32 (v:Int))]:List AV).length).ble (c6 pc r m f).length=true:=iL (by simp;omega);simp only[bj,g,u,kN,k,l];rw[show([AV.v (Value.int IntKind.u32 (v:Int))].length.beq 1)=true from R];simp only;rw[p];simp only;rw[D0 _ _ _ _ _ _ q]
def wr(i:SI):Int:=if yW (cW i.op)then i.rd else 0
def es(prog:List Nat)(pc:Nat):Option Nat:=if pc%4=0 then prog[pc/4]? else none
def DD(m:ByteArray)(f:Nat)(b:ByteArray):ByteArray:=⟨(m.data.toList.take f++b.data.toList++m.data.toList.drop (f+b.size)).toArray⟩
def Cv(m:ByteArray)(f n:Nat):ByteArray:=m.extract f (f+n)
def Gc(s:St)(f:Int)(g:Nat):St×Sp:=({s with halt:=f},⟨s.M,s.M,0,0,g,0,false,f,0⟩)
def b_(pc:Nat):Nat:=(pc+4)%4294967296
def fa(i:SI)(a:Nat):Nat:=(a+i.C)%4294967296
def la(b n:Nat):Nat:=dl (oF b n).data.toList (oF b n).size
def sN(s:St)(i:SI)(a b:Nat):St×Sp:=
 if kZ (s.mem.size:Int) (fa i a) (bh i.op:Nat)=true then
  if aj i.op=4 then({s with M:=b_ s.M,mem:=DD s.mem (fa i a) (oF b (bh i.op))},⟨s.M,b_ s.M,wr i,la b (bh i.op),fa i a,(bh i.op:Nat),aj i.op==4,0,0⟩)
  else if wr i=0 then({s with M:=b_ s.M},⟨s.M,b_ s.M,wr i,0,fa i a,(bh i.op:Nat),aj i.op==4,0,0⟩)
  else({s with M:=b_ s.M,r:=hL s.r (wr i).toNat (hG i.op (Cv s.mem (fa i a) (bh i.op)))},⟨s.M,b_ s.M,wr i,hG i.op (Cv s.mem (fa i a) (bh i.op)),fa i a,(bh i.op:Nat),aj i.op==4,0,0⟩)
 else Gc s (if aj i.op=4 then 5 else 4) (fa i a)
def IJ(s:St)(i:SI)(a b f:Nat)(tk:Int):St×Sp:=
 if wr i=0 then({s with M:=f},⟨s.M,f,wr i,0,0,0,false,0,tk⟩)
 else({s with M:=f,r:=hL s.r (wr i).toNat (BF i.op i.C s.M a b)},⟨s.M,f,wr i,BF i.op i.C s.M a b,0,0,false,0,tk⟩)
def oN(s:St)(i:SI)(a b:Nat):St×Sp:=
 if aj i.op=5 then
  if qP i.op i.C s.M a b%4=0 then IJ s i a b (qP i.op i.C s.M a b) 0 else Gc s 3 0
 else IJ s i a b (b_ s.M) (if aj i.op=2 then e8 i.op a b else 0)
def D1:Sp:=⟨0,0,0,0,0,0,false,0,0⟩
def dj(s:St)(i:SI):St×Sp:=
 if i.op=47 then Gc s 6 0
 else if i.op=48 then Gc s 7 0
 else if aj i.op=3\/aj i.op=4 then sN s i (s.r i.y.toNat) (s.r i.A.toNat)
 else oN s i (s.r i.y.toNat) (s.r i.A.toNat)
def a8(prog:List Nat)(pc:Nat):Nat:=(es prog pc).getD 0
def rA(prog:List Nat)(s:St):SI:=be (a8 prog s.M)
def gE(prog:List Nat)(s:St):St×Sp:=
 if s.halt=0 then
  if(es prog s.M).isSome=true then
   if dq (a8 prog s.M)=0 then Gc s 2 0 else dj s (rA prog s)
  else Gc s 1 0
 else(s,D1)
def IK(x:Nat):0<=(be x).rd/\(be x).rd<32/\0<=(be x).y/\(be x).y<32/\0<=(be x).A/\(be x).A<32/\(be x).C<4294967296:=by
 unfold be;split
 .exact⟨dT,dT,dT,dT,dT,dT,dT⟩
 have f:=iR x 7 5;have g:=iR x 15 5;have k:=iR x 20 5;refine⟨?_,?_,?_,?_,?_,?_,KC _ _ (sB _)⟩<;>simp only[xW]<;>split<;>omega
def pq(x:Nat):0<=wr (be x)/\wr (be x)<32:=by
 have:=IK x;unfold wr;split<;>omega
def oa:AV->Option Value
 | .F f=>match Ju f with|some l=>some (.tuple l.toArray)|none=>none
 |x=>SZ x
def Uz{S:Nat->Prop}{w:World}{β:Bt}{a:AV}{u:Value}(h:oa a=some u):av S w β a u:=by
 cases a with
 | F f=>
  simp only[oa]at h;split at h
  .rename_i l m;injection h with h;subst h;have:=BL (S:=S) (w:=w) (β:=β) m;exact .F f l.toArray (sU this.1) λi a u g k=>this.2 i a u g (sU k)
  .cases h
 |_=>exact Hj h
theorem bI.Zy{C:a5}{f:FuncId}{fn:Func}{args:List AV}{k:List Value}{r:AV}{v:Value}(u:C.P.funcs[f]?=some fn)(p:fn.body.isSome=true)(g:(fn.name== "runtime.NumGoroutine")=false)
  (m:Ju args=some k) (y:oa r=some v) (q:∀S w,j8 C S w->Calls C.P f k.toArray w λe w'=>e=.returned v/\Below w.heap.size w w'):bI C f args r:=
 ⟨⟨fn,u,p,g⟩,λS w D B l A=>by
  rw[Lj m A];exact(q S w l).mono λe w' ⟨bb,z⟩=>⟨v,bb,z,Uz y⟩⟩
theorem bI.Zp{C:a5}{f:FuncId}{fn:Func}{args:List AV}{k:List Value}{r:AV}{v:Value}(q:C.P.funcs[f]?=some fn)(m:fn.body.isSome=true)(g:(fn.name== "runtime.NumGoroutine")=false)
  (l:Ju args=some k) (u:oa r=some v) (p:∀w,Calls C.P f k.toArray w λe w'=>e=.returned v/\Below w.heap.size w w'):bI C f args r:=
 .Zy q m g l u λ_ w _=>p w
section
variable (i:SI)
def pS:bI C0 128 [g9 i] (.v (.int .i64 ((aj i.op:Nat):Int))):=
 .of_flat func128 R R R R λw=>IP i.op i.rd i.y i.A i.C w
def Gd:bI C0 168 [g9 i] (.v (.int .i64 ((bh i.op:Nat):Int))):=
 .of_flat func168 R R R R λw=>Nz i.op i.rd i.y i.A i.C w
def Da:bI C0 164 [g9 i] (.v (.int .i64 (wr i))):=
 .of_flat func164 R R R R λw=>OX i.op i.rd i.y i.A i.C w
def LW(pc a b:Nat)(k:i.C<4294967296)(hp:pc<4294967296)(f:a<4294967296)(g:b<4294967296):bI C0 215 [g9 i,.v (.int .u32 (pc:Int)),.v (.int .u32 (a:Int)),.v (.int .u32 (b:Int))] (.F [.v (.int .u32 ((qP i.op i.C pc a b:Nat):Int)),.v (.bool (decide (qP i.op i.C pc a b%4=0)))]):=
 .Zp func215 R R R R λw=>OV i.op i.rd i.y i.A i.C pc a b w k hp f g
def Nu(pc a b:Nat)(k:i.C<4294967296)(hp:pc<4294967296)(f:a<4294967296)(g:b<4294967296):bI C0 213 [g9 i,.v (.int .u32 (pc:Int)),.v (.int .u32 (a:Int)),.v (.int .u32 (b:Int))] (.v (.int .u32 ((BF i.op i.C pc a b:Nat):Int))):=
 .of_flat func213 R R R R λw=>Rq i.op i.rd i.y i.A i.C pc a b w k hp f g
def Xz(f:Int)(a b:Nat)(l:a<4294967296)(m:b<4294967296):bI C0 214 [.v (.int .i64 f),.v (.int .u32 (a:Int)),.v (.int .u32 (b:Int))] (.v (.int .i64 (e8 f a b))):=
 .of_flat func214 R R R R λw=>(UC f a b w l m).mono λ_ _ ⟨g,k⟩=>⟨g,k ▸ Below.refl _ _⟩
def GY(size:Int)(g:Nat)(f:Int)(p:size<9223372036854775808)(m:g<4294967296):bI C0 114 [.v (.int .i64 size),.v (.int .u32 (g:Int)),.v (.int .i64 f)] (.v (.bool (kZ size g f))):=
 .of_flat func114 R R R R λw=>(Ru size g f w p m).mono λ_ _ ⟨k,l⟩=>⟨k,l ▸ Below.refl _ _⟩
def Nv(x n:Nat)(g:x<4294967296)(f:n<=4):bI C0 175 [.v (.int .u32 (x:Int)),.v (.int .i64 (n:Int))] (.F [.v (.string (oF x n)),.v (.int .i64 0)]):=
 .Zp func175 R R R R λw=>Rx x n w g f
def se(s:ByteArray)(k:s.size<=4):bI C0 200 [.v (.string s)] (.F [.v (.int .u32 ((dl s.data.toList s.size:Nat):Int)),.v (.int .i64 0)]):=
 .Zp func200 R R R R λw=>(NB s w k).mono λ_ _ ⟨f,g⟩=>⟨f,g ▸ Below.refl _ _⟩
def sf(f:Int)(s:ByteArray)(g:s.size<9223372036854775808):bI C0 165 [.v (.int .i64 f),.v (.string s)] (.v (.int .u32 ((hG f s:Nat):Int))):=
 .of_flat func165 R R R R λw=>UE f s w g
end
structure bp where
 kind:Int
 S:Nat
 left:Int
 data:ByteArray
structure Wy where
 S:Nat
 f:Bool
 data:ByteArray
structure Ca where
 ways:Int
 O:List (List Wy)
structure Pt where
 W:Nat
 data:ByteArray
structure Gs where
 M:Nat
 next:Nat
structure Gu where
 m:List Gs
 Z7:Nat
 I:List Nat
structure Ft where
 M:Nat
 K:Nat
structure Cf where
 mode:Int
 o:Int
 Z:Int
 queue:Int
 V:Int
 m:Int
 O:Int
 ways:Int
 q:List Int
 tables:Bool
 tape:List Nat
structure ai where
 no:Int
 M:Nat
 i:SI
 K:Nat
 is:Int
 left:Int
 value:Nat
 next:Nat
 W:Nat
 halt:Int
 d:Int
 known:Bool
 Z8:Bool
structure Co where
 Q:Cf
 prog:List Nat
 Z3:Int
 r:Nat->Nat
 J:Nat
 stop:Bool
 L:List Ft
 Z:List ai
 next:Int
 V:List Pt
 data:Ca
 u:Ca
 U:List bp
 asked:Int
 Z1:Int
 mem:ByteArray
 K:Gu
 halt:Int
 N:List Sp
def oZ:ByteArray:=⟨#[]⟩
def Cs:ai:=⟨0,0,MG,0,0,0,0,0,0,0,0,false,false⟩
def OU:bp:=⟨0,0,0,oZ⟩
def qE:Wy:=⟨0,false,oZ⟩
def bV(n lo f:Int):Int:=if(if n<lo then lo else n)>f then f else(if n<lo then lo else n)
def bZ(c:Cf):Cf:=
 {mode:=bV c.mode 0 2,o:=bV c.o 1 2,Z:=bV c.Z 2 8,queue:=bV c.queue 1 4,V:=bV c.V 1 4,m:=bV c.m 2 6
  O:=if bV c.O 1 4=3 then 2 else bV c.O 1 4,ways:=bV c.ways 1 2
  q:=(c.q.take 64).map λn=>bV n 1 8,tables:=c.tables,tape:=c.tape.take 64}
def jf(n lo f:Int):Bool:=decide (n>=lo)&&decide (n<=f)
def wA(c:Cf):Bool:=
 (c.q.all λn=>jf n 1 8)&&jf c.mode 0 2&&jf c.o 1 2&&jf c.Z 2 8&&jf c.queue 1 4&&jf c.V 1 4&&jf c.m 2 6&&jf c.O 1 4&&decide (c.O≠3)&&jf c.ways 1 2&&decide (c.q.length<=64)&&decide (c.tape.length<=64)
def lX(c:Cf)(k:Int):Int:=
 match(bZ c).q with
 |[]=>1
 |l=>l.getD ((max k 0).toNat%l.length) 1
def yG(c:Cf)(k:Int)(pc:Nat):Nat:=
 match(bZ c).tape with
 |[]=>b_ pc
 |l=>l.getD ((max k 0).toNat%l.length) 0
def ao(a:Nat):Nat:=a-a%16
def Bi(q:List bp)(g:Int)(agY:Nat)(left:Int)(f:ByteArray):List bp:=q++[⟨g,agY,max left 1,f⟩]
def eH(q:List bp):List bp×bp×Bool:=
 match q with
 |[]=>([],OU,false)
 |x::r=>if wrap64 (x.left-1)>0 then({x with left:=wrap64 (x.left-1)}::r,OU,false)else(r,{x with left:=wrap64 (x.left-1)},true)
def Ec(q:List bp)(agY:Nat)(f:Int):Bool:=q.any λx=>decide (x.S=agY)&&decide (x.kind=f)
def yH(q:List bp):Nat:=(q.filter λx=>decide (x.kind≠4)).length
def hj(c:Ca)(agY:Nat):Nat:=agY/16%c.O.length
def jY:List Wy->Nat->Option Nat
 |[],_=>none
 |w::l,agY=>if w.S=agY then some 0 else(jY l agY).map (· +1)
def xB(c:Ca)(k:Nat)(set:List Wy):Bool:=
 decide ((set.length:Int)<=c.ways)&&(List.range set.length).all λat_=>match set[at_]? with
  |some w=>decide (ao w.S=w.S)&&decide (hj c w.S=k)&&(decide (w.data.size=0)||decide (w.data.size=16))&&(jY (set.take at_) w.S).isNone
  |none=>true
def gG(c:Ca):Bool:=
 (decide (c.O.length=1)||decide (c.O.length=2)||decide (c.O.length=4))&&(decide (c.ways=1)||decide (c.ways=2))&&(List.range c.O.length).all λk=>match c.O[k]? with
  |some s=>xB c k s
  |none=>true
def CZ(f ways:Int):Ca:=⟨bV ways 1 2,List.replicate (if bV f 1 4=3 then 2 else bV f 1 4).toNat []⟩
def eY{f:Type}(l:List f)(k:Nat):List f:=(match l[k]? with|some x=>[x]|none=>[])++l.take k++l.drop (k+1)
def rK(c:Ca)(k:Nat)(set:List Wy):Ca:=⟨c.ways,c.O.set k set⟩
def bK(c:Ca)(agY:Nat):Nat×Option Nat:=
 if gG c=true then(hj c (ao agY),jY ((c.O[hj c (ao agY)]?).getD []) (ao agY))else(0,none)
def pF(c:Ca)(k:Nat):List Wy:=(c.O[k]?).getD []
def tO(c:Ca)(agY:Nat):Ca:=
 match bK c agY with
 |(k,some j)=>rK c k (eY (pF c k) j)
 |(_,none)=>c
def dC(d:ByteArray):ByteArray:=if d.size=16 then d else oZ
def ku{g:Type}(f:g->g):List g->List g
 |[]=>[]
 |x::l=>f x::l
def qZ(c:Ca)(agY:Nat)(data:ByteArray)(agQ:Bool):Ca×Wy×Bool:=
 if gG c=true then
  match bK c agY with
  |(k,some j)=>(rK c k (ku (λw=>{w with data:=if(dC data).size=0 then w.data else dC data,f:=w.f||agQ}) (eY (pF c k) j)),qE,false)
  | (k,none)=>
   if((pF c k).length:Int)=c.ways then
    (rK c k (⟨ao agY,agQ,dC data⟩::(pF c k).dropLast),(pF c k).getLast?.getD qE,true)
   else(rK c k (⟨ao agY,agQ,dC data⟩::pF c k),qE,false)
 else(c,qE,false)
def Fk(d:ByteArray)(f:Nat)(b:ByteArray):ByteArray:=d.extract 0 f++b++d.extract (f+b.size) d.size
def xL(c:Ca)(f:Nat)(bytes:ByteArray):Ca×Bool:=
 match bK c f with
 | (k,some j)=>
  match(pF c k)[j]? with
  |some w=>if w.data.size=0\/bytes.size+f%16>16 then(c,false)
   else(rK c k (ku (λw=>{w with data:=Fk w.data (f%16) bytes,f:=true}) (eY (pF c k) j)),true)
  |none=>(c,false)
 |(_,none)=>(c,false)
def wB(c:Ca)(agY:Nat):Ca:=
 match bK c agY with
 |(k,some j)=>rK c k ((pF c k).modify j λw=>{w with f:=false})
 |(_,none)=>c
def cR(c:Ca):Option Wy:=if gG c=true then c.O.flatten.find? (·.f)else none
def kY(c:Ca):List (List Wy):=if gG c=true then c.O.map λs=>s.map λw=>{w with data:=oZ}else []
def BE(m:ByteArray)(p:Pt):ByteArray:=
 if p.W<m.size then m.extract 0 p.W++p.data.extract 0 (min p.data.size (m.size-p.W))++m.extract (p.W+min p.data.size (m.size-p.W)) m.size else m
def rP(m:ByteArray)(l:List Pt):ByteArray:=l.foldl BE m
def fP(q:List bp):List Pt:=(q.filter λx=>decide (x.kind=4)).map λx=>⟨x.S,x.data⟩
def jZ(q:List bp)(m:ByteArray):ByteArray:=rP m (fP q)
def LV(c:Ca):List Pt:=c.O.flatten.map λw=>⟨w.S,w.data⟩
def Ct(c:Ca)(q:List bp)(m:ByteArray):ByteArray:=rP (jZ q m) (LV c)
def jz(agF:List Pt)(c:Ca)(q:List bp)(m:ByteArray):ByteArray:=rP (Ct c q m) agF
def Ga(m:ByteArray)(agY:Nat):ByteArray:=if ao agY<m.size then m.extract (ao agY) (ao agY+min (m.size-ao agY) 16)else oZ
def po:Gu:=⟨List.replicate 8 ⟨0,0⟩,0,[]⟩
def sM(g:Gu):Bool:=decide (g.m.length=8)&&decide (g.Z7<8)&&decide (g.I.length<=4)
def gO(g:Gu)(pc:Nat):Nat:=(pc/4^^^g.Z7)%8
def Ro(i:SI):Bool:=(decide (i.op=3)||decide (i.op=4))&&decide (i.rd=1)
def Gb(i:SI):Bool:=decide (i.op=4)&&decide (i.rd=0)&&decide (i.y=1)
def xC(g:Gu)(pc:Nat)(i:SI):Nat:=
 if sM g=true/\aj i.op=5 then
  if Gb i=true/\0<g.I.length then g.I.getLast?.getD 0
  else match g.m[gO g pc]? with
   |some s=>if s.M=pc/\ ¬(s.M=0/\s.next=0)then s.next else b_ pc
   |none=>b_ pc
 else b_ pc
def fM(g:Gu)(pc next:Nat)(i:SI):Gu:=
 if sM g=true/\aj i.op=5 then
  {m:=g.m.set (gO g pc) ⟨pc,next⟩
   Z7:=(2*g.Z7+(if next≠b_ pc then 1 else 0))%8
   I:=if Ro i=true then(if(g.I++[b_ pc]).length>4 then(g.I++[b_ pc]).drop 1 else g.I++[b_ pc])
    else if Gb i=true/\0<g.I.length then g.I.dropLast else g.I}
 else g
end Go.Proofs.YtiaekocjeinkjaaGreatDoor
