/- Joined texts. -/
import Derived.Scope
import Derived.Test.YtlhofpglndhfaaaGreatDoorS301
import Derived.Test.YtlhofpglndhfaaaGreatDoorS324
import Derived.Test.YtlhofpglndhfaaaGreatDoorS328
import Derived.Test.YtlhofpglndhfaaaGreatDoorS329
import Derived.Test.YtlhofpglndhfaaaGreatDoorS331
set_option linter.unusedVariables false
set_option linter.unusedSimpArgs false
namespace Go.Proofs.YtlhofpglndhfaaaGreatDoor
open Go.RowKit
theorem yA{S S':Nat→Prop}{w w':World}{β:Bt}{x:AV}{v:Value}(hr:Rep S w β x v)(hSS:∀ b,S b→S' b)(hS:∀ b,S b→w'.heap[b]?=w.heap[b]?):
  (∀ s l cs e fr,β s=some l→w.heap[l.blk]?=some (Obj.cells cs e fr)→∃ cs':Array Value,w'.heap[l.blk]?=some (.cells cs' e fr)∧cs'.size=cs.size)→Rep S' w' β x v:=by
 induction hr with
 |v x=>intro _;exact .v x
 |agg cs vs hl h1 h ih=>intro hb;exact .agg cs vs hl h1 λ i a u h1 h2=>ih i a u h1 h2 hb
 |tup cs vs hl h ih=>intro hb;exact .tup cs vs hl λ i a u h1 h2=>ih i a u h1 h2 hb
 |sl rs rows clip A c b o u hc hm hcl hrs hA hw h1 hr ih=>
  intro _;refine .sl rs rows clip A c b o u hc hm hcl hrs (λ h=>⟨(hA h).1,hSS _ (hA h).2⟩) (λ i row j a h1 h2=>?_) h1 λ i row j a h1 h2=>ih i row j a h1 h2 (λ s l _ _ _ e=>by cases e);have h0:0<rows.length:=bM (aF i) (Db.1 h1).1;rw[tB (hS b (hA h0).2)]
  exact hw i row j a h1 h2
 |dp rs col row b o u hrs hb hw h1 hr ih=>
  intro _
  exact .dp rs col row b o u hrs (hSS _ hb) (λ j a h1=>by rw[tB (hS b hb)];exact hw j a h1) h1 λ j a h1=>ih j a h1 (λ s l _ _ _ e=>by cases e)
 |ptr s col l hl=>intro hb;exact .ptr s col l hl
 |ptr2 s row col l hl=>intro hb;exact .ptr2 s row col l hl
 |osl s lo len clip l A c hl hc hm hcl hA cs e fr hb room=>
  intro hβ;obtain⟨cs',h1,h2⟩:=hβ _ _ _ _ _ hl hb
  exact .osl s lo len clip l A c hl hc hm hcl hA cs' e fr h1 (by rw[h2];exact room)
 |clo f first caps vs us hl h hl' h' ih ih'=>intro hb;exact .clo f first caps vs us hl (λ i a u h1 h2=>ih i a u h1 h2 hb) hl' λ i a u h1 h2=>ih' i a u h1 h2 hb
 |optT g a x hg h ih=>intro hb;exact .optT g a x hg (ih hb)
 |optF g a hg=>intro _;exact .optF g a hg
 |any x=>intro _;exact .any x
theorem LF{β:Bt}{w w':World}(h:∀ s l o,β s=some l→w.heap[l.blk]?=some o→w'.heap[l.blk]?=some o):
  ∀ s l cs e fr,β s=some l→w.heap[l.blk]?=some (Obj.cells cs e fr)→∃ cs':Array Value,w'.heap[l.blk]?=some (.cells cs' e fr)∧cs'.size=cs.size:=λ s l cs e fr h1 h2=>⟨cs,h s l _ h1 h2,rfl⟩
section
variable {C:Ctx}{V V':Inv C.fr}{w0:World}{S0:Nat→Prop}{N:Nat}
theorem SimD.move{D:Nat→Prop}{t:Nat→AV}{h:AH}{a:Act}{w w':World}{S:Nat→Prop}{β:Bt}(M:SimD C V w0 S0 N D t h a w S β)(hS:∀ b,S b→w'.heap[b]?=w.heap[b]?)
  (hb:∀ s l o,β s=some l→w.heap[l.blk]?=some o→w'.heap[l.blk]?=some o) (h1:w'.os=w.os) (h2:w'.tape=w.tape) (h3:w'.output=w.output) (hsz:w.heap.size≤w'.heap.size) (h0:∀ b,b<w0.heap.size→w'.heap[b]?=w.heap[b]?) (hV:V'.p S w' β):
  SimD C V' w0 S0 N D t h a w' S β:=by
 refine⟨λ i=>yA (M.T i) (λ _ h=>h) hS (LF hb),⟨λ s blk hs=>?_,M.H.inj,λ b hb=>Nat.lt_of_lt_of_le (M.H.lt b hb) hsz,aL M.H.big hsz⟩,⟨h1.trans M.B.os,h2.trans M.B.tape,h3.trans M.B.output,aL M.B.size hsz,λ b hb=>(h0 b hb).trans (M.B.block b hb)⟩,M.dom,M.df,M.sz,λ g cells hg=>yA (M.G g cells hg) (λ _ h=>h) hS (λ s l _ _ _ e=>by cases e),M.nw,hV⟩;obtain⟨l,cs,e,fr,k1,k2,k3,k4,k5,k6⟩:=M.H.own s blk hs;refine⟨l,cs,e,fr,k1,hb _ _ _ k1 k2,k3,k4,k5,?_⟩;have go:∀ a v,Rep S w β a v→Rep S w' β a v:=λ a v hr=>yA hr (λ _ h=>h) hS (LF hb)
 cases blk with
 |box cells=>exact λ j a h1=>let ⟨u,h2,h4,h3⟩:=k6 j a h1;⟨u,h2,h4,go _ _ h3⟩
 |arr rows rs=>exact⟨k6.1,k6.2.1,λ i row j a h1 h2=>let ⟨u,h3,h5,h4⟩:=k6.2.2 i row j a h1 h2;⟨u,h3,h5,yA h4 (λ _ h=>h) hS (λ s l _ _ _ e=>by cases e)⟩⟩
 |row cells=>exact⟨k6.1,λ j a h1=>let ⟨u,h2,h4,h3⟩:=k6.2 j a h1;⟨u,h2,h4,go _ _ h3⟩⟩
theorem SimD.inv{D:Nat→Prop}{t:Nat→AV}{h:AH}{a:Act}{w:World}{S:Nat→Prop}{β:Bt}(M:SimD C V w0 S0 N D t h a w S β)(hV:V'.p S w β):SimD C V' w0 S0 N D t h a w S β:=⟨M.T,M.H,M.B,M.dom,M.df,M.sz,M.G,M.nw,hV⟩
end
theorem Af(S:Nat→Prop)(w:World)(β:Bt)(s:Nat):FrP S w β s S w β:=
 ⟨λ _ h=>h,Evo.refl _ _,aC _,λ _ _ _ h=>h,λ x l h=>.inl ⟨x,l,h,rfl⟩,λ _ h=>.inl h,λ _ _ _=>rfl⟩
def RJ{α:Type}(C:Ctx)(g:FuncId)(caps:List AV)(encs:α→Array Value)(xs:List α):Prop:=
 ∀ (R:Nat→Prop) (w:World) (us:List Value),(∀ b,R b→b<w.heap.size)→GOk C R w→RepL R w noB caps us→Wf C.P g us.toArray encs xs R w
def We(t:Nat→AV):List Nat→List AV→Nat→AV
 |p::ps,x::xs=>We (upd t p x) ps xs
 |_,_=>t
def SP(n:Nat)(t:Nat→AV)(h:AH)(NX:Prop)(K:AEx→ASt→Prop):AEx→ASt→Prop
 | .normal,st=>NX∧GhostN st λ stg=>∃ σ,keepB n σ n=true∧Weak stg ⟨λ _=>.any,h,n⟩ σ
 | .ret,st=>GhostN st λ stg=>∃ h' σ,keepB n σ n=true∧Weak stg ⟨λ _=>.any,h',n⟩ σ∧K .ret ⟨t,h',n⟩
 | .exit _,_=>False
inductive RangeN(C:Ctx)(st:ASt)(g:Operand)(ps:List Nat)(asg body:Code)(K:AEx→ASt→Prop):Prop
 | mk (α:Type) (gf:FuncId) (caps:List AV) (encA:α→List AV) (encs:α→Array Value) (xs:List α) (NX:α→Prop)
   (hg:evA C st.t g=.clo gf [] caps) (hcl:fR caps=true) (hfn:∃ fn,C.P.funcs[gf]?=some fn∧fn.body.isSome=true∧(fn.name== "runtime.NumGoroutine")=false)
   (hit:RJ C gf caps encs xs) (henc:∀ x S w β,RepL S w β (encA x) (encs x).toList) (hps:∀ x,(encA x).length=ps.length) (hfull:CF st.h st.n=true)
   (round:∀ pre x,pre++[x] <+: xs→(∀ y,y∈pre→NX y)→gC (C.at st.n) (bY (C.at st.n)) asg ⟨We st.t ps (encA x),st.h,st.n⟩ (λ e st1=>e=.normal∧gC (C.at st.n) (bY (C.at st.n)) body st1 (SP st.n st.t st.h (NX x) K)))
   (done:(∀ y,y∈xs→NX y)→K .normal st):RangeN C st g ps asg body K
theorem LG{S:Nat→Prop}{w:World}{β:Bt}:∀ (ps:List Nat) (xs:List AV) (vs:List Value) (t:Nat→AV) (tm:Array Value),xs.length=vs.length→ps.length=xs.length→(∀ p∈ps,p<tm.size)→
  (∀ i,Rep S w β (t i) (tm.getD i undef))→(∀ (i:Nat) a u,xs[i]?=some a→vs[i]?=some u→Rep S w β a u)→
  ∀ i,Rep S w β (We t ps xs i) (((ps.zip vs).foldl (λ t (p,v)=>t.setIfInBounds p v) tm).getD i undef)
 |[],xs,vs,t,tm,_,_,_,hT,_=>hT
 |p::ps,[],vs,t,tm,h1,h2,_,hT,_=>by simp at h2
 |p::ps,x::xs,[],t,tm,h1,h2,_,hT,_=>by simp at h1
 | p::ps,x::xs,v::vs,t,tm,h1,h2,hp,hT,hr=>by
  show ∀ i,Rep S w β (We (upd t p x) ps xs i) (((ps.zip vs).foldl (λ t (p,v)=>t.setIfInBounds p v) (tm.setIfInBounds p v)).getD i undef);refine LG ps xs vs _ _ (by simpa using h1) (by simpa using h2) (λ q hq=>by rw[iJ];exact hp q (bZ _ hq)) (λ i=>?_) (λ i a u q1 q2=>hr (i+1) a u (by simpa using q1) (by simpa using q2));by_cases hi:i=p
  ·subst hi;have hlt:=hp i bO;rw[dA,aJ,cZ hlt];exact hr 0 x v rfl rfl
  ·rw[cE _ _ hi,aJ,cX (Ne.symm hi), ←aJ];exact hT i
theorem An:∀ (ps:List Nat) (vs:List Value) (tm:Array Value),((ps.zip vs).foldl (λ t (p,v)=>t.setIfInBounds p v) tm).size=tm.size
 |[],_,_=>rfl
 |_::_,[],_=>rfl
 |p::ps,v::vs,tm=>by
  show ((ps.zip vs).foldl (λ t (p,v)=>t.setIfInBounds p v) (tm.setIfInBounds p v)).size=_;rw[An ps vs,iJ]
theorem IU(ps:Array Nat)(vs:Array Value)(tm:Array Value):(ps.zip vs).foldl (λ t (p,v)=>t.setIfInBounds p v) tm=(ps.toList.zip vs.toList).foldl (λ t (p,v)=>t.setIfInBounds p v) tm:=by
 rw[←Array.foldl_toList,Array.toList_zip]
def dfs:Option Nat→List Deferred
 |none=>[]
 |some D=>[{target:=.collected D,args:= #[]}]
@[reducible] def Ctx.wd(C:Ctx)(d:Option Nat):Ctx:={C with df:=dfs d}
def Up(d:Option Nat)(w0:World)(S:Nat→Prop)(β:Bt)(w:World):Prop:=
 ∀ D,d=some D→w.heap[D]?=some (.deferred (some []))∧ ¬ OwnB β D∧ ¬ S D∧w0.heap.size≤D
def Xj(C:Ctx)(w0:World)(S0:Nat→Prop)(N:Nat)(Q:Option Nat→AEx→ASt→Prop)(e:Exit)(a:Act)(w:World):Prop:=
 ∃ d e' st S β,e=ES e'∧Q d e' st∧SimD (C.wd d) (Inv.any C.fr) w0 S0 N (· <st.n) st.t st.h a w S β∧Up d w0 S β w
theorem IV{P:Program}{f:FuncId}{fn:Func}(g1:P.funcs[f]?=some fn)(g2:fn.body.isSome=true)(g3:(fn.name== "runtime.NumGoroutine")=false) (args:Array Value) (w:World):(callFunc f args).run P w=.ok (.enter f args) w:=by
 simp only[callFunc,Sem.run_bind,program,Sem.run,Result.andThen_ok,g1];have:fn.body.isNone=false:=by cases hb:fn.body<;>simp_all
 simp[g3,this]
section
variable {C:Ctx}{w0:World}{S0:Nat→Prop}{N:Nat}{Q:Option Nat→AEx→ASt→Prop}
theorem Kn(hC:CtxOk C)(hCn:∀ n,CtxOk (C.at n))(hdf:C.df=[]){st:ASt}{g:Operand}{ps:Array Nat}{asg body:Code}(hp:ps.toList.all (λ p=>Nat.blt p N)=true)(hka:nX N (λ _=>false) asg=true)(hkb:nX N (λ _=>false) body=true)
  (R:RangeN C st g ps.toList asg body (λ e st'=>∀ D,Q (some D) e st')) {a:Act} {w:World} {S:Nat→Prop} {β:Bt} (M:SimD C (Inv.any C.fr) w0 S0 N (· <st.n) st.t st.h a w S β):
  (Code.rangeFunc g ps asg body).wp C.P (Xj C w0 S0 N Q) a w:=by
 obtain⟨α,gf,caps,encA,encs,xs,NX,hg,hcl,⟨fn,f1,f2,f3⟩,hit,henc,hps,hfull,round,done⟩:=R;have hfl:=tL hfull;have hge:=tR M g;rw[hg]at hge;have hnm:∀ x l,β x=some l→x<st.n∧w0.heap.size≤l.blk∧l.blk<w.heap.size∧ ¬ S l.blk:=λ x l hx=>by
  have hn:=M.dom x l hx;obtain⟨blk,hblk⟩:=CJ.1 (hfl x hn);obtain⟨l',cs,e,fr,k1,k2,k3,k4,k5,k6⟩:=M.H.own x blk hblk;rw[hx]at k1;cases k1;exact⟨hn,k4,fI k2,k5⟩
 generalize hgv:a.eval g=gv at hge
 cases hge with
 |clo _ _ _ vs us h1 h2 h3 h4=>
 have hvs:vs= #[]:=Array.eq_empty_of_size_eq_zero h1.symm;subst hvs;have hcaps:RepL S w noB caps us.toList:=by
  refine⟨by rw[h3];simp,λ i x u p q=>?_⟩;have:=h4 i x u p (by rw[←bJ];exact q);exact lM this (fQ _ hcl i x p) noB
 have hseq:=hit S w us.toList M.H.lt M.G hcaps;have same0:∀ {A:World},Same (λ b=> ¬ OwnB β b) w A→(∀ b,S b→A.heap[b]?=w.heap[b]?):=λ hs b hb=>
  hs.block b (M.H.lt b hb) λ⟨x,l,q1,q2⟩=>by have:=(hnm x l q1).2.2.2;rw[q2]at this;exact this hb
 let C1:(Nat→Prop)→List α→World→Prop:=λ CC pre A=>(∀ y,y∈pre→NX y)∧∃ SA,SimD (C.at st.n) (Inv.any st.n) w0 S0 N (· <st.n) st.t st.h a A SA β∧(∀ b,SA b→b<w.heap.size∨CC b)∧(∀ b,OwnB β b→CC b)∧(∀ b,CC b→b<A.heap.size)
 let C2:(Nat→Prop)→List α→World→Prop:=λ CC pre A=>∃ SA h',(∀ D,Q (some D) .ret ⟨st.t,h',st.n⟩)∧SimD (C.at st.n) (Inv.any st.n) w0 S0 N (· <st.n) st.t h' a A SA β∧(∀ b,SA b→b<w.heap.size∨CC b)∧(∀ b,OwnB β b→CC b)∧(∀ b,CC b→b<A.heap.size)
 let C3:(Nat→Prop)→List α→α→Act→World→Prop:=λ CC pre x a1 B=>∃ st1 S1 β1 A SA,(∀ y,y∈pre→NX y)∧gC (C.at st.n) (bY (C.at st.n)) body st1 (SP st.n st.t st.h (NX x) (λ e st'=>∀ D,Q (some D) e st'))∧
  SimD (C.at st.n) (Inv.any st.n) w0 S0 N (· <st1.n) st1.t st1.h a1 B S1 β1∧(∀ b,S1 b→b<w.heap.size∨CC b)∧(∀ b,OwnB β b→CC b)∧(∀ b,OwnB β1 b→CC b)∧
  (∀ x l,x<st.n→β x=some l→β1 x=some l)∧
  SimD (C.at st.n) (Inv.any st.n) w0 S0 N (· <st.n) st.t st.h a A SA β∧(∀ b,SA b→S1 b)∧(∀ b,SA b→B.heap[b]?=A.heap[b]?)∧
  (∀ s l cs e fr,β s=some l→A.heap[l.blk]?=some (Obj.cells cs e fr)→∃ cs':Array Value,B.heap[l.blk]?=some (.cells cs' e fr)∧cs'.size=cs.size)∧w.heap.size≤B.heap.size
 have w00:w0.heap.size≤w.heap.size:=M.B.size;have noOwn0:∀ b,b<w0.heap.size→ ¬ OwnB β b:=λ b hb ⟨x,l,q1,q2⟩=>by have:=(hnm x l q1).2.1;omega
 have mv:∀ {CC:Nat→Prop} {A B:World} {D:Nat→Prop} {t:Nat→AV} {h:AH} {a:Act} {SA:Nat→Prop} {β1:Bt},SimD (C.at st.n) (Inv.any st.n) w0 S0 N D t h a A SA β1→(∀ b,SA b→b<w.heap.size∨CC b)→(∀ b,OwnB β1 b→b<w.heap.size∨CC b)→w.heap.size≤A.heap.size→Same (λ b=>b<w.heap.size∨CC b) A B→
   SimD (C.at st.n) (Inv.any st.n) w0 S0 N D t h a B SA β1:=λ X k1 k2 k3 hs=>
  X.move (λ b hb=>hs.block b (X.H.lt b hb) (k1 b hb)) (λ s l o q1 q2=>(hs.block _ (fI q2) (k2 _ ⟨s,l,q1,rfl⟩)).trans q2) hs.os hs.tape hs.output hs.size (λ b hb=>hs.block b (by omega) (.inl (by omega))) trivial
 have big:∀ {D:Nat→Prop} {t:Nat→AV} {h:AH} {a:Act} {A:World} {SA:Nat→Prop} {β1:Bt},SimD (C.at st.n) (Inv.any st.n) w0 S0 N D t h a A SA β1→w0.heap.size≤A.heap.size:=λ X=>X.B.size;refine Ef (gf:=gf) (lb:=us) hgv (IV f1 f2 f3) (by simpa using hseq) (Same.refl _ _) M.H.lt (λ x=>by rw[←dO, ←dO, ←hps x];exact ((henc x S w β).1).symm)
  (λ CC pre A=>C1 CC pre A∧w.heap.size≤A.heap.size) (λ CC pre A=>C2 CC pre A∧w.heap.size≤A.heap.size) C3 (OwnB β) (λ b ⟨x,l,q1,q2⟩=>by have:=(hnm x l q1).2.2.1;omega) (λ b hb ⟨x,l,q1,q2⟩=>by have:=(hnm x l q1).2.2.2;rw[q2]at this;exact this hb)
  ?_ ?_ ?_ ?_ ?_ ?_ ?_ ?_ ?_ ?_
 ·rintro CC pre A B ⟨⟨hN,SA,X,k1,k2,k3⟩,k4⟩ hs;exact⟨⟨hN,SA,mv X k1 (λ b hb=>.inr (k2 b hb)) k4 hs,k1,k2,λ b hb=>Nat.lt_of_lt_of_le (k3 b hb) hs.size⟩,aL k4 hs.size⟩
 ·rintro CC pre A B ⟨⟨SA,h',q,X,k1,k2,k3⟩,k4⟩ hs;exact⟨⟨SA,h',q,mv X k1 (λ b hb=>.inr (k2 b hb)) k4 hs,k1,k2,λ b hb=>Nat.lt_of_lt_of_le (k3 b hb) hs.size⟩,aL k4 hs.size⟩
 ·rintro CC pre x a1 B B' ⟨st1,S1,β1,A,SA,hN,q,X,k1,k2,k3,k5,XA,k6,k7,k8,k9⟩ hs;refine⟨st1,S1,β1,A,SA,hN,q,mv X k1 (λ b hb=>.inr (k3 b hb)) k9 hs,k1,k2,k3,k5,XA,k6,λ b hb=>(hs.block b (X.H.lt b (k6 b hb)) (k1 b (k6 b hb))).trans (k7 b hb),λ s l cs e fr h1 h2=>?_,aL k9 hs.size⟩;obtain⟨cs',h5,h6⟩:=k8 s l cs e fr h1 h2;exact⟨cs',(hs.block _ (fI h5) (.inr (k2 _ ⟨s,l,h1,rfl⟩))).trans h5,h6⟩
 ·rintro CC pre A ⟨⟨hN,SA,X,k1,k2,k3⟩,k4⟩ b hb;exact k3 b hb
 ·rintro CC pre A ⟨⟨SA,h',q,X,k1,k2,k3⟩,k4⟩ b hb;exact k3 b hb
 ·refine⟨⟨(λ y hy=>by cases hy),S,⟨M.T,M.H,M.B,M.dom,M.df,M.sz,M.G,M.nw,trivial⟩,λ b hb=>.inl (M.H.lt b hb),λ b hb=>hb,λ b ⟨x,l,q1,q2⟩=>by have:=(hnm x l q1).2.2.1;omega⟩,aC _⟩
 ·
  rintro l CC pre x A ⟨⟨hN,SA,X,k1,k2,k3⟩,k4⟩ hpre _;have X0:SimD (C.at st.n) (EI SA A β st.n) w0 S0 N (· <st.n) (We st.t ps.toList (encA x)) st.h {tmps:=(ps.zip (encs x)).foldl (λ t (p,v)=>t.setIfInBounds p v) a.tmps,defers:=[]} A SA β:=by
   refine⟨λ i=>?_,X.H,X.B,X.dom,hdf.symm,?_,X.G,X.nw,Af _ _ _ _⟩
   ·rw[IU];have he:=henc x SA A β;exact LG _ _ _ _ _ he.1 (hps x).symm (λ p hq=>by rw[X.sz];exact aR (qI.1 hp p hq)) X.T he.2 i
   ·show ((ps.zip (encs x)).foldl (λ t (p,v)=>t.setIfInBounds p v) a.tmps).size=N;rw[IU,An];exact X.sz
  refine wpIn_mono (AD (C:=C.at st.n) (a0:={tmps:=(ps.zip (encs x)).foldl (λ t (p,v)=>t.setIfInBounds p v) a.tmps,defers:=[]}) (IW C.P l) (hCn st.n) asg hka ⟨_,st.h,st.n⟩ _ (round pre x hpre hN) _ A SA β X0 (tmk.refl _ _)) ?_;rintro e a1 B ⟨e',st1,S1,β1,rfl,⟨rfl,hb⟩,X1, -⟩;have P:FrP SA A β st.n S1 B β1:=X1.iv;refine⟨λ b=>CC b∨OwnB β1 b∨(A.heap.size≤b∧b<B.heap.size),⟨st1,S1,β1,A,SA,hN,hb,X1.inv trivial,λ b hb=>?_,λ b hb=>.inl (k2 b hb),λ b hb=>.inr (.inl hb),λ y l h1 h2=>P.keep y l h1 h2,X,P.hS,λ b hb=>P.hE.stable b hb,λ s l cs e fr h1 h2=>P.hE.shape _ _ _ _ h2,aL k4 P.sz⟩,
   ⟨X1.B.os.trans X.B.os.symm,X1.B.tape.trans X.B.tape.symm,X1.B.output.trans X.B.output.symm,P.sz,λ b hb hn=>P.still b hb λ h=>hn (k2 b h)⟩,λ b hb=>?_⟩
  ·rcases P.nw b hb with h|h|h
   ·exact (k1 b h).imp id .inl
   ·exact .inr (.inr (.inr ⟨h,X1.H.lt b hb⟩))
   ·exact .inr (.inl (k2 b h))
  ·rcases hb with h|⟨y,l,h1,h2⟩|h
   ·exact .inl h
   ·rcases P.own y l h1 with h|h
    ·exact .inl (k2 b (h2 ▸ h))
    ·exact .inr (h2 ▸ h)
   ·exact .inr h.1
 ·
  rintro l CC pre x a1 A1 ⟨st1,S1,β1,A,SA,hN,q,X,k1,k2,k3,k5,XA,k6,k7,k8,k9⟩ hpre _;refine wpIn_mono (AD (C:=C.at st.n) (V:=EI S1 A1 β1 st.n) (a0:=a1) (IW C.P l) (hCn st.n) body hkb st1 _ q a1 A1 S1 β1 (X.inv (Af _ _ _ _)) (tmk.refl _ _)) ?_;rintro e a2 B ⟨e',st2,S2,β2,rfl,hq,X2, -⟩;have fin:∀ (h':AH),(GhostN st2 λ stg=>∃ σ,keepB st.n σ st.n=true∧Weak stg ⟨λ _=>.any,h',st.n⟩ σ)→∃ S3,SimD (C.at st.n) (Inv.any st.n) w0 S0 N (· <st.n) st.t h' a B S3 β∧(∀ b,S3 b→b<w.heap.size∨CC b∨A1.heap.size≤b)∧Same (λ b=> ¬ CC b) A1 B:=by
   rintro h' ⟨stg,hgs,σ,hk,hW⟩;obtain⟨S3,X3⟩:=mV hgs X2;have X4:=oZ hW hk X3;have P:FrP S1 A1 β1 st.n S3 B _:=X4.iv;have hβ:(λ s=>if s<st.n then β2 (σ s)else none)=β:=by
    funext s;by_cases hs:s<st.n
    ·obtain⟨blk,hblk⟩:=CJ.1 (hfl s hs);obtain⟨l',cs,e,fr,q1,_⟩:=M.H.own s blk hblk;rw[q1];exact P.keep s l' hs (k5 s l' hs q1)
    ·simp only[hs,gZ]
     cases hq:β s with
     |none=>rfl
     |some l=>exact absurd (M.dom s l hq) hs
   simp only[hβ]at X4 P;refine⟨S3,⟨λ i=>?_,X4.H,X4.B,λ y l hy=>M.dom y l hy,hdf.symm ▸ XA.df,XA.sz,X4.G,X4.nw,trivial⟩,λ b hb=>?_,⟨X4.B.os.trans X.B.os.symm,X4.B.tape.trans X.B.tape.symm,X4.B.output.trans X.B.output.symm,P.sz,λ b hb hn=>P.still b hb λ h=>hn (k3 b h)⟩⟩
   ·refine yA (XA.T i) (λ b hb=>P.hS b (k6 b hb)) (λ b hb=>(P.hE.stable b (k6 b hb)).trans (k7 b hb)) λ s l cs e fr h1 h2=>?_;obtain⟨cs',h3,h4⟩:=k8 s l cs e fr h1 h2;obtain⟨cs2,h5,h6⟩:=P.hE.shape _ _ _ _ h3;exact⟨cs2,h5,h6.trans h4⟩
   ·rcases P.nw b hb with h|h|h
    ·exact (k1 b h).imp id .inl
    ·exact .inr (.inr h)
    ·exact .inr (.inl (k3 b h))
  cases e' with
  |exit i=>exact hq.elim
  |normal=>
   obtain⟨hNx,hq⟩:=hq;obtain⟨S3,Y,j1,j2⟩:=fin st.h hq;have hN2:∀ y,y∈pre++[x]→NX y:=λ y hy=>(al_List_mem_append.1 hy).elim (hN y) λ h=>tM.1 h ▸ hNx
   exact⟨λ b=>b<B.heap.size∧(CC b∨A1.heap.size≤b),j2,λ b hb=>hb.2,.inl ⟨rfl,⟨hN2,S3,Y,λ b hb=>(j1 b hb).imp id λ h=>⟨Y.H.lt b hb,h⟩,λ b hb=>⟨by obtain⟨y,l,q1,q2⟩:=hb;have:=(hnm y l q1).2.2.1;have:=j2.size;omega,.inl (k2 b hb)⟩,λ b hb=>hb.1⟩,aL k9 j2.size⟩⟩
  |ret=>
   obtain⟨stg,hgs,h',σ,hk,hW,hK⟩:=hq;obtain⟨S3,Y,j1,j2⟩:=fin h' ⟨stg,hgs,σ,hk,hW⟩;exact⟨λ b=>b<B.heap.size∧(CC b∨A1.heap.size≤b),j2,λ b hb=>hb.2,.inr ⟨rfl,⟨S3,h',hK,Y,λ b hb=>(j1 b hb).imp id λ h=>⟨Y.H.lt b hb,h⟩,λ b hb=>⟨by obtain⟨y,l,q1,q2⟩:=hb;have:=(hnm y l q1).2.2.1;have:=j2.size;omega,.inl (k2 b hb)⟩,λ b hb=>hb.1⟩,aL k9 j2.size⟩⟩
 ·rintro D CC W hD ⟨⟨hN,SA,X,k1,k2,k3⟩,k4⟩ hnC hW;refine⟨some D,.normal,st,SA,β,rfl,done hN D,⟨X.T,X.H,X.B,X.dom,?_,X.sz,X.G,X.nw,trivial⟩,λ D' hD'=>?_⟩
  ·show _::a.defers=_;rw[show a.defers=[]from X.df.trans hdf];rfl
  ·cases hD';exact⟨hW,λ h=>hnC (k2 _ h),λ h=>(k1 _ h).elim (λ h=>by omega) hnC,aL w00 hD⟩
 ·rintro D CC pre W hD hpre ⟨⟨SA,h',hK,X,k1,k2,k3⟩,k4⟩ hnC hW;refine⟨some D,.ret,⟨st.t,h',st.n⟩,SA,β,rfl,hK D,⟨X.T,X.H,X.B,X.dom,?_,X.sz,X.G,X.nw,trivial⟩,λ D' hD'=>?_⟩
  ·show _::a.defers=_;rw[show a.defers=[]from X.df.trans hdf];rfl
  ·cases hD';exact⟨hW,λ h=>hnC (k2 _ h),λ h=>(k1 _ h).elim (λ h=>by omega) hnC,aL w00 hD⟩
def uX(N:Nat):Code→Bool
 | .seq a b=>uX N a&&uX N b
 | .cond _ a b=>uX N a&&uX N b
 | .block _ b=>uX N b
 | .scope b=>uX N b
 | .rangeFunc _ ps a b=>ps.toList.all (λ p=>Nat.blt p N)&&(nX N (λ _=>false) a&&nX N (λ _=>false) b)
 |c=>tQ N c
def uY(C:Ctx):Code→Option Nat→ASt→(Option Nat→AEx→ASt→Prop)→Prop
 | .seq a b,d,st,Q=>uY C a d st (λ d' e st'=>match e with| .normal=>uY C b d' st' Q|e=>Q d' e st')
 | .cond c x y,d,st,Q=>match evA C st.t c with| .v (.bool b)=>Branch b (uY C x d st Q) (uY C y d st Q)|_=>False
 | .block id b,d,st,Q=>uY C b d st (λ d' e st'=>match e with| .exit i=>(match Nat.beq i id with|true=>Q d' .normal st'|false=>Q d' (.exit i) st')|e=>Q d' e st')
 | .scope b,d,st,Q=>uY C b d st Q
 | .rangeFunc g ps a b,d,st,Q=>d=none∧GhostN st λ stg=>∃ stw σ,Weak stg stw σ∧keepB C.fr σ stw.n=true∧RangeN C stw g ps.toList a b (λ e st'=>∀ D,Q (some D) e st')
 |c,d,st,Q=>gC (C.wd d) (bY (C.wd d)) c st (Q d)
theorem Ko(hC:∀ d,CtxOk (C.wd d))(hCn:∀ n,CtxOk (C.at n))(hdf:C.df=[]):∀ (c:Code),uX N c=true→∀ (d:Option Nat) (st:ASt) (Q:Option Nat→AEx→ASt→Prop),uY C c d st Q→
  ∀ (a:Act) (w:World) (S:Nat→Prop) (β:Bt),SimD (C.wd d) (Inv.any C.fr) w0 S0 N (· <st.n) st.t st.h a w S β→Up d w0 S β w→c.wp C.P (Xj C w0 S0 N Q) a w:=by
 have base:∀ (c:Code),tQ N c=true→∀ (d:Option Nat) (st:ASt) (Q:Option Nat→AEx→ASt→Prop),gC (C.wd d) (bY (C.wd d)) c st (Q d)→
  ∀ (a:Act) (w:World) (S:Nat→Prop) (β:Bt),SimD (C.wd d) (Inv.any C.fr) w0 S0 N (· <st.n) st.t st.h a w S β→Up d w0 S β w→c.wp C.P (Xj C w0 S0 N Q) a w:=by
  intro c hk d st Q hq a w S β M hd;refine wp_mono (BE (C:=C.wd d) (V:=EI S w β C.fr) (hC d) c hk st _ hq a w S β (M.inv (Af _ _ _ _))) ?_;rintro e a' w' ⟨e',st',S',β',rfl,h1,M'⟩;have P:FrP S w β C.fr S' w' β':=M'.iv;refine⟨d,e',st',S',β',rfl,h1,M'.inv trivial,λ D hD=>?_⟩;obtain⟨k1,k2,k3,k4⟩:=hd D hD;have hlt:=fI k1;refine⟨(P.still D hlt k2).trans k1,λ⟨x,l,q1,q2⟩=>?_,λ h=>?_,k4⟩
  ·rcases P.own x l q1 with h|h
   ·exact k2 (q2 ▸ h)
   ·rw[q2]at h;omega
  ·rcases P.nw D h with h|h|h
   ·exact k3 h
   ·omega
   ·exact k2 h
 intro c
 induction c with
 |seq x y ihx ihy=>
  intro hk d st Q hq a w S β M hd;simp only[uX,aK]at hk;refine wp_seq (wp_mono (ihx hk.1 d st _ hq a w S β M hd) ?_);rintro e a' w' ⟨d',e',st',S',β',rfl,h1,h2,h3⟩
  cases e' with
  |normal=>exact ihy hk.2 d' st' Q h1 a' w' S' β' h2 h3
  |exit i=>exact⟨d',.exit i,st',S',β',rfl,h1,h2,h3⟩
  |ret=>exact⟨d',.ret,st',S',β',rfl,h1,h2,h3⟩
 | cond c x y ihx ihy=>
  intro hk d st Q hq a w S β M hd;simp only[uX,aK]at hk;simp only[uY]at hq;split at hq
  ·rename_i b hb;obtain⟨h1,h2⟩:=hq;have hv:=tR M c;rw[show evA (C.wd d) st.t c=evA C st.t c from rfl,hb]at hv;exact wp_cond_split (kW hv) (λ ht=>ihx hk.1 d st Q (h1 ht) a w S β M hd) (λ hf=>ihy hk.2 d st Q (h2 hf) a w S β M hd)
  ·exact hq.elim
 | block id b ih=>
  intro hk d st Q hq a w S β M hd;refine wp_block (wp_mono (ih hk d st _ hq a w S β M hd) ?_);rintro e a' w' ⟨d',e',st',S',β',rfl,h1,h2,h3⟩
  cases e' with
  |normal=>exact⟨d',.normal,st',S',β',rfl,h1,h2,h3⟩
  |ret=>exact⟨d',.ret,st',S',β',rfl,h1,h2,h3⟩
  | exit i=>
   show Exit.inBlock id _ (.exit i) a' w';simp only at h1;simp only[Exit.inBlock];by_cases hi:i=id
   ·subst hi;rw[if_pos rfl];rw[show Nat.beq i i=true from mS i]at h1;exact⟨d',.normal,st',S',β',rfl,h1,h2,h3⟩
   ·rw[if_neg hi];have:Nat.beq i id=false:=by rw[←eI];exact λ e=>hi (aM e)
    rw[this]at h1
    exact⟨d',.exit i,st',S',β',rfl,h1,h2,h3⟩
 |scope b ih=>
  intro hk d st Q hq a w S β M hd;refine wp_scope_straight (wp_mono (ih hk d st _ hq a w S β M hd) ?_);rintro e a' w' ⟨d',e',st',S',β',rfl,h⟩
  cases e' with
  |normal=>exact⟨d',.normal,st',S',β',rfl,h⟩
  |ret=>exact⟨d',.ret,st',S',β',rfl,h⟩
  |exit i=>exact⟨d',.exit i,st',S',β',rfl,h⟩
 |rangeFunc g ps x y ihx ihy=>
  intro hk d st Q hq a w S β M hd;simp only[uX,aK]at hk;obtain⟨rfl,stg,hgs,stw,σ,hW,hf,hR⟩:=hq;obtain⟨S2,M2⟩:=mV hgs M;have M3:=oZ (C:=C.wd none) hW hf M2;have h0:=hC none
  exact Kn (C:=C) ⟨h0.ty,h0.mixed,h0.hH⟩ hCn hdf hk.1 hk.2.1 hk.2.2 hR ⟨M3.T,M3.H,M3.B,M3.dom,M3.df.trans hdf.symm,M3.sz,M3.G,M3.nw,trivial⟩
 |_=>intro hk d st Q hq;exact base _ hk d st Q hq
theorem bY.introR(hC:∀ d,CtxOk (C.wd d))(hCn:∀ n,CtxOk (C.at n)){f:FuncId}{fn:Func}{body:Code}{args:List AV}{r:AV}(hf:C.P.funcs[f]?=some fn)(hb:fn.body=some body)(hnm:(fn.name== "runtime.NumGoroutine")=false)
  (hN:uX fn.ntmps body=true) (hlen:Nat.ble args.length fn.ntmps=true) (hw:uY C body none ⟨argsT args,λ _=>none,0⟩ (λ d=>Fin (C.wd d) fn r)) (hdf:C.df=[]:=by rfl):bY C f args r:=by
 refine⟨⟨fn,hf,by rw[hb];rfl,hnm⟩,λ S w vs hS hG hargs=>?_⟩;have hlen:=aR hlen;refine callsIn_wide.1 (callsIn_of_wp_marks (n:=3) hf hb trivial ((wpIn_wide (n:=3)).2 ?_));have M0:SimD (C.wd none) (Inv.any C.fr) w S fn.ntmps (· <(0:Nat)) (argsT args) (λ _=>none) {tmps:=vs.toArray++Array.replicate (fn.ntmps - vs.toArray.size) undef,defers:=[]} w S noB:=by
  have hl:vs.length=args.length:=hargs.1.symm;refine⟨λ i=>?_,⟨λ s blk h=>(by cases h),λ s s' l l' h=>absurd rfl h,hS,aC _⟩,Below.refl _ _,λ x l h=>(by cases h),rfl,by simp;omega,hG,λ _ h=>.inl h,trivial⟩;rw[yP]
  cases ha:args[i]? with
  |none=>exact .any _
  | some x=>
   have hi:i<vs.length:=by rw[hl];exact (Db.1 ha).1
   have hv:vs[i]?=some vs[i]:=aA hi;have:(vs.toArray++Array.replicate (fn.ntmps - vs.toArray.size) undef).getD i undef=vs[i]:=by
    rw[aJ,dL (by simpa using hi),eK,hv];rfl
   rw[this];exact hargs.2 i x _ ha hv
 refine wp_mono (Ko (C:=C) hC hCn hdf body hN none ⟨argsT args,λ _=>none,0⟩ _ hw _ w S noB M0 (λ D h=>by cases h)) ?_;rintro e a' w' ⟨d,e',st,S',β',rfl,hfin,M,hd⟩;have fin:Sg (C.wd d) fn r st→∀ w2:World,SimD (C.wd d) (Inv.any C.fr) w S fn.ntmps (· <st.n) st.t st.h a' w2 S' β'→∃ v,(results fn a'.tmps).run C.P w2=.ok v w2∧∃ v',Ending.returned v=.returned v'∧Below w.heap.size w w2∧Rep (λ b=>S b∨(w.heap.size≤b∧b<w2.heap.size)) w2 noB r v':=by
  rintro ⟨rs,h1,h2,h3,h4⟩ w2 M;obtain⟨t,h,n⟩:=st;obtain⟨us,g1,g2⟩:=Hs (hC d) M _ rs h1;refine⟨_,wX _ us g1 fn rfl,_,rfl,M.B,?_⟩;have hret:Rep S' w2 β' (Cz rs) (if h:us.toArray.size=1 then us.toArray[0]else .tuple us.toArray):=by
   match rs,us,g2 with
   |[],us,g2=>
    have:us=[]:=bF g2.1.symm;subst this
    exact .tup [] #[] rfl λ i a u p=>by simp at p
   |[x],us,g2=>
    match us,g2 with
    |[u],g2=>simpa [Cz]using g2.2 0 x u rfl rfl
    |[],g2=>exact absurd g2.1 (by simp)
    |_::_::_,g2=>exact absurd g2.1 (by simp)
   | x::y::zs,us,g2=>
    have hne: ¬ us.toArray.size=1:=by
     have:=g2.1;simp at this⊢;omega
    rw[dif_neg hne];exact .tup _ _ (by simpa using g2.1) λ i a u p q=>g2.2 i a u p (by simpa using q)
  have hd:=AL M.H hret h2;refine h4 _ _ _ ?_;exact (lM hd h3 noB).mono (λ b hb=>hb.elim (λ hb=>(M.nw b hb).imp id λ h=>⟨h,M.H.lt b hb⟩) .inr) (Evo.refl _ _) (Jk.refl _)
 have go:Sg (C.wd d) fn r st→LeavesInM Fence.wide 3 C.P fn a'.tmps (λ e w'=>∃ v,e=.returned v∧Below w.heap.size w w'∧Rep (λ b=>S b∨(w.heap.size≤b∧b<w'.heap.size)) w' noB r v) a'.defers .returning w':=by
  intro hr;have hdf':a'.defers=dfs d:=M.df;rw[hdf']
  cases d with
  |none=>exact fin hr w' M
  |some D=>
   obtain⟨k1,k2,k3,k4⟩:=hd D rfl;refine⟨by simp,.inl ⟨D,_,rfl,run_takeDeferred k1,fin hr _ ?_⟩⟩;have ho:∀ b,b≠D→(w'.putObj D (.deferred none)).heap[b]?=w'.heap[b]? :=λ b hb=>World.putObj_heap_other hb;exact M.move (λ b hb=>ho b λ e=>k3 (e ▸ hb)) (λ s l o q1 q2=>(ho _ λ e=>k2 ⟨s,l,q1,e⟩).trans q2) rfl rfl rfl (by simp) (λ b hb=>ho b (by omega)) trivial
 cases e' with
 |normal=>exact go hfin
 |ret=>exact go hfin
 |exit i=>exact hfin.elim
end
section
variable {α:Type}
inductive YieldN(C:Ctx)(y:Value)(encs:α→Array Value)(xs:List α)(ops:List Oper)(st:ASt)(pre:List α)(K:ASt→List α→Bool→Prop):Prop
 | mk (k:Nat) (o:Oper) (f:Operand) (args:Array Operand) (ats:Array TypeId) (rest:List Oper) (hd:ops.drop k=o::rest) (ho:o.op=.call {callee:=.value f,args:=args,argTypes:=ats}) (hg:o.guard=none)
   (hr:kL C.noH (bY C.noH) ops (ops.take k) 0 st λ st1=>∃ x vs stw σ,Weak st1 stw σ∧keepB C.fr σ stw.n=true∧CF stw.h stw.n=true∧Nat.ble stw.n st.n=true∧evA C stw.t f=.v y∧Hq (args.toList.map (evA C stw.t))=some vs∧encs x=vs.toArray∧pre++[x] <+: xs∧
    ∀ b:Bool,kL C.noH (bY C.noH) ops rest (k+1) ⟨yO stw.t o.dst (.v (.bool b)),stw.h,st.n⟩ (λ st2=>K st2 (pre++[x]) (!b))):YieldN C y encs xs ops st pre K
inductive LoopY(fr:Nat)(body:ASt→List α→(AEx→ASt→List α→Bool→Prop)→Prop)(st:ASt)(pre:List α)(Q:AEx→ASt→List α→Bool→Prop):Prop
 | mk (κ:Type) (S:κ→ASt) (pr:κ→List α) (G:κ→Prop) (μ:κ→Nat) (k0:κ) (σ:Nat→Nat) (hw:Weak st (S k0) σ) (hf:keepB fr σ (S k0).n=true) (hp:pr k0=pre) (h0:G k0)
   (round:∀ k,G k→body (S k) (pr k) (λ e st' p' s'=>match e with| .normal=>s'=false∧∃ k' σ',Weak st' (S k') σ'∧keepB fr σ' (S k').n=true∧pr k'=p'∧G k'∧μ k'<μ k|e=>Q e st' p' s')):LoopY fr body st pre Q
def codeY(C:Ctx)(y:Value)(encs:α→Array Value)(xs:List α):Code→ASt→List α→Bool→(AEx→ASt→List α→Bool→Prop)→Prop
 | .seq a b,st,pre,s,Q=>codeY C y encs xs a st pre s (λ e st' p' s'=>match e with| .normal=>codeY C y encs xs b st' p' s' Q|e=>Q e st' p' s')
 | .cond c a b,st,pre,s,Q=>match evA C st.t c with| .v (.bool t)=>Branch t (codeY C y encs xs a st pre s Q) (codeY C y encs xs b st pre s Q)|_=>False
 | .block id b,st,pre,s,Q=>codeY C y encs xs b st pre s (λ e st' p' s'=>match e with| .exit i=>(match Nat.beq i id with|true=>Q .normal st' p' s'|false=>Q (.exit i) st' p' s')|e=>Q e st' p' s')
 | .loop b,st,pre,s,Q=>s=false∧LoopY C.fr (λ st p Q=>codeY C y encs xs b st p false Q) st pre Q
 | .region id ops dr,st,pre,s,Q=>gC C (bY C) (.region id ops dr) st (λ e st'=>Q e st' pre s)∨(dr=false∧s=false∧YieldN C y encs xs ops.toList st pre (λ st' p' s'=>Q .normal st' p' s'))
 |c,st,pre,s,Q=>gC C (bY C) c st (λ e st'=>Q e st' pre s)
def uW(N:Nat):Code→Bool
 | .seq a b=>uW N a&&uW N b
 | .cond _ a b=>uW N a&&uW N b
 | .block _ b=>uW N b
 | .loop b=>uW N b
 |c=>nX N (λ _=>false) c
end
theorem ML{F:Fence}{n:Nat}{P:Program}{Q:Exit→Act→World→Prop}{a:Act}{w:World}{c:Code}(I:Nat→Act→World→Prop)(m:Nat)(h0:I m a w)
  (round:∀ m a w,I m a w→c.wpIn F n P (Exit.then (λ a' w'=>∃ m',m'<m∧I m' a' w') Q) a w):(Code.loop c).wpIn F n P Q a w:=by
 classical
 have least:∀ (n:Nat) (a:Act) (w:World),(∃ m,m≤n∧I m a w)→∃ m,I m a w∧∀ m',I m' a w→m≤m':=by
  intro n
  induction n with
  |zero=>rintro a w ⟨m,h1,h2⟩;exact⟨m,h2,λ m' _=>by omega⟩
  |succ n ih=>
   rintro a w ⟨m,h1,h2⟩;by_cases hc:∃ m',m'≤n∧I m' a w
   ·exact ih a w hc
   ·exact⟨m,h2,λ m' h'=>Nat.le_of_not_lt λ h=>hc ⟨m',by omega,h'⟩⟩
 have ex:∀ a w,(∃ m,I m a w)→∃ m,I m a w∧∀ m',I m' a w→m≤m':=λ a w ⟨m,h⟩=>least m a w ⟨m,aC _,h⟩
 let μ:Act→World→Nat:=λ a w=>if h:∃ m,I m a w then Classical.choose (ex a w h)else 0
 have hμ:∀ a w,(∃ m,I m a w)→I (μ a w) a w∧∀ m',I m' a w→μ a w≤m':=λ a w h=>by
  have e:μ a w=Classical.choose (ex a w h):=dif_pos h;rw[e];exact mR (ex a w h)
 refine wpIn_loop (λ a w=>∃ m,I m a w) μ ⟨m,h0⟩ λ a w h=>wpIn_mono (round (μ a w) a w (hμ a w h).1) ?_;intro e a' w' h';cases e<;>try exact h'
 obtain⟨m',h1,h2⟩:=h';exact⟨⟨m',h2⟩,bM ((hμ a' w' ⟨m',h2⟩).2 m' h2) h1⟩
section
variable {α:Type}{C:Ctx}{J:Bool→(Nat→Prop)→List α→World→Prop}{W:World}{xs:List α}{encs:α→Array Value}{N l:Nat}
def SYp(C:Ctx)(J:Bool→(Nat→Prop)→List α→World→Prop)(W:World)(xs:List α)(N:Nat)(st:ASt)(pre:List α)(s:Bool)(a:Act)(A:World):Prop:=
 ∃ CC S β,J s CC pre A∧pre <+: xs∧W.heap.size≤A.heap.size∧SimD C (Inv.any C.fr) {W with heap:= #[]} (λ _=>True) N (· <st.n) st.t st.h a A S β∧(∀ b,S b→ ¬ CC b)∧(∀ b,OwnB β b→ ¬ CC b∧W.heap.size≤b)
theorem SYp.step(hJ:∀ s C pre A B,J s C pre A→Same (λ b=>b<W.heap.size∨C b) A B→J s C pre B)(hlt:∀ s C pre A,J s C pre A→∀ b,C b→b<A.heap.size)
  {CC:Nat→Prop} {pre:List α} {s:Bool} {w0:World} {S0:Nat→Prop} {D:Nat→Prop} {t:Nat→AV} {h:AH} {a:Act} {A A':World} {S S':Nat→Prop} {β β':Bt} {V:Inv C.fr}
  (j:J s CC pre A) (hp:pre <+: xs) (hs:W.heap.size≤A.heap.size) (k1:∀ b,S b→ ¬ CC b) (k2:∀ b,OwnB β b→ ¬ CC b∧W.heap.size≤b) (M:SimD C V w0 S0 N D t h a A S β) (P:FrP S A β C.fr S' A' β') (M':A'.os=A.os∧A'.tape=A.tape∧A'.output=A.output):
  J s CC pre A'∧W.heap.size≤A'.heap.size∧(∀ b,S' b→ ¬ CC b)∧(∀ b,OwnB β' b→ ¬ CC b∧W.heap.size≤b):=by
 refine⟨hJ s CC pre A A' j ⟨M'.1,M'.2.1,M'.2.2,P.sz,λ b hb hh=>P.still b hb λ ho=>hh.elim (λ h=>by have:=(k2 b ho).2;omega) (k2 b ho).1⟩,aL hs P.sz,λ b hb hc=>?_,λ b ⟨x,l,h1,h2⟩=>?_⟩
 ·rcases P.nw b hb with h|h|h
  ·exact k1 b h hc
  ·have:=hlt s CC pre A j b hc;omega
  ·exact (k2 b h).1 hc
 ·subst h2;rcases P.own x l h1 with h|h
  ·exact k2 _ h
  ·exact⟨λ hc=>by have:=hlt s CC pre A j _ hc;omega,aL hs h⟩
def Xy(C:Ctx)(J:Bool→(Nat→Prop)→List α→World→Prop)(W:World)(xs:List α)(N:Nat)(Q:AEx→ASt→List α→Bool→Prop)(e:Exit)(a:Act)(A:World):Prop:=∃ e' st pre s,e=ES e'∧Q e' st pre s∧SYp C J W xs N st pre s a A
theorem Kl(hC:CtxOk C)(hJ:∀ s C pre A B,J s C pre A→Same (λ b=>b<W.heap.size∨C b) A B→J s C pre B)(hlt:∀ s C pre A,J s C pre A→∀ b,C b→b<A.heap.size)
  (hY:∀ CC pre x A,J false CC pre A→pre++[x] <+: xs→YieldAt Fence.wide 1 C.P l (encs x) A λ e B=>∃ b,e=.returned (.bool b)∧∃ C',J (!b) C' (pre++[x]) B∧Same (λ b=> ¬ CC b) A B∧(∀ b,C' b→CC b∨A.heap.size≤b)):
  ∀ (c:Code),uW N c=true→∀ (st:ASt) (pre:List α) (s:Bool) (Q:AEx→ASt→List α→Bool→Prop),codeY C (.func (.yield l) #[] #[]) encs xs c st pre s Q→∀ (a:Act) (A:World),SYp C J W xs N st pre s a A→c.wpIn Fence.wide 2 C.P (Xy C J W xs N Q) a A:=by
 have base:∀ (c:Code),nX N (λ _=>false) c=true→∀ (st:ASt) (pre:List α) (s:Bool) (Q:AEx→ASt→List α→Bool→Prop),gC C (bY C) c st (λ e st'=>Q e st' pre s)→∀ (a:Act) (A:World),SYp C J W xs N st pre s a A→c.wpIn Fence.wide 2 C.P (Xy C J W xs N Q) a A:=by
  rintro c hk st pre s Q hq a A ⟨CC,S,β,j,hp,hs,M,k1,k2⟩;refine wpIn_mono (AD (V:=EI S A β C.fr) (Da C.P) hC c hk st _ hq a A S β (M.inv (Af _ _ _ _)) (tmk.refl _ _)) ?_;rintro e a' A' ⟨e',st',S',β',rfl,h1,M', -⟩;obtain⟨g1,g2,g3,g4⟩:=SYp.step hJ hlt j hp hs k1 k2 M M'.iv ⟨M'.B.os.trans M.B.os.symm,M'.B.tape.trans M.B.tape.symm,M'.B.output.trans M.B.output.symm⟩;exact⟨e',st',pre,s,rfl,h1,CC,S',β',g1,hp,g2,M'.inv trivial,g3,g4⟩
 intro c
 induction c with
 |seq x y ihx ihy=>
  intro hk st pre s Q hq a A M;simp only[uW,aK]at hk;refine wpIn_seq (wpIn_mono (ihx hk.1 st pre s _ hq a A M) ?_);rintro e a' w' ⟨e',st',p',s',rfl,h1,h2⟩
  cases e' with
  |normal=>exact ihy hk.2 st' p' s' Q h1 a' w' h2
  |exit i=>exact⟨.exit i,st',p',s',rfl,h1,h2⟩
  |ret=>exact⟨.ret,st',p',s',rfl,h1,h2⟩
 | cond c x y ihx ihy=>
  intro hk st pre s Q hq a A M;simp only[uW,aK]at hk;simp only[codeY]at hq;split at hq
  ·rename_i b hb;obtain⟨h1,h2⟩:=hq;have M0:=M;obtain⟨CC,S,β,j,hp,hs,M1,k1,k2⟩:=M0;have hv:=tR M1 c;rw[hb]at hv;exact wpIn_cond_split (kW hv) (λ ht=>ihx hk.1 st pre s Q (h1 ht) a A M) (λ hf=>ihy hk.2 st pre s Q (h2 hf) a A M)
  ·exact hq.elim
 | block id b ih=>
  intro hk st pre s Q hq a A M;refine wpIn_block (wpIn_mono (ih hk st pre s _ hq a A M) ?_);rintro e a' w' ⟨e',st',p',s',rfl,h1,h2⟩
  cases e' with
  |normal=>exact⟨.normal,st',p',s',rfl,h1,h2⟩
  |ret=>exact⟨.ret,st',p',s',rfl,h1,h2⟩
  | exit i=>
   show Exit.inBlock id _ (.exit i) a' w';simp only at h1;simp only[Exit.inBlock];by_cases hi:i=id
   ·subst hi;rw[if_pos rfl];rw[show Nat.beq i i=true from mS i]at h1;exact⟨.normal,st',p',s',rfl,h1,h2⟩
   ·rw[if_neg hi];have:Nat.beq i id=false:=by rw[←eI];exact λ e=>hi (aM e)
    rw[this]at h1
    exact⟨.exit i,st',p',s',rfl,h1,h2⟩
 | loop b ih=>
  intro hk st pre s Q hq a A M;obtain⟨rfl,hL⟩:=hq;obtain⟨κ,S,pr,G,μ,k0,σ,hw,hf,rfl,h0,round⟩:=hL;have weak:∀ {st st':ASt} {σ:Nat→Nat} {p:List α} {a:Act} {A:World},Weak st st' σ→keepB C.fr σ st'.n=true→SYp C J W xs N st p false a A→SYp C J W xs N st' p false a A:=by
   rintro st st' σ p a A hw hf ⟨CC,S,β,j,hp,hs,M1,k1,k2⟩;refine⟨CC,S,_,j,hp,hs,oZ hw hf M1,k1,λ b ⟨x,l,h1,h2⟩=>?_⟩;simp only at h1;split at h1
   ·exact k2 b ⟨_,l,h1,h2⟩
   ·cases h1
  refine ML (λ m a A=>∃ k,μ k=m∧G k∧SYp C J W xs N (S k) (pr k) false a A) (μ k0) ⟨k0,rfl,h0,weak hw hf M⟩ ?_;rintro m a A ⟨k,rfl,hG,M⟩;refine wpIn_mono (ih hk _ _ _ _ (round k hG) a A M) ?_;rintro e a' w' ⟨e',st',p',s',rfl,h1,h2⟩
  cases e' with
  |normal=>
   obtain⟨rfl,k',σ',g1,g2,rfl,g4,g5⟩:=h1
   exact⟨μ k',g5,k',rfl,g4,weak g1 g2 h2⟩
  |exit i=>exact⟨.exit i,st',p',s',rfl,h1,h2⟩
  |ret=>exact⟨.ret,st',p',s',rfl,h1,h2⟩
 | region id ops dr=>
  intro hk st pre s Q hq a A M;rcases hq with hq|⟨rfl,rfl,hq⟩
  ·exact base _ hk st pre s Q hq a A M
  obtain⟨k,o,f,args,ats,rest,hd,ho,hg,hr⟩:=hq;obtain⟨CC,S,β,j,hp,hs,M,k1,k2⟩:=M;obtain⟨t,h,n⟩:=st;simp only[uW,nX,aK]at hk;have hko:ops.toList[k]?=some o:=by
   have:(ops.toList.drop k)[0]?=some o:=by rw[hd];rfl
   simpa using this
  have hoj:ops[k]?=some o:=by rw[←hko,bJ]
  have hklt:k<ops.toList.length:=(Db.1 hko).1;have hsz:ops.size=k+(1+rest.length):=by
   have:=congrArg List.length hd;simp at this;simp at hklt;omega
  have hrest:ops.toList.drop (k+1)=rest++[]:=by rw[←kJ,hd];simp
  have htk:(ops.toList.take k).length=k:=by simp at hklt⊢;omega
  have hrange:List.range ops.size=List.range' 0 (ops.toList.take k).length++(k::(List.range' (k+1) rest.length++[])):=by
   rw[nD,hsz,htk,eQ, ←List.range'_append_1,bU,kQ 1,nA]
  refine wpIn_region ?_;rw[hrange];refine AE (C:=C.noH) (V:=EI S A β C.fr) (kp:=λ _=>false) (a0:=a) (Da C.P) hC.noH (λ _ _ _ _ _ h=>h) rfl hk.1 hk.2 _ (ops.toList.take k) 0 t h a A S β ⟨ops.toList.drop k,by simp⟩ hr ((M.inv (Af _ _ _ _)).noH) (tmk.refl _ _) ?_;rintro st1 a1 A1 S1 β0 ⟨x,vs,stw,σ,hW,hkp,hfull,hnn,hf,hvs,henc,hpx,hb⟩ M0 -;obtain⟨g1,g2,g3,g4⟩:=SYp.step hJ hlt j hp hs k1 k2 M M0.iv ⟨M0.B.os.trans M.B.os.symm,M0.B.tape.trans M.B.tape.symm,M0.B.output.trans M.B.output.symm⟩;have M1:=oZ (C:=C.noH) hW hkp M0;have hfl:=tL hfull;have hnn:=aR hnn;have g5:∀ b,OwnB (λ s=>if s<stw.n then β0 (σ s)else none) b→ ¬ CC b∧W.heap.size≤b∧b<A1.heap.size:=by
   rintro b ⟨y,l,h1,h2⟩;subst h2;obtain⟨blk,hblk⟩:=CJ.1 (hfl y (M1.dom y l h1));obtain⟨l',cs,e,fr,q1,q2, -⟩:=M1.H.own y blk hblk;simp only at h1 q1;rw[h1]at q1;cases q1;split at h1
   ·exact⟨(g4 _ ⟨_,l,h1,rfl⟩).1,(g4 _ ⟨_,l,h1,rfl⟩).2,fI q2⟩
   ·cases h1
  generalize (λ s=>if s<stw.n then β0 (σ s)else none)=β1 at M1 g5;have hfe:a1.eval f=.func (.yield l) #[] #[]:=by
   have:=tR M1 f;rw[show evA C.noH stw.t f=evA C stw.t f from rfl,hf]at this;exact kW this
  have hargs:args.map a1.eval=encs x:=by
   rw[henc];have hrl:RepL S1 A1 β1 (args.toList.map (evA C.noH stw.t)) (args.toList.map a1.eval):=⟨by simp,λ i y u p q=>by
    rw[bH]at p q
    cases hi:args.toList[i]? with
    |none=>rw[hi]at p;cases p
    |some z=>rw[hi]at p q;cases p;cases q;exact tR M1 z⟩
   have:=Jm (show Hq (args.toList.map (evA C.noH stw.t))=some vs from hvs) hrl;rw[←this];apply Array.ext';simp
  have hY1:=hY CC pre x A1 g1 hpx;refine Hb hoj hg (Kq (Da C.P) ho hfe hargs hY1 ?_);rintro b B ⟨C',j',hsame,hgrow⟩;have M2:SimD C.noH (EI S1 B β1 C.fr) {W with heap:= #[]} (λ _=>True) N (· <stw.n) stw.t stw.h a1 B S1 β1:=
   (M1.inv (V':=Inv.any C.noH.fr) trivial).move (λ b hb=>hsame.block b (M1.H.lt b hb) (g3 b hb)) (λ s l o q1 q2=>(hsame.block _ (fI q2) (g5 _ ⟨s,l,q1,rfl⟩).1).trans q2) hsame.os hsame.tape hsame.output hsame.size (λ b hb=>absurd hb (dX _)) (Af _ _ _ _)
  have hslot:=vJ hk.1 (aB hko);have M3:SimD C.noH (EI S1 B β1 C.fr) {W with heap:= #[]} (λ _=>True) N (· <n+(k+1)) (yO stw.t o.dst (.v (.bool b))) stw.h (a1.put o.dst (.bool b)) B S1 β1:=by
   refine⟨Np a1 M2.T (.v _) (λ k hk=>by rw[M2.sz];exact hslot k hk),M2.H,M2.B,λ y l hy=>(by have:y<stw.n:=M2.dom y l hy;simp only at hnn;show y<n+(k+1);omega),?_,?_,M2.G,M2.nw,M2.iv⟩
   ·cases o.dst<;>exact M2.df
   ·cases o.dst with
    |none=>exact M2.sz
    |some k=>simp only[Act.put,iJ];exact M2.sz
  refine AE (C:=C.noH) (V:=EI S1 B β1 C.fr) (kp:=λ _=>false) (a0:=a1.put o.dst (.bool b)) (Da C.P) hC.noH (λ _ _ _ _ _ h=>h) rfl hk.1 hk.2 [] rest (k+1) _ _ _ B S1 β1 ⟨[],hrest⟩ (hb b) M3 (tmk.refl _ _) ?_;rintro st2 a2 A2 S2 β2 hK M4 -;obtain⟨f1,f2,f3,f4⟩:=SYp.step (CC:=C') hJ hlt j' hpx (aL g2 hsame.size) (λ b hb hc=>(hgrow b hc).elim (g3 b hb) (λ h=>by have:=M1.H.lt b hb;omega)) (λ b hb=>⟨λ hc=>(hgrow b hc).elim (g5 b hb).1 (λ h=>by have:=(g5 b hb).2.2;omega),(g5 b hb).2.1⟩) M3.ofNoH M4.iv ⟨M4.B.os.trans M3.B.os.symm,M4.B.tape.trans M3.B.tape.symm,M4.B.output.trans M3.B.output.symm⟩
  exact⟨.normal,st2,_,_,rfl,hK,C',S2,β2,f1,hpx,f2,M4.ofNoH.inv trivial,f3,f4⟩
 |_=>intro hk st pre s Q hq;exact base _ hk st pre s Q hq
end
theorem RJ.intro{α:Type}{C:Ctx}(hC:CtxOk C){g:FuncId}{fn:Func}{body:Code}{caps:List AV}{encs:α→Array Value}{xs:List α}(hf:C.P.funcs[g]?=some fn)(hb:fn.body=some body)(hres:fn.results.toList=[])
  (hN:uW fn.ntmps body=true) (hlen:Nat.ble (caps.length+1) fn.ntmps=true)
  (hw:∀ y,codeY C y encs xs body ⟨argsT (.v y::caps),λ _=>none,0⟩ [] false (λ e _ pre s=>match e with| .exit _=>False|_=>s=false→pre=xs)) (hdf:C.df=[]:=by rfl):RJ C g caps encs xs:=by
 intro R w us hRlt hG hus l J C0 W hRW hdis hJ hJlt hY h0;have hlen:=aR hlen;have same:∀ b,R b→W.heap[b]?=w.heap[b]? :=λ b hb=>hRW.block b (hRlt b hb) hb;refine callsIn_wide.1 (callsIn_of_wp_marks (n:=2) hf hb trivial ?_);have hul:us.length=caps.length:=hus.1.symm;have M0:SYp C J W xs fn.ntmps ⟨argsT (.v (.func (.yield l) #[] #[])::caps),λ _=>none,0⟩ [] false {tmps:=(#[Value.func (.yield l) #[] #[]]++us.toArray)++Array.replicate (fn.ntmps - (#[Value.func (.yield l) #[] #[]]++us.toArray).size) undef,defers:=[]} W:=by
  refine⟨C0,R,noB,h0,List.nil_prefix,aC _,⟨λ i=>?_,⟨λ s blk h=>(by cases h),λ s s' l l' h=>absurd rfl h,λ b hb=>Nat.lt_of_lt_of_le (hRlt b hb) hRW.size,aF _⟩,⟨rfl,rfl,rfl,aF _,λ b hb=>by simp at hb⟩,λ x l h=>(by cases h),hdf.symm,?_,λ g cells hg=>yA (hG g cells hg) (λ _ h=>h) same (λ s l _ _ _ e=>by cases e),λ _ _=>.inl trivial,trivial⟩,hdis,λ b ⟨x,l,h1,_⟩=>by cases h1⟩
  ·show Rep R W noB (argsT (.v (.func (.yield l) #[] #[])::caps) i) (Array.getD _ i undef);rw[yP,aJ]
   cases i with
   |zero=>
    rw[dL (by simp),dL (by simp)]
    exact .v _
   | succ i=>
    rw[dD]
    cases ha:caps[i]? with
    |none=>exact .any _
    |some x=>
     have hi:i<us.length:=by rw[hul];exact (Db.1 ha).1
     have hv:us[i]?=some us[i]:=aA hi;rw[dL (by simp;omega),Array.getElem?_append_right (by simp)];simp only[mK,bN,cW,iC,eK,hv,gH];exact yA (hus.2 i x _ ha hv) (λ _ h=>h) same (λ s l _ _ _ e=>by cases e)
  ·simp;omega
 refine wpIn_mono (Kl hC hJ hJlt hY body hN _ _ _ _ (hw _) _ W M0) ?_;rintro e a' A ⟨e',st,pre,s,rfl,hq,CC,S,β,j,hp,hs,M,k1,k2⟩;have fin:(s=false→pre=xs)→LeavesInM Fence.wide 2 C.P fn a'.tmps (λ e W'=>(∃ v,e=.returned v)∧((∃ C,J false C xs W')∨∃ C pre,pre <+: xs∧J true C pre W')) a'.defers .returning A:=by
  intro hq;rw[M.df,hdf];refine⟨_,wX [] [] rfl fn hres,⟨_,rfl⟩,?_⟩
  cases s with
  |false=>obtain rfl:=hq rfl;exact .inl ⟨CC,j⟩
  |true=>exact .inr ⟨CC,pre,hp,j⟩
 cases e' with
 |normal=>exact fin hq
 |ret=>exact fin hq
 |exit i=>exact hq.elim
theorem CtxOk.wd{C:Ctx}(h:CtxOk C)(d:Option Nat):CtxOk (C.wd d):=⟨h.ty,h.mixed,h.hH⟩
def SN:Code→Bool
 | .seq _ _=>false
 | .cond _ _ _=>false
 | .block _ _=>false
 | .scope _=>false
 | .loop _=>false
 | .rangeFunc _ _ _ _=>false
 |_=>true
section
variable {C:Ctx}{d:Option Nat}{Q:Option Nat→AEx→ASt→Prop}{t:Nat→AV}{h:AH}{n:Nat}
theorem yN{a b:Code}{st:ASt}(k:uY C a d st (λ d' e st'=>match e with| .normal=>uY C b d' st' Q|e=>Q d' e st')):uY C (.seq a b) d st Q:=k
theorem SO{c:Operand}{a b:Code}{v:Bool}(hv:evA C t c=.v (.bool v))(k1:v=true→uY C a d ⟨t,h,n⟩ Q)(k2:v=false→uY C b d ⟨t,h,n⟩ Q):uY C (.cond c a b) d ⟨t,h,n⟩ Q:=by
 simp only[uY,hv];exact .mk k1 k2
theorem Km{id:Nat}{b:Code}{st:ASt}(k:uY C b d st (λ d' e st'=>match e with| .exit i=>(match Nat.beq i id with|true=>Q d' .normal st'|false=>Q d' (.exit i) st')|e=>Q d' e st')):uY C (.block id b) d st Q:=k
theorem Uo{b:Code}{st:ASt}(k:uY C b d st Q):uY C (.scope b) d st Q:=k
theorem xZ{c:Code}{st:ASt}(hc:SN c=true)(k:gC (C.wd d) (bY (C.wd d)) c st (Q d)):uY C c d st Q:=by
 cases c<;>first|exact k|cases hc
theorem Wc{b:Code}{st:ASt}(k:gC (C.wd d) (bY (C.wd d)) (.loop b) st (Q d)):uY C (.loop b) d st Q:=k
theorem PC{g:Operand}{ps:Array Tmp}{a b:Code}{st:ASt}(k:GhostN st λ stg=>∃ stw σ,Weak stg stw σ∧keepB C.fr σ stw.n=true∧RangeN C stw g ps.toList a b (λ e st'=>∀ D,Q (some D) e st')):uY C (.rangeFunc g ps a b) none st Q:=⟨rfl,k⟩
end
theorem Wd{C:Ctx}{R:FuncId→List AV→AV→Prop}{Q:AEx→ASt→Prop}{l:Nat}{st:ASt}(k:Q .normal st):gC C R (.label l) st Q:=k
section
variable {α:Type}{C:Ctx}{y:Value}{encs:α→Array Value}{xs pre:List α}{s:Bool}{Q:AEx→ASt→List α→Bool→Prop}{t:Nat→AV}{h:AH}{n:Nat}
theorem vF{a b:Code}{st:ASt}(k:codeY C y encs xs a st pre s (λ e st' p' s'=>match e with| .normal=>codeY C y encs xs b st' p' s' Q|e=>Q e st' p' s')):codeY C y encs xs (.seq a b) st pre s Q:=k
theorem Ee{c:Operand}{a b:Code}{v:Bool}(hv:evA C t c=.v (.bool v))(k1:v=true→codeY C y encs xs a ⟨t,h,n⟩ pre s Q)(k2:v=false→codeY C y encs xs b ⟨t,h,n⟩ pre s Q):codeY C y encs xs (.cond c a b) ⟨t,h,n⟩ pre s Q:=by
 simp only[codeY,hv];exact .mk k1 k2
theorem Cb{id:Nat}{b:Code}{st:ASt}(k:codeY C y encs xs b st pre s (λ e st' p' s'=>match e with| .exit i=>(match Nat.beq i id with|true=>Q .normal st' p' s'|false=>Q (.exit i) st' p' s')|e=>Q e st' p' s')):codeY C y encs xs (.block id b) st pre s Q:=k
theorem rJ{c:Code}{st:ASt}(hc:SN c=true)(k:gC C (bY C) c st (λ e st'=>Q e st' pre s)):codeY C y encs xs c st pre s Q:=by
 cases c<;>first|exact Or.inl k|exact k|cases hc
theorem PD{b:Code}{st:ASt}{κ:Type}(S:κ→ASt)(pr:κ→List α)(G:κ→Prop)(μ:κ→Nat)(k0:κ)(σ:Nat→Nat)(hw:Weak st (S k0) σ)(hf:keepB C.fr σ (S k0).n=true)(hp:pr k0=pre)(h0:G k0)
  (round:∀ k,G k→codeY C y encs xs b (S k) (pr k) false (λ e st' p' s'=>match e with| .normal=>s'=false∧∃ k' σ',Weak st' (S k') σ'∧keepB C.fr σ' (S k').n=true∧pr k'=p'∧G k'∧μ k'<μ k|e=>Q e st' p' s')):codeY C y encs xs (.loop b) st pre false Q:=
 ⟨rfl,.mk κ S pr G μ k0 σ hw hf hp h0 round⟩
theorem PE{id:Nat}{ops:Array Oper}{l:List Oper}{st:ASt}(hl:ops.toList=l)(k:Nat){o:Oper}{f:Operand}{args:Array Operand}{ats:Array TypeId}{rest:List Oper}(hd:l.drop k=o::rest)(ho:o.op=.call {callee:=.value f,args:=args,argTypes:=ats})(hg:o.guard=none)
  (hr:kL C.noH (bY C.noH) l (l.take k) 0 st λ st1=>∃ x vs stw σ,Weak st1 stw σ∧keepB C.fr σ stw.n=true∧CF stw.h stw.n=true∧Nat.ble stw.n st.n=true∧evA C stw.t f=.v y∧Hq (args.toList.map (evA C stw.t))=some vs∧encs x=vs.toArray∧pre++[x] <+: xs∧
    ∀ b:Bool,kL C.noH (bY C.noH) l rest (k+1) ⟨yO stw.t o.dst (.v (.bool b)),stw.h,st.n⟩ (λ st2=>Q .normal st2 (pre++[x]) (!b))):codeY C y encs xs (.region id ops false) st pre false Q:=by
 subst hl;exact .inr ⟨rfl,rfl,.mk k o f args ats rest hd ho hg hr⟩
end
set_option maxRecDepth 100000
set_option maxHeartbeats 4000000
def unV:AV→Value
 | .v x=>x
 |_=>undef
def XE(e:Ent):Value:=.agg ((enL e).map unV).toArray
def VC(x:Nat×Ent):Array Value:= #[.int .i64 (x.1:Int),XE x.2]
def yL(rob:List Ent):Nat→List (Nat×Ent)
 |0=>[]
 |n+1=>match rob[n]? with|some e=>(n,e)::yL rob n|none=>yL rob n
theorem Is{rob:List Ent}:∀ {n:Nat},n≤rob.length→(yL rob n).length=n
 |0,_=>rfl
 |n+1,h=>by
  have e:rob[n]?=some rob[n]:=aA h;simp only[yL,e,bN,Is (mN h)]
theorem Ld{rob:List Ent}:∀ {n k:Nat} {x:Ent},n≤rob.length→0<k→k≤n→rob[k - 1]?=some x→(yL rob n)[n - k]?=some (k - 1,x)
 |0,k,x,_,h1,h2,_=>by omega
 | n+1,k,x,h,h1,h2,hx=>by
  have e:rob[n]?=some rob[n]:=aA h;simp only[yL,e];by_cases hk:k=n+1
  ·subst hk;rw[iC,e]at hx;cases hx
   simp
  ·rw[show n+1 - k=(n - k)+1 by omega,dD];exact Ld (mN h) h1 omT hx
theorem zF{rob:List Ent}:∀ {n:Nat} {x:Nat×Ent},x∈yL rob n→x.1<n∧rob[x.1]?=some x.2
 |0,x,h=>by cases h
 | n+1,x,h=>by
  simp only[yL]at h;split at h
  ·rename_i e he;rcases al_List_mem_cons.1 h with rfl|h
   ·exact⟨Nat.lt_succ_self _,he⟩
   ·exact⟨mM (zF h).1,(zF h).2⟩
  ·exact⟨mM (zF h).1,(zF h).2⟩
def GA(rob:List Ent)(n k:Nat):List (Nat×Ent):=(yL rob n).take (n - k)
theorem Fo{rob:List Ent}{n k:Nat}{x:Ent}(hn:n≤rob.length)(h1:0<k)(h2:k≤n)(hx:rob[k - 1]?=some x):GA rob n (k - 1)=GA rob n k++[(k - 1,x)]:=by
 unfold GA;rw[show n - (k - 1)=(n - k)+1 by omega,bX,Ld hn h1 h2 hx];rfl
theorem Ox{rob:List Ent}{n k:Nat}:GA rob n k <+: yL rob n:=List.take_prefix _ _
theorem Oy{rob:List Ent}{n:Nat}(hn:n≤rob.length):GA rob n 0=yL rob n:=by
 unfold GA;rw[Nat.sub_zero];exact aN (Nat.le_of_eq (Is hn))
theorem JV{rob:List Ent}{n:Nat}:GA rob n n=[]:=by
 unfold GA;rw[iI];rfl
theorem WZ(rob:List Ent)(ck:Bool)(i:Nat)(hl:rob.length≤1000)(ho:∀ x∈rob,x.ok)(hi:i≤1000):RJ C0 217 [.dp 1 0 ([vN i]),.dp 1 0 ([.sl 17 (rob.map enL) ck])] VC (yL rob (min i rob.length)):=by
 refine RJ.intro c0Ok Tryz.func217 rfl rfl (by kernel_rfl) rfl ?_;intro y;refine vF<|rJ rfl<|cRg<|oR 2 rfl<|rW (vN rob.length) rfl (bQ enL rob)<|rW (vN (min i rob.length)) rfl (Bp i rob.length)<|oR 1 rfl<|rE 5<|Cb<|PD (κ:=Nat) (λ k=>⟨cI [(0,.v y),(1,.dp 1 0 ([vN i])),(2,.dp 1 0 ([.sl 17 (rob.map enL) ck])),(4,vN k)],heapF [],5⟩) (λ k=>GA rob (min i rob.length) k) (λ k=>k≤min i rob.length) (λ k=>k) (min i rob.length) (λ s=>s) (Weak.of_lists (λ s=>s) wT trivial rfl) rfl (JV) (aC _) ?_;intro k hk;have hkB:k≤1000:=by have:k≤min i rob.length:=hk;omega
 refine vF<|vF<|rJ rfl<|cRg<|oR 1 rfl<|rW (vB (decide (k>0))) rfl (okB (gtN _ _))<|rE 7 ?_;refine Ee (v:=decide (k>0)) rfl (λ h1=>?_) (λ h1=>?_)
 ·have h1p:=of_decide_eq_true h1;refine rJ rfl<|aZ<|vF<|Cb<|vF<|PE rfl 8 rfl rfl rfl<|oR 2 rfl ?_;have b1:k - 1≤1000:=aL (iO _ _) hkB;refine rW (vN (k - 1)) rfl (okI (Bm omT hkB rfl))<|oR 2 rfl ?_;have b2:k - 1≤1000:=aL (iO _ _) hkB;refine rW (vN (k - 1)) rfl (okI (Bm omT hkB rfl)) ?_;obtain⟨x,hx⟩:∃ y_,rob[(k - 1)]?=some y_:=⟨_,aA omT⟩;have hxo:=ho x (aB hx);refine rIx (enL x) (.dp 17 0 (enL x)) rfl rfl (gJ hx) rfl<|oR 1 rfl<|rE 15 ?_;refine⟨(k - 1,x),_,⟨cI [(0,.v y),(1,.dp 1 0 ([vN i])),(2,.dp 1 0 ([.sl 17 (rob.map enL) ck])),(4,vN k),(13,.v y),(15,vN (k - 1)),(20,.agg (enL x))],heapF [],0⟩,λ s=>s,Weak.of_lists _ wT trivial rfl,rfl,rfl,rfl,rfl,rfl,rfl,(by rw[←Fo (eT _ _) h1p hk hx];exact Ox),λ yb1=>?_⟩;refine oR 1 rfl<|rE 17 ?_;refine Ee (v:= !yb1) rfl (λ h2=>?_) (λ h2=>?_)
  ·refine rJ rfl<|cT ?_;intro hs;rw[h2]at hs;cases hs
  ·refine rJ rfl<|aZ<|rJ rfl<|cRg<|oR 1 rfl ?_;have b3:k - 1≤1000:=aL (iO _ _) hkB;refine rW (vN (k - 1)) rfl (okI (Bm omT hkB rfl))<|oR 1 rfl<|rE 20 ?_;refine⟨h2,k - 1,λ s=>s,Weak.of_lists _ wT trivial rfl,rfl,(Fo (eT _ _) h1p hk hx),(by show k - 1≤min i rob.length;omega),(by show k - 1<k;omega)⟩
 ·have h1p:=aD h1;refine rJ rfl<|eA ?_;intro _;obtain rfl:k=0:=by omega
  exact Oy (eT _ _)
theorem Cl{rob:List Ent}{reg:Int}:∀ {n:Nat},n≤rob.length→(∀ y,y∈yL rob n→ ¬ wr y.2.i=reg)→zI rob reg n=none
 |0,_,_=>rfl
 |n+1,h,hN=>by
  have e:rob[n]?=some rob[n]:=aA h;simp only[yL,e]at hN;have h0: ¬ wr rob[n].i=reg:=hN (n,rob[n]) bO;simp only[zI,JZ,e];rw[if_neg (by simpa using h0)];exact Cl (mN h) λ y hy=>hN y (bZ _ hy)
theorem Cm{rob:List Ent}{reg:Int}:∀ {n:Nat} {pre:List (Nat×Ent)} {x:Nat×Ent},n≤rob.length→pre++[x] <+: yL rob n→(∀ y,y∈pre→ ¬ wr y.2.i=reg)→wr x.2.i=reg→zI rob reg n=some x.1
 |0,pre,x,_,h,_,_=>by have:=h.length_le;simp[yL]at this
 | n+1,pre,x,hn,h,hN,hx=>by
  have e:rob[n]?=some rob[n]:=aA hn;simp only[yL,e]at h;simp only[zI,JZ,e]
  cases pre with
  | nil=>
   obtain rfl:x=(n,rob[n]):=by
    obtain⟨t,ht⟩:=h;exact (List.cons.inj ht).1
   rw[if_pos (by simpa using hx)]
  |cons y l=>
   obtain⟨t,ht⟩:=h;obtain⟨h3,h4⟩:=List.cons.inj ht;subst h3;have h0: ¬ wr rob[n].i=reg:=hN (n,rob[n]) bO;rw[if_neg (by simpa using h0)];exact Cm (mN hn) ⟨t,h4⟩ (λ y hy=>hN y (bZ _ hy)) hx
theorem Xa(rob:List Ent)(ck:Bool)(i:Nat)(hl:rob.length≤1000)(ho:∀ x∈rob,x.ok)(hi:i≤1000):bY C0 201 [.sl 17 (rob.map enL) ck,vN i] (.clo 217 [] [.dp 1 0 [vN i],.dp 1 0 [.sl 17 (rob.map enL) ck]]):=by
 refine bY.intro c0Ok Tryz.func201 rfl rfl (by kernel_rfl) rfl<|cSR<|rAl 0 rfl rfl<|rAl 1 rfl rfl<|oR 1 rfl<|rE 3<|cSR<|rV (.clo 217 [] [.ptr 1 0,.ptr 0 0]) rfl<|oR 1 rfl<|rE 5<|cT ?_;exact eW rfl tvT rfl rfl
theorem Oz(rob:List Ent)(ck:Bool)(i:Nat)(reg:Int)(hl:rob.length≤1000)(ho:∀ x∈rob,x.ok)(hi:i≤1000):bY C0 157 [.sl 17 (rob.map enL) ck,vN i,vI reg] (vI (CB (gQ rob i reg))):=by
 refine bY.introR (C:=C0) (λ d=>c0Ok.wd d) (λ n=>c0Ok.at) Tryz.func157 rfl rfl (by kernel_rfl) rfl<|yN<|xZ rfl<|cRg<|rAl 0 rfl rfl<|rAl 1 rfl rfl<|rE 2<|yN<|yN<|xZ rfl<|cRg<|oR 1 rfl<|rV (vB (decide (reg<1))) rfl<|oR 1 rfl<|gN rfl<|gBS (x:=vB (decide (reg>31))) rfl id rfl ?_;refine cH rfl rfl rfl (by simp)<|rE 8 ?_;refine SO (v:=cA (decide (reg<1)) true (decide (reg>31))) rfl (λ h1=>?_) (λ h1=>?_)
 ·refine yN<|xZ rfl<|cRg<|rSt rfl<|rE 9<|xZ rfl<|cT ?_;have hb:(reg<1∨reg>31):=by have z:=h1;simp only[cOr]at z;grind
  have e:gQ rob i reg=none:=if_pos hb;rw[e];exact fT rfl rfl
 ·refine xZ rfl<|aZ<|yN<|yN<|xZ rfl<|cRg<|oR 2 rfl<|rCi rfl (Xa rob ck i hl ho hi)<|rE 11<|Km ?_;refine PC (.mk _ (.refl _) ⟨⟨cI [(5,.ptr 0 0),(6,.ptr 1 0),(17,.clo 217 [] [.dp 1 0 ([vN i]),.dp 1 0 ([.sl 17 (rob.map enL) ck])])],heapF [(0,.box [vI reg]),(1,.box [vI 0])],2⟩,λ s=>s,Weak.of_lists _ wT wH rfl,rfl,?_⟩);refine .mk (Nat×Ent) 217 [.dp 1 0 ([vN i]),.dp 1 0 ([.sl 17 (rob.map enL) ck])] (λ x:Nat×Ent=>[vN x.1,.agg (enL x.2)]) VC (yL rob (min i rob.length)) (λ x:Nat×Ent=> ¬ wr x.2.i=reg) rfl rfl ⟨_,Tryz.func217,rfl,rfl⟩ (WZ rob ck i hl ho hi) (λ x S w β=>CL (show Hq [vN x.1,.agg (enL x.2)]=some _ from rfl)) (λ _=>rfl) rfl ?_ ?_
  ·intro pre_ x hp_ hN_;have hxm:=zF (hp_.subset (List.mem_append_right _ (tM.2 rfl)));have hx1:x.1≤1000:=by have:=hxm.1;omega
   have hxo:=ho x.2 (aB hxm.2);refine cSR<|oR 1 rfl<|rE 3<|cRg<|rAl 3 rfl rfl<|rSt rfl<|rE 5 ?_;refine⟨rfl,?_⟩;refine bI<|cSR<|oR 2 rfl<|rCi rfl (GR x.2.i)<|oR 1 rfl<|rV (vB ((wr x.2.i)==reg)) rfl<|rE 10 ?_;refine aU rfl (λ h2=>?_) (λ h2=>?_)
   ·have h2p:=kX h2;refine cSR<|oR 1 rfl<|rSt rfl<|rE 12<|cT ?_;refine .mk _ (.refl _) ⟨heapF [(0,.box [vI reg]),(1,.box [vN x.1])],λ s=>s,rfl,Weak.of_lists (l:=[]) (hp:=[(0,.box [vI reg]),(1,.box [vN x.1])]) (λ s=>s) trivial wH rfl,?_⟩;intro D;have hb: ¬ (reg<1∨reg>31):=by have z:=h1;simp only[cOr]at z;grind
    have e:gQ rob i reg=some x.1:=(if_neg hb).trans (Cm (eT _ _) hp_ hN_ (kX h2));rw[e];exact fT rfl rfl
   ·have h2p:=kY h2;refine aZ ?_;exact⟨kY h2,.mk _ (.refl _) ⟨λ s=>s,rfl,Weak.of_lists (l:=[]) (hp:=[(0,.box [vI reg]),(1,.box [vI 0])]) (λ s=>s) trivial wH rfl⟩⟩
  ·intro hN D;refine yN<|xZ rfl<|cRg<|rSt rfl<|rE 3<|xZ rfl<|cT ?_;have hb: ¬ (reg<1∨reg>31):=by have z:=h1;simp only[cOr]at z;grind
   have e:gQ rob i reg=none:=(if_neg hb).trans (Cl (eT _ _) hN);rw[e];exact fT rfl rfl
theorem Fn{rob:List Ent}{reg:Int}:∀ {n k:Nat},zI rob reg n=some k→k<n
 |0,k,h=>by cases h
 |n+1,k,h=>by
  simp only[zI]at h;split at h
  ·injection h with h;omega
  ·have:=Fn h;omega
theorem DJ{rob:List Ent}{i k:Nat}{reg:Int}(h:gQ rob i reg=some k):k<i∧k<rob.length:=by
 unfold gQ at h;split at h
 ·cases h
 ·have:=Fn h;omega
theorem Lb{o:Option Nat}(h:CB o<0):o=none:=by cases o with|none=>rfl|some k=>exact absurd h (by show ¬ ((k:Int)<0);omega)
theorem Gz{o:Option Nat}(h: ¬ CB o<0):∃ k,o=some k:=by cases o with|none=>exact absurd (by decide) h|some k=>exact⟨k,rfl⟩
theorem Ir(rob:List Ent)(r:Nat→Nat)(ck:Bool)(i:Nat)(reg:Int)(hl:rob.length≤1000)(ho:∀ x∈rob,x.ok)(hr:∀ k,r k≤4294967295)(hi:i≤1000):bY C0 101 [.sl 17 (rob.map enL) ck,.agg (Iz r),vN i,vI reg] (.tup [vU ((kN rob r i reg).getD 0),vB (kN rob r i reg).isSome]):=by
 refine bY.intro c0Ok Tryz.func101 rfl rfl (by kernel_rfl) rfl<|cSR<|rAl 0 rfl rfl<|oR 2 rfl<|rE 3<|aE<|cSR<|oR 1 rfl<|rV (vB (reg==0)) rfl<|rE 5 ?_;refine aU rfl (λ h1=>?_) (λ h1=>?_)
 ·have h1p:=kX h1;refine cSR<|oR 2 rfl<|rE 7<|cT ?_;have hrd:kN rob r i reg=some 0:=by unfold kN;rw[if_pos h1p]
  exact fT rfl (by rw[hrd];rfl)
 ·have h1p:=kY h1;refine aZ<|aE<|cSR<|oR 1 rfl<|rV (vB (decide (reg<0))) rfl<|oR 1 rfl<|gN rfl<|gBS (x:=vB (decide (reg>31))) rfl id rfl<|cH rfl rfl rfl (by simp)<|rE 11 ?_;refine aU rfl (λ h2=>?_) (λ h2=>?_)
  ·have hb:(reg<0∨reg>31):=by have z:=h2;simp only[cOr]at z;grind
   refine cSR<|oR 2 rfl<|rE 13<|cT ?_;have hrd:kN rob r i reg=none:=by unfold kN;rw[if_neg h1p,if_pos hb]
   exact fT rfl (by rw[hrd];rfl)
  ·have hb: ¬ (reg<0∨reg>31):=by have z:=h2;simp only[cOr]at z;grind
   refine aZ<|cSR<|oR 3 rfl<|rCi rfl (Oz rob ck (i) (reg) hl ho omT)<|oR 1 rfl<|rE 16<|aE<|cSR<|oR 1 rfl<|rV (vB (decide ((CB (gQ rob (i) (reg)))<0))) rfl<|rE 18 ?_;refine aU rfl (λ h3=>?_) (λ h3=>?_)
   ·have h3p:=of_decide_eq_true h3;have hj:=Lb h3p;refine cSR<|oR 1 rfl<|nW (.ptr 0 (0+reg.toNat * 1)) rfl rfl omT<|rW (vU (r reg.toNat)) rfl (ldL r reg.toNat omT)<|oR 2 rfl<|rE 23<|cT ?_;have hrd:kN rob r i reg=some (r reg.toNat):=by unfold kN;rw[if_neg h1p,if_neg hb,hj]
    exact fT rfl (by rw[hrd];rfl)
   ·have h3p:=aD h3;obtain⟨j,hj⟩:=Gz h3p;have hjl:=DJ hj;obtain⟨x,hx⟩:∃ x,rob[j]?=some x:=⟨_,aA hjl.2⟩;have hxo:=ho x (aB hx);refine aZ<|aE<|cSR<|oR 2 rfl<|Fb (enL x) (x:=.dp 17 0 (enL x)) rfl rfl rfl (by rw[hj];exact⟨aI _,gJ hx⟩) rfl<|oR 1 rfl<|rAl 22 rfl rfl<|rSt rfl<|rE 24<|cSR<|oR 2 rfl<|rV (vB (x.is==3)) rfl<|oR 1 rfl<|gN rfl ?_;refine gS rfl id<|gBS (x:=vB (x.halt==0)) rfl id rfl<|cH rfl rfl rfl (λ h=>h)<|rE 32 ?_;refine aU rfl (λ h4=>?_) (λ h4=>?_)
    ·refine cSR<|oR 4 rfl<|rE 36<|cT ?_;have hd:(x.is=3∧x.halt=0):=by have z:=h4;simp only[pM]at z;grind
     have hrd:kN rob r i reg=some x.value:=by unfold kN;rw[if_neg h1p,if_neg hb,hj];simp only[hx];exact if_pos hd
     exact fT rfl (by rw[hrd];rfl)
    ·refine aZ<|cSR<|oR 2 rfl<|rE 34<|cT ?_;have hd: ¬ (x.is=3∧x.halt=0):=by have z:=h4;simp only[pM]at z;grind
     have hrd:kN rob r i reg=none:=by unfold kN;rw[if_neg h1p,if_neg hb,hj];simp only[hx];exact if_neg hd
     exact fT rfl (by rw[hrd];rfl)
theorem Bh{rob:List Ent}{r:Nat→Nat}(ho:∀ x∈rob,x.ok)(hr:∀ k,r k≤4294967295)(i:Nat)(reg:Int):(kN rob r i reg).getD 0≤4294967295:=by
 unfold kN;split
 ·exact aF _
 ·split
  ·exact aF _
  ·split
   ·exact hr _
   ·split
    ·rename_i e he;split
     ·exact (ho e (aB he)).value
     ·exact aF _
    ·exact aF _
theorem SC(rob:List Ent)(r:Nat→Nat)(ck:Bool)(i:Nat)(hl:rob.length≤1000)(ho:∀ x∈rob,x.ok)(hr:∀ k,r k≤4294967295)(hi:i≤1000):bY C0 164 [.sl 17 (rob.map enL) ck,.agg (Iz r),vN i] (.tup [vU (lE rob r i).1,vU (lE rob r i).2.1,vB (lE rob r i).2.2]):=by
 refine bY.intro c0Ok Tryz.func164 rfl rfl (by kernel_rfl) rfl<|cSR<|rAl 0 rfl rfl<|oR 3 rfl<|rE 4<|aE<|cSR<|oR 1 rfl<|rW (vB (decide (i<0))) rfl (okB (ltN _ _))<|oR 1 rfl<|gN rfl<|gN rfl<|gBS (x:=vN rob.length) rfl id (bQ enL rob)<|gBS (x:=vB (decide (i≥rob.length))) rfl hsT (okB (geN _ _)) ?_;refine cH rfl rfl rfl (by simp)<|rE 12 ?_;refine aU rfl (λ h1=>?_) (λ h1=>?_)
 ·have hb:(i≥rob.length):=by have z:=h1;simp only[cOr]at z;grind
  refine cSR<|oR 3 rfl<|rE 15<|cT ?_;have hn:rob[i]?=none:=bR omT;exact fT rfl (by rw[show lE rob r i=(0,0,false)from by unfold lE;rw[hn]];rfl)
 ·have hb: ¬ (i≥rob.length):=by have z:=h1;simp only[cOr]at z;grind
  refine aZ<|cSR<|oR 2 rfl ?_;obtain⟨x,hx⟩:∃ y_,rob[i]?=some y_:=⟨_,aA omT⟩;have hxo:=ho x (aB hx);refine rIx (enL x) (.dp 17 0 (enL x)) rfl rfl (gJ hx) rfl<|oR 2 rfl<|rCi rfl (Fw x.i)<|oR 5 rfl<|rE 23<|cSR<|oR 4 rfl<|rCi rfl (Ir rob r ck (i) (x.i.rs1) hl ho hr omT)<|oR 5 rfl<|rE 33<|cSR<|oR 4 rfl<|rCi rfl (Ir rob r ck (i) (x.i.rs2) hl ho hr omT)<|oR 5 rfl ?_;refine rE 43<|cSR<|oR 4 rfl<|gN rfl<|cH rfl rfl rfl (λ h=>h)<|oR 3 rfl<|rE 52<|cT ?_;exact fT rfl (by rw[show lE rob r i=((kN rob r i x.i.rs1).getD 0,(kN rob r i x.i.rs2).getD 0,(kN rob r i x.i.rs1).isSome&&(kN rob r i x.i.rs2).isSome)from by unfold lE;rw[hx]];simp only[←pM];rfl)
theorem WY(e:Ent)(he:e.ok):bY C0 231 [.agg (enL e)] (vB (Ka e)):=by
 refine bY.intro c0Ok Tryz.func231 rfl rfl (by kernel_rfl) rfl<|cSR<|rAl 0 rfl rfl<|oR 1 rfl<|rE 2<|aE<|cSR<|oR 2 rfl<|rV (vB (e.halt != 0)) rfl<|rE 5 ?_;refine aU rfl (λ h1=>?_) (λ h1=>?_)
 ·have h1p:=vA h1;refine cSR<|oR 1 rfl<|rE 6<|cT ?_;replace h1:=sP h1;exact fT rfl (cY (by unfold Ka;grind))
 ·have h1p:=vC h1;refine aZ<|aE<|cSR<|oR 2 rfl<|rCi rfl (qG e.i)<|rE 8<|bI<|cSR<|rW (vB ((kindOf e.i.op)==6)) rfl (okB (eqN _ _))<|oR 1 rfl<|rE 10 ?_;refine aU rfl (λ h2=>?_) (λ h2=>?_)
  ·have h2p:=kX h2;refine cSR<|oR 1 rfl<|rE 11<|cT ?_;replace h1:=sP h1;replace h2:=sP h2;exact fT rfl (cY (by unfold Ka;grind))
  ·have h2p:=kY h2;refine aE<|cSR<|rW (vB ((kindOf e.i.op)==3)) rfl (okB (eqN _ _))<|oR 1 rfl<|rE 12 ?_;refine aU rfl (λ h3=>?_) (λ h3=>?_)
   ·have h3p:=kX h3;refine aZ ?_;refine aU rfl (λ _=>?_) (λ h4=>Bool.noConfusion (h3.symm.trans h4));refine cSR<|oR 3 rfl<|rE 15<|cT ?_;replace h1:=sP h1;replace h2:=sP h2;replace h3:=sP h3;exact fT rfl (cY (by unfold Ka;grind))
   ·have h3p:=kY h3;refine cSR<|rW (vB ((kindOf e.i.op)==4)) rfl (okB (eqN _ _))<|oR 1 rfl<|rE 14 ?_;refine aU rfl (λ h5=>?_) (λ h5=>?_)
    ·have h5p:=kX h5;refine aZ ?_;refine aU rfl (λ _=>?_) (λ h6=>Bool.noConfusion (h5.symm.trans h6));refine cSR<|oR 3 rfl<|rE 17<|cT ?_;replace h1:=sP h1;replace h2:=sP h2;replace h3:=sP h3;replace h5:=sP h5;exact fT rfl (cY (by unfold Ka;grind))
    ·have h5p:=kY h5;refine cRg<|rW (vB ((kindOf e.i.op)==5)) rfl (okB (eqN _ _))<|oR 1 rfl<|rE 16 ?_;refine aU rfl (λ h7=>?_) (λ h7=>?_)
     ·have h7p:=kX h7;refine cSR<|oR 3 rfl<|rE 19<|cT ?_;replace h1:=sP h1;replace h2:=sP h2;replace h3:=sP h3;replace h5:=sP h5;replace h7:=sP h7;exact fT rfl (cY (by unfold Ka;grind))
     ·have h7p:=kY h7;refine aZ<|cSR<|oR 1 rfl<|rE 17<|cT ?_;replace h1:=sP h1;replace h2:=sP h2;replace h3:=sP h3;replace h5:=sP h5;replace h7:=sP h7;exact fT rfl (cY (by unfold Ka;grind))
theorem TF{α:Type}{p:α→Bool}{l:List α}{k:Nat}{x:α}(hx:l[k]?=some x)(hp:p x=true)(h:∀ y∈l.take k,p y=false):l.findIdx p=k:=by
 have:=OB hx hp h;rw[List.findIdx?_eq_some_iff_findIdx_eq]at this;exact this.2
theorem TG{α:Type}{p:α→Bool}{l:List α}{k:Nat}(hk:l.length≤k)(h:∀ y∈l.take k,p y=false):l.findIdx p=l.length:=by
 rw[aN hk]at h;exact List.findIdx_eq_length.2 h
theorem Ov(rob:List Ent)(ck:Bool)(hl:rob.length≤1000)(ho:∀ x∈rob,x.ok):bY C0 219 [.sl 17 (rob.map enL) ck] (vN (Bn rob)):=by
 refine dc1 (bY.intro c1Ok Tryz.func219 rfl rfl (by kernel_rfl) rfl ?_);refine cSR<|oR 1 rfl<|rE 1<|aE<|cSR<|oR 1 rfl<|rW (vN rob.length) rfl (bQ enL rob)<|oR 1 rfl<|rE 4<|bI<|kZ (κ:=Nat) (λ k=>⟨cI [(0,.sl 17 (rob.map enL) ck),(5,.sl 17 (rob.map enL) ck),(6,vN rob.length),(7,vN k)],heapF [],4⟩) (λ k=>k≤rob.length∧∀ y∈rob.take k,(!Ka y)=false) (λ k=>rob.length - k) 0 (λ s=>s) (Weak.of_lists (λ s=>s) wT trivial rfl) (⟨aF _,OC⟩) ?_;intro k hk;have hkn:k≤rob.length:=hk.1;have hkB:k≤1000000:=by omega
 refine cSR<|rW (vB (decide (k<rob.length))) rfl (okB (ltN _ _))<|rE 5<|aE ?_;refine aU rfl (λ h1=>?_) (λ h1=>?_)
 ·have h1p:=of_decide_eq_true h1;refine aZ<|aE<|bI<|cSR<|oR 1 rfl ?_;obtain⟨x,hx⟩:∃ y_,rob[k]?=some y_:=⟨_,aA omT⟩;have hxo:=ho x (aB hx);refine rIx (enL x) (.dp 17 0 (enL x)) rfl rfl (gJ hx) rfl<|oR 1 rfl<|rAl 8 rfl rfl<|oR 1 rfl<|rSt rfl<|rE 11<|cSR<|oR 1 rfl<|rCi rfl (WY x hxo)<|oR 1 rfl<|rE 14 ?_;refine aU rfl (λ h2=>?_) (λ h2=>?_)
  ·refine cSR<|oR 2 rfl<|rE 16<|cT ?_;exact fT rfl (Wz (by unfold Bn;rw[TF hx (by simpa using h2) hk.2]))
  ·refine aZ<|cRg ?_;have b1:k+1≤1000001:=aH hkB (aC 1);refine rW (vN (k+1)) rfl (okI (bS b1 rfl))<|oR 1 rfl<|rE 16 ?_;refine⟨k+1,λ s=>s,Weak.of_lists _ wT trivial rfl,⟨by omega,OA hx (by simpa using h2) hk.2⟩,by show rob.length - (k+1)<rob.length - k;omega⟩
 ·have h1p:=aD h1;refine eA<|cSR<|oR 1 rfl<|rW (vN rob.length) rfl (bQ enL rob)<|oR 1 rfl<|rE 8<|cT ?_;exact fT rfl (Wz (by unfold Bn;rw[TG omT hk.2]))
theorem Lc(rob:List Ent)(ck:Bool)(i:Nat)(hl:rob.length≤1000)(ho:∀ x∈rob,x.ok)(hi:i≤1000):bY C0 206 [.sl 17 (rob.map enL) ck,vN i] (vB (tW rob i)):=by
 refine bY.intro c0Ok Tryz.func206 rfl rfl (by kernel_rfl) rfl<|cSR<|oR 1 rfl<|rE 1<|cSR<|oR 1 rfl<|rW (vB (decide (i≥0))) rfl (okB (geN _ _))<|oR 1 rfl<|gN rfl<|gN rfl<|gBS (x:=vN rob.length) rfl id (bQ enL rob)<|gBS (x:=vB (decide (i≤rob.length))) rfl hsT (okB (leN _ _))<|cH rfl rfl rfl (λ h=>h)<|oR 1 rfl ?_;refine gN rfl<|gN rfl<|jI (args:=[.sl 17 (rob.map enL) ck]) (x:=vN (Bn rob)) (g:=cA (decide (i≥0)) (decide (i≤rob.length)) false) rfl rfl rfl rfl (λ h=>h) rfl rfl rfl (.inl rfl) rfl (λ hg=>Ov rob ck hl ho)<|gBS (x:=vB (decide (i≤(Bn rob)))) rfl hsT (okB (leN _ _))<|cH rfl rfl rfl (λ h=>h)<|oR 1 rfl<|rE 16<|cT ?_;exact fT rfl (cY (by unfold tW;rw[bT];simp[pM]))
theorem lY(rob:List Ent):∀ k,(eO rob k).length=k
 |0=>rfl
 |k+1=>by simp only[eO,aY,lY rob k,bN,cW]
theorem Rd{rob:List Ent}{k j:Nat}{x:Int}{o:Option Nat}(ho:o=some j)(hx:(eO rob k)[j]?=some x):rO (eO rob k) o=x:=by
 subst ho;show (eO rob k).getD j (-1)=x;rw[bP,hx];rfl
theorem Ow(rob:List Ent)(ck:Bool)(i k:Nat)(reg:Int)(hl:rob.length≤1000)(ho:∀ x∈rob,x.ok)(hi:i≤k)(hk:k≤1000):pJ C0.P C0.G 230 [vN i,vI reg,.ptr 0 0,.ptr 1 0] (heapF [(0,.box [.sl 17 (rob.map enL) ck]),(1,.box [.osl 2 0 k false]),(2,.arr ((eO rob k).map fD) 1)]) 3 (λ x h'=>x=vI (rO (eO rob k) (gQ rob i reg))∧h'=heapF [(0,.box [.sl 17 (rob.map enL) ck]),(1,.box [.osl 2 0 k false]),(2,.arr ((eO rob k).map fD) 1)]):=by
 refine HCall.intro (C:=C0) (s:=3) c0Ok.at Tryz.func230 rfl rfl (by kernel_rfl) rfl rfl<|cSR<|oR 1 rfl<|rE 4<|aE<|cSR<|oR 3 rfl<|rCi rfl (Oz rob ck (i) (reg) hl ho omT)<|oR 1 rfl<|rE 9<|cSR<|oR 1 rfl<|rV (vB (decide ((CB (gQ rob (i) (reg)))≥0))) rfl ?_;refine rE 11 ?_;refine aU rfl (λ h1=>?_) (λ h1=>?_)
 ·have h1p:=of_decide_eq_true h1;obtain⟨j,hj⟩:=Gz (show ¬ CB (gQ rob i reg)<0 by omega);have hjl:=DJ hj;have hrk:=lY rob k;refine cSR<|oR 2 rfl<|nW (.ptr2 2 (0+j) 0) rfl ((show Res.need _ (AV.ptr2 2 (0+(CB (gQ rob i reg)).toNat) 0)=Res.need _ (AV.ptr2 2 (0+j) 0)from by rw[hj];rfl)) (by (try rw[hj]);exact⟨aI _,by show (j:Int)<(k:Int);omega⟩) ?_;obtain⟨x,hx⟩:∃ y_,(eO rob k)[j]?=some y_:=⟨_,aA omT⟩;refine rIx (fD x) (vI x) rfl rfl (Hk (gJ hx)) rfl<|oR 1 rfl<|rE 16<|cT ?_;refine oX (rs:=[vI x]) rfl (r:=vI (rO (eO rob k) (gQ rob i reg))) (h':=heapF [(0,.box [.sl 17 (rob.map enL) ck]),(1,.box [.osl 2 0 k false]),(2,.arr ((eO rob k).map fD) 1)]) (σ:=λ z=>z) ⟨rfl,rfl⟩ rfl (cF (λ z=>z) (by rw[Rd hj hx];rfl) rfl wH rfl)
 ·have h1p:=aD h1;have hj:=Lb (show CB (gQ rob i reg)<0 by omega);refine aZ<|cSR<|oR 1 rfl<|rE 12<|cT ?_;refine oX (rs:=[vI (-1)]) rfl (r:=vI (rO (eO rob k) (gQ rob i reg))) (h':=heapF [(0,.box [.sl 17 (rob.map enL) ck]),(1,.box [.osl 2 0 k false]),(2,.arr ((eO rob k).map fD) 1)]) (σ:=λ z=>z) ⟨rfl,rfl⟩ rfl (cF (λ z=>z) (by rw[hj];rfl) rfl wH rfl)
theorem Vx(a b:Int):(if b>a then b else a)=max a b:=by omega
theorem DK{p:Prop}{H:AH}{s rs:Nat}{rob:List Ent}{k:Nat}{x:Int}(hl:(eO rob k).length=k)(hx:x=Ct rob (eO rob k) k):
  Res.fx p (.osl s 0 ((List.take k (List.drop 0 ((eO rob k).map fD))).length+[[AV.v (.int .i64 x)]].length) false) (upd H s (some (.arr (List.take k (List.drop 0 ((eO rob k).map fD))++[[AV.v (.int .i64 x)]]) rs)))=.fx p (.osl s 0 (k+1) false) (upd H s (some (.arr ((eO rob (k+1)).map fD) rs))):=by
 rw[cQ,aN (by rw[aO,hl];exact aC _),aO,hl];simp only[eO,fX,iW,List.map_nil, ←hx];rfl
theorem Vy(rob:List Ent)(ck:Bool)(hl:rob.length≤1000)(ho:∀ x∈rob,x.ok):bY C0 218 [.sl 17 (rob.map enL) ck] (.sl 1 ((yI rob).map fD) false):=by
 refine dc1 (bY.intro c1Ok Tryz.func218 rfl rfl (by kernel_rfl) rfl ?_);refine cSR<|rAl 0 rfl rfl<|oR 1 rfl<|rE 2<|cSR<|oR 1 rfl<|rCi rfl (Ov rob ck hl ho)<|oR 1 rfl<|rE 5<|cSR<|oR 1 rfl<|rW (vN rob.length) rfl (bQ enL rob)<|rFx (x:=.osl 7 0 0 false) (h':=upd _ 7 (some (.arr (([]:List Int).map fD) 1))) rfl rfl (rfl) (⟨by decide,Eo.2 omT,by show ((rob.length:Nat):Int)≤1000000;omega⟩) ?_;refine rAl 8 rfl rfl<|rSt rfl<|rE 10<|cSR<|rV (.clo 230 [] [.ptr 0 0,.ptr 8 0]) rfl<|oR 1 rfl<|rE 12<|aE<|cSR<|oR 1 rfl<|rW (vN rob.length) rfl (bQ enL rob)<|oR 1 rfl<|rE 15<|bI ?_;refine kZ (κ:=Nat) (λ k=>⟨cI [(2,.sl 0 ([]) true),(3,vN (Bn rob)),(4,.ptr 8 0),(5,.clo 230 [] [.ptr 0 0,.ptr 8 0]),(17,.sl 17 (rob.map enL) ck),(18,vN rob.length),(19,vN k)],heapF [(0,.box [.sl 17 (rob.map enL) ck]),(7,.arr ((eO rob k).map fD) 1),(8,.box [.osl 7 0 k false])],15⟩) (λ k=>k≤rob.length) (λ k=>rob.length - k) 0 (λ s=>s) (Weak.of_lists (λ s=>s) wT wH rfl) (aF _) ?_;intro k hk;have hkn:k≤rob.length:=hk;have hkB:k≤1000:=by omega
 refine cSR<|rW (vB (decide (k<rob.length))) rfl (okB (ltN _ _))<|rE 16<|aE ?_;refine aU rfl (λ h1=>?_) (λ h1=>?_)
 ·have h1p:=of_decide_eq_true h1;refine aZ<|aE<|bI<|cSR<|oR 1 rfl ?_;obtain⟨x,hx⟩:∃ y_,rob[k]?=some y_:=⟨_,aA omT⟩;have hxo:=ho x (aB hx);refine rIx (enL x) (.dp 17 0 (enL x)) rfl rfl (gJ hx) rfl<|oR 1 rfl<|rAl 19 rfl rfl<|oR 1 rfl<|rSt rfl<|rE 22<|cSR<|oR 1 rfl<|rE 23<|aE<|cSR<|oR 2 rfl<|rCi rfl (qG x.i)<|rW (vB ((kindOf x.i.op) != 3)) rfl (okB (neN _ _)) ?_;refine rE 27 ?_;refine aU rfl (λ h2=>?_) (λ h2=>?_)
  ·have h2p:=vA h2;refine cSR<|oR 2 rfl<|rCi rfl (Fw x.i)<|oR 5 rfl<|rE 35<|cRg<|oR 3 rfl<|eE (args:=[vN k,vI x.i.rs1,.ptr 0 0,.ptr 8 0]) (d:=37) _ rfl rfl rfl ((Ow rob ck k k x.i.rs1 hl ho (aC k) omT).frameU (λ z=>match z with|0=>0|1=>8|2=>7|z=>z) _ _ rfl ⟨⟨rfl,rfl,rfl,rfl⟩,⟨rfl,rfl,rfl,rfl⟩,⟨rfl,rfl,rfl,rfl⟩,trivial⟩ rfl rfl rfl) ?_;rintro _ _ ⟨rfl,rfl⟩;refine oR 3 rfl<|eE (args:=[vN k,vI x.i.rs2,.ptr 0 0,.ptr 8 0]) (d:=41) _ rfl rfl rfl ((Ow rob ck k k x.i.rs2 hl ho (aC k) omT).frameU (λ z=>match z with|0=>0|1=>8|2=>7|z=>z) _ _ rfl ⟨⟨rfl,rfl,rfl,rfl⟩,⟨rfl,rfl,rfl,rfl⟩,⟨rfl,rfl,rfl,rfl⟩,trivial⟩ rfl rfl rfl) ?_;rintro _ _ ⟨rfl,rfl⟩;refine rV (vI (if (rO (eO rob k) (gQ rob k x.i.rs2))>(rO (eO rob k) (gQ rob k x.i.rs1))then (rO (eO rob k) (gQ rob k x.i.rs2))else (rO (eO rob k) (gQ rob k x.i.rs1)))) rfl<|oR 1 rfl<|rE 45<|cRg<|oR 2 rfl<|rV (.sl 1 ([[vI (if (rO (eO rob k) (gQ rob k x.i.rs2))>(rO (eO rob k) (gQ rob k x.i.rs1))then (rO (eO rob k) (gQ rob k x.i.rs2))else (rO (eO rob k) (gQ rob k x.i.rs1)))]]) true) rfl ?_;have hrt:(if (rO (eO rob k) (gQ rob k x.i.rs2))>(rO (eO rob k) (gQ rob k x.i.rs1))then (rO (eO rob k) (gQ rob k x.i.rs2))else (rO (eO rob k) (gQ rob k x.i.rs1)))=Ct rob (eO rob k) k:=by unfold Ct;rw[hx];exact (Vx _ _).trans (if_pos h2p).symm
   refine rFx (x:=.osl 48 0 (k+1) false) (h':=upd (upd _ 7 none) 48 (some (.arr ((eO rob (k+1)).map fD) 1))) rfl rfl (DK (lY rob k) hrt) (⟨by simp only[aO,bN,cW,aQ,bA,lY,oL];omega,by simp only[aO,lY];omega,trivial⟩)<|rSt rfl<|rE 50<|cRg ?_;have b1:k+1≤1001:=aH hkB (aC 1);refine rW (vN (k+1)) rfl (okI (bS b1 rfl))<|oR 1 rfl<|rE 52 ?_;refine⟨k+1,λ z=>match z with|7=>48|z=>z,Weak.of_lists _ wT wH rfl,by omega,by show rob.length - (k+1)<rob.length - k;omega⟩
  ·have h2p:=vC h2;refine cSR<|oR 2 rfl<|rW (vB (decide (k>(Bn rob)))) rfl (okB (gtN _ _))<|rE 30 ?_;refine aU rfl (λ h3=>?_) (λ h3=>?_)
   ·have h3p:=of_decide_eq_true h3;refine cRg<|oR 2 rfl<|rE 32<|cRg<|oR 2 rfl<|rV (.sl 1 ([[vN k]]) true) rfl ?_;have hrt:(k:Int)=Ct rob (eO rob k) k:=by unfold Ct;rw[hx];dsimp only;rw[if_neg (show ¬ kindOf x.i.op≠3 from λ q=>q h2p),if_pos h3p]
    refine rFx (x:=.osl 35 0 (k+1) false) (h':=upd (upd _ 7 none) 35 (some (.arr ((eO rob (k+1)).map fD) 1))) rfl rfl (DK (lY rob k) hrt) (⟨by simp only[aO,bN,cW,aQ,bA,lY,oL];omega,by simp only[aO,lY];omega,trivial⟩)<|rSt rfl<|rE 37<|cRg ?_;have b2:k+1≤1001:=aH hkB (aC 1);refine rW (vN (k+1)) rfl (okI (bS b2 rfl))<|oR 1 rfl<|rE 39 ?_;refine⟨k+1,λ z=>match z with|7=>35|z=>z,Weak.of_lists _ wT wH rfl,by omega,by show rob.length - (k+1)<rob.length - k;omega⟩
   ·have h3p:=aD h3;refine aZ<|cRg<|oR 2 rfl<|rV (.sl 1 ([[vI (-1)]]) true) rfl ?_;have hrt:(-1)=Ct rob (eO rob k) k:=by unfold Ct;rw[hx];dsimp only;rw[if_neg (show ¬ kindOf x.i.op≠3 from λ q=>q h2p),if_neg h3p]
    refine rFx (x:=.osl 33 0 (k+1) false) (h':=upd (upd _ 7 none) 33 (some (.arr ((eO rob (k+1)).map fD) 1))) rfl rfl (DK (lY rob k) hrt) (⟨by simp only[aO,bN,cW,aQ,bA,lY,oL];omega,by simp only[aO,lY];omega,trivial⟩)<|rSt rfl<|rE 35<|cRg ?_;have b3:k+1≤1001:=aH hkB (aC 1);refine rW (vN (k+1)) rfl (okI (bS b3 rfl))<|oR 1 rfl<|rE 37 ?_;refine⟨k+1,λ z=>match z with|7=>33|z=>z,Weak.of_lists _ wT wH rfl,by omega,by show rob.length - (k+1)<rob.length - k;omega⟩
 ·have h1p:=aD h1;refine eA<|cSR<|oR 2 rfl<|rE 18<|cT ?_;have hke:k=rob.length:=by omega
  subst hke;refine eW rfl (by show 0+rob.length≤((eO rob rob.length).map fD).length;rw[aO,lY];omega) rfl ?_;show AV.sl 1 (List.take rob.length (List.drop 0 ((eO rob rob.length).map fD))) false=_;rw[kA fD (eO rob rob.length) (by rw[lY];exact aC _)];rfl
theorem Vz{rob:List Ent}{i:Nat}{reg:Int}(hg:decide (CB (gQ rob i reg)≥0)=true):0≤CB (gQ rob i reg)∧((yI rob).map fD)[(CB (gQ rob i reg)).toNat]?=some (fD ((yI rob).getD (CB (gQ rob i reg)).toNat (-1))):=by
 have h:=of_decide_eq_true hg;obtain⟨j,hj⟩:=Gz (show ¬ CB (gQ rob i reg)<0 by omega);refine⟨h,?_⟩;rw[hj];have hl:=(DJ hj).2;have hr:(yI rob).length=rob.length:=lY rob rob.length;show ((yI rob).map fD)[j]?=some (fD ((yI rob).getD j (-1)));rw[bH,bP,aA omT];rfl
theorem Re(rob:List Ent)(i:Nat)(reg:Int):cA (decide (CB (gQ rob i reg)≥0)) (decide ((yI rob).getD (CB (gQ rob i reg)).toNat (-1)≥0)) false=GL rob i reg:=by
 unfold GL
 cases h:gQ rob i reg with
 |none=>rfl
 |some j=>
  rw[show decide (CB (some j)≥0)=true from pH (aI _)];rfl
theorem Rf(rob:List Ent)(ck:Bool)(i:Nat)(reg:Int)(hl:rob.length≤1000)(ho:∀ x∈rob,x.ok)(hi:i≤1000):bY C0 204 [.sl 17 (rob.map enL) ck,vN i,vI reg] (vB (GL rob i reg)):=by
 refine bY.intro c0Ok Tryz.func204 rfl rfl (by kernel_rfl) rfl<|cSR<|oR 1 rfl<|rE 1<|cSR<|oR 3 rfl<|rCi rfl (Oz rob ck (i) (reg) hl ho omT)<|oR 1 rfl<|rE 6<|cSR<|oR 1 rfl<|rV (vB (decide ((CB (gQ rob (i) (reg)))≥0))) rfl<|oR 1 rfl ?_;refine gN rfl<|jI (args:=[.sl 17 (rob.map enL) ck]) (x:=.sl 1 ((yI rob).map fD) false) (g:=decide ((CB (gQ rob (i) (reg)))≥0)) rfl rfl rfl rfl (λ h=>h) rfl rfl rfl (.inl rfl) rfl (λ hg=>Vy rob ck hl ho)<|gN rfl<|JF (fD ((yI rob).getD (CB (gQ rob i reg)).toNat (-1))) (x:=.dp 1 0 (fD ((yI rob).getD (CB (gQ rob i reg)).toNat (-1)))) (g:=decide ((CB (gQ rob (i) (reg)))≥0)) rfl rfl rfl rfl hsT rfl rfl (λ hg=>Vz hg) rfl<|gS rfl id<|gBS (x:=vB (decide (((yI rob).getD (CB (gQ rob i reg)).toNat (-1))≥0))) rfl id rfl<|cH rfl rfl rfl (λ h=>h)<|oR 1 rfl<|rE 17<|cT ?_;exact fT rfl (cY (Re rob i reg))
theorem VA(e:Ent)(he:e.ok):bY C0 202 [.agg (enL e)] (vB (Cu e)):=by
 refine bY.intro c0Ok Tryz.func202 rfl rfl (by kernel_rfl) rfl<|cSR<|rAl 0 rfl rfl<|oR 1 rfl<|rE 2<|aE<|cSR<|oR 2 rfl<|rCi rfl (qG e.i)<|rE 5<|bI<|aE<|cSR ?_;refine rW (vB ((kindOf e.i.op)==3)) rfl (okB (eqN _ _))<|oR 1 rfl<|rE 7 ?_;refine aU rfl (λ h1=>?_) (λ h1=>?_)
 ·have h1p:=kX h1;refine aZ ?_;refine aU rfl (λ _=>?_) (λ h2=>Bool.noConfusion (h1.symm.trans h2));refine cSR<|oR 1 rfl<|rE 8<|cT ?_;replace h1:=sP h1;exact fT rfl (cY (by unfold Cu;rw[bT];simp only[bC];grind))
 ·have h1p:=kY h1;refine cSR<|rW (vB ((kindOf e.i.op)==4)) rfl (okB (eqN _ _))<|oR 1 rfl<|rE 9 ?_;refine aU rfl (λ h3=>?_) (λ h3=>?_)
  ·have h3p:=kX h3;refine aZ ?_;refine aU rfl (λ _=>?_) (λ h4=>Bool.noConfusion (h3.symm.trans h4));refine cSR<|oR 1 rfl<|rE 10<|cT ?_;replace h1:=sP h1;replace h3:=sP h3;exact fT rfl (cY (by unfold Cu;rw[bT];simp only[bC];grind))
  ·have h3p:=kY h3;refine cSR<|rW (vB ((kindOf e.i.op)==2)) rfl (okB (eqN _ _))<|oR 1 rfl<|rE 11 ?_;refine aU rfl (λ h5=>?_) (λ h5=>?_)
   ·have h5p:=kX h5;refine aZ ?_;refine aU rfl (λ _=>?_) (λ h6=>Bool.noConfusion (h5.symm.trans h6));refine cSR<|oR 1 rfl<|rE 12<|cT ?_;replace h1:=sP h1;replace h3:=sP h3;replace h5:=sP h5;exact fT rfl (cY (by unfold Cu;rw[bT];simp only[bC];grind))
   ·have h5p:=kY h5;refine cRg<|rW (vB ((kindOf e.i.op)==5)) rfl (okB (eqN _ _))<|oR 1 rfl<|rE 13 ?_;refine aU rfl (λ h7=>?_) (λ h7=>?_)
    ·have h7p:=kX h7;refine cSR<|oR 1 rfl<|rE 14<|cT ?_;replace h1:=sP h1;replace h3:=sP h3;replace h5:=sP h5;replace h7:=sP h7;exact fT rfl (cY (by unfold Cu;rw[bT];simp only[bC];grind))
    ·have h7p:=kY h7;refine aZ<|cSR<|oR 1 rfl<|rE 14<|cT ?_;replace h1:=sP h1;replace h3:=sP h3;replace h5:=sP h5;replace h7:=sP h7;exact fT rfl (cY (by unfold Cu;rw[bT];simp only[bC];grind))
theorem VB(e:Ent)(he:e.ok):bY C0 205 [.agg (enL e)] (.sl 1 ((pO e).map fD) true):=by
 refine bY.intro c0Ok Tryz.func205 rfl rfl (by kernel_rfl) rfl<|cSR<|rAl 0 rfl rfl<|oR 1 rfl<|rE 2<|cSR<|oR 2 rfl<|rCi rfl (Fw e.i)<|oR 5 rfl<|rE 10<|aE<|cSR<|oR 2 rfl ?_;refine rCi rfl (qG e.i)<|rE 13<|bI<|aE<|cSR<|rW (vB ((kindOf e.i.op)==3)) rfl (okB (eqN _ _))<|oR 1 rfl<|rE 15 ?_;refine aU rfl (λ h1=>?_) (λ h1=>?_)
 ·have h1p:=kX h1;refine aZ ?_;refine aU rfl (λ _=>?_) (λ h2=>Bool.noConfusion (h1.symm.trans h2));refine cSR<|oR 1 rfl<|rV (.sl 1 ([[vI e.i.rs1]]) true) rfl<|oR 1 rfl<|rE 18<|cT ?_;exact fT rfl (by rw[show pO e=[e.i.rs1]from by unfold pO;exact if_pos omT];rfl)
 ·have h1p:=kY h1;refine cRg<|rW (vB ((kindOf e.i.op)==4)) rfl (okB (eqN _ _))<|oR 1 rfl<|rE 17 ?_;refine aU rfl (λ h3=>?_) (λ h3=>?_)
  ·have h3p:=kX h3;refine cSR<|oR 1 rfl<|rV (.sl 1 ([[vI e.i.rs1]]) true) rfl<|oR 1 rfl<|rE 20<|cT ?_;exact fT rfl (by rw[show pO e=[e.i.rs1]from by unfold pO;exact if_pos omT];rfl)
  ·have h3p:=kY h3;refine aZ<|cSR<|oR 2 rfl<|rV (.sl 1 ([[vI e.i.rs1],[vI e.i.rs2]]) true) rfl<|oR 1 rfl<|rE 21<|cT ?_;exact fT rfl (by rw[show pO e=[e.i.rs1,e.i.rs2]from by unfold pO;exact if_neg omT];rfl)
theorem Rg(e:Ent):(pO e).length≤2:=by unfold pO;split<;>simp
theorem TH(rob:List Ent)(ck:Bool)(i:Nat)(reg:Int)(hl:rob.length≤1000)(ho:∀ x∈rob,x.ok)(hi:i≤1000):bY C0 203 [vI reg,.dp 1 0 [.sl 17 (rob.map enL) ck],.dp 1 0 [vN i]] (vB (!GL rob i reg)):=by
 refine bY.intro c0Ok Tryz.func203 rfl rfl (by kernel_rfl) rfl<|cSR<|oR 1 rfl<|rE 1<|cSR<|oR 3 rfl<|rCi rfl (Rf rob ck i reg hl ho hi)<|oR 2 rfl<|rE 7<|cT ?_;exact fT rfl rfl
theorem XD(mode:Int)(rob:List Ent)(ck:Bool)(i:Nat)(hl:rob.length≤1000)(ho:∀ x∈rob,x.ok)(hi:i≤1000):bY C0 163 [vI mode,.sl 17 (rob.map enL) ck,vN i] (vB (MY mode rob i)):=by
 refine bY.intro c0Ok Tryz.func163 rfl rfl (by kernel_rfl) rfl<|cSR<|rAl 0 rfl rfl<|rAl 1 rfl rfl<|oR 1 rfl<|rE 3<|aE<|cSR<|oR 1 rfl<|rW (vB (decide (i<0))) rfl (okB (ltN _ _))<|oR 1 rfl<|gN rfl<|gN rfl<|gBS (x:=vN rob.length) rfl id (bQ enL rob) ?_;refine gBS (x:=vB (decide (i≥rob.length))) rfl hsT (okB (geN _ _))<|cH rfl rfl rfl (by simp)<|rE 11 ?_;refine aU rfl (λ h1=>?_) (λ h1=>?_)
 ·have hb:(i≥rob.length):=by have z:=h1;simp only[cOr]at z;grind
  refine cSR<|oR 1 rfl<|rE 12<|cT ?_;have hn:rob[i]?=none:=bR omT;exact fT rfl (cY (by unfold MY;rw[hn]))
 ·have hb: ¬ (i≥rob.length):=by have z:=h1;simp only[cOr]at z;grind
  refine aZ<|aE<|cSR<|oR 2 rfl ?_;obtain⟨x,hx⟩:∃ y_,rob[i]?=some y_:=⟨_,aA omT⟩;have hxo:=ho x (aB hx);refine rIx (enL x) (.dp 17 0 (enL x)) rfl rfl (gJ hx) rfl<|oR 1 rfl<|rCi rfl (VA x hxo)<|oR 1 rfl<|rE 17 ?_;refine aU rfl (λ h2=>?_) (λ h2=>?_)
  ·refine cSR<|oR 1 rfl<|rE 18<|cT ?_;exact fT rfl (cY (by unfold MY;rw[hx];dsimp only;rw[if_pos (by simpa using h2)]))
  ·refine aZ<|cSR<|rV (.clo 203 [] [.ptr 0 0,.ptr 1 0]) rfl<|oR 1 rfl<|rE 19<|aE<|cSR<|oR 1 rfl<|rE 20<|bI<|cSR<|rV (vB (mode==0)) rfl<|oR 1 rfl ?_;refine rE 22 ?_;refine aU rfl (λ h3=>?_) (λ h3=>?_)
   ·have h3p:=kX h3;refine cSR<|oR 1 rfl<|rE 23<|cT ?_;exact fT rfl (cY (by unfold MY;rw[hx];dsimp only;rw[if_neg (by simpa using h2),if_pos h3p]))
   ·have h3p:=kY h3;refine cSR<|rV (vB (mode==1)) rfl<|oR 1 rfl<|rE 24 ?_;refine aU rfl (λ h4=>?_) (λ h4=>?_)
    ·have h4p:=kX h4;refine aE<|cSR<|oR 2 rfl<|rIx (enL x) (.dp 17 0 (enL x)) rfl rfl (gJ hx) rfl<|oR 1 rfl<|rCi rfl (VB x hxo)<|rW (vN ((pO x).length)) rfl (bQ fD (pO x))<|oR 1 rfl<|rE 31<|bI<|kZ (κ:=Nat) (λ k=>⟨cI [(4,.ptr 0 0),(5,.ptr 1 0),(17,vB (cA (decide (i<0)) true (decide (i≥rob.length)))),(23,vB (!(Cu x))),(7,.clo 203 [] [.ptr 0 0,.ptr 1 0]),(25,vI mode),(26,vB (mode==0)),(28,vB (mode==1)),(34,.sl 1 ((pO x).map fD) true),(35,vN ((pO x).length)),(36,vN k)],heapF [(0,.box [.sl 17 (rob.map enL) ck]),(1,.box [vN i])],31⟩) (λ k=>k≤(pO x).length∧((pO x).take k).all (λ reg=> !GL rob i reg)=true) (λ k=>(pO x).length - k) 0 (λ s=>s) (Weak.of_lists (λ s=>s) wT wH rfl) (⟨aF _,rfl⟩) ?_;intro k hk;have hkn:k≤(pO x).length:=hk.1;have hkB:k≤1000000:=by have:=Rg x;omega
     refine cSR<|rW (vB (decide (k<((pO x).length)))) rfl (okB (ltN _ _))<|rE 32<|aE ?_;refine aU rfl (λ h5=>?_) (λ h5=>?_)
     ·have h5p:=of_decide_eq_true h5;refine aZ<|aE<|bI<|cSR ?_;obtain⟨rg,hrg⟩:∃ y_,(pO x)[k]?=some y_:=⟨_,aA omT⟩;refine rIx (fD rg) (.dp 1 0 (fD rg)) rfl rfl (gJ hrg) rfl<|oR 2 rfl<|rE 35<|cSR<|oR 2 rfl<|rCl rfl (.inr ⟨rfl,trivial,trivial,trivial,trivial⟩) (TH rob ck i rg hl ho hi)<|oR 1 rfl<|rE 39 ?_;refine aU rfl (λ h6=>?_) (λ h6=>?_)
      ·refine cSR<|oR 1 rfl<|rE 40<|cT ?_;have z:=h6;exact fT rfl (cY (by unfold MY;rw[hx];dsimp only;rw[if_neg (by simpa using h2),if_neg h3p,if_pos h4p,GC (p:=λ reg=> !GL rob i reg) hrg (by simpa using z)]))
      ·refine aZ<|cRg ?_;have b1:k+1≤1000001:=aH hkB (aC 1);refine rW (vN (k+1)) rfl (okI (bS b1 rfl))<|oR 1 rfl<|rE 41 ?_;refine⟨k+1,λ s=>s,Weak.of_lists _ wT wH rfl,⟨by omega,CS (p:=λ reg=> !GL rob i reg) hrg (by simpa using h6) hk.2⟩,by show (pO x).length - (k+1)<(pO x).length - k;omega⟩
     ·have h5p:=aD h5;refine eA<|cSR<|oR 1 rfl<|rE 33<|cT ?_;have hall:=CT (p:=λ reg=> !GL rob i reg) omT hk.2;exact fT rfl (cY (by unfold MY;rw[hx];dsimp only;rw[if_neg (by simpa using h2),if_neg h3p,if_pos h4p,hall]))
    ·have h4p:=kY h4;refine cSR<|rV (vB (mode==2)) rfl<|oR 1 rfl<|rE 26 ?_;refine aU rfl (λ h7=>?_) (λ h7=>?_)
     ·have h7p:=kX h7;refine cSR<|oR 2 rfl<|rCi rfl (Lc rob ck i hl ho hi)<|oR 1 rfl<|rE 30<|cT ?_;exact fT rfl (cY (by unfold MY;rw[hx];dsimp only;rw[if_neg (by simpa using h2),if_neg h3p,if_neg h4p,if_pos h7p]))
     ·have h7p:=kY h7;refine aZ<|cSR<|oR 1 rfl<|rE 27<|cT ?_;exact fT rfl (cY (by unfold MY;rw[hx];dsimp only;rw[if_neg (by simpa using h2),if_neg h3p,if_neg h4p,if_neg h7p]))
abbrev PG(n:Nat):List AV:=[.v (.int .i64 (n:Int))]
theorem LI{α:Type}(f:α→Value):∀ (l:List α),(l.flatMap λ a=>[f a])=l.map f
 |[]=>rfl
 |a::l=>by rw[eZ,LI f l];rfl
theorem IZ{α:Type}{f:α→Value}{l:List α}{S:Nat→Prop}{w:World}{v:Value}{clip:Bool}(e:TypeId)(hS:∀ b,S b→b<w.heap.size)(h:Rep S w noB (.sl 1 (l.map λ a=>[AV.v (f a)]) clip) v):Sl w.heap.size e 1 w v l.length (l.flatMap λ a=>[f a]):=by
 cases h with
 |sl _ _ _ A c b o u hc hm hcl hrs hA hw h1 hr=>
  rw[aO]at hc;refine⟨A,c,by rw[aO],hc,hm,by rw[LI,aO,jF],λ hn=>?_⟩;obtain⟨hA1,hA2⟩:=hA (by rw[aO];exact hn);refine⟨b,o,hA1,.inl (hS b hA2),λ j x hx=>?_⟩;rw[LI,bH]at hx;obtain⟨y,hy,rfl⟩:=EL.1 hx;have hrow:(l.map λ a=>[AV.v (f a)])[j]?=some [AV.v (f y)]:=by rw[bH,hy];rfl
  have h2:=hw j _ 0 _ hrow rfl;have h3:=hr j _ 0 _ hrow rfl;rw[show o+j * 1+0=o+j by omega]at h2;rw[h2];generalize u j 0=z at h3;cases h3;rfl
theorem MM{α:Type}{f:α→Value}(h1:∀ a,(f a).oneCell'=true){l:List α}{w:World}{v:Value}{base:Nat}{e:TypeId}(h:w.ownsRow base e 1 v l.length (l.flatMap λ a=>[f a]))(S:Nat→Prop)(hb:∀ b,base≤b→b<w.heap.size→S b):Rep S w noB (.sl 1 (l.map λ a=>[AV.v (f a)]) false) v:=by
 obtain⟨hl,⟨rfl,h0⟩|⟨g,cap,cur,rfl,hg,hh,hn,hm,hsz,hx⟩⟩:=h
 ·have:l=[]:=bF h0;subst this;exact .sl 1 [] false none 0 0 0 (λ _ _=>.bool false) (aC _) (aF _) (λ h=>by cases h) (λ _ h=>by cases h) (λ h=>absurd h (gX 0)) (λ i row j a h=>by simp at h) (λ _ _=>rfl) λ i row j a h=>by simp at h
 ·rw[LI,jF]at hx;have hget:∀ (i:Nat) row (j:Nat) a,(l.map λ a=>[AV.v (f a)])[i]?=some row→row[j]?=some a→∃ x,l[i]?=some x∧j=0∧a=.v (f x)∧cur[i]?=some (f x):=by
   intro i row j a hi hj;rw[bH]at hi;obtain⟨x,hxl,rfl⟩:=EL.1 hi
   cases j with
   |zero=>
    injection hj with hj;refine⟨x,hxl,rfl,hj.symm,?_⟩;have:(l.map f)[i]?=some (f x):=by rw[bH,hxl];rfl
    rw[←hx,cS]at this;split at this
    ·rw[←bJ];exact this
    ·cases this
   |succ j=>simp at hj
  have hlen:(l.map λ a=>[AV.v (f a)]).length=l.length:=aO ..;rw[←hlen];refine .sl 1 _ false (some ⟨g,0,none⟩) cap g 0 (λ i j=>if i<l.length then cur.getD i undef else .bool false) (by rw[hlen];exact hn) hm (λ h=>by cases h) (λ row hr=>?_) (λ _=>⟨rfl,hb g hg (fI hh)⟩) (λ i row j a hi hj=>?_) (λ i j=>?_) λ i row j a hi hj=>?_
  ·obtain⟨x,_,rfl⟩:=rK.1 hr;rfl
  ·obtain⟨x,h2,rfl,rfl,h3⟩:=hget i row j a hi hj;rw[if_pos (Db.1 h2).1,gM hh];rw[show 0+i * 1+0=i by omega,h3,aJ,h3];rfl
  ·show (if i<l.length then cur.getD i undef else .bool false).oneCell'=true;by_cases hi:i<l.length
   ·rw[if_pos hi];obtain⟨x,h2,_,_,h3⟩:=hget i [AV.v (f l[i])] 0 (.v (f l[i])) (by rw[bH,aA hi];rfl) rfl;rw[aJ,h3];exact h1 x
   ·rw[if_neg hi];rfl
  ·obtain⟨x,h2,rfl,rfl,h3⟩:=hget i row j a hi hj;show Rep S w noB _ (if i<l.length then cur.getD i undef else .bool false);rw[if_pos (Db.1 h2).1,aJ,h3];exact .v _
theorem Wg(width:Int)(busy:Bool)(kinds:List Int)(can:List Bool)(c1 c2:Bool)(h1:kinds.length≤1000)(h2:can.length≤1000):bY C0 110 [vI width,vB busy,.sl 1 (kinds.map fD) c1,.sl 1 (can.map yM) c2] (.sl 1 ((pickOf width busy kinds can).map PG) false):=by
 refine⟨⟨_,Tryz.func110,rfl,rfl⟩,λ S w vs hS hG hr=>?_⟩
 match vs,hr with
 |[v0,v1,v2,v3],hr=>
  have e0:=hr.2 0 _ v0 rfl rfl;have e1:=hr.2 1 _ v1 rfl rfl;have e2:=hr.2 2 _ v2 rfl rfl;have e3:=hr.2 3 _ v3 rfl rfl;cases e0;cases e1
  refine (RG width busy kinds can w.heap.size kinds.length can.length v2 v3 w (IZ (f:=λ a:Int=>.int .i64 a) _ hS e2) (IZ (f:=λ a:Bool=>.bool a) _ hS e3) rfl rfl omT omT).mono ?_;rintro e w' ⟨v,he,ho,hB⟩
  exact⟨v,he,hB,MM (f:=λ n:Nat=>.int .i64 (n:Int)) (λ _=>rfl) ho _ λ b p q=>.inr ⟨p,q⟩⟩
 |[],hr=>exact absurd hr.1 (by simp)
 |[_],hr=>exact absurd hr.1 (by simp)
 |[_,_],hr=>exact absurd hr.1 (by simp)
 |[_,_,_],hr=>exact absurd hr.1 (by simp)
 |_::_::_::_::_::_,hr=>exact absurd hr.1 (by simp)
def Ks(q:List Req)(line:Nat)(kinds:List Int):Bool:=q.any λ x=>kinds.any λ k=>decide (x.line=line)&&decide (x.kind=k)
theorem LJ(q:List Req):kE q≤q.length:=List.length_filter_le _ _
theorem Ag{q:List Req}{k:Nat}{x:Req}(h:q[k]?=some x):kE (q.take (k+1))=kE (q.take k)+(if x.kind=4 then 0 else 1):=by
 unfold kE;rw[bX,h];by_cases e:x.kind=4<;>simp[jR,e]
theorem Ur(q:List Req)(ck:Bool)(hq:q.length≤1000000)(ho:∀ x∈q,x.line≤4294967295):bY C0 170 [.sl 4 (q.map rqL) ck] (vN (kE q)):=by
 refine bY.intro c0Ok Tryz.func170 rfl rfl (by kernel_rfl) rfl<|cSR<|oR 1 rfl<|rE 1<|cSR<|oR 1 rfl<|rE 2<|aE<|cSR<|oR 1 rfl<|rW (vN q.length) rfl (bQ rqL q)<|oR 1 rfl<|rE 5 ?_;refine bI<|kZ (κ:=Nat) (λ k=>⟨cI [(6,.sl 4 (q.map rqL) ck),(7,vN q.length),(3,vN (kE (q.take k))),(8,vN k)],heapF [],5⟩) (λ k=>k≤q.length) (λ k=>q.length - k) 0 (λ s=>s) (Weak.of_lists (λ s=>s) wT trivial rfl) (aF _) ?_;intro k hk;have hkB:k≤1000000:=by omega
 have hrB:kE (q.take k)≤1000000:=by have:=LJ (q.take k);rw[aQ]at this;omega
 refine cSR<|rW (vB (decide (k<q.length))) rfl (okB (ltN _ _))<|rE 6<|aE ?_;refine aU rfl (λ h1=>?_) (λ h1=>?_)
 ·refine aZ<|aE<|bI<|cSR ?_;obtain⟨x,hx⟩:∃ x,q[k]?=some x:=⟨_,aA (of_decide_eq_true h1)⟩;have hxo:=ho x (aB hx);refine rIx (rqL x) (.dp 4 0 (rqL x)) rfl rfl (gJ hx) rfl<|oR 1 rfl<|rAl 8 rfl rfl<|rSt rfl<|rE 10<|cSR<|oR 2 rfl<|rV (vB (x.kind != 4)) rfl<|rE 13 ?_;refine aU rfl (λ h2=>?_) (λ h2=>?_)
  ·refine cRg<|oR 1 rfl ?_;have b1:(kE (q.take k))+1≤1000001:=aH hrB (aC 1);refine rW (vN ((kE (q.take k))+1)) rfl (okI (bS b1 rfl))<|oR 1 rfl<|rE 16<|cRg ?_;have b2:k+1≤1000001:=aH hkB (aC 1);refine rW (vN (k+1)) rfl (okI (bS b2 rfl))<|oR 1 rfl<|rE 18 ?_;refine⟨k+1,λ s=>s,Weak.of_lists _ ⟨⟨rfl,rfl⟩,⟨rfl,rfl⟩,⟨(congrArg (λ z:Nat=>AV.v (.int .i64 (z:Int))) (by rw[Ag hx];have q:=h2;simp at q;simp[q])),rfl⟩,⟨rfl,rfl⟩,trivial⟩ trivial rfl,of_decide_eq_true h1,by have:=of_decide_eq_true h1;show q.length - (k+1)<q.length - k;omega⟩
  ·refine aZ<|cRg ?_;have b3:k+1≤1000001:=aH hkB (aC 1);refine rW (vN (k+1)) rfl (okI (bS b3 rfl))<|oR 1 rfl<|rE 15 ?_;refine⟨k+1,λ s=>s,Weak.of_lists _ ⟨⟨rfl,rfl⟩,⟨rfl,rfl⟩,⟨(congrArg (λ z:Nat=>AV.v (.int .i64 (z:Int))) (by rw[Ag hx];have q:=h2;simp at q;simp[q])),rfl⟩,⟨rfl,rfl⟩,trivial⟩ trivial rfl,of_decide_eq_true h1,by have:=of_decide_eq_true h1;show q.length - (k+1)<q.length - k;omega⟩
 ·refine eA<|cSR<|oR 2 rfl<|rE 8<|cT ?_;have hke:=aD h1;exact fT rfl (Wz (by rw[aN (show q.length≤k by omega)]))
theorem He{α:Type}{f:α→Bool}{l:List α}{k:Nat}{x:α}(h:l[k]?=some x)(hf:f x=false)(hk:(l.take k).any f=false):(l.take (k+1)).any f=false:=by
 rw[bX,h];simp[List.any_append,hf]at hk⊢;exact hk
theorem Hf{α:Type}{f:α→Bool}{l:List α}{k:Nat}{x:α}(h:l[k]?=some x)(hf:f x=true):l.any f=true:=KB.2 ⟨x,aB h,hf⟩
theorem Kt{α:Type}{f:α→Bool}{l:List α}{k:Nat}(h:l.length≤k)(hk:(l.take k).any f=false):l.any f=false:=by rwa [aN h]at hk
theorem PH(q:List Req)(line:Nat)(kinds:List Int)(ck ck2:Bool)(hq:q.length≤1000000)(ho:∀ x∈q,x.line≤4294967295)(hline:line≤4294967295)(hks:kinds.length≤1000000):bY C0 115 [.sl 4 (q.map rqL) ck,vU line,.sl 1 (kinds.map fD) ck2] (.v (.bool (Ks q line kinds))):=by
 refine bY.intro c0Ok Tryz.func115 rfl rfl (by kernel_rfl) rfl<|cSR<|oR 1 rfl<|rE 1<|aE<|cSR<|oR 1 rfl<|rW (vN q.length) rfl (bQ rqL q)<|oR 1 rfl<|rE 4<|bI<|kZ (κ:=Nat) (λ k=>⟨cI [(1,vU line),(2,.sl 1 (kinds.map fD) ck2),(11,.sl 4 (q.map rqL) ck),(12,vN q.length),(13,vN k)],heapF [],4⟩) (λ k=>k≤q.length∧(q.take k).any (λ x:Req=>kinds.any λ k=>decide (x.line=line)&&decide (x.kind=k))=false) (λ k=>q.length - k) 0 (λ s=>s) (Weak.of_lists (λ s=>s) wT trivial rfl) (⟨aF _,rfl⟩) ?_;intro k hk;have hkB:k≤1000000:=by have:=hk.1;omega
 refine cSR<|rW (vB (decide (k<q.length))) rfl (okB (ltN _ _))<|rE 5<|aE ?_;refine aU rfl (λ h1=>?_) (λ h1=>?_)
 ·refine aZ<|aE<|bI<|cSR ?_;obtain⟨x,hx⟩:∃ x,q[k]?=some x:=⟨_,aA (of_decide_eq_true h1)⟩;have hxo:=ho x (aB hx);refine rIx (rqL x) (.dp 4 0 (rqL x)) rfl rfl (gJ hx) rfl<|oR 1 rfl<|rAl 7 rfl rfl<|rSt rfl<|rE 9<|cSR<|oR 1 rfl<|rW (vN kinds.length) rfl (bQ fD kinds)<|oR 1 rfl<|rE 12<|bI<|kZ (κ:=Nat) (λ j=>⟨cI [(1,vU line),(2,.sl 1 (kinds.map fD) ck2),(8,.ptr 7 0),(11,.sl 4 (q.map rqL) ck),(12,vN q.length),(13,vN k),(17,.sl 1 (kinds.map fD) ck2),(18,vN kinds.length),(19,vN j)],heapF [(7,.box [vI x.kind,vU x.line,vI x.left,.v (.string x.data)])],12⟩) (λ j=>j≤kinds.length∧(kinds.take j).any (λ k:Int=>decide (x.line=line)&&decide (x.kind=k))=false) (λ j=>kinds.length - j) 0 (λ s=>s) (Weak.of_lists (λ s=>s) wT wH rfl) (⟨aF _,rfl⟩) ?_;intro j hj;have hjB:j≤1000000:=by have:=hj.1;omega
  refine cSR<|rW (vB (decide (j<kinds.length))) rfl (okB (ltN _ _))<|rE 13<|aE ?_;refine aU rfl (λ h2=>?_) (λ h2=>?_)
  ·refine aZ<|aE<|bI<|cSR ?_;obtain⟨kd,hkd⟩:∃ kd,kinds[j]?=some kd:=⟨_,aA (of_decide_eq_true h2)⟩;refine rIx (fD kd) (.dp 1 0 (fD kd)) rfl rfl (gJ hkd) rfl<|oR 2 rfl<|rE 16<|cSR<|oR 3 rfl<|rW (vB (x.line==line)) rfl (okB (eqN _ _))<|oR 1 rfl<|gN rfl<|gS rfl id<|gN rfl<|gBS (x:=vB (x.kind==kd)) rfl hsT rfl<|cH rfl rfl rfl (λ h=>h)<|rE 26 ?_;refine aU rfl (λ h3=>?_) (λ h3=>?_)
   ·refine cSR<|oR 1 rfl<|rE 27<|cT ?_;exact fT rfl (congrArg (λ z=>AV.v (.bool z)) (Hf hx (Hf hkd (by have z:=h3;simpa [c2]using z))).symm)
   ·refine aZ<|cRg ?_;have b1:j+1≤1000001:=aH hjB (aC 1);refine rW (vN (j+1)) rfl (okI (bS b1 rfl))<|oR 1 rfl<|rE 28 ?_;refine⟨j+1,λ s=>s,Weak.of_lists _ wT wH rfl,⟨of_decide_eq_true h2,He hkd (by have z:=h3;simpa [c2]using z) hj.2⟩,by have:=of_decide_eq_true h2;show kinds.length - (j+1)<kinds.length - j;omega⟩
  ·refine eA<|cRg ?_;have b2:k+1≤1000001:=aH hkB (aC 1);refine rW (vN (k+1)) rfl (okI (bS b2 rfl))<|oR 1 rfl<|rE 15 ?_;refine⟨k+1,λ s=>s,Weak.of_lists _ wT trivial rfl,⟨of_decide_eq_true h1,He hx (Kt (by have:=aD h2;omega) hj.2) hk.2⟩,by have:=of_decide_eq_true h1;show q.length - (k+1)<q.length - k;omega⟩
 ·refine eA<|cSR<|oR 1 rfl<|rE 6<|cT ?_;exact fT rfl (congrArg (λ z=>AV.v (.bool z)) (Kt (by have:=aD h1;omega) hk.2).symm)
structure Co.okM(c:Co)(n:Nat):Prop where
 ok:c.ok n
 nb:n≤890000
 cf:uQ c.conf=true
 data:fY c.data=true
 words:fY c.words=true
 guess:rH c.guess=true
 rob:c.rob.length≤1000
 fet:c.fetched.length≤1000
 sto:c.stores.length≤1000
 prog:c.prog.length≤1000
 mem:c.mem.size≤256
 std:∀ x∈c.stores,x.data.size≤4
theorem Co.okM.bus{c:Co}{n:Nat}(h:c.okM n):c.bus.length≤890000:=aL h.ok.bus h.nb
theorem Co.okM.ret{c:Co}{n:Nat}(h:c.okM n):c.retired.length≤890000:=aL h.ok.ret h.nb
theorem oQ{c:Cf}(h:uQ c=true):c.lat.length≤64∧c.tape.length≤64∧1≤c.width∧c.width≤2∧c.rob≤8∧2≤c.rob∧c.queue≤4∧1≤c.queue∧c.stores≤4∧1≤c.stores∧c.slots≤6∧2≤c.slots∧0≤c.mode∧c.mode≤2:=by
 unfold uQ inI at h;simp only[aK,bC]at h;omega
theorem Co.okM.conf{c:Co}{n:Nat}(h:c.okM n):c.conf.ok:=⟨by have:=(oQ h.cf).1;omega,by have:=(oQ h.cf).2.1;omega,h.ok.conf.tp⟩
theorem Co.okM.d4{c:Co}{n:Nat}(h:c.okM n):c.data.sets.length≤4:=(jX h.data).2.1
theorem Co.okM.d2{c:Co}{n:Nat}(h:c.okM n):∀ s∈c.data.sets,s.length≤2:=λ s hs=>by have:=jX h.data;have:=this.2.2.2.2 s hs;omega
theorem KZ(stores:List Pt)(c:Ca)(q:List Req)(m:ByteArray):(VP stores c q m).size=m.size:=by unfold VP Bs jO;rw[iA,iA,iA]
theorem Rb(c:Co)(n:Nat)(hm:c.okM n)(R F S T:AV)(first:Bool):bY C0 116 [.dp 64 0 (mcX c R F S T),vB first] (vB (pW c first)):=by
 refine bY.intro c0Ok Tryz.func116 rfl rfl (by kernel_rfl) rfl<|cSR<|oR 1 rfl<|rE 1<|cSR<|oR 5 rfl<|rCi rfl (Ur c.bus false (by have:=hm.bus;omega) (λ x hx=>(hm.ok.buso x hx).line))<|oR 1 rfl<|rE 8<|aE<|cSR<|oR 1 rfl<|rE 9 ?_;refine aU rfl (λ h1=>?_) (λ h1=>?_)
 ·refine cSR<|oR 7 rfl<|rV (vB (decide (((kE c.bus:Nat):Int)<c.conf.slots))) rfl<|oR 1 rfl<|rE 18<|cT ?_;exact fT rfl (cY (by unfold pW;rw[if_pos h1]))
 ·refine aZ<|cSR<|oR 7 rfl<|rW (vI (c.conf.slots - 1)) rfl (okI (wrap_i64 (by have:=oQ hm.cf;omega) (by have:=oQ hm.cf;omega)))<|rV (vB (decide (((kE c.bus:Nat):Int)<(c.conf.slots - 1)))) rfl<|oR 1 rfl<|rE 19<|cT ?_;exact fT rfl (cY (by unfold pW;rw[if_neg (by rw[h1];decide)]))
theorem Ou{m addr n:Nat}(h:oU (m:Int) addr (n:Int)=true):addr+n≤m:=by
 unfold oU at h;simp only[aK,bC]at h;omega
theorem Vt(m:ByteArray)(addr n:Nat)(hm:m.size≤1000)(ha:addr≤4294967295)(hn:n≤4):bY C0 150 [.v (.string m),vU addr,vN n] (.tup [.v (.string (if oU (m.size:Int) addr (n:Int)=true then Ub m addr n else mH)),vI (if oU (m.size:Int) addr (n:Int)=true then 0 else 1)]):=by
 refine bY.intro c0Ok Tryz.func150 rfl rfl (by kernel_rfl) rfl<|cSR<|oR 2 rfl<|rE 2<|aE<|cSR<|oR 1 rfl<|rV (vN m.size) rfl<|oR 2 rfl<|rCi rfl (OY (m.size:Int) addr (n:Int) omT (BA ha))<|oR 1 rfl<|rE 8 ?_;refine aU rfl (λ h1=>?_) (λ h1=>?_)
 ·refine cSR<|oR 2 rfl<|rE 10<|cT ?_;have hR: ¬ oU (m.size:Int) addr (n:Int)=true:=by simpa using h1
  exact fT rfl (by rw[if_neg hR,if_neg hR];rfl)
 ·have hle:=Ou (show oU (m.size:Int) addr (n:Int)=true by simpa using h1);refine aZ<|cSR<|oR 1 rfl<|rW (vN addr) rfl (okI (bS ha rfl))<|oR 1 rfl<|rE 11<|cSR<|oR 4 rfl ?_;have b1:addr+n≤4294967299:=aH ha hn;refine rW (vN (addr+n)) rfl (okI (bS b1 rfl)) ?_;refine nW (.v (.string (m.extract addr (addr+n)))) rfl rfl (by refine⟨?_,?_,?_⟩<;>(first|exact aI _|decide|(apply Eo.2;exact omT))) ?_;refine oR 2 rfl<|rE 19<|cT ?_;have hR:oU (m.size:Int) addr (n:Int)=true:=by simpa using h1
  exact fT rfl (by rw[if_pos hR,if_pos hR];rfl)
theorem La(c:Co)(n:Nat)(hm:c.okM n)(R F T:AV)(ck:Bool)(e:Ent)(he:e.ok):bY C0 94 [.dp 64 0 (mcX c R F (.sl 2 (c.stores.map ptL) ck) T),.agg (enL e)] (.v (.string (nV c e))):=by
 refine bY.intro c0Ok Tryz.func94 rfl rfl (by kernel_rfl) rfl<|cSR<|rAl 0 rfl rfl<|oR 1 rfl<|rE 2<|cSR<|oR 20 rfl<|rCi rfl (Xb c.stores c.data c.bus c.mem false ck hm.ok.data hm.d4 hm.d2 (by have:=hm.mem;omega) (by have:=hm.bus;omega) hm.ok.buso (by have:=hm.sto;omega) hm.ok.stoo)<|oR 4 rfl<|rCi rfl (GQ e.i)<|rCi rfl (Vt (VP c.stores c.data c.bus c.mem) e.addr (dS e.i.op) (by rw[KZ];have:=hm.mem;omega) he.addr (sX e.i.op))<|oR 5 rfl<|rE 34<|aE ?_;refine cRg<|oR 2 rfl<|rE 36<|cT ?_;exact fT rfl rfl
theorem TD(c:Co)(n:Nat)(hm:c.okM n)(F S T:AV)(ck:Bool)(line:Nat)(hline:line≤4294967295):bY C0 208 [.dp 64 0 (mcX c (.sl 17 (c.rob.map enL) ck) F S T),vU line] (vB (IB c line)):=by
 refine dc1 (bY.intro c1Ok Tryz.func208 rfl rfl (by kernel_rfl) rfl ?_);refine cSR<|oR 1 rfl<|rE 1<|aE<|cSR<|oR 6 rfl<|rCi rfl (xM c.data line hm.ok.data hline)<|oR 7 rfl<|rE 15<|cSR<|oR 1 rfl<|rE 16 ?_;refine aU rfl (λ h1=>?_) (λ h1=>?_)
 ·refine cSR<|oR 1 rfl<|rE 17<|cT ?_;exact fT rfl (cY (by unfold IB;rw[h1];rfl))
 ·refine aZ<|aE<|cSR<|oR 5 rfl<|rW (vN c.rob.length) rfl (bQ enL c.rob)<|oR 1 rfl<|rE 23<|bI<|kZ (κ:=Nat) (λ k=>⟨cI [(1,vU line),(21,vB ((bE c.data line).2.isSome)),(26,.sl 17 (c.rob.map enL) ck),(27,vN c.rob.length),(28,vN k)],heapF [],23⟩) (λ k=>k≤c.rob.length∧(c.rob.take k).any (λ e:Ent=>e.filled&&decide (lineOf e.addr=line))=false) (λ k=>c.rob.length - k) 0 (λ s=>s) (Weak.of_lists (λ s=>s) wT trivial rfl) (⟨aF _,rfl⟩) ?_;intro k hk;have hkn:k≤c.rob.length:=hk.1;have hkB:k≤1000:=by have:=hm.rob;omega
  refine cSR<|rW (vB (decide (k<c.rob.length))) rfl (okB (ltN _ _))<|rE 24<|aE ?_;refine aU rfl (λ h2=>?_) (λ h2=>?_)
  ·have h2p:=of_decide_eq_true h2;refine aZ<|aE<|bI<|cSR ?_;obtain⟨x,hx⟩:∃ y_,c.rob[k]?=some y_:=⟨_,aA omT⟩;have hxo:=hm.ok.robo x (aB hx);refine rIx (enL x) (.dp 17 0 (enL x)) rfl rfl (gJ hx) rfl<|oR 1 rfl<|rAl 26 rfl rfl<|rSt rfl<|rE 28<|cSR<|oR 3 rfl<|gN rfl<|gS rfl id<|jI (args:=[vU x.addr]) (x:=vU (lineOf x.addr)) (g:=x.filled) rfl rfl rfl rfl (λ h=>h) rfl rfl rfl (.inl rfl) rfl (λ hg=>qD x.addr hxo.addr)<|gN rfl<|gBS (x:=vB ((lineOf x.addr)==line)) rfl hsT (okB (eqN _ _))<|cH rfl rfl rfl (λ h=>h)<|rE 37 ?_;refine aU rfl (λ h3=>?_) (λ h3=>?_)
   ·refine cSR<|oR 1 rfl<|rE 38<|cT ?_;have z:=h3;exact fT rfl (cY (by unfold IB;rw[Hf (f:=(λ e:Ent=>e.filled&&decide (lineOf e.addr=line))) hx (by simpa [pM]using z)];simp))
   ·refine aZ<|cRg ?_;have b1:k+1≤1001:=aH hkB (aC 1);refine rW (vN (k+1)) rfl (okI (bS b1 rfl))<|oR 1 rfl<|rE 39 ?_;refine⟨k+1,λ s=>s,Weak.of_lists _ wT trivial rfl,⟨by omega,He (f:=(λ e:Ent=>e.filled&&decide (lineOf e.addr=line))) hx (by have z:=h3;simpa [pM]using z) hk.2⟩,by show c.rob.length - (k+1)<c.rob.length - k;omega⟩
  ·have h2p:=aD h2;refine eA<|cSR<|oR 1 rfl<|rE 25<|cT ?_;exact fT rfl (cY (by unfold IB;rw[h1,Kt (f:=(λ e:Ent=>e.filled&&decide (lineOf e.addr=line))) omT hk.2];rfl))
theorem Vu(c:Co)(n:Nat)(hm:c.okM n)(F S T:AV)(ck:Bool)(i:Nat)(hi:i<c.rob.length):bY C0 109 [.dp 64 0 (mcX c (.sl 17 (c.rob.map enL) ck) F S T),vN i] (vB (CD c i)):=by
 refine dc1 (bY.intro c1Ok Tryz.func109 rfl rfl (by kernel_rfl) rfl ?_);refine cSR<|oR 1 rfl<|rE 1<|cSR<|oR 6 rfl ?_;obtain⟨x,hx⟩:∃ y_,c.rob[i]?=some y_:=⟨_,aA omT⟩;have hxo:=hm.ok.robo x (aB hx);refine rIx (enL x) (.dp 17 0 (enL x)) rfl rfl (gJ hx) rfl<|oR 1 rfl<|rAl 9 rfl rfl<|rSt rfl<|rE 11<|aE<|cSR<|oR 2 rfl<|rV (vB (x.is != 0)) rfl<|rE 14 ?_;refine aU rfl (λ h1=>?_) (λ h1=>?_)
 ·have h1p:=vA h1;refine cSR<|oR 1 rfl<|rE 15<|cT ?_;exact fT rfl (cY (by unfold CD;rw[hx];dsimp only;rw[if_pos h1p]))
 ·have h1p:=vC h1;refine aZ<|cSR<|oR 12 rfl<|rCi rfl (XD c.conf.mode c.rob ck i hm.rob hm.ok.robo (by have:=hm.rob;omega))<|oR 1 rfl<|rE 28<|cSR<|oR 2 rfl<|rCi rfl (Fw x.i)<|oR 5 rfl<|rE 36<|cSR<|oR 12 rfl ?_;refine rCi rfl (Ir c.rob c.r ck i (x.i.rs1) hm.rob hm.ok.robo hm.ok.r (by have:=hm.rob;omega))<|oR 5 rfl<|rE 54<|aE<|cSR<|oR 2 rfl<|rCi rfl (qG x.i)<|rE 57<|bI<|cSR<|rW (vB ((kindOf x.i.op)==3)) rfl (okB (eqN _ _))<|oR 1 rfl<|rE 59 ?_;refine aU rfl (λ h2=>?_) (λ h2=>?_)
  ·have h2p:=kX h2;refine cSR<|oR 3 rfl<|gN rfl<|gS rfl id<|gN rfl<|vK (x:=vB (cA ((kN c.rob c.r i x.i.rs1).isSome) (MY c.conf.mode c.rob i) false)) (g:= !x.known) rfl rfl rfl rfl (λ h=>h) rfl rfl (λ hg hc=>by first|(rw[hg,hc];rfl)|simp_all)<|cH rfl rfl rfl (by simp)<|oR 1 rfl<|rE 68<|cT ?_;exact fT rfl (cY (by unfold CD;rw[hx];dsimp only;rw[if_neg omT,if_pos h2p];simp only[pM,cOr,pE]))
  ·have h2p:=kY h2;refine cSR<|rW (vB ((kindOf x.i.op)==4)) rfl (okB (eqN _ _))<|oR 1 rfl<|rE 61 ?_;refine aU rfl (λ h3=>?_) (λ h3=>?_)
   ·have h3p:=kX h3;refine cSR<|oR 4 rfl<|gN rfl<|cH rfl rfl rfl (λ h=>h)<|oR 1 rfl<|gN rfl<|cH rfl rfl rfl (λ h=>h)<|oR 1 rfl<|rE 71<|cT ?_;exact fT rfl (cY (by unfold CD;rw[hx];dsimp only;rw[if_neg omT,if_neg h2p,if_pos h3p];simp only[pM,cOr,pE]))
   ·have h3p:=kY h3;refine aZ<|cSR<|oR 11 rfl<|rCi rfl (SC c.rob c.r ck i hm.rob hm.ok.robo hm.ok.r (by have:=hm.rob;omega))<|oR 7 rfl<|rE 80<|cSR<|oR 2 rfl<|gN rfl<|cH rfl rfl rfl (λ h=>h)<|oR 1 rfl<|rE 85<|cT ?_;exact fT rfl (cY (by unfold CD;rw[hx];dsimp only;rw[if_neg omT,if_neg h2p,if_neg h3p];simp only[pM,cOr,pE]))
theorem pJ.frameB{P:Program}{G:Nat→Option (List AV)}{f:FuncId}{args:List AV}{b0 b1:Blk}{L:List (Nat×Blk)}{s:Nat}{r:AV}(H:pJ P G f args (heapF ((0,b0)::L)) s (λ x h'=>x=r∧h'=heapF ((0,b1)::L)))(ρ:Nat→Nat)(K:AH)(s2:Nat)(hfull:CF (heapF ((0,b0)::L)) s=true)(hL:FrL ρ K s s2 ((0,b0)::L))(hi:RI ρ s=true)(ha:pK s args=true)(hr:eM r=true)(hb:tC s b1=true):
  pJ P G f (Bz ρ args) K s2 (λ x h'=>x=r∧h'=upd K (ρ 0) (some (Ew ρ b1))):=by
 have hs:0<s:=aR hL.1.2.1;refine H.frameL ρ K s2 hfull hL hi ha _ λ r' h' hP=>?_;obtain⟨rfl,rfl⟩:=hP;refine⟨_,⟨xO _ _ hr,rfl⟩,λ y blk hy=>?_⟩;by_cases he:y=ρ 0
 ·subst he;rw[dA]at hy;injection hy with hy;exact .inl ⟨0,b1,rfl,(qP ρ omT).symm,by rw[←hy,wV ρ s s2 b1 hb]⟩
 ·rw[cE _ _ he]at hy;by_cases hx:∃ x,x<s∧ρ x=y
  ·obtain⟨x,hxs,rfl⟩:=hx;have hx0:x≠0:=λ e=>he (by rw[e]);obtain⟨blk0,hb0⟩:=CJ.1 (tL hfull x hxs);have hk:=hL.get x blk0 hb0;rw[hk.2.2.2]at hy;injection hy with hy;refine .inl ⟨x,blk0,?_,(qP ρ omT).symm,?_⟩
   ·have:Nat.beq 0 x=false:=by rw[←eI];exact λ e=>hx0 (aM e).symm
    simp only[heapF,this]at hb0⊢;exact hb0
   ·rw[←hy];exact (wV ρ s s2 blk0 hk.2.2.1).symm
  ·exact .inr ⟨hy,λ x hxs e=>hx ⟨x,hxs,e⟩⟩
theorem xK{c:Co}{line:Nat}(h:(gK c.data c.bus c.mem line (jM c.conf c.asked)).2.2=true):cJ c line={c with data:=(gK c.data c.bus c.mem line (jM c.conf c.asked)).1,bus:=(gK c.data c.bus c.mem line (jM c.conf c.asked)).2.1,asked:=wrap64 (c.asked+1)}:=by unfold cJ;generalize gK c.data c.bus c.mem line (jM c.conf c.asked)=t at h⊢;obtain⟨d,q,a⟩:=t;dsimp only at h;subst h;rfl
theorem zY{c:Co}{line:Nat}(h:(gK c.data c.bus c.mem line (jM c.conf c.asked)).2.2=false):cJ c line={c with data:=(gK c.data c.bus c.mem line (jM c.conf c.asked)).1,bus:=(gK c.data c.bus c.mem line (jM c.conf c.asked)).2.1}:=by unfold cJ;generalize gK c.data c.bus c.mem line (jM c.conf c.asked)=t at h⊢;obtain⟨d,q,a⟩:=t;dsimp only at h;subst h;rfl
theorem Vv(c:Co)(n:Nat)(hm:c.okM n)(kind:Int)(line:Nat)(data:ByteArray)(hline:line≤4294967295)(kR:Bool)(xR:List (List AV))(kF:Bool)(xF:List (List AV))(kS:Bool)(xS:List (List AV))(kT:Bool)(xT:List (List AV)):pJ C0.P C0.G 117 [.ptr 0 0,vI kind,vU line,.v (.string data)] (heapF [(0,.box (mcX c (.sl 17 xR kR) (.sl 2 xF kF) (.sl 2 xS kS) (.sl 9 xT kT)))]) 1 (λ x h'=>x=.tup []∧h'=heapF [(0,.box (mcX (iF c kind line data) (.sl 17 xR kR) (.sl 2 xF kF) (.sl 2 xS kS) (.sl 9 xT kT)))]):=by
 refine HCall.intro (C:=C1) (s:=1) c1Ok.at Tryz.func117 rfl rfl (by kernel_rfl) rfl rfl<|cSR<|oR 18 rfl<|rCi rfl (DM c.conf c.asked hm.conf hm.ok.asked)<|oR 1 rfl<|rCi rfl (Lk c.bus kind line (jM c.conf c.asked) data false (by have:=hm.bus;omega) hm.ok.buso hline)<|oR 3 rfl<|rSx 0 (mcX ({c with bus:=wB c.bus kind line (jM c.conf c.asked) data}:Co) (.sl 17 xR kR) (.sl 2 xF kF) (.sl 2 xS kS) (.sl 9 xT kT)) rfl rfl rfl<|rE 26<|cRg<|oR 5 rfl<|rW (vI (wrap64 (c.asked+1))) rfl (okI (w64 _))<|oR 3 rfl<|rSx 0 (mcX ({c with bus:=wB c.bus kind line (jM c.conf c.asked) data,asked:=wrap64 (c.asked+1)}:Co) (.sl 17 xR kR) (.sl 2 xF kF) (.sl 2 xS kS) (.sl 9 xT kT)) rfl rfl rfl<|rE 36 ?_;exact oX (rs:=[]) rfl (σ:=λ z=>z) ⟨rfl,rfl⟩ rfl (cF (λ z=>z) rfl rfl wH rfl)
theorem WV(c:Co)(n:Nat)(hm:c.okM n)(kind:Int)(line:Nat)(data:ByteArray)(hline:line≤4294967295)(lR nR:Nat)(kR:Bool)(rR:List (List AV))(kF:Bool)(xF:List (List AV))(kS:Bool)(xS:List (List AV))(kT:Bool)(xT:List (List AV)):pJ C0.P C0.G 117 [.ptr 0 0,vI kind,vU line,.v (.string data)] (heapF [(0,.box (mcX c (.osl 1 lR nR kR) (.sl 2 xF kF) (.sl 2 xS kS) (.sl 9 xT kT))),(1,.arr rR 17)]) 2 (λ x h'=>x=.tup []∧h'=heapF [(0,.box (mcX (iF c kind line data) (.osl 1 lR nR kR) (.sl 2 xF kF) (.sl 2 xS kS) (.sl 9 xT kT))),(1,.arr rR 17)]):=by
 refine HCall.intro (C:=C1) (s:=2) c1Ok.at Tryz.func117 rfl rfl (by kernel_rfl) rfl rfl<|cSR<|oR 18 rfl<|rCi rfl (DM c.conf c.asked hm.conf hm.ok.asked)<|oR 1 rfl<|rCi rfl (Lk c.bus kind line (jM c.conf c.asked) data false (by have:=hm.bus;omega) hm.ok.buso hline)<|oR 3 rfl<|rSx 0 (mcX ({c with bus:=wB c.bus kind line (jM c.conf c.asked) data}:Co) (.osl 1 lR nR kR) (.sl 2 xF kF) (.sl 2 xS kS) (.sl 9 xT kT)) rfl rfl rfl<|rE 27<|cRg<|oR 5 rfl<|rW (vI (wrap64 (c.asked+1))) rfl (okI (w64 _))<|oR 3 rfl<|rSx 0 (mcX ({c with bus:=wB c.bus kind line (jM c.conf c.asked) data,asked:=wrap64 (c.asked+1)}:Co) (.osl 1 lR nR kR) (.sl 2 xF kF) (.sl 2 xS kS) (.sl 9 xT kT)) rfl rfl rfl<|rE 37 ?_;exact oX (rs:=[]) rfl (σ:=λ z=>z) ⟨rfl,rfl⟩ rfl (cF (λ z=>z) rfl rfl wH rfl)
theorem WW(c:Co)(n:Nat)(hm:c.okM n)(kind:Int)(line:Nat)(data:ByteArray)(hline:line≤4294967295)(kR:Bool)(xR:List (List AV))(lF nF:Nat)(kF:Bool)(rF:List (List AV))(kS:Bool)(xS:List (List AV))(kT:Bool)(xT:List (List AV)):pJ C0.P C0.G 117 [.ptr 0 0,vI kind,vU line,.v (.string data)] (heapF [(0,.box (mcX c (.sl 17 xR kR) (.osl 1 lF nF kF) (.sl 2 xS kS) (.sl 9 xT kT))),(1,.arr rF 2)]) 2 (λ x h'=>x=.tup []∧h'=heapF [(0,.box (mcX (iF c kind line data) (.sl 17 xR kR) (.osl 1 lF nF kF) (.sl 2 xS kS) (.sl 9 xT kT))),(1,.arr rF 2)]):=by
 refine HCall.intro (C:=C1) (s:=2) c1Ok.at Tryz.func117 rfl rfl (by kernel_rfl) rfl rfl<|cSR<|oR 18 rfl<|rCi rfl (DM c.conf c.asked hm.conf hm.ok.asked)<|oR 1 rfl<|rCi rfl (Lk c.bus kind line (jM c.conf c.asked) data false (by have:=hm.bus;omega) hm.ok.buso hline)<|oR 3 rfl<|rSx 0 (mcX ({c with bus:=wB c.bus kind line (jM c.conf c.asked) data}:Co) (.sl 17 xR kR) (.osl 1 lF nF kF) (.sl 2 xS kS) (.sl 9 xT kT)) rfl rfl rfl<|rE 27<|cRg<|oR 5 rfl<|rW (vI (wrap64 (c.asked+1))) rfl (okI (w64 _))<|oR 3 rfl<|rSx 0 (mcX ({c with bus:=wB c.bus kind line (jM c.conf c.asked) data,asked:=wrap64 (c.asked+1)}:Co) (.sl 17 xR kR) (.osl 1 lF nF kF) (.sl 2 xS kS) (.sl 9 xT kT)) rfl rfl rfl<|rE 37 ?_;exact oX (rs:=[]) rfl (σ:=λ z=>z) ⟨rfl,rfl⟩ rfl (cF (λ z=>z) rfl rfl wH rfl)
theorem XC(c:Co)(n:Nat)(hm:c.okM n)(line:Nat)(hline:line≤4294967295)(kR:Bool)(xR:List (List AV))(kF:Bool)(xF:List (List AV))(kS:Bool)(xS:List (List AV))(kT:Bool)(xT:List (List AV)):pJ C0.P C0.G 96 [.ptr 0 0,vU line] (heapF [(0,.box (mcX c (.sl 17 xR kR) (.sl 2 xF kF) (.sl 2 xS kS) (.sl 9 xT kT)))]) 1 (λ x h'=>x=.tup []∧h'=heapF [(0,.box (mcX (cJ c line) (.sl 17 xR kR) (.sl 2 xF kF) (.sl 2 xS kS) (.sl 9 xT kT)))]):=by
 refine HCall.intro (C:=C1) (s:=1) c1Ok.at Tryz.func96 rfl rfl (by kernel_rfl) rfl rfl<|cSR<|oR 1 rfl<|rE 2<|cSR<|oR 28 rfl<|rCi rfl (DM c.conf c.asked hm.conf hm.ok.asked)<|rCi rfl (Lg c.data c.bus c.mem line (jM c.conf c.asked) hm.ok.data (by have:=hm.bus;omega) hm.ok.buso (by have:=hm.mem;omega) hline)<|oR 7 rfl<|rSx 0 (mcX ({c with data:=(gK c.data c.bus c.mem line (jM c.conf c.asked)).1}:Co) (.sl 17 xR kR) (.sl 2 xF kF) (.sl 2 xS kS) (.sl 9 xT kT)) rfl rfl rfl<|oR 3 rfl<|rSx 0 (mcX ({c with data:=(gK c.data c.bus c.mem line (jM c.conf c.asked)).1,bus:=(gK c.data c.bus c.mem line (jM c.conf c.asked)).2.1}:Co) (.sl 17 xR kR) (.sl 2 xF kF) (.sl 2 xS kS) (.sl 9 xT kT)) rfl rfl rfl<|oR 1 rfl<|rE 45 ?_;refine cSR<|oR 1 rfl<|rE 46 ?_;refine aU rfl (λ h1=>?_) (λ h1=>?_)
 ·refine cRg<|oR 5 rfl<|rW (vI (wrap64 (c.asked+1))) rfl (okI (w64 _))<|oR 3 rfl<|rSx 0 (mcX ({c with data:=(gK c.data c.bus c.mem line (jM c.conf c.asked)).1,bus:=(gK c.data c.bus c.mem line (jM c.conf c.asked)).2.1,asked:=wrap64 (c.asked+1)}:Co) (.sl 17 xR kR) (.sl 2 xF kF) (.sl 2 xS kS) (.sl 9 xT kT)) rfl rfl rfl<|rE 56 ?_;rw[xK h1];exact oX (rs:=[]) rfl (σ:=λ z=>z) ⟨rfl,rfl⟩ rfl (cF (λ z=>z) rfl rfl wH rfl)
 ·refine aZ ?_;rw[zY h1];exact oX (rs:=[]) rfl (σ:=λ z=>z) ⟨rfl,rfl⟩ rfl (cF (λ z=>z) rfl rfl wH rfl)
theorem WX(c:Co)(n:Nat)(hm:c.okM n)(line:Nat)(hline:line≤4294967295)(lR nR:Nat)(kR:Bool)(rR:List (List AV))(kF:Bool)(xF:List (List AV))(kS:Bool)(xS:List (List AV))(kT:Bool)(xT:List (List AV)):pJ C0.P C0.G 96 [.ptr 0 0,vU line] (heapF [(0,.box (mcX c (.osl 1 lR nR kR) (.sl 2 xF kF) (.sl 2 xS kS) (.sl 9 xT kT))),(1,.arr rR 17)]) 2 (λ x h'=>x=.tup []∧h'=heapF [(0,.box (mcX (cJ c line) (.osl 1 lR nR kR) (.sl 2 xF kF) (.sl 2 xS kS) (.sl 9 xT kT))),(1,.arr rR 17)]):=by
 refine HCall.intro (C:=C1) (s:=2) c1Ok.at Tryz.func96 rfl rfl (by kernel_rfl) rfl rfl<|cSR<|oR 1 rfl<|rE 3<|cSR<|oR 28 rfl<|rCi rfl (DM c.conf c.asked hm.conf hm.ok.asked)<|rCi rfl (Lg c.data c.bus c.mem line (jM c.conf c.asked) hm.ok.data (by have:=hm.bus;omega) hm.ok.buso (by have:=hm.mem;omega) hline)<|oR 7 rfl<|rSx 0 (mcX ({c with data:=(gK c.data c.bus c.mem line (jM c.conf c.asked)).1}:Co) (.osl 1 lR nR kR) (.sl 2 xF kF) (.sl 2 xS kS) (.sl 9 xT kT)) rfl rfl rfl<|oR 3 rfl<|rSx 0 (mcX ({c with data:=(gK c.data c.bus c.mem line (jM c.conf c.asked)).1,bus:=(gK c.data c.bus c.mem line (jM c.conf c.asked)).2.1}:Co) (.osl 1 lR nR kR) (.sl 2 xF kF) (.sl 2 xS kS) (.sl 9 xT kT)) rfl rfl rfl<|oR 1 rfl<|rE 46 ?_;refine cSR<|oR 1 rfl<|rE 47 ?_;refine aU rfl (λ h1=>?_) (λ h1=>?_)
 ·refine cRg<|oR 5 rfl<|rW (vI (wrap64 (c.asked+1))) rfl (okI (w64 _))<|oR 3 rfl<|rSx 0 (mcX ({c with data:=(gK c.data c.bus c.mem line (jM c.conf c.asked)).1,bus:=(gK c.data c.bus c.mem line (jM c.conf c.asked)).2.1,asked:=wrap64 (c.asked+1)}:Co) (.osl 1 lR nR kR) (.sl 2 xF kF) (.sl 2 xS kS) (.sl 9 xT kT)) rfl rfl rfl<|rE 57 ?_;rw[xK h1];exact oX (rs:=[]) rfl (σ:=λ z=>z) ⟨rfl,rfl⟩ rfl (cF (λ z=>z) rfl rfl wH rfl)
 ·refine aZ ?_;rw[zY h1];exact oX (rs:=[]) rfl (σ:=λ z=>z) ⟨rfl,rfl⟩ rfl (cF (λ z=>z) rfl rfl wH rfl)
theorem Vw(c:Co)(n:Nat)(hm:c.okM n)(line:Nat)(hline:line≤4294967295)(lR nR:Nat)(kR:Bool)(rR:List (List AV))(kF:Bool)(xF:List (List AV))(kS:Bool)(xS:List (List AV))(lT nT:Nat)(kT:Bool)(rT:List (List AV)):pJ C0.P C0.G 96 [.ptr 0 0,vU line] (heapF [(0,.box (mcX c (.osl 1 lR nR kR) (.sl 2 xF kF) (.sl 2 xS kS) (.osl 2 lT nT kT))),(1,.arr rR 17),(2,.arr rT 9)]) 3 (λ x h'=>x=.tup []∧h'=heapF [(0,.box (mcX (cJ c line) (.osl 1 lR nR kR) (.sl 2 xF kF) (.sl 2 xS kS) (.osl 2 lT nT kT))),(1,.arr rR 17),(2,.arr rT 9)]):=by
 refine HCall.intro (C:=C1) (s:=3) c1Ok.at Tryz.func96 rfl rfl (by kernel_rfl) rfl rfl<|cSR<|oR 1 rfl<|rE 4<|cSR<|oR 28 rfl<|rCi rfl (DM c.conf c.asked hm.conf hm.ok.asked)<|rCi rfl (Lg c.data c.bus c.mem line (jM c.conf c.asked) hm.ok.data (by have:=hm.bus;omega) hm.ok.buso (by have:=hm.mem;omega) hline)<|oR 7 rfl<|rSx 0 (mcX ({c with data:=(gK c.data c.bus c.mem line (jM c.conf c.asked)).1}:Co) (.osl 1 lR nR kR) (.sl 2 xF kF) (.sl 2 xS kS) (.osl 2 lT nT kT)) rfl rfl rfl<|oR 3 rfl<|rSx 0 (mcX ({c with data:=(gK c.data c.bus c.mem line (jM c.conf c.asked)).1,bus:=(gK c.data c.bus c.mem line (jM c.conf c.asked)).2.1}:Co) (.osl 1 lR nR kR) (.sl 2 xF kF) (.sl 2 xS kS) (.osl 2 lT nT kT)) rfl rfl rfl<|oR 1 rfl<|rE 47 ?_;refine cSR<|oR 1 rfl<|rE 48 ?_;refine aU rfl (λ h1=>?_) (λ h1=>?_)
 ·refine cRg<|oR 5 rfl<|rW (vI (wrap64 (c.asked+1))) rfl (okI (w64 _))<|oR 3 rfl<|rSx 0 (mcX ({c with data:=(gK c.data c.bus c.mem line (jM c.conf c.asked)).1,bus:=(gK c.data c.bus c.mem line (jM c.conf c.asked)).2.1,asked:=wrap64 (c.asked+1)}:Co) (.osl 1 lR nR kR) (.sl 2 xF kF) (.sl 2 xS kS) (.osl 2 lT nT kT)) rfl rfl rfl<|rE 58 ?_;rw[xK h1];exact oX (rs:=[]) rfl (σ:=λ z=>z) ⟨rfl,rfl⟩ rfl (cF (λ z=>z) rfl rfl wH rfl)
 ·refine aZ ?_;rw[zY h1];exact oX (rs:=[]) rfl (σ:=λ z=>z) ⟨rfl,rfl⟩ rfl (cF (λ z=>z) rfl rfl wH rfl)
theorem TE(c:Co)(n:Nat)(hm:c.okM n)(line:Nat)(hline:line≤4294967295)(lR nR:Nat)(kR:Bool)(rR:List (List AV))(kF:Bool)(xF:List (List AV))(lS nS:Nat)(kS:Bool)(rS:List (List AV))(lT nT:Nat)(kT:Bool)(rT:List (List AV)):pJ C0.P C0.G 96 [.ptr 0 0,vU line] (heapF [(0,.box (mcX c (.osl 1 lR nR kR) (.sl 2 xF kF) (.osl 2 lS nS kS) (.osl 3 lT nT kT))),(1,.arr rR 17),(2,.arr rS 2),(3,.arr rT 9)]) 4 (λ x h'=>x=.tup []∧h'=heapF [(0,.box (mcX (cJ c line) (.osl 1 lR nR kR) (.sl 2 xF kF) (.osl 2 lS nS kS) (.osl 3 lT nT kT))),(1,.arr rR 17),(2,.arr rS 2),(3,.arr rT 9)]):=by
 refine HCall.intro (C:=C1) (s:=4) c1Ok.at Tryz.func96 rfl rfl (by kernel_rfl) rfl rfl<|cSR<|oR 1 rfl<|rE 5<|cSR<|oR 28 rfl<|rCi rfl (DM c.conf c.asked hm.conf hm.ok.asked)<|rCi rfl (Lg c.data c.bus c.mem line (jM c.conf c.asked) hm.ok.data (by have:=hm.bus;omega) hm.ok.buso (by have:=hm.mem;omega) hline)<|oR 7 rfl<|rSx 0 (mcX ({c with data:=(gK c.data c.bus c.mem line (jM c.conf c.asked)).1}:Co) (.osl 1 lR nR kR) (.sl 2 xF kF) (.osl 2 lS nS kS) (.osl 3 lT nT kT)) rfl rfl rfl<|oR 3 rfl<|rSx 0 (mcX ({c with data:=(gK c.data c.bus c.mem line (jM c.conf c.asked)).1,bus:=(gK c.data c.bus c.mem line (jM c.conf c.asked)).2.1}:Co) (.osl 1 lR nR kR) (.sl 2 xF kF) (.osl 2 lS nS kS) (.osl 3 lT nT kT)) rfl rfl rfl<|oR 1 rfl<|rE 48 ?_;refine cSR<|oR 1 rfl<|rE 49 ?_;refine aU rfl (λ h1=>?_) (λ h1=>?_)
 ·refine cRg<|oR 5 rfl<|rW (vI (wrap64 (c.asked+1))) rfl (okI (w64 _))<|oR 3 rfl<|rSx 0 (mcX ({c with data:=(gK c.data c.bus c.mem line (jM c.conf c.asked)).1,bus:=(gK c.data c.bus c.mem line (jM c.conf c.asked)).2.1,asked:=wrap64 (c.asked+1)}:Co) (.osl 1 lR nR kR) (.sl 2 xF kF) (.osl 2 lS nS kS) (.osl 3 lT nT kT)) rfl rfl rfl<|rE 59 ?_;rw[xK h1];exact oX (rs:=[]) rfl (σ:=λ z=>z) ⟨rfl,rfl⟩ rfl (cF (λ z=>z) rfl rfl wH rfl)
 ·refine aZ ?_;rw[zY h1];exact oX (rs:=[]) rfl (σ:=λ z=>z) ⟨rfl,rfl⟩ rfl (cF (λ z=>z) rfl rfl wH rfl)
end Go.Proofs.YtlhofpglndhfaaaGreatDoor
