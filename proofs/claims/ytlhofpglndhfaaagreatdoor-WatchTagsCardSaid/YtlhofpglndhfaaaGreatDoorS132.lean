/- Joined texts. -/
import Derived.Scope
import Derived.Test.YtlhofpglndhfaaaGreatDoorS101
import Derived.Test.YtlhofpglndhfaaaGreatDoorS124
import Derived.Test.YtlhofpglndhfaaaGreatDoorS128
import Derived.Test.YtlhofpglndhfaaaGreatDoorS129
import Derived.Test.YtlhofpglndhfaaaGreatDoorS131
set_option linter.unusedVariables false
set_option linter.unusedSimpArgs false
namespace Go.Proofs.YtlhofpglndhfaaaGreatDoor
open Go.RowKit
structure Same(K:Nat→Prop)(w w':World):Prop where
 os:w'.os=w.os
 tape:w'.tape=w.tape
 output:w'.output=w.output
 size:w.heap.size≤w'.heap.size
 block:∀ b,b<w.heap.size→K b→w'.heap[b]?=w.heap[b]?
theorem Same.refl(K:Nat→Prop)(w:World):Same K w w:=⟨rfl,rfl,rfl,aC _,λ _ _ _=>rfl⟩
theorem Same.trans{K:Nat→Prop}{a b c:World}(h:Same K a b)(k:Same K b c):Same K a c:=
 ⟨k.os.trans h.os,k.tape.trans h.tape,k.output.trans h.output,aM h.size k.size,λ x hx hk=>(k.block x (Nat.lt_of_lt_of_le hx h.size) hk).trans (h.block x hx hk)⟩
theorem Same.mono{K K':Nat→Prop}{a b:World}(h:Same K a b)(hk:∀ x,x<a.heap.size→K' x→K x):Same K' a b:=⟨h.os,h.tape,h.output,h.size,λ x hx hx'=>h.block x hx (hk x hx hx')⟩
theorem Same.of_below{K:Nat→Prop}{n:Nat}{a b:World}(h:Below n a b)(hk:∀ x,K x→x<n):Same K a b:=⟨h.os,h.tape,h.output,h.size,λ x _ hx=>h.block x (hk x hx)⟩
theorem HP{F:Fence}{m:Nat}{P:Program}{ops:Array Oper}{Q:Exit→Act→World→Prop}{i:Nat}{rest:List Nat}{o:Oper}{a:Act}{w:World}(ho:ops[i]?=some o)(hg:o.guard=none)(h:o.wpIn F m P a w (wpOpsIn F m P ops Q rest) Q):wpOpsIn F m P ops Q (i::rest) a w:=by
 have:Region.wanted o (yielded ops a.tmps)=true:=by simp[Region.wanted,hg]
 simp only[wpOpsIn,ho,this,kV];exact h
theorem KZ{F:Fence}{m l:Nat}{P:Program}(hF:FOk F P){o:Oper}{f:Operand}{args:Array Operand}{ats:Array TypeId}{vs:Array Value}{a:Act}{w:World}{K:Act→World→Prop}{Q:Exit→Act→World→Prop}{R:Bool→World→Prop}
  (ho:o.op=.call {callee:=.value f,args:=args,argTypes:=ats}) (hf:a.eval f=.func (.yield l) #[] #[]) (ha:args.map a.eval=vs) (hy:YieldAt F m P l vs w λ e w'=>∃ b,e=.returned (.bool b)∧R b w')
  (hK:∀ b w',R b w'→K (a.put o.dst (.bool b)) w'):o.wpIn F (m+1) P a w K Q:=by
 obtain⟨fn,tmps,assign,body,hy,hR⟩:=hy;unfold Oper.wpIn;refine⟨λ f _=>hF.fn f,?_⟩;rw[Oper.semAt_eq _ _ _ (λ c hc=>by rw[ho]at hc;cases hc)];have he:(execOp a.eval o).run P w=.ok (.round l fn tmps assign body) w:=by
  rw[←hy];simp only[execOp,ho,resolve,Deferred.ofValue,hf,ha];simp[invoke]
 rw[he,Oper.uponIn_round];refine⟨λ hd=>(by rw[hF.dep]at hd;cases hd),hR.mono ?_⟩;rintro e w' ⟨b,rfl,hr⟩;exact hK b w' hr
def Yo{α:Type}(P:Program)(g:Nat)(lb:Array Value)(encs:α→Array Value)(xs:List α)(R:Nat→Prop)(w:World):Prop:=
 ∀ (l:Nat) (J:Bool→(Nat→Prop)→List α→World→Prop) (C0:Nat→Prop) (W:World),
  Same R w W→(∀ b,R b→ ¬ C0 b)→
  (∀ s C pre A B,J s C pre A→Same (λ b=>b<W.heap.size∨C b) A B→J s C pre B)→
  (∀ s C pre A,J s C pre A→∀ b,C b→b<A.heap.size)→
  (∀ C pre x A,J false C pre A→pre++[x] <+: xs→YieldAt Fence.wide 1 P l (encs x) A λ e B=>∃ b,e=.returned (.bool b)∧
   ∃ C',J (!b) C' (pre++[x]) B∧Same (λ b=> ¬ C b) A B∧(∀ b,C' b→C b∨A.heap.size≤b))→
  J false C0 [] W→
  Calls P g (#[.func (.yield l) #[] #[]]++lb) W λ e W'=>(∃ v,e=.returned v)∧((∃ C,J false C xs W')∨∃ C pre,pre <+: xs∧J true C pre W')
theorem Ex{α:Type}{P:Program}{g:Operand}{ps:Array Tmp}{assign body:Code}{Q:Exit→Act→World→Prop}{a:Act}{w:World}
  {gf:Nat} {lb:Array Value} (hg:a.eval g=.func (.func gf) #[] lb) (eg:∀ args w,(callFunc gf args).run P w=.ok (.enter gf args) w)
  {encs:α→Array Value} {xs:List α} {R:Nat→Prop} {w0:World} (hseq:Yo P gf lb encs xs R w0) (hR:Same R w0 w) (hRlt:∀ b,R b→b<w0.heap.size) (hps:∀ x,(encs x).size=ps.size)
  (I Ix:(Nat→Prop)→List α→World→Prop) (IA:(Nat→Prop)→List α→α→Act→World→Prop) (C0:Nat→Prop) (hC0:∀ b,C0 b→b<w.heap.size) (hCR:∀ b,R b→ ¬ C0 b)
  (hI:∀ C pre A B,I C pre A→Same (λ b=>b<w.heap.size∨C b) A B→I C pre B)
  (hIx:∀ C pre A B,Ix C pre A→Same (λ b=>b<w.heap.size∨C b) A B→Ix C pre B)
  (hIA:∀ C pre x a A B,IA C pre x a A→Same (λ b=>b<w.heap.size∨C b) A B→IA C pre x a B)
  (hlt:∀ C pre A,I C pre A→∀ b,C b→b<A.heap.size) (hltx:∀ C pre A,Ix C pre A→∀ b,C b→b<A.heap.size)
  (h0:I C0 [] w)
  (hassign:∀ (l:Nat) (C:Nat→Prop) (pre:List α) (x:α) (A:World),I C pre A→pre++[x] <+: xs→w.heap.size≤A.heap.size→
   assign.wpIn (Fence.wide.inRound l) 1 P (Exit.then (λ a1 B=>∃ C',IA C' pre x a1 B∧Same (λ b=> ¬ C b) A B∧(∀ b,C' b→C b∨A.heap.size≤b)) (λ _ _ _=>False))
    {tmps:=(ps.zip (encs x)).foldl (λ t (p,v)=>t.setIfInBounds p v) a.tmps,defers:=[]} A)
  (hbody:∀ (l:Nat) (C:Nat→Prop) (pre:List α) (x:α) (a1:Act) (A:World),IA C pre x a1 A→pre++[x] <+: xs→w.heap.size≤A.heap.size→
   body.wpIn (Fence.wide.inRound l) 1 P (λ e _ B=>∃ C',Same (λ b=> ¬ C b) A B∧(∀ b,C' b→C b∨A.heap.size≤b)∧((e=.normal∧I C' (pre++[x]) B)∨(e=.ret∧Ix C' (pre++[x]) B))) a1 A)
  (hdone:∀ (D:Nat) (C:Nat→Prop) (W:World),w.heap.size≤D→I C xs W→ ¬ C D→W.heap[D]?=some (.deferred (some []))→Q .normal {a with defers:={target:=.collected D,args:= #[]}::a.defers} W)
  (hstop:∀ (D:Nat) (C:Nat→Prop) (pre:List α) (W:World),w.heap.size≤D→pre <+: xs→Ix C pre W→ ¬ C D→W.heap[D]?=some (.deferred (some []))→Q .ret {a with defers:={target:=.collected D,args:= #[]}::a.defers} W):
  (Code.rangeFunc g ps assign body).wp P Q a w:=by
 refine (wpIn_wide (n:=3)).1 (wpIn_rangeFunc ?_);intro fn hfn;show ∃ _,_;obtain⟨rec,hrec⟩:∃ rec:LoopState→Option Code→Loop,rec=λ st pe=>{state:=st,pending:=pe,fn,tmps:=a.tmps,params:=ps,assign,body,defers:=w.heap.size}:=⟨_,rfl⟩;obtain⟨W1,hW1⟩:∃ W1,(w.alloc (.deferred (some []))).alloc (.loop (rec .ready none))=W1:=⟨_,rfl⟩;have hs1:W1.heap.size=w.heap.size+2:=by rw[←hW1];simp
 have hL1:W1.heap[w.heap.size+1]?=some (.loop (rec .ready none)):=by
  rw[←hW1];have:=World.alloc_heap_new (w.alloc (.deferred (some []))) (.loop (rec .ready none));rwa [World.size_alloc]at this
 have hK1:W1.heap[w.heap.size]?=some (.deferred (some [])):=by
  rw[←hW1];exact (Below.heap_alloc _ _ _ (by simp)).trans (World.alloc_heap_new w _)
 have hb1:Below w.heap.size w W1:=by
  rw[←hW1];exact ((Below.refl _ w).alloc (aC _) _).alloc (by simp) _
 have hput:∀ (K:Nat→Prop) (A:World) (o:Obj), ¬ K (w.heap.size+1)→Same K A (A.putObj (w.heap.size+1) o):=λ K A o hk=>
  ⟨rfl,rfl,rfl,by simp,λ b _ hb=>World.putObj_heap_other (λ e=>hk (e ▸ hb))⟩
 refine⟨w.heap.size+1,[{target:=.collected w.heap.size,args:= #[]}],W1,{target:=.fn (.func gf) lb,args:= #[.func (.yield (w.heap.size+1)) #[] #[]]},W1,gf,
  #[.func (.yield (w.heap.size+1)) #[] #[]]++lb,W1,?_,?_,?_,?_,λ _=>by omega,?_⟩
 ·rw[←hW1,hrec];exact run_enterLoop_outer _ _ _ _ _
 ·simp only[resolve,hg];simp[go_sem]
 ·intro f' _;trivial
 ·simp[invoke,go_sem,eg]
 ·refine callsIn_wide.2 ((hseq (w.heap.size+1)
   (λ s CC pre A=>∃ C,(bif s then Ix else I) C pre A∧(∀ b,CC b↔C b∨b=w.heap.size+1)∧(∀ b,C b→b<w.heap.size∨w.heap.size+1<b)∧A.heap[w.heap.size+1]?=some (.loop (bif s then rec .done (some .ret)else rec .ready none))∧A.heap[w.heap.size]?=some (.deferred (some [])))
   (λ b=>C0 b∨b=w.heap.size+1) W1 ?_ ?_ ?_ ?_ ?_ ?_).mono ?_)
  ·exact hR.trans (Same.of_below hb1 λ x hx=>Nat.lt_of_lt_of_le (hRlt x hx) hR.size)
  ·rintro b hb (h|h)
   ·exact hCR b hb h
   ·have:=hRlt b hb;have:=hR.size;omega
  ·rintro s CC pre A B ⟨C,hi,hc,hcl,hl,hk⟩ hs;have l1:=(CZ.1 hl).1;have l2:=(CZ.1 hk).1;refine⟨C,?_,hc,hcl,(hs.block _ l1 (.inl (by omega))).trans hl,(hs.block _ l2 (.inl (by omega))).trans hk⟩;have hs':Same (λ b=>b<w.heap.size∨C b) A B:=hs.mono λ x _ hx=>hx.elim (λ h=>.inl (by omega)) (λ h=>.inr ((hc x).2 (.inl h)));cases s
   ·exact hI C pre A B hi hs'
   ·exact hIx C pre A B hi hs'
  ·rintro s CC pre A ⟨C,hi,hc,hcl,hl,hk⟩ b hb;rcases (hc b).1 hb with h|h
   ·cases s
    ·exact hlt C pre A hi b h
    ·exact hltx C pre A hi b h
   ·rw[h];exact (CZ.1 hl).1
  ·
   rintro CC pre x A ⟨C,hi,hc,hcl,hl,hk⟩ hpre;have l1:=(CZ.1 hl).1;have hnr: ¬ C (w.heap.size+1):=λ h=>by have:=hcl _ h;omega
   have hnd: ¬ C (w.heap.size):=λ h=>by have:=hcl _ h;omega
   have hy:=run_yield (P:=P) (args:=encs x) hl (by rw[hrec];exact hps x);rw[hrec]at hy;refine⟨fn,_,assign,body,hy,roundIn_of_wpIn trivial (wpIn_mono (hassign _ C pre x A hi hpre (by omega)) ?_)⟩;intro e a1 B hB;cases e<;>try exact hB.elim
   obtain⟨C',hia,hsB,hgrow⟩:=hB;have hlB:B.heap[w.heap.size+1]?=some (.loop (rec .ready none)):=(hsB.block _ l1 hnr).trans hl;have hkB:B.heap[w.heap.size]?=some (.deferred (some [])):=(hsB.block _ (by omega) hnd).trans hk;have hnr': ¬ C' (w.heap.size+1):=λ h=>(hgrow _ h).elim hnr (λ h=>by omega);have hnd': ¬ C' (w.heap.size):=λ h=>(hgrow _ h).elim hnd (λ h=>by omega);have lB:=(CZ.1 hlB).1;refine⟨_,run_beginRound hlB (by rw[hrec]),?_⟩;have hl2:(B.putObj (w.heap.size+1) (.loop {rec .ready none with state:=.busy})).heap[w.heap.size+1]?=some (.loop {rec .ready none with state:=.busy}):=World.putObj_heap_same lB;have hk2:(B.putObj (w.heap.size+1) (.loop {rec .ready none with state:=.busy})).heap[w.heap.size]?=some (.deferred (some [])):=(World.putObj_heap_other (by omega)).trans hkB;have hia2:=hIA C' pre x a1 B _ hia (hput (λ b=>b<w.heap.size∨C' b) B (.loop {rec .ready none with state:=.busy}) (by rintro (h|h);omega;exact hnr' h));refine wpIn_mono (hbody _ C' pre x a1 _ hia2 hpre (by simp;omega)) ?_;rintro e a3 W3 ⟨C3,hs3,hg3,hi3⟩;have hl3:W3.heap[w.heap.size+1]?=some (.loop {rec .ready none with state:=.busy}):=(hs3.block _ (by simp;omega) hnr').trans hl2;have hk3:W3.heap[w.heap.size]?=some (.deferred (some [])):=(hs3.block _ (by simp;omega) hnd').trans hk2;have l3:=(CZ.1 hl3).1;have hnr3: ¬ C3 (w.heap.size+1):=λ h=>(hg3 _ h).elim hnr' (λ h=>by simp at h;omega);have hcl3:∀ b,C3 b→b<w.heap.size∨w.heap.size+1<b:=by
    intro b hb;rcases hg3 b hb with h|h
    ·rcases hgrow b h with h|h
     ·exact hcl b h
     ·right;omega
    ·simp at h;right;omega
   have hcat:∀ o,Same (λ b=> ¬ CC b) A (W3.putObj (w.heap.size+1) o):=λ o=>by
    have q1:Same (λ b=> ¬ CC b) A B:=hsB.mono λ b _ hb h=>hb ((hc b).2 (.inl h));have q2:Same (λ b=> ¬ CC b) B (B.putObj (w.heap.size+1) (.loop {rec .ready none with state:=.busy})):=hput _ _ _ (λ h=>h ((hc _).2 (.inr rfl)));have q4:Same (λ b=> ¬ CC b) W3 _:=hput (λ b=> ¬ CC b) W3 o (λ h=>h ((hc _).2 (.inr rfl)));refine Same.trans ?_ q4;have q3:∀ b,b<A.heap.size→ ¬ CC b→W3.heap[b]?=A.heap[b]? :=λ b hb hcc=>by
     have nC: ¬ C b:=λ h=>hcc ((hc b).2 (.inl h));have nC': ¬ C' b:=λ h=>(hgrow b h).elim nC (λ h=>by omega);rw[hs3.block b (by simp;exact Nat.lt_of_lt_of_le hb hsB.size) nC',q2.block b (Nat.lt_of_lt_of_le hb hsB.size) hcc,q1.block b hb hcc]
    exact⟨hs3.os.trans hsB.os,hs3.tape.trans hsB.tape,hs3.output.trans hsB.output,aM hsB.size (by have:=hs3.size;simpa using this),q3⟩
   have grow:∀ b,(C3 b∨b=w.heap.size+1)→CC b∨A.heap.size≤b:=by
    rintro b (h|h)
    ·rcases hg3 b h with h|h
     ·exact (hgrow b h).imp (λ h=>(hc b).2 (.inl h)) id
     ·exact .inr (aM hsB.size (by simpa using h))
    ·exact .inl ((hc b).2 (.inr h))
   rcases hi3 with ⟨rfl,hi3⟩|⟨rfl,hi3⟩
   ·have hr:=run_endRound (P:=P) (none:Option Code) hl3;refine⟨_,_,hr,true,rfl,λ b=>C3 b∨b=w.heap.size+1,⟨C3,?_,λ b=>Iff.rfl,hcl3,?_,?_⟩,hcat _,grow⟩
    ·exact hI C3 _ W3 _ hi3 (hput _ W3 _ (by rintro (h|h);omega;exact hnr3 h))
    ·rw[World.putObj_heap_same l3,hrec];rfl
    ·exact (World.putObj_heap_other (by omega)).trans hk3
   ·have hr:=run_endRound (P:=P) (some Code.ret) hl3;refine⟨_,_,hr,false,rfl,λ b=>C3 b∨b=w.heap.size+1,⟨C3,?_,λ b=>Iff.rfl,hcl3,?_,?_⟩,hcat _,grow⟩
    ·exact hIx C3 _ W3 _ hi3 (hput _ W3 _ (by rintro (h|h);omega;exact hnr3 h))
    ·rw[World.putObj_heap_same l3,hrec];rfl
    ·exact (World.putObj_heap_other (by omega)).trans hk3
  ·refine⟨C0,hI C0 [] w W1 h0 (Same.of_below hb1 λ x hx=>hx.elim id (hC0 x)),λ b=>Iff.rfl,λ b hb=>.inl (hC0 b hb),hL1,hK1⟩
  ·
   rintro e W2 ⟨⟨v,rfl⟩,⟨CC,C,hi,hc,hcl,hl,hk⟩|⟨CC,pre,hpre,C,hi,hc,hcl,hl,hk⟩⟩
   ·have hnr: ¬ C (w.heap.size+1):=λ h=>by have:=hcl _ h;omega
    have hnd: ¬ C (w.heap.size):=λ h=>by have:=hcl _ h;omega
    refine⟨none,_,by have:=run_endLoop (P:=P) hl (by rw[hrec];simp);rw[hrec]at this;exact this,?_⟩;exact hdone w.heap.size C _ (aC _) (hI C xs W2 _ hi (hput _ W2 _ (by rintro (h|h);omega;exact hnr h))) hnd ((World.putObj_heap_other (by omega)).trans hk)
   ·have hnr: ¬ C (w.heap.size+1):=λ h=>by have:=hcl _ h;omega
    have hnd: ¬ C (w.heap.size):=λ h=>by have:=hcl _ h;omega
    refine⟨some .ret,_,by have:=run_endLoop (P:=P) hl (by rw[hrec];simp);rw[hrec]at this;exact this,wpIn_ret ?_⟩;exact hstop w.heap.size C pre _ (aC _) hpre (hIx C pre W2 _ hi (hput _ W2 _ (by rintro (h|h);omega;exact hnr h))) hnd ((World.putObj_heap_other (by omega)).trans hk)
theorem yH{S S':Nat→Prop}{w w':World}{β:Bt}{x:AV}{v:Value}(hr:Rep S w β x v)(hSS:∀ b,S b→S' b)(hS:∀ b,S b→w'.heap[b]?=w.heap[b]?):
  (∀ s l cs e fr,β s=some l→w.heap[l.blk]?=some (Obj.cells cs e fr)→∃ cs':Array Value,w'.heap[l.blk]?=some (.cells cs' e fr)∧cs'.size=cs.size)→Rep S' w' β x v:=by
 induction hr with
 |v x=>intro _;exact .v x
 |agg cs vs hl h1 h ih=>intro hb;exact .agg cs vs hl h1 λ i a u h1 h2=>ih i a u h1 h2 hb
 |tup cs vs hl h ih=>intro hb;exact .tup cs vs hl λ i a u h1 h2=>ih i a u h1 h2 hb
 |sl rs rows clip A c b o u hc hm hcl hrs hA hw h1 hr ih=>
  intro _;refine .sl rs rows clip A c b o u hc hm hcl hrs (λ h=>⟨(hA h).1,hSS _ (hA h).2⟩) (λ i row j a h1 h2=>?_) h1 λ i row j a h1 h2=>ih i row j a h1 h2 (λ s l _ _ _ e=>by cases e);have h0:0<rows.length:=bM (aE i) (Dq.1 h1).1;rw[tH (hS b (hA h0).2)]
  exact hw i row j a h1 h2
 |dp rs col row b o u hrs hb hw h1 hr ih=>
  intro _
  exact .dp rs col row b o u hrs (hSS _ hb) (λ j a h1=>by rw[tH (hS b hb)];exact hw j a h1) h1 λ j a h1=>ih j a h1 (λ s l _ _ _ e=>by cases e)
 |ptr s col l hl=>intro hb;exact .ptr s col l hl
 |ptr2 s row col l hl=>intro hb;exact .ptr2 s row col l hl
 |osl s lo len clip l A c hl hc hm hcl hA cs e fr hb room=>
  intro hβ;obtain⟨cs',h1,h2⟩:=hβ _ _ _ _ _ hl hb
  exact .osl s lo len clip l A c hl hc hm hcl hA cs' e fr h1 (by rw[h2];exact room)
 |clo f first caps vs us hl h hl' h' ih ih'=>intro hb;exact .clo f first caps vs us hl (λ i a u h1 h2=>ih i a u h1 h2 hb) hl' λ i a u h1 h2=>ih' i a u h1 h2 hb
 |optT g a x hg h ih=>intro hb;exact .optT g a x hg (ih hb)
 |optF g a hg=>intro _;exact .optF g a hg
 |any x=>intro _;exact .any x
theorem Mp{β:Bt}{w w':World}(h:∀ s l o,β s=some l→w.heap[l.blk]?=some o→w'.heap[l.blk]?=some o):
  ∀ s l cs e fr,β s=some l→w.heap[l.blk]?=some (Obj.cells cs e fr)→∃ cs':Array Value,w'.heap[l.blk]?=some (.cells cs' e fr)∧cs'.size=cs.size:=λ s l cs e fr h1 h2=>⟨cs,h s l _ h1 h2,rfl⟩
section
variable {C:Ctx}{V V':Inv C.fr}{w0:World}{S0:Nat→Prop}{N:Nat}
theorem SimD.move{D:Nat→Prop}{t:Nat→AV}{h:AH}{a:Act}{w w':World}{S:Nat→Prop}{β:Bt}(M:SimD C V w0 S0 N D t h a w S β)(hS:∀ b,S b→w'.heap[b]?=w.heap[b]?)
  (hb:∀ s l o,β s=some l→w.heap[l.blk]?=some o→w'.heap[l.blk]?=some o) (h1:w'.os=w.os) (h2:w'.tape=w.tape) (h3:w'.output=w.output) (hsz:w.heap.size≤w'.heap.size) (h0:∀ b,b<w0.heap.size→w'.heap[b]?=w.heap[b]?) (hV:V'.p S w' β):
  SimD C V' w0 S0 N D t h a w' S β:=by
 refine⟨λ i=>yH (M.T i) (λ _ h=>h) hS (Mp hb),⟨λ s blk hs=>?_,M.H.inj,λ b hb=>Nat.lt_of_lt_of_le (M.H.lt b hb) hsz,aM M.H.big hsz⟩,⟨h1.trans M.B.os,h2.trans M.B.tape,h3.trans M.B.output,aM M.B.size hsz,λ b hb=>(h0 b hb).trans (M.B.block b hb)⟩,M.dom,M.df,M.sz,λ g cells hg=>yH (M.G g cells hg) (λ _ h=>h) hS (λ s l _ _ _ e=>by cases e),M.nw,hV⟩;obtain⟨l,cs,e,fr,k1,k2,k3,k4,k5,k6⟩:=M.H.own s blk hs;refine⟨l,cs,e,fr,k1,hb _ _ _ k1 k2,k3,k4,k5,?_⟩;have go:∀ a v,Rep S w β a v→Rep S w' β a v:=λ a v hr=>yH hr (λ _ h=>h) hS (Mp hb)
 cases blk with
 |box cells=>exact λ j a h1=>let ⟨u,h2,h4,h3⟩:=k6 j a h1;⟨u,h2,h4,go _ _ h3⟩
 |arr rows rs=>exact⟨k6.1,k6.2.1,λ i row j a h1 h2=>let ⟨u,h3,h5,h4⟩:=k6.2.2 i row j a h1 h2;⟨u,h3,h5,yH h4 (λ _ h=>h) hS (λ s l _ _ _ e=>by cases e)⟩⟩
 |row cells=>exact⟨k6.1,λ j a h1=>let ⟨u,h2,h4,h3⟩:=k6.2 j a h1;⟨u,h2,h4,go _ _ h3⟩⟩
theorem SimD.inv{D:Nat→Prop}{t:Nat→AV}{h:AH}{a:Act}{w:World}{S:Nat→Prop}{β:Bt}(M:SimD C V w0 S0 N D t h a w S β)(hV:V'.p S w β):SimD C V' w0 S0 N D t h a w S β:=⟨M.T,M.H,M.B,M.dom,M.df,M.sz,M.G,M.nw,hV⟩
end
theorem Ap(S:Nat→Prop)(w:World)(β:Bt)(s:Nat):FrP S w β s S w β:=
 ⟨λ _ h=>h,Evo.refl _ _,aC _,λ _ _ _ h=>h,λ x l h=>.inl ⟨x,l,h,rfl⟩,λ _ h=>.inl h,λ _ _ _=>rfl⟩
def Td{α:Type}(C:Ctx)(g:FuncId)(caps:List AV)(encs:α→Array Value)(xs:List α):Prop:=
 ∀ (R:Nat→Prop) (w:World) (us:List Value),(∀ b,R b→b<w.heap.size)→GOk C R w→RepL R w noB caps us→Yo C.P g us.toArray encs xs R w
def Yn(t:Nat→AV):List Nat→List AV→Nat→AV
 |p::ps,x::xs=>Yn (upd t p x) ps xs
 |_,_=>t
def Ur(n:Nat)(t:Nat→AV)(h:AH)(NX:Prop)(K:AEx→ASt→Prop):AEx→ASt→Prop
 | .normal,st=>NX∧GhostN st λ stg=>∃ σ,keepB n σ n=true∧Weak stg ⟨λ _=>.any,h,n⟩ σ
 | .ret,st=>GhostN st λ stg=>∃ h' σ,keepB n σ n=true∧Weak stg ⟨λ _=>.any,h',n⟩ σ∧K .ret ⟨t,h',n⟩
 | .exit _,_=>False
inductive RangeN(C:Ctx)(st:ASt)(g:Operand)(ps:List Nat)(asg body:Code)(K:AEx→ASt→Prop):Prop
 | mk (α:Type) (gf:FuncId) (caps:List AV) (encA:α→List AV) (encs:α→Array Value) (xs:List α) (NX:α→Prop)
   (hg:evA C st.t g=.clo gf [] caps) (hcl:eV caps=true) (hfn:∃ fn,C.P.funcs[gf]?=some fn∧fn.body.isSome=true∧(fn.name== "runtime.NumGoroutine")=false)
   (hit:Td C gf caps encs xs) (henc:∀ x S w β,RepL S w β (encA x) (encs x).toList) (hps:∀ x,(encA x).length=ps.length) (hfull:CV st.h st.n=true)
   (round:∀ pre x,pre++[x] <+: xs→(∀ y,y∈pre→NX y)→fY (C.at st.n) (bX (C.at st.n)) asg ⟨Yn st.t ps (encA x),st.h,st.n⟩ (λ e st1=>e=.normal∧fY (C.at st.n) (bX (C.at st.n)) body st1 (Ur st.n st.t st.h (NX x) K)))
   (done:(∀ y,y∈xs→NX y)→K .normal st):RangeN C st g ps asg body K
theorem Mq{S:Nat→Prop}{w:World}{β:Bt}:∀ (ps:List Nat) (xs:List AV) (vs:List Value) (t:Nat→AV) (tm:Array Value),xs.length=vs.length→ps.length=xs.length→(∀ p∈ps,p<tm.size)→
  (∀ i,Rep S w β (t i) (tm.getD i undef))→(∀ (i:Nat) a u,xs[i]?=some a→vs[i]?=some u→Rep S w β a u)→
  ∀ i,Rep S w β (Yn t ps xs i) (((ps.zip vs).foldl (λ t (p,v)=>t.setIfInBounds p v) tm).getD i undef)
 |[],xs,vs,t,tm,_,_,_,hT,_=>hT
 |p::ps,[],vs,t,tm,h1,h2,_,hT,_=>by simp at h2
 |p::ps,x::xs,[],t,tm,h1,h2,_,hT,_=>by simp at h1
 | p::ps,x::xs,v::vs,t,tm,h1,h2,hp,hT,hr=>by
  show ∀ i,Rep S w β (Yn (upd t p x) ps xs i) (((ps.zip vs).foldl (λ t (p,v)=>t.setIfInBounds p v) (tm.setIfInBounds p v)).getD i undef);refine Mq ps xs vs _ _ (by simpa using h1) (by simpa using h2) (λ q hq=>by rw[iW];exact hp q (bF _ hq)) (λ i=>?_) (λ i a u q1 q2=>hr (i+1) a u (by simpa using q1) (by simpa using q2));by_cases hi:i=p
  ·subst hi;have hlt:=hp i bD;rw[cY,aJ,cX hlt];exact hr 0 x v rfl rfl
  ·rw[cD _ _ hi,aJ,cW (Ne.symm hi), ←aJ];exact hT i
theorem Az:∀ (ps:List Nat) (vs:List Value) (tm:Array Value),((ps.zip vs).foldl (λ t (p,v)=>t.setIfInBounds p v) tm).size=tm.size
 |[],_,_=>rfl
 |_::_,[],_=>rfl
 |p::ps,v::vs,tm=>by
  show ((ps.zip vs).foldl (λ t (p,v)=>t.setIfInBounds p v) (tm.setIfInBounds p v)).size=_;rw[Az ps vs,iW]
theorem JF(ps:Array Nat)(vs:Array Value)(tm:Array Value):(ps.zip vs).foldl (λ t (p,v)=>t.setIfInBounds p v) tm=(ps.toList.zip vs.toList).foldl (λ t (p,v)=>t.setIfInBounds p v) tm:=by
 rw[←Array.foldl_toList,Array.toList_zip]
def dfs:Option Nat→List Deferred
 |none=>[]
 |some D=>[{target:=.collected D,args:= #[]}]
@[reducible] def Ctx.wd(C:Ctx)(d:Option Nat):Ctx:={C with df:=dfs d}
def Wj(d:Option Nat)(w0:World)(S:Nat→Prop)(β:Bt)(w:World):Prop:=
 ∀ D,d=some D→w.heap[D]?=some (.deferred (some []))∧ ¬ OwnB β D∧ ¬ S D∧w0.heap.size≤D
def ZH(C:Ctx)(w0:World)(S0:Nat→Prop)(N:Nat)(Q:Option Nat→AEx→ASt→Prop)(e:Exit)(a:Act)(w:World):Prop:=
 ∃ d e' st S β,e=Fm e'∧Q d e' st∧SimD (C.wd d) (Inv.any C.fr) w0 S0 N (· <st.n) st.t st.h a w S β∧Wj d w0 S β w
theorem JG{P:Program}{f:FuncId}{fn:Func}(g1:P.funcs[f]?=some fn)(g2:fn.body.isSome=true)(g3:(fn.name== "runtime.NumGoroutine")=false) (args:Array Value) (w:World):(callFunc f args).run P w=.ok (.enter f args) w:=by
 simp only[callFunc,Sem.run_bind,program,Sem.run,Result.andThen_ok,g1];have:fn.body.isNone=false:=by cases hb:fn.body<;>simp_all
 simp[g3,this]
section
variable {C:Ctx}{w0:World}{S0:Nat→Prop}{N:Nat}{Q:Option Nat→AEx→ASt→Prop}
theorem KX(hC:CtxOk C)(hCn:∀ n,CtxOk (C.at n))(hdf:C.df=[]){st:ASt}{g:Operand}{ps:Array Nat}{asg body:Code}(hp:ps.toList.all (λ p=>Nat.blt p N)=true)(hka:oJ N (λ _=>false) asg=true)(hkb:oJ N (λ _=>false) body=true)
  (R:RangeN C st g ps.toList asg body (λ e st'=>∀ D,Q (some D) e st')) {a:Act} {w:World} {S:Nat→Prop} {β:Bt} (M:SimD C (Inv.any C.fr) w0 S0 N (· <st.n) st.t st.h a w S β):
  (Code.rangeFunc g ps asg body).wp C.P (ZH C w0 S0 N Q) a w:=by
 obtain⟨α,gf,caps,encA,encs,xs,NX,hg,hcl,⟨fn,f1,f2,f3⟩,hit,henc,hps,hfull,round,done⟩:=R;have hfl:=tN hfull;have hge:=rZ M g;rw[hg]at hge;have hnm:∀ x l,β x=some l→x<st.n∧w0.heap.size≤l.blk∧l.blk<w.heap.size∧ ¬ S l.blk:=λ x l hx=>by
  have hn:=M.dom x l hx;obtain⟨blk,hblk⟩:=Da.1 (hfl x hn);obtain⟨l',cs,e,fr,k1,k2,k3,k4,k5,k6⟩:=M.H.own x blk hblk;rw[hx]at k1;cases k1;exact⟨hn,k4,fQ k2,k5⟩
 generalize hgv:a.eval g=gv at hge
 cases hge with
 |clo _ _ _ vs us h1 h2 h3 h4=>
 have hvs:vs= #[]:=Array.eq_empty_of_size_eq_zero h1.symm;subst hvs;have hcaps:RepL S w noB caps us.toList:=by
  refine⟨by rw[h3];simp,λ i x u p q=>?_⟩;have:=h4 i x u p (by rw[←bG];exact q);exact lP this (fX _ hcl i x p) noB
 have hseq:=hit S w us.toList M.H.lt M.G hcaps;have same0:∀ {A:World},Same (λ b=> ¬ OwnB β b) w A→(∀ b,S b→A.heap[b]?=w.heap[b]?):=λ hs b hb=>
  hs.block b (M.H.lt b hb) λ⟨x,l,q1,q2⟩=>by have:=(hnm x l q1).2.2.2;rw[q2]at this;exact this hb
 let C1:(Nat→Prop)→List α→World→Prop:=λ CC pre A=>(∀ y,y∈pre→NX y)∧∃ SA,SimD (C.at st.n) (Inv.any st.n) w0 S0 N (· <st.n) st.t st.h a A SA β∧(∀ b,SA b→b<w.heap.size∨CC b)∧(∀ b,OwnB β b→CC b)∧(∀ b,CC b→b<A.heap.size)
 let C2:(Nat→Prop)→List α→World→Prop:=λ CC pre A=>∃ SA h',(∀ D,Q (some D) .ret ⟨st.t,h',st.n⟩)∧SimD (C.at st.n) (Inv.any st.n) w0 S0 N (· <st.n) st.t h' a A SA β∧(∀ b,SA b→b<w.heap.size∨CC b)∧(∀ b,OwnB β b→CC b)∧(∀ b,CC b→b<A.heap.size)
 let C3:(Nat→Prop)→List α→α→Act→World→Prop:=λ CC pre x a1 B=>∃ st1 S1 β1 A SA,(∀ y,y∈pre→NX y)∧fY (C.at st.n) (bX (C.at st.n)) body st1 (Ur st.n st.t st.h (NX x) (λ e st'=>∀ D,Q (some D) e st'))∧
  SimD (C.at st.n) (Inv.any st.n) w0 S0 N (· <st1.n) st1.t st1.h a1 B S1 β1∧(∀ b,S1 b→b<w.heap.size∨CC b)∧(∀ b,OwnB β b→CC b)∧(∀ b,OwnB β1 b→CC b)∧
  (∀ x l,x<st.n→β x=some l→β1 x=some l)∧
  SimD (C.at st.n) (Inv.any st.n) w0 S0 N (· <st.n) st.t st.h a A SA β∧(∀ b,SA b→S1 b)∧(∀ b,SA b→B.heap[b]?=A.heap[b]?)∧
  (∀ s l cs e fr,β s=some l→A.heap[l.blk]?=some (Obj.cells cs e fr)→∃ cs':Array Value,B.heap[l.blk]?=some (.cells cs' e fr)∧cs'.size=cs.size)∧w.heap.size≤B.heap.size
 have w00:w0.heap.size≤w.heap.size:=M.B.size;have noOwn0:∀ b,b<w0.heap.size→ ¬ OwnB β b:=λ b hb ⟨x,l,q1,q2⟩=>by have:=(hnm x l q1).2.1;omega
 have mv:∀ {CC:Nat→Prop} {A B:World} {D:Nat→Prop} {t:Nat→AV} {h:AH} {a:Act} {SA:Nat→Prop} {β1:Bt},SimD (C.at st.n) (Inv.any st.n) w0 S0 N D t h a A SA β1→(∀ b,SA b→b<w.heap.size∨CC b)→(∀ b,OwnB β1 b→b<w.heap.size∨CC b)→w.heap.size≤A.heap.size→Same (λ b=>b<w.heap.size∨CC b) A B→
   SimD (C.at st.n) (Inv.any st.n) w0 S0 N D t h a B SA β1:=λ X k1 k2 k3 hs=>
  X.move (λ b hb=>hs.block b (X.H.lt b hb) (k1 b hb)) (λ s l o q1 q2=>(hs.block _ (fQ q2) (k2 _ ⟨s,l,q1,rfl⟩)).trans q2) hs.os hs.tape hs.output hs.size (λ b hb=>hs.block b (by omega) (.inl (by omega))) trivial
 have big:∀ {D:Nat→Prop} {t:Nat→AV} {h:AH} {a:Act} {A:World} {SA:Nat→Prop} {β1:Bt},SimD (C.at st.n) (Inv.any st.n) w0 S0 N D t h a A SA β1→w0.heap.size≤A.heap.size:=λ X=>X.B.size;refine Ex (gf:=gf) (lb:=us) hgv (JG f1 f2 f3) (by simpa using hseq) (Same.refl _ _) M.H.lt (λ x=>by rw[←dP, ←dP, ←hps x];exact ((henc x S w β).1).symm)
  (λ CC pre A=>C1 CC pre A∧w.heap.size≤A.heap.size) (λ CC pre A=>C2 CC pre A∧w.heap.size≤A.heap.size) C3 (OwnB β) (λ b ⟨x,l,q1,q2⟩=>by have:=(hnm x l q1).2.2.1;omega) (λ b hb ⟨x,l,q1,q2⟩=>by have:=(hnm x l q1).2.2.2;rw[q2]at this;exact this hb)
  ?_ ?_ ?_ ?_ ?_ ?_ ?_ ?_ ?_ ?_
 ·rintro CC pre A B ⟨⟨hN,SA,X,k1,k2,k3⟩,k4⟩ hs;exact⟨⟨hN,SA,mv X k1 (λ b hb=>.inr (k2 b hb)) k4 hs,k1,k2,λ b hb=>Nat.lt_of_lt_of_le (k3 b hb) hs.size⟩,aM k4 hs.size⟩
 ·rintro CC pre A B ⟨⟨SA,h',q,X,k1,k2,k3⟩,k4⟩ hs;exact⟨⟨SA,h',q,mv X k1 (λ b hb=>.inr (k2 b hb)) k4 hs,k1,k2,λ b hb=>Nat.lt_of_lt_of_le (k3 b hb) hs.size⟩,aM k4 hs.size⟩
 ·rintro CC pre x a1 B B' ⟨st1,S1,β1,A,SA,hN,q,X,k1,k2,k3,k5,XA,k6,k7,k8,k9⟩ hs;refine⟨st1,S1,β1,A,SA,hN,q,mv X k1 (λ b hb=>.inr (k3 b hb)) k9 hs,k1,k2,k3,k5,XA,k6,λ b hb=>(hs.block b (X.H.lt b (k6 b hb)) (k1 b (k6 b hb))).trans (k7 b hb),λ s l cs e fr h1 h2=>?_,aM k9 hs.size⟩;obtain⟨cs',h5,h6⟩:=k8 s l cs e fr h1 h2;exact⟨cs',(hs.block _ (fQ h5) (.inr (k2 _ ⟨s,l,h1,rfl⟩))).trans h5,h6⟩
 ·rintro CC pre A ⟨⟨hN,SA,X,k1,k2,k3⟩,k4⟩ b hb;exact k3 b hb
 ·rintro CC pre A ⟨⟨SA,h',q,X,k1,k2,k3⟩,k4⟩ b hb;exact k3 b hb
 ·refine⟨⟨(λ y hy=>by cases hy),S,⟨M.T,M.H,M.B,M.dom,M.df,M.sz,M.G,M.nw,trivial⟩,λ b hb=>.inl (M.H.lt b hb),λ b hb=>hb,λ b ⟨x,l,q1,q2⟩=>by have:=(hnm x l q1).2.2.1;omega⟩,aC _⟩
 ·
  rintro l CC pre x A ⟨⟨hN,SA,X,k1,k2,k3⟩,k4⟩ hpre _;have X0:SimD (C.at st.n) (Fe SA A β st.n) w0 S0 N (· <st.n) (Yn st.t ps.toList (encA x)) st.h {tmps:=(ps.zip (encs x)).foldl (λ t (p,v)=>t.setIfInBounds p v) a.tmps,defers:=[]} A SA β:=by
   refine⟨λ i=>?_,X.H,X.B,X.dom,hdf.symm,?_,X.G,X.nw,Ap _ _ _ _⟩
   ·rw[JF];have he:=henc x SA A β;exact Mq _ _ _ _ _ he.1 (hps x).symm (λ p hq=>by rw[X.sz];exact aO (iH.1 hp p hq)) X.T he.2 i
   ·show ((ps.zip (encs x)).foldl (λ t (p,v)=>t.setIfInBounds p v) a.tmps).size=N;rw[JF,Az];exact X.sz
  refine wpIn_mono (AQ (C:=C.at st.n) (a0:={tmps:=(ps.zip (encs x)).foldl (λ t (p,v)=>t.setIfInBounds p v) a.tmps,defers:=[]}) (JH C.P l) (hCn st.n) asg hka ⟨_,st.h,st.n⟩ _ (round pre x hpre hN) _ A SA β X0 (tmk.refl _ _)) ?_;rintro e a1 B ⟨e',st1,S1,β1,rfl,⟨rfl,hb⟩,X1, -⟩;have P:FrP SA A β st.n S1 B β1:=X1.iv;refine⟨λ b=>CC b∨OwnB β1 b∨(A.heap.size≤b∧b<B.heap.size),⟨st1,S1,β1,A,SA,hN,hb,X1.inv trivial,λ b hb=>?_,λ b hb=>.inl (k2 b hb),λ b hb=>.inr (.inl hb),λ y l h1 h2=>P.keep y l h1 h2,X,P.hS,λ b hb=>P.hE.stable b hb,λ s l cs e fr h1 h2=>P.hE.shape _ _ _ _ h2,aM k4 P.sz⟩,
   ⟨X1.B.os.trans X.B.os.symm,X1.B.tape.trans X.B.tape.symm,X1.B.output.trans X.B.output.symm,P.sz,λ b hb hn=>P.still b hb λ h=>hn (k2 b h)⟩,λ b hb=>?_⟩
  ·rcases P.nw b hb with h|h|h
   ·exact (k1 b h).imp id .inl
   ·exact .inr (.inr (.inr ⟨h,X1.H.lt b hb⟩))
   ·exact .inr (.inl (k2 b h))
  ·rcases hb with h|⟨y,l,h1,h2⟩|h
   ·exact .inl h
   ·rcases P.own y l h1 with h|h
    ·exact .inl (k2 b (h2 ▸ h))
    ·exact .inr (h2 ▸ h)
   ·exact .inr h.1
 ·
  rintro l CC pre x a1 A1 ⟨st1,S1,β1,A,SA,hN,q,X,k1,k2,k3,k5,XA,k6,k7,k8,k9⟩ hpre _;refine wpIn_mono (AQ (C:=C.at st.n) (V:=Fe S1 A1 β1 st.n) (a0:=a1) (JH C.P l) (hCn st.n) body hkb st1 _ q a1 A1 S1 β1 (X.inv (Ap _ _ _ _)) (tmk.refl _ _)) ?_;rintro e a2 B ⟨e',st2,S2,β2,rfl,hq,X2, -⟩;have fin:∀ (h':AH),(GhostN st2 λ stg=>∃ σ,keepB st.n σ st.n=true∧Weak stg ⟨λ _=>.any,h',st.n⟩ σ)→∃ S3,SimD (C.at st.n) (Inv.any st.n) w0 S0 N (· <st.n) st.t h' a B S3 β∧(∀ b,S3 b→b<w.heap.size∨CC b∨A1.heap.size≤b)∧Same (λ b=> ¬ CC b) A1 B:=by
   rintro h' ⟨stg,hgs,σ,hk,hW⟩;obtain⟨S3,X3⟩:=nE hgs X2;have X4:=pI hW hk X3;have P:FrP S1 A1 β1 st.n S3 B _:=X4.iv;have hβ:(λ s=>if s<st.n then β2 (σ s)else none)=β:=by
    funext s;by_cases hs:s<st.n
    ·obtain⟨blk,hblk⟩:=Da.1 (hfl s hs);obtain⟨l',cs,e,fr,q1,_⟩:=M.H.own s blk hblk;rw[q1];exact P.keep s l' hs (k5 s l' hs q1)
    ·simp only[hs,iG]
     cases hq:β s with
     |none=>rfl
     |some l=>exact absurd (M.dom s l hq) hs
   simp only[hβ]at X4 P;refine⟨S3,⟨λ i=>?_,X4.H,X4.B,λ y l hy=>M.dom y l hy,hdf.symm ▸ XA.df,XA.sz,X4.G,X4.nw,trivial⟩,λ b hb=>?_,⟨X4.B.os.trans X.B.os.symm,X4.B.tape.trans X.B.tape.symm,X4.B.output.trans X.B.output.symm,P.sz,λ b hb hn=>P.still b hb λ h=>hn (k3 b h)⟩⟩
   ·refine yH (XA.T i) (λ b hb=>P.hS b (k6 b hb)) (λ b hb=>(P.hE.stable b (k6 b hb)).trans (k7 b hb)) λ s l cs e fr h1 h2=>?_;obtain⟨cs',h3,h4⟩:=k8 s l cs e fr h1 h2;obtain⟨cs2,h5,h6⟩:=P.hE.shape _ _ _ _ h3;exact⟨cs2,h5,h6.trans h4⟩
   ·rcases P.nw b hb with h|h|h
    ·exact (k1 b h).imp id .inl
    ·exact .inr (.inr h)
    ·exact .inr (.inl (k3 b h))
  cases e' with
  |exit i=>exact hq.elim
  |normal=>
   obtain⟨hNx,hq⟩:=hq;obtain⟨S3,Y,j1,j2⟩:=fin st.h hq;have hN2:∀ y,y∈pre++[x]→NX y:=λ y hy=>(al_List_mem_append.1 hy).elim (hN y) λ h=>tO.1 h ▸ hNx
   exact⟨λ b=>b<B.heap.size∧(CC b∨A1.heap.size≤b),j2,λ b hb=>hb.2,.inl ⟨rfl,⟨hN2,S3,Y,λ b hb=>(j1 b hb).imp id λ h=>⟨Y.H.lt b hb,h⟩,λ b hb=>⟨by obtain⟨y,l,q1,q2⟩:=hb;have:=(hnm y l q1).2.2.1;have:=j2.size;omega,.inl (k2 b hb)⟩,λ b hb=>hb.1⟩,aM k9 j2.size⟩⟩
  |ret=>
   obtain⟨stg,hgs,h',σ,hk,hW,hK⟩:=hq;obtain⟨S3,Y,j1,j2⟩:=fin h' ⟨stg,hgs,σ,hk,hW⟩;exact⟨λ b=>b<B.heap.size∧(CC b∨A1.heap.size≤b),j2,λ b hb=>hb.2,.inr ⟨rfl,⟨S3,h',hK,Y,λ b hb=>(j1 b hb).imp id λ h=>⟨Y.H.lt b hb,h⟩,λ b hb=>⟨by obtain⟨y,l,q1,q2⟩:=hb;have:=(hnm y l q1).2.2.1;have:=j2.size;omega,.inl (k2 b hb)⟩,λ b hb=>hb.1⟩,aM k9 j2.size⟩⟩
 ·rintro D CC W hD ⟨⟨hN,SA,X,k1,k2,k3⟩,k4⟩ hnC hW;refine⟨some D,.normal,st,SA,β,rfl,done hN D,⟨X.T,X.H,X.B,X.dom,?_,X.sz,X.G,X.nw,trivial⟩,λ D' hD'=>?_⟩
  ·show _::a.defers=_;rw[show a.defers=[]from X.df.trans hdf];rfl
  ·cases hD';exact⟨hW,λ h=>hnC (k2 _ h),λ h=>(k1 _ h).elim (λ h=>by omega) hnC,aM w00 hD⟩
 ·rintro D CC pre W hD hpre ⟨⟨SA,h',hK,X,k1,k2,k3⟩,k4⟩ hnC hW;refine⟨some D,.ret,⟨st.t,h',st.n⟩,SA,β,rfl,hK D,⟨X.T,X.H,X.B,X.dom,?_,X.sz,X.G,X.nw,trivial⟩,λ D' hD'=>?_⟩
  ·show _::a.defers=_;rw[show a.defers=[]from X.df.trans hdf];rfl
  ·cases hD';exact⟨hW,λ h=>hnC (k2 _ h),λ h=>(k1 _ h).elim (λ h=>by omega) hnC,aM w00 hD⟩
def vE(N:Nat):Code→Bool
 | .seq a b=>vE N a&&vE N b
 | .cond _ a b=>vE N a&&vE N b
 | .block _ b=>vE N b
 | .scope b=>vE N b
 | .rangeFunc _ ps a b=>ps.toList.all (λ p=>Nat.blt p N)&&(oJ N (λ _=>false) a&&oJ N (λ _=>false) b)
 |c=>tU N c
def vF(C:Ctx):Code→Option Nat→ASt→(Option Nat→AEx→ASt→Prop)→Prop
 | .seq a b,d,st,Q=>vF C a d st (λ d' e st'=>match e with| .normal=>vF C b d' st' Q|e=>Q d' e st')
 | .cond c x y,d,st,Q=>match evA C st.t c with| .v (.bool b)=>Branch b (vF C x d st Q) (vF C y d st Q)|_=>False
 | .block id b,d,st,Q=>vF C b d st (λ d' e st'=>match e with| .exit i=>(match Nat.beq i id with|true=>Q d' .normal st'|false=>Q d' (.exit i) st')|e=>Q d' e st')
 | .scope b,d,st,Q=>vF C b d st Q
 | .rangeFunc g ps a b,d,st,Q=>d=none∧GhostN st λ stg=>∃ stw σ,Weak stg stw σ∧keepB C.fr σ stw.n=true∧RangeN C stw g ps.toList a b (λ e st'=>∀ D,Q (some D) e st')
 |c,d,st,Q=>fY (C.wd d) (bX (C.wd d)) c st (Q d)
theorem KY(hC:∀ d,CtxOk (C.wd d))(hCn:∀ n,CtxOk (C.at n))(hdf:C.df=[]):∀ (c:Code),vE N c=true→∀ (d:Option Nat) (st:ASt) (Q:Option Nat→AEx→ASt→Prop),vF C c d st Q→
  ∀ (a:Act) (w:World) (S:Nat→Prop) (β:Bt),SimD (C.wd d) (Inv.any C.fr) w0 S0 N (· <st.n) st.t st.h a w S β→Wj d w0 S β w→c.wp C.P (ZH C w0 S0 N Q) a w:=by
 have base:∀ (c:Code),tU N c=true→∀ (d:Option Nat) (st:ASt) (Q:Option Nat→AEx→ASt→Prop),fY (C.wd d) (bX (C.wd d)) c st (Q d)→
  ∀ (a:Act) (w:World) (S:Nat→Prop) (β:Bt),SimD (C.wd d) (Inv.any C.fr) w0 S0 N (· <st.n) st.t st.h a w S β→Wj d w0 S β w→c.wp C.P (ZH C w0 S0 N Q) a w:=by
  intro c hk d st Q hq a w S β M hd;refine wp_mono (BU (C:=C.wd d) (V:=Fe S w β C.fr) (hC d) c hk st _ hq a w S β (M.inv (Ap _ _ _ _))) ?_;rintro e a' w' ⟨e',st',S',β',rfl,h1,M'⟩;have P:FrP S w β C.fr S' w' β':=M'.iv;refine⟨d,e',st',S',β',rfl,h1,M'.inv trivial,λ D hD=>?_⟩;obtain⟨k1,k2,k3,k4⟩:=hd D hD;have hlt:=fQ k1;refine⟨(P.still D hlt k2).trans k1,λ⟨x,l,q1,q2⟩=>?_,λ h=>?_,k4⟩
  ·rcases P.own x l q1 with h|h
   ·exact k2 (q2 ▸ h)
   ·rw[q2]at h;omega
  ·rcases P.nw D h with h|h|h
   ·exact k3 h
   ·omega
   ·exact k2 h
 intro c
 induction c with
 |seq x y ihx ihy=>
  intro hk d st Q hq a w S β M hd;simp only[vE,aI]at hk;refine wp_seq (wp_mono (ihx hk.1 d st _ hq a w S β M hd) ?_);rintro e a' w' ⟨d',e',st',S',β',rfl,h1,h2,h3⟩
  cases e' with
  |normal=>exact ihy hk.2 d' st' Q h1 a' w' S' β' h2 h3
  |exit i=>exact⟨d',.exit i,st',S',β',rfl,h1,h2,h3⟩
  |ret=>exact⟨d',.ret,st',S',β',rfl,h1,h2,h3⟩
 | cond c x y ihx ihy=>
  intro hk d st Q hq a w S β M hd;simp only[vE,aI]at hk;simp only[vF]at hq;split at hq
  ·rename_i b hb;obtain⟨h1,h2⟩:=hq;have hv:=rZ M c;rw[show evA (C.wd d) st.t c=evA C st.t c from rfl,hb]at hv;exact wp_cond_split (lK hv) (λ ht=>ihx hk.1 d st Q (h1 ht) a w S β M hd) (λ hf=>ihy hk.2 d st Q (h2 hf) a w S β M hd)
  ·exact hq.elim
 | block id b ih=>
  intro hk d st Q hq a w S β M hd;refine wp_block (wp_mono (ih hk d st _ hq a w S β M hd) ?_);rintro e a' w' ⟨d',e',st',S',β',rfl,h1,h2,h3⟩
  cases e' with
  |normal=>exact⟨d',.normal,st',S',β',rfl,h1,h2,h3⟩
  |ret=>exact⟨d',.ret,st',S',β',rfl,h1,h2,h3⟩
  | exit i=>
   show Exit.inBlock id _ (.exit i) a' w';simp only at h1;simp only[Exit.inBlock];by_cases hi:i=id
   ·subst hi;rw[if_pos rfl];rw[show Nat.beq i i=true from mZ i]at h1;exact⟨d',.normal,st',S',β',rfl,h1,h2,h3⟩
   ·rw[if_neg hi];have:Nat.beq i id=false:=by rw[←eJ];exact λ e=>hi (aK e)
    rw[this]at h1
    exact⟨d',.exit i,st',S',β',rfl,h1,h2,h3⟩
 |scope b ih=>
  intro hk d st Q hq a w S β M hd;refine wp_scope_straight (wp_mono (ih hk d st _ hq a w S β M hd) ?_);rintro e a' w' ⟨d',e',st',S',β',rfl,h⟩
  cases e' with
  |normal=>exact⟨d',.normal,st',S',β',rfl,h⟩
  |ret=>exact⟨d',.ret,st',S',β',rfl,h⟩
  |exit i=>exact⟨d',.exit i,st',S',β',rfl,h⟩
 |rangeFunc g ps x y ihx ihy=>
  intro hk d st Q hq a w S β M hd;simp only[vE,aI]at hk;obtain⟨rfl,stg,hgs,stw,σ,hW,hf,hR⟩:=hq;obtain⟨S2,M2⟩:=nE hgs M;have M3:=pI (C:=C.wd none) hW hf M2;have h0:=hC none
  exact KX (C:=C) ⟨h0.ty,h0.mixed,h0.hH⟩ hCn hdf hk.1 hk.2.1 hk.2.2 hR ⟨M3.T,M3.H,M3.B,M3.dom,M3.df.trans hdf.symm,M3.sz,M3.G,M3.nw,trivial⟩
 |_=>intro hk d st Q hq;exact base _ hk d st Q hq
theorem bX.introR(hC:∀ d,CtxOk (C.wd d))(hCn:∀ n,CtxOk (C.at n)){f:FuncId}{fn:Func}{body:Code}{args:List AV}{r:AV}(hf:C.P.funcs[f]?=some fn)(hb:fn.body=some body)(hnm:(fn.name== "runtime.NumGoroutine")=false)
  (hN:vE fn.ntmps body=true) (hlen:Nat.ble args.length fn.ntmps=true) (hw:vF C body none ⟨argsT args,λ _=>none,0⟩ (λ d=>Fin (C.wd d) fn r)) (hdf:C.df=[]:=by rfl):bX C f args r:=by
 refine⟨⟨fn,hf,by rw[hb];rfl,hnm⟩,λ S w vs hS hG hargs=>?_⟩;have hlen:=aO hlen;refine callsIn_wide.1 (callsIn_of_wp_marks (n:=3) hf hb trivial ((wpIn_wide (n:=3)).2 ?_));have M0:SimD (C.wd none) (Inv.any C.fr) w S fn.ntmps (· <(0:Nat)) (argsT args) (λ _=>none) {tmps:=vs.toArray++Array.replicate (fn.ntmps - vs.toArray.size) undef,defers:=[]} w S noB:=by
  have hl:vs.length=args.length:=hargs.1.symm;refine⟨λ i=>?_,⟨λ s blk h=>(by cases h),λ s s' l l' h=>absurd rfl h,hS,aC _⟩,Below.refl _ _,λ x l h=>(by cases h),rfl,by simp;omega,hG,λ _ h=>.inl h,trivial⟩;rw[yQ]
  cases ha:args[i]? with
  |none=>exact .any _
  | some x=>
   have hi:i<vs.length:=by rw[hl];exact (Dq.1 ha).1
   have hv:vs[i]?=some vs[i]:=aA hi;have:(vs.toArray++Array.replicate (fn.ntmps - vs.toArray.size) undef).getD i undef=vs[i]:=by
    rw[aJ,dK (by simpa using hi),eK,hv];rfl
   rw[this];exact hargs.2 i x _ ha hv
 refine wp_mono (KY (C:=C) hC hCn hdf body hN none ⟨argsT args,λ _=>none,0⟩ _ hw _ w S noB M0 (λ D h=>by cases h)) ?_;rintro e a' w' ⟨d,e',st,S',β',rfl,hfin,M,hd⟩;have fin:TP (C.wd d) fn r st→∀ w2:World,SimD (C.wd d) (Inv.any C.fr) w S fn.ntmps (· <st.n) st.t st.h a' w2 S' β'→∃ v,(results fn a'.tmps).run C.P w2=.ok v w2∧∃ v',Ending.returned v=.returned v'∧Below w.heap.size w w2∧Rep (λ b=>S b∨(w.heap.size≤b∧b<w2.heap.size)) w2 noB r v':=by
  rintro ⟨rs,h1,h2,h3,h4⟩ w2 M;obtain⟨t,h,n⟩:=st;obtain⟨us,g1,g2⟩:=Ip (hC d) M _ rs h1;refine⟨_,xG _ us g1 fn rfl,_,rfl,M.B,?_⟩;have hret:Rep S' w2 β' (Ct rs) (if h:us.toArray.size=1 then us.toArray[0]else .tuple us.toArray):=by
   match rs,us,g2 with
   |[],us,g2=>
    have:us=[]:=aX g2.1.symm;subst this
    exact .tup [] #[] rfl λ i a u p=>by simp at p
   |[x],us,g2=>
    match us,g2 with
    |[u],g2=>simpa [Ct]using g2.2 0 x u rfl rfl
    |[],g2=>exact absurd g2.1 (by simp)
    |_::_::_,g2=>exact absurd g2.1 (by simp)
   | x::y::zs,us,g2=>
    have hne: ¬ us.toArray.size=1:=by
     have:=g2.1;simp at this⊢;omega
    rw[dif_neg hne];exact .tup _ _ (by simpa using g2.1) λ i a u p q=>g2.2 i a u p (by simpa using q)
  have hd:=Bb M.H hret h2;refine h4 _ _ _ ?_;exact (lP hd h3 noB).mono (λ b hb=>hb.elim (λ hb=>(M.nw b hb).imp id λ h=>⟨h,M.H.lt b hb⟩) .inr) (Evo.refl _ _) (Lv.refl _)
 have go:TP (C.wd d) fn r st→LeavesInM Fence.wide 3 C.P fn a'.tmps (λ e w'=>∃ v,e=.returned v∧Below w.heap.size w w'∧Rep (λ b=>S b∨(w.heap.size≤b∧b<w'.heap.size)) w' noB r v) a'.defers .returning w':=by
  intro hr;have hdf':a'.defers=dfs d:=M.df;rw[hdf']
  cases d with
  |none=>exact fin hr w' M
  |some D=>
   obtain⟨k1,k2,k3,k4⟩:=hd D rfl;refine⟨by simp,.inl ⟨D,_,rfl,run_takeDeferred k1,fin hr _ ?_⟩⟩;have ho:∀ b,b≠D→(w'.putObj D (.deferred none)).heap[b]?=w'.heap[b]? :=λ b hb=>World.putObj_heap_other hb;exact M.move (λ b hb=>ho b λ e=>k3 (e ▸ hb)) (λ s l o q1 q2=>(ho _ λ e=>k2 ⟨s,l,q1,e⟩).trans q2) rfl rfl rfl (by simp) (λ b hb=>ho b (by omega)) trivial
 cases e' with
 |normal=>exact go hfin
 |ret=>exact go hfin
 |exit i=>exact hfin.elim
end
section
variable {α:Type}
inductive YieldN(C:Ctx)(y:Value)(encs:α→Array Value)(xs:List α)(ops:List Oper)(st:ASt)(pre:List α)(K:ASt→List α→Bool→Prop):Prop
 | mk (k:Nat) (o:Oper) (f:Operand) (args:Array Operand) (ats:Array TypeId) (rest:List Oper) (hd:ops.drop k=o::rest) (ho:o.op=.call {callee:=.value f,args:=args,argTypes:=ats}) (hg:o.guard=none)
   (hr:kX C.noH (bX C.noH) ops (ops.take k) 0 st λ st1=>∃ x vs stw σ,Weak st1 stw σ∧keepB C.fr σ stw.n=true∧CV stw.h stw.n=true∧Nat.ble stw.n st.n=true∧evA C stw.t f=.v y∧Io (args.toList.map (evA C stw.t))=some vs∧encs x=vs.toArray∧pre++[x] <+: xs∧
    ∀ b:Bool,kX C.noH (bX C.noH) ops rest (k+1) ⟨yU stw.t o.dst (.v (.bool b)),stw.h,st.n⟩ (λ st2=>K st2 (pre++[x]) (!b))):YieldN C y encs xs ops st pre K
inductive LoopY(fr:Nat)(body:ASt→List α→(AEx→ASt→List α→Bool→Prop)→Prop)(st:ASt)(pre:List α)(Q:AEx→ASt→List α→Bool→Prop):Prop
 | mk (κ:Type) (S:κ→ASt) (pr:κ→List α) (G:κ→Prop) (μ:κ→Nat) (k0:κ) (σ:Nat→Nat) (hw:Weak st (S k0) σ) (hf:keepB fr σ (S k0).n=true) (hp:pr k0=pre) (h0:G k0)
   (round:∀ k,G k→body (S k) (pr k) (λ e st' p' s'=>match e with| .normal=>s'=false∧∃ k' σ',Weak st' (S k') σ'∧keepB fr σ' (S k').n=true∧pr k'=p'∧G k'∧μ k'<μ k|e=>Q e st' p' s')):LoopY fr body st pre Q
def codeY(C:Ctx)(y:Value)(encs:α→Array Value)(xs:List α):Code→ASt→List α→Bool→(AEx→ASt→List α→Bool→Prop)→Prop
 | .seq a b,st,pre,s,Q=>codeY C y encs xs a st pre s (λ e st' p' s'=>match e with| .normal=>codeY C y encs xs b st' p' s' Q|e=>Q e st' p' s')
 | .cond c a b,st,pre,s,Q=>match evA C st.t c with| .v (.bool t)=>Branch t (codeY C y encs xs a st pre s Q) (codeY C y encs xs b st pre s Q)|_=>False
 | .block id b,st,pre,s,Q=>codeY C y encs xs b st pre s (λ e st' p' s'=>match e with| .exit i=>(match Nat.beq i id with|true=>Q .normal st' p' s'|false=>Q (.exit i) st' p' s')|e=>Q e st' p' s')
 | .loop b,st,pre,s,Q=>s=false∧LoopY C.fr (λ st p Q=>codeY C y encs xs b st p false Q) st pre Q
 | .region id ops dr,st,pre,s,Q=>fY C (bX C) (.region id ops dr) st (λ e st'=>Q e st' pre s)∨(dr=false∧s=false∧YieldN C y encs xs ops.toList st pre (λ st' p' s'=>Q .normal st' p' s'))
 |c,st,pre,s,Q=>fY C (bX C) c st (λ e st'=>Q e st' pre s)
def vD(N:Nat):Code→Bool
 | .seq a b=>vD N a&&vD N b
 | .cond _ a b=>vD N a&&vD N b
 | .block _ b=>vD N b
 | .loop b=>vD N b
 |c=>oJ N (λ _=>false) c
end
theorem Nw{F:Fence}{n:Nat}{P:Program}{Q:Exit→Act→World→Prop}{a:Act}{w:World}{c:Code}(I:Nat→Act→World→Prop)(m:Nat)(h0:I m a w)
  (round:∀ m a w,I m a w→c.wpIn F n P (Exit.then (λ a' w'=>∃ m',m'<m∧I m' a' w') Q) a w):(Code.loop c).wpIn F n P Q a w:=by
 classical
 have least:∀ (n:Nat) (a:Act) (w:World),(∃ m,m≤n∧I m a w)→∃ m,I m a w∧∀ m',I m' a w→m≤m':=by
  intro n
  induction n with
  |zero=>rintro a w ⟨m,h1,h2⟩;exact⟨m,h2,λ m' _=>by omega⟩
  |succ n ih=>
   rintro a w ⟨m,h1,h2⟩;by_cases hc:∃ m',m'≤n∧I m' a w
   ·exact ih a w hc
   ·exact⟨m,h2,λ m' h'=>Nat.le_of_not_lt λ h=>hc ⟨m',by omega,h'⟩⟩
 have ex:∀ a w,(∃ m,I m a w)→∃ m,I m a w∧∀ m',I m' a w→m≤m':=λ a w ⟨m,h⟩=>least m a w ⟨m,aC _,h⟩
 let μ:Act→World→Nat:=λ a w=>if h:∃ m,I m a w then Classical.choose (ex a w h)else 0
 have hμ:∀ a w,(∃ m,I m a w)→I (μ a w) a w∧∀ m',I m' a w→μ a w≤m':=λ a w h=>by
  have e:μ a w=Classical.choose (ex a w h):=dif_pos h;rw[e];exact mX (ex a w h)
 refine wpIn_loop (λ a w=>∃ m,I m a w) μ ⟨m,h0⟩ λ a w h=>wpIn_mono (round (μ a w) a w (hμ a w h).1) ?_;intro e a' w' h';cases e<;>try exact h'
 obtain⟨m',h1,h2⟩:=h';exact⟨⟨m',h2⟩,bM ((hμ a' w' ⟨m',h2⟩).2 m' h2) h1⟩
section
variable {α:Type}{C:Ctx}{J:Bool→(Nat→Prop)→List α→World→Prop}{W:World}{xs:List α}{encs:α→Array Value}{N l:Nat}
def SYp(C:Ctx)(J:Bool→(Nat→Prop)→List α→World→Prop)(W:World)(xs:List α)(N:Nat)(st:ASt)(pre:List α)(s:Bool)(a:Act)(A:World):Prop:=
 ∃ CC S β,J s CC pre A∧pre <+: xs∧W.heap.size≤A.heap.size∧SimD C (Inv.any C.fr) {W with heap:= #[]} (λ _=>True) N (· <st.n) st.t st.h a A S β∧(∀ b,S b→ ¬ CC b)∧(∀ b,OwnB β b→ ¬ CC b∧W.heap.size≤b)
theorem SYp.step(hJ:∀ s C pre A B,J s C pre A→Same (λ b=>b<W.heap.size∨C b) A B→J s C pre B)(hlt:∀ s C pre A,J s C pre A→∀ b,C b→b<A.heap.size)
  {CC:Nat→Prop} {pre:List α} {s:Bool} {w0:World} {S0:Nat→Prop} {D:Nat→Prop} {t:Nat→AV} {h:AH} {a:Act} {A A':World} {S S':Nat→Prop} {β β':Bt} {V:Inv C.fr}
  (j:J s CC pre A) (hp:pre <+: xs) (hs:W.heap.size≤A.heap.size) (k1:∀ b,S b→ ¬ CC b) (k2:∀ b,OwnB β b→ ¬ CC b∧W.heap.size≤b) (M:SimD C V w0 S0 N D t h a A S β) (P:FrP S A β C.fr S' A' β') (M':A'.os=A.os∧A'.tape=A.tape∧A'.output=A.output):
  J s CC pre A'∧W.heap.size≤A'.heap.size∧(∀ b,S' b→ ¬ CC b)∧(∀ b,OwnB β' b→ ¬ CC b∧W.heap.size≤b):=by
 refine⟨hJ s CC pre A A' j ⟨M'.1,M'.2.1,M'.2.2,P.sz,λ b hb hh=>P.still b hb λ ho=>hh.elim (λ h=>by have:=(k2 b ho).2;omega) (k2 b ho).1⟩,aM hs P.sz,λ b hb hc=>?_,λ b ⟨x,l,h1,h2⟩=>?_⟩
 ·rcases P.nw b hb with h|h|h
  ·exact k1 b h hc
  ·have:=hlt s CC pre A j b hc;omega
  ·exact (k2 b h).1 hc
 ·subst h2;rcases P.own x l h1 with h|h
  ·exact k2 _ h
  ·exact⟨λ hc=>by have:=hlt s CC pre A j _ hc;omega,aM hs h⟩
def aaC(C:Ctx)(J:Bool→(Nat→Prop)→List α→World→Prop)(W:World)(xs:List α)(N:Nat)(Q:AEx→ASt→List α→Bool→Prop)(e:Exit)(a:Act)(A:World):Prop:=∃ e' st pre s,e=Fm e'∧Q e' st pre s∧SYp C J W xs N st pre s a A
theorem KV(hC:CtxOk C)(hJ:∀ s C pre A B,J s C pre A→Same (λ b=>b<W.heap.size∨C b) A B→J s C pre B)(hlt:∀ s C pre A,J s C pre A→∀ b,C b→b<A.heap.size)
  (hY:∀ CC pre x A,J false CC pre A→pre++[x] <+: xs→YieldAt Fence.wide 1 C.P l (encs x) A λ e B=>∃ b,e=.returned (.bool b)∧∃ C',J (!b) C' (pre++[x]) B∧Same (λ b=> ¬ CC b) A B∧(∀ b,C' b→CC b∨A.heap.size≤b)):
  ∀ (c:Code),vD N c=true→∀ (st:ASt) (pre:List α) (s:Bool) (Q:AEx→ASt→List α→Bool→Prop),codeY C (.func (.yield l) #[] #[]) encs xs c st pre s Q→∀ (a:Act) (A:World),SYp C J W xs N st pre s a A→c.wpIn Fence.wide 2 C.P (aaC C J W xs N Q) a A:=by
 have base:∀ (c:Code),oJ N (λ _=>false) c=true→∀ (st:ASt) (pre:List α) (s:Bool) (Q:AEx→ASt→List α→Bool→Prop),fY C (bX C) c st (λ e st'=>Q e st' pre s)→∀ (a:Act) (A:World),SYp C J W xs N st pre s a A→c.wpIn Fence.wide 2 C.P (aaC C J W xs N Q) a A:=by
  rintro c hk st pre s Q hq a A ⟨CC,S,β,j,hp,hs,M,k1,k2⟩;refine wpIn_mono (AQ (V:=Fe S A β C.fr) (Do C.P) hC c hk st _ hq a A S β (M.inv (Ap _ _ _ _)) (tmk.refl _ _)) ?_;rintro e a' A' ⟨e',st',S',β',rfl,h1,M', -⟩;obtain⟨g1,g2,g3,g4⟩:=SYp.step hJ hlt j hp hs k1 k2 M M'.iv ⟨M'.B.os.trans M.B.os.symm,M'.B.tape.trans M.B.tape.symm,M'.B.output.trans M.B.output.symm⟩;exact⟨e',st',pre,s,rfl,h1,CC,S',β',g1,hp,g2,M'.inv trivial,g3,g4⟩
 intro c
 induction c with
 |seq x y ihx ihy=>
  intro hk st pre s Q hq a A M;simp only[vD,aI]at hk;refine wpIn_seq (wpIn_mono (ihx hk.1 st pre s _ hq a A M) ?_);rintro e a' w' ⟨e',st',p',s',rfl,h1,h2⟩
  cases e' with
  |normal=>exact ihy hk.2 st' p' s' Q h1 a' w' h2
  |exit i=>exact⟨.exit i,st',p',s',rfl,h1,h2⟩
  |ret=>exact⟨.ret,st',p',s',rfl,h1,h2⟩
 | cond c x y ihx ihy=>
  intro hk st pre s Q hq a A M;simp only[vD,aI]at hk;simp only[codeY]at hq;split at hq
  ·rename_i b hb;obtain⟨h1,h2⟩:=hq;have M0:=M;obtain⟨CC,S,β,j,hp,hs,M1,k1,k2⟩:=M0;have hv:=rZ M1 c;rw[hb]at hv;exact wpIn_cond_split (lK hv) (λ ht=>ihx hk.1 st pre s Q (h1 ht) a A M) (λ hf=>ihy hk.2 st pre s Q (h2 hf) a A M)
  ·exact hq.elim
 | block id b ih=>
  intro hk st pre s Q hq a A M;refine wpIn_block (wpIn_mono (ih hk st pre s _ hq a A M) ?_);rintro e a' w' ⟨e',st',p',s',rfl,h1,h2⟩
  cases e' with
  |normal=>exact⟨.normal,st',p',s',rfl,h1,h2⟩
  |ret=>exact⟨.ret,st',p',s',rfl,h1,h2⟩
  | exit i=>
   show Exit.inBlock id _ (.exit i) a' w';simp only at h1;simp only[Exit.inBlock];by_cases hi:i=id
   ·subst hi;rw[if_pos rfl];rw[show Nat.beq i i=true from mZ i]at h1;exact⟨.normal,st',p',s',rfl,h1,h2⟩
   ·rw[if_neg hi];have:Nat.beq i id=false:=by rw[←eJ];exact λ e=>hi (aK e)
    rw[this]at h1
    exact⟨.exit i,st',p',s',rfl,h1,h2⟩
 | loop b ih=>
  intro hk st pre s Q hq a A M;obtain⟨rfl,hL⟩:=hq;obtain⟨κ,S,pr,G,μ,k0,σ,hw,hf,rfl,h0,round⟩:=hL;have weak:∀ {st st':ASt} {σ:Nat→Nat} {p:List α} {a:Act} {A:World},Weak st st' σ→keepB C.fr σ st'.n=true→SYp C J W xs N st p false a A→SYp C J W xs N st' p false a A:=by
   rintro st st' σ p a A hw hf ⟨CC,S,β,j,hp,hs,M1,k1,k2⟩;refine⟨CC,S,_,j,hp,hs,pI hw hf M1,k1,λ b ⟨x,l,h1,h2⟩=>?_⟩;simp only at h1;split at h1
   ·exact k2 b ⟨_,l,h1,h2⟩
   ·cases h1
  refine Nw (λ m a A=>∃ k,μ k=m∧G k∧SYp C J W xs N (S k) (pr k) false a A) (μ k0) ⟨k0,rfl,h0,weak hw hf M⟩ ?_;rintro m a A ⟨k,rfl,hG,M⟩;refine wpIn_mono (ih hk _ _ _ _ (round k hG) a A M) ?_;rintro e a' w' ⟨e',st',p',s',rfl,h1,h2⟩
  cases e' with
  |normal=>
   obtain⟨rfl,k',σ',g1,g2,rfl,g4,g5⟩:=h1
   exact⟨μ k',g5,k',rfl,g4,weak g1 g2 h2⟩
  |exit i=>exact⟨.exit i,st',p',s',rfl,h1,h2⟩
  |ret=>exact⟨.ret,st',p',s',rfl,h1,h2⟩
 | region id ops dr=>
  intro hk st pre s Q hq a A M;rcases hq with hq|⟨rfl,rfl,hq⟩
  ·exact base _ hk st pre s Q hq a A M
  obtain⟨k,o,f,args,ats,rest,hd,ho,hg,hr⟩:=hq;obtain⟨CC,S,β,j,hp,hs,M,k1,k2⟩:=M;obtain⟨t,h,n⟩:=st;simp only[vD,oJ,aI]at hk;have hko:ops.toList[k]?=some o:=by
   have:(ops.toList.drop k)[0]?=some o:=by rw[hd];rfl
   simpa using this
  have hoj:ops[k]?=some o:=by rw[←hko,bG]
  have hklt:k<ops.toList.length:=(Dq.1 hko).1;have hsz:ops.size=k+(1+rest.length):=by
   have:=congrArg List.length hd;simp at this;simp at hklt;omega
  have hrest:ops.toList.drop (k+1)=rest++[]:=by rw[←kU,hd];simp
  have htk:(ops.toList.take k).length=k:=by simp at hklt⊢;omega
  have hrange:List.range ops.size=List.range' 0 (ops.toList.take k).length++(k::(List.range' (k+1) rest.length++[])):=by
   rw[nX,hsz,htk,dQ, ←List.range'_append_1,bL,iE 1,nU]
  refine wpIn_region ?_;rw[hrange];refine AR (C:=C.noH) (V:=Fe S A β C.fr) (kp:=λ _=>false) (a0:=a) (Do C.P) hC.noH (λ _ _ _ _ _ h=>h) rfl hk.1 hk.2 _ (ops.toList.take k) 0 t h a A S β ⟨ops.toList.drop k,by simp⟩ hr ((M.inv (Ap _ _ _ _)).noH) (tmk.refl _ _) ?_;rintro st1 a1 A1 S1 β0 ⟨x,vs,stw,σ,hW,hkp,hfull,hnn,hf,hvs,henc,hpx,hb⟩ M0 -;obtain⟨g1,g2,g3,g4⟩:=SYp.step hJ hlt j hp hs k1 k2 M M0.iv ⟨M0.B.os.trans M.B.os.symm,M0.B.tape.trans M.B.tape.symm,M0.B.output.trans M.B.output.symm⟩;have M1:=pI (C:=C.noH) hW hkp M0;have hfl:=tN hfull;have hnn:=aO hnn;have g5:∀ b,OwnB (λ s=>if s<stw.n then β0 (σ s)else none) b→ ¬ CC b∧W.heap.size≤b∧b<A1.heap.size:=by
   rintro b ⟨y,l,h1,h2⟩;subst h2;obtain⟨blk,hblk⟩:=Da.1 (hfl y (M1.dom y l h1));obtain⟨l',cs,e,fr,q1,q2, -⟩:=M1.H.own y blk hblk;simp only at h1 q1;rw[h1]at q1;cases q1;split at h1
   ·exact⟨(g4 _ ⟨_,l,h1,rfl⟩).1,(g4 _ ⟨_,l,h1,rfl⟩).2,fQ q2⟩
   ·cases h1
  generalize (λ s=>if s<stw.n then β0 (σ s)else none)=β1 at M1 g5;have hfe:a1.eval f=.func (.yield l) #[] #[]:=by
   have:=rZ M1 f;rw[show evA C.noH stw.t f=evA C stw.t f from rfl,hf]at this;exact lK this
  have hargs:args.map a1.eval=encs x:=by
   rw[henc];have hrl:RepL S1 A1 β1 (args.toList.map (evA C.noH stw.t)) (args.toList.map a1.eval):=⟨by simp,λ i y u p q=>by
    rw[aZ]at p q
    cases hi:args.toList[i]? with
    |none=>rw[hi]at p;cases p
    |some z=>rw[hi]at p q;cases p;cases q;exact rZ M1 z⟩
   have:=JX (show Io (args.toList.map (evA C.noH stw.t))=some vs from hvs) hrl;rw[←this];apply Array.ext';simp
  have hY1:=hY CC pre x A1 g1 hpx;refine HP hoj hg (KZ (Do C.P) ho hfe hargs hY1 ?_);rintro b B ⟨C',j',hsame,hgrow⟩;have M2:SimD C.noH (Fe S1 B β1 C.fr) {W with heap:= #[]} (λ _=>True) N (· <stw.n) stw.t stw.h a1 B S1 β1:=
   (M1.inv (V':=Inv.any C.noH.fr) trivial).move (λ b hb=>hsame.block b (M1.H.lt b hb) (g3 b hb)) (λ s l o q1 q2=>(hsame.block _ (fQ q2) (g5 _ ⟨s,l,q1,rfl⟩).1).trans q2) hsame.os hsame.tape hsame.output hsame.size (λ b hb=>absurd hb (dY _)) (Ap _ _ _ _)
  have hslot:=vP hk.1 (aB hko);have M3:SimD C.noH (Fe S1 B β1 C.fr) {W with heap:= #[]} (λ _=>True) N (· <n+(k+1)) (yU stw.t o.dst (.v (.bool b))) stw.h (a1.put o.dst (.bool b)) B S1 β1:=by
   refine⟨Of a1 M2.T (.v _) (λ k hk=>by rw[M2.sz];exact hslot k hk),M2.H,M2.B,λ y l hy=>(by have:y<stw.n:=M2.dom y l hy;simp only at hnn;show y<n+(k+1);omega),?_,?_,M2.G,M2.nw,M2.iv⟩
   ·cases o.dst<;>exact M2.df
   ·cases o.dst with
    |none=>exact M2.sz
    |some k=>simp only[Act.put,iW];exact M2.sz
  refine AR (C:=C.noH) (V:=Fe S1 B β1 C.fr) (kp:=λ _=>false) (a0:=a1.put o.dst (.bool b)) (Do C.P) hC.noH (λ _ _ _ _ _ h=>h) rfl hk.1 hk.2 [] rest (k+1) _ _ _ B S1 β1 ⟨[],hrest⟩ (hb b) M3 (tmk.refl _ _) ?_;rintro st2 a2 A2 S2 β2 hK M4 -;obtain⟨f1,f2,f3,f4⟩:=SYp.step (CC:=C') hJ hlt j' hpx (aM g2 hsame.size) (λ b hb hc=>(hgrow b hc).elim (g3 b hb) (λ h=>by have:=M1.H.lt b hb;omega)) (λ b hb=>⟨λ hc=>(hgrow b hc).elim (g5 b hb).1 (λ h=>by have:=(g5 b hb).2.2;omega),(g5 b hb).2.1⟩) M3.ofNoH M4.iv ⟨M4.B.os.trans M3.B.os.symm,M4.B.tape.trans M3.B.tape.symm,M4.B.output.trans M3.B.output.symm⟩
  exact⟨.normal,st2,_,_,rfl,hK,C',S2,β2,f1,hpx,f2,M4.ofNoH.inv trivial,f3,f4⟩
 |_=>intro hk st pre s Q hq;exact base _ hk st pre s Q hq
end
theorem Td.intro{α:Type}{C:Ctx}(hC:CtxOk C){g:FuncId}{fn:Func}{body:Code}{caps:List AV}{encs:α→Array Value}{xs:List α}(hf:C.P.funcs[g]?=some fn)(hb:fn.body=some body)(hres:fn.results.toList=[])
  (hN:vD fn.ntmps body=true) (hlen:Nat.ble (caps.length+1) fn.ntmps=true)
  (hw:∀ y,codeY C y encs xs body ⟨argsT (.v y::caps),λ _=>none,0⟩ [] false (λ e _ pre s=>match e with| .exit _=>False|_=>s=false→pre=xs)) (hdf:C.df=[]:=by rfl):Td C g caps encs xs:=by
 intro R w us hRlt hG hus l J C0 W hRW hdis hJ hJlt hY h0;have hlen:=aO hlen;have same:∀ b,R b→W.heap[b]?=w.heap[b]? :=λ b hb=>hRW.block b (hRlt b hb) hb;refine callsIn_wide.1 (callsIn_of_wp_marks (n:=2) hf hb trivial ?_);have hul:us.length=caps.length:=hus.1.symm;have M0:SYp C J W xs fn.ntmps ⟨argsT (.v (.func (.yield l) #[] #[])::caps),λ _=>none,0⟩ [] false {tmps:=(#[Value.func (.yield l) #[] #[]]++us.toArray)++Array.replicate (fn.ntmps - (#[Value.func (.yield l) #[] #[]]++us.toArray).size) undef,defers:=[]} W:=by
  refine⟨C0,R,noB,h0,List.nil_prefix,aC _,⟨λ i=>?_,⟨λ s blk h=>(by cases h),λ s s' l l' h=>absurd rfl h,λ b hb=>Nat.lt_of_lt_of_le (hRlt b hb) hRW.size,aE _⟩,⟨rfl,rfl,rfl,aE _,λ b hb=>by simp at hb⟩,λ x l h=>(by cases h),hdf.symm,?_,λ g cells hg=>yH (hG g cells hg) (λ _ h=>h) same (λ s l _ _ _ e=>by cases e),λ _ _=>.inl trivial,trivial⟩,hdis,λ b ⟨x,l,h1,_⟩=>by cases h1⟩
  ·show Rep R W noB (argsT (.v (.func (.yield l) #[] #[])::caps) i) (Array.getD _ i undef);rw[yQ,aJ]
   cases i with
   |zero=>
    rw[dK (by simp),dK (by simp)]
    exact .v _
   | succ i=>
    rw[dE]
    cases ha:caps[i]? with
    |none=>exact .any _
    |some x=>
     have hi:i<us.length:=by rw[hul];exact (Dq.1 ha).1
     have hv:us[i]?=some us[i]:=aA hi;rw[dK (by simp;omega),Array.getElem?_append_right (by simp)];simp only[mO,bN,cU,gG,eK,hv,gF];exact yH (hus.2 i x _ ha hv) (λ _ h=>h) same (λ s l _ _ _ e=>by cases e)
  ·simp;omega
 refine wpIn_mono (KV hC hJ hJlt hY body hN _ _ _ _ (hw _) _ W M0) ?_;rintro e a' A ⟨e',st,pre,s,rfl,hq,CC,S,β,j,hp,hs,M,k1,k2⟩;have fin:(s=false→pre=xs)→LeavesInM Fence.wide 2 C.P fn a'.tmps (λ e W'=>(∃ v,e=.returned v)∧((∃ C,J false C xs W')∨∃ C pre,pre <+: xs∧J true C pre W')) a'.defers .returning A:=by
  intro hq;rw[M.df,hdf];refine⟨_,xG [] [] rfl fn hres,⟨_,rfl⟩,?_⟩
  cases s with
  |false=>obtain rfl:=hq rfl;exact .inl ⟨CC,j⟩
  |true=>exact .inr ⟨CC,pre,hp,j⟩
 cases e' with
 |normal=>exact fin hq
 |ret=>exact fin hq
 |exit i=>exact hq.elim
theorem CtxOk.wd{C:Ctx}(h:CtxOk C)(d:Option Nat):CtxOk (C.wd d):=⟨h.ty,h.mixed,h.hH⟩
def Up:Code→Bool
 | .seq _ _=>false
 | .cond _ _ _=>false
 | .block _ _=>false
 | .scope _=>false
 | .loop _=>false
 | .rangeFunc _ _ _ _=>false
 |_=>true
section
variable {C:Ctx}{d:Option Nat}{Q:Option Nat→AEx→ASt→Prop}{t:Nat→AV}{h:AH}{n:Nat}
theorem yP{a b:Code}{st:ASt}(k:vF C a d st (λ d' e st'=>match e with| .normal=>vF C b d' st' Q|e=>Q d' e st')):vF C (.seq a b) d st Q:=k
theorem Uq{c:Operand}{a b:Code}{v:Bool}(hv:evA C t c=.v (.bool v))(k1:v=true→vF C a d ⟨t,h,n⟩ Q)(k2:v=false→vF C b d ⟨t,h,n⟩ Q):vF C (.cond c a b) d ⟨t,h,n⟩ Q:=by
 simp only[vF,hv];exact .mk k1 k2
theorem KW{id:Nat}{b:Code}{st:ASt}(k:vF C b d st (λ d' e st'=>match e with| .exit i=>(match Nat.beq i id with|true=>Q d' .normal st'|false=>Q d' (.exit i) st')|e=>Q d' e st')):vF C (.block id b) d st Q:=k
theorem Wi{b:Code}{st:ASt}(k:vF C b d st Q):vF C (.scope b) d st Q:=k
theorem yG{c:Code}{st:ASt}(hc:Up c=true)(k:fY (C.wd d) (bX (C.wd d)) c st (Q d)):vF C c d st Q:=by
 cases c<;>first|exact k|cases hc
theorem Yl{b:Code}{st:ASt}(k:fY (C.wd d) (bX (C.wd d)) (.loop b) st (Q d)):vF C (.loop b) d st Q:=k
theorem Qo{g:Operand}{ps:Array Tmp}{a b:Code}{st:ASt}(k:GhostN st λ stg=>∃ stw σ,Weak stg stw σ∧keepB C.fr σ stw.n=true∧RangeN C stw g ps.toList a b (λ e st'=>∀ D,Q (some D) e st')):vF C (.rangeFunc g ps a b) none st Q:=⟨rfl,k⟩
end
theorem Ym{C:Ctx}{R:FuncId→List AV→AV→Prop}{Q:AEx→ASt→Prop}{l:Nat}{st:ASt}(k:Q .normal st):fY C R (.label l) st Q:=k
section
variable {α:Type}{C:Ctx}{y:Value}{encs:α→Array Value}{xs pre:List α}{s:Bool}{Q:AEx→ASt→List α→Bool→Prop}{t:Nat→AV}{h:AH}{n:Nat}
theorem vK{a b:Code}{st:ASt}(k:codeY C y encs xs a st pre s (λ e st' p' s'=>match e with| .normal=>codeY C y encs xs b st' p' s' Q|e=>Q e st' p' s')):codeY C y encs xs (.seq a b) st pre s Q:=k
theorem Ew{c:Operand}{a b:Code}{v:Bool}(hv:evA C t c=.v (.bool v))(k1:v=true→codeY C y encs xs a ⟨t,h,n⟩ pre s Q)(k2:v=false→codeY C y encs xs b ⟨t,h,n⟩ pre s Q):codeY C y encs xs (.cond c a b) ⟨t,h,n⟩ pre s Q:=by
 simp only[codeY,hv];exact .mk k1 k2
theorem Cn{id:Nat}{b:Code}{st:ASt}(k:codeY C y encs xs b st pre s (λ e st' p' s'=>match e with| .exit i=>(match Nat.beq i id with|true=>Q .normal st' p' s'|false=>Q (.exit i) st' p' s')|e=>Q e st' p' s')):codeY C y encs xs (.block id b) st pre s Q:=k
theorem rO{c:Code}{st:ASt}(hc:Up c=true)(k:fY C (bX C) c st (λ e st'=>Q e st' pre s)):codeY C y encs xs c st pre s Q:=by
 cases c<;>first|exact Or.inl k|exact k|cases hc
theorem Qp{b:Code}{st:ASt}{κ:Type}(S:κ→ASt)(pr:κ→List α)(G:κ→Prop)(μ:κ→Nat)(k0:κ)(σ:Nat→Nat)(hw:Weak st (S k0) σ)(hf:keepB C.fr σ (S k0).n=true)(hp:pr k0=pre)(h0:G k0)
  (round:∀ k,G k→codeY C y encs xs b (S k) (pr k) false (λ e st' p' s'=>match e with| .normal=>s'=false∧∃ k' σ',Weak st' (S k') σ'∧keepB C.fr σ' (S k').n=true∧pr k'=p'∧G k'∧μ k'<μ k|e=>Q e st' p' s')):codeY C y encs xs (.loop b) st pre false Q:=
 ⟨rfl,.mk κ S pr G μ k0 σ hw hf hp h0 round⟩
theorem Qq{id:Nat}{ops:Array Oper}{l:List Oper}{st:ASt}(hl:ops.toList=l)(k:Nat){o:Oper}{f:Operand}{args:Array Operand}{ats:Array TypeId}{rest:List Oper}(hd:l.drop k=o::rest)(ho:o.op=.call {callee:=.value f,args:=args,argTypes:=ats})(hg:o.guard=none)
  (hr:kX C.noH (bX C.noH) l (l.take k) 0 st λ st1=>∃ x vs stw σ,Weak st1 stw σ∧keepB C.fr σ stw.n=true∧CV stw.h stw.n=true∧Nat.ble stw.n st.n=true∧evA C stw.t f=.v y∧Io (args.toList.map (evA C stw.t))=some vs∧encs x=vs.toArray∧pre++[x] <+: xs∧
    ∀ b:Bool,kX C.noH (bX C.noH) l rest (k+1) ⟨yU stw.t o.dst (.v (.bool b)),stw.h,st.n⟩ (λ st2=>Q .normal st2 (pre++[x]) (!b))):codeY C y encs xs (.region id ops false) st pre false Q:=by
 subst hl;exact .inr ⟨rfl,rfl,.mk k o f args ats rest hd ho hg hr⟩
end
set_option maxRecDepth 100000
set_option maxHeartbeats 4000000
def unV:AV→Value
 | .v x=>x
 |_=>undef
def aaM(e:Ent):Value:=.agg ((enL e).map unV).toArray
def XI(x:Nat×Ent):Array Value:= #[.int .i64 (x.1:Int),aaM x.2]
def yM(rob:List Ent):Nat→List (Nat×Ent)
 |0=>[]
 |n+1=>match rob[n]? with|some e=>(n,e)::yM rob n|none=>yM rob n
theorem Jg{rob:List Ent}:∀ {n:Nat},n≤rob.length→(yM rob n).length=n
 |0,_=>rfl
 |n+1,h=>by
  have e:rob[n]?=some rob[n]:=aA h;simp only[yM,e,bN,Jg (mR h)]
theorem LN{rob:List Ent}:∀ {n k:Nat} {x:Ent},n≤rob.length→0<k→k≤n→rob[k - 1]?=some x→(yM rob n)[n - k]?=some (k - 1,x)
 |0,k,x,_,h1,h2,_=>by omega
 | n+1,k,x,h,h1,h2,hx=>by
  have e:rob[n]?=some rob[n]:=aA h;simp only[yM,e];by_cases hk:k=n+1
  ·subst hk;rw[gG,e]at hx;cases hx
   simp
  ·rw[show n+1 - k=(n - k)+1 by omega,dE];exact LN (mR h) h1 omT hx
theorem zI{rob:List Ent}:∀ {n:Nat} {x:Nat×Ent},x∈yM rob n→x.1<n∧rob[x.1]?=some x.2
 |0,x,h=>by cases h
 | n+1,x,h=>by
  simp only[yM]at h;split at h
  ·rename_i e he;rcases al_List_mem_cons.1 h with rfl|h
   ·exact⟨Nat.lt_succ_self _,he⟩
   ·exact⟨mQ (zI h).1,(zI h).2⟩
  ·exact⟨mQ (zI h).1,(zI h).2⟩
def Hi(rob:List Ent)(n k:Nat):List (Nat×Ent):=(yM rob n).take (n - k)
theorem FL{rob:List Ent}{n k:Nat}{x:Ent}(hn:n≤rob.length)(h1:0<k)(h2:k≤n)(hx:rob[k - 1]?=some x):Hi rob n (k - 1)=Hi rob n k++[(k - 1,x)]:=by
 unfold Hi;rw[show n - (k - 1)=(n - k)+1 by omega,bR,LN hn h1 h2 hx];rfl
theorem Pj{rob:List Ent}{n k:Nat}:Hi rob n k <+: yM rob n:=List.take_prefix _ _
theorem Pk{rob:List Ent}{n:Nat}(hn:n≤rob.length):Hi rob n 0=yM rob n:=by
 unfold Hi;rw[Nat.sub_zero];exact aL (Nat.le_of_eq (Jg hn))
theorem KD{rob:List Ent}{n:Nat}:Hi rob n n=[]:=by
 unfold Hi;rw[fF];rfl
theorem Zh(rob:List Ent)(ck:Bool)(i:Nat)(hl:rob.length≤1000)(ho:∀ x∈rob,x.ok)(hi:i≤1000):Td C0 217 [.dp 1 0 ([vN i]),.dp 1 0 ([.sl 17 (rob.map enL) ck])] XI (yM rob (min i rob.length)):=by
 refine Td.intro c0Ok Tryz.func217 rfl rfl (by kernel_rfl) rfl ?_;intro y;refine vK<|rO rfl<|cRg<|oR 2 rfl<|rW (vN rob.length) rfl (bY enL rob)<|rW (vN (min i rob.length)) rfl (BG i rob.length)<|oR 1 rfl<|rE 5<|Cn<|Qp (κ:=Nat) (λ k=>⟨slotsF [(0,.v y),(1,.dp 1 0 ([vN i])),(2,.dp 1 0 ([.sl 17 (rob.map enL) ck])),(4,vN k)],heapF [],5⟩) (λ k=>Hi rob (min i rob.length) k) (λ k=>k≤min i rob.length) (λ k=>k) (min i rob.length) (λ s=>s) (Weak.of_lists (λ s=>s) wT trivial rfl) rfl (KD) (aC _) ?_;intro k hk;have hkB:k≤1000:=by have:k≤min i rob.length:=hk;omega
 refine vK<|vK<|rO rfl<|cRg<|oR 1 rfl<|rW (vB (decide (k>0))) rfl (okB (gtN _ _))<|rE 7<|Ew (v:=decide (k>0)) rfl (λ h1=>?_) (λ h1=>?_)
 ·have h1p:=of_decide_eq_true h1;refine rO rfl<|bB<|vK<|Cn<|vK<|Qq rfl 8 rfl rfl rfl<|oR 2 rfl ?_;have b1:k - 1≤1000:=aM (jQ _ _) hkB;refine rW (vN (k - 1)) rfl (okI (CG omT hkB rfl))<|oR 2 rfl ?_;have b2:k - 1≤1000:=aM (jQ _ _) hkB;refine rW (vN (k - 1)) rfl (okI (CG omT hkB rfl)) ?_;obtain⟨x,hx⟩:∃ y_,rob[(k - 1)]?=some y_:=⟨_,aA omT⟩;have hxo:=ho x (aB hx);refine rIx (enL x) (.dp 17 0 (enL x)) rfl rfl (iB hx) rfl<|oR 1 rfl<|rE 15 ?_;refine⟨(k - 1,x),_,⟨slotsF [(0,.v y),(1,.dp 1 0 ([vN i])),(2,.dp 1 0 ([.sl 17 (rob.map enL) ck])),(4,vN k),(13,.v y),(15,vN (k - 1)),(20,.agg (enL x))],heapF [],0⟩,λ s=>s,Weak.of_lists _ wT trivial rfl,rfl,rfl,rfl,rfl,rfl,rfl,(by rw[←FL (eW _ _) h1p hk hx];exact Pj),λ yb1=>?_⟩;refine oR 1 rfl<|rE 17<|Ew (v:= !yb1) rfl (λ h2=>?_) (λ h2=>?_)
  ·refine rO rfl<|cO ?_;intro hs;rw[h2]at hs;cases hs
  ·refine rO rfl<|bB<|rO rfl<|cRg<|oR 1 rfl ?_;have b3:k - 1≤1000:=aM (jQ _ _) hkB;refine rW (vN (k - 1)) rfl (okI (CG omT hkB rfl))<|oR 1 rfl<|rE 20 ?_;refine⟨h2,k - 1,λ s=>s,Weak.of_lists _ wT trivial rfl,rfl,(FL (eW _ _) h1p hk hx),(by show k - 1≤min i rob.length;omega),(by show k - 1<k;omega)⟩
 ·have h1p:=aD h1;refine rO rfl<|eE ?_;intro _;obtain rfl:k=0:=by omega
  exact Pk (eW _ _)
theorem Cy{rob:List Ent}{reg:Int}:∀ {n:Nat},n≤rob.length→(∀ y,y∈yM rob n→ ¬ wr y.2.i=reg)→zM rob reg n=none
 |0,_,_=>rfl
 |n+1,h,hN=>by
  have e:rob[n]?=some rob[n]:=aA h;simp only[yM,e]at hN;have h0: ¬ wr rob[n].i=reg:=hN (n,rob[n]) bD;simp only[zM,KI,e];rw[if_neg (by simpa using h0)];exact Cy (mR h) λ y hy=>hN y (bF _ hy)
theorem Cz{rob:List Ent}{reg:Int}:∀ {n:Nat} {pre:List (Nat×Ent)} {x:Nat×Ent},n≤rob.length→pre++[x] <+: yM rob n→(∀ y,y∈pre→ ¬ wr y.2.i=reg)→wr x.2.i=reg→zM rob reg n=some x.1
 |0,pre,x,_,h,_,_=>by have:=h.length_le;simp[yM]at this
 | n+1,pre,x,hn,h,hN,hx=>by
  have e:rob[n]?=some rob[n]:=aA hn;simp only[yM,e]at h;simp only[zM,KI,e]
  cases pre with
  | nil=>
   obtain rfl:x=(n,rob[n]):=by
    obtain⟨t,ht⟩:=h;exact (List.cons.inj ht).1
   rw[if_pos (by simpa using hx)]
  |cons y l=>
   obtain⟨t,ht⟩:=h;obtain⟨h3,h4⟩:=List.cons.inj ht;subst h3;have h0: ¬ wr rob[n].i=reg:=hN (n,rob[n]) bD;rw[if_neg (by simpa using h0)];exact Cz (mR hn) ⟨t,h4⟩ (λ y hy=>hN y (bF _ hy)) hx
theorem Zi(rob:List Ent)(ck:Bool)(i:Nat)(hl:rob.length≤1000)(ho:∀ x∈rob,x.ok)(hi:i≤1000):bX C0 201 [.sl 17 (rob.map enL) ck,vN i] (.clo 217 [] [.dp 1 0 [vN i],.dp 1 0 [.sl 17 (rob.map enL) ck]]):=by
 refine bX.intro c0Ok Tryz.func201 rfl rfl (by kernel_rfl) rfl<|cSR<|rAl 0 rfl rfl<|rAl 1 rfl rfl<|oR 1 rfl<|rE 3<|cSR<|rV (.clo 217 [] [.ptr 1 0,.ptr 0 0]) rfl<|oR 1 rfl<|rE 5<|cO ?_;exact fG rfl tvT rfl rfl
theorem Pl(rob:List Ent)(ck:Bool)(i:Nat)(reg:Int)(hl:rob.length≤1000)(ho:∀ x∈rob,x.ok)(hi:i≤1000):bX C0 157 [.sl 17 (rob.map enL) ck,vN i,vI reg] (vI (CS (gV rob i reg))):=by
 refine bX.introR (C:=C0) (λ d=>c0Ok.wd d) (λ n=>c0Ok.at) Tryz.func157 rfl rfl (by kernel_rfl) rfl<|yP<|yG rfl<|cRg<|rAl 0 rfl rfl<|rAl 1 rfl rfl<|rE 2<|yP<|yP<|yG rfl<|cRg<|oR 1 rfl<|rV (vB (decide (reg<1))) rfl<|oR 1 rfl<|gN rfl<|gBS (x:=vB (decide (reg>31))) rfl id rfl<|cV rfl rfl rfl (by simp)<|rE 8<|Uq (v:=cZ (decide (reg<1)) true (decide (reg>31))) rfl (λ h1=>?_) (λ h1=>?_)
 ·refine yP<|yG rfl<|cRg<|rSt rfl<|rE 9<|yG rfl<|cO ?_;have hb:(reg<1∨reg>31):=by have z:=h1;simp only[cOr]at z;grind
  have e:gV rob i reg=none:=if_pos hb;rw[e];exact fT rfl rfl
 ·refine yG rfl<|bB<|yP<|yP<|yG rfl<|cRg<|oR 2 rfl<|rCi rfl (Zi rob ck i hl ho hi)<|rE 11<|KW<|Qo (.mk _ (.refl _) ⟨⟨slotsF [(5,.ptr 0 0),(6,.ptr 1 0),(17,.clo 217 [] [.dp 1 0 ([vN i]),.dp 1 0 ([.sl 17 (rob.map enL) ck])])],heapF [(0,.box [vI reg]),(1,.box [vI 0])],2⟩,λ s=>s,Weak.of_lists _ wT wH rfl,rfl,?_⟩);refine .mk (Nat×Ent) 217 [.dp 1 0 ([vN i]),.dp 1 0 ([.sl 17 (rob.map enL) ck])] (λ x:Nat×Ent=>[vN x.1,.agg (enL x.2)]) XI (yM rob (min i rob.length)) (λ x:Nat×Ent=> ¬ wr x.2.i=reg) rfl rfl ⟨_,Tryz.func217,rfl,rfl⟩ (Zh rob ck i hl ho hi) (λ x S w β=>Db (show Io [vN x.1,.agg (enL x.2)]=some _ from rfl)) (λ _=>rfl) rfl ?_ ?_
  ·intro pre_ x hp_ hN_;have hxm:=zI (hp_.subset (List.mem_append_right _ (tO.2 rfl)));have hx1:x.1≤1000:=by have:=hxm.1;omega
   have hxo:=ho x.2 (aB hxm.2);refine cSR<|oR 1 rfl<|rE 3<|cRg<|rAl 3 rfl rfl<|rSt rfl<|rE 5 ?_;refine⟨rfl,?_⟩;refine bK<|cSR<|oR 2 rfl<|rCi rfl (HC x.2.i)<|oR 1 rfl<|rV (vB ((wr x.2.i)==reg)) rfl<|rE 10<|aW rfl (λ h2=>?_) (λ h2=>?_)
   ·have h2p:=mU h2;refine cSR<|oR 1 rfl<|rSt rfl<|rE 12<|cO<|.mk _ (.refl _) ⟨heapF [(0,.box [vI reg]),(1,.box [vN x.1])],λ s=>s,rfl,Weak.of_lists (l:=[]) (hp:=[(0,.box [vI reg]),(1,.box [vN x.1])]) (λ s=>s) trivial wH rfl,?_⟩;intro D;have hb: ¬ (reg<1∨reg>31):=by have z:=h1;simp only[cOr]at z;grind
    have e:gV rob i reg=some x.1:=(if_neg hb).trans (Cz (eW _ _) hp_ hN_ (mU h2));rw[e];exact fT rfl rfl
   ·have h2p:=mV h2;refine bB ?_;exact⟨mV h2,.mk _ (.refl _) ⟨λ s=>s,rfl,Weak.of_lists (l:=[]) (hp:=[(0,.box [vI reg]),(1,.box [vI 0])]) (λ s=>s) trivial wH rfl⟩⟩
  ·intro hN D;refine yP<|yG rfl<|cRg<|rSt rfl<|rE 3<|yG rfl<|cO ?_;have hb: ¬ (reg<1∨reg>31):=by have z:=h1;simp only[cOr]at z;grind
   have e:gV rob i reg=none:=(if_neg hb).trans (Cy (eW _ _) hN);rw[e];exact fT rfl rfl
theorem FK{rob:List Ent}{reg:Int}:∀ {n k:Nat},zM rob reg n=some k→k<n
 |0,k,h=>by cases h
 |n+1,k,h=>by
  simp only[zM]at h;split at h
  ·injection h with h;omega
  ·have:=FK h;omega
theorem DZ{rob:List Ent}{i k:Nat}{reg:Int}(h:gV rob i reg=some k):k<i∧k<rob.length:=by
 unfold gV at h;split at h
 ·cases h
 ·have:=FK h;omega
theorem LL{o:Option Nat}(h:CS o<0):o=none:=by cases o with|none=>rfl|some k=>exact absurd h (by show ¬ ((k:Int)<0);omega)
theorem Hh{o:Option Nat}(h: ¬ CS o<0):∃ k,o=some k:=by cases o with|none=>exact absurd (by decide) h|some k=>exact⟨k,rfl⟩
theorem Jf(rob:List Ent)(r:Nat→Nat)(ck:Bool)(i:Nat)(reg:Int)(hl:rob.length≤1000)(ho:∀ x∈rob,x.ok)(hr:∀ k,r k≤4294967295)(hi:i≤1000):bX C0 101 [.sl 17 (rob.map enL) ck,.agg (Jl r),vN i,vI reg] (.tup [vU ((kY rob r i reg).getD 0),vB (kY rob r i reg).isSome]):=by
 refine bX.intro c0Ok Tryz.func101 rfl rfl (by kernel_rfl) rfl<|cSR<|rAl 0 rfl rfl<|oR 2 rfl<|rE 3<|bW<|cSR<|oR 1 rfl<|rV (vB (reg==0)) rfl<|rE 5<|aW rfl (λ h1=>?_) (λ h1=>?_)
 ·have h1p:=mU h1;refine cSR<|oR 2 rfl<|rE 7<|cO ?_;have hrd:kY rob r i reg=some 0:=by unfold kY;rw[if_pos h1p]
  exact fT rfl (by rw[hrd];rfl)
 ·have h1p:=mV h1;refine bB<|bW<|cSR<|oR 1 rfl<|rV (vB (decide (reg<0))) rfl<|oR 1 rfl<|gN rfl<|gBS (x:=vB (decide (reg>31))) rfl id rfl<|cV rfl rfl rfl (by simp)<|rE 11<|aW rfl (λ h2=>?_) (λ h2=>?_)
  ·have hb:(reg<0∨reg>31):=by have z:=h2;simp only[cOr]at z;grind
   refine cSR<|oR 2 rfl<|rE 13<|cO ?_;have hrd:kY rob r i reg=none:=by unfold kY;rw[if_neg h1p,if_pos hb]
   exact fT rfl (by rw[hrd];rfl)
  ·have hb: ¬ (reg<0∨reg>31):=by have z:=h2;simp only[cOr]at z;grind
   refine bB<|cSR<|oR 3 rfl<|rCi rfl (Pl rob ck (i) (reg) hl ho omT)<|oR 1 rfl<|rE 16<|bW<|cSR<|oR 1 rfl<|rV (vB (decide ((CS (gV rob (i) (reg)))<0))) rfl<|rE 18<|aW rfl (λ h3=>?_) (λ h3=>?_)
   ·have h3p:=of_decide_eq_true h3;have hj:=LL h3p;refine cSR<|oR 1 rfl<|nW (.ptr 0 (0+reg.toNat * 1)) rfl rfl omT<|rW (vU (r reg.toNat)) rfl (ldL r reg.toNat omT)<|oR 2 rfl<|rE 23<|cO ?_;have hrd:kY rob r i reg=some (r reg.toNat):=by unfold kY;rw[if_neg h1p,if_neg hb,hj]
    exact fT rfl (by rw[hrd];rfl)
   ·have h3p:=aD h3;obtain⟨j,hj⟩:=Hh h3p;have hjl:=DZ hj;obtain⟨x,hx⟩:∃ x,rob[j]?=some x:=⟨_,aA hjl.2⟩;refine bB<|bW<|cSR<|oR 2 rfl<|Ih (enL x) (x:=.dp 17 0 (enL x)) rfl rfl rfl (by rw[hj];exact⟨aG _,iB hx⟩) rfl<|oR 1 rfl<|rAl 22 rfl rfl<|rSt rfl<|rE 24<|cSR<|oR 2 rfl<|rV (vB (x.is==3)) rfl<|oR 1 rfl<|gN rfl<|gS rfl id<|gBS (x:=vB (x.halt==0)) rfl id rfl<|cV rfl rfl rfl (λ h=>h)<|rE 32<|aW rfl (λ h4=>?_) (λ h4=>?_)
    ·refine cSR<|oR 4 rfl<|rE 36<|cO ?_;have hd:(x.is=3∧x.halt=0):=by have z:=h4;simp only[pY]at z;grind
     have hrd:kY rob r i reg=some x.value:=by unfold kY;rw[if_neg h1p,if_neg hb,hj];simp only[hx];exact if_pos hd
     exact fT rfl (by rw[hrd];rfl)
    ·refine bB<|cSR<|oR 2 rfl<|rE 34<|cO ?_;have hd: ¬ (x.is=3∧x.halt=0):=by have z:=h4;simp only[pY]at z;grind
     have hrd:kY rob r i reg=none:=by unfold kY;rw[if_neg h1p,if_neg hb,hj];simp only[hx];exact if_neg hd
     exact fT rfl (by rw[hrd];rfl)
theorem Bv{rob:List Ent}{r:Nat→Nat}(ho:∀ x∈rob,x.ok)(hr:∀ k,r k≤4294967295)(i:Nat)(reg:Int):(kY rob r i reg).getD 0≤4294967295:=by
 unfold kY;split
 ·exact aE _
 ·split
  ·exact aE _
  ·split
   ·exact hr _
   ·split
    ·rename_i e he;split
     ·exact (ho e (aB he)).value
     ·exact aE _
    ·exact aE _
theorem Ue(rob:List Ent)(r:Nat→Nat)(ck:Bool)(i:Nat)(hl:rob.length≤1000)(ho:∀ x∈rob,x.ok)(hr:∀ k,r k≤4294967295)(hi:i≤1000):bX C0 164 [.sl 17 (rob.map enL) ck,.agg (Jl r),vN i] (.tup [vU (lL rob r i).1,vU (lL rob r i).2.1,vB (lL rob r i).2.2]):=by
 refine bX.intro c0Ok Tryz.func164 rfl rfl (by kernel_rfl) rfl<|cSR<|rAl 0 rfl rfl<|oR 3 rfl<|rE 4<|bW<|cSR<|oR 1 rfl<|rW (vB (decide (i<0))) rfl (okB (ltN _ _))<|oR 1 rfl<|gN rfl<|gN rfl<|gBS (x:=vN rob.length) rfl id (bY enL rob)<|gBS (x:=vB (decide (i≥rob.length))) rfl hsT (okB (geN _ _))<|cV rfl rfl rfl (by simp)<|rE 12<|aW rfl (λ h1=>?_) (λ h1=>?_)
 ·have hb:(i≥rob.length):=by have z:=h1;simp only[cOr]at z;grind
  refine cSR<|oR 3 rfl<|rE 15<|cO ?_;have hn:rob[i]?=none:=bO omT;exact fT rfl (by rw[show lL rob r i=(0,0,false)from by unfold lL;rw[hn]];rfl)
 ·have hb: ¬ (i≥rob.length):=by have z:=h1;simp only[cOr]at z;grind
  refine bB<|cSR<|oR 2 rfl ?_;obtain⟨x,hx⟩:∃ y_,rob[i]?=some y_:=⟨_,aA omT⟩;have hxo:=ho x (aB hx);refine rIx (enL x) (.dp 17 0 (enL x)) rfl rfl (iB hx) rfl<|oR 2 rfl<|rCi rfl (FZ x.i)<|oR 5 rfl<|rE 23<|cSR<|oR 4 rfl<|rCi rfl (Jf rob r ck (i) (x.i.rs1) hl ho hr omT)<|oR 5 rfl<|rE 33<|cSR<|oR 4 rfl<|rCi rfl (Jf rob r ck (i) (x.i.rs2) hl ho hr omT)<|oR 5 rfl<|rE 43<|cSR<|oR 4 rfl<|gN rfl<|cV rfl rfl rfl (λ h=>h)<|oR 3 rfl<|rE 52<|cO ?_;exact fT rfl (by rw[show lL rob r i=((kY rob r i x.i.rs1).getD 0,(kY rob r i x.i.rs2).getD 0,(kY rob r i x.i.rs1).isSome&&(kY rob r i x.i.rs2).isSome)from by unfold lL;rw[hx]];simp only[←pY];rfl)
theorem Zg(e:Ent)(he:e.ok):bX C0 231 [.agg (enL e)] (vB (KJ e)):=by
 refine bX.intro c0Ok Tryz.func231 rfl rfl (by kernel_rfl) rfl<|cSR<|rAl 0 rfl rfl<|oR 1 rfl<|rE 2<|bW<|cSR<|oR 2 rfl<|rV (vB (e.halt != 0)) rfl<|rE 5<|aW rfl (λ h1=>?_) (λ h1=>?_)
 ·refine cSR<|oR 1 rfl<|rE 6<|cO ?_;replace h1:=sP h1;exact fT rfl (dL (by unfold KJ;grind))
 ·refine bB<|bW<|cSR<|oR 2 rfl<|rCi rfl (qN e.i)<|rE 8<|bK<|cSR<|rW (vB ((kindOf e.i.op)==6)) rfl (okB (eqN _ _))<|oR 1 rfl<|rE 10<|aW rfl (λ h2=>?_) (λ h2=>?_)
  ·refine cSR<|oR 1 rfl<|rE 11<|cO ?_;replace h1:=sP h1;replace h2:=sP h2;exact fT rfl (dL (by unfold KJ;grind))
  ·refine bW<|cSR<|rW (vB ((kindOf e.i.op)==3)) rfl (okB (eqN _ _))<|oR 1 rfl<|rE 12<|aW rfl (λ h3=>?_) (λ h3=>?_)
   ·refine bB<|aW rfl (λ _=>?_) (λ h4=>Bool.noConfusion (h3.symm.trans h4));refine cSR<|oR 3 rfl<|rE 15<|cO ?_;replace h1:=sP h1;replace h2:=sP h2;replace h3:=sP h3;exact fT rfl (dL (by unfold KJ;grind))
   ·refine cSR<|rW (vB ((kindOf e.i.op)==4)) rfl (okB (eqN _ _))<|oR 1 rfl<|rE 14<|aW rfl (λ h5=>?_) (λ h5=>?_)
    ·refine bB<|aW rfl (λ _=>?_) (λ h6=>Bool.noConfusion (h5.symm.trans h6));refine cSR<|oR 3 rfl<|rE 17<|cO ?_;replace h1:=sP h1;replace h2:=sP h2;replace h3:=sP h3;replace h5:=sP h5;exact fT rfl (dL (by unfold KJ;grind))
    ·refine cRg<|rW (vB ((kindOf e.i.op)==5)) rfl (okB (eqN _ _))<|oR 1 rfl<|rE 16<|aW rfl (λ h7=>?_) (λ h7=>?_)
     ·refine cSR<|oR 3 rfl<|rE 19<|cO ?_;replace h1:=sP h1;replace h2:=sP h2;replace h3:=sP h3;replace h5:=sP h5;replace h7:=sP h7;exact fT rfl (dL (by unfold KJ;grind))
     ·refine bB<|cSR<|oR 1 rfl<|rE 17<|cO ?_;replace h1:=sP h1;replace h2:=sP h2;replace h3:=sP h3;replace h5:=sP h5;replace h7:=sP h7;exact fT rfl (dL (by unfold KJ;grind))
theorem Vu{α:Type}{p:α→Bool}{l:List α}{k:Nat}{x:α}(hx:l[k]?=some x)(hp:p x=true)(h:∀ y∈l.take k,p y=false):l.findIdx p=k:=by
 have:=Pn hx hp h;rw[List.findIdx?_eq_some_iff_findIdx_eq]at this;exact this.2
theorem Vv{α:Type}{p:α→Bool}{l:List α}{k:Nat}(hk:l.length≤k)(h:∀ y∈l.take k,p y=false):l.findIdx p=l.length:=by
 rw[aL hk]at h;exact List.findIdx_eq_length.2 h
theorem Ph(rob:List Ent)(ck:Bool)(hl:rob.length≤1000)(ho:∀ x∈rob,x.ok):bX C0 219 [.sl 17 (rob.map enL) ck] (vN (BD rob)):=by
 refine dc1 (bX.intro c1Ok Tryz.func219 rfl rfl (by kernel_rfl) rfl ?_);refine cSR<|oR 1 rfl<|rE 1<|bW<|cSR<|oR 1 rfl<|rW (vN rob.length) rfl (bY enL rob)<|oR 1 rfl<|rE 4<|bK<|mL (κ:=Nat) (λ k=>⟨slotsF [(0,.sl 17 (rob.map enL) ck),(5,.sl 17 (rob.map enL) ck),(6,vN rob.length),(7,vN k)],heapF [],4⟩) (λ k=>k≤rob.length∧∀ y∈rob.take k,(!KJ y)=false) (λ k=>rob.length - k) 0 (λ s=>s) (Weak.of_lists (λ s=>s) wT trivial rfl) (⟨aE _,Po⟩) ?_;intro k hk;have hkn:k≤rob.length:=hk.1;have hkB:k≤1000000:=by omega
 refine cSR<|rW (vB (decide (k<rob.length))) rfl (okB (ltN _ _))<|rE 5<|bW<|aW rfl (λ h1=>?_) (λ h1=>?_)
 ·have h1p:=of_decide_eq_true h1;refine bB<|bW<|bK<|cSR<|oR 1 rfl ?_;obtain⟨x,hx⟩:∃ y_,rob[k]?=some y_:=⟨_,aA omT⟩;have hxo:=ho x (aB hx);refine rIx (enL x) (.dp 17 0 (enL x)) rfl rfl (iB hx) rfl<|oR 1 rfl<|rAl 8 rfl rfl<|oR 1 rfl<|rSt rfl<|rE 11<|cSR<|oR 1 rfl<|rCi rfl (Zg x hxo)<|oR 1 rfl<|rE 14<|aW rfl (λ h2=>?_) (λ h2=>?_)
  ·refine cSR<|oR 2 rfl<|rE 16<|cO ?_;exact fT rfl (YG (by unfold BD;rw[Vu hx (by simpa using h2) hk.2]))
  ·refine bB<|cRg ?_;have b1:k+1≤1000001:=aH hkB (aC 1);refine rW (vN (k+1)) rfl (okI (bV b1 rfl))<|oR 1 rfl<|rE 16 ?_;refine⟨k+1,λ s=>s,Weak.of_lists _ wT trivial rfl,⟨by omega,Pm hx (by simpa using h2) hk.2⟩,by show rob.length - (k+1)<rob.length - k;omega⟩
 ·have h1p:=aD h1;refine eE<|cSR<|oR 1 rfl<|rW (vN rob.length) rfl (bY enL rob)<|oR 1 rfl<|rE 8<|cO ?_;exact fT rfl (YG (by unfold BD;rw[Vv omT hk.2]))
theorem LM(rob:List Ent)(ck:Bool)(i:Nat)(hl:rob.length≤1000)(ho:∀ x∈rob,x.ok)(hi:i≤1000):bX C0 206 [.sl 17 (rob.map enL) ck,vN i] (vB (uC rob i)):=by
 refine bX.intro c0Ok Tryz.func206 rfl rfl (by kernel_rfl) rfl<|cSR<|oR 1 rfl<|rE 1<|cSR<|oR 1 rfl<|rW (vB (decide (i≥0))) rfl (okB (geN _ _))<|oR 1 rfl<|gN rfl<|gN rfl<|gBS (x:=vN rob.length) rfl id (bY enL rob)<|gBS (x:=vB (decide (i≤rob.length))) rfl hsT (okB (leN _ _))<|cV rfl rfl rfl (λ h=>h)<|oR 1 rfl<|gN rfl<|gN rfl<|kM (x:=vN (BD rob)) (g:=cZ (decide (i≥0)) (decide (i≤rob.length)) false) rfl rfl rfl rfl (λ h=>h) rfl rfl rfl (.inl rfl) rfl (λ hg=>Ph rob ck hl ho)<|gBS (x:=vB (decide (i≤(BD rob)))) rfl hsT (okB (leN _ _))<|cV rfl rfl rfl (λ h=>h)<|oR 1 rfl<|rE 16<|cO ?_;exact fT rfl (dL (by unfold uC;rw[bS];simp[pY]))
theorem mB(rob:List Ent):∀ k,(eN rob k).length=k
 |0=>rfl
 |k+1=>by simp only[eN,aV,mB rob k,bN,cU]
theorem Sk{rob:List Ent}{k j:Nat}{x:Int}{o:Option Nat}(ho:o=some j)(hx:(eN rob k)[j]?=some x):sE (eN rob k) o=x:=by
 subst ho;show (eN rob k).getD j (-1)=x;rw[bJ,hx];rfl
theorem Pi(rob:List Ent)(ck:Bool)(i k:Nat)(reg:Int)(hl:rob.length≤1000)(ho:∀ x∈rob,x.ok)(hi:i≤k)(hk:k≤1000):pV C0.P C0.G 230 [vN i,vI reg,.ptr 0 0,.ptr 1 0] (heapF [(0,.box [.sl 17 (rob.map enL) ck]),(1,.box [.osl 2 0 k false]),(2,.arr ((eN rob k).map iL) 1)]) 3 (λ x h'=>x=vI (sE (eN rob k) (gV rob i reg))∧h'=heapF [(0,.box [.sl 17 (rob.map enL) ck]),(1,.box [.osl 2 0 k false]),(2,.arr ((eN rob k).map iL) 1)]):=by
 refine HCall.intro (C:=C0) (s:=3) c0Ok.at Tryz.func230 rfl rfl (by kernel_rfl) rfl rfl<|cSR<|oR 1 rfl<|rE 4<|bW<|cSR<|oR 3 rfl<|rCi rfl (Pl rob ck (i) (reg) hl ho omT)<|oR 1 rfl<|rE 9<|cSR<|oR 1 rfl<|rV (vB (decide ((CS (gV rob (i) (reg)))≥0))) rfl<|rE 11<|aW rfl (λ h1=>?_) (λ h1=>?_)
 ·have h1p:=of_decide_eq_true h1;obtain⟨j,hj⟩:=Hh (show ¬ CS (gV rob i reg)<0 by omega);have hjl:=DZ hj;have hrk:=mB rob k;refine cSR<|oR 2 rfl<|nW (.ptr2 2 (0+j) 0) rfl ((show Res.need _ (AV.ptr2 2 (0+(CS (gV rob i reg)).toNat) 0)=Res.need _ (AV.ptr2 2 (0+j) 0)from by rw[hj];rfl)) (by (try rw[hj]);exact⟨aG _,by show (j:Int)<(k:Int);omega⟩) ?_;obtain⟨x,hx⟩:∃ y_,(eN rob k)[j]?=some y_:=⟨_,aA omT⟩;refine rIx (iL x) (vI x) rfl rfl (Ii (iB hx)) rfl<|oR 1 rfl<|rE 16<|cO<|pG (rs:=[vI x]) rfl (r:=vI (sE (eN rob k) (gV rob i reg))) (h':=heapF [(0,.box [.sl 17 (rob.map enL) ck]),(1,.box [.osl 2 0 k false]),(2,.arr ((eN rob k).map iL) 1)]) (σ:=λ z=>z) ⟨rfl,rfl⟩ rfl (cE (λ z=>z) (by rw[Sk hj hx];rfl) rfl wH rfl)
 ·have h1p:=aD h1;have hj:=LL (show CS (gV rob i reg)<0 by omega);refine bB<|cSR<|oR 1 rfl<|rE 12<|cO<|pG (rs:=[vI (-1)]) rfl (r:=vI (sE (eN rob k) (gV rob i reg))) (h':=heapF [(0,.box [.sl 17 (rob.map enL) ck]),(1,.box [.osl 2 0 k false]),(2,.arr ((eN rob k).map iL) 1)]) (σ:=λ z=>z) ⟨rfl,rfl⟩ rfl (cE (λ z=>z) (by rw[hj];rfl) rfl wH rfl)
theorem XD(a b:Int):(if b>a then b else a)=max a b:=by omega
theorem Ea{p:Prop}{H:AH}{s rs:Nat}{rob:List Ent}{k:Nat}{x:Int}(hl:(eN rob k).length=k)(hx:x=CH rob (eN rob k) k):
  Res.fx p (.osl s 0 ((List.take k (List.drop 0 ((eN rob k).map iL))).length+[[AV.v (.int .i64 x)]].length) false) (upd H s (some (.arr (List.take k (List.drop 0 ((eN rob k).map iL))++[[AV.v (.int .i64 x)]]) rs)))=.fx p (.osl s 0 (k+1) false) (upd H s (some (.arr ((eN rob (k+1)).map iL) rs))):=by
 rw[cA,aL (by rw[aF,hl];exact aC _),aF,hl];simp only[eN,eU,jF,List.map_nil, ←hx];rfl
theorem XE(rob:List Ent)(ck:Bool)(hl:rob.length≤1000)(ho:∀ x∈rob,x.ok):bX C0 218 [.sl 17 (rob.map enL) ck] (.sl 1 ((yJ rob).map iL) false):=by
 refine dc1 (bX.intro c1Ok Tryz.func218 rfl rfl (by kernel_rfl) rfl ?_);refine cSR<|rAl 0 rfl rfl<|oR 1 rfl<|rE 2<|cSR<|oR 1 rfl<|rCi rfl (Ph rob ck hl ho)<|oR 1 rfl<|rE 5<|cSR<|oR 1 rfl<|rW (vN rob.length) rfl (bY enL rob)<|rFx (x:=.osl 7 0 0 false) (h':=upd _ 7 (some (.arr (([]:List Int).map iL) 1))) rfl rfl (rfl) (⟨by decide,EJ.2 omT,by show ((rob.length:Nat):Int)≤1000000;omega⟩)<|rAl 8 rfl rfl<|rSt rfl<|rE 10<|cSR<|rV (.clo 230 [] [.ptr 0 0,.ptr 8 0]) rfl<|oR 1 rfl<|rE 12<|bW<|cSR<|oR 1 rfl<|rW (vN rob.length) rfl (bY enL rob)<|oR 1 rfl<|rE 15<|bK<|mL (κ:=Nat) (λ k=>⟨slotsF [(2,.sl 0 ([]) true),(3,vN (BD rob)),(4,.ptr 8 0),(5,.clo 230 [] [.ptr 0 0,.ptr 8 0]),(17,.sl 17 (rob.map enL) ck),(18,vN rob.length),(19,vN k)],heapF [(0,.box [.sl 17 (rob.map enL) ck]),(7,.arr ((eN rob k).map iL) 1),(8,.box [.osl 7 0 k false])],15⟩) (λ k=>k≤rob.length) (λ k=>rob.length - k) 0 (λ s=>s) (Weak.of_lists (λ s=>s) wT wH rfl) (aE _) ?_;intro k hk;have hkn:k≤rob.length:=hk;have hkB:k≤1000:=by omega
 refine cSR<|rW (vB (decide (k<rob.length))) rfl (okB (ltN _ _))<|rE 16<|bW<|aW rfl (λ h1=>?_) (λ h1=>?_)
 ·have h1p:=of_decide_eq_true h1;refine bB<|bW<|bK<|cSR<|oR 1 rfl ?_;obtain⟨x,hx⟩:∃ y_,rob[k]?=some y_:=⟨_,aA omT⟩;have hxo:=ho x (aB hx);refine rIx (enL x) (.dp 17 0 (enL x)) rfl rfl (iB hx) rfl<|oR 1 rfl<|rAl 19 rfl rfl<|oR 1 rfl<|rSt rfl<|rE 22<|cSR<|oR 1 rfl<|rE 23<|bW<|cSR<|oR 2 rfl<|rCi rfl (qN x.i)<|rW (vB ((kindOf x.i.op) != 3)) rfl (okB (neN _ _))<|rE 27<|aW rfl (λ h2=>?_) (λ h2=>?_)
  ·have h2p:=vH h2;refine cSR<|oR 2 rfl<|rCi rfl (FZ x.i)<|oR 5 rfl<|rE 35<|cRg<|oR 3 rfl<|fW _ rfl rfl rfl ((Pi rob ck k k x.i.rs1 hl ho (aC k) omT).frameU (λ z=>match z with|0=>0|1=>8|2=>7|z=>z) _ _ rfl ⟨⟨rfl,rfl,rfl,rfl⟩,⟨rfl,rfl,rfl,rfl⟩,⟨rfl,rfl,rfl,rfl⟩,trivial⟩ rfl rfl rfl) ?_;rintro _ _ ⟨rfl,rfl⟩;refine oR 3 rfl<|fW _ rfl rfl rfl ((Pi rob ck k k x.i.rs2 hl ho (aC k) omT).frameU (λ z=>match z with|0=>0|1=>8|2=>7|z=>z) _ _ rfl ⟨⟨rfl,rfl,rfl,rfl⟩,⟨rfl,rfl,rfl,rfl⟩,⟨rfl,rfl,rfl,rfl⟩,trivial⟩ rfl rfl rfl) ?_;rintro _ _ ⟨rfl,rfl⟩;refine rV (vI (if (sE (eN rob k) (gV rob k x.i.rs2))>(sE (eN rob k) (gV rob k x.i.rs1))then (sE (eN rob k) (gV rob k x.i.rs2))else (sE (eN rob k) (gV rob k x.i.rs1)))) rfl<|oR 1 rfl<|rE 45<|cRg<|oR 2 rfl<|rV (.sl 1 ([[vI (if (sE (eN rob k) (gV rob k x.i.rs2))>(sE (eN rob k) (gV rob k x.i.rs1))then (sE (eN rob k) (gV rob k x.i.rs2))else (sE (eN rob k) (gV rob k x.i.rs1)))]]) true) rfl ?_;have hrt:(if (sE (eN rob k) (gV rob k x.i.rs2))>(sE (eN rob k) (gV rob k x.i.rs1))then (sE (eN rob k) (gV rob k x.i.rs2))else (sE (eN rob k) (gV rob k x.i.rs1)))=CH rob (eN rob k) k:=by unfold CH;rw[hx];exact (XD _ _).trans (if_pos h2p).symm
   refine rFx (x:=.osl 48 0 (k+1) false) (h':=upd (upd _ 7 none) 48 (some (.arr ((eN rob (k+1)).map iL) 1))) rfl rfl (Ea (mB rob k) hrt) (⟨by simp only[aF,bN,cU,aN,aY,mB,kW];omega,by simp only[aF,mB];omega,trivial⟩)<|rSt rfl<|rE 50<|cRg ?_;have b1:k+1≤1001:=aH hkB (aC 1);refine rW (vN (k+1)) rfl (okI (bV b1 rfl))<|oR 1 rfl<|rE 52 ?_;refine⟨k+1,λ z=>match z with|7=>48|z=>z,Weak.of_lists _ wT wH rfl,by omega,by show rob.length - (k+1)<rob.length - k;omega⟩
  ·have h2p:=vJ h2;refine cSR<|oR 2 rfl<|rW (vB (decide (k>(BD rob)))) rfl (okB (gtN _ _))<|rE 30<|aW rfl (λ h3=>?_) (λ h3=>?_)
   ·have h3p:=of_decide_eq_true h3;refine cRg<|oR 2 rfl<|rE 32<|cRg<|oR 2 rfl<|rV (.sl 1 ([[vN k]]) true) rfl ?_;have hrt:(k:Int)=CH rob (eN rob k) k:=by unfold CH;rw[hx];dsimp only;rw[if_neg (show ¬ kindOf x.i.op≠3 from λ q=>q h2p),if_pos h3p]
    refine rFx (x:=.osl 35 0 (k+1) false) (h':=upd (upd _ 7 none) 35 (some (.arr ((eN rob (k+1)).map iL) 1))) rfl rfl (Ea (mB rob k) hrt) (⟨by simp only[aF,bN,cU,aN,aY,mB,kW];omega,by simp only[aF,mB];omega,trivial⟩)<|rSt rfl<|rE 37<|cRg ?_;have b2:k+1≤1001:=aH hkB (aC 1);refine rW (vN (k+1)) rfl (okI (bV b2 rfl))<|oR 1 rfl<|rE 39 ?_;refine⟨k+1,λ z=>match z with|7=>35|z=>z,Weak.of_lists _ wT wH rfl,by omega,by show rob.length - (k+1)<rob.length - k;omega⟩
   ·have h3p:=aD h3;refine bB<|cRg<|oR 2 rfl<|rV (.sl 1 ([[vI (-1)]]) true) rfl ?_;have hrt:(-1)=CH rob (eN rob k) k:=by unfold CH;rw[hx];dsimp only;rw[if_neg (show ¬ kindOf x.i.op≠3 from λ q=>q h2p),if_neg h3p]
    refine rFx (x:=.osl 33 0 (k+1) false) (h':=upd (upd _ 7 none) 33 (some (.arr ((eN rob (k+1)).map iL) 1))) rfl rfl (Ea (mB rob k) hrt) (⟨by simp only[aF,bN,cU,aN,aY,mB,kW];omega,by simp only[aF,mB];omega,trivial⟩)<|rSt rfl<|rE 35<|cRg ?_;have b3:k+1≤1001:=aH hkB (aC 1);refine rW (vN (k+1)) rfl (okI (bV b3 rfl))<|oR 1 rfl<|rE 37 ?_;refine⟨k+1,λ z=>match z with|7=>33|z=>z,Weak.of_lists _ wT wH rfl,by omega,by show rob.length - (k+1)<rob.length - k;omega⟩
 ·have h1p:=aD h1;refine eE<|cSR<|oR 2 rfl<|rE 18<|cO ?_;have hke:k=rob.length:=by omega
  subst hke;refine fG rfl (by show 0+rob.length≤((eN rob rob.length).map iL).length;rw[aF,mB];omega) rfl ?_;show AV.sl 1 (List.take rob.length (List.drop 0 ((eN rob rob.length).map iL))) false=_;rw[kG iL (eN rob rob.length) (by rw[mB];exact aC _)];rfl
theorem XF{rob:List Ent}{i:Nat}{reg:Int}(hg:decide (CS (gV rob i reg)≥0)=true):0≤CS (gV rob i reg)∧((yJ rob).map iL)[(CS (gV rob i reg)).toNat]?=some (iL ((yJ rob).getD (CS (gV rob i reg)).toNat (-1))):=by
 have h:=of_decide_eq_true hg;obtain⟨j,hj⟩:=Hh (show ¬ CS (gV rob i reg)<0 by omega);refine⟨h,?_⟩;rw[hj];have hl:=(DZ hj).2;have hr:(yJ rob).length=rob.length:=mB rob rob.length;show ((yJ rob).map iL)[j]?=some (iL ((yJ rob).getD j (-1)));rw[aZ,bJ,aA omT];rfl
theorem Sm(rob:List Ent)(i:Nat)(reg:Int):cZ (decide (CS (gV rob i reg)≥0)) (decide ((yJ rob).getD (CS (gV rob i reg)).toNat (-1)≥0)) false=Hv rob i reg:=by
 unfold Hv
 cases h:gV rob i reg with
 |none=>rfl
 |some j=>
  rw[show decide (CS (some j)≥0)=true from nD (aG _)];rfl
theorem Sn(rob:List Ent)(ck:Bool)(i:Nat)(reg:Int)(hl:rob.length≤1000)(ho:∀ x∈rob,x.ok)(hi:i≤1000):bX C0 204 [.sl 17 (rob.map enL) ck,vN i,vI reg] (vB (Hv rob i reg)):=by
 refine bX.intro c0Ok Tryz.func204 rfl rfl (by kernel_rfl) rfl<|cSR<|oR 1 rfl<|rE 1<|cSR<|oR 3 rfl<|rCi rfl (Pl rob ck (i) (reg) hl ho omT)<|oR 1 rfl<|rE 6<|cSR<|oR 1 rfl<|rV (vB (decide ((CS (gV rob (i) (reg)))≥0))) rfl<|oR 1 rfl<|gN rfl<|kM (x:=.sl 1 ((yJ rob).map iL) false) (g:=decide ((CS (gV rob (i) (reg)))≥0)) rfl rfl rfl rfl (λ h=>h) rfl rfl rfl (.inl rfl) rfl (λ hg=>XE rob ck hl ho)<|gN rfl<|IG (iL ((yJ rob).getD (CS (gV rob i reg)).toNat (-1))) (x:=.dp 1 0 (iL ((yJ rob).getD (CS (gV rob i reg)).toNat (-1)))) (g:=decide ((CS (gV rob (i) (reg)))≥0)) rfl rfl rfl rfl hsT rfl rfl (λ hg=>XF hg) rfl<|gS rfl id<|gBS (x:=vB (decide (((yJ rob).getD (CS (gV rob i reg)).toNat (-1))≥0))) rfl id rfl<|cV rfl rfl rfl (λ h=>h)<|oR 1 rfl<|rE 17<|cO ?_;exact fT rfl (dL (Sm rob i reg))
theorem XG(e:Ent)(he:e.ok):bX C0 202 [.agg (enL e)] (vB (CI e)):=by
 refine bX.intro c0Ok Tryz.func202 rfl rfl (by kernel_rfl) rfl<|cSR<|rAl 0 rfl rfl<|oR 1 rfl<|rE 2<|bW<|cSR<|oR 2 rfl<|rCi rfl (qN e.i)<|rE 5<|bK<|bW<|cSR<|rW (vB ((kindOf e.i.op)==3)) rfl (okB (eqN _ _))<|oR 1 rfl<|rE 7<|aW rfl (λ h1=>?_) (λ h1=>?_)
 ·refine bB<|aW rfl (λ _=>?_) (λ h2=>Bool.noConfusion (h1.symm.trans h2));refine cSR<|oR 1 rfl<|rE 8<|cO ?_;replace h1:=sP h1;exact fT rfl (dL (by unfold CI;rw[bS];simp only[aP];grind))
 ·refine cSR<|rW (vB ((kindOf e.i.op)==4)) rfl (okB (eqN _ _))<|oR 1 rfl<|rE 9<|aW rfl (λ h3=>?_) (λ h3=>?_)
  ·refine bB<|aW rfl (λ _=>?_) (λ h4=>Bool.noConfusion (h3.symm.trans h4));refine cSR<|oR 1 rfl<|rE 10<|cO ?_;replace h1:=sP h1;replace h3:=sP h3;exact fT rfl (dL (by unfold CI;rw[bS];simp only[aP];grind))
  ·refine cSR<|rW (vB ((kindOf e.i.op)==2)) rfl (okB (eqN _ _))<|oR 1 rfl<|rE 11<|aW rfl (λ h5=>?_) (λ h5=>?_)
   ·refine bB<|aW rfl (λ _=>?_) (λ h6=>Bool.noConfusion (h5.symm.trans h6));refine cSR<|oR 1 rfl<|rE 12<|cO ?_;replace h1:=sP h1;replace h3:=sP h3;replace h5:=sP h5;exact fT rfl (dL (by unfold CI;rw[bS];simp only[aP];grind))
   ·refine cRg<|rW (vB ((kindOf e.i.op)==5)) rfl (okB (eqN _ _))<|oR 1 rfl<|rE 13<|aW rfl (λ h7=>?_) (λ h7=>?_)
    ·refine cSR<|oR 1 rfl<|rE 14<|cO ?_;replace h1:=sP h1;replace h3:=sP h3;replace h5:=sP h5;replace h7:=sP h7;exact fT rfl (dL (by unfold CI;rw[bS];simp only[aP];grind))
    ·refine bB<|cSR<|oR 1 rfl<|rE 14<|cO ?_;replace h1:=sP h1;replace h3:=sP h3;replace h5:=sP h5;replace h7:=sP h7;exact fT rfl (dL (by unfold CI;rw[bS];simp only[aP];grind))
theorem XH(e:Ent)(he:e.ok):bX C0 205 [.agg (enL e)] (.sl 1 ((pZ e).map iL) true):=by
 refine bX.intro c0Ok Tryz.func205 rfl rfl (by kernel_rfl) rfl<|cSR<|rAl 0 rfl rfl<|oR 1 rfl<|rE 2<|cSR<|oR 2 rfl<|rCi rfl (FZ e.i)<|oR 5 rfl<|rE 10<|bW<|cSR<|oR 2 rfl<|rCi rfl (qN e.i)<|rE 13<|bK<|bW<|cSR<|rW (vB ((kindOf e.i.op)==3)) rfl (okB (eqN _ _))<|oR 1 rfl<|rE 15<|aW rfl (λ h1=>?_) (λ h1=>?_)
 ·have h1p:=mU h1;refine bB<|aW rfl (λ _=>?_) (λ h2=>Bool.noConfusion (h1.symm.trans h2));refine cSR<|oR 1 rfl<|rV (.sl 1 ([[vI e.i.rs1]]) true) rfl<|oR 1 rfl<|rE 18<|cO ?_;exact fT rfl (by rw[show pZ e=[e.i.rs1]from by unfold pZ;exact if_pos omT];rfl)
 ·have h1p:=mV h1;refine cRg<|rW (vB ((kindOf e.i.op)==4)) rfl (okB (eqN _ _))<|oR 1 rfl<|rE 17<|aW rfl (λ h3=>?_) (λ h3=>?_)
  ·have h3p:=mU h3;refine cSR<|oR 1 rfl<|rV (.sl 1 ([[vI e.i.rs1]]) true) rfl<|oR 1 rfl<|rE 20<|cO ?_;exact fT rfl (by rw[show pZ e=[e.i.rs1]from by unfold pZ;exact if_pos omT];rfl)
  ·have h3p:=mV h3;refine bB<|cSR<|oR 2 rfl<|rV (.sl 1 ([[vI e.i.rs1],[vI e.i.rs2]]) true) rfl<|oR 1 rfl<|rE 21<|cO ?_;exact fT rfl (by rw[show pZ e=[e.i.rs1,e.i.rs2]from by unfold pZ;exact if_neg omT];rfl)
theorem So(e:Ent):(pZ e).length≤2:=by unfold pZ;split<;>simp
theorem Vw(rob:List Ent)(ck:Bool)(i:Nat)(reg:Int)(hl:rob.length≤1000)(ho:∀ x∈rob,x.ok)(hi:i≤1000):bX C0 203 [vI reg,.dp 1 0 [.sl 17 (rob.map enL) ck],.dp 1 0 [vN i]] (vB (!Hv rob i reg)):=by
 refine bX.intro c0Ok Tryz.func203 rfl rfl (by kernel_rfl) rfl<|cSR<|oR 1 rfl<|rE 1<|cSR<|oR 3 rfl<|rCi rfl (Sn rob ck i reg hl ho hi)<|oR 2 rfl<|rE 7<|cO ?_;exact fT rfl rfl
theorem aaL(mode:Int)(rob:List Ent)(ck:Bool)(i:Nat)(hl:rob.length≤1000)(ho:∀ x∈rob,x.ok)(hi:i≤1000):bX C0 163 [vI mode,.sl 17 (rob.map enL) ck,vN i] (vB (NN mode rob i)):=by
 refine bX.intro c0Ok Tryz.func163 rfl rfl (by kernel_rfl) rfl<|cSR<|rAl 0 rfl rfl<|rAl 1 rfl rfl<|oR 1 rfl<|rE 3<|bW<|cSR<|oR 1 rfl<|rW (vB (decide (i<0))) rfl (okB (ltN _ _))<|oR 1 rfl<|gN rfl<|gN rfl<|gBS (x:=vN rob.length) rfl id (bY enL rob)<|gBS (x:=vB (decide (i≥rob.length))) rfl hsT (okB (geN _ _))<|cV rfl rfl rfl (by simp)<|rE 11<|aW rfl (λ h1=>?_) (λ h1=>?_)
 ·have hb:(i≥rob.length):=by have z:=h1;simp only[cOr]at z;grind
  refine cSR<|oR 1 rfl<|rE 12<|cO ?_;have hn:rob[i]?=none:=bO omT;exact fT rfl (dL (by unfold NN;rw[hn]))
 ·have hb: ¬ (i≥rob.length):=by have z:=h1;simp only[cOr]at z;grind
  refine bB<|bW<|cSR<|oR 2 rfl ?_;obtain⟨x,hx⟩:∃ y_,rob[i]?=some y_:=⟨_,aA omT⟩;have hxo:=ho x (aB hx);refine rIx (enL x) (.dp 17 0 (enL x)) rfl rfl (iB hx) rfl<|oR 1 rfl<|rCi rfl (XG x hxo)<|oR 1 rfl<|rE 17<|aW rfl (λ h2=>?_) (λ h2=>?_)
  ·refine cSR<|oR 1 rfl<|rE 18<|cO ?_;exact fT rfl (dL (by unfold NN;rw[hx];dsimp only;rw[if_pos (by simpa using h2)]))
  ·refine bB<|cSR<|rV (.clo 203 [] [.ptr 0 0,.ptr 1 0]) rfl<|oR 1 rfl<|rE 19<|bW<|cSR<|oR 1 rfl<|rE 20<|bK<|cSR<|rV (vB (mode==0)) rfl<|oR 1 rfl<|rE 22<|aW rfl (λ h3=>?_) (λ h3=>?_)
   ·have h3p:=mU h3;refine cSR<|oR 1 rfl<|rE 23<|cO ?_;exact fT rfl (dL (by unfold NN;rw[hx];dsimp only;rw[if_neg (by simpa using h2),if_pos h3p]))
   ·have h3p:=mV h3;refine cSR<|rV (vB (mode==1)) rfl<|oR 1 rfl<|rE 24<|aW rfl (λ h4=>?_) (λ h4=>?_)
    ·have h4p:=mU h4;refine bW<|cSR<|oR 2 rfl<|rIx (enL x) (.dp 17 0 (enL x)) rfl rfl (iB hx) rfl<|oR 1 rfl<|rCi rfl (XH x hxo)<|rW (vN ((pZ x).length)) rfl (bY iL (pZ x))<|oR 1 rfl<|rE 31<|bK<|mL (κ:=Nat) (λ k=>⟨slotsF [(4,.ptr 0 0),(5,.ptr 1 0),(17,vB (cZ (decide (i<0)) true (decide (i≥rob.length)))),(23,vB (!(CI x))),(7,.clo 203 [] [.ptr 0 0,.ptr 1 0]),(25,vI mode),(26,vB (mode==0)),(28,vB (mode==1)),(34,.sl 1 ((pZ x).map iL) true),(35,vN ((pZ x).length)),(36,vN k)],heapF [(0,.box [.sl 17 (rob.map enL) ck]),(1,.box [vN i])],31⟩) (λ k=>k≤(pZ x).length∧((pZ x).take k).all (λ reg=> !Hv rob i reg)=true) (λ k=>(pZ x).length - k) 0 (λ s=>s) (Weak.of_lists (λ s=>s) wT wH rfl) (⟨aE _,rfl⟩) ?_;intro k hk;have hkn:k≤(pZ x).length:=hk.1;have hkB:k≤1000000:=by have:=So x;omega
     refine cSR<|rW (vB (decide (k<((pZ x).length)))) rfl (okB (ltN _ _))<|rE 32<|bW<|aW rfl (λ h5=>?_) (λ h5=>?_)
     ·have h5p:=of_decide_eq_true h5;refine bB<|bW<|bK<|cSR ?_;obtain⟨rg,hrg⟩:∃ y_,(pZ x)[k]?=some y_:=⟨_,aA omT⟩;refine rIx (iL rg) (.dp 1 0 (iL rg)) rfl rfl (iB hrg) rfl<|oR 2 rfl<|rE 35<|cSR<|oR 2 rfl<|rCl rfl (.inr ⟨rfl,trivial,trivial,trivial,trivial⟩) (Vw rob ck i rg hl ho hi)<|oR 1 rfl<|rE 39<|aW rfl (λ h6=>?_) (λ h6=>?_)
      ·refine cSR<|oR 1 rfl<|rE 40<|cO ?_;have z:=h6;exact fT rfl (dL (by unfold NN;rw[hx];dsimp only;rw[if_neg (by simpa using h2),if_neg h3p,if_pos h4p,Hn (p:=λ reg=> !Hv rob i reg) hrg (by simpa using z)]))
      ·refine bB<|cRg ?_;have b1:k+1≤1000001:=aH hkB (aC 1);refine rW (vN (k+1)) rfl (okI (bV b1 rfl))<|oR 1 rfl<|rE 41 ?_;refine⟨k+1,λ s=>s,Weak.of_lists _ wT wH rfl,⟨by omega,Dg (p:=λ reg=> !Hv rob i reg) hrg (by simpa using h6) hk.2⟩,by show (pZ x).length - (k+1)<(pZ x).length - k;omega⟩
     ·have h5p:=aD h5;refine eE<|cSR<|oR 1 rfl<|rE 33<|cO ?_;have hall:=Dh (p:=λ reg=> !Hv rob i reg) omT hk.2;exact fT rfl (dL (by unfold NN;rw[hx];dsimp only;rw[if_neg (by simpa using h2),if_neg h3p,if_pos h4p,hall]))
    ·have h4p:=mV h4;refine cSR<|rV (vB (mode==2)) rfl<|oR 1 rfl<|rE 26<|aW rfl (λ h7=>?_) (λ h7=>?_)
     ·have h7p:=mU h7;refine cSR<|oR 2 rfl<|rCi rfl (LM rob ck i hl ho hi)<|oR 1 rfl<|rE 30<|cO ?_;exact fT rfl (dL (by unfold NN;rw[hx];dsimp only;rw[if_neg (by simpa using h2),if_neg h3p,if_neg h4p,if_pos h7p]))
     ·have h7p:=mV h7;refine bB<|cSR<|oR 1 rfl<|rE 27<|cO ?_;exact fT rfl (dL (by unfold NN;rw[hx];dsimp only;rw[if_neg (by simpa using h2),if_neg h3p,if_neg h4p,if_neg h7p]))
abbrev Qs(n:Nat):List AV:=[.v (.int .i64 (n:Int))]
theorem Ms{α:Type}(f:α→Value):∀ (l:List α),(l.flatMap λ a=>[f a])=l.map f
 |[]=>rfl
 |a::l=>by rw[gR,Ms f l];rfl
theorem JK{α:Type}{f:α→Value}{l:List α}{S:Nat→Prop}{w:World}{v:Value}{clip:Bool}(e:TypeId)(hS:∀ b,S b→b<w.heap.size)(h:Rep S w noB (.sl 1 (l.map λ a=>[AV.v (f a)]) clip) v):Sl w.heap.size e 1 w v l.length (l.flatMap λ a=>[f a]):=by
 cases h with
 |sl _ _ _ A c b o u hc hm hcl hrs hA hw h1 hr=>
  rw[aF]at hc;refine⟨A,c,by rw[aF],hc,hm,by rw[Ms,aF,iP],λ hn=>?_⟩;obtain⟨hA1,hA2⟩:=hA (by rw[aF];exact hn);refine⟨b,o,hA1,.inl (hS b hA2),λ j x hx=>?_⟩;rw[Ms,aZ]at hx;obtain⟨y,hy,rfl⟩:=Fg.1 hx;have hrow:(l.map λ a=>[AV.v (f a)])[j]?=some [AV.v (f y)]:=by rw[aZ,hy];rfl
  have h2:=hw j _ 0 _ hrow rfl;have h3:=hr j _ 0 _ hrow rfl;rw[show o+j * 1+0=o+j by omega]at h2;rw[h2];generalize u j 0=z at h3;cases h3;rfl
theorem Nx{α:Type}{f:α→Value}(h1:∀ a,(f a).oneCell'=true){l:List α}{w:World}{v:Value}{base:Nat}{e:TypeId}(h:w.ownsRow base e 1 v l.length (l.flatMap λ a=>[f a]))(S:Nat→Prop)(hb:∀ b,base≤b→b<w.heap.size→S b):Rep S w noB (.sl 1 (l.map λ a=>[AV.v (f a)]) false) v:=by
 obtain⟨hl,⟨rfl,h0⟩|⟨g,cap,cur,rfl,hg,hh,hn,hm,hsz,hx⟩⟩:=h
 ·have:l=[]:=aX h0;subst this;exact .sl 1 [] false none 0 0 0 (λ _ _=>.bool false) (aC _) (aE _) (λ h=>by cases h) (λ _ h=>by cases h) (λ h=>absurd h (dS 0)) (λ i row j a h=>by simp at h) (λ _ _=>rfl) λ i row j a h=>by simp at h
 ·rw[Ms,iP]at hx;have hget:∀ (i:Nat) row (j:Nat) a,(l.map λ a=>[AV.v (f a)])[i]?=some row→row[j]?=some a→∃ x,l[i]?=some x∧j=0∧a=.v (f x)∧cur[i]?=some (f x):=by
   intro i row j a hi hj;rw[aZ]at hi;obtain⟨x,hxl,rfl⟩:=Fg.1 hi
   cases j with
   |zero=>
    injection hj with hj;refine⟨x,hxl,rfl,hj.symm,?_⟩;have:(l.map f)[i]?=some (f x):=by rw[aZ,hxl];rfl
    rw[←hx,cP]at this;split at this
    ·rw[←bG];exact this
    ·cases this
   |succ j=>simp at hj
  have hlen:(l.map λ a=>[AV.v (f a)]).length=l.length:=aF ..;rw[←hlen];refine .sl 1 _ false (some ⟨g,0,none⟩) cap g 0 (λ i j=>if i<l.length then cur.getD i undef else .bool false) (by rw[hlen];exact hn) hm (λ h=>by cases h) (λ row hr=>?_) (λ _=>⟨rfl,hb g hg (fQ hh)⟩) (λ i row j a hi hj=>?_) (λ i j=>?_) λ i row j a hi hj=>?_
  ·obtain⟨x,_,rfl⟩:=rQ.1 hr;rfl
  ·obtain⟨x,h2,rfl,rfl,h3⟩:=hget i row j a hi hj;rw[if_pos (Dq.1 h2).1,gK hh];rw[show 0+i * 1+0=i by omega,h3,aJ,h3];rfl
  ·show (if i<l.length then cur.getD i undef else .bool false).oneCell'=true;by_cases hi:i<l.length
   ·rw[if_pos hi];obtain⟨x,h2,_,_,h3⟩:=hget i [AV.v (f l[i])] 0 (.v (f l[i])) (by rw[aZ,aA hi];rfl) rfl;rw[aJ,h3];exact h1 x
   ·rw[if_neg hi];rfl
  ·obtain⟨x,h2,rfl,rfl,h3⟩:=hget i row j a hi hj;show Rep S w noB _ (if i<l.length then cur.getD i undef else .bool false);rw[if_pos (Dq.1 h2).1,aJ,h3];exact .v _
theorem Yp(width:Int)(busy:Bool)(kinds:List Int)(can:List Bool)(c1 c2:Bool)(h1:kinds.length≤1000)(h2:can.length≤1000):bX C0 110 [vI width,vB busy,.sl 1 (kinds.map iL) c1,.sl 1 (can.map yN) c2] (.sl 1 ((pickOf width busy kinds can).map Qs) false):=by
 refine⟨⟨_,Tryz.func110,rfl,rfl⟩,λ S w vs hS hG hr=>?_⟩
 match vs,hr with
 |[v0,v1,v2,v3],hr=>
  have e0:=hr.2 0 _ v0 rfl rfl;have e1:=hr.2 1 _ v1 rfl rfl;have e2:=hr.2 2 _ v2 rfl rfl;have e3:=hr.2 3 _ v3 rfl rfl;cases e0;cases e1
  refine (Ta width busy kinds can w.heap.size kinds.length can.length v2 v3 w (JK (f:=λ a:Int=>.int .i64 a) _ hS e2) (JK (f:=λ a:Bool=>.bool a) _ hS e3) rfl rfl omT omT).mono ?_;rintro e w' ⟨v,he,ho,hB⟩
  exact⟨v,he,hB,Nx (f:=λ n:Nat=>.int .i64 (n:Int)) (λ _=>rfl) ho _ λ b p q=>.inr ⟨p,q⟩⟩
 |[],hr=>exact absurd hr.1 (by simp)
 |[_],hr=>exact absurd hr.1 (by simp)
 |[_,_],hr=>exact absurd hr.1 (by simp)
 |[_,_,_],hr=>exact absurd hr.1 (by simp)
 |_::_::_::_::_::_,hr=>exact absurd hr.1 (by simp)
def Lb(q:List Req)(line:Nat)(kinds:List Int):Bool:=q.any λ x=>kinds.any λ k=>decide (x.line=line)&&decide (x.kind=k)
theorem Mt(q:List Req):jP q≤q.length:=List.length_filter_le _ _
theorem Aq{q:List Req}{k:Nat}{x:Req}(h:q[k]?=some x):jP (q.take (k+1))=jP (q.take k)+(if x.kind=4 then 0 else 1):=by
 unfold jP;rw[bR,h];by_cases e:x.kind=4<;>simp[jW,e]
theorem Wl(q:List Req)(ck:Bool)(hq:q.length≤1000000)(ho:∀ x∈q,x.line≤4294967295):bX C0 170 [.sl 4 (q.map rqL) ck] (vN (jP q)):=by
 refine bX.intro c0Ok Tryz.func170 rfl rfl (by kernel_rfl) rfl<|cSR<|oR 1 rfl<|rE 1<|cSR<|oR 1 rfl<|rE 2<|bW<|cSR<|oR 1 rfl<|rW (vN q.length) rfl (bY rqL q)<|oR 1 rfl<|rE 5<|bK<|mL (κ:=Nat) (λ k=>⟨slotsF [(6,.sl 4 (q.map rqL) ck),(7,vN q.length),(3,vN (jP (q.take k))),(8,vN k)],heapF [],5⟩) (λ k=>k≤q.length) (λ k=>q.length - k) 0 (λ s=>s) (Weak.of_lists (λ s=>s) wT trivial rfl) (aE _) ?_;intro k hk;have hkB:k≤1000000:=by omega
 have hrB:jP (q.take k)≤1000000:=by have:=Mt (q.take k);rw[aN]at this;omega
 refine cSR<|rW (vB (decide (k<q.length))) rfl (okB (ltN _ _))<|rE 6<|bW<|aW rfl (λ h1=>?_) (λ h1=>?_)
 ·refine bB<|bW<|bK<|cSR ?_;obtain⟨x,hx⟩:∃ x,q[k]?=some x:=⟨_,aA (of_decide_eq_true h1)⟩;have hxo:=ho x (aB hx);refine rIx (rqL x) (.dp 4 0 (rqL x)) rfl rfl (iB hx) rfl<|oR 1 rfl<|rAl 8 rfl rfl<|rSt rfl<|rE 10<|cSR<|oR 2 rfl<|rV (vB (x.kind != 4)) rfl<|rE 13<|aW rfl (λ h2=>?_) (λ h2=>?_)
  ·refine cRg<|oR 1 rfl ?_;have b1:(jP (q.take k))+1≤1000001:=aH hrB (aC 1);refine rW (vN ((jP (q.take k))+1)) rfl (okI (bV b1 rfl))<|oR 1 rfl<|rE 16<|cRg ?_;have b2:k+1≤1000001:=aH hkB (aC 1);refine rW (vN (k+1)) rfl (okI (bV b2 rfl))<|oR 1 rfl<|rE 18 ?_;refine⟨k+1,λ s=>s,Weak.of_lists _ ⟨⟨rfl,rfl⟩,⟨rfl,rfl⟩,⟨(congrArg (λ z:Nat=>AV.v (.int .i64 (z:Int))) (by rw[Aq hx];have q:=h2;simp at q;simp[q])),rfl⟩,⟨rfl,rfl⟩,trivial⟩ trivial rfl,of_decide_eq_true h1,by have:=of_decide_eq_true h1;show q.length - (k+1)<q.length - k;omega⟩
  ·refine bB<|cRg ?_;have b3:k+1≤1000001:=aH hkB (aC 1);refine rW (vN (k+1)) rfl (okI (bV b3 rfl))<|oR 1 rfl<|rE 15 ?_;refine⟨k+1,λ s=>s,Weak.of_lists _ ⟨⟨rfl,rfl⟩,⟨rfl,rfl⟩,⟨(congrArg (λ z:Nat=>AV.v (.int .i64 (z:Int))) (by rw[Aq hx];have q:=h2;simp at q;simp[q])),rfl⟩,⟨rfl,rfl⟩,trivial⟩ trivial rfl,of_decide_eq_true h1,by have:=of_decide_eq_true h1;show q.length - (k+1)<q.length - k;omega⟩
 ·refine eE<|cSR<|oR 2 rfl<|rE 8<|cO ?_;have hke:=aD h1;exact fT rfl (YG (by rw[aL (show q.length≤k by omega)]))
theorem HZ{α:Type}{f:α→Bool}{l:List α}{k:Nat}{x:α}(h:l[k]?=some x)(hf:f x=false)(hk:(l.take k).any f=false):(l.take (k+1)).any f=false:=by
 rw[bR,h];simp[List.any_append,hf]at hk⊢;exact hk
theorem Ia{α:Type}{f:α→Bool}{l:List α}{k:Nat}{x:α}(h:l[k]?=some x)(hf:f x=true):l.any f=true:=Lm.2 ⟨x,aB h,hf⟩
theorem Lc{α:Type}{f:α→Bool}{l:List α}{k:Nat}(h:l.length≤k)(hk:(l.take k).any f=false):l.any f=false:=by rwa [aL h]at hk
theorem Qt(q:List Req)(line:Nat)(kinds:List Int)(ck ck2:Bool)(hq:q.length≤1000000)(ho:∀ x∈q,x.line≤4294967295)(hline:line≤4294967295)(hks:kinds.length≤1000000):bX C0 115 [.sl 4 (q.map rqL) ck,vU line,.sl 1 (kinds.map iL) ck2] (.v (.bool (Lb q line kinds))):=by
 refine bX.intro c0Ok Tryz.func115 rfl rfl (by kernel_rfl) rfl<|cSR<|oR 1 rfl<|rE 1<|bW<|cSR<|oR 1 rfl<|rW (vN q.length) rfl (bY rqL q)<|oR 1 rfl<|rE 4<|bK<|mL (κ:=Nat) (λ k=>⟨slotsF [(1,vU line),(2,.sl 1 (kinds.map iL) ck2),(11,.sl 4 (q.map rqL) ck),(12,vN q.length),(13,vN k)],heapF [],4⟩) (λ k=>k≤q.length∧(q.take k).any (λ x:Req=>kinds.any λ k=>decide (x.line=line)&&decide (x.kind=k))=false) (λ k=>q.length - k) 0 (λ s=>s) (Weak.of_lists (λ s=>s) wT trivial rfl) (⟨aE _,rfl⟩) ?_;intro k hk;have hkB:k≤1000000:=by have:=hk.1;omega
 refine cSR<|rW (vB (decide (k<q.length))) rfl (okB (ltN _ _))<|rE 5<|bW<|aW rfl (λ h1=>?_) (λ h1=>?_)
 ·refine bB<|bW<|bK<|cSR ?_;obtain⟨x,hx⟩:∃ x,q[k]?=some x:=⟨_,aA (of_decide_eq_true h1)⟩;refine rIx (rqL x) (.dp 4 0 (rqL x)) rfl rfl (iB hx) rfl<|oR 1 rfl<|rAl 7 rfl rfl<|rSt rfl<|rE 9<|cSR<|oR 1 rfl<|rW (vN kinds.length) rfl (bY iL kinds)<|oR 1 rfl<|rE 12<|bK<|mL (κ:=Nat) (λ j=>⟨slotsF [(1,vU line),(2,.sl 1 (kinds.map iL) ck2),(8,.ptr 7 0),(11,.sl 4 (q.map rqL) ck),(12,vN q.length),(13,vN k),(17,.sl 1 (kinds.map iL) ck2),(18,vN kinds.length),(19,vN j)],heapF [(7,.box [vI x.kind,vU x.line,vI x.left,.v (.string x.data)])],12⟩) (λ j=>j≤kinds.length∧(kinds.take j).any (λ k:Int=>decide (x.line=line)&&decide (x.kind=k))=false) (λ j=>kinds.length - j) 0 (λ s=>s) (Weak.of_lists (λ s=>s) wT wH rfl) (⟨aE _,rfl⟩) ?_;intro j hj;have hjB:j≤1000000:=by have:=hj.1;omega
  refine cSR<|rW (vB (decide (j<kinds.length))) rfl (okB (ltN _ _))<|rE 13<|bW<|aW rfl (λ h2=>?_) (λ h2=>?_)
  ·refine bB<|bW<|bK<|cSR ?_;obtain⟨kd,hkd⟩:∃ kd,kinds[j]?=some kd:=⟨_,aA (of_decide_eq_true h2)⟩;refine rIx (iL kd) (.dp 1 0 (iL kd)) rfl rfl (iB hkd) rfl<|oR 2 rfl<|rE 16<|cSR<|oR 3 rfl<|rW (vB (x.line==line)) rfl (okB (eqN _ _))<|oR 1 rfl<|gN rfl<|gS rfl id<|gN rfl<|gBS (x:=vB (x.kind==kd)) rfl hsT rfl<|cV rfl rfl rfl (λ h=>h)<|rE 26<|aW rfl (λ h3=>?_) (λ h3=>?_)
   ·refine cSR<|oR 1 rfl<|rE 27<|cO ?_;exact fT rfl (congrArg (λ z=>AV.v (.bool z)) (Ia hx (Ia hkd (by have z:=h3;simpa [c2]using z))).symm)
   ·refine bB<|cRg ?_;have b1:j+1≤1000001:=aH hjB (aC 1);refine rW (vN (j+1)) rfl (okI (bV b1 rfl))<|oR 1 rfl<|rE 28 ?_;refine⟨j+1,λ s=>s,Weak.of_lists _ wT wH rfl,⟨of_decide_eq_true h2,HZ hkd (by have z:=h3;simpa [c2]using z) hj.2⟩,by have:=of_decide_eq_true h2;show kinds.length - (j+1)<kinds.length - j;omega⟩
  ·refine eE<|cRg ?_;have b2:k+1≤1000001:=aH hkB (aC 1);refine rW (vN (k+1)) rfl (okI (bV b2 rfl))<|oR 1 rfl<|rE 15 ?_;refine⟨k+1,λ s=>s,Weak.of_lists _ wT trivial rfl,⟨of_decide_eq_true h1,HZ hx (Lc (by have:=aD h2;omega) hj.2) hk.2⟩,by have:=of_decide_eq_true h1;show q.length - (k+1)<q.length - k;omega⟩
 ·refine eE<|cSR<|oR 1 rfl<|rE 6<|cO ?_;exact fT rfl (congrArg (λ z=>AV.v (.bool z)) (Lc (by have:=aD h1;omega) hk.2).symm)
end Go.Proofs.YtlhofpglndhfaaaGreatDoor
