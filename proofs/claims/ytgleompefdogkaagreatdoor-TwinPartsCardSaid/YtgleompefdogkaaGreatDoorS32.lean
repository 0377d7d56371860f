/- Joined texts. -/
import Derived.Test.YtgleompefdogkaaGreatDoorS1
import Derived.Test.YtgleompefdogkaaGreatDoorS24
import Derived.Test.YtgleompefdogkaaGreatDoorS28
import Derived.Test.YtgleompefdogkaaGreatDoorS29
import Derived.Test.YtgleompefdogkaaGreatDoorS30
import Derived.Test.YtgleompefdogkaaGreatDoorS31
set_option linter.unusedVariables false
set_option linter.unusedSimpArgs false
set_option linter.defProp false
namespace Go.Proofs.YtgleompefdogkaaGreatDoor
open Go.RowKit
section
variable {α:Type}
inductive YieldN(C:Ctx)(y:Value)(encs:α->Array Value)(xs:List α)(ops:List Oper)(st:ASt)(pre:List α)(K:ASt->List α->Bool->Prop):Prop
 | mk (k:Nat) (o:Oper) (f:Operand) (args:Array Operand) (ats:Array TypeId) (rest:List Oper) (hd:ops.drop k=o::rest) (ho:o.op=.call {callee:=.value f,args:=args,argTypes:=ats}) (hg:o.guard=none)
   (hr:jY C.noH (cA C.noH) ops (ops.take k) 0 st λst1=>∃x vs stw σ,Weak st1 stw σ∧keepB C.fr σ stw.n=true∧fullB stw.h stw.n=true∧Nat.ble stw.n st.n=true∧evA C stw.t f=.v y∧IJ (args.toList.map (evA C stw.t))=some vs∧encs x=vs.toArray∧pre++[x] <+: xs∧
    ∀b:Bool,jY C.noH (cA C.noH) ops rest (k+1) ⟨zQ stw.t o.dst (.v (.bool b)),stw.h,st.n⟩ (λst2=>K st2 (pre++[x]) (!b))):YieldN C y encs xs ops st pre K
inductive LoopY(fr:Nat)(body:ASt->List α->(AEx->ASt->List α->Bool->Prop)->Prop)(st:ASt)(pre:List α)(Q:AEx->ASt->List α->Bool->Prop):Prop
 | mk (κ:Type) (S:κ->ASt) (pr:κ->List α) (G:κ->Prop) (μ:κ->Nat) (k0:κ) (σ:Nat->Nat) (hw:Weak st (S k0) σ) (hf:keepB fr σ (S k0).n=true) (hp:pr k0=pre) (h0:G k0)
   (round:∀k,G k->body (S k) (pr k) (λe st' p' s'=>match e with| .normal=>s'=false∧∃k' σ',Weak st' (S k') σ'∧keepB fr σ' (S k').n=true∧pr k'=p'∧G k'∧μ k'<μ k|e=>Q e st' p' s')):LoopY fr body st pre Q
def codeY(C:Ctx)(y:Value)(encs:α->Array Value)(xs:List α):Code->ASt->List α->Bool->(AEx->ASt->List α->Bool->Prop)->Prop
 | .seq a b,st,pre,s,Q=>codeY C y encs xs a st pre s (λe st' p' s'=>match e with| .normal=>codeY C y encs xs b st' p' s' Q|e=>Q e st' p' s')
 | .cond c a b,st,pre,s,Q=>match evA C st.t c with| .v (.bool t)=>Branch t (codeY C y encs xs a st pre s Q) (codeY C y encs xs b st pre s Q)|_=>False
 | .block id b,st,pre,s,Q=>codeY C y encs xs b st pre s (λe st' p' s'=>match e with| .exit i=>(match Nat.beq i id with|true=>Q .normal st' p' s'|false=>Q (.exit i) st' p' s')|e=>Q e st' p' s')
 | .loop b,st,pre,s,Q=>s=false∧LoopY C.fr (λst p Q=>codeY C y encs xs b st p false Q) st pre Q
 | .region id ops dr,st,pre,s,Q=>eJ C (cA C) (.region id ops dr) st (λe st'=>Q e st' pre s)∨(dr=false∧s=false∧YieldN C y encs xs ops.toList st pre (λst' p' s'=>Q .normal st' p' s'))
 |c,st,pre,s,Q=>eJ C (cA C) c st (λe st'=>Q e st' pre s)
def wF(N:Nat):Code->Bool
 | .seq a b=>wF N a&&wF N b
 | .cond _ a b=>wF N a&&wF N b
 | .block _ b=>wF N b
 | .loop b=>wF N b
 |c=>oL N (λ_=>false) c
end
def Oe{F:Fence}{n:Nat}{P:Program}{Q:Exit->Act->World->Prop}{a:Act}{w:World}{c:Code}(I:Nat->Act->World->Prop)(m:Nat)(h0:I m a w)
  (round:∀m a w,I m a w->c.wpIn F n P (Exit.then (λa' w'=>∃m',m'<m∧I m' a' w') Q) a w):(Code.loop c).wpIn F n P Q a w:=by
 classical
 have least:∀(n:Nat) (a:Act) (w:World),(∃m,m<=n∧I m a w)->∃m,I m a w∧∀m',I m' a w->m<=m':=by
  intro n
  induction n with
  |zero=>rintro a w ⟨m,h1,h2⟩;exact⟨m,h2,λm' _=>by omega⟩
  |succ n ih=>
   rintro a w ⟨m,h1,h2⟩;by_cases hc:∃m',m'<=n∧I m' a w
   ·exact ih a w hc
   ·exact⟨m,h2,λm' h'=>Nat.le_of_not_lt λh=>hc ⟨m',by omega,h'⟩⟩
 have ex:∀a w,(∃m,I m a w)->∃m,I m a w∧∀m',I m' a w->m<=m':=λa w ⟨m,h⟩=>least m a w ⟨m,aC _,h⟩
 let μ:Act->World->Nat:=λa w=>if h:∃m,I m a w then Classical.choose (ex a w h)else 0
 have hμ:∀a w,(∃m,I m a w)->I (μ a w) a w∧∀m',I m' a w->μ a w<=m':=λa w h=>by
  have e:μ a w=Classical.choose (ex a w h):=dif_pos h;rw[e];exact nA (ex a w h)
 refine wpIn_loop (λa w=>∃m,I m a w) μ ⟨m,h0⟩ λa w h=>wpIn_mono (round (μ a w) a w (hμ a w h).1) ?_;intro e a' w' h';cases e<;>try exact h'
 obtain⟨m',h1,h2⟩:=h';exact⟨⟨m',h2⟩,bM ((hμ a' w' ⟨m',h2⟩).2 m' h2) h1⟩
section
variable {α:Type}{C:Ctx}{J:Bool->(Nat->Prop)->List α->World->Prop}{W:World}{xs:List α}{encs:α->Array Value}{N l:Nat}
def SYp(C:Ctx)(J:Bool->(Nat->Prop)->List α->World->Prop)(W:World)(xs:List α)(N:Nat)(st:ASt)(pre:List α)(s:Bool)(a:Act)(A:World):Prop:=
 ∃CC S β,J s CC pre A∧pre <+: xs∧W.heap.size<=A.heap.size∧SimD C (Inv.any C.fr) {W with heap:= #[]} (λ_=>True) N (· <st.n) st.t st.h a A S β∧(∀b,S b-> ¬CC b)∧(∀b,OwnB β b-> ¬CC b∧W.heap.size<=b)
theorem SYp.step(hJ:∀s C pre A B,J s C pre A->Same (λb=>b<W.heap.size∨C b) A B->J s C pre B)(hlt:∀s C pre A,J s C pre A->∀b,C b->b<A.heap.size)
  {CC:Nat->Prop} {pre:List α} {s:Bool} {w0:World} {S0:Nat->Prop} {D:Nat->Prop} {t:Nat->AV} {h:AH} {a:Act} {A A':World} {S S':Nat->Prop} {β β':Bt} {V:Inv C.fr}
  (j:J s CC pre A) (hp:pre <+: xs) (hs:W.heap.size<=A.heap.size) (k1:∀b,S b-> ¬CC b) (k2:∀b,OwnB β b-> ¬CC b∧W.heap.size<=b) (M:SimD C V w0 S0 N D t h a A S β) (P:FrP S A β C.fr S' A' β') (M':A'.os=A.os∧A'.tape=A.tape∧A'.output=A.output):
  J s CC pre A'∧W.heap.size<=A'.heap.size∧(∀b,S' b-> ¬CC b)∧(∀b,OwnB β' b-> ¬CC b∧W.heap.size<=b):=by
 refine⟨hJ s CC pre A A' j ⟨M'.1,M'.2.1,M'.2.2,P.sz,λb hb hh=>P.still b hb λho=>hh.elim (λh=>by have:=(k2 b ho).2;omega) (k2 b ho).1⟩,aN hs P.sz,λb hb hc=>?_,λb ⟨x,l,h1,h2⟩=>?_⟩
 ·rcases P.nw b hb with h|h|h
  ·exact k1 b h hc
  ·have:=hlt s CC pre A j b hc;omega
  ·exact(k2 b h).1 hc
 ·subst h2;rcases P.own x l h1 with h|h
  ·exact k2 _ h
  ·exact⟨λhc=>by have:=hlt s CC pre A j _ hc;omega,aN hs h⟩
def aaV(C:Ctx)(J:Bool->(Nat->Prop)->List α->World->Prop)(W:World)(xs:List α)(N:Nat)(Q:AEx->ASt->List α->Bool->Prop)(e:Exit)(a:Act)(A:World):Prop:=∃e' st pre s,e=FO e'∧Q e' st pre s∧SYp C J W xs N st pre s a A
def Lw(hC:CtxOk C)(hJ:∀s C pre A B,J s C pre A->Same (λb=>b<W.heap.size∨C b) A B->J s C pre B)(hlt:∀s C pre A,J s C pre A->∀b,C b->b<A.heap.size)
  (hY:∀CC pre x A,J false CC pre A->pre++[x] <+: xs->YieldAt Fence.wide 1 C.P l (encs x) A λe B=>∃b,e=.returned (.bool b)∧∃C',J (!b) C' (pre++[x]) B∧Same (λb=> ¬CC b) A B∧(∀b,C' b->CC b∨A.heap.size<=b)):
  ∀(c:Code),wF N c=true->∀(st:ASt) (pre:List α) (s:Bool) (Q:AEx->ASt->List α->Bool->Prop),codeY C (.func (.yield l) #[] #[]) encs xs c st pre s Q->∀(a:Act) (A:World),SYp C J W xs N st pre s a A->c.wpIn Fence.wide 2 C.P (aaV C J W xs N Q) a A:=by
 have base:∀(c:Code),oL N (λ_=>false) c=true->∀(st:ASt) (pre:List α) (s:Bool) (Q:AEx->ASt->List α->Bool->Prop),eJ C (cA C) c st (λe st'=>Q e st' pre s)->∀(a:Act) (A:World),SYp C J W xs N st pre s a A->c.wpIn Fence.wide 2 C.P (aaV C J W xs N Q) a A:=by
  rintro c hk st pre s Q hq a A ⟨CC,S,β,j,hp,hs,M,k1,k2⟩;refine wpIn_mono (BA (V:=FG S A β C.fr) (DR C.P) hC c hk st _ hq a A S β (M.inv (AX _ _ _ _)) (tmk.refl _ _)) ?_;rintro e a' A' ⟨e',st',S',β',rfl,h1,M', -⟩;obtain⟨g1,g2,g3,g4⟩:=SYp.step hJ hlt j hp hs k1 k2 M M'.iv ⟨M'.B.os.trans M.B.os.symm,M'.B.tape.trans M.B.tape.symm,M'.B.output.trans M.B.output.symm⟩;exact⟨e',st',pre,s,rfl,h1,CC,S',β',g1,hp,g2,M'.inv trivial,g3,g4⟩
 intro c
 induction c with
 |seq x y ihx ihy=>
  intro hk st pre s Q hq a A M;simp only[wF,aJ]at hk;refine wpIn_seq (wpIn_mono (ihx hk.1 st pre s _ hq a A M) ?_);rintro e a' w' ⟨e',st',p',s',rfl,h1,h2⟩
  cases e' with
  |normal=>exact ihy hk.2 st' p' s' Q h1 a' w' h2
  |exit i=>exact⟨.exit i,st',p',s',rfl,h1,h2⟩
  |ret=>exact⟨.ret,st',p',s',rfl,h1,h2⟩
 | cond c x y ihx ihy=>
  intro hk st pre s Q hq a A M;simp only[wF,aJ]at hk;simp only[codeY]at hq;split at hq
  ·rename_i b hb;obtain⟨h1,h2⟩:=hq;have M0:=M;obtain⟨CC,S,β,j,hp,hs,M1,k1,k2⟩:=M0;have hv:=tD M1 c;rw[hb]at hv;exact wpIn_cond_split (lN hv) (λht=>ihx hk.1 st pre s Q (h1 ht) a A M) (λhf=>ihy hk.2 st pre s Q (h2 hf) a A M)
  ·exact hq.elim
 | block id b ih=>
  intro hk st pre s Q hq a A M;refine wpIn_block (wpIn_mono (ih hk st pre s _ hq a A M) ?_);rintro e a' w' ⟨e',st',p',s',rfl,h1,h2⟩
  cases e' with
  |normal=>exact⟨.normal,st',p',s',rfl,h1,h2⟩
  |ret=>exact⟨.ret,st',p',s',rfl,h1,h2⟩
  | exit i=>
   show Exit.inBlock id _ (.exit i) a' w';simp only at h1;simp only[Exit.inBlock];by_cases hi:i=id
   ·subst hi;rw[if_pos rfl];rw[show Nat.beq i i=true from nD i]at h1;exact⟨.normal,st',p',s',rfl,h1,h2⟩
   ·rw[if_neg hi];have:Nat.beq i id=false:=by rw[<-eI];exact λe=>hi (aK e)
    rw[this]at h1
    exact⟨.exit i,st',p',s',rfl,h1,h2⟩
 | loop b ih=>
  intro hk st pre s Q hq a A M;obtain⟨rfl,hL⟩:=hq;obtain⟨κ,S,pr,G,μ,k0,σ,hw,hf,rfl,h0,round⟩:=hL;have weak:∀{st st':ASt} {σ:Nat->Nat} {p:List α} {a:Act} {A:World},Weak st st' σ->keepB C.fr σ st'.n=true->SYp C J W xs N st p false a A->SYp C J W xs N st' p false a A:=by
   rintro st st' σ p a A hw hf ⟨CC,S,β,j,hp,hs,M1,k1,k2⟩;refine⟨CC,S,_,j,hp,hs,pM hw hf M1,k1,λb ⟨x,l,h1,h2⟩=>?_⟩;simp only at h1;split at h1
   ·exact k2 b ⟨_,l,h1,h2⟩
   ·cases h1
  refine Oe (λm a A=>∃k,μ k=m∧G k∧SYp C J W xs N (S k) (pr k) false a A) (μ k0) ⟨k0,rfl,h0,weak hw hf M⟩ ?_;rintro m a A ⟨k,rfl,hG,M⟩;refine wpIn_mono (ih hk _ _ _ _ (round k hG) a A M) ?_;rintro e a' w' ⟨e',st',p',s',rfl,h1,h2⟩
  cases e' with
  |normal=>
   obtain⟨rfl,k',σ',g1,g2,rfl,g4,g5⟩:=h1
   exact⟨μ k',g5,k',rfl,g4,weak g1 g2 h2⟩
  |exit i=>exact⟨.exit i,st',p',s',rfl,h1,h2⟩
  |ret=>exact⟨.ret,st',p',s',rfl,h1,h2⟩
 | region id ops dr=>
  intro hk st pre s Q hq a A M;rcases hq with hq|⟨rfl,rfl,hq⟩
  ·exact base _ hk st pre s Q hq a A M
  obtain⟨k,o,f,args,ats,rest,hd,ho,hg,hr⟩:=hq;obtain⟨CC,S,β,j,hp,hs,M,k1,k2⟩:=M;obtain⟨t,h,n⟩:=st;simp only[wF,oL,aJ]at hk;have hko:ops.toList[k]?=some o:=by
   have:(ops.toList.drop k)[0]?=some o:=by rw[hd];rfl
   simpa using this
  have hoj:ops[k]?=some o:=by rw[<-hko,bH]
  have hklt:k<ops.toList.length:=(DS.1 hko).1;have hsz:ops.size=k+(1+rest.length):=by
   have:=congrArg List.length hd;simp at this;simp at hklt;omega
  have hrest:ops.toList.drop (k+1)=rest++[]:=by rw[<-kX,hd];simp
  have htk:(ops.toList.take k).length=k:=by simp at hklt⊢;omega
  have hrange:List.range ops.size=List.range' 0 (ops.toList.take k).length++(k::(List.range' (k+1) rest.length++[])):=by
   rw[oA,hsz,htk,dR, <-List.range'_append_1,bF,iD 1,nY]
  refine wpIn_region ?_;rw[hrange];refine BB (C:=C.noH) (V:=FG S A β C.fr) (kp:=λ_=>false) (a0:=a) (DR C.P) hC.noH (λ_ _ _ _ _ h=>h) rfl hk.1 hk.2 _ (ops.toList.take k) 0 t h a A S β ⟨ops.toList.drop k,by simp⟩ hr ((M.inv (AX _ _ _ _)).noH) (tmk.refl _ _) ?_;rintro st1 a1 A1 S1 β0 ⟨x,vs,stw,σ,hW,hkp,hfull,hnn,hf,hvs,henc,hpx,hb⟩ M0 -;obtain⟨g1,g2,g3,g4⟩:=SYp.step hJ hlt j hp hs k1 k2 M M0.iv ⟨M0.B.os.trans M.B.os.symm,M0.B.tape.trans M.B.tape.symm,M0.B.output.trans M.B.output.symm⟩;have M1:=pM (C:=C.noH) hW hkp M0;have hfl:=uN hfull;have hnn:=aP hnn;have g5:∀b,OwnB (λs=>if s<stw.n then β0 (σ s)else none) b-> ¬CC b∧W.heap.size<=b∧b<A1.heap.size:=by
   rintro b ⟨y,l,h1,h2⟩;subst h2;obtain⟨blk,hblk⟩:=DD.1 (hfl y (M1.dom y l h1));obtain⟨l',cs,e,fr,q1,q2, -⟩:=M1.H.own y blk hblk;simp only at h1 q1;rw[h1]at q1;cases q1;split at h1
   ·exact⟨(g4 _ ⟨_,l,h1,rfl⟩).1,(g4 _ ⟨_,l,h1,rfl⟩).2,fQ q2⟩
   ·cases h1
  generalize (λs=>if s<stw.n then β0 (σ s)else none)=β1 at M1 g5;have hfe:a1.eval f=.func (.yield l) #[] #[]:=by
   have:=tD M1 f;rw[show evA C.noH stw.t f=evA C stw.t f from rfl,hf]at this;exact lN this
  have hargs:args.map a1.eval=encs x:=by
   rw[henc];have hrl:RepL S1 A1 β1 (args.toList.map (evA C.noH stw.t)) (args.toList.map a1.eval):=⟨by simp,λi y u p q=>by
    rw[bD]at p q
    cases hi:args.toList[i]? with
    |none=>rw[hi]at p;cases p
    |some z=>rw[hi]at p q;cases p;cases q;exact tD M1 z⟩
   have:=Ko (show IJ (args.toList.map (evA C.noH stw.t))=some vs from hvs) hrl;rw[<-this];apply Array.ext';simp
  have hY1:=hY CC pre x A1 g1 hpx;refine Is hoj hg (LA (DR C.P) ho hfe hargs hY1 ?_);rintro b B ⟨C',j',hsame,hgrow⟩;have M2:SimD C.noH (FG S1 B β1 C.fr) {W with heap:= #[]} (λ_=>True) N (· <stw.n) stw.t stw.h a1 B S1 β1:=
   (M1.inv (V':=Inv.any C.noH.fr) trivial).move (λb hb=>hsame.block b (M1.H.lt b hb) (g3 b hb)) (λs l o q1 q2=>(hsame.block _ (fQ q2) (g5 _ ⟨s,l,q1,rfl⟩).1).trans q2) hsame.os hsame.tape hsame.output hsame.size (λb hb=>absurd hb (dD _)) (AX _ _ _ _)
  have hslot:=wO hk.1 (aB hko);have M3:SimD C.noH (FG S1 B β1 C.fr) {W with heap:= #[]} (λ_=>True) N (· <n+(k+1)) (zQ stw.t o.dst (.v (.bool b))) stw.h (a1.put o.dst (.bool b)) B S1 β1:=by
   refine⟨OJ a1 M2.T (.v _) (λk hk=>by rw[M2.sz];exact hslot k hk),M2.H,M2.B,λy l hy=>(by have:y<stw.n:=M2.dom y l hy;simp only at hnn;omega),?_,?_,M2.G,M2.nw,M2.iv⟩
   ·cases o.dst<;>exact M2.df
   ·cases o.dst with
    |none=>exact M2.sz
    |some k=>simp only[Act.put,iX];exact M2.sz
  refine BB (C:=C.noH) (V:=FG S1 B β1 C.fr) (kp:=λ_=>false) (a0:=a1.put o.dst (.bool b)) (DR C.P) hC.noH (λ_ _ _ _ _ h=>h) rfl hk.1 hk.2 [] rest (k+1) _ _ _ B S1 β1 ⟨[],hrest⟩ (hb b) M3 (tmk.refl _ _) ?_;rintro st2 a2 A2 S2 β2 hK M4 -;obtain⟨f1,f2,f3,f4⟩:=SYp.step (CC:=C') hJ hlt j' hpx (aN g2 hsame.size) (λb hb hc=>(hgrow b hc).elim (g3 b hb) (λh=>by have:=M1.H.lt b hb;omega)) (λb hb=>⟨λhc=>(hgrow b hc).elim (g5 b hb).1 (λh=>by have:=(g5 b hb).2.2;omega),(g5 b hb).2.1⟩) M3.ofNoH M4.iv ⟨M4.B.os.trans M3.B.os.symm,M4.B.tape.trans M3.B.tape.symm,M4.B.output.trans M3.B.output.symm⟩
  exact⟨.normal,st2,_,_,rfl,hK,C',S2,β2,f1,hpx,f2,M4.ofNoH.inv trivial,f3,f4⟩
 |_=>intro hk st pre s Q hq;exact base _ hk st pre s Q hq
end
theorem Tz.intro{α:Type}{C:Ctx}(hC:CtxOk C){g:FuncId}{fn:Func}{body:Code}{caps:List AV}{encs:α->Array Value}{xs:List α}(hf:C.P.funcs[g]?=some fn)(hb:fn.body=some body)(hres:fn.results.toList=[])
  (hN:wF fn.ntmps body=true) (hlen:Nat.ble (caps.length+1) fn.ntmps=true)
  (hw:∀y,codeY C y encs xs body ⟨argsT (.v y::caps),λ_=>none,0⟩ [] false (λe _ pre s=>match e with| .exit _=>False|_=>s=false->pre=xs)) (hdf:C.df=[]:=by rfl):Tz C g caps encs xs:=by
 intro R w us hRlt hG hus l J C0 W hRW hdis hJ hJlt hY h0;have hlen:=aP hlen;have same:∀b,R b->W.heap[b]?=w.heap[b]? :=λb hb=>hRW.block b (hRlt b hb) hb;refine callsIn_wide.1 (callsIn_of_wp_marks (n:=2) hf hb trivial ?_);have hul:us.length=caps.length:=hus.1.symm;have M0:SYp C J W xs fn.ntmps ⟨argsT (.v (.func (.yield l) #[] #[])::caps),λ_=>none,0⟩ [] false {tmps:=(#[Value.func (.yield l) #[] #[]]++us.toArray)++Array.replicate (fn.ntmps-(#[Value.func (.yield l) #[] #[]]++us.toArray).size) undef,defers:=[]} W:=by
  refine⟨C0,R,noB,h0,List.nil_prefix,aC _,⟨λi=>?_,⟨λs blk h=>(by cases h),λs s' l l' h=>absurd rfl h,λb hb=>Nat.lt_of_lt_of_le (hRlt b hb) hRW.size,aE _⟩,⟨rfl,rfl,rfl,aE _,λb hb=>by simp at hb⟩,λx l h=>(by cases h),hdf.symm,?_,λg cells hg=>zJ (hG g cells hg) (λ_ h=>h) same (λs l _ _ _ e=>by cases e),λ_ _=>.inl trivial,trivial⟩,hdis,λb ⟨x,l,h1,_⟩=>by cases h1⟩
  ·show Rep R W noB (argsT (.v (.func (.yield l) #[] #[])::caps) i) (Array.getD _ i undef);rw[zX,aI]
   cases i with
   |zero=>
    rw[dL (by simp),dL (by simp)]
    exact .v _
   | succ i=>
    rw[dE]
    cases ha:caps[i]? with
    |none=>exact .any _
    |some x=>
     have hi:i<us.length:=by rw[hul];exact(DS.1 ha).1
     have hv:us[i]?=some us[i]:=aA hi;rw[dL (by simp;omega),Array.getElem?_append_right (by simp)];simp only[mR,bN,cW,gG,eK,hv,gF];exact zJ (hus.2 i x _ ha hv) (λ_ h=>h) same (λs l _ _ _ e=>by cases e)
  ·simp;omega
 refine wpIn_mono (Lw hC hJ hJlt hY body hN _ _ _ _ (hw _) _ W M0) ?_;rintro e a' A ⟨e',st,pre,s,rfl,hq,CC,S,β,j,hp,hs,M,k1,k2⟩;have fin:(s=false->pre=xs)->LeavesInM Fence.wide 2 C.P fn a'.tmps (λe W'=>(∃v,e=.returned v)∧((∃C,J false C xs W')∨∃C pre,pre <+: xs∧J true C pre W')) a'.defers .returning A:=by
  intro hq;rw[M.df,hdf];refine⟨_,yN [] [] rfl fn hres,⟨_,rfl⟩,?_⟩
  cases s with
  |false=>obtain rfl:=hq rfl;exact .inl ⟨CC,j⟩
  |true=>exact .inr ⟨CC,pre,hp,j⟩
 cases e' with
 |normal=>exact fin hq
 |ret=>exact fin hq
 |exit i=>exact hq.elim
theorem CtxOk.wd{C:Ctx}(h:CtxOk C)(d:Option Nat):CtxOk (C.wd d):=⟨h.ty,h.mixed,h.hH⟩
def UB:Code->Bool
 | .seq _ _=>false
 | .cond _ _ _=>false
 | .block _ _=>false
 | .scope _=>false
 | .loop _=>false
 | .rangeFunc _ _ _ _=>false
 |_=>true
section
variable {C:Ctx}{d:Option Nat}{Q:Option Nat->AEx->ASt->Prop}{t:Nat->AV}{h:AH}{n:Nat}
def zV{a b:Code}{st:ASt}(k:wI C a d st (λd' e st'=>match e with| .normal=>wI C b d' st' Q|e=>Q d' e st')):wI C (.seq a b) d st Q:=k
def UC{c:Operand}{a b:Code}{v:Bool}(hv:evA C t c=.v (.bool v))(k1:v=true->wI C a d ⟨t,h,n⟩ Q)(k2:v=false->wI C b d ⟨t,h,n⟩ Q):wI C (.cond c a b) d ⟨t,h,n⟩ Q:=by
 simp only[wI,hv];exact .mk k1 k2
def Lx{id:Nat}{b:Code}{st:ASt}(k:wI C b d st (λd' e st'=>match e with| .exit i=>(match Nat.beq i id with|true=>Q d' .normal st'|false=>Q d' (.exit i) st')|e=>Q d' e st')):wI C (.block id b) d st Q:=k
def Wq{b:Code}{st:ASt}(k:wI C b d st Q):wI C (.scope b) d st Q:=k
def zI{c:Code}{st:ASt}(hc:UB c=true)(k:eJ (C.wd d) (cA (C.wd d)) c st (Q d)):wI C c d st Q:=by
 cases c<;>first|exact k|cases hc
def YB{b:Code}{st:ASt}(k:eJ (C.wd d) (cA (C.wd d)) (.loop b) st (Q d)):wI C (.loop b) d st Q:=k
def QP{g:Operand}{ps:Array Tmp}{a b:Code}{st:ASt}(k:GhostN st λstg=>∃stw σ,Weak stg stw σ∧keepB C.fr σ stw.n=true∧RangeN C stw g ps.toList a b (λe st'=>∀D,Q (some D) e st')):wI C (.rangeFunc g ps a b) none st Q:=⟨rfl,k⟩
end
def YC{C:Ctx}{R:FuncId->List AV->AV->Prop}{Q:AEx->ASt->Prop}{l:Nat}{st:ASt}(k:Q .normal st):eJ C R (.label l) st Q:=k
section
variable {α:Type}{C:Ctx}{y:Value}{encs:α->Array Value}{xs pre:List α}{s:Bool}{Q:AEx->ASt->List α->Bool->Prop}{t:Nat->AV}{h:AH}{n:Nat}
def wK{a b:Code}{st:ASt}(k:codeY C y encs xs a st pre s (λe st' p' s'=>match e with| .normal=>codeY C y encs xs b st' p' s' Q|e=>Q e st' p' s')):codeY C y encs xs (.seq a b) st pre s Q:=k
def Fa{c:Operand}{a b:Code}{v:Bool}(hv:evA C t c=.v (.bool v))(k1:v=true->codeY C y encs xs a ⟨t,h,n⟩ pre s Q)(k2:v=false->codeY C y encs xs b ⟨t,h,n⟩ pre s Q):codeY C y encs xs (.cond c a b) ⟨t,h,n⟩ pre s Q:=by
 simp only[codeY,hv];exact .mk k1 k2
def CT{id:Nat}{b:Code}{st:ASt}(k:codeY C y encs xs b st pre s (λe st' p' s'=>match e with| .exit i=>(match Nat.beq i id with|true=>Q .normal st' p' s'|false=>Q (.exit i) st' p' s')|e=>Q e st' p' s')):codeY C y encs xs (.block id b) st pre s Q:=k
def sX{c:Code}{st:ASt}(hc:UB c=true)(k:eJ C (cA C) c st (λe st'=>Q e st' pre s)):codeY C y encs xs c st pre s Q:=by
 cases c<;>first|exact Or.inl k|exact k|cases hc
def QQ{b:Code}{st:ASt}{κ:Type}(S:κ->ASt)(pr:κ->List α)(G:κ->Prop)(μ:κ->Nat)(k0:κ)(σ:Nat->Nat)(hw:Weak st (S k0) σ)(hf:keepB C.fr σ (S k0).n=true)(hp:pr k0=pre)(h0:G k0)
  (round:∀k,G k->codeY C y encs xs b (S k) (pr k) false (λe st' p' s'=>match e with| .normal=>s'=false∧∃k' σ',Weak st' (S k') σ'∧keepB C.fr σ' (S k').n=true∧pr k'=p'∧G k'∧μ k'<μ k|e=>Q e st' p' s')):codeY C y encs xs (.loop b) st pre false Q:=
 ⟨rfl,.mk κ S pr G μ k0 σ hw hf hp h0 round⟩
def QR{id:Nat}{ops:Array Oper}{l:List Oper}{st:ASt}(hl:ops.toList=l)(k:Nat){o:Oper}{f:Operand}{args:Array Operand}{ats:Array TypeId}{rest:List Oper}(hd:l.drop k=o::rest)(ho:o.op=.call {callee:=.value f,args:=args,argTypes:=ats})(hg:o.guard=none)
  (hr:jY C.noH (cA C.noH) l (l.take k) 0 st λst1=>∃x vs stw σ,Weak st1 stw σ∧keepB C.fr σ stw.n=true∧fullB stw.h stw.n=true∧Nat.ble stw.n st.n=true∧evA C stw.t f=.v y∧IJ (args.toList.map (evA C stw.t))=some vs∧encs x=vs.toArray∧pre++[x] <+: xs∧
    ∀b:Bool,jY C.noH (cA C.noH) l rest (k+1) ⟨zQ stw.t o.dst (.v (.bool b)),stw.h,st.n⟩ (λst2=>Q .normal st2 (pre++[x]) (!b))):codeY C y encs xs (.region id ops false) st pre false Q:=by
 subst hl;exact .inr ⟨rfl,rfl,.mk k o f args ats rest hd ho hg hr⟩
end
set_option maxRecDepth 100000
set_option maxHeartbeats 4000000
def unV:AV->Value
 | .v x=>x
 |_=>undef
def aa6(e:Ent):Value:=.agg ((enL e).map unV).toArray
def XV(x:Nat×Ent):Array Value:= #[.int .i64 (x.1:Int),aa6 x.2]
def zS(rob:List Ent):Nat->List (Nat×Ent)
 |0=>[]
 |n+1=>match rob[n]? with|some e=>(n,e)::zS rob n|none=>zS rob n
theorem Ju{rob:List Ent}:∀{n:Nat},n<=rob.length->(zS rob n).length=n
 |0,_=>rfl
 |n+1,h=>by
  have e:rob[n]?=some rob[n]:=aA h;simp only[zS,e,bN,Ju (mT h)]
theorem Mp{rob:List Ent}:∀{n k:Nat} {x:Ent},n<=rob.length->0<k->k<=n->rob[k-1]?=some x->(zS rob n)[n-k]?=some (k-1,x)
 |0,k,x,_,h1,h2,_=>by omega
 | n+1,k,x,h,h1,h2,hx=>by
  have e:rob[n]?=some rob[n]:=aA h;simp only[zS,e];by_cases hk:k=n+1
  ·subst hk;rw[gG,e]at hx;cases hx
   simp
  ·rw[show n+1-k=(n-k)+1 by omega,dE];exact Mp (mT h) h1 omT hx
theorem Aq{rob:List Ent}:∀{n:Nat} {x:Nat×Ent},x∈zS rob n->x.1<n∧rob[x.1]?=some x.2
 |0,x,h=>by cases h
 | n+1,x,h=>by
  simp only[zS]at h;split at h
  ·rename_i e he;rcases al_List_mem_cons.1 h with rfl|h
   ·exact⟨Nat.lt_succ_self _,he⟩
   ·exact⟨mS (Aq h).1,(Aq h).2⟩
  ·exact⟨mS (Aq h).1,(Aq h).2⟩
def HA(rob:List Ent)(n k:Nat):List (Nat×Ent):=(zS rob n).take (n-k)
def Gn{rob:List Ent}{n k:Nat}{x:Ent}(hn:n<=rob.length)(h1:0<k)(h2:k<=n)(hx:rob[k-1]?=some x):HA rob n (k-1)=HA rob n k++[(k-1,x)]:=by
 unfold HA;rw[show n-(k-1)=(n-k)+1 by omega,bV,Mp hn h1 h2 hx];rfl
def PH{rob:List Ent}{n k:Nat}:HA rob n k <+: zS rob n:=List.take_prefix _ _
def PI{rob:List Ent}{n:Nat}(hn:n<=rob.length):HA rob n 0=zS rob n:=by
 unfold HA;rw[Nat.sub_zero];exact aM (Nat.le_of_eq (Ju hn))
def KV{rob:List Ent}{n:Nat}:HA rob n n=[]:=by
 unfold HA;rw[fG];rfl
def ZC(rob:List Ent)(ck:Bool)(i:Nat)(hl:rob.length<=1000)(ho:∀x∈rob,x.ok)(hi:i<=1000):Tz C0 156 [.dp 1 0 ([vN i]),.dp 1 0 ([.sl 17 (rob.map enL) ck])] XV (zS rob (min i rob.length)):=by
 refine Tz.intro c0Ok Tryz.func156 rfl rfl (by kernel_rfl) rfl ?_;intro y;refine wK<|sX rfl<|cRg<|oR 2 rfl<|rW (vN rob.length) rfl (bT enL rob)<|rW (vN (min i rob.length)) rfl (EK i rob.length)<|oR 1 rfl<|rE 5<|CT<|QQ (κ:=Nat) (λk=>⟨slotsF [(0,.v y),(1,.dp 1 0 ([vN i])),(2,.dp 1 0 ([.sl 17 (rob.map enL) ck])),(4,vN k)],heapF [],5⟩) (λk=>HA rob (min i rob.length) k) (λk=>k<=min i rob.length) (λk=>k) (min i rob.length) (λs=>s) (Weak.of_lists (λs=>s) wT trivial rfl) rfl (KV) (aC _) ?_;intro k hk;have hkB:k<=1000:=by have:k<=min i rob.length:=hk;omega
 refine wK<|wK<|sX rfl<|cRg<|oR 1 rfl<|rW (vB (decide (k>0))) rfl (okB (gtN _ _))<|rE 7<|Fa (v:=decide (k>0)) rfl (λh1=>?_) (λh1=>?_)
 ·have h1p:=of_decide_eq_true h1;refine sX rfl<|mH<|wK<|CT<|wK<|QR rfl 8 rfl rfl rfl<|oR 2 rfl ?_;have b1:k-1<=1000:=aN (jS _ _) hkB;refine rW (vN (k-1)) rfl (okI (Dm omT hkB rfl))<|oR 2 rfl ?_;have b2:k-1<=1000:=aN (jS _ _) hkB;refine rW (vN (k-1)) rfl (okI (Dm omT hkB rfl)) ?_;obtain⟨x,hx⟩:∃y_,rob[(k-1)]?=some y_:=⟨_,aA omT⟩;have hxo:=ho x (aB hx);refine rIx (enL x) (.dp 17 0 (enL x)) rfl rfl (fW hx) rfl<|oR 1 rfl<|rE 15 ?_;refine⟨(k-1,x),_,⟨slotsF [(0,.v y),(1,.dp 1 0 ([vN i])),(2,.dp 1 0 ([.sl 17 (rob.map enL) ck])),(4,vN k),(13,.v y),(15,vN (k-1)),(20,.agg (enL x))],heapF [],0⟩,λs=>s,Weak.of_lists _ wT trivial rfl,rfl,rfl,rfl,rfl,rfl,rfl,(by rw[<-Gn (eT _ _) h1p hk hx];exact PH),λyb1=>?_⟩;refine oR 1 rfl<|rE 17<|Fa (v:= !yb1) rfl (λh2=>?_) (λh2=>?_)
  ·refine sX rfl<|rL ?_;intro hs;rw[h2]at hs;cases hs
  ·refine sX rfl<|mH<|sX rfl<|cRg<|oR 1 rfl ?_;have b3:k-1<=1000:=aN (jS _ _) hkB;refine rW (vN (k-1)) rfl (okI (Dm omT hkB rfl))<|oR 1 rfl<|rE 20 ?_;refine⟨h2,k-1,λs=>s,Weak.of_lists _ wT trivial rfl,rfl,(Gn (eT _ _) h1p hk hx),(by show k-1<=min i rob.length;omega),(by show k-1<k;omega)⟩
 ·have h1p:=aD h1;refine sX rfl<|Je ?_;intro _;obtain rfl:k=0:=by omega
  exact PI (eT _ _)
theorem Df{rob:List Ent}{reg:Int}:∀{n:Nat},n<=rob.length->(∀y,y∈zS rob n-> ¬wr y.2.i=reg)->Au rob reg n=none
 |0,_,_=>rfl
 |n+1,h,hN=>by
  have e:rob[n]?=some rob[n]:=aA h;simp only[zS,e]at hN;have h0: ¬wr rob[n].i=reg:=hN (n,rob[n]) bI;simp only[Au,Lb,e];rw[if_neg (by simpa using h0)];exact Df (mT h) λy hy=>hN y (bP _ hy)
theorem Dg{rob:List Ent}{reg:Int}:∀{n:Nat} {pre:List (Nat×Ent)} {x:Nat×Ent},n<=rob.length->pre++[x] <+: zS rob n->(∀y,y∈pre-> ¬wr y.2.i=reg)->wr x.2.i=reg->Au rob reg n=some x.1
 |0,pre,x,_,h,_,_=>by have:=h.length_le;simp[zS]at this
 | n+1,pre,x,hn,h,hN,hx=>by
  have e:rob[n]?=some rob[n]:=aA hn;simp only[zS,e]at h;simp only[Au,Lb,e]
  cases pre with
  | nil=>
   obtain rfl:x=(n,rob[n]):=by
    obtain⟨t,ht⟩:=h;exact(List.cons.inj ht).1
   rw[if_pos (by simpa using hx)]
  |cons y l=>
   obtain⟨t,ht⟩:=h;obtain⟨h3,h4⟩:=List.cons.inj ht;subst h3;have h0: ¬wr rob[n].i=reg:=hN (n,rob[n]) bI;rw[if_neg (by simpa using h0)];exact Dg (mT hn) ⟨t,h4⟩ (λy hy=>hN y (bP _ hy)) hx
def ZD(rob:List Ent)(ck:Bool)(i:Nat)(hl:rob.length<=1000)(ho:∀x∈rob,x.ok)(hi:i<=1000):cA C0 137 [.sl 17 (rob.map enL) ck,vN i] (.clo 156 [] [.dp 1 0 [vN i],.dp 1 0 [.sl 17 (rob.map enL) ck]]):=by
 refine cA.intro c0Ok Tryz.func137 rfl rfl (by kernel_rfl) rfl<|qS 0 rfl<|rV (.clo 156 [] [.ptr 1 0,.ptr 0 0]) rfl<|qRF 0 rfl ?_;exact dF rfl tvT rfl rfl
def PJ(rob:List Ent)(ck:Bool)(i:Nat)(reg:Int)(hl:rob.length<=1000)(ho:∀x∈rob,x.ok)(hi:i<=1000):cA C0 104 [.sl 17 (rob.map enL) ck,vN i,vI reg] (vI (Dx (gU rob i reg))):=by
 refine cA.introR (C:=C0) (λd=>c0Ok.wd d) (λn=>c0Ok.at) Tryz.func104 rfl rfl (by kernel_rfl) rfl<|zV<|zI rfl<|cRg<|rAl 0 rfl rfl<|rAl 1 rfl rfl<|rE 2<|zV<|zV<|zI rfl<|cRg<|oR 1 rfl<|rV (vB (decide (reg<1))) rfl<|oR 1 rfl<|gN rfl<|gBS rfl id rfl<|cU rfl rfl rfl (by simp)<|rE 8<|UC (v:=cR (decide (reg<1)) true (decide (reg>31))) rfl (λh1=>?_) (λh1=>?_)
 ·refine zV<|zI rfl<|cRg<|rSt rfl<|rE 9<|zI rfl<|rL ?_;have hb:(reg<1∨reg>31):=by have z:=h1;simp only[cOr]at z;grind
  have e:gU rob i reg=none:=if_pos hb;rw[e];exact fT rfl rfl
 ·refine zI rfl<|mH<|zV<|zV<|zI rfl<|cRg<|oR 2 rfl<|rCi rfl (ZD rob ck i hl ho hi)<|rE 11<|Lx<|QP (.mk _ (.refl _) ⟨⟨slotsF [(5,.ptr 0 0),(6,.ptr 1 0),(17,.clo 156 [] [.dp 1 0 ([vN i]),.dp 1 0 ([.sl 17 (rob.map enL) ck])])],heapF [(0,.box [vI reg]),(1,.box [vI 0])],2⟩,λs=>s,Weak.of_lists _ wT wH rfl,rfl,?_⟩);refine .mk (Nat×Ent) 156 [.dp 1 0 ([vN i]),.dp 1 0 ([.sl 17 (rob.map enL) ck])] (λx:Nat×Ent=>[vN x.1,.agg (enL x.2)]) XV (zS rob (min i rob.length)) (λx:Nat×Ent=> ¬wr x.2.i=reg) 2 (λ_=>heapF [(0,.box [vI reg]),(1,.box [vI 0])]) (λ_=>2) rfl rfl ⟨_,Tryz.func156,rfl,rfl⟩ (ZC rob ck i hl ho hi) (λx S w β=>DE (show IJ [vN x.1,.agg (enL x.2)]=some _ from rfl)) (λ_=>rfl) rfl rfl (λ_=>rfl) (Weak.of_lists (hp:=[]) (λs=>s) wT trivial rfl) ?_ ?_
  ·intro pre_ x hp_ hN_;have hxm:=Aq (hp_.subset (List.mem_append_right _ (uO.2 rfl)));have hx1:x.1<=1000:=by have:=hxm.1;omega
   have hxo:=ho x.2 (aB hxm.2);refine cSR<|oR 1 rfl<|rE 3<|cRg<|rAl 3 rfl rfl<|rSt rfl<|rE 5 ?_;refine⟨rfl,?_⟩;refine qV<|cSR<|oR 2 rfl<|rCi rfl (CJ x.2.i)<|oR 1 rfl<|rV (vB ((wr x.2.i)==reg)) rfl<|rE 10<|aS rfl (λh2=>?_) (λh2=>?_)
   ·have h2p:=mW h2;refine cSR<|oR 1 rfl<|rSt rfl<|rE 12<|rL<|.mk _ (.refl _) ⟨heapF [(0,.box [vI reg]),(1,.box [vN x.1])],2,λs=>s,rfl,rfl,Weak.of_lists (l:=[]) (hp:=[(0,.box [vI reg]),(1,.box [vN x.1])]) (λs=>s) trivial wH rfl,?_⟩;intro D;have hb: ¬(reg<1∨reg>31):=by have z:=h1;simp only[cOr]at z;grind
    have e:gU rob i reg=some x.1:=(if_neg hb).trans (Dg (eT _ _) hp_ hN_ (mW h2));rw[e];exact fT rfl rfl
   ·have h2p:=mX h2;refine mH ?_;exact⟨mX h2,.mk _ (.refl _) ⟨λs=>s,rfl,Weak.of_lists (l:=[]) (hp:=[(0,.box [vI reg]),(1,.box [vI 0])]) (λs=>s) trivial wH rfl⟩⟩
  ·intro hN D;refine zV<|zI rfl<|cRg<|rSt rfl<|rE 3<|zI rfl<|rL ?_;have hb: ¬(reg<1∨reg>31):=by have z:=h1;simp only[cOr]at z;grind
   have e:gU rob i reg=none:=(if_neg hb).trans (Df (eT _ _) hN);rw[e];exact fT rfl rfl
theorem Gm{rob:List Ent}{reg:Int}:∀{n k:Nat},Au rob reg n=some k->k<n
 |0,k,h=>by cases h
 |n+1,k,h=>by
  simp only[Au]at h;split at h
  ·injection h with h;omega
  ·have:=Gm h;omega
def Ey{rob:List Ent}{i k:Nat}{reg:Int}(h:gU rob i reg=some k):k<i∧k<rob.length:=by
 unfold gU at h;split at h
 ·cases h
 ·have:=Gm h;omega
def Mn{o:Option Nat}(h:Dx o<0):o=none:=by cases o with|none=>rfl|some k=>exact absurd h (by show ¬((k:Int)<0);omega)
def Hz{o:Option Nat}(h: ¬Dx o<0):∃k,o=some k:=by cases o with|none=>exact absurd (by decide) h|some k=>exact⟨k,rfl⟩
def Jt(rob:List Ent)(r:Nat->Nat)(ck:Bool)(i:Nat)(reg:Int)(hl:rob.length<=1000)(ho:∀x∈rob,x.ok)(hr:∀k,r k<=4294967295)(hi:i<=1000):cA C0 61 [.sl 17 (rob.map enL) ck,.agg (Jz r),vN i,vI reg] (.tup [vU ((kZ rob r i reg).getD 0),vB (kZ rob r i reg).isSome]):=by
 refine cA.intro c0Ok Tryz.func61 rfl rfl (by kernel_rfl) rfl<|qS 0 rfl<|rV (vB (reg==0)) rfl<|qRC 0 rfl<|aS rfl (λh1=>?_) (λh1=>?_)
 ·have h1p:=mW h1;refine qCF 0 rfl ?_;have hrd:kZ rob r i reg=some 0:=by unfold kZ;rw[if_pos h1p]
  exact fT rfl (by rw[hrd];rfl)
 ·have h1p:=mX h1;refine qC 0 rfl<|rV (vB (decide (reg<0))) rfl<|qR 0 rfl<|gBS rfl id rfl<|cU rfl rfl rfl (by simp)<|qRC 0 rfl<|aS rfl (λh2=>?_) (λh2=>?_)
  ·have hb:(reg<0∨reg>31):=by have z:=h2;simp only[cOr]at z;grind
   refine qCF 0 rfl ?_;have hrd:kZ rob r i reg=none:=by unfold kZ;rw[if_neg h1p,if_pos hb]
   exact fT rfl (by rw[hrd];rfl)
  ·have hb: ¬(reg<0∨reg>31):=by have z:=h2;simp only[cOr]at z;grind
   refine qC 0 rfl<|rCi rfl (PJ rob ck (i) (reg) hl ho omT)<|qR 0 rfl<|rV (vB (decide ((Dx (gU rob (i) (reg)))<0))) rfl<|qRC 0 rfl<|aS rfl (λh3=>?_) (λh3=>?_)
   ·have h3p:=of_decide_eq_true h3;have hj:=Mn h3p;refine qC 0 rfl<|nW (.ptr 0 (0+reg.toNat*1)) rfl rfl omT<|rW (vU (r reg.toNat)) rfl (ldL r reg.toNat omT)<|qRF 0 rfl ?_;have hrd:kZ rob r i reg=some (r reg.toNat):=by unfold kZ;rw[if_neg h1p,if_neg hb,hj]
    exact fT rfl (by rw[hrd];rfl)
   ·have h3p:=aD h3;obtain⟨j,hj⟩:=Hz h3p;have hjl:=Ey hj;obtain⟨x,hx⟩:∃x,rob[j]?=some x:=⟨_,aA hjl.2⟩;refine qC 0 rfl<|ID (enL x) (x:=.dp 17 0 (enL x)) rfl rfl rfl (by rw[hj];exact⟨aH _,fW hx⟩) rfl<|qR 0 rfl<|rV (vB (x.is==3)) rfl<|qR 0 rfl<|gS rfl id<|gBS rfl id rfl<|cU rfl rfl rfl (λh=>h)<|qRC 0 rfl<|aS rfl (λh4=>?_) (λh4=>?_)
    ·refine qCF 0 rfl ?_;have hd:(x.is=3∧x.halt=0):=by have z:=h4;simp only[qG]at z;grind
     have hrd:kZ rob r i reg=some x.value:=by unfold kZ;rw[if_neg h1p,if_neg hb,hj];simp only[hx];exact if_pos hd
     exact fT rfl (by rw[hrd];rfl)
    ·refine qCF 0 rfl ?_;have hd: ¬(x.is=3∧x.halt=0):=by have z:=h4;simp only[qG]at z;grind
     have hrd:kZ rob r i reg=none:=by unfold kZ;rw[if_neg h1p,if_neg hb,hj];simp only[hx];exact if_neg hd
     exact fT rfl (by rw[hrd];rfl)
def BX{rob:List Ent}{r:Nat->Nat}(ho:∀x∈rob,x.ok)(hr:∀k,r k<=4294967295)(i:Nat)(reg:Int):(kZ rob r i reg).getD 0<=4294967295:=by
 unfold kZ;split
 ·exact aE _
 ·split
  ·exact aE _
  ·split
   ·exact hr _
   ·split
    ·rename_i e he;split
     ·exact(ho e (aB he)).value
     ·exact aE _
    ·exact aE _
def Uq(rob:List Ent)(r:Nat->Nat)(ck:Bool)(i:Nat)(hl:rob.length<=1000)(ho:∀x∈rob,x.ok)(hr:∀k,r k<=4294967295)(hi:i<=1000):cA C0 111 [.sl 17 (rob.map enL) ck,.agg (Jz r),vN i] (.tup [vU (lK rob r i).1,vU (lK rob r i).2.1,vB (lK rob r i).2.2]):=by
 refine cA.intro c0Ok Tryz.func111 rfl rfl (by kernel_rfl) rfl<|qS 0 rfl<|rW (vB (decide (i<0))) rfl (okB (ltN _ _))<|qR 0 rfl<|gBS rfl id (bT enL rob)<|gBS rfl hsT (okB (geN _ _))<|cU rfl rfl rfl (by simp)<|qRC 0 rfl<|aS rfl (λh1=>?_) (λh1=>?_)
 ·have hb:(i>=rob.length):=by have z:=h1;simp only[cOr]at z;grind
  refine qCF 0 rfl ?_;have hn:rob[i]?=none:=bO omT;exact fT rfl (by rw[show lK rob r i=(0,0,false)from by unfold lK;rw[hn]];rfl)
 ·have hb: ¬(i>=rob.length):=by have z:=h1;simp only[cOr]at z;grind
  obtain⟨x,hx⟩:∃y_,rob[i]?=some y_:=⟨_,aA omT⟩;have hxo:=ho x (aB hx);refine qC 0 rfl<|rIx (enL x) (.dp 17 0 (enL x)) rfl rfl (fW hx) rfl<|qR 0 rfl<|rCi rfl (EV x.i)<|qR 0 rfl<|rCi rfl (Jt rob r ck (i) (x.i.rs1) hl ho hr omT)<|qR 0 rfl<|rCi rfl (Jt rob r ck (i) (x.i.rs2) hl ho hr omT)<|qR 0 rfl<|cU rfl rfl rfl (λh=>h)<|qRF 0 rfl ?_;exact fT rfl (by rw[show lK rob r i=((kZ rob r i x.i.rs1).getD 0,(kZ rob r i x.i.rs2).getD 0,(kZ rob r i x.i.rs1).isSome&&(kZ rob r i x.i.rs2).isSome)from by unfold lK;rw[hx]];simp only[<-qG];rfl)
def ZB(e:Ent)(he:e.ok):cA C0 176 [.agg (enL e)] (vB (Lc e)):=by
 refine cA.intro c0Ok Tryz.func176 rfl rfl (by kernel_rfl) rfl<|qS 0 rfl<|rV (vB (e.halt != 0)) rfl<|qRC 0 rfl<|aS rfl (λh1=>?_) (λh1=>?_)
 ·refine qCF 0 rfl ?_;replace h1:=sP h1;exact fT rfl (dM (by unfold Lc;grind))
 ·refine qC 0 rfl<|rCi rfl (pV e.i)<|qR 0 rfl<|rW (vB ((kindOf e.i.op)==6)) rfl (okB (eqN _ _))<|qRC 0 rfl<|aS rfl (λh2=>?_) (λh2=>?_)
  ·refine qCF 0 rfl ?_;replace h1:=sP h1;replace h2:=sP h2;exact fT rfl (dM (by unfold Lc;grind))
  ·refine qC 0 rfl<|rW (vB ((kindOf e.i.op)==3)) rfl (okB (eqN _ _))<|qRC 0 rfl<|aS rfl (λh3=>?_) (λh3=>?_)
   ·refine qCC 0 rfl<|aS rfl (λ_=>?_) (λh4=>Bool.noConfusion (h3.symm.trans h4));refine qCF 0 rfl ?_;replace h1:=sP h1;replace h2:=sP h2;replace h3:=sP h3;exact fT rfl (dM (by unfold Lc;grind))
   ·refine qC 0 rfl<|rW (vB ((kindOf e.i.op)==4)) rfl (okB (eqN _ _))<|qRC 0 rfl<|aS rfl (λh5=>?_) (λh5=>?_)
    ·refine qCC 0 rfl<|aS rfl (λ_=>?_) (λh6=>Bool.noConfusion (h5.symm.trans h6));refine qCF 0 rfl ?_;replace h1:=sP h1;replace h2:=sP h2;replace h3:=sP h3;replace h5:=sP h5;exact fT rfl (dM (by unfold Lc;grind))
    ·refine qC 0 rfl<|rW (vB ((kindOf e.i.op)==5)) rfl (okB (eqN _ _))<|qRC 0 rfl<|aS rfl (λh7=>?_) (λh7=>?_)
     ·refine qCF 0 rfl ?_;replace h1:=sP h1;replace h2:=sP h2;replace h3:=sP h3;replace h5:=sP h5;replace h7:=sP h7;exact fT rfl (dM (by unfold Lc;grind))
     ·refine qCF 0 rfl ?_;replace h1:=sP h1;replace h2:=sP h2;replace h3:=sP h3;replace h5:=sP h5;replace h7:=sP h7;exact fT rfl (dM (by unfold Lc;grind))
def VD{α:Type}{p:α->Bool}{l:List α}{k:Nat}{x:α}(hx:l[k]?=some x)(hp:p x=true)(h:∀y∈l.take k,p y=false):l.findIdx p=k:=by
 have:=PL hx hp h;rw[List.findIdx?_eq_some_iff_findIdx_eq]at this;exact this.2
def VE{α:Type}{p:α->Bool}{l:List α}{k:Nat}(hk:l.length<=k)(h:∀y∈l.take k,p y=false):l.findIdx p=l.length:=by
 rw[aM hk]at h;exact List.findIdx_eq_length.2 h
def PF(rob:List Ent)(ck:Bool)(hl:rob.length<=1000)(ho:∀x∈rob,x.ok):cA C0 158 [.sl 17 (rob.map enL) ck] (vN (Ch rob)):=by
 refine dc1 (cA.intro c1Ok Tryz.func158 rfl rfl (by kernel_rfl) rfl ?_);refine qS 0 rfl<|rW (vN rob.length) rfl (bT enL rob)<|qRC 0 rfl<|jX (κ:=Nat) (λk=>⟨slotsF [(0,.sl 17 (rob.map enL) ck),(5,.sl 17 (rob.map enL) ck),(6,vN rob.length),(7,vN k)],heapF [],4⟩) (λk=>k<=rob.length∧∀y∈rob.take k,(!Lc y)=false) (λk=>rob.length-k) 0 (λs=>s) (Weak.of_lists (λs=>s) wT trivial rfl) (⟨aE _,PM⟩) ?_;intro k hk;have hkn:k<=rob.length:=hk.1;have hkB:k<=1000000:=by omega
 refine qS 0 rfl<|rW (vB (decide (k<rob.length))) rfl (okB (ltN _ _))<|qRC 0 rfl<|aS rfl (λh1=>?_) (λh1=>?_)
 ·have h1p:=of_decide_eq_true h1;obtain⟨x,hx⟩:∃y_,rob[k]?=some y_:=⟨_,aA omT⟩;have hxo:=ho x (aB hx);refine qC 0 rfl<|rIx (enL x) (.dp 17 0 (enL x)) rfl rfl (fW hx) rfl<|qR 0 rfl<|rCi rfl (ZB x hxo)<|qRC 0 rfl<|aS rfl (λh2=>?_) (λh2=>?_)
  ·refine qCF 0 rfl<|qXF 0 rfl ?_;exact fT rfl (Zb (by unfold Ch;rw[VD hx (by simpa using h2) hk.2]))
  ·skip
   have b1:k+1<=1000001:=aF hkB (aC 1);refine qC 0 rfl<|rW (vN (k+1)) rfl (okI (bJ b1 rfl))<|qRF 0 rfl<|⟨k+1,λs=>s,Weak.of_lists _ wT trivial rfl,⟨by omega,PK hx (by simpa using h2) hk.2⟩,by show rob.length-(k+1)<rob.length-k;omega⟩
 ·have h1p:=aD h1;refine qCF 0 rfl<|qX 0 rfl<|rW (vN rob.length) rfl (bT enL rob)<|qRF 0 rfl ?_;exact fT rfl (Zb (by unfold Ch;rw[VE omT hk.2]))
def Mo(rob:List Ent)(ck:Bool)(i:Nat)(hl:rob.length<=1000)(ho:∀x∈rob,x.ok)(hi:i<=1000):cA C0 142 [.sl 17 (rob.map enL) ck,vN i] (vB (vC rob i)):=by
 refine cA.intro c0Ok Tryz.func142 rfl rfl (by kernel_rfl) rfl<|qS 0 rfl<|rW (vB (decide (i>=0))) rfl (okB (geN _ _))<|qR 0 rfl<|gBS rfl id (bT enL rob)<|gBS rfl hsT (okB (leN _ _))<|cU rfl rfl rfl (λh=>h)<|qR 0 rfl<|jU (x:=vN (Ch rob)) (g:=cR (decide (i>=0)) (decide (i<=rob.length)) false) rfl rfl rfl rfl (λh=>h) rfl rfl rfl (.inl rfl) rfl (λhg=>PF rob ck hl ho)<|gBS rfl hsT (okB (leN _ _))<|cU rfl rfl rfl (λh=>h)<|qRF 0 rfl ?_;exact fT rfl (dM (by unfold vC;rw[bX];simp[qG]))
theorem mC(rob:List Ent):∀k,(eN rob k).length=k
 |0=>rfl
 |k+1=>by simp only[eN,aQ,mC rob k,bN,cW]
def SK{rob:List Ent}{k j:Nat}{x:Int}{o:Option Nat}(ho:o=some j)(hx:(eN rob k)[j]?=some x):tG (eN rob k) o=x:=by
 subst ho;show(eN rob k).getD j (-1)=x;rw[bL,hx];rfl
def PG(rob:List Ent)(ck:Bool)(i k:Nat)(reg:Int)(hl:rob.length<=1000)(ho:∀x∈rob,x.ok)(hi:i<=k)(hk:k<=1000):qE C0.P C0.G 175 [vN i,vI reg,.ptr 0 0,.ptr 1 0] (heapF [(0,.box [.sl 17 (rob.map enL) ck]),(1,.box [.osl 2 0 k false]),(2,.arr ((eN rob k).map iK) 1)]) 3 (λx h'=>x=vI (tG (eN rob k) (gU rob i reg))∧h'=heapF [(0,.box [.sl 17 (rob.map enL) ck]),(1,.box [.osl 2 0 k false]),(2,.arr ((eN rob k).map iK) 1)]):=by
 refine HCall.intro (C:=C0) (s:=3) c0Ok.at Tryz.func175 rfl rfl (by kernel_rfl) rfl rfl<|qS 0 rfl<|rCi rfl (PJ rob ck (i) (reg) hl ho omT)<|qR 0 rfl<|rV (vB (decide ((Dx (gU rob (i) (reg)))>=0))) rfl<|qRC 0 rfl<|aS rfl (λh1=>?_) (λh1=>?_)
 ·have h1p:=of_decide_eq_true h1;obtain⟨j,hj⟩:=Hz (show ¬Dx (gU rob i reg)<0 by omega);have hjl:=Ey hj;have hrk:=mC rob k;refine qC 0 rfl<|nW (.ptr2 2 (0+j) 0) rfl ((show Res.need _ (AV.ptr2 2 (0+(Dx (gU rob i reg)).toNat) 0)=Res.need _ (AV.ptr2 2 (0+j) 0)from by rw[hj];rfl)) (by(try rw[hj]);exact⟨aH _,by show(j:Int)<(k:Int);omega⟩) ?_;obtain⟨x,hx⟩:∃y_,(eN rob k)[j]?=some y_:=⟨_,aA omT⟩;refine rIx (iK x) (vI x) rfl rfl (IE (fW hx)) rfl<|qRF 0 rfl<|pK (rs:=[vI x]) rfl (r:=vI (tG (eN rob k) (gU rob i reg))) (σ:=λz=>z) ⟨rfl,rfl⟩ rfl (cI (λz=>z) (by rw[SK hj hx];rfl) rfl wH rfl)
 ·have h1p:=aD h1;have hj:=Mn (show Dx (gU rob i reg)<0 by omega);refine qCF 0 rfl<|pK (rs:=[vI (-1)]) rfl (r:=vI (tG (eN rob k) (gU rob i reg))) (σ:=λz=>z) ⟨rfl,rfl⟩ rfl (cI (λz=>z) (by rw[hj];rfl) rfl wH rfl)
def XQ(a b:Int):(if b>a then b else a)=max a b:=by omega
def Ez{p:Prop}{H:AH}{s rs:Nat}{rob:List Ent}{k:Nat}{x:Int}(hl:(eN rob k).length=k)(hx:x=Dn rob (eN rob k) k):
  Res.fx p (.osl s 0 ((List.take k (List.drop 0 ((eN rob k).map iK))).length+[[AV.v (.int .i64 x)]].length) false) (upd H s (some (.arr (List.take k (List.drop 0 ((eN rob k).map iK))++[[AV.v (.int .i64 x)]]) rs)))=.fx p (.osl s 0 (k+1) false) (upd H s (some (.arr ((eN rob (k+1)).map iK) rs))):=by
 rw[cB,aM (by rw[aG,hl];exact aC _),aG,hl];simp only[eN,dY,jI,List.map_nil, <-hx];rfl
def XR(rob:List Ent)(ck:Bool)(hl:rob.length<=1000)(ho:∀x∈rob,x.ok):cA C0 157 [.sl 17 (rob.map enL) ck] (.sl 1 ((zM rob).map iK) false):=by
 refine dc1 (cA.intro c1Ok Tryz.func157 rfl rfl (by kernel_rfl) rfl ?_);refine qS 0 rfl<|rCi rfl (PF rob ck hl ho)<|qR 0 rfl<|rW (vN rob.length) rfl (bT enL rob)<|rFx (x:=.osl 7 0 0 false) (h':=upd _ 7 (some (.arr (([]:List Int).map iK) 1))) rfl rfl (rfl) (⟨by decide,Fj.2 omT,by show((rob.length:Nat):Int)<=1000000;omega⟩)<|qR 0 rfl<|rV (.clo 175 [] [.ptr 0 0,.ptr 8 0]) rfl<|qR 0 rfl<|rW (vN rob.length) rfl (bT enL rob)<|qRC 0 rfl<|jX (κ:=Nat) (λk=>⟨slotsF [(2,.sl 0 ([]) true),(3,vN (Ch rob)),(4,.ptr 8 0),(5,.clo 175 [] [.ptr 0 0,.ptr 8 0]),(17,.sl 17 (rob.map enL) ck),(18,vN rob.length),(19,vN k)],heapF [(0,.box [.sl 17 (rob.map enL) ck]),(7,.arr ((eN rob k).map iK) 1),(8,.box [.osl 7 0 k false])],15⟩) (λk=>k<=rob.length) (λk=>rob.length-k) 0 (λs=>s) (Weak.of_lists (λs=>s) wT wH rfl) (aE _) ?_;intro k hk;have hkn:k<=rob.length:=hk;have hkB:k<=1000:=by omega
 refine qS 0 rfl<|rW (vB (decide (k<rob.length))) rfl (okB (ltN _ _))<|qRC 0 rfl<|aS rfl (λh1=>?_) (λh1=>?_)
 ·have h1p:=of_decide_eq_true h1;obtain⟨x,hx⟩:∃y_,rob[k]?=some y_:=⟨_,aA omT⟩;have hxo:=ho x (aB hx);refine qC 0 rfl<|rIx (enL x) (.dp 17 0 (enL x)) rfl rfl (fW hx) rfl<|qR 0 rfl<|rCi rfl (pV x.i)<|rW (vB ((kindOf x.i.op) != 3)) rfl (okB (neN _ _))<|qRC 0 rfl<|aS rfl (λh2=>?_) (λh2=>?_)
  ·have h2p:=xH h2;refine qC 0 rfl<|rCi rfl (EV x.i)<|qR 0 rfl<|fV _ rfl rfl rfl ((PG rob ck k k x.i.rs1 hl ho (aC k) omT).frameU (λz=>match z with|0=>0|1=>8|2=>7|z=>z) _ _ rfl ⟨⟨rfl,rfl,rfl,rfl⟩,⟨rfl,rfl,rfl,rfl⟩,⟨rfl,rfl,rfl,rfl⟩,trivial⟩ rfl rfl rfl) ?_;rintro _ _ ⟨rfl,rfl⟩;refine qR 0 rfl<|fV _ rfl rfl rfl ((PG rob ck k k x.i.rs2 hl ho (aC k) omT).frameU (λz=>match z with|0=>0|1=>8|2=>7|z=>z) _ _ rfl ⟨⟨rfl,rfl,rfl,rfl⟩,⟨rfl,rfl,rfl,rfl⟩,⟨rfl,rfl,rfl,rfl⟩,trivial⟩ rfl rfl rfl) ?_;rintro _ _ ⟨rfl,rfl⟩;refine rV (vI (if(tG (eN rob k) (gU rob k x.i.rs2))>(tG (eN rob k) (gU rob k x.i.rs1))then(tG (eN rob k) (gU rob k x.i.rs2))else(tG (eN rob k) (gU rob k x.i.rs1)))) rfl<|qR 0 rfl<|rV (.sl 1 ([[vI (if(tG (eN rob k) (gU rob k x.i.rs2))>(tG (eN rob k) (gU rob k x.i.rs1))then(tG (eN rob k) (gU rob k x.i.rs2))else(tG (eN rob k) (gU rob k x.i.rs1)))]]) true) rfl ?_;have hrt:(if(tG (eN rob k) (gU rob k x.i.rs2))>(tG (eN rob k) (gU rob k x.i.rs1))then(tG (eN rob k) (gU rob k x.i.rs2))else(tG (eN rob k) (gU rob k x.i.rs1)))=Dn rob (eN rob k) k:=by unfold Dn;rw[hx];exact(XQ _ _).trans (if_pos h2p).symm
   refine rFx (x:=.osl 48 0 (k+1) false) (h':=upd (upd _ 7 none) 48 (some (.arr ((eN rob (k+1)).map iK) 1))) rfl rfl (Ez (mC rob k) hrt) (⟨by simp only[aG,bN,cW,aL,aU,mC,gJ];omega,by simp only[aG,mC];omega,trivial⟩) ?_;have b1:k+1<=1001:=aF hkB (aC 1);refine qR 0 rfl<|rW (vN (k+1)) rfl (okI (bJ b1 rfl))<|qRF 0 rfl<|⟨k+1,λz=>match z with|7=>48|z=>z,Weak.of_lists _ wT wH rfl,by omega,by show rob.length-(k+1)<rob.length-k;omega⟩
  ·have h2p:=xI h2;refine qC 0 rfl<|rW (vB (decide (k>(Ch rob)))) rfl (okB (gtN _ _))<|qRC 0 rfl<|aS rfl (λh3=>?_) (λh3=>?_)
   ·have h3p:=of_decide_eq_true h3;refine qC 0 rfl<|rV (.sl 1 ([[vN k]]) true) rfl ?_;have hrt:(k:Int)=Dn rob (eN rob k) k:=by unfold Dn;rw[hx];dsimp only;rw[if_neg (show ¬kindOf x.i.op≠3 from λq=>q h2p),if_pos h3p]
    refine rFx (x:=.osl 35 0 (k+1) false) (h':=upd (upd _ 7 none) 35 (some (.arr ((eN rob (k+1)).map iK) 1))) rfl rfl (Ez (mC rob k) hrt) (⟨by simp only[aG,bN,cW,aL,aU,mC,gJ];omega,by simp only[aG,mC];omega,trivial⟩) ?_;have b2:k+1<=1001:=aF hkB (aC 1);refine qR 0 rfl<|rW (vN (k+1)) rfl (okI (bJ b2 rfl))<|qRF 0 rfl<|⟨k+1,λz=>match z with|7=>35|z=>z,Weak.of_lists _ wT wH rfl,by omega,by show rob.length-(k+1)<rob.length-k;omega⟩
   ·have h3p:=aD h3;refine qC 0 rfl<|rV (.sl 1 ([[vI (-1)]]) true) rfl ?_;have hrt:(-1)=Dn rob (eN rob k) k:=by unfold Dn;rw[hx];dsimp only;rw[if_neg (show ¬kindOf x.i.op≠3 from λq=>q h2p),if_neg h3p]
    refine rFx (x:=.osl 33 0 (k+1) false) (h':=upd (upd _ 7 none) 33 (some (.arr ((eN rob (k+1)).map iK) 1))) rfl rfl (Ez (mC rob k) hrt) (⟨by simp only[aG,bN,cW,aL,aU,mC,gJ];omega,by simp only[aG,mC];omega,trivial⟩) ?_;have b3:k+1<=1001:=aF hkB (aC 1);refine qR 0 rfl<|rW (vN (k+1)) rfl (okI (bJ b3 rfl))<|qRF 0 rfl<|⟨k+1,λz=>match z with|7=>33|z=>z,Weak.of_lists _ wT wH rfl,by omega,by show rob.length-(k+1)<rob.length-k;omega⟩
 ·have h1p:=aD h1;refine qCF 0 rfl<|qXF 0 rfl ?_;have hke:k=rob.length:=by omega
  subst hke;refine dF rfl (by show 0+rob.length<=((eN rob rob.length).map iK).length;rw[aG,mC];omega) rfl ?_;show AV.sl 1 (List.take rob.length (List.drop 0 ((eN rob rob.length).map iK))) false=_;rw[kG iK (eN rob rob.length) (by rw[mC];exact aC _)];rfl
def XS{rob:List Ent}{i:Nat}{reg:Int}(hg:decide (Dx (gU rob i reg)>=0)=true):0<=Dx (gU rob i reg)∧((zM rob).map iK)[(Dx (gU rob i reg)).toNat]?=some (iK ((zM rob).getD (Dx (gU rob i reg)).toNat (-1))):=by
 have h:=of_decide_eq_true hg;obtain⟨j,hj⟩:=Hz (show ¬Dx (gU rob i reg)<0 by omega);refine⟨h,?_⟩;rw[hj];have hl:=(Ey hj).2;have hr:(zM rob).length=rob.length:=mC rob rob.length;show((zM rob).map iK)[j]?=some (iK ((zM rob).getD j (-1)));rw[bD,bL,aA omT];rfl
def SL(rob:List Ent)(i:Nat)(reg:Int):cR (decide (Dx (gU rob i reg)>=0)) (decide ((zM rob).getD (Dx (gU rob i reg)).toNat (-1)>=0)) false=HZ rob i reg:=by
 unfold HZ
 cases h:gU rob i reg with
 |none=>rfl
 |some j=>
  rw[show decide (Dx (some j)>=0)=true from nG (aH _)];rfl
def SM(rob:List Ent)(ck:Bool)(i:Nat)(reg:Int)(hl:rob.length<=1000)(ho:∀x∈rob,x.ok)(hi:i<=1000):cA C0 140 [.sl 17 (rob.map enL) ck,vN i,vI reg] (vB (HZ rob i reg)):=by
 refine cA.intro c0Ok Tryz.func140 rfl rfl (by kernel_rfl) rfl<|qS 0 rfl<|rCi rfl (PJ rob ck (i) (reg) hl ho omT)<|qR 0 rfl<|rV (vB (decide ((Dx (gU rob (i) (reg)))>=0))) rfl<|qR 0 rfl<|jU (x:=.sl 1 ((zM rob).map iK) false) (g:=decide ((Dx (gU rob (i) (reg)))>=0)) rfl rfl rfl rfl (λh=>h) rfl rfl rfl (.inl rfl) rfl (λhg=>XR rob ck hl ho)<|qR 0 rfl<|Hp (iK ((zM rob).getD (Dx (gU rob i reg)).toNat (-1))) (x:=.dp 1 0 (iK ((zM rob).getD (Dx (gU rob i reg)).toNat (-1)))) (g:=decide ((Dx (gU rob (i) (reg)))>=0)) rfl rfl rfl rfl hsT rfl rfl (λhg=>XS hg) rfl<|gS rfl id<|gBS rfl id rfl<|cU rfl rfl rfl (λh=>h)<|qRF 0 rfl ?_;exact fT rfl (dM (SL rob i reg))
def XT(e:Ent)(he:e.ok):cA C0 138 [.agg (enL e)] (vB (Do e)):=by
 refine cA.intro c0Ok Tryz.func138 rfl rfl (by kernel_rfl) rfl<|qS 0 rfl<|rCi rfl (pV e.i)<|qR 0 rfl<|rW (vB ((kindOf e.i.op)==3)) rfl (okB (eqN _ _))<|qRC 0 rfl<|aS rfl (λh1=>?_) (λh1=>?_)
 ·refine qCC 0 rfl<|aS rfl (λ_=>?_) (λh2=>Bool.noConfusion (h1.symm.trans h2));refine qCF 0 rfl ?_;replace h1:=sP h1;exact fT rfl (dM (by unfold Do;rw[bX];simp only[bB];grind))
 ·refine qC 0 rfl<|rW (vB ((kindOf e.i.op)==4)) rfl (okB (eqN _ _))<|qRC 0 rfl<|aS rfl (λh3=>?_) (λh3=>?_)
  ·refine qCC 0 rfl<|aS rfl (λ_=>?_) (λh4=>Bool.noConfusion (h3.symm.trans h4));refine qCF 0 rfl ?_;replace h1:=sP h1;replace h3:=sP h3;exact fT rfl (dM (by unfold Do;rw[bX];simp only[bB];grind))
  ·refine qC 0 rfl<|rW (vB ((kindOf e.i.op)==2)) rfl (okB (eqN _ _))<|qRC 0 rfl<|aS rfl (λh5=>?_) (λh5=>?_)
   ·refine qCC 0 rfl<|aS rfl (λ_=>?_) (λh6=>Bool.noConfusion (h5.symm.trans h6));refine qCF 0 rfl ?_;replace h1:=sP h1;replace h3:=sP h3;replace h5:=sP h5;exact fT rfl (dM (by unfold Do;rw[bX];simp only[bB];grind))
   ·refine qC 0 rfl<|rW (vB ((kindOf e.i.op)==5)) rfl (okB (eqN _ _))<|qRC 0 rfl<|aS rfl (λh7=>?_) (λh7=>?_)
    ·refine qCF 0 rfl ?_;replace h1:=sP h1;replace h3:=sP h3;replace h5:=sP h5;replace h7:=sP h7;exact fT rfl (dM (by unfold Do;rw[bX];simp only[bB];grind))
    ·refine qCF 0 rfl ?_;replace h1:=sP h1;replace h3:=sP h3;replace h5:=sP h5;replace h7:=sP h7;exact fT rfl (dM (by unfold Do;rw[bX];simp only[bB];grind))
def XU(e:Ent)(he:e.ok):cA C0 141 [.agg (enL e)] (.sl 1 ((qH e).map iK) true):=by
 refine cA.intro c0Ok Tryz.func141 rfl rfl (by kernel_rfl) rfl<|qS 0 rfl<|rCi rfl (EV e.i)<|qR 0 rfl<|rCi rfl (pV e.i)<|qR 0 rfl<|rW (vB ((kindOf e.i.op)==3)) rfl (okB (eqN _ _))<|qRC 0 rfl<|aS rfl (λh1=>?_) (λh1=>?_)
 ·have h1p:=mW h1;refine qCC 0 rfl<|aS rfl (λ_=>?_) (λh2=>Bool.noConfusion (h1.symm.trans h2));refine qC 0 rfl<|rV (.sl 1 ([[vI e.i.rs1]]) true) rfl<|qRF 0 rfl ?_;exact fT rfl (by rw[show qH e=[e.i.rs1]from by unfold qH;exact if_pos omT];rfl)
 ·have h1p:=mX h1;refine qC 0 rfl<|rW (vB ((kindOf e.i.op)==4)) rfl (okB (eqN _ _))<|qRC 0 rfl<|aS rfl (λh3=>?_) (λh3=>?_)
  ·have h3p:=mW h3;refine qC 0 rfl<|rV (.sl 1 ([[vI e.i.rs1]]) true) rfl<|qRF 0 rfl ?_;exact fT rfl (by rw[show qH e=[e.i.rs1]from by unfold qH;exact if_pos omT];rfl)
  ·have h3p:=mX h3;refine qC 0 rfl<|rV (.sl 1 ([[vI e.i.rs1],[vI e.i.rs2]]) true) rfl<|qRF 0 rfl ?_;exact fT rfl (by rw[show qH e=[e.i.rs1,e.i.rs2]from by unfold qH;exact if_neg omT];rfl)
def SN(e:Ent):(qH e).length<=2:=by unfold qH;split<;>simp
def VF(rob:List Ent)(ck:Bool)(i:Nat)(reg:Int)(hl:rob.length<=1000)(ho:∀x∈rob,x.ok)(hi:i<=1000):cA C0 139 [vI reg,.dp 1 0 [.sl 17 (rob.map enL) ck],.dp 1 0 [vN i]] (vB (!HZ rob i reg)):=by
 refine cA.intro c0Ok Tryz.func139 rfl rfl (by kernel_rfl) rfl<|qS 0 rfl<|rCi rfl (SM rob ck i reg hl ho hi)<|qRF 0 rfl ?_;exact fT rfl rfl
def aa5(mode:Int)(rob:List Ent)(ck:Bool)(i:Nat)(hl:rob.length<=1000)(ho:∀x∈rob,x.ok)(hi:i<=1000):cA C0 110 [vI mode,.sl 17 (rob.map enL) ck,vN i] (vB (Oq mode rob i)):=by
 refine cA.intro c0Ok Tryz.func110 rfl rfl (by kernel_rfl) rfl<|qS 0 rfl<|rW (vB (decide (i<0))) rfl (okB (ltN _ _))<|qR 0 rfl<|gBS rfl id (bT enL rob)<|gBS rfl hsT (okB (geN _ _))<|cU rfl rfl rfl (by simp)<|qRC 0 rfl<|aS rfl (λh1=>?_) (λh1=>?_)
 ·have hb:(i>=rob.length):=by have z:=h1;simp only[cOr]at z;grind
  refine qCF 0 rfl ?_;have hn:rob[i]?=none:=bO omT;exact fT rfl (dM (by unfold Oq;rw[hn]))
 ·have hb: ¬(i>=rob.length):=by have z:=h1;simp only[cOr]at z;grind
  obtain⟨x,hx⟩:∃y_,rob[i]?=some y_:=⟨_,aA omT⟩;have hxo:=ho x (aB hx);refine qC 0 rfl<|rIx (enL x) (.dp 17 0 (enL x)) rfl rfl (fW hx) rfl<|qR 0 rfl<|rCi rfl (XT x hxo)<|qRC 0 rfl<|aS rfl (λh2=>?_) (λh2=>?_)
  ·refine qCF 0 rfl ?_;exact fT rfl (dM (by unfold Oq;rw[hx];dsimp only;rw[if_pos (by simpa using h2)]))
  ·refine qC 0 rfl<|rV (.clo 139 [] [.ptr 0 0,.ptr 1 0]) rfl<|qR 0 rfl<|rV (vB (mode==0)) rfl<|qRC 0 rfl<|aS rfl (λh3=>?_) (λh3=>?_)
   ·have h3p:=mW h3;refine qCF 0 rfl ?_;exact fT rfl (dM (by unfold Oq;rw[hx];dsimp only;rw[if_neg (by simpa using h2),if_pos h3p]))
   ·have h3p:=mX h3;refine qC 0 rfl<|rV (vB (mode==1)) rfl<|qRC 0 rfl<|aS rfl (λh4=>?_) (λh4=>?_)
    ·have h4p:=mW h4;refine qC 0 rfl<|rIx (enL x) (.dp 17 0 (enL x)) rfl rfl (fW hx) rfl<|qR 0 rfl<|rCi rfl (XU x hxo)<|rW (vN ((qH x).length)) rfl (bT iK (qH x))<|qRC 0 rfl<|jX (κ:=Nat) (λk=>⟨slotsF [(4,.ptr 0 0),(5,.ptr 1 0),(17,vB (cR (decide (i<0)) true (decide (i>=rob.length)))),(23,vB (!(Do x))),(7,.clo 139 [] [.ptr 0 0,.ptr 1 0]),(25,vI mode),(26,vB (mode==0)),(28,vB (mode==1)),(34,.sl 1 ((qH x).map iK) true),(35,vN ((qH x).length)),(36,vN k)],heapF [(0,.box [.sl 17 (rob.map enL) ck]),(1,.box [vN i])],31⟩) (λk=>k<=(qH x).length∧((qH x).take k).all (λreg=> !HZ rob i reg)=true) (λk=>(qH x).length-k) 0 (λs=>s) (Weak.of_lists (λs=>s) wT wH rfl) (⟨aE _,rfl⟩) ?_;intro k hk;have hkn:k<=(qH x).length:=hk.1;have hkB:k<=1000000:=by have:=SN x;omega
     refine qS 0 rfl<|rW (vB (decide (k<((qH x).length)))) rfl (okB (ltN _ _))<|qRC 0 rfl<|aS rfl (λh5=>?_) (λh5=>?_)
     ·have h5p:=of_decide_eq_true h5;obtain⟨rg,hrg⟩:∃y_,(qH x)[k]?=some y_:=⟨_,aA omT⟩;refine qC 0 rfl<|rIx (iK rg) (.dp 1 0 (iK rg)) rfl rfl (fW hrg) rfl<|qR 0 rfl<|rCl rfl (.inr ⟨rfl,trivial,trivial,trivial,trivial⟩) (VF rob ck i rg hl ho hi)<|qRC 0 rfl<|aS rfl (λh6=>?_) (λh6=>?_)
      ·refine qCF 0 rfl<|qXF 0 rfl ?_;have z:=h6;exact fT rfl (dM (by unfold Oq;rw[hx];dsimp only;rw[if_neg (by simpa using h2),if_neg h3p,if_pos h4p,abU (p:=λreg=> !HZ rob i reg) hrg (by simpa using z)]))
      ·skip
       have b1:k+1<=1000001:=aF hkB (aC 1);refine qC 0 rfl<|rW (vN (k+1)) rfl (okI (bJ b1 rfl))<|qRF 0 rfl<|⟨k+1,λs=>s,Weak.of_lists _ wT wH rfl,⟨by omega,DJ (p:=λreg=> !HZ rob i reg) hrg (by simpa using h6) hk.2⟩,by show(qH x).length-(k+1)<(qH x).length-k;omega⟩
     ·have h5p:=aD h5;refine qCF 0 rfl<|qXF 0 rfl ?_;have hall:=DK (p:=λreg=> !HZ rob i reg) omT hk.2;exact fT rfl (dM (by unfold Oq;rw[hx];dsimp only;rw[if_neg (by simpa using h2),if_neg h3p,if_pos h4p,hall]))
    ·have h4p:=mX h4;refine qC 0 rfl<|rV (vB (mode==2)) rfl<|qRC 0 rfl<|aS rfl (λh7=>?_) (λh7=>?_)
     ·have h7p:=mW h7;refine qC 0 rfl<|rCi rfl (Mo rob ck i hl ho hi)<|qRF 0 rfl ?_;exact fT rfl (dM (by unfold Oq;rw[hx];dsimp only;rw[if_neg (by simpa using h2),if_neg h3p,if_neg h4p,if_pos h7p]))
     ·have h7p:=mX h7;refine qCF 0 rfl ?_;exact fT rfl (dM (by unfold Oq;rw[hx];dsimp only;rw[if_neg (by simpa using h2),if_neg h3p,if_neg h4p,if_neg h7p]))
abbrev QT(n:Nat):List AV:=[.v (.int .i64 (n:Int))]
theorem MY{α:Type}(f:α->Value):∀(l:List α),(l.flatMap λa=>[f a])=l.map f
 |[]=>rfl
 |a::l=>by rw[eX,MY f l];rfl
def Kb{α:Type}{f:α->Value}{l:List α}{S:Nat->Prop}{w:World}{v:Value}{clip:Bool}(e:TypeId)(hS:∀b,S b->b<w.heap.size)(h:Rep S w noB (.sl 1 (l.map λa=>[AV.v (f a)]) clip) v):Sl w.heap.size e 1 w v l.length (l.flatMap λa=>[f a]):=by
 cases h with
 |sl _ _ _ A c b o u hc hm hcl hrs hA hw h1 hr=>
  rw[aG]at hc;refine⟨A,c,by rw[aG],hc,hm,by rw[MY,aG,iT],λhn=>?_⟩;obtain⟨hA1,hA2⟩:=hA (by rw[aG];exact hn);refine⟨b,o,hA1,.inl (hS b hA2),λj x hx=>?_⟩;rw[MY,bD]at hx;obtain⟨y,hy,rfl⟩:=FI.1 hx;have hrow:(l.map λa=>[AV.v (f a)])[j]?=some [AV.v (f y)]:=by rw[bD,hy];rfl
  have h2:=hw j _ 0 _ hrow rfl;have h3:=hr j _ 0 _ hrow rfl;rw[show o+j*1+0=o+j by omega]at h2;rw[h2];generalize u j 0=z at h3;cases h3;rfl
def Of{α:Type}{f:α->Value}(h1:∀a,(f a).oneCell'=true){l:List α}{w:World}{v:Value}{base:Nat}{e:TypeId}(h:w.ownsRow base e 1 v l.length (l.flatMap λa=>[f a]))(S:Nat->Prop)(hb:∀b,base<=b->b<w.heap.size->S b):Rep S w noB (.sl 1 (l.map λa=>[AV.v (f a)]) false) v:=by
 obtain⟨hl,⟨rfl,h0⟩|⟨g,cap,cur,rfl,hg,hh,hn,hm,hsz,hx⟩⟩:=h
 ·have:l=[]:=aR h0;subst this;exact .sl 1 [] false none 0 0 0 (λ_ _=>.bool false) (aC _) (aE _) (λh=>by cases h) (λ_ h=>by cases h) (λh=>absurd h (dU 0)) (λi row j a h=>by simp at h) (λ_ _=>rfl) λi row j a h=>by simp at h
 ·rw[MY,iT]at hx;have hget:∀(i:Nat) row (j:Nat) a,(l.map λa=>[AV.v (f a)])[i]?=some row->row[j]?=some a->∃x,l[i]?=some x∧j=0∧a=.v (f x)∧cur[i]?=some (f x):=by
   intro i row j a hi hj;rw[bD]at hi;obtain⟨x,hxl,rfl⟩:=FI.1 hi
   cases j with
   |zero=>
    injection hj with hj;refine⟨x,hxl,rfl,hj.symm,?_⟩;have:(l.map f)[i]?=some (f x):=by rw[bD,hxl];rfl
    rw[<-hx,cL]at this;split at this
    ·rw[<-bH];exact this
    ·cases this
   |succ j=>simp at hj
  have hlen:(l.map λa=>[AV.v (f a)]).length=l.length:=aG ..;rw[<-hlen];refine .sl 1 _ false (some ⟨g,0,none⟩) cap g 0 (λi j=>if i<l.length then cur.getD i undef else .bool false) (by rw[hlen];exact hn) hm (λh=>by cases h) (λrow hr=>?_) (λ_=>⟨rfl,hb g hg (fQ hh)⟩) (λi row j a hi hj=>?_) (λi j=>?_) λi row j a hi hj=>?_
  ·obtain⟨x,_,rfl⟩:=sY.1 hr;rfl
  ·obtain⟨x,h2,rfl,rfl,h3⟩:=hget i row j a hi hj;rw[if_pos (DS.1 h2).1,gM hh];rw[show 0+i*1+0=i by omega,h3,aI,h3];rfl
  ·show(if i<l.length then cur.getD i undef else .bool false).oneCell'=true;by_cases hi:i<l.length
   ·rw[if_pos hi];obtain⟨x,h2,_,_,h3⟩:=hget i [AV.v (f l[i])] 0 (.v (f l[i])) (by rw[bD,aA hi];rfl) rfl;rw[aI,h3];exact h1 x
   ·rw[if_neg hi];rfl
  ·obtain⟨x,h2,rfl,rfl,h3⟩:=hget i row j a hi hj;rw[if_pos (DS.1 h2).1,aI,h3];exact .v _
def YF(width:Int)(busy:Bool)(kinds:List Int)(can:List Bool)(c1 c2:Bool)(h1:kinds.length<=1000)(h2:can.length<=1000):cA C0 70 [vI width,vB busy,.sl 1 (kinds.map iK) c1,.sl 1 (can.map zT) c2] (.sl 1 ((pickOf width busy kinds can).map QT) false):=by
 refine⟨⟨_,Tryz.func70,rfl,rfl⟩,λS w vs hS hG hr=>?_⟩
 match vs,hr with
 |[v0,v1,v2,v3],hr=>
  have e0:=hr.2 0 _ v0 rfl rfl;have e1:=hr.2 1 _ v1 rfl rfl;have e2:=hr.2 2 _ v2 rfl rfl;have e3:=hr.2 3 _ v3 rfl rfl;cases e0;cases e1
  refine(Tw width busy kinds can w.heap.size kinds.length can.length v2 v3 w (Kb (f:=λa:Int=>.int .i64 a) _ hS e2) (Kb (f:=λa:Bool=>.bool a) _ hS e3) rfl rfl omT omT).mono ?_;rintro e w' ⟨v,he,ho,hB⟩
  exact⟨v,he,hB,Of (f:=λn:Nat=>.int .i64 (n:Int)) (λ_=>rfl) ho _ λb p q=>.inr ⟨p,q⟩⟩
 |[],hr=>exact absurd hr.1 (by simp)
 |[_],hr=>exact absurd hr.1 (by simp)
 |[_,_],hr=>exact absurd hr.1 (by simp)
 |[_,_,_],hr=>exact absurd hr.1 (by simp)
 |_::_::_::_::_::_,hr=>exact absurd hr.1 (by simp)
def LC(q:List Req)(line:Nat)(kinds:List Int):Bool:=q.any λx=>kinds.any λk=>decide (x.line=line)&&decide (x.kind=k)
def TA(q:List Req):mZ q<=q.length:=List.length_filter_le _ _
def GF{q:List Req}{k:Nat}{x:Req}(h:q[k]?=some x):mZ (q.take (k+1))=mZ (q.take k)+(if x.kind=4 then 0 else 1):=by
 unfold mZ;rw[bV,h];by_cases e:x.kind=4<;>simp[jW,e]
def Wt(q:List Req)(ck:Bool)(hq:q.length<=1000000)(ho:∀x∈q,x.line<=4294967295):cA C0 119 [.sl 4 (q.map rqL) ck] (vN (mZ q)):=by
 refine cA.intro c0Ok Tryz.func119 rfl rfl (by kernel_rfl) rfl<|qS 0 rfl<|rW (vN q.length) rfl (bT rqL q)<|qRC 0 rfl<|jX (κ:=Nat) (λk=>⟨slotsF [(6,.sl 4 (q.map rqL) ck),(7,vN q.length),(3,vN (mZ (q.take k))),(8,vN k)],heapF [],5⟩) (λk=>k<=q.length) (λk=>q.length-k) 0 (λs=>s) (Weak.of_lists (λs=>s) wT trivial rfl) (aE _) ?_;intro k hk;have hkB:k<=1000000:=by omega
 have hrB:mZ (q.take k)<=1000000:=by have:=TA (q.take k);rw[aL]at this;omega
 refine qS 0 rfl<|rW (vB (decide (k<q.length))) rfl (okB (ltN _ _))<|qRC 0 rfl<|aS rfl (λh1=>?_) (λh1=>?_)
 ·skip
  obtain⟨x,hx⟩:∃x,q[k]?=some x:=⟨_,aA (of_decide_eq_true h1)⟩;have hxo:=ho x (aB hx);refine qC 0 rfl<|rIx (rqL x) (.dp 4 0 (rqL x)) rfl rfl (fW hx) rfl<|qR 0 rfl<|rV (vB (x.kind != 4)) rfl<|qRC 0 rfl<|aS rfl (λh2=>?_) (λh2=>?_)
  ·skip
   have b1:(mZ (q.take k))+1<=1000001:=aF hrB (aC 1);refine qC 0 rfl<|rW (vN ((mZ (q.take k))+1)) rfl (okI (bJ b1 rfl)) ?_;have b2:k+1<=1000001:=aF hkB (aC 1);refine qR 0 rfl<|rW (vN (k+1)) rfl (okI (bJ b2 rfl))<|qRF 0 rfl<|⟨k+1,λs=>s,Weak.of_lists _ ⟨⟨rfl,rfl⟩,⟨rfl,rfl⟩,⟨(congrArg (λz:Nat=>AV.v (.int .i64 (z:Int))) (by rw[GF hx];have q:=h2;simp at q;simp[q])),rfl⟩,⟨rfl,rfl⟩,trivial⟩ trivial rfl,of_decide_eq_true h1,by have:=of_decide_eq_true h1;omega⟩
  ·skip
   have b3:k+1<=1000001:=aF hkB (aC 1);refine qC 0 rfl<|rW (vN (k+1)) rfl (okI (bJ b3 rfl))<|qRF 0 rfl<|⟨k+1,λs=>s,Weak.of_lists _ ⟨⟨rfl,rfl⟩,⟨rfl,rfl⟩,⟨(congrArg (λz:Nat=>AV.v (.int .i64 (z:Int))) (by rw[GF hx];have q:=h2;simp at q;simp[q])),rfl⟩,⟨rfl,rfl⟩,trivial⟩ trivial rfl,of_decide_eq_true h1,by have:=of_decide_eq_true h1;omega⟩
 ·refine qCF 0 rfl<|qXF 0 rfl ?_;have hke:=aD h1;exact fT rfl (Zb (by rw[aM (show q.length<=k by omega)]))
def Iv{α:Type}{f:α->Bool}{l:List α}{k:Nat}{x:α}(h:l[k]?=some x)(hf:f x=false)(hk:(l.take k).any f=false):(l.take (k+1)).any f=false:=by
 rw[bV,h];simp[List.any_append,hf]at hk⊢;exact hk
def Iw{α:Type}{f:α->Bool}{l:List α}{k:Nat}{x:α}(h:l[k]?=some x)(hf:f x=true):l.any f=true:=LP.2 ⟨x,aB h,hf⟩
def LD{α:Type}{f:α->Bool}{l:List α}{k:Nat}(h:l.length<=k)(hk:(l.take k).any f=false):l.any f=false:=by rwa [aM h]at hk
def QU(q:List Req)(line:Nat)(kinds:List Int)(ck ck2:Bool)(hq:q.length<=1000000)(ho:∀x∈q,x.line<=4294967295)(hline:line<=4294967295)(hks:kinds.length<=1000000):cA C0 75 [.sl 4 (q.map rqL) ck,vU line,.sl 1 (kinds.map iK) ck2] (.v (.bool (LC q line kinds))):=by
 refine cA.intro c0Ok Tryz.func75 rfl rfl (by kernel_rfl) rfl<|qS 0 rfl<|rW (vN q.length) rfl (bT rqL q)<|qRC 0 rfl<|jX (κ:=Nat) (λk=>⟨slotsF [(1,vU line),(2,.sl 1 (kinds.map iK) ck2),(11,.sl 4 (q.map rqL) ck),(12,vN q.length),(13,vN k)],heapF [],4⟩) (λk=>k<=q.length∧(q.take k).any (λx:Req=>kinds.any λk=>decide (x.line=line)&&decide (x.kind=k))=false) (λk=>q.length-k) 0 (λs=>s) (Weak.of_lists (λs=>s) wT trivial rfl) (⟨aE _,rfl⟩) ?_;intro k hk;have hkB:k<=1000000:=by have:=hk.1;omega
 refine qS 0 rfl<|rW (vB (decide (k<q.length))) rfl (okB (ltN _ _))<|qRC 0 rfl<|aS rfl (λh1=>?_) (λh1=>?_)
 ·skip
  obtain⟨x,hx⟩:∃x,q[k]?=some x:=⟨_,aA (of_decide_eq_true h1)⟩;refine qC 0 rfl<|rIx (rqL x) (.dp 4 0 (rqL x)) rfl rfl (fW hx) rfl<|qR 0 rfl<|rW (vN kinds.length) rfl (bT iK kinds)<|qRC 0 rfl<|jX (κ:=Nat) (λj=>⟨slotsF [(1,vU line),(2,.sl 1 (kinds.map iK) ck2),(8,.ptr 7 0),(11,.sl 4 (q.map rqL) ck),(12,vN q.length),(13,vN k),(17,.sl 1 (kinds.map iK) ck2),(18,vN kinds.length),(19,vN j)],heapF [(7,.box [vI x.kind,vU x.line,vI x.left,.v (.string x.data)])],12⟩) (λj=>j<=kinds.length∧(kinds.take j).any (λk:Int=>decide (x.line=line)&&decide (x.kind=k))=false) (λj=>kinds.length-j) 0 (λs=>s) (Weak.of_lists (λs=>s) wT wH rfl) (⟨aE _,rfl⟩) ?_;intro j hj;have hjB:j<=1000000:=by have:=hj.1;omega
  refine qS 0 rfl<|rW (vB (decide (j<kinds.length))) rfl (okB (ltN _ _))<|qRC 0 rfl<|aS rfl (λh2=>?_) (λh2=>?_)
  ·skip
   obtain⟨kd,hkd⟩:∃kd,kinds[j]?=some kd:=⟨_,aA (of_decide_eq_true h2)⟩;refine qC 0 rfl<|rIx (iK kd) (.dp 1 0 (iK kd)) rfl rfl (fW hkd) rfl<|qR 0 rfl<|rW (vB (x.line==line)) rfl (okB (eqN _ _))<|qR 0 rfl<|gS rfl id<|qR 0 rfl<|gBS rfl hsT rfl<|cU rfl rfl rfl (λh=>h)<|qRC 0 rfl<|aS rfl (λh3=>?_) (λh3=>?_)
   ·refine qCF 0 rfl<|qXF 0 rfl<|qXF 0 rfl ?_;exact fT rfl (congrArg (λz=>AV.v (.bool z)) (Iw hx (Iw hkd (by have z:=h3;simpa [c2]using z))).symm)
   ·skip
    have b1:j+1<=1000001:=aF hjB (aC 1);refine qC 0 rfl<|rW (vN (j+1)) rfl (okI (bJ b1 rfl))<|qRF 0 rfl<|⟨j+1,λs=>s,Weak.of_lists _ wT wH rfl,⟨of_decide_eq_true h2,Iv hkd (by have z:=h3;simpa [c2]using z) hj.2⟩,by have:=of_decide_eq_true h2;omega⟩
  ·refine qCF 0 rfl ?_;have b2:k+1<=1000001:=aF hkB (aC 1);refine qX 0 rfl<|rW (vN (k+1)) rfl (okI (bJ b2 rfl))<|qRF 0 rfl<|⟨k+1,λs=>s,Weak.of_lists _ wT trivial rfl,⟨of_decide_eq_true h1,Iv hx (LD (by have:=aD h2;omega) hj.2) hk.2⟩,by have:=of_decide_eq_true h1;omega⟩
 ·refine qCF 0 rfl<|qXF 0 rfl ?_;exact fT rfl (congrArg (λz=>AV.v (.bool z)) (LD (by have:=aD h1;omega) hk.2).symm)
structure Co.okM(c:Co)(n:Nat):Prop where
 ok:c.ok n
 nb:n<=890000
 cf:wA c.conf=true
 data:fS c.data=true
 words:fS c.words=true
 guess:sR c.guess=true
 rob:c.rob.length<=1000
 fet:c.fetched.length<=1000
 sto:c.stores.length<=1000
 prog:c.prog.length<=1000
 mem:c.mem.size<=256
 std:∀x∈c.stores,x.data.size<=4
theorem Co.okM.bus{c:Co}{n:Nat}(h:c.okM n):c.bus.length<=890000:=aN h.ok.bus h.nb
theorem Co.okM.ret{c:Co}{n:Nat}(h:c.okM n):c.retired.length<=890000:=aN h.ok.ret h.nb
def nN{c:Cf}(h:wA c=true):c.lat.length<=64∧c.tape.length<=64∧1<=c.width∧c.width<=2∧c.rob<=8∧2<=c.rob∧c.queue<=4∧1<=c.queue∧c.stores<=4∧1<=c.stores∧c.slots<=6∧2<=c.slots∧0<=c.mode∧c.mode<=2:=by
 unfold wA inI at h;simp only[aJ,bB]at h;omega
theorem Co.okM.conf{c:Co}{n:Nat}(h:c.okM n):c.conf.ok:=⟨by have:=(nN h.cf).1;omega,by have:=(nN h.cf).2.1;omega,h.ok.conf.tp⟩
theorem Co.okM.d4{c:Co}{n:Nat}(h:c.okM n):c.data.sets.length<=4:=(kE h.data).2.1
theorem Co.okM.d2{c:Co}{n:Nat}(h:c.okM n):∀s∈c.data.sets,s.length<=2:=λs hs=>by have:=kE h.data;have:=this.2.2.2.2 s hs;omega
def Ml(stores:List Pt)(c:Ca)(q:List Req)(m:ByteArray):(Yl stores c q m).size=m.size:=by unfold Yl Cm jR;rw[gW,gW,gW]
def SJ(c:Co)(n:Nat)(hm:c.okM n)(R F S T:AV)(first:Bool):cA C0 76 [.dp 64 0 (mcX c R F S T),vB first] (vB (qZ c first)):=by
 refine cA.intro c0Ok Tryz.func76 rfl rfl (by kernel_rfl) rfl<|qS 0 rfl<|rCi rfl (Wt c.bus false (by have:=hm.bus;omega) (λx hx=>(hm.ok.buso x hx).line))<|qRC 0 rfl<|aS rfl (λh1=>?_) (λh1=>?_)
 ·refine qC 0 rfl<|rV (vB (decide (((mZ c.bus:Nat):Int)<c.conf.slots))) rfl<|qRF 0 rfl ?_;exact fT rfl (dM (by unfold qZ;rw[if_pos h1]))
 ·refine qC 0 rfl<|rW (vI (c.conf.slots-1)) rfl (okI (wrap_i64 (by have:=nN hm.cf;omega) (by have:=nN hm.cf;omega)))<|rV (vB (decide (((mZ c.bus:Nat):Int)<(c.conf.slots-1)))) rfl<|qRF 0 rfl ?_;exact fT rfl (dM (by unfold qZ;rw[if_neg (by rw[h1];decide)]))
def PE{m addr n:Nat}(h:iR (m:Int) addr (n:Int)=true):addr+n<=m:=by
 unfold iR at h;simp only[aJ,bB]at h;omega
def XM(m:ByteArray)(addr n:Nat)(hm:m.size<=1000)(ha:addr<=4294967295)(hn:n<=4):cA C0 97 [.v (.string m),vU addr,vN n] (.tup [.v (.string (if iR (m.size:Int) addr (n:Int)=true then rJ m addr n else oX)),vI (if iR (m.size:Int) addr (n:Int)=true then 0 else 1)]):=by
 refine cA.intro c0Ok Tryz.func97 rfl rfl (by kernel_rfl) rfl<|qS 0 rfl<|rV (vN m.size) rfl<|qR 0 rfl<|rCi rfl (Gz (m.size:Int) addr (n:Int) omT (Cd ha))<|qRC 0 rfl<|aS rfl (λh1=>?_) (λh1=>?_)
 ·refine qCF 0 rfl ?_;have hR: ¬iR (m.size:Int) addr (n:Int)=true:=by simpa using h1
  exact fT rfl (by rw[if_neg hR,if_neg hR];rfl)
 ·have hle:=PE (show iR (m.size:Int) addr (n:Int)=true by simpa using h1);refine qC 0 rfl<|rW (vN addr) rfl (okI (bJ ha rfl)) ?_;have b1:addr+n<=4294967299:=aF ha hn;refine qR 0 rfl<|rW (vN (addr+n)) rfl (okI (bJ b1 rfl))<|nW (.v (.string (m.extract addr (addr+n)))) rfl rfl (by refine⟨?_,?_,?_⟩<;>(first|exact aH _|decide|(apply Fj.2;exact omT)))<|qRF 0 rfl ?_;have hR:iR (m.size:Int) addr (n:Int)=true:=by simpa using h1
  exact fT rfl (by rw[if_pos hR,if_pos hR];rfl)
def Mm(c:Co)(n:Nat)(hm:c.okM n)(R F T:AV)(ck:Bool)(e:Ent)(he:e.ok):cA C0 54 [.dp 64 0 (mcX c R F (.sl 2 (c.stores.map ptL) ck) T),.agg (enL e)] (.v (.string (oJ c e))):=by
 refine cA.intro c0Ok Tryz.func54 rfl rfl (by kernel_rfl) rfl<|qSC 0 rfl<|cRg<|oR 20 rfl<|rCi rfl (ZE c.stores c.data c.bus c.mem false ck hm.ok.data hm.d4 hm.d2 (by have:=hm.mem;omega) (by have:=hm.bus;omega) hm.ok.buso (by have:=hm.sto;omega) hm.ok.stoo)<|oR 4 rfl<|rCi rfl (FE e.i)<|rCi rfl (XM (Yl c.stores c.data c.bus c.mem) e.addr (bC e.i.op) (by rw[Ml];have:=hm.mem;omega) he.addr (rG e.i.op))<|oR 5 rfl<|rE 34<|qXF 0 rfl ?_;exact fT rfl rfl
def VB(c:Co)(n:Nat)(hm:c.okM n)(F S T:AV)(ck:Bool)(line:Nat)(hline:line<=4294967295):cA C0 144 [.dp 64 0 (mcX c (.sl 17 (c.rob.map enL) ck) F S T),vU line] (vB (JA c line)):=by
 refine dc1 (cA.intro c1Ok Tryz.func144 rfl rfl (by kernel_rfl) rfl ?_);refine qS 0 rfl<|rCi rfl (Ar c.data line hm.ok.data hline)<|qRC 0 rfl<|aS rfl (λh1=>?_) (λh1=>?_)
 ·refine qCF 0 rfl ?_;exact fT rfl (dM (by unfold JA;rw[h1];rfl))
 ·refine qC 0 rfl<|rW (vN c.rob.length) rfl (bT enL c.rob)<|qRC 0 rfl<|jX (κ:=Nat) (λk=>⟨slotsF [(1,vU line),(21,vB ((bG c.data line).2.isSome)),(26,.sl 17 (c.rob.map enL) ck),(27,vN c.rob.length),(28,vN k)],heapF [],23⟩) (λk=>k<=c.rob.length∧(c.rob.take k).any (λe:Ent=>e.filled&&decide (lineOf e.addr=line))=false) (λk=>c.rob.length-k) 0 (λs=>s) (Weak.of_lists (λs=>s) wT trivial rfl) (⟨aE _,rfl⟩) ?_;intro k hk;have hkn:k<=c.rob.length:=hk.1;have hkB:k<=1000:=by have:=hm.rob;omega
  refine qS 0 rfl<|rW (vB (decide (k<c.rob.length))) rfl (okB (ltN _ _))<|qRC 0 rfl<|aS rfl (λh2=>?_) (λh2=>?_)
  ·have h2p:=of_decide_eq_true h2;obtain⟨x,hx⟩:∃y_,c.rob[k]?=some y_:=⟨_,aA omT⟩;have hxo:=hm.ok.robo x (aB hx);refine qC 0 rfl<|rIx (enL x) (.dp 17 0 (enL x)) rfl rfl (fW hx) rfl<|qR 0 rfl<|gS rfl id<|jU (x:=vU (lineOf x.addr)) (g:=x.filled) rfl rfl rfl rfl (λh=>h) rfl rfl rfl (.inl rfl) rfl (λhg=>tT x.addr hxo.addr)<|qR 0 rfl<|gBS rfl hsT (okB (eqN _ _))<|cU rfl rfl rfl (λh=>h)<|qRC 0 rfl<|aS rfl (λh3=>?_) (λh3=>?_)
   ·refine qCF 0 rfl<|qXF 0 rfl ?_;have z:=h3;exact fT rfl (dM (by unfold JA;rw[Iw (f:=(λe:Ent=>e.filled&&decide (lineOf e.addr=line))) hx (by simpa [qG]using z)];simp))
   ·skip
    have b1:k+1<=1001:=aF hkB (aC 1);refine qC 0 rfl<|rW (vN (k+1)) rfl (okI (bJ b1 rfl))<|qRF 0 rfl<|⟨k+1,λs=>s,Weak.of_lists _ wT trivial rfl,⟨by omega,Iv (f:=(λe:Ent=>e.filled&&decide (lineOf e.addr=line))) hx (by have z:=h3;simpa [qG]using z) hk.2⟩,by show c.rob.length-(k+1)<c.rob.length-k;omega⟩
  ·have h2p:=aD h2;refine qCF 0 rfl<|qXF 0 rfl ?_;exact fT rfl (dM (by unfold JA;rw[h1,LD (f:=(λe:Ent=>e.filled&&decide (lineOf e.addr=line))) omT hk.2];rfl))
def XN(c:Co)(n:Nat)(hm:c.okM n)(F S T:AV)(ck:Bool)(i:Nat)(hi:i<c.rob.length):cA C0 69 [.dp 64 0 (mcX c (.sl 17 (c.rob.map enL) ck) F S T),vN i] (vB (Ci c i)):=by
 refine dc1 (cA.intro c1Ok Tryz.func69 rfl rfl (by kernel_rfl) rfl ?_);obtain⟨x,hx⟩:∃y_,c.rob[i]?=some y_:=⟨_,aA omT⟩;have hxo:=hm.ok.robo x (aB hx);refine qS 0 rfl<|rIx (enL x) (.dp 17 0 (enL x)) rfl rfl (fW hx) rfl<|qR 0 rfl<|rV (vB (x.is != 0)) rfl<|qRC 0 rfl<|aS rfl (λh1=>?_) (λh1=>?_)
 ·have h1p:=xH h1;refine qCF 0 rfl ?_;exact fT rfl (dM (by unfold Ci;rw[hx];dsimp only;rw[if_pos h1p]))
 ·have h1p:=xI h1;refine qCC 0 rfl<|cRg<|oR 12 rfl<|rCi rfl (aa5 c.conf.mode c.rob ck i hm.rob hm.ok.robo (by have:=hm.rob;omega))<|oR 1 rfl<|rE 28<|qX 0 rfl<|rCi rfl (EV x.i)<|qRC 0 rfl<|cRg<|oR 12 rfl<|rCi rfl (Jt c.rob c.r ck i (x.i.rs1) hm.rob hm.ok.robo hm.ok.r (by have:=hm.rob;omega))<|oR 5 rfl<|rE 54<|qX 0 rfl<|rCi rfl (pV x.i)<|qR 0 rfl<|rW (vB ((kindOf x.i.op)==3)) rfl (okB (eqN _ _))<|qRC 0 rfl<|aS rfl (λh2=>?_) (λh2=>?_)
  ·have h2p:=mW h2;refine qC 0 rfl<|gS rfl id<|qR 0 rfl<|uV (x:=vB (cR ((kZ c.rob c.r i x.i.rs1).isSome) (Oq c.conf.mode c.rob i) false)) (g:= !x.known) rfl rfl rfl rfl (λh=>h) rfl rfl (λhg hc=>by first|(rw[hg,hc];rfl)|simp_all)<|cU rfl rfl rfl (by simp)<|qRF 0 rfl ?_;exact fT rfl (dM (by unfold Ci;rw[hx];dsimp only;rw[if_neg omT,if_pos h2p];simp only[qG,cOr,nB]))
  ·have h2p:=mX h2;refine qC 0 rfl<|rW (vB ((kindOf x.i.op)==4)) rfl (okB (eqN _ _))<|qRC 0 rfl<|aS rfl (λh3=>?_) (λh3=>?_)
   ·have h3p:=mW h3;refine qC 0 rfl<|cU rfl rfl rfl (λh=>h)<|qR 0 rfl<|cU rfl rfl rfl (λh=>h)<|qRF 0 rfl ?_;exact fT rfl (dM (by unfold Ci;rw[hx];dsimp only;rw[if_neg omT,if_neg h2p,if_pos h3p];simp only[qG,cOr,nB]))
   ·have h3p:=mX h3;refine qCC 0 rfl<|cRg<|oR 11 rfl<|rCi rfl (Uq c.rob c.r ck i hm.rob hm.ok.robo hm.ok.r (by have:=hm.rob;omega))<|oR 7 rfl<|rE 80<|qX 0 rfl<|cU rfl rfl rfl (λh=>h)<|qRF 0 rfl ?_;exact fT rfl (dM (by unfold Ci;rw[hx];dsimp only;rw[if_neg omT,if_neg h2p,if_neg h3p];simp only[qG,cOr,nB]))
theorem qE.frameB{P:Program}{G:Nat->Option (List AV)}{f:FuncId}{args:List AV}{b0 b1:Blk}{L:List (Nat×Blk)}{s:Nat}{r:AV}(H:qE P G f args (heapF ((0,b0)::L)) s (λx h'=>x=r∧h'=heapF ((0,b1)::L)))(ρ:Nat->Nat)(K:AH)(s2:Nat)(hfull:fullB (heapF ((0,b0)::L)) s=true)(hL:FrL ρ K s s2 ((0,b0)::L))(hi:Ty ρ s=true)(ha:mM s args=true)(hr:eL r=true)(hb:qU s b1=true):
  qE P G f (Bb ρ args) K s2 (λx h'=>x=r∧h'=upd K (ρ 0) (some (Du ρ b1))):=by
 have hs:0<s:=aP hL.1.2.1;refine H.frameL ρ K s2 hfull hL hi ha _ λr' h' hP=>?_;obtain⟨rfl,rfl⟩:=hP;refine⟨_,⟨zD _ _ hr,rfl⟩,λy blk hy=>?_⟩;by_cases he:y=ρ 0
 ·subst he;rw[cZ]at hy;injection hy with hy;exact .inl ⟨0,b1,rfl,(rY ρ omT).symm,by rw[<-hy,yI ρ s s2 b1 hb]⟩
 ·rw[cH _ _ he]at hy;by_cases hx:∃x,x<s∧ρ x=y
  ·obtain⟨x,hxs,rfl⟩:=hx;have hx0:x≠0:=λe=>he (by rw[e]);obtain⟨blk0,hb0⟩:=DD.1 (uN hfull x hxs);have hk:=hL.get x blk0 hb0;rw[hk.2.2.2]at hy;injection hy with hy;refine .inl ⟨x,blk0,?_,(rY ρ omT).symm,?_⟩
   ·have:Nat.beq 0 x=false:=by rw[<-eI];exact λe=>hx0 (aK e).symm
    simp only[heapF,this]at hb0⊢;exact hb0
   ·rw[<-hy];exact(yI ρ s s2 blk0 hk.2.2.1).symm
  ·exact .inr ⟨hy,λx hxs e=>hx ⟨x,hxs,e⟩⟩
def yY{c:Co}{line:Nat}(h:(gV c.data c.bus c.mem line (kM c.conf c.asked)).2.2=true):fC c line={c with data:=(gV c.data c.bus c.mem line (kM c.conf c.asked)).1,bus:=(gV c.data c.bus c.mem line (kM c.conf c.asked)).2.1,asked:=wrap64 (c.asked+1)}:=by unfold fC;generalize gV c.data c.bus c.mem line (kM c.conf c.asked)=t at h⊢;obtain⟨d,q,a⟩:=t;dsimp only at h;subst h;rfl
def AL{c:Co}{line:Nat}(h:(gV c.data c.bus c.mem line (kM c.conf c.asked)).2.2=false):fC c line={c with data:=(gV c.data c.bus c.mem line (kM c.conf c.asked)).1,bus:=(gV c.data c.bus c.mem line (kM c.conf c.asked)).2.1}:=by unfold fC;generalize gV c.data c.bus c.mem line (kM c.conf c.asked)=t at h⊢;obtain⟨d,q,a⟩:=t;dsimp only at h;subst h;rfl
def XO(c:Co)(n:Nat)(hm:c.okM n)(kind:Int)(line:Nat)(data:ByteArray)(hline:line<=4294967295)(kR:Bool)(xR:List (List AV))(kF:Bool)(xF:List (List AV))(kS:Bool)(xS:List (List AV))(kT:Bool)(xT:List (List AV)):qE C0.P C0.G 77 [.ptr 0 0,vI kind,vU line,.v (.string data)] (heapF [(0,.box (mcX c (.sl 17 xR kR) (.sl 2 xF kF) (.sl 2 xS kS) (.sl 9 xT kT)))]) 1 (λx h'=>x=.tup []∧h'=heapF [(0,.box (mcX (iU c kind line data) (.sl 17 xR kR) (.sl 2 xF kF) (.sl 2 xS kS) (.sl 9 xT kT)))]):=by
 refine HCall.intro (C:=C1) (s:=1) c1Ok.at Tryz.func77 rfl rfl (by kernel_rfl) rfl rfl<|qSC 0 rfl<|cRg<|oR 18 rfl<|rCi rfl (EA c.conf c.asked hm.conf hm.ok.asked)<|oR 1 rfl<|rCi rfl (Mv c.bus kind line (kM c.conf c.asked) data false (by have:=hm.bus;omega) hm.ok.buso hline)<|oR 3 rfl<|rSt rfl<|rE 26<|qX 0 rfl<|rW (vI (wrap64 (c.asked+1))) rfl (okI (w64 _))<|qRN 0 rfl<|rSt rfl ?_;exact qRF 0 rfl<|pK (rs:=[]) rfl (σ:=λz=>z) ⟨rfl,rfl⟩ rfl (cI (λz=>z) rfl rfl wH rfl)
def Zy(c:Co)(n:Nat)(hm:c.okM n)(kind:Int)(line:Nat)(data:ByteArray)(hline:line<=4294967295)(lR nR:Nat)(kR:Bool)(rR:List (List AV))(kF:Bool)(xF:List (List AV))(kS:Bool)(xS:List (List AV))(kT:Bool)(xT:List (List AV)):qE C0.P C0.G 77 [.ptr 0 0,vI kind,vU line,.v (.string data)] (heapF [(0,.box (mcX c (.osl 1 lR nR kR) (.sl 2 xF kF) (.sl 2 xS kS) (.sl 9 xT kT))),(1,.arr rR 17)]) 2 (λx h'=>x=.tup []∧h'=heapF [(0,.box (mcX (iU c kind line data) (.osl 1 lR nR kR) (.sl 2 xF kF) (.sl 2 xS kS) (.sl 9 xT kT))),(1,.arr rR 17)]):=by
 refine HCall.intro (C:=C1) (s:=2) c1Ok.at Tryz.func77 rfl rfl (by kernel_rfl) rfl rfl<|qSC 0 rfl<|cRg<|oR 18 rfl<|rCi rfl (EA c.conf c.asked hm.conf hm.ok.asked)<|oR 1 rfl<|rCi rfl (Mv c.bus kind line (kM c.conf c.asked) data false (by have:=hm.bus;omega) hm.ok.buso hline)<|oR 3 rfl<|rSt rfl<|rE 27<|qX 0 rfl<|rW (vI (wrap64 (c.asked+1))) rfl (okI (w64 _))<|qRN 0 rfl<|rSt rfl ?_;exact qRF 0 rfl<|pK (rs:=[]) rfl (σ:=λz=>z) ⟨rfl,rfl⟩ rfl (cI (λz=>z) rfl rfl wH rfl)
def Zz(c:Co)(n:Nat)(hm:c.okM n)(kind:Int)(line:Nat)(data:ByteArray)(hline:line<=4294967295)(kR:Bool)(xR:List (List AV))(lF nF:Nat)(kF:Bool)(rF:List (List AV))(kS:Bool)(xS:List (List AV))(kT:Bool)(xT:List (List AV)):qE C0.P C0.G 77 [.ptr 0 0,vI kind,vU line,.v (.string data)] (heapF [(0,.box (mcX c (.sl 17 xR kR) (.osl 1 lF nF kF) (.sl 2 xS kS) (.sl 9 xT kT))),(1,.arr rF 2)]) 2 (λx h'=>x=.tup []∧h'=heapF [(0,.box (mcX (iU c kind line data) (.sl 17 xR kR) (.osl 1 lF nF kF) (.sl 2 xS kS) (.sl 9 xT kT))),(1,.arr rF 2)]):=by
 refine HCall.intro (C:=C1) (s:=2) c1Ok.at Tryz.func77 rfl rfl (by kernel_rfl) rfl rfl<|qSC 0 rfl<|cRg<|oR 18 rfl<|rCi rfl (EA c.conf c.asked hm.conf hm.ok.asked)<|oR 1 rfl<|rCi rfl (Mv c.bus kind line (kM c.conf c.asked) data false (by have:=hm.bus;omega) hm.ok.buso hline)<|oR 3 rfl<|rSt rfl<|rE 27<|qX 0 rfl<|rW (vI (wrap64 (c.asked+1))) rfl (okI (w64 _))<|qRN 0 rfl<|rSt rfl ?_;exact qRF 0 rfl<|pK (rs:=[]) rfl (σ:=λz=>z) ⟨rfl,rfl⟩ rfl (cI (λz=>z) rfl rfl wH rfl)
def aa4(c:Co)(n:Nat)(hm:c.okM n)(line:Nat)(hline:line<=4294967295)(kR:Bool)(xR:List (List AV))(kF:Bool)(xF:List (List AV))(kS:Bool)(xS:List (List AV))(kT:Bool)(xT:List (List AV)):qE C0.P C0.G 56 [.ptr 0 0,vU line] (heapF [(0,.box (mcX c (.sl 17 xR kR) (.sl 2 xF kF) (.sl 2 xS kS) (.sl 9 xT kT)))]) 1 (λx h'=>x=.tup []∧h'=heapF [(0,.box (mcX (fC c line) (.sl 17 xR kR) (.sl 2 xF kF) (.sl 2 xS kS) (.sl 9 xT kT)))]):=by
 refine HCall.intro (C:=C1) (s:=1) c1Ok.at Tryz.func56 rfl rfl (by kernel_rfl) rfl rfl<|qSC 0 rfl<|cRg<|oR 28 rfl<|rCi rfl (EA c.conf c.asked hm.conf hm.ok.asked)<|rCi rfl (Mr c.data c.bus c.mem line (kM c.conf c.asked) hm.ok.data (by have:=hm.bus;omega) hm.ok.buso (by have:=hm.mem;omega) hline)<|oR 7 rfl<|rSt rfl<|oR 3 rfl<|rSt rfl<|oR 1 rfl<|rE 45<|qXC 0 rfl<|aS rfl (λh1=>?_) (λh1=>?_)
 ·refine qC 0 rfl<|rW (vI (wrap64 (c.asked+1))) rfl (okI (w64 _))<|qRN 0 rfl<|rSt rfl ?_;rw[yY h1];exact qRF 0 rfl<|pK (rs:=[]) rfl (σ:=λz=>z) ⟨rfl,rfl⟩ rfl (cI (λz=>z) rfl rfl wH rfl)
 ·skip
  rw[AL h1];exact qCF 0 rfl<|pK (rs:=[]) rfl (σ:=λz=>z) ⟨rfl,rfl⟩ rfl (cI (λz=>z) rfl rfl wH rfl)
def ZA(c:Co)(n:Nat)(hm:c.okM n)(line:Nat)(hline:line<=4294967295)(lR nR:Nat)(kR:Bool)(rR:List (List AV))(kF:Bool)(xF:List (List AV))(kS:Bool)(xS:List (List AV))(kT:Bool)(xT:List (List AV)):qE C0.P C0.G 56 [.ptr 0 0,vU line] (heapF [(0,.box (mcX c (.osl 1 lR nR kR) (.sl 2 xF kF) (.sl 2 xS kS) (.sl 9 xT kT))),(1,.arr rR 17)]) 2 (λx h'=>x=.tup []∧h'=heapF [(0,.box (mcX (fC c line) (.osl 1 lR nR kR) (.sl 2 xF kF) (.sl 2 xS kS) (.sl 9 xT kT))),(1,.arr rR 17)]):=by
 refine HCall.intro (C:=C1) (s:=2) c1Ok.at Tryz.func56 rfl rfl (by kernel_rfl) rfl rfl<|qSC 0 rfl<|cRg<|oR 28 rfl<|rCi rfl (EA c.conf c.asked hm.conf hm.ok.asked)<|rCi rfl (Mr c.data c.bus c.mem line (kM c.conf c.asked) hm.ok.data (by have:=hm.bus;omega) hm.ok.buso (by have:=hm.mem;omega) hline)<|oR 7 rfl<|rSt rfl<|oR 3 rfl<|rSt rfl<|oR 1 rfl<|rE 46<|qXC 0 rfl<|aS rfl (λh1=>?_) (λh1=>?_)
 ·refine qC 0 rfl<|rW (vI (wrap64 (c.asked+1))) rfl (okI (w64 _))<|qRN 0 rfl<|rSt rfl ?_;rw[yY h1];exact qRF 0 rfl<|pK (rs:=[]) rfl (σ:=λz=>z) ⟨rfl,rfl⟩ rfl (cI (λz=>z) rfl rfl wH rfl)
 ·skip
  rw[AL h1];exact qCF 0 rfl<|pK (rs:=[]) rfl (σ:=λz=>z) ⟨rfl,rfl⟩ rfl (cI (λz=>z) rfl rfl wH rfl)
def XP(c:Co)(n:Nat)(hm:c.okM n)(line:Nat)(hline:line<=4294967295)(lR nR:Nat)(kR:Bool)(rR:List (List AV))(kF:Bool)(xF:List (List AV))(kS:Bool)(xS:List (List AV))(lT nT:Nat)(kT:Bool)(rT:List (List AV)):qE C0.P C0.G 56 [.ptr 0 0,vU line] (heapF [(0,.box (mcX c (.osl 1 lR nR kR) (.sl 2 xF kF) (.sl 2 xS kS) (.osl 2 lT nT kT))),(1,.arr rR 17),(2,.arr rT 9)]) 3 (λx h'=>x=.tup []∧h'=heapF [(0,.box (mcX (fC c line) (.osl 1 lR nR kR) (.sl 2 xF kF) (.sl 2 xS kS) (.osl 2 lT nT kT))),(1,.arr rR 17),(2,.arr rT 9)]):=by
 refine HCall.intro (C:=C1) (s:=3) c1Ok.at Tryz.func56 rfl rfl (by kernel_rfl) rfl rfl<|qSC 0 rfl<|cRg<|oR 28 rfl<|rCi rfl (EA c.conf c.asked hm.conf hm.ok.asked)<|rCi rfl (Mr c.data c.bus c.mem line (kM c.conf c.asked) hm.ok.data (by have:=hm.bus;omega) hm.ok.buso (by have:=hm.mem;omega) hline)<|oR 7 rfl<|rSt rfl<|oR 3 rfl<|rSt rfl<|oR 1 rfl<|rE 47<|qXC 0 rfl<|aS rfl (λh1=>?_) (λh1=>?_)
 ·refine qC 0 rfl<|rW (vI (wrap64 (c.asked+1))) rfl (okI (w64 _))<|qRN 0 rfl<|rSt rfl ?_;rw[yY h1];exact qRF 0 rfl<|pK (rs:=[]) rfl (σ:=λz=>z) ⟨rfl,rfl⟩ rfl (cI (λz=>z) rfl rfl wH rfl)
 ·skip
  rw[AL h1];exact qCF 0 rfl<|pK (rs:=[]) rfl (σ:=λz=>z) ⟨rfl,rfl⟩ rfl (cI (λz=>z) rfl rfl wH rfl)
def VC(c:Co)(n:Nat)(hm:c.okM n)(line:Nat)(hline:line<=4294967295)(lR nR:Nat)(kR:Bool)(rR:List (List AV))(kF:Bool)(xF:List (List AV))(lS nS:Nat)(kS:Bool)(rS:List (List AV))(lT nT:Nat)(kT:Bool)(rT:List (List AV)):qE C0.P C0.G 56 [.ptr 0 0,vU line] (heapF [(0,.box (mcX c (.osl 1 lR nR kR) (.sl 2 xF kF) (.osl 2 lS nS kS) (.osl 3 lT nT kT))),(1,.arr rR 17),(2,.arr rS 2),(3,.arr rT 9)]) 4 (λx h'=>x=.tup []∧h'=heapF [(0,.box (mcX (fC c line) (.osl 1 lR nR kR) (.sl 2 xF kF) (.osl 2 lS nS kS) (.osl 3 lT nT kT))),(1,.arr rR 17),(2,.arr rS 2),(3,.arr rT 9)]):=by
 refine HCall.intro (C:=C1) (s:=4) c1Ok.at Tryz.func56 rfl rfl (by kernel_rfl) rfl rfl<|qSC 0 rfl<|cRg<|oR 28 rfl<|rCi rfl (EA c.conf c.asked hm.conf hm.ok.asked)<|rCi rfl (Mr c.data c.bus c.mem line (kM c.conf c.asked) hm.ok.data (by have:=hm.bus;omega) hm.ok.buso (by have:=hm.mem;omega) hline)<|oR 7 rfl<|rSt rfl<|oR 3 rfl<|rSt rfl<|oR 1 rfl<|rE 48<|qXC 0 rfl<|aS rfl (λh1=>?_) (λh1=>?_)
 ·refine qC 0 rfl<|rW (vI (wrap64 (c.asked+1))) rfl (okI (w64 _))<|qRN 0 rfl<|rSt rfl ?_;rw[yY h1];exact qRF 0 rfl<|pK (rs:=[]) rfl (σ:=λz=>z) ⟨rfl,rfl⟩ rfl (cI (λz=>z) rfl rfl wH rfl)
 ·skip
  rw[AL h1];exact qCF 0 rfl<|pK (rs:=[]) rfl (σ:=λz=>z) ⟨rfl,rfl⟩ rfl (cI (λz=>z) rfl rfl wH rfl)
def aaX(e:Ent)(he:e.ok):cA C0 58 [.agg (enL e)] (.agg (enL (goE e))):=by
 refine cA.intro c0Ok Tryz.func58 rfl rfl (by kernel_rfl) rfl<|qS 0 rfl<|rV (vB (e.is != 1)) rfl<|qRC 0 rfl<|aS rfl (λh1=>?_) (λh1=>?_)
 ·refine qCF 0 rfl ?_;replace h1:=sP h1;refine dF rfl rcT rfl (oV (e:=(⟨e.no,e.pc,⟨e.i.op,e.i.rd,e.i.rs1,e.i.rs2,e.i.imm⟩,e.guess,e.is,e.left,e.value,e.next,e.addr,e.halt,e.took,e.known,e.filled⟩:Ent)) ?_);simp[w64,goE,h1]<;>(intros;simp_all)
 ·refine qC 0 rfl<|rV (vI (IntKind.wrap .i64 (e.left-1))) rfl<|qR 0 rfl<|rV (vB (decide ((IntKind.wrap .i64 (e.left-1))<=0))) rfl<|qRC 0 rfl<|aS rfl (λh2=>?_) (λh2=>?_)
  ·refine qC 0 rfl<|rCi rfl (pV e.i)<|rW (vB ((kindOf e.i.op)==5)) rfl (okB (eqN _ _))<|qR 0 rfl<|gS rfl id<|gBS rfl id rfl<|cU rfl rfl rfl (λh=>h)<|qRC 0 rfl<|aS rfl (λh3=>?_) (λh3=>?_)
   ·refine qCF 0 rfl ?_;replace h1:=sP h1;replace h2:=sP h2;replace h3:=sP h3;refine dF rfl rcT rfl (oV (e:=(⟨e.no,e.pc,⟨e.i.op,e.i.rd,e.i.rs1,e.i.rs2,e.i.imm⟩,e.guess,3,0,e.value,e.next,e.addr,e.halt,e.took,true,e.filled⟩:Ent)) ?_);simp[w64,goE,h1,h2,h3]<;>(intros;simp_all)
   ·refine qCF 0 rfl ?_;replace h1:=sP h1;replace h2:=sP h2;replace h3:=sP h3;refine dF rfl rcT rfl (oV (e:=(⟨e.no,e.pc,⟨e.i.op,e.i.rd,e.i.rs1,e.i.rs2,e.i.imm⟩,e.guess,3,0,e.value,e.next,e.addr,e.halt,e.took,e.known,e.filled⟩:Ent)) ?_);simp[w64,goE,h1,h2,h3]<;>(intros;simp_all)
  ·refine qCF 0 rfl ?_;replace h1:=sP h1;replace h2:=sP h2;refine dF rfl rcT rfl (oV (e:=(⟨e.no,e.pc,⟨e.i.op,e.i.rd,e.i.rs1,e.i.rs2,e.i.imm⟩,e.guess,e.is,IntKind.wrap .i64 (e.left-1),e.value,e.next,e.addr,e.halt,e.took,e.known,e.filled⟩:Ent)) ?_);simp[w64,goE,h1,h2]<;>(intros;simp_all)
def Wu(e:Ent)(a b:Nat)(he:e.ok)(ha:a<=4294967295)(hb:b<=4294967295):cA C0 115 [.agg (enL e),vU a,vU b] (.agg (enL (oW e a b))):=by
 refine cA.intro c0Ok Tryz.func115 rfl rfl (by kernel_rfl) rfl<|qS 0 rfl<|rCi rfl (pV e.i)<|qR 0 rfl<|rV (vB (e.is != 0)) rfl<|qR 0 rfl<|gBS rfl id (okB (eqN _ _))<|cU rfl rfl rfl (by simp)<|qR 0 rfl<|gBS rfl id (okB (eqN _ _))<|cU rfl rfl rfl (by simp)<|qRC 0 rfl<|aS rfl (λh1=>?_) (λh1=>?_)
 ·refine qCF 0 rfl ?_;replace h1:=sP h1;refine dF rfl rcT rfl (oV (e:=(⟨e.no,e.pc,⟨e.i.op,e.i.rd,e.i.rs1,e.i.rs2,e.i.imm⟩,e.guess,e.is,e.left,e.value,e.next,e.addr,e.halt,e.took,e.known,e.filled⟩:Ent)) ?_);simp[w64,oW,uK,up4,h1]<;>(intros;simp_all)
 ·refine qC 0 rfl<|rCi rfl (CJ e.i)<|rV (vB ((wr e.i) != 0)) rfl<|qRC 0 rfl<|aS rfl (λh2=>?_) (λh2=>?_)
  ·refine qC 0 rfl<|rCi rfl (MI e.i e.pc a b (Cd he.imm) (Cd he.pc) (Cd ha) (Cd hb)) ?_;refine qR 0 rfl<|rV (vU ((e.pc+4)%4294967296)) rfl<|qR 0 rfl<|rW (vB ((kindOf e.i.op)==1)) rfl (okB (eqN _ _))<|qRC 0 rfl<|aS rfl (λh3=>?_) (λh3=>?_)
   ·refine qCF 0 rfl ?_;replace h1:=sP h1;replace h2:=sP h2;replace h3:=sP h3;refine dF rfl rcT rfl (oV (e:=(⟨e.no,e.pc,⟨e.i.op,e.i.rd,e.i.rs1,e.i.rs2,e.i.imm⟩,e.guess,1,3,rD e.i.op e.i.imm e.pc a b,(e.pc+4)%4294967296,e.addr,e.halt,e.took,e.known,e.filled⟩:Ent)) ?_);simp[w64,oW,uK,up4,h1,h2,h3]<;>(intros;simp_all)
   ·refine qC 0 rfl<|rW (vB ((kindOf e.i.op)==2)) rfl (okB (eqN _ _))<|qRC 0 rfl<|aS rfl (λh4=>?_) (λh4=>?_)
    ·refine qC 0 rfl<|rCi rfl (VX e.i.op a b (Cd ha) (Cd hb))<|qRF 0 rfl ?_;replace h1:=sP h1;replace h2:=sP h2;replace h3:=sP h3;replace h4:=sP h4;refine dF rfl rcT rfl (oV (e:=(⟨e.no,e.pc,⟨e.i.op,e.i.rd,e.i.rs1,e.i.rs2,e.i.imm⟩,e.guess,1,(pW e.i.op a b:Int),rD e.i.op e.i.imm e.pc a b,(e.pc+4)%4294967296,e.addr,e.halt,(pW e.i.op a b:Int),e.known,e.filled⟩:Ent)) ?_);simp[w64,oW,uK,up4,h1,h2,h3,h4]<;>(intros;simp_all)
    ·refine qC 0 rfl<|rW (vB ((kindOf e.i.op)==5)) rfl (okB (eqN _ _))<|qRC 0 rfl<|aS rfl (λh5=>?_) (λh5=>?_)
     ·refine qC 0 rfl<|rCi rfl (Li e.i e.pc a b (Cd he.imm) (Cd he.pc) (Cd ha) (Cd hb))<|qRC 0 rfl<|aS rfl (λh6=>?_) (λh6=>?_)
      ·refine qCF 0 rfl ?_;replace h1:=sP h1;replace h2:=sP h2;replace h3:=sP h3;replace h4:=sP h4;replace h5:=sP h5;replace h6:=sP h6;refine dF rfl rcT rfl (oV (e:=(⟨e.no,e.pc,⟨e.i.op,e.i.rd,e.i.rs1,e.i.rs2,e.i.imm⟩,e.guess,1,1,rD e.i.op e.i.imm e.pc a b,iI e.i.op e.i.imm e.pc a b,e.addr,e.halt,e.took,e.known,e.filled⟩:Ent)) ?_);simp[w64,oW,uK,up4,h1,h2,h3,h4,h5,h6]<;>(intros;simp_all)
      ·refine qCF 0 rfl ?_;replace h1:=sP h1;replace h2:=sP h2;replace h3:=sP h3;replace h4:=sP h4;replace h5:=sP h5;replace h6:=sP h6;refine dF rfl rcT rfl (oV (e:=(⟨e.no,e.pc,⟨e.i.op,e.i.rd,e.i.rs1,e.i.rs2,e.i.imm⟩,e.guess,1,1,0,(e.pc+4)%4294967296,e.addr,3,e.took,e.known,e.filled⟩:Ent)) ?_);simp[w64,oW,uK,up4,h1,h2,h3,h4,h5,h6]<;>(intros;simp_all)
     ·refine qCF 0 rfl ?_;replace h1:=sP h1;replace h2:=sP h2;replace h3:=sP h3;replace h4:=sP h4;replace h5:=sP h5;refine dF rfl rcT rfl (oV (e:=(⟨e.no,e.pc,⟨e.i.op,e.i.rd,e.i.rs1,e.i.rs2,e.i.imm⟩,e.guess,1,1,rD e.i.op e.i.imm e.pc a b,(e.pc+4)%4294967296,e.addr,e.halt,e.took,e.known,e.filled⟩:Ent)) ?_);simp[w64,oW,uK,up4,h1,h2,h3,h4,h5]<;>(intros;simp_all)
  ·skip
   refine qC 0 rfl<|rV (vU ((e.pc+4)%4294967296)) rfl<|qR 0 rfl<|rW (vB ((kindOf e.i.op)==1)) rfl (okB (eqN _ _))<|qRC 0 rfl<|aS rfl (λh7=>?_) (λh7=>?_)
   ·refine qCF 0 rfl ?_;replace h1:=sP h1;replace h2:=sP h2;replace h7:=sP h7;refine dF rfl rcT rfl (oV (e:=(⟨e.no,e.pc,⟨e.i.op,e.i.rd,e.i.rs1,e.i.rs2,e.i.imm⟩,e.guess,1,3,0,(e.pc+4)%4294967296,e.addr,e.halt,e.took,e.known,e.filled⟩:Ent)) ?_);simp[w64,oW,uK,up4,h1,h2,h7]<;>(intros;simp_all)
   ·refine qC 0 rfl<|rW (vB ((kindOf e.i.op)==2)) rfl (okB (eqN _ _))<|qRC 0 rfl<|aS rfl (λh8=>?_) (λh8=>?_)
    ·refine qC 0 rfl<|rCi rfl (VX e.i.op a b (Cd ha) (Cd hb))<|qRF 0 rfl ?_;replace h1:=sP h1;replace h2:=sP h2;replace h7:=sP h7;replace h8:=sP h8;refine dF rfl rcT rfl (oV (e:=(⟨e.no,e.pc,⟨e.i.op,e.i.rd,e.i.rs1,e.i.rs2,e.i.imm⟩,e.guess,1,(pW e.i.op a b:Int),0,(e.pc+4)%4294967296,e.addr,e.halt,(pW e.i.op a b:Int),e.known,e.filled⟩:Ent)) ?_);simp[w64,oW,uK,up4,h1,h2,h7,h8]<;>(intros;simp_all)
    ·refine qC 0 rfl<|rW (vB ((kindOf e.i.op)==5)) rfl (okB (eqN _ _))<|qRC 0 rfl<|aS rfl (λh9=>?_) (λh9=>?_)
     ·refine qC 0 rfl<|rCi rfl (Li e.i e.pc a b (Cd he.imm) (Cd he.pc) (Cd ha) (Cd hb))<|qRC 0 rfl<|aS rfl (λh10=>?_) (λh10=>?_)
      ·refine qCF 0 rfl ?_;replace h1:=sP h1;replace h2:=sP h2;replace h7:=sP h7;replace h8:=sP h8;replace h9:=sP h9;replace h10:=sP h10;refine dF rfl rcT rfl (oV (e:=(⟨e.no,e.pc,⟨e.i.op,e.i.rd,e.i.rs1,e.i.rs2,e.i.imm⟩,e.guess,1,1,0,iI e.i.op e.i.imm e.pc a b,e.addr,e.halt,e.took,e.known,e.filled⟩:Ent)) ?_);simp[w64,oW,uK,up4,h1,h2,h7,h8,h9,h10]<;>(intros;simp_all)
      ·refine qCF 0 rfl ?_;replace h1:=sP h1;replace h2:=sP h2;replace h7:=sP h7;replace h8:=sP h8;replace h9:=sP h9;replace h10:=sP h10;refine dF rfl rcT rfl (oV (e:=(⟨e.no,e.pc,⟨e.i.op,e.i.rd,e.i.rs1,e.i.rs2,e.i.imm⟩,e.guess,1,1,0,(e.pc+4)%4294967296,e.addr,3,e.took,e.known,e.filled⟩:Ent)) ?_);simp[w64,oW,uK,up4,h1,h2,h7,h8,h9,h10]<;>(intros;simp_all)
     ·refine qCF 0 rfl ?_;replace h1:=sP h1;replace h2:=sP h2;replace h7:=sP h7;replace h8:=sP h8;replace h9:=sP h9;refine dF rfl rcT rfl (oV (e:=(⟨e.no,e.pc,⟨e.i.op,e.i.rd,e.i.rs1,e.i.rs2,e.i.imm⟩,e.guess,1,1,0,(e.pc+4)%4294967296,e.addr,e.halt,e.took,e.known,e.filled⟩:Ent)) ?_);simp[w64,oW,uK,up4,h1,h2,h7,h8,h9]<;>(intros;simp_all)
def UE(e:Ent)(size:Int)(a:Nat)(he:e.ok)(hs:size<9223372036854775808)(ha:a<=4294967295):cA C0 113 [.agg (enL e),vI size,vU a] (.agg (enL (rI e size a))):=by
 refine cA.intro c0Ok Tryz.func113 rfl rfl (by kernel_rfl) rfl<|qS 0 rfl<|rCi rfl (pV e.i)<|qR 0 rfl<|rW (vB ((kindOf e.i.op) != 3)) rfl (okB (neN _ _))<|qR 0 rfl<|gBS rfl id (okB (neN _ _))<|cU rfl rfl rfl (λh=>h)<|qR 0 rfl<|gS rfl id<|gBS rfl id rfl<|cU rfl rfl rfl (by simp)<|qR 0 rfl<|gS rfl id<|cU rfl rfl rfl (by simp)<|qRC 0 rfl<|aS rfl (λh1=>?_) (λh1=>?_)
 ·refine qCF 0 rfl ?_;replace h1:=sP h1;refine dF rfl rcT rfl (oV (e:=(⟨e.no,e.pc,⟨e.i.op,e.i.rd,e.i.rs1,e.i.rs2,e.i.imm⟩,e.guess,e.is,e.left,e.value,e.next,e.addr,e.halt,e.took,e.known,e.filled⟩:Ent)) ?_);simp[w64,rI,h1]<;>(intros;simp_all)
 ·skip
  refine qC 0 rfl<|rV (vU ((a+e.i.imm)%4294967296)) rfl<|qRC 0 rfl<|cRg<|oR 5 rfl<|rCi rfl (FE e.i)<|rCi rfl (Gz size ((a+e.i.imm)%4294967296) (bC e.i.op:Nat) hs (bE _ (by decide)))<|rE 35<|qXC 0 rfl<|aS rfl (λh2=>?_) (λh2=>?_)
  ·refine qCF 0 rfl ?_;replace h1:=sP h1;replace h2:=sP h2;refine dF rfl rcT rfl (oV (e:=(⟨e.no,e.pc,⟨e.i.op,e.i.rd,e.i.rs1,e.i.rs2,e.i.imm⟩,e.guess,e.is,e.left,e.value,e.next,(a+e.i.imm)%4294967296,e.halt,e.took,true,e.filled⟩:Ent)) ?_);simp[w64,rI,h1,h2]<;>(intros;simp_all)
  ·refine qC 0 rfl<|rW (vB ((kindOf e.i.op)==4)) rfl (okB (eqN _ _))<|qRC 0 rfl<|aS rfl (λh3=>?_) (λh3=>?_)
   ·refine qCF 0 rfl ?_;replace h1:=sP h1;replace h2:=sP h2;replace h3:=sP h3;refine dF rfl rcT rfl (oV (e:=(⟨e.no,e.pc,⟨e.i.op,e.i.rd,e.i.rs1,e.i.rs2,e.i.imm⟩,e.guess,3,e.left,e.value,e.next,(a+e.i.imm)%4294967296,5,e.took,e.known,e.filled⟩:Ent)) ?_);simp[w64,rI,h1,h2,h3]<;>(intros;simp_all)
   ·refine qCF 0 rfl ?_;replace h1:=sP h1;replace h2:=sP h2;replace h3:=sP h3;refine dF rfl rcT rfl (oV (e:=(⟨e.no,e.pc,⟨e.i.op,e.i.rd,e.i.rs1,e.i.rs2,e.i.imm⟩,e.guess,3,e.left,e.value,e.next,(a+e.i.imm)%4294967296,4,e.took,e.known,e.filled⟩:Ent)) ?_);simp[w64,rI,h1,h2,h3]<;>(intros;simp_all)
def QV(e:Ent)(s:ByteArray)(he:e.ok)(hs:s.size<9223372036854775808):cA C0 53 [.agg (enL e),.v (.string s)] (.agg (enL (sQ e s))):=by
 refine cA.intro c0Ok Tryz.func53 rfl rfl (by kernel_rfl) rfl<|qS 0 rfl<|rCi rfl (pV e.i)<|rW (vB ((kindOf e.i.op) != 3)) rfl (okB (neN _ _))<|qR 0 rfl<|gS rfl id<|gS rfl id<|cU rfl rfl rfl (by simp)<|qR 0 rfl<|gS rfl id<|gBS rfl id rfl<|gS rfl id<|qR 0 rfl<|gS rfl id<|gBS rfl id rfl<|uV (x:=vB (cR (e.is != 0) (e.is != 2) false)) (g:= !(cR ((kindOf e.i.op) != 3) true (!e.known))) rfl rfl rfl rfl (λh=>h) rfl rfl (λhg hc=>by first|(rw[hg,hc];rfl)|simp_all)<|cU rfl rfl rfl (by simp)<|qRC 0 rfl<|aS rfl (λh1=>?_) (λh1=>?_)
 ·refine qCF 0 rfl ?_;replace h1:=sP h1;refine dF rfl rcT rfl (oV (e:=(⟨e.no,e.pc,⟨e.i.op,e.i.rd,e.i.rs1,e.i.rs2,e.i.imm⟩,e.guess,e.is,e.left,e.value,e.next,e.addr,e.halt,e.took,e.known,e.filled⟩:Ent)) ?_);simp[w64,sQ,h1]<;>(intros;simp_all)
 ·skip
  refine qC 0 rfl<|rCi rfl (CJ e.i)<|rV (vB ((wr e.i) != 0)) rfl<|qRC 0 rfl<|aS rfl (λh2=>?_) (λh2=>?_)
  ·refine qC 0 rfl<|rCi rfl (Yo e.i.op s hs)<|qRF 0 rfl ?_;replace h1:=sP h1;replace h2:=sP h2;refine dF rfl rcT rfl (oV (e:=(⟨e.no,e.pc,⟨e.i.op,e.i.rd,e.i.rs1,e.i.rs2,e.i.imm⟩,e.guess,1,1,loadP e.i.op s,e.next,e.addr,e.halt,e.took,e.known,e.filled⟩:Ent)) ?_);simp[w64,sQ,h1,h2]<;>(intros;simp_all)
  ·refine qCF 0 rfl ?_;replace h1:=sP h1;replace h2:=sP h2;refine dF rfl rcT rfl (oV (e:=(⟨e.no,e.pc,⟨e.i.op,e.i.rd,e.i.rs1,e.i.rs2,e.i.imm⟩,e.guess,1,1,0,e.next,e.addr,e.halt,e.took,e.known,e.filled⟩:Ent)) ?_);simp[w64,sQ,h1,h2]<;>(intros;simp_all)
def Wv(x n:Nat)(hx:x<4294967296)(hn:n<=4):cA C0 105 [.v (.int .u32 (x:Int)),.v (.int .i64 (n:Int))] (.v (.int .u32 ((valB x n:Nat):Int))):=by
 refine cA.intro c0Ok Tryz.func105 rfl rfl (by kernel_rfl) rfl<|qS 0 rfl<|rCi rfl (MJ x n hx hn)<|qR 0 rfl<|rCi rfl (Yn (jH x n) (by rw[tW];exact hn))<|qRF 0 rfl ?_;exact fT rfl rfl
def QW(e:Ent)(b:Nat)(he:e.ok)(hb:b<=4294967295):cA C0 62 [.agg (enL e),vU b] (.agg (enL (qY e b))):=by
 refine cA.intro c0Ok Tryz.func62 rfl rfl (by kernel_rfl) rfl<|qS 0 rfl<|rCi rfl (pV e.i)<|rW (vB ((kindOf e.i.op) != 4)) rfl (okB (neN _ _))<|qR 0 rfl<|gS rfl id<|gS rfl id<|cU rfl rfl rfl (by simp)<|qR 0 rfl<|gS rfl id<|gBS rfl id rfl<|cU rfl rfl rfl (by simp)<|qRC 0 rfl<|aS rfl (λh1=>?_) (λh1=>?_)
 ·refine qCF 0 rfl ?_;replace h1:=sP h1;refine dF rfl rcT rfl (oV (e:=(⟨e.no,e.pc,⟨e.i.op,e.i.rd,e.i.rs1,e.i.rs2,e.i.imm⟩,e.guess,e.is,e.left,e.value,e.next,e.addr,e.halt,e.took,e.known,e.filled⟩:Ent)) ?_);simp[w64,qY,h1]<;>(intros;simp_all)
 ·refine qC 0 rfl<|rCi rfl (FE e.i)<|rCi rfl (Wv b (bC e.i.op) (Cd hb) (rG e.i.op))<|qRF 0 rfl ?_;replace h1:=sP h1;refine dF rfl rcT rfl (oV (e:=(⟨e.no,e.pc,⟨e.i.op,e.i.rd,e.i.rs1,e.i.rs2,e.i.imm⟩,e.guess,3,e.left,valB b (bC e.i.op),e.next,e.addr,e.halt,e.took,e.known,e.filled⟩:Ent)) ?_);simp[w64,qY,h1]<;>(intros;simp_all)
def QX(e:Ent)(he:e.ok):cA C0 65 [.agg (enL e)] (.agg (spL (bS e))):=by
 refine cA.intro c0Ok Tryz.func65 rfl rfl (by kernel_rfl) rfl<|qS 0 rfl<|rV (vB (e.halt != 0)) rfl<|qRC 0 rfl<|aS rfl (λh1=>?_) (λh1=>?_)
 ·refine qC 0 rfl<|rV (.agg [vU e.pc,vU e.pc,vI 0,.v (.int .u32 0),.v (.int .u32 0),vI 0,vB false,vI e.halt,vI 0]) rfl<|qR 0 rfl<|rV (vB (e.halt==4)) rfl<|qR 0 rfl<|gS rfl id<|gBS rfl id rfl<|cU rfl rfl rfl (by simp)<|qRC 0 rfl<|aS rfl (λh2=>?_) (λh2=>?_)
  ·refine qCF 0 rfl ?_;replace h1:=sP h1;replace h2:=sP h2;refine dF rfl rcT rfl (Dw (e:=⟨e.pc,e.pc,0,0,e.addr,0,false,e.halt,0⟩) ?_);simp[bS,up4,h1,h2]<;>(intros;simp_all)
  ·refine qCF 0 rfl ?_;replace h1:=sP h1;replace h2:=sP h2;refine dF rfl rcT rfl (Dw (e:=⟨e.pc,e.pc,0,0,0,0,false,e.halt,0⟩) ?_);simp[bS,up4,h1,h2]<;>(intros;simp_all)
 ·refine qCC 0 rfl<|cRg<|oR 4 rfl ?_;refine rV (vU ((e.pc+4)%4294967296)) rfl<|oR 2 rfl<|rCi rfl (CJ e.i)<|rV (.agg [vU e.pc,vU ((e.pc+4)%4294967296),vI (wr e.i),.v (.int .u32 0),.v (.int .u32 0),vI 0,vB false,vI 0,vI 0]) rfl<|rAl 14 rfl rfl<|rSt rfl<|rE 16<|qX 0 rfl<|rV (vB ((wr e.i) != 0)) rfl<|qRC 0 rfl<|aS rfl (λh3=>?_) (λh3=>?_)
  ·refine qC 0 rfl<|rCi rfl (pV e.i)<|qR 0 rfl<|rW (vB ((kindOf e.i.op)==4)) rfl (okB (eqN _ _))<|qRC 0 rfl<|aS rfl (λh4=>?_) (λh4=>?_)
   ·skip
    refine qC 0 rfl<|rCi rfl (FE e.i)<|qRF 0 rfl ?_;replace h1:=sP h1;replace h3:=sP h3;replace h4:=sP h4;refine dF rfl rcT rfl (Dw (e:=⟨e.pc,(e.pc+4)%4294967296,wr e.i,e.value,e.addr,bC e.i.op,true,0,0⟩) ?_);simp[bS,up4,h1,h3,h4]<;>(intros;simp_all)
   ·refine qC 0 rfl<|rW (vB ((kindOf e.i.op)==3)) rfl (okB (eqN _ _))<|qRC 0 rfl<|aS rfl (λh5=>?_) (λh5=>?_)
    ·refine qC 0 rfl<|rCi rfl (FE e.i)<|qRF 0 rfl ?_;replace h1:=sP h1;replace h3:=sP h3;replace h4:=sP h4;replace h5:=sP h5;refine dF rfl rcT rfl (Dw (e:=⟨e.pc,(e.pc+4)%4294967296,wr e.i,e.value,e.addr,bC e.i.op,false,0,0⟩) ?_);simp[bS,up4,h1,h3,h4,h5]<;>(intros;simp_all)
    ·refine qC 0 rfl<|rW (vB ((kindOf e.i.op)==2)) rfl (okB (eqN _ _))<|qRC 0 rfl<|aS rfl (λh6=>?_) (λh6=>?_)
     ·refine qCF 0 rfl ?_;replace h1:=sP h1;replace h3:=sP h3;replace h4:=sP h4;replace h5:=sP h5;replace h6:=sP h6;refine dF rfl rcT rfl (Dw (e:=⟨e.pc,(e.pc+4)%4294967296,wr e.i,e.value,0,0,false,0,e.took⟩) ?_);simp[bS,up4,h1,h3,h4,h5,h6]<;>(intros;simp_all)
     ·refine qC 0 rfl<|rW (vB ((kindOf e.i.op)==5)) rfl (okB (eqN _ _))<|qRC 0 rfl<|aS rfl (λh7=>?_) (λh7=>?_)
      ·refine qCF 0 rfl ?_;replace h1:=sP h1;replace h3:=sP h3;replace h4:=sP h4;replace h5:=sP h5;replace h6:=sP h6;replace h7:=sP h7;refine dF rfl rcT rfl (Dw (e:=⟨e.pc,e.next,wr e.i,e.value,0,0,false,0,0⟩) ?_);simp[bS,up4,h1,h3,h4,h5,h6,h7]<;>(intros;simp_all)
      ·refine qCF 0 rfl ?_;replace h1:=sP h1;replace h3:=sP h3;replace h4:=sP h4;replace h5:=sP h5;replace h6:=sP h6;replace h7:=sP h7;refine dF rfl rcT rfl (Dw (e:=⟨e.pc,(e.pc+4)%4294967296,wr e.i,e.value,0,0,false,0,0⟩) ?_);simp[bS,up4,h1,h3,h4,h5,h6,h7]<;>(intros;simp_all)
  ·refine qC 0 rfl<|rCi rfl (pV e.i)<|qR 0 rfl<|rW (vB ((kindOf e.i.op)==4)) rfl (okB (eqN _ _))<|qRC 0 rfl<|aS rfl (λh8=>?_) (λh8=>?_)
   ·skip
    refine qC 0 rfl<|rCi rfl (FE e.i)<|qRF 0 rfl ?_;replace h1:=sP h1;replace h3:=sP h3;replace h8:=sP h8;refine dF rfl rcT rfl (Dw (e:=⟨e.pc,(e.pc+4)%4294967296,wr e.i,e.value,e.addr,bC e.i.op,true,0,0⟩) ?_);simp[bS,up4,h1,h3,h8]<;>(intros;simp_all)
   ·refine qC 0 rfl<|rW (vB ((kindOf e.i.op)==3)) rfl (okB (eqN _ _))<|qRC 0 rfl<|aS rfl (λh9=>?_) (λh9=>?_)
    ·refine qC 0 rfl<|rCi rfl (FE e.i)<|qRF 0 rfl ?_;replace h1:=sP h1;replace h3:=sP h3;replace h8:=sP h8;replace h9:=sP h9;refine dF rfl rcT rfl (Dw (e:=⟨e.pc,(e.pc+4)%4294967296,wr e.i,0,e.addr,bC e.i.op,false,0,0⟩) ?_);simp[bS,up4,h1,h3,h8,h9]<;>(intros;simp_all)
    ·refine qC 0 rfl<|rW (vB ((kindOf e.i.op)==2)) rfl (okB (eqN _ _))<|qRC 0 rfl<|aS rfl (λh10=>?_) (λh10=>?_)
     ·refine qCF 0 rfl ?_;replace h1:=sP h1;replace h3:=sP h3;replace h8:=sP h8;replace h9:=sP h9;replace h10:=sP h10;refine dF rfl rcT rfl (Dw (e:=⟨e.pc,(e.pc+4)%4294967296,wr e.i,0,0,0,false,0,e.took⟩) ?_);simp[bS,up4,h1,h3,h8,h9,h10]<;>(intros;simp_all)
     ·refine qC 0 rfl<|rW (vB ((kindOf e.i.op)==5)) rfl (okB (eqN _ _))<|qRC 0 rfl<|aS rfl (λh11=>?_) (λh11=>?_)
      ·refine qCF 0 rfl ?_;replace h1:=sP h1;replace h3:=sP h3;replace h8:=sP h8;replace h9:=sP h9;replace h10:=sP h10;replace h11:=sP h11;refine dF rfl rcT rfl (Dw (e:=⟨e.pc,e.next,wr e.i,0,0,0,false,0,0⟩) ?_);simp[bS,up4,h1,h3,h8,h9,h10,h11]<;>(intros;simp_all)
      ·refine qCF 0 rfl ?_;replace h1:=sP h1;replace h3:=sP h3;replace h8:=sP h8;replace h9:=sP h9;replace h10:=sP h10;replace h11:=sP h11;refine dF rfl rcT rfl (Dw (e:=⟨e.pc,(e.pc+4)%4294967296,wr e.i,0,0,0,false,0,0⟩) ?_);simp[bS,up4,h1,h3,h8,h9,h10,h11]<;>(intros;simp_all)
def abQ(n:Nat):(if(0:Int)>(n:Int)then(0:Int)else(n:Int))=(n:Int):=if_neg omT
def YG{n:Nat}(h:n<=1000):IntKind.wrap .i64 ((n:Int)-1)=(n:Int)-1:=wrap_i64 omT omT
def Ww{k:Nat}(h0:0<k)(h:k<=1000):IntKind.wrap .i64 (((k:Int)-1)-1)=((k-1:Nat):Int)-1:=by rw[wrap_i64 omT omT];omega
def aaF{a b:Nat}(h:b<=a)(ha:a<=4294967295):IntKind.wrap .u32 ((a:Int)-(b:Int))=((a-b:Nat):Int):=by
 rw[show((a:Int)-(b:Int))=((a-b:Nat):Int) by omega];exact IC (by omega:a-b<=4294967295) rfl
def TB(a n:Nat)(ha:a<=4294967295)(hn:n<=1000):cA C0 178 [vU a,vN n] (.v (.int .u64 ((a+n:Nat):Int))):=by
 refine cA.intro c0Ok Tryz.func178 rfl rfl (by kernel_rfl) rfl<|qS 0 rfl<|rW (.v (.int .u64 (a:Int))) rfl (okI (IC ha rfl))<|qR 0 rfl<|rW (vN n) rfl (okI (abQ n))<|rW (.v (.int .u64 (n:Int))) rfl (okI (IC hn rfl)) ?_;have b1:a+n<=4294968295:=aF ha hn;refine rW (.v (.int .u64 ((a+n:Nat):Int))) rfl (okI (IC b1 rfl))<|qRF 0 rfl ?_;exact fT rfl rfl
def YH(a n b m:Nat)(ha:a<=4294967295)(hn:n<=1000)(hb:b<=4294967295)(hm:m<=1000):cA C0 160 [vU a,vN n,vU b,vN m] (vB (FA a n b m)):=by
 refine cA.intro c0Ok Tryz.func160 rfl rfl (by kernel_rfl) rfl<|qS 0 rfl<|rW (vB (decide (n<=0))) rfl (okB (leN _ _))<|qR 0 rfl<|gBS rfl id (okB (leN _ _))<|cU rfl rfl rfl (by simp)<|qRC 0 rfl<|aS rfl (λh1=>?_) (λh1=>?_)
 ·refine qCF 0 rfl ?_;exact fT rfl (dM (by have z:=h1;simp only[cOr,qG,FA]at z⊢ <;>grind))
 ·refine qC 0 rfl<|rW (.v (.int .u64 (a:Int))) rfl (okI (IC ha rfl))<|qR 0 rfl<|rCi rfl (TB b m hb hm)<|rW (vB (decide (a<(b+m)))) rfl (okB (ltN _ _))<|qR 0 rfl<|gBS rfl id (okI (IC hb rfl))<|qR 0 rfl<|jU (x:=.v (.int .u64 ((a+n:Nat):Int))) (g:=decide (a<(b+m))) rfl rfl rfl rfl hsT rfl rfl rfl (.inl rfl) rfl (λhg=>TB a n ha hn)<|gBS rfl hsT (okB (ltN _ _))<|cU rfl rfl rfl (λh=>h)<|qRF 0 rfl ?_;exact fT rfl (dM (by have z:=h1;simp only[cOr,qG,FA]at z⊢ <;>grind))
def Wx(a n b m:Nat)(ha:a<=4294967295)(hn:n<=1000)(hb:b<=4294967295)(hm:m<=1000):cA C0 161 [vU a,vN n,vU b,vN m] (vB (EH a n b m)):=by
 refine cA.intro c0Ok Tryz.func161 rfl rfl (by kernel_rfl) rfl<|qS 0 rfl<|rW (vB (decide (m>0))) rfl (okB (gtN _ _))<|qR 0 rfl<|gBS rfl hsT (okB (leN _ _))<|cU rfl rfl rfl (λh=>h)<|qR 0 rfl<|jU (x:=.v (.int .u64 ((b+m:Nat):Int))) (g:=cR (decide (m>0)) (decide (a<=b)) false) rfl rfl rfl rfl hsT rfl rfl rfl (.inl rfl) rfl (λhg=>TB b m hb hm)<|qR 0 rfl<|jU (x:=.v (.int .u64 ((a+n:Nat):Int))) (g:=cR (decide (m>0)) (decide (a<=b)) false) rfl rfl rfl rfl hsT rfl rfl rfl (.inl rfl) rfl (λhg=>TB a n ha hn)<|gBS rfl hsT (okB (leN _ _))<|cU rfl rfl rfl (λh=>h)<|qRF 0 rfl ?_;exact fT rfl (dM (by simp only[cOr,qG,EH]<;>grind))
def abR(s:Std):Value:=.agg #[.int .u32 (s.addr:Int),.int .i64 (s.size:Int),.string s.data,.bool s.there]
def YI(s:Std):Array Value:= #[abR s]
abbrev sdL(s:Std):List AV:=[vU s.addr,vN s.size,.v (.string s.data),vB s.there]
def MZ(R:List Ent)(k:Nat):List Std:=(((R.drop k).filter λe=>isK e 4).map EG).reverse
def TC(R:List Ent)(S:List Pt)(k:Nat):List Std:=MZ R 0++((S.drop k).map CH).reverse
def Na(R:List Ent)(S:List Pt):Fy R S=MZ R 0++(S.map CH).reverse:=rfl
def Fd{α:Type}{l:List α}{k:Nat}{x:α}(h0:0<k)(h:l[k-1]?=some x):l.drop (k-1)=x::l.drop k:=by
 obtain⟨hl,rfl⟩:=DS.1 h;rw[bR hl,show k-1+1=k by omega]
def Nb{R:List Ent}{k:Nat}{x:Ent}(h0:0<k)(h:R[k-1]?=some x)(hk:isK x 4=true):MZ R (k-1)=MZ R k++[EG x]:=by
 unfold MZ;rw[Fd h0 h,List.filter_cons_of_pos (by simpa using hk)];simp
def Wz{R:List Ent}{k:Nat}{x:Ent}(h0:0<k)(h:R[k-1]?=some x)(hk:isK x 4=false):MZ R k=MZ R (k-1):=by
 unfold MZ;rw[Fd h0 h,List.filter_cons_of_neg (by simpa using hk)]
def TD(R:List Ent)(S:List Pt)(k:Nat):MZ R k <+: Fy R S:=by
 rw[Na];refine List.IsPrefix.trans ?_ (List.prefix_append _ _);refine⟨(((R.take k).filter λe=>isK e 4).map EG).reverse,?_⟩;unfold MZ;rw[<-List.reverse_append, <-dY, <-jW,gC,cB]
def Og(R:List Ent):MZ R R.length=[]:=by unfold MZ;rw[List.drop_length];rfl
def Kc{R:List Ent}{S:List Pt}{k:Nat}{x:Pt}(h0:0<k)(h:S[k-1]?=some x):TC R S (k-1)=TC R S k++[CH x]:=by
 unfold TC;rw[Fd h0 h];simp
def TE(R:List Ent)(S:List Pt)(k:Nat):TC R S k <+: Fy R S:=by
 rw[Na];unfold TC;rw[List.prefix_append_right_inj];refine⟨((S.take k).map CH).reverse,?_⟩;rw[<-List.reverse_append, <-dY,gC]
def Oh(R:List Ent)(S:List Pt):TC R S S.length=MZ R 0:=by unfold TC;rw[List.drop_length];simp
def TF(R:List Ent)(S:List Pt):TC R S 0=Fy R S:=rfl
def TG{R:List Ent}{S:List Pt}(ho:∀x∈R,x.ok)(hso:∀x∈S,x.ok)(hss:∀x∈S,x.data.size<=4){s:Std}(h:s∈Fy R S):s.addr<=4294967295∧s.size<=4∧s.data.size=s.size:=by
 unfold Fy at h;rcases al_List_mem_append.1 h with h|h
 ·obtain⟨e,he,rfl⟩:=sY.1 (List.mem_reverse.1 h);exact⟨(ho e (List.mem_filter.1 he).1).addr,rG _,tW _ _⟩
 ·obtain⟨p,hp,rfl⟩:=sY.1 (List.mem_reverse.1 h);exact⟨(hso p hp).addr,hss p hp,rfl⟩
theorem Dq{at_ n:Nat}:∀{l:List Std},(∀s,s∈l->FA s.addr s.size at_ n=false)->xJ at_ n l=(2,oX)
 |[],_=>rfl
 |s::l,h=>by
  simp only[xJ];rw[if_pos (h s bI)];exact Dq λy hy=>h y (bP _ hy)
theorem CU{at_ n:Nat}{s:Std}:∀{pre l:List Std},pre++[s] <+: l->(∀y,y∈pre->FA y.addr y.size at_ n=false)->FA s.addr s.size at_ n=true->
  xJ at_ n l=if EH s.addr s.size at_ n=false∨s.there=false then(0,oX)else(1,s.data.extract (at_-s.addr) (at_-s.addr+n))
 |[],[],h,_,_=>by have:=h.length_le;simp at this
 |[],y::l,h,_,hs=>by
  obtain⟨t,ht⟩:=h;obtain⟨rfl, -⟩:=List.cons.inj ht
  simp only[xJ];rw[if_neg (by simp[hs])]
 |y::pre,[],h,_,_=>by have:=h.length_le;simp at this
 |y::pre,z::l,h,hN,hs=>by
  obtain⟨t,ht⟩:=h;obtain⟨h3,h4⟩:=List.cons.inj ht;subst h3;simp only[xJ];rw[if_pos (hN y bI)];exact CU ⟨t,h4⟩ (λy hy=>hN y (bP _ hy)) hs
def QY(R:List Ent)(S:List Pt)(ck ck2:Bool)(hl:R.length<=1000)(ho:∀x∈R,x.ok)(hst:S.length<=1000)(hso:∀x∈S,x.ok):Tz C0 177 [.dp 1 0 ([.sl 17 (R.map enL) ck]),.dp 1 0 ([.sl 2 (S.map ptL) ck2])] YI (Fy R S):=by
 refine Tz.intro c0Ok Tryz.func177 rfl rfl (by kernel_rfl) rfl ?_;intro y;refine wK<|wK<|sX rfl<|cRg<|oR 1 rfl<|rW (vN R.length) rfl (bT enL R)<|rW (vI (((R.length:Nat):Int)-1)) rfl (okI (YG hl))<|oR 1 rfl<|rE 4<|CT<|QQ (κ:=Nat) (λk=>⟨slotsF [(0,.v y),(1,.dp 1 0 ([.sl 17 (R.map enL) ck])),(2,.dp 1 0 ([.sl 2 (S.map ptL) ck2])),(4,vI ((k:Int)-1))],heapF [],4⟩) (λk=>MZ R k) (λk=>k<=R.length) (λk=>k) R.length (λs=>s) (Weak.of_lists (λs=>s) wT trivial rfl) rfl (Og R) (aC _) ?_;intro k hk;have hkB:k<=1000:=by have:k<=R.length:=hk;omega
 refine wK<|wK<|sX rfl<|cRg<|oR 1 rfl<|rV (vB (decide (((k:Int)-1)>=0))) rfl<|rE 6<|Fa (v:=decide (((k:Int)-1)>=0)) rfl (λh1=>?_) (λh1=>?_)
 ·have h1p:=of_decide_eq_true h1;have hk0:0<k:=by omega
  refine sX rfl<|mH<|wK<|CT<|wK<|sX rfl<|cRg<|oR 2 rfl ?_;obtain⟨x,hx⟩:∃y_,R[k-1]?=some y_:=⟨_,aA omT⟩;have hxo:=ho x (aB hx);refine ID (enL x) (x:=.dp 17 0 (enL x)) rfl rfl rfl (⟨by omega,by rw[show((k:Int)-1).toNat=k-1 by omega];exact fW hx⟩) rfl<|oR 1 rfl<|rAl 10 rfl rfl<|rSt rfl<|rE 12<|wK<|wK<|sX rfl<|cRg<|oR 2 rfl<|rCi rfl (pV x.i)<|rW (vB ((kindOf x.i.op) != 4)) rfl (okB (neN _ _))<|rE 16<|Fa (v:=(kindOf x.i.op) != 4) rfl (λh2=>?_) (λh2=>?_)
  ·have h2p:=xH h2;have hkf:isK x 4=false:=by unfold isK;simpa using h2p
   refine sX rfl<|Je<|sX rfl<|cRg<|oR 1 rfl<|rW (vI (((k-1:Nat):Int)-1)) rfl (okI (Ww hk0 hkB))<|oR 1 rfl<|rE 19 ?_;refine⟨rfl,k-1,λs=>s,Weak.of_lists _ wT trivial rfl,rfl,(Wz hk0 hx hkf).symm,(by show k-1<=R.length;omega),(by show k-1<k;omega)⟩
  ·have h2p:=xI h2;have hkt:isK x 4=true:=by unfold isK;simpa using h2p
   refine sX rfl<|mH<|wK<|sX rfl<|cRg<|oR 2 rfl<|rCi rfl (FE x.i)<|oR 1 rfl<|rE 20<|wK<|sX rfl<|cRg<|oR 3 rfl<|rCi rfl (MJ x.value (bC x.i.op) (Cd hxo.value) (rG x.i.op))<|oR 5 rfl<|rE 29<|wK<|QR rfl 9 rfl rfl rfl<|oR 7 rfl<|rV (vB (x.is==3)) rfl<|rV (.agg [vU x.addr,vN (bC x.i.op),.v (.string (jH x.value (bC x.i.op))),vB (x.is==3)]) rfl<|rE 38 ?_;refine⟨EG x,_,⟨slotsF [(0,.v y),(1,.dp 1 0 ([.sl 17 (R.map enL) ck])),(2,.dp 1 0 ([.sl 2 (S.map ptL) ck2])),(4,vI ((k:Int)-1)),(36,.v y),(44,.agg [vU x.addr,vN (bC x.i.op),.v (.string (jH x.value (bC x.i.op))),vB (x.is==3)])],heapF [],0⟩,λs=>s,Weak.of_lists _ wT trivial rfl,rfl,rfl,rfl,rfl,rfl,rfl,(by rw[<-Nb hk0 hx hkt];exact TD R S _),λyb1=>?_⟩;refine oR 1 rfl<|rE 40<|Fa (v:= !yb1) rfl (λh3=>?_) (λh3=>?_)
   ·refine sX rfl<|rL ?_;intro hs;rw[h3]at hs;cases hs
   ·refine sX rfl<|mH<|sX rfl<|cRg<|oR 1 rfl<|rW (vI (((k-1:Nat):Int)-1)) rfl (okI (Ww hk0 hkB))<|oR 1 rfl<|rE 43 ?_;refine⟨h3,k-1,λs=>s,Weak.of_lists _ wT trivial rfl,rfl,(Nb hk0 hx hkt),(by show k-1<=R.length;omega),(by show k-1<k;omega)⟩
 ·have h1p:=aD h1;refine sX rfl<|Je<|wK<|sX rfl<|cRg<|oR 1 rfl<|rW (vN S.length) rfl (bT ptL S)<|rW (vI (((S.length:Nat):Int)-1)) rfl (okI (YG hst))<|oR 1 rfl<|rE 10<|CT ?_;obtain hk_:k=0:=by omega
  subst hk_;refine QQ (κ:=Nat) (λj=>⟨slotsF [(0,.v y),(1,.dp 1 0 ([.sl 17 (R.map enL) ck])),(2,.dp 1 0 ([.sl 2 (S.map ptL) ck2])),(9,vI ((j:Int)-1))],heapF [],10⟩) (λj=>TC R S j) (λj=>j<=S.length) (λj=>j) S.length (λs=>s) (Weak.of_lists (λs=>s) wT trivial rfl) rfl (Oh R S) (aC _) ?_;intro j hj;have hjB:j<=1000:=by have:j<=S.length:=hj;omega
  refine wK<|wK<|sX rfl<|cRg<|oR 1 rfl<|rV (vB (decide (((j:Int)-1)>=0))) rfl<|rE 12<|Fa (v:=decide (((j:Int)-1)>=0)) rfl (λh4=>?_) (λh4=>?_)
  ·have h4p:=of_decide_eq_true h4;have hj0:0<j:=by omega
   refine sX rfl<|mH<|wK<|CT<|wK<|sX rfl<|cRg<|oR 2 rfl ?_;obtain⟨p,hp⟩:∃y_,S[j-1]?=some y_:=⟨_,aA omT⟩;have hpo:=hso p (aB hp);refine ID (ptL p) (x:=.dp 2 0 (ptL p)) rfl rfl rfl (⟨by omega,by rw[show((j:Int)-1).toNat=j-1 by omega];exact fW hp⟩) rfl<|oR 1 rfl<|rAl 16 rfl rfl<|rSt rfl<|rE 18<|wK<|QR rfl 9 rfl rfl rfl<|oR 5 rfl<|rV (vN p.data.size) rfl<|oR 2 rfl<|rV (.agg [vU p.addr,vN p.data.size,.v (.string p.data),vB true]) rfl<|rE 27 ?_;refine⟨CH p,_,⟨slotsF [(0,.v y),(1,.dp 1 0 ([.sl 17 (R.map enL) ck])),(2,.dp 1 0 ([.sl 2 (S.map ptL) ck2])),(9,vI ((j:Int)-1)),(58,.v y),(66,.agg [vU p.addr,vN p.data.size,.v (.string p.data),vB true])],heapF [],0⟩,λs=>s,Weak.of_lists _ wT trivial rfl,rfl,rfl,rfl,rfl,rfl,rfl,(by rw[<-Kc hj0 hp];exact TE R S _),λyb2=>?_⟩;refine oR 1 rfl<|rE 29<|Fa (v:= !yb2) rfl (λh5=>?_) (λh5=>?_)
   ·refine sX rfl<|rL ?_;intro hs;rw[h5]at hs;cases hs
   ·refine sX rfl<|mH<|sX rfl<|cRg<|oR 1 rfl<|rW (vI (((j-1:Nat):Int)-1)) rfl (okI (Ww hj0 hjB))<|oR 1 rfl<|rE 32 ?_;refine⟨h5,j-1,λs=>s,Weak.of_lists _ wT trivial rfl,rfl,(Kc hj0 hp),(by show j-1<=S.length;omega),(by show j-1<j;omega)⟩
  ·have h4p:=aD h4;refine sX rfl<|Je ?_;intro _;obtain hj_:j=0:=by omega
   subst hj_;exact TF R S
def QZ(R:List Ent)(S:List Pt)(ck ck2:Bool)(hl:R.length<=1000)(ho:∀x∈R,x.ok)(hst:S.length<=1000)(hso:∀x∈S,x.ok):cA C0 159 [.sl 17 (R.map enL) ck,.sl 2 (S.map ptL) ck2] (.clo 177 [] [.dp 1 0 [.sl 17 (R.map enL) ck],.dp 1 0 [.sl 2 (S.map ptL) ck2]]):=by
 refine cA.intro c0Ok Tryz.func159 rfl rfl (by kernel_rfl) rfl<|qS 0 rfl<|rV (.clo 177 [] [.ptr 0 0,.ptr 1 0]) rfl<|qRF 0 rfl ?_;exact dF rfl tvT rfl rfl
def TH{l:List Ent}{k:Nat}{x:Ent}(h:∀y,y∈l.take k->Av y=false)(hx:l[k]?=some x)(hv:Av x=false):∀y,y∈l.take (k+1)->Av y=false:=by
 intro y hy;rw[bV,hx]at hy;rcases al_List_mem_append.1 hy with hy|hy
 ·exact h y hy
 ·have:y=x:=by simpa using hy
  rw[this];exact hv
def TJ{rob:List Ent}{stores:List Pt}{i:Nat}{e:Ent}(he:rob[i]?=some e)(hk: ¬kindOf e.i.op=3):lD rob stores i=(0,oX):=by
 unfold lD;rw[he];exact if_pos hk
def Rb{rob:List Ent}{stores:List Pt}{i k:Nat}{e x:Ent}(he:rob[i]?=some e)(hk:kindOf e.i.op=3)(hx:(rob.take i)[k]?=some x)(hv:Av x=true):lD rob stores i=(0,oX):=by
 unfold lD;rw[he];exact(if_neg (λh=>h hk)).trans (if_pos (LP.2 ⟨x,aB hx,hv⟩))
def Rd{rob:List Ent}{stores:List Pt}{i k:Nat}{e:Ent}(he:rob[i]?=some e)(hk:kindOf e.i.op=3)(hN:∀y,y∈(rob.take i).take k->Av y=false)(hle:(rob.take i).length<=k):lD rob stores i=xJ e.addr (bC e.i.op) (Fy (rob.take i) stores):=by
 unfold lD;rw[he];refine(if_neg (λh=>h hk)).trans (if_neg λh=>?_);obtain⟨x,hx,hv⟩:=LP.1 h;rw[aM hle]at hN;rw[hN x hx]at hv;cases hv
def WA(rob:List Ent)(stores:List Pt)(ck ck2:Bool)(i:Nat)(hl:rob.length<=1000)(ho:∀x∈rob,x.ok)(hst:stores.length<=1000)(hso:∀x∈stores,x.ok)(hss:∀x∈stores,x.data.size<=4)(hi:i<rob.length):cA C0 143 [.sl 17 (rob.map enL) ck,.sl 2 (stores.map ptL) ck2,vN i] (.tup [vI (lD rob stores i).1,.v (.string (lD rob stores i).2)]):=by
 refine dc1 (cA.introR (C:=C1) (λd=>c1Ok.wd d) (λn=>c1Ok.at) Tryz.func143 rfl rfl (by kernel_rfl) rfl ?_);have hiB:i<=1000:=by omega
 have htl:(rob.take i).length<=1000:=by rw[aL];omega
 have hto:∀x∈rob.take i,x.ok:=λx hx=>ho x (cQ hx);refine zV<|zI rfl<|cRg<|rAl 0 rfl rfl<|rAl 1 rfl rfl<|rE 2<|Wq<|zV<|zV<|zI rfl<|cRg<|oR 1 rfl<|rW (vB (decide (i<0))) rfl (okB (ltN _ _))<|oR 1 rfl<|gN rfl<|gN rfl<|gBS rfl id (bT enL rob)<|gBS rfl hsT (okB (geN _ _))<|cU rfl rfl rfl (by simp)<|oR 1 rfl<|gN rfl<|gN rfl ?_;obtain⟨e,he⟩:∃y_,rob[i]?=some y_:=⟨_,aA omT⟩;have heo:=ho e (aB he);refine Hp (enL e) (x:=.dp 17 0 (enL e)) (g:= !(cR (decide (i<0)) true (decide (i>=rob.length)))) rfl rfl rfl rfl hsT rfl rfl (λhg=>⟨aH _,fW he⟩) rfl<|gS rfl id<|gS rfl id<|jU (x:=vN (kindOf e.i.op)) (g:= !(cR (decide (i<0)) true (decide (i>=rob.length)))) rfl rfl rfl rfl (λh=>h) rfl rfl rfl (.inl rfl) rfl (λhg=>pV e.i)<|gBS rfl id (okB (neN _ _))<|cU rfl rfl rfl (by simp)<|rE 19<|UC (v:=cR (cR (decide (i<0)) true (decide (i>=rob.length))) true ((kindOf e.i.op) != 3)) rfl (λh1=>?_) (λh1=>?_)
 ·have hk3: ¬kindOf e.i.op=3:=by have z:=h1;simp only[cOr]at z;grind
  refine zV<|zI rfl<|cRg<|rSt rfl<|rSt rfl<|rE 21<|zI rfl<|rL ?_;have e1:=TJ (stores:=stores) he hk3;rw[e1];exact fT rfl rfl
 ·have hk3:kindOf e.i.op=3:=by have z:=h1;simp only[cOr]at z;grind
  refine zI rfl<|mH<|zV<|zV<|zI rfl<|cRg<|oR 2 rfl<|nW (.sl 17 ((rob.take i).map enL) (ck&&false)) rfl (zB (wX enL rob i)) slT<|rW (vN i) rfl (vX enL (rob.take i) omT)<|oR 1 rfl<|rE 24<|Lx<|YB<|jX (κ:=Nat) (λk=>⟨slotsF [(0,.sl 17 (rob.map enL) ck),(1,.sl 2 (stores.map ptL) ck2),(2,vN i),(6,.ptr 0 0),(7,.ptr 1 0),(30,vB (cR (cR (decide (i<0)) true (decide (i>=rob.length))) true ((kindOf e.i.op) != 3))),(33,.sl 17 ((rob.take i).map enL) (ck&&false)),(34,vN i),(35,vN k)],heapF [(0,.box [vI 0]),(1,.box [.v (.string (⟨#[]⟩:ByteArray))])],24⟩) (λk=>k<=i∧∀y,y∈(rob.take i).take k->Av y=false) (λk=>i-k) 0 (λs=>s) (Weak.of_lists (λs=>s) wT wH rfl) (⟨aE _,(λy hy=>by cases hy)⟩) ?_;intro k hk;have hkn:k<=i:=hk.1;have hkB:k<=1000000:=by omega
  refine cSR<|rW (vB (decide (k<i))) rfl (okB (ltN _ _))<|rE 25<|fZ<|aS rfl (λh2=>?_) (λh2=>?_)
  ·have h2p:=of_decide_eq_true h2;refine mH<|fZ<|qV<|cSR ?_;obtain⟨x,hx⟩:∃y_,(rob.take i)[k]?=some y_:=⟨_,aA omT⟩;have hxo:=(AQ ho) x (aB hx);refine rIx (enL x) (.dp 17 0 (enL x)) rfl rfl (fW hx) rfl<|oR 1 rfl<|rAl 27 rfl rfl<|rSt rfl<|rE 29<|cSR<|oR 2 rfl<|rCi rfl (pV x.i)<|rW (vB ((kindOf x.i.op)==4)) rfl (okB (eqN _ _))<|oR 1 rfl<|gN rfl<|gS rfl id<|gS rfl id<|gS rfl id<|gN rfl<|gS rfl id<|gBS rfl id rfl<|uV (x:=vB (cR (!x.known) true (x.halt != 0))) (g:=(kindOf x.i.op)==4) rfl rfl rfl rfl (λh=>h) rfl rfl (λhg hc=>by first|(rw[hg,hc];rfl)|simp_all)<|cU rfl rfl rfl (λh=>h)<|rE 43<|aS rfl (λh3=>?_) (λh3=>?_)
   ·have hv:Av x=true:=by have z:=h3;unfold Av isK;simp only[cOr,qG]at z⊢;grind
    refine cSR<|rSt rfl<|rSt rfl<|rE 45<|rL ?_;have e1:=Rb (stores:=stores) he hk3 hx hv;rw[e1];exact fT rfl rfl
   ·have hv:Av x=false:=by have z:=h3;unfold Av isK;simp only[cOr,qG]at z⊢;grind
    refine mH<|cRg ?_;have b1:k+1<=1000001:=aF hkB (aC 1);refine rW (vN (k+1)) rfl (okI (bJ b1 rfl))<|oR 1 rfl<|rE 45 ?_;refine⟨k+1,λs=>s,Weak.of_lists _ wT wH rfl,⟨by omega,TH hk.2 hx hv⟩,by show i-(k+1)<i-k;omega⟩
  ·have h2p:=aD h2;have hN0:=hk.2;have hk0:(rob.take i).length<=k:=by rw[aL];omega
   refine Je<|zV<|zI rfl<|cRg<|oR 2 rfl<|rIx (enL e) (.dp 17 0 (enL e)) rfl rfl (fW he) rfl<|oR 4 rfl<|rIx (enL e) (.dp 17 0 (enL e)) rfl rfl (fW he) rfl<|oR 2 rfl<|rCi rfl (FE e.i)<|rAl 36 rfl rfl<|rAl 37 rfl rfl<|rSt rfl<|rSt rfl<|rE 40<|zV<|zI rfl<|YC<|zV<|zV<|zI rfl<|cRg<|oR 2 rfl<|nW (.sl 17 ((rob.take i).map enL) (ck&&false)) rfl (zB (wX enL rob i)) slT<|oR 1 rfl<|rCi rfl (QZ (rob.take i) stores (ck&&false) ck2 htl hto hst hso)<|rE 45<|Lx<|QP (.mk _ (.refl _) ⟨⟨slotsF [(6,.ptr 0 0),(7,.ptr 1 0),(10,.ptr 2 0),(11,.ptr 3 0),(69,.clo 177 [] [.dp 1 0 ([.sl 17 ((rob.take i).map enL) (ck&&false)]),.dp 1 0 ([.sl 2 (stores.map ptL) ck2])])],heapF [(0,.box [vI 0]),(1,.box [.v (.string (⟨#[]⟩:ByteArray))]),(2,.box [vU e.addr]),(3,.box [vN (bC e.i.op)])],4⟩,λs=>match s with|2=>36|3=>37|s=>s,Weak.of_lists _ wT wH rfl,rfl,?_⟩);refine .mk Std 177 [.dp 1 0 ([.sl 17 ((rob.take i).map enL) (ck&&false)]),.dp 1 0 ([.sl 2 (stores.map ptL) ck2])] (λs:Std=>[.agg (sdL s)]) YI (Fy (rob.take i) stores) (λs:Std=>FA s.addr s.size e.addr (bC e.i.op)=false) 4 (λ_=>heapF [(0,.box [vI 0]),(1,.box [.v (.string (⟨#[]⟩:ByteArray))]),(2,.box [vU e.addr]),(3,.box [vN (bC e.i.op)])]) (λ_=>4) rfl rfl ⟨_,Tryz.func177,rfl,rfl⟩ (QY (rob.take i) stores (ck&&false) ck2 htl hto hst hso) (λx S w β=>DE (show IJ [.agg (sdL x)]=some _ from rfl)) (λ_=>rfl) rfl rfl (λ_=>rfl) (Weak.of_lists (hp:=[]) (λs=>s) wT trivial rfl) ?_ ?_
   ·intro pre_ s hp_ hN_;have hsk:=TG hto hso hss (hp_.subset (List.mem_append_right _ (uO.2 rfl)));have hsz:s.size<=1000:=by omega
    have hne:bC e.i.op<=1000:=aN (rG e.i.op) (by decide);refine cRg<|rAl 4 rfl rfl<|rSt rfl<|rE 6 ?_;refine⟨rfl,?_⟩;refine qV<|fZ<|cSR<|oR 6 rfl<|rCi rfl (YH s.addr s.size e.addr (bC e.i.op) hsk.1 hsz heo.addr hne)<|oR 1 rfl<|rE 14<|aS rfl (λh4=>?_) (λh4=>?_)
    ·have hlp:FA s.addr s.size e.addr (bC e.i.op)=false:=by simpa using h4
     refine Je ?_;exact⟨hlp,.mk _ (.refl _) ⟨λs=>s,rfl,Weak.of_lists (l:=[]) (hp:=[(0,.box [vI 0]),(1,.box [.v (.string (⟨#[]⟩:ByteArray))]),(2,.box [vU e.addr]),(3,.box [vN (bC e.i.op)])]) (λs=>s) trivial wH rfl⟩⟩
    ·have hlp:FA s.addr s.size e.addr (bC e.i.op)=true:=by simpa using h4
     refine mH<|fZ<|cSR<|oR 6 rfl<|rCi rfl (Wx s.addr s.size e.addr (bC e.i.op) hsk.1 hsz heo.addr hne)<|oR 2 rfl<|gN rfl<|gS rfl id<|gS rfl id<|cU rfl rfl rfl (by simp)<|rE 27<|aS rfl (λh5=>?_) (λh5=>?_)
     ·have hhd:EH s.addr s.size e.addr (bC e.i.op)=false∨s.there=false:=by have z:=h5;simp only[cOr]at z;grind
      refine cSR<|rSt rfl<|rSt rfl<|rE 29<|rL<|.mk _ (.refl _) ⟨heapF [(0,.box [vI 0]),(1,.box [.v (.string (⟨#[]⟩:ByteArray))]),(2,.box [vU e.addr]),(3,.box [vN (bC e.i.op)])],4,λs=>s,rfl,rfl,Weak.of_lists (l:=[]) (hp:=[(0,.box [vI 0]),(1,.box [.v (.string (⟨#[]⟩:ByteArray))]),(2,.box [vU e.addr]),(3,.box [vN (bC e.i.op)])]) (λs=>s) trivial wH rfl,?_⟩;intro D;have e1:=(Rd (stores:=stores) he hk3 hN0 hk0).trans ((CU hp_ hN_ hlp).trans (if_pos hhd));rw[e1];exact fT rfl rfl
     ·have hhd: ¬(EH s.addr s.size e.addr (bC e.i.op)=false∨s.there=false):=by have z:=h5;simp only[cOr]at z;grind
      have hlh:s.addr<=e.addr∧e.addr+bC e.i.op<=s.addr+s.size:=by have z:=hhd;simp only[not_or,Bool.not_eq_false]at z;have y:=z.1;unfold EH at y;simp only[aJ,bB]at y;omega
      refine mH<|cSR<|oR 3 rfl<|rW (vU (e.addr-s.addr)) rfl (okI (aaF hlh.1 heo.addr))<|rW (vN (e.addr-s.addr)) rfl (okI (bJ (aN (jS _ _) heo.addr) rfl))<|oR 1 rfl<|rE 33<|fZ<|Fu rfl rfl<|oR 5 rfl ?_;have b2:(e.addr-s.addr)+(bC e.i.op)<=4294967299:=aF (aN (jS _ _) heo.addr) (rG e.i.op);refine rW (vN ((e.addr-s.addr)+(bC e.i.op))) rfl (okI (bJ b2 rfl))<|nW (.v (.string (s.data.extract (e.addr-s.addr) ((e.addr-s.addr)+(bC e.i.op))))) rfl rfl (by refine⟨?_,?_,?_⟩<;>(first|exact aH _|decide|(apply Fj.2;exact omT)))<|rSt rfl<|rSt rfl<|rE 42<|And.intro (by kernel_rfl)<|rL<|.mk _ (.refl _) ⟨heapF [(0,.box [vI 1]),(1,.box [.v (.string (s.data.extract (e.addr-s.addr) ((e.addr-s.addr)+(bC e.i.op))))]),(2,.box [vU e.addr]),(3,.box [vN (bC e.i.op)])],4,λs=>s,rfl,rfl,Weak.of_lists (l:=[]) (hp:=[(0,.box [vI 1]),(1,.box [.v (.string (s.data.extract (e.addr-s.addr) ((e.addr-s.addr)+(bC e.i.op))))]),(2,.box [vU e.addr]),(3,.box [vN (bC e.i.op)])]) (λs=>s) trivial wH rfl,?_⟩;intro D;have e1:=(Rd (stores:=stores) he hk3 hN0 hk0).trans ((CU hp_ hN_ hlp).trans (if_neg hhd));rw[e1];exact fT rfl rfl
   ·intro hN D;refine zV<|zI rfl<|cRg<|rSt rfl<|rSt rfl<|rE 6<|zI rfl<|rL ?_;have e1:=(Rd (stores:=stores) he hk3 hN0 hk0).trans (Dq hN);rw[e1];exact fT rfl rfl
end Go.Proofs.YtgleompefdogkaaGreatDoor
