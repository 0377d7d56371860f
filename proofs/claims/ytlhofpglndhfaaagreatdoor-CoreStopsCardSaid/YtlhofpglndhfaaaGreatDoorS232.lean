/- Joined texts. -/
import Derived.Test.YtlhofpglndhfaaaGreatDoorS201
import Derived.Test.YtlhofpglndhfaaaGreatDoorS224
import Derived.Test.YtlhofpglndhfaaaGreatDoorS228
import Derived.Test.YtlhofpglndhfaaaGreatDoorS229
import Derived.Test.YtlhofpglndhfaaaGreatDoorS230
import Derived.Test.YtlhofpglndhfaaaGreatDoorS231
set_option linter.unusedVariables false
set_option linter.unusedSimpArgs false
namespace Go.Proofs.YtlhofpglndhfaaaGreatDoor
open Go.RowKit
section
variable {α:Type}
inductive YieldN(C:Ctx)(y:Value)(encs:α→Array Value)(xs:List α)(ops:List Oper)(st:ASt)(pre:List α)(K:ASt→List α→Bool→Prop):Prop
 | mk (k:Nat) (o:Oper) (f:Operand) (args:Array Operand) (ats:Array TypeId) (rest:List Oper) (hd:ops.drop k=o::rest) (ho:o.op=.call {callee:=.value f,args:=args,argTypes:=ats}) (hg:o.guard=none)
   (hr:kX C.noH (bT C.noH) ops (ops.take k) 0 st λ st1=>∃ x vs stw σ,Weak st1 stw σ∧keepB C.fr σ stw.n=true∧Dr stw.h stw.n=true∧Nat.ble stw.n st.n=true∧evA C stw.t f=.v y∧IF (args.toList.map (evA C stw.t))=some vs∧encs x=vs.toArray∧pre++[x] <+: xs∧
    ∀ b:Bool,kX C.noH (bT C.noH) ops rest (k+1) ⟨zL stw.t o.dst (.v (.bool b)),stw.h,st.n⟩ (λ st2=>K st2 (pre++[x]) (!b))):YieldN C y encs xs ops st pre K
inductive LoopY(fr:Nat)(body:ASt→List α→(AEx→ASt→List α→Bool→Prop)→Prop)(st:ASt)(pre:List α)(Q:AEx→ASt→List α→Bool→Prop):Prop
 | mk (κ:Type) (S:κ→ASt) (pr:κ→List α) (G:κ→Prop) (μ:κ→Nat) (k0:κ) (σ:Nat→Nat) (hw:Weak st (S k0) σ) (hf:keepB fr σ (S k0).n=true) (hp:pr k0=pre) (h0:G k0)
   (round:∀ k,G k→body (S k) (pr k) (λ e st' p' s'=>match e with| .normal=>s'=false∧∃ k' σ',Weak st' (S k') σ'∧keepB fr σ' (S k').n=true∧pr k'=p'∧G k'∧μ k'<μ k|e=>Q e st' p' s')):LoopY fr body st pre Q
def codeY(C:Ctx)(y:Value)(encs:α→Array Value)(xs:List α):Code→ASt→List α→Bool→(AEx→ASt→List α→Bool→Prop)→Prop
 | .seq a b,st,pre,s,Q=>codeY C y encs xs a st pre s (λ e st' p' s'=>match e with| .normal=>codeY C y encs xs b st' p' s' Q|e=>Q e st' p' s')
 | .cond c a b,st,pre,s,Q=>match evA C st.t c with| .v (.bool t)=>Branch t (codeY C y encs xs a st pre s Q) (codeY C y encs xs b st pre s Q)|_=>False
 | .block id b,st,pre,s,Q=>codeY C y encs xs b st pre s (λ e st' p' s'=>match e with| .exit i=>(match Nat.beq i id with|true=>Q .normal st' p' s'|false=>Q (.exit i) st' p' s')|e=>Q e st' p' s')
 | .loop b,st,pre,s,Q=>s=false∧LoopY C.fr (λ st p Q=>codeY C y encs xs b st p false Q) st pre Q
 | .region id ops dr,st,pre,s,Q=>fZ C (bT C) (.region id ops dr) st (λ e st'=>Q e st' pre s)∨(dr=false∧s=false∧YieldN C y encs xs ops.toList st pre (λ st' p' s'=>Q .normal st' p' s'))
 |c,st,pre,s,Q=>fZ C (bT C) c st (λ e st'=>Q e st' pre s)
def vM(N:Nat):Code→Bool
 | .seq a b=>vM N a&&vM N b
 | .cond _ a b=>vM N a&&vM N b
 | .block _ b=>vM N b
 | .loop b=>vM N b
 |c=>oH N (λ _=>false) c
end
theorem NU{F:Fence}{n:Nat}{P:Program}{Q:Exit→Act→World→Prop}{a:Act}{w:World}{c:Code}(I:Nat→Act→World→Prop)(m:Nat)(h0:I m a w)
  (round:∀ m a w,I m a w→c.wpIn F n P (Exit.then (λ a' w'=>∃ m',m'<m∧I m' a' w') Q) a w):(Code.loop c).wpIn F n P Q a w:=by
 classical
 have least:∀ (n:Nat) (a:Act) (w:World),(∃ m,m≤n∧I m a w)→∃ m,I m a w∧∀ m',I m' a w→m≤m':=by
  intro n
  induction n with
  |zero=>rintro a w ⟨m,h1,h2⟩;exact⟨m,h2,λ m' _=>by omega⟩
  |succ n ih=>
   rintro a w ⟨m,h1,h2⟩;by_cases hc:∃ m',m'≤n∧I m' a w
   ·exact ih a w hc
   ·exact⟨m,h2,λ m' h'=>Nat.le_of_not_lt λ h=>hc ⟨m',by omega,h'⟩⟩
 have ex:∀ a w,(∃ m,I m a w)→∃ m,I m a w∧∀ m',I m' a w→m≤m':=λ a w ⟨m,h⟩=>least m a w ⟨m,aC _,h⟩
 let μ:Act→World→Nat:=λ a w=>if h:∃ m,I m a w then Classical.choose (ex a w h)else 0
 have hμ:∀ a w,(∃ m,I m a w)→I (μ a w) a w∧∀ m',I m' a w→μ a w≤m':=λ a w h=>by
  have e:μ a w=Classical.choose (ex a w h):=dif_pos h;rw[e];exact mX (ex a w h)
 refine wpIn_loop (λ a w=>∃ m,I m a w) μ ⟨m,h0⟩ λ a w h=>wpIn_mono (round (μ a w) a w (hμ a w h).1) ?_;intro e a' w' h';cases e<;>try exact h'
 obtain⟨m',h1,h2⟩:=h';exact⟨⟨m',h2⟩,bI ((hμ a' w' ⟨m',h2⟩).2 m' h2) h1⟩
section
variable {α:Type}{C:Ctx}{J:Bool→(Nat→Prop)→List α→World→Prop}{W:World}{xs:List α}{encs:α→Array Value}{N l:Nat}
def SYp(C:Ctx)(J:Bool→(Nat→Prop)→List α→World→Prop)(W:World)(xs:List α)(N:Nat)(st:ASt)(pre:List α)(s:Bool)(a:Act)(A:World):Prop:=
 ∃ CC S β,J s CC pre A∧pre <+: xs∧W.heap.size≤A.heap.size∧SimD C (Inv.any C.fr) {W with heap:= #[]} (λ _=>True) N (· <st.n) st.t st.h a A S β∧(∀ b,S b→ ¬ CC b)∧(∀ b,OwnB β b→ ¬ CC b∧W.heap.size≤b)
theorem SYp.step(hJ:∀ s C pre A B,J s C pre A→Same (λ b=>b<W.heap.size∨C b) A B→J s C pre B)(hlt:∀ s C pre A,J s C pre A→∀ b,C b→b<A.heap.size)
  {CC:Nat→Prop} {pre:List α} {s:Bool} {w0:World} {S0:Nat→Prop} {D:Nat→Prop} {t:Nat→AV} {h:AH} {a:Act} {A A':World} {S S':Nat→Prop} {β β':Bt} {V:Inv C.fr}
  (j:J s CC pre A) (hp:pre <+: xs) (hs:W.heap.size≤A.heap.size) (k1:∀ b,S b→ ¬ CC b) (k2:∀ b,OwnB β b→ ¬ CC b∧W.heap.size≤b) (M:SimD C V w0 S0 N D t h a A S β) (P:FrP S A β C.fr S' A' β') (M':A'.os=A.os∧A'.tape=A.tape∧A'.output=A.output):
  J s CC pre A'∧W.heap.size≤A'.heap.size∧(∀ b,S' b→ ¬ CC b)∧(∀ b,OwnB β' b→ ¬ CC b∧W.heap.size≤b):=by
 refine⟨hJ s CC pre A A' j ⟨M'.1,M'.2.1,M'.2.2,P.sz,λ b hb hh=>P.still b hb λ ho=>hh.elim (λ h=>by have:=(k2 b ho).2;omega) (k2 b ho).1⟩,aL hs P.sz,λ b hb hc=>?_,λ b ⟨x,l,h1,h2⟩=>?_⟩
 ·rcases P.nw b hb with h|h|h
  ·exact k1 b h hc
  ·have:=hlt s CC pre A j b hc;omega
  ·exact (k2 b h).1 hc
 ·subst h2;rcases P.own x l h1 with h|h
  ·exact k2 _ h
  ·exact⟨λ hc=>by have:=hlt s CC pre A j _ hc;omega,aL hs h⟩
def aaP(C:Ctx)(J:Bool→(Nat→Prop)→List α→World→Prop)(W:World)(xs:List α)(N:Nat)(Q:AEx→ASt→List α→Bool→Prop)(e:Exit)(a:Act)(A:World):Prop:=∃ e' st pre s,e=FL e'∧Q e' st pre s∧SYp C J W xs N st pre s a A
theorem Lp(hC:CtxOk C)(hJ:∀ s C pre A B,J s C pre A→Same (λ b=>b<W.heap.size∨C b) A B→J s C pre B)(hlt:∀ s C pre A,J s C pre A→∀ b,C b→b<A.heap.size)
  (hY:∀ CC pre x A,J false CC pre A→pre++[x] <+: xs→YieldAt Fence.wide 1 C.P l (encs x) A λ e B=>∃ b,e=.returned (.bool b)∧∃ C',J (!b) C' (pre++[x]) B∧Same (λ b=> ¬ CC b) A B∧(∀ b,C' b→CC b∨A.heap.size≤b)):
  ∀ (c:Code),vM N c=true→∀ (st:ASt) (pre:List α) (s:Bool) (Q:AEx→ASt→List α→Bool→Prop),codeY C (.func (.yield l) #[] #[]) encs xs c st pre s Q→∀ (a:Act) (A:World),SYp C J W xs N st pre s a A→c.wpIn Fence.wide 2 C.P (aaP C J W xs N Q) a A:=by
 have base:∀ (c:Code),oH N (λ _=>false) c=true→∀ (st:ASt) (pre:List α) (s:Bool) (Q:AEx→ASt→List α→Bool→Prop),fZ C (bT C) c st (λ e st'=>Q e st' pre s)→∀ (a:Act) (A:World),SYp C J W xs N st pre s a A→c.wpIn Fence.wide 2 C.P (aaP C J W xs N Q) a A:=by
  rintro c hk st pre s Q hq a A ⟨CC,S,β,j,hp,hs,M,k1,k2⟩;refine wpIn_mono (Bi (V:=FD S A β C.fr) (DH C.P) hC c hk st _ hq a A S β (M.inv (AG _ _ _ _)) (tmk.refl _ _)) ?_;rintro e a' A' ⟨e',st',S',β',rfl,h1,M', -⟩;obtain⟨g1,g2,g3,g4⟩:=SYp.step hJ hlt j hp hs k1 k2 M M'.iv ⟨M'.B.os.trans M.B.os.symm,M'.B.tape.trans M.B.tape.symm,M'.B.output.trans M.B.output.symm⟩;exact⟨e',st',pre,s,rfl,h1,CC,S',β',g1,hp,g2,M'.inv trivial,g3,g4⟩
 intro c
 induction c with
 |seq x y ihx ihy=>
  intro hk st pre s Q hq a A M;simp only[vM,aH]at hk;refine wpIn_seq (wpIn_mono (ihx hk.1 st pre s _ hq a A M) ?_);rintro e a' w' ⟨e',st',p',s',rfl,h1,h2⟩
  cases e' with
  |normal=>exact ihy hk.2 st' p' s' Q h1 a' w' h2
  |exit i=>exact⟨.exit i,st',p',s',rfl,h1,h2⟩
  |ret=>exact⟨.ret,st',p',s',rfl,h1,h2⟩
 | cond c x y ihx ihy=>
  intro hk st pre s Q hq a A M;simp only[vM,aH]at hk;simp only[codeY]at hq;split at hq
  ·rename_i b hb;obtain⟨h1,h2⟩:=hq;have M0:=M;obtain⟨CC,S,β,j,hp,hs,M1,k1,k2⟩:=M0;have hv:=sK M1 c;rw[hb]at hv;exact wpIn_cond_split (lH hv) (λ ht=>ihx hk.1 st pre s Q (h1 ht) a A M) (λ hf=>ihy hk.2 st pre s Q (h2 hf) a A M)
  ·exact hq.elim
 | block id b ih=>
  intro hk st pre s Q hq a A M;refine wpIn_block (wpIn_mono (ih hk st pre s _ hq a A M) ?_);rintro e a' w' ⟨e',st',p',s',rfl,h1,h2⟩
  cases e' with
  |normal=>exact⟨.normal,st',p',s',rfl,h1,h2⟩
  |ret=>exact⟨.ret,st',p',s',rfl,h1,h2⟩
  | exit i=>
   show Exit.inBlock id _ (.exit i) a' w';simp only at h1;simp only[Exit.inBlock];by_cases hi:i=id
   ·subst hi;rw[if_pos rfl];rw[show Nat.beq i i=true from mY i]at h1;exact⟨.normal,st',p',s',rfl,h1,h2⟩
   ·rw[if_neg hi];have:Nat.beq i id=false:=by rw[←eO];exact λ e=>hi (aK e)
    rw[this]at h1
    exact⟨.exit i,st',p',s',rfl,h1,h2⟩
 | loop b ih=>
  intro hk st pre s Q hq a A M;obtain⟨rfl,hL⟩:=hq;obtain⟨κ,S,pr,G,μ,k0,σ,hw,hf,rfl,h0,round⟩:=hL;have weak:∀ {st st':ASt} {σ:Nat→Nat} {p:List α} {a:Act} {A:World},Weak st st' σ→keepB C.fr σ st'.n=true→SYp C J W xs N st p false a A→SYp C J W xs N st' p false a A:=by
   rintro st st' σ p a A hw hf ⟨CC,S,β,j,hp,hs,M1,k1,k2⟩;refine⟨CC,S,_,j,hp,hs,pJ hw hf M1,k1,λ b ⟨x,l,h1,h2⟩=>?_⟩;simp only at h1;split at h1
   ·exact k2 b ⟨_,l,h1,h2⟩
   ·cases h1
  refine NU (λ m a A=>∃ k,μ k=m∧G k∧SYp C J W xs N (S k) (pr k) false a A) (μ k0) ⟨k0,rfl,h0,weak hw hf M⟩ ?_;rintro m a A ⟨k,rfl,hG,M⟩;refine wpIn_mono (ih hk _ _ _ _ (round k hG) a A M) ?_;rintro e a' w' ⟨e',st',p',s',rfl,h1,h2⟩
  cases e' with
  |normal=>
   obtain⟨rfl,k',σ',g1,g2,rfl,g4,g5⟩:=h1
   exact⟨μ k',g5,k',rfl,g4,weak g1 g2 h2⟩
  |exit i=>exact⟨.exit i,st',p',s',rfl,h1,h2⟩
  |ret=>exact⟨.ret,st',p',s',rfl,h1,h2⟩
 | region id ops dr=>
  intro hk st pre s Q hq a A M;rcases hq with hq|⟨rfl,rfl,hq⟩
  ·exact base _ hk st pre s Q hq a A M
  obtain⟨k,o,f,args,ats,rest,hd,ho,hg,hr⟩:=hq;obtain⟨CC,S,β,j,hp,hs,M,k1,k2⟩:=M;obtain⟨t,h,n⟩:=st;simp only[vM,oH,aH]at hk;have hko:ops.toList[k]?=some o:=by
   have:(ops.toList.drop k)[0]?=some o:=by rw[hd];rfl
   simpa using this
  have hoj:ops[k]?=some o:=by rw[←hko,bF]
  have hklt:k<ops.toList.length:=(DK.1 hko).1;have hsz:ops.size=k+(1+rest.length):=by
   have:=congrArg List.length hd;simp at this;simp at hklt;omega
  have hrest:ops.toList.drop (k+1)=rest++[]:=by rw[←kV,hd];simp
  have htk:(ops.toList.take k).length=k:=by simp at hklt⊢;omega
  have hrange:List.range ops.size=List.range' 0 (ops.toList.take k).length++(k::(List.range' (k+1) rest.length++[])):=by
   rw[nZ,hsz,htk,dZ, ←List.range'_append_1,bR,iF 1,nX]
  refine wpIn_region ?_;rw[hrange];refine Bj (C:=C.noH) (V:=FD S A β C.fr) (kp:=λ _=>false) (a0:=a) (DH C.P) hC.noH (λ _ _ _ _ _ h=>h) rfl hk.1 hk.2 _ (ops.toList.take k) 0 t h a A S β ⟨ops.toList.drop k,by simp⟩ hr ((M.inv (AG _ _ _ _)).noH) (tmk.refl _ _) ?_;rintro st1 a1 A1 S1 β0 ⟨x,vs,stw,σ,hW,hkp,hfull,hnn,hf,hvs,henc,hpx,hb⟩ M0 -;obtain⟨g1,g2,g3,g4⟩:=SYp.step hJ hlt j hp hs k1 k2 M M0.iv ⟨M0.B.os.trans M.B.os.symm,M0.B.tape.trans M.B.tape.symm,M0.B.output.trans M.B.output.symm⟩;have M1:=pJ (C:=C.noH) hW hkp M0;have hfl:=tV hfull;have hnn:=aP hnn;have g5:∀ b,OwnB (λ s=>if s<stw.n then β0 (σ s)else none) b→ ¬ CC b∧W.heap.size≤b∧b<A1.heap.size:=by
   rintro b ⟨y,l,h1,h2⟩;subst h2;obtain⟨blk,hblk⟩:=Dv.1 (hfl y (M1.dom y l h1));obtain⟨l',cs,e,fr,q1,q2, -⟩:=M1.H.own y blk hblk;simp only at h1 q1;rw[h1]at q1;cases q1;split at h1
   ·exact⟨(g4 _ ⟨_,l,h1,rfl⟩).1,(g4 _ ⟨_,l,h1,rfl⟩).2,fP q2⟩
   ·cases h1
  generalize (λ s=>if s<stw.n then β0 (σ s)else none)=β1 at M1 g5;have hfe:a1.eval f=.func (.yield l) #[] #[]:=by
   have:=sK M1 f;rw[show evA C.noH stw.t f=evA C stw.t f from rfl,hf]at this;exact lH this
  have hargs:args.map a1.eval=encs x:=by
   rw[henc];have hrl:RepL S1 A1 β1 (args.toList.map (evA C.noH stw.t)) (args.toList.map a1.eval):=⟨by simp,λ i y u p q=>by
    rw[aZ]at p q
    cases hi:args.toList[i]? with
    |none=>rw[hi]at p;cases p
    |some z=>rw[hi]at p q;cases p;cases q;exact sK M1 z⟩
   have:=Ks (show IF (args.toList.map (evA C.noH stw.t))=some vs from hvs) hrl;rw[←this];apply Array.ext';simp
  have hY1:=hY CC pre x A1 g1 hpx;refine Ip hoj hg (Lt (DH C.P) ho hfe hargs hY1 ?_);rintro b B ⟨C',j',hsame,hgrow⟩;have M2:SimD C.noH (FD S1 B β1 C.fr) {W with heap:= #[]} (λ _=>True) N (· <stw.n) stw.t stw.h a1 B S1 β1:=
   (M1.inv (V':=Inv.any C.noH.fr) trivial).move (λ b hb=>hsame.block b (M1.H.lt b hb) (g3 b hb)) (λ s l o q1 q2=>(hsame.block _ (fP q2) (g5 _ ⟨s,l,q1,rfl⟩).1).trans q2) hsame.os hsame.tape hsame.output hsame.size (λ b hb=>absurd hb (dT _)) (AG _ _ _ _)
  have hslot:=vV hk.1 (aB hko);have M3:SimD C.noH (FD S1 B β1 C.fr) {W with heap:= #[]} (λ _=>True) N (· <n+(k+1)) (zL stw.t o.dst (.v (.bool b))) stw.h (a1.put o.dst (.bool b)) B S1 β1:=by
   refine⟨OH a1 M2.T (.v _) (λ k hk=>by rw[M2.sz];exact hslot k hk),M2.H,M2.B,λ y l hy=>(by have:y<stw.n:=M2.dom y l hy;simp only at hnn;show y<n+(k+1);omega),?_,?_,M2.G,M2.nw,M2.iv⟩
   ·cases o.dst<;>exact M2.df
   ·cases o.dst with
    |none=>exact M2.sz
    |some k=>simp only[Act.put,jC];exact M2.sz
  refine Bj (C:=C.noH) (V:=FD S1 B β1 C.fr) (kp:=λ _=>false) (a0:=a1.put o.dst (.bool b)) (DH C.P) hC.noH (λ _ _ _ _ _ h=>h) rfl hk.1 hk.2 [] rest (k+1) _ _ _ B S1 β1 ⟨[],hrest⟩ (hb b) M3 (tmk.refl _ _) ?_;rintro st2 a2 A2 S2 β2 hK M4 -;obtain⟨f1,f2,f3,f4⟩:=SYp.step (CC:=C') hJ hlt j' hpx (aL g2 hsame.size) (λ b hb hc=>(hgrow b hc).elim (g3 b hb) (λ h=>by have:=M1.H.lt b hb;omega)) (λ b hb=>⟨λ hc=>(hgrow b hc).elim (g5 b hb).1 (λ h=>by have:=(g5 b hb).2.2;omega),(g5 b hb).2.1⟩) M3.ofNoH M4.iv ⟨M4.B.os.trans M3.B.os.symm,M4.B.tape.trans M3.B.tape.symm,M4.B.output.trans M3.B.output.symm⟩
  exact⟨.normal,st2,_,_,rfl,hK,C',S2,β2,f1,hpx,f2,M4.ofNoH.inv trivial,f3,f4⟩
 |_=>intro hk st pre s Q hq;exact base _ hk st pre s Q hq
end
theorem Tp.intro{α:Type}{C:Ctx}(hC:CtxOk C){g:FuncId}{fn:Func}{body:Code}{caps:List AV}{encs:α→Array Value}{xs:List α}(hf:C.P.funcs[g]?=some fn)(hb:fn.body=some body)(hres:fn.results.toList=[])
  (hN:vM fn.ntmps body=true) (hlen:Nat.ble (caps.length+1) fn.ntmps=true)
  (hw:∀ y,codeY C y encs xs body ⟨argsT (.v y::caps),λ _=>none,0⟩ [] false (λ e _ pre s=>match e with| .exit _=>False|_=>s=false→pre=xs)) (hdf:C.df=[]:=by rfl):Tp C g caps encs xs:=by
 intro R w us hRlt hG hus l J C0 W hRW hdis hJ hJlt hY h0;have hlen:=aP hlen;have same:∀ b,R b→W.heap[b]?=w.heap[b]? :=λ b hb=>hRW.block b (hRlt b hb) hb;refine callsIn_wide.1 (callsIn_of_wp_marks (n:=2) hf hb trivial ?_);have hul:us.length=caps.length:=hus.1.symm;have M0:SYp C J W xs fn.ntmps ⟨argsT (.v (.func (.yield l) #[] #[])::caps),λ _=>none,0⟩ [] false {tmps:=(#[Value.func (.yield l) #[] #[]]++us.toArray)++Array.replicate (fn.ntmps - (#[Value.func (.yield l) #[] #[]]++us.toArray).size) undef,defers:=[]} W:=by
  refine⟨C0,R,noB,h0,List.nil_prefix,aC _,⟨λ i=>?_,⟨λ s blk h=>(by cases h),λ s s' l l' h=>absurd rfl h,λ b hb=>Nat.lt_of_lt_of_le (hRlt b hb) hRW.size,aD _⟩,⟨rfl,rfl,rfl,aD _,λ b hb=>by simp at hb⟩,λ x l h=>(by cases h),hdf.symm,?_,λ g cells hg=>yV (hG g cells hg) (λ _ h=>h) same (λ s l _ _ _ e=>by cases e),λ _ _=>.inl trivial,trivial⟩,hdis,λ b ⟨x,l,h1,_⟩=>by cases h1⟩
  ·show Rep R W noB (argsT (.v (.func (.yield l) #[] #[])::caps) i) (Array.getD _ i undef);rw[zH,aI]
   cases i with
   |zero=>
    rw[dN (by simp),dN (by simp)]
    exact .v _
   | succ i=>
    rw[dC]
    cases ha:caps[i]? with
    |none=>exact .any _
    |some x=>
     have hi:i<us.length:=by rw[hul];exact (DK.1 ha).1
     have hv:us[i]?=some us[i]:=aA hi;rw[dN (by simp;omega),Array.getElem?_append_right (by simp)];simp only[kH,bJ,cR,gL,dY,hv,gK];exact yV (hus.2 i x _ ha hv) (λ _ h=>h) same (λ s l _ _ _ e=>by cases e)
  ·simp;omega
 refine wpIn_mono (Lp hC hJ hJlt hY body hN _ _ _ _ (hw _) _ W M0) ?_;rintro e a' A ⟨e',st,pre,s,rfl,hq,CC,S,β,j,hp,hs,M,k1,k2⟩;have fin:(s=false→pre=xs)→LeavesInM Fence.wide 2 C.P fn a'.tmps (λ e W'=>(∃ v,e=.returned v)∧((∃ C,J false C xs W')∨∃ C pre,pre <+: xs∧J true C pre W')) a'.defers .returning A:=by
  intro hq;rw[M.df,hdf];refine⟨_,xY [] [] rfl fn hres,⟨_,rfl⟩,?_⟩
  cases s with
  |false=>obtain rfl:=hq rfl;exact .inl ⟨CC,j⟩
  |true=>exact .inr ⟨CC,pre,hp,j⟩
 cases e' with
 |normal=>exact fin hq
 |ret=>exact fin hq
 |exit i=>exact hq.elim
theorem CtxOk.wd{C:Ctx}(h:CtxOk C)(d:Option Nat):CtxOk (C.wd d):=⟨h.ty,h.mixed,h.hH⟩
def UH:Code→Bool
 | .seq _ _=>false
 | .cond _ _ _=>false
 | .block _ _=>false
 | .scope _=>false
 | .loop _=>false
 | .rangeFunc _ _ _ _=>false
 |_=>true
section
variable {C:Ctx}{d:Option Nat}{Q:Option Nat→AEx→ASt→Prop}{t:Nat→AV}{h:AH}{n:Nat}
theorem zG{a b:Code}{st:ASt}(k:vP C a d st (λ d' e st'=>match e with| .normal=>vP C b d' st' Q|e=>Q d' e st')):vP C (.seq a b) d st Q:=k
theorem UI{c:Operand}{a b:Code}{v:Bool}(hv:evA C t c=.v (.bool v))(k1:v=true→vP C a d ⟨t,h,n⟩ Q)(k2:v=false→vP C b d ⟨t,h,n⟩ Q):vP C (.cond c a b) d ⟨t,h,n⟩ Q:=by
 simp only[vP,hv];exact .mk k1 k2
theorem Lq{id:Nat}{b:Code}{st:ASt}(k:vP C b d st (λ d' e st'=>match e with| .exit i=>(match Nat.beq i id with|true=>Q d' .normal st'|false=>Q d' (.exit i) st')|e=>Q d' e st')):vP C (.block id b) d st Q:=k
theorem Wz{b:Code}{st:ASt}(k:vP C b d st Q):vP C (.scope b) d st Q:=k
theorem yU{c:Code}{st:ASt}(hc:UH c=true)(k:fZ (C.wd d) (bT (C.wd d)) c st (Q d)):vP C c d st Q:=by
 cases c<;>first|exact k|cases hc
theorem YB{b:Code}{st:ASt}(k:fZ (C.wd d) (bT (C.wd d)) (.loop b) st (Q d)):vP C (.loop b) d st Q:=k
theorem QH{g:Operand}{ps:Array Tmp}{a b:Code}{st:ASt}(k:GhostN st λ stg=>∃ stw σ,Weak stg stw σ∧keepB C.fr σ stw.n=true∧RangeN C stw g ps.toList a b (λ e st'=>∀ D,Q (some D) e st')):vP C (.rangeFunc g ps a b) none st Q:=⟨rfl,k⟩
end
theorem YC{C:Ctx}{R:FuncId→List AV→AV→Prop}{Q:AEx→ASt→Prop}{l:Nat}{st:ASt}(k:Q .normal st):fZ C R (.label l) st Q:=k
section
variable {α:Type}{C:Ctx}{y:Value}{encs:α→Array Value}{xs pre:List α}{s:Bool}{Q:AEx→ASt→List α→Bool→Prop}{t:Nat→AV}{h:AH}{n:Nat}
theorem vQ{a b:Code}{st:ASt}(k:codeY C y encs xs a st pre s (λ e st' p' s'=>match e with| .normal=>codeY C y encs xs b st' p' s' Q|e=>Q e st' p' s')):codeY C y encs xs (.seq a b) st pre s Q:=k
theorem EK{c:Operand}{a b:Code}{v:Bool}(hv:evA C t c=.v (.bool v))(k1:v=true→codeY C y encs xs a ⟨t,h,n⟩ pre s Q)(k2:v=false→codeY C y encs xs b ⟨t,h,n⟩ pre s Q):codeY C y encs xs (.cond c a b) ⟨t,h,n⟩ pre s Q:=by
 simp only[codeY,hv];exact .mk k1 k2
theorem CH{id:Nat}{b:Code}{st:ASt}(k:codeY C y encs xs b st pre s (λ e st' p' s'=>match e with| .exit i=>(match Nat.beq i id with|true=>Q .normal st' p' s'|false=>Q (.exit i) st' p' s')|e=>Q e st' p' s')):codeY C y encs xs (.block id b) st pre s Q:=k
theorem sB{c:Code}{st:ASt}(hc:UH c=true)(k:fZ C (bT C) c st (λ e st'=>Q e st' pre s)):codeY C y encs xs c st pre s Q:=by
 cases c<;>first|exact Or.inl k|exact k|cases hc
theorem QI{b:Code}{st:ASt}{κ:Type}(S:κ→ASt)(pr:κ→List α)(G:κ→Prop)(μ:κ→Nat)(k0:κ)(σ:Nat→Nat)(hw:Weak st (S k0) σ)(hf:keepB C.fr σ (S k0).n=true)(hp:pr k0=pre)(h0:G k0)
  (round:∀ k,G k→codeY C y encs xs b (S k) (pr k) false (λ e st' p' s'=>match e with| .normal=>s'=false∧∃ k' σ',Weak st' (S k') σ'∧keepB C.fr σ' (S k').n=true∧pr k'=p'∧G k'∧μ k'<μ k|e=>Q e st' p' s')):codeY C y encs xs (.loop b) st pre false Q:=
 ⟨rfl,.mk κ S pr G μ k0 σ hw hf hp h0 round⟩
theorem QJ{id:Nat}{ops:Array Oper}{l:List Oper}{st:ASt}(hl:ops.toList=l)(k:Nat){o:Oper}{f:Operand}{args:Array Operand}{ats:Array TypeId}{rest:List Oper}(hd:l.drop k=o::rest)(ho:o.op=.call {callee:=.value f,args:=args,argTypes:=ats})(hg:o.guard=none)
  (hr:kX C.noH (bT C.noH) l (l.take k) 0 st λ st1=>∃ x vs stw σ,Weak st1 stw σ∧keepB C.fr σ stw.n=true∧Dr stw.h stw.n=true∧Nat.ble stw.n st.n=true∧evA C stw.t f=.v y∧IF (args.toList.map (evA C stw.t))=some vs∧encs x=vs.toArray∧pre++[x] <+: xs∧
    ∀ b:Bool,kX C.noH (bT C.noH) l rest (k+1) ⟨zL stw.t o.dst (.v (.bool b)),stw.h,st.n⟩ (λ st2=>Q .normal st2 (pre++[x]) (!b))):codeY C y encs xs (.region id ops false) st pre false Q:=by
 subst hl;exact .inr ⟨rfl,rfl,.mk k o f args ats rest hd ho hg hr⟩
end
set_option maxRecDepth 100000
set_option maxHeartbeats 4000000
def unV:AV→Value
 | .v x=>x
 |_=>undef
def aaY(e:Ent):Value:=.agg ((enL e).map unV).toArray
def XZ(x:Nat×Ent):Array Value:= #[.int .i64 (x.1:Int),aaY x.2]
def zD(rob:List Ent):Nat→List (Nat×Ent)
 |0=>[]
 |n+1=>match rob[n]? with|some e=>(n,e)::zD rob n|none=>zD rob n
theorem Jw{rob:List Ent}:∀ {n:Nat},n≤rob.length→(zD rob n).length=n
 |0,_=>rfl
 |n+1,h=>by
  have e:rob[n]?=some rob[n]:=aA h;simp only[zD,e,bJ,Jw (mP h)]
theorem Mk{rob:List Ent}:∀ {n k:Nat} {x:Ent},n≤rob.length→0<k→k≤n→rob[k - 1]?=some x→(zD rob n)[n - k]?=some (k - 1,x)
 |0,k,x,_,h1,h2,_=>by omega
 | n+1,k,x,h,h1,h2,hx=>by
  have e:rob[n]?=some rob[n]:=aA h;simp only[zD,e];by_cases hk:k=n+1
  ·subst hk;rw[gL,e]at hx;cases hx
   simp
  ·rw[show n+1 - k=(n - k)+1 by omega,dC];exact Mk (mP h) h1 omT hx
theorem Aa{rob:List Ent}:∀ {n:Nat} {x:Nat×Ent},x∈zD rob n→x.1<n∧rob[x.1]?=some x.2
 |0,x,h=>by cases h
 | n+1,x,h=>by
  simp only[zD]at h;split at h
  ·rename_i e he;rcases al_List_mem_cons.1 h with rfl|h
   ·exact⟨Nat.lt_succ_self _,he⟩
   ·exact⟨mO (Aa h).1,(Aa h).2⟩
  ·exact⟨mO (Aa h).1,(Aa h).2⟩
def HD(rob:List Ent)(n k:Nat):List (Nat×Ent):=(zD rob n).take (n - k)
theorem Gk{rob:List Ent}{n k:Nat}{x:Ent}(hn:n≤rob.length)(h1:0<k)(h2:k≤n)(hx:rob[k - 1]?=some x):HD rob n (k - 1)=HD rob n k++[(k - 1,x)]:=by
 unfold HD;rw[show n - (k - 1)=(n - k)+1 by omega,bV,Mk hn h1 h2 hx];rfl
theorem PI{rob:List Ent}{n k:Nat}:HD rob n k <+: zD rob n:=List.take_prefix _ _
theorem PJ{rob:List Ent}{n:Nat}(hn:n≤rob.length):HD rob n 0=zD rob n:=by
 unfold HD;rw[Nat.sub_zero];exact aM (Nat.le_of_eq (Jw hn))
theorem KY{rob:List Ent}{n:Nat}:HD rob n n=[]:=by
 unfold HD;rw[jB];rfl
theorem Zw(rob:List Ent)(ck:Bool)(i:Nat)(hl:rob.length≤1000)(ho:∀ x∈rob,x.ok)(hi:i≤1000):Tp C0 217 [.dp 1 0 ([vN i]),.dp 1 0 ([.sl 17 (rob.map enL) ck])] XZ (zD rob (min i rob.length)):=by
 refine Tp.intro c0Ok Tryz.func217 rfl rfl (by kernel_rfl) rfl ?_;intro y;refine vQ<|sB rfl<|cRg<|oR 2 rfl<|rW (vN rob.length) rfl (cG enL rob)<|rW (vN (min i rob.length)) rfl (Cb i rob.length)<|oR 1 rfl<|rE 5<|CH<|QI (κ:=Nat) (λ k=>⟨slotsF [(0,.v y),(1,.dp 1 0 ([vN i])),(2,.dp 1 0 ([.sl 17 (rob.map enL) ck])),(4,vN k)],heapF [],5⟩) (λ k=>HD rob (min i rob.length) k) (λ k=>k≤min i rob.length) (λ k=>k) (min i rob.length) (λ s=>s) (Weak.of_lists (λ s=>s) wT trivial rfl) rfl (KY) (aC _) ?_;intro k hk;have hkB:k≤1000:=by have:k≤min i rob.length:=hk;omega
 refine vQ<|vQ<|sB rfl<|cRg<|oR 1 rfl<|rW (vB (decide (k>0))) rfl (okB (gtN _ _))<|rE 7<|EK (v:=decide (k>0)) rfl (λ h1=>?_) (λ h1=>?_)
 ·have h1p:=of_decide_eq_true h1;refine sB rfl<|bB<|vQ<|CH<|vQ<|QJ rfl 8 rfl rfl rfl<|oR 2 rfl ?_;have b1:k - 1≤1000:=aL (jT _ _) hkB;refine rW (vN (k - 1)) rfl (okI (CZ omT hkB rfl))<|oR 2 rfl ?_;have b2:k - 1≤1000:=aL (jT _ _) hkB;refine rW (vN (k - 1)) rfl (okI (CZ omT hkB rfl)) ?_;obtain⟨x,hx⟩:∃ y_,rob[(k - 1)]?=some y_:=⟨_,aA omT⟩;have hxo:=ho x (aB hx);refine rIx (enL x) (.dp 17 0 (enL x)) rfl rfl (jH hx) rfl<|oR 1 rfl<|rE 15 ?_;refine⟨(k - 1,x),_,⟨slotsF [(0,.v y),(1,.dp 1 0 ([vN i])),(2,.dp 1 0 ([.sl 17 (rob.map enL) ck])),(4,vN k),(13,.v y),(15,vN (k - 1)),(20,.agg (enL x))],heapF [],0⟩,λ s=>s,Weak.of_lists _ wT trivial rfl,rfl,rfl,rfl,rfl,rfl,rfl,(by rw[←Gk (fC _ _) h1p hk hx];exact PI),λ yb1=>?_⟩;refine oR 1 rfl<|rE 17<|EK (v:= !yb1) rfl (λ h2=>?_) (λ h2=>?_)
  ·refine sB rfl<|cO ?_;intro hs;rw[h2]at hs;cases hs
  ·refine sB rfl<|bB<|sB rfl<|cRg<|oR 1 rfl ?_;have b3:k - 1≤1000:=aL (jT _ _) hkB;refine rW (vN (k - 1)) rfl (okI (CZ omT hkB rfl))<|oR 1 rfl<|rE 20 ?_;refine⟨h2,k - 1,λ s=>s,Weak.of_lists _ wT trivial rfl,rfl,(Gk (fC _ _) h1p hk hx),(by show k - 1≤min i rob.length;omega),(by show k - 1<k;omega)⟩
 ·have h1p:=aE h1;refine sB rfl<|eP ?_;intro _;obtain rfl:k=0:=by omega
  exact PJ (fC _ _)
theorem CU{rob:List Ent}{reg:Int}:∀ {n:Nat},n≤rob.length→(∀ y,y∈zD rob n→ ¬ wr y.2.i=reg)→Ai rob reg n=none
 |0,_,_=>rfl
 |n+1,h,hN=>by
  have e:rob[n]?=some rob[n]:=aA h;simp only[zD,e]at hN;have h0: ¬ wr rob[n].i=reg:=hN (n,rob[n]) al_List_mem_cons_self;simp only[Ai,Le,e];rw[if_neg (by simpa using h0)];exact CU (mP h) λ y hy=>hN y (bE _ hy)
theorem CV{rob:List Ent}{reg:Int}:∀ {n:Nat} {pre:List (Nat×Ent)} {x:Nat×Ent},n≤rob.length→pre++[x] <+: zD rob n→(∀ y,y∈pre→ ¬ wr y.2.i=reg)→wr x.2.i=reg→Ai rob reg n=some x.1
 |0,pre,x,_,h,_,_=>by have:=h.length_le;simp[zD]at this
 | n+1,pre,x,hn,h,hN,hx=>by
  have e:rob[n]?=some rob[n]:=aA hn;simp only[zD,e]at h;simp only[Ai,Le,e]
  cases pre with
  | nil=>
   obtain rfl:x=(n,rob[n]):=by
    obtain⟨t,ht⟩:=h;exact (List.cons.inj ht).1
   rw[if_pos (by simpa using hx)]
  |cons y l=>
   obtain⟨t,ht⟩:=h;obtain⟨h3,h4⟩:=List.cons.inj ht;subst h3;have h0: ¬ wr rob[n].i=reg:=hN (n,rob[n]) al_List_mem_cons_self;rw[if_neg (by simpa using h0)];exact CV (mP hn) ⟨t,h4⟩ (λ y hy=>hN y (bE _ hy)) hx
theorem Zx(rob:List Ent)(ck:Bool)(i:Nat)(hl:rob.length≤1000)(ho:∀ x∈rob,x.ok)(hi:i≤1000):bT C0 201 [.sl 17 (rob.map enL) ck,vN i] (.clo 217 [] [.dp 1 0 [vN i],.dp 1 0 [.sl 17 (rob.map enL) ck]]):=by
 refine bT.intro c0Ok Tryz.func201 rfl rfl (by kernel_rfl) rfl<|cSR<|rAl 0 rfl rfl<|rAl 1 rfl rfl<|oR 1 rfl<|rE 3<|cSR<|rV (.clo 217 [] [.ptr 1 0,.ptr 0 0]) rfl<|oR 1 rfl<|rE 5<|cO ?_;exact eQ rfl tvT rfl rfl
theorem PK(rob:List Ent)(ck:Bool)(i:Nat)(reg:Int)(hl:rob.length≤1000)(ho:∀ x∈rob,x.ok)(hi:i≤1000):bT C0 157 [.sl 17 (rob.map enL) ck,vN i,vI reg] (vI (Do (gZ rob i reg))):=by
 refine bT.introR (C:=C0) (λ d=>c0Ok.wd d) (λ n=>c0Ok.at) Tryz.func157 rfl rfl (by kernel_rfl) rfl<|zG<|yU rfl<|cRg<|rAl 0 rfl rfl<|rAl 1 rfl rfl<|rE 2<|zG<|zG<|yU rfl<|cRg<|oR 1 rfl<|rV (vB (decide (reg<1))) rfl<|oR 1 rfl<|gN rfl<|gBS (x:=vB (decide (reg>31))) rfl id rfl<|cS rfl rfl rfl (by simp)<|rE 8<|UI (v:=dE (decide (reg<1)) true (decide (reg>31))) rfl (λ h1=>?_) (λ h1=>?_)
 ·refine zG<|yU rfl<|cRg<|rSt rfl<|rE 9<|yU rfl<|cO ?_;have hb:(reg<1∨reg>31):=by have z:=h1;simp only[cOr]at z;grind
  have e:gZ rob i reg=none:=if_pos hb;rw[e];exact fT rfl rfl
 ·refine yU rfl<|bB<|zG<|zG<|yU rfl<|cRg<|oR 2 rfl<|rCi rfl (Zx rob ck i hl ho hi)<|rE 11<|Lq<|QH (.mk _ (.refl _) ⟨⟨slotsF [(5,.ptr 0 0),(6,.ptr 1 0),(17,.clo 217 [] [.dp 1 0 ([vN i]),.dp 1 0 ([.sl 17 (rob.map enL) ck])])],heapF [(0,.box [vI reg]),(1,.box [vI 0])],2⟩,λ s=>s,Weak.of_lists _ wT wH rfl,rfl,?_⟩);refine .mk (Nat×Ent) 217 [.dp 1 0 ([vN i]),.dp 1 0 ([.sl 17 (rob.map enL) ck])] (λ x:Nat×Ent=>[vN x.1,.agg (enL x.2)]) XZ (zD rob (min i rob.length)) (λ x:Nat×Ent=> ¬ wr x.2.i=reg) rfl rfl ⟨_,Tryz.func217,rfl,rfl⟩ (Zw rob ck i hl ho hi) (λ x S w β=>Dw (show IF [vN x.1,.agg (enL x.2)]=some _ from rfl)) (λ _=>rfl) rfl ?_ ?_
  ·intro pre_ x hp_ hN_;have hxm:=Aa (hp_.subset (List.mem_append_right _ (tW.2 rfl)));have hx1:x.1≤1000:=by have:=hxm.1;omega
   have hxo:=ho x.2 (aB hxm.2);refine cSR<|oR 1 rfl<|rE 3<|cRg<|rAl 3 rfl rfl<|rSt rfl<|rE 5 ?_;refine⟨rfl,?_⟩;refine bL<|cSR<|oR 2 rfl<|rCi rfl (Ig x.2.i)<|oR 1 rfl<|rV (vB ((wr x.2.i)==reg)) rfl<|rE 10<|aV rfl (λ h2=>?_) (λ h2=>?_)
   ·have h2p:=mC h2;refine cSR<|oR 1 rfl<|rSt rfl<|rE 12<|cO<|.mk _ (.refl _) ⟨heapF [(0,.box [vI reg]),(1,.box [vN x.1])],λ s=>s,rfl,Weak.of_lists (l:=[]) (hp:=[(0,.box [vI reg]),(1,.box [vN x.1])]) (λ s=>s) trivial wH rfl,?_⟩;intro D;have hb: ¬ (reg<1∨reg>31):=by have z:=h1;simp only[cOr]at z;grind
    have e:gZ rob i reg=some x.1:=(if_neg hb).trans (CV (fC _ _) hp_ hN_ (mC h2));rw[e];exact fT rfl rfl
   ·have h2p:=mD h2;refine bB ?_;exact⟨mD h2,.mk _ (.refl _) ⟨λ s=>s,rfl,Weak.of_lists (l:=[]) (hp:=[(0,.box [vI reg]),(1,.box [vI 0])]) (λ s=>s) trivial wH rfl⟩⟩
  ·intro hN D;refine zG<|yU rfl<|cRg<|rSt rfl<|rE 3<|yU rfl<|cO ?_;have hb: ¬ (reg<1∨reg>31):=by have z:=h1;simp only[cOr]at z;grind
   have e:gZ rob i reg=none:=(if_neg hb).trans (CU (fC _ _) hN);rw[e];exact fT rfl rfl
theorem Gj{rob:List Ent}{reg:Int}:∀ {n k:Nat},Ai rob reg n=some k→k<n
 |0,k,h=>by cases h
 |n+1,k,h=>by
  simp only[Ai]at h;split at h
  ·injection h with h;omega
  ·have:=Gj h;omega
theorem Et{rob:List Ent}{i k:Nat}{reg:Int}(h:gZ rob i reg=some k):k<i∧k<rob.length:=by
 unfold gZ at h;split at h
 ·cases h
 ·have:=Gj h;omega
theorem Mi{o:Option Nat}(h:Do o<0):o=none:=by cases o with|none=>rfl|some k=>exact absurd h (by show ¬ ((k:Int)<0);omega)
theorem HC{o:Option Nat}(h: ¬ Do o<0):∃ k,o=some k:=by cases o with|none=>exact absurd (by decide) h|some k=>exact⟨k,rfl⟩
theorem Jv(rob:List Ent)(r:Nat→Nat)(ck:Bool)(i:Nat)(reg:Int)(hl:rob.length≤1000)(ho:∀ x∈rob,x.ok)(hr:∀ k,r k≤4294967295)(hi:i≤1000):bT C0 101 [.sl 17 (rob.map enL) ck,.agg (Jy r),vN i,vI reg] (.tup [vU ((kY rob r i reg).getD 0),vB (kY rob r i reg).isSome]):=by
 refine bT.intro c0Ok Tryz.func101 rfl rfl (by kernel_rfl) rfl<|cSR<|rAl 0 rfl rfl<|oR 2 rfl<|rE 3<|bK<|cSR<|oR 1 rfl<|rV (vB (reg==0)) rfl<|rE 5<|aV rfl (λ h1=>?_) (λ h1=>?_)
 ·have h1p:=mC h1;refine cSR<|oR 2 rfl<|rE 7<|cO ?_;have hrd:kY rob r i reg=some 0:=by unfold kY;rw[if_pos h1p]
  exact fT rfl (by rw[hrd];rfl)
 ·have h1p:=mD h1;refine bB<|bK<|cSR<|oR 1 rfl<|rV (vB (decide (reg<0))) rfl<|oR 1 rfl<|gN rfl<|gBS (x:=vB (decide (reg>31))) rfl id rfl<|cS rfl rfl rfl (by simp)<|rE 11<|aV rfl (λ h2=>?_) (λ h2=>?_)
  ·have hb:(reg<0∨reg>31):=by have z:=h2;simp only[cOr]at z;grind
   refine cSR<|oR 2 rfl<|rE 13<|cO ?_;have hrd:kY rob r i reg=none:=by unfold kY;rw[if_neg h1p,if_pos hb]
   exact fT rfl (by rw[hrd];rfl)
  ·have hb: ¬ (reg<0∨reg>31):=by have z:=h2;simp only[cOr]at z;grind
   refine bB<|cSR<|oR 3 rfl<|rCi rfl (PK rob ck (i) (reg) hl ho omT)<|oR 1 rfl<|rE 16<|bK<|cSR<|oR 1 rfl<|rV (vB (decide ((Do (gZ rob (i) (reg)))<0))) rfl<|rE 18<|aV rfl (λ h3=>?_) (λ h3=>?_)
   ·have h3p:=of_decide_eq_true h3;have hj:=Mi h3p;refine cSR<|oR 1 rfl<|nW (.ptr 0 (0+reg.toNat * 1)) rfl rfl omT<|rW (vU (r reg.toNat)) rfl (ldL r reg.toNat omT)<|oR 2 rfl<|rE 23<|cO ?_;have hrd:kY rob r i reg=some (r reg.toNat):=by unfold kY;rw[if_neg h1p,if_neg hb,hj]
    exact fT rfl (by rw[hrd];rfl)
   ·have h3p:=aE h3;obtain⟨j,hj⟩:=HC h3p;have hjl:=Et hj;obtain⟨x,hx⟩:∃ x,rob[j]?=some x:=⟨_,aA hjl.2⟩;refine bB<|bK<|cSR<|oR 2 rfl<|CP (enL x) (x:=.dp 17 0 (enL x)) rfl rfl rfl (by rw[hj];exact⟨aF _,jH hx⟩) rfl<|oR 1 rfl<|rAl 22 rfl rfl<|rSt rfl<|rE 24<|cSR<|oR 2 rfl<|rV (vB (x.is==3)) rfl<|oR 1 rfl<|gN rfl<|gS rfl id<|gBS (x:=vB (x.halt==0)) rfl id rfl<|cS rfl rfl rfl (λ h=>h)<|rE 32<|aV rfl (λ h4=>?_) (λ h4=>?_)
    ·refine cSR<|oR 4 rfl<|rE 36<|cO ?_;have hd:(x.is=3∧x.halt=0):=by have z:=h4;simp only[qA]at z;grind
     have hrd:kY rob r i reg=some x.value:=by unfold kY;rw[if_neg h1p,if_neg hb,hj];simp only[hx];exact if_pos hd
     exact fT rfl (by rw[hrd];rfl)
    ·refine bB<|cSR<|oR 2 rfl<|rE 34<|cO ?_;have hd: ¬ (x.is=3∧x.halt=0):=by have z:=h4;simp only[qA]at z;grind
     have hrd:kY rob r i reg=none:=by unfold kY;rw[if_neg h1p,if_neg hb,hj];simp only[hx];exact if_neg hd
     exact fT rfl (by rw[hrd];rfl)
theorem BN{rob:List Ent}{r:Nat→Nat}(ho:∀ x∈rob,x.ok)(hr:∀ k,r k≤4294967295)(i:Nat)(reg:Int):(kY rob r i reg).getD 0≤4294967295:=by
 unfold kY;split
 ·exact aD _
 ·split
  ·exact aD _
  ·split
   ·exact hr _
   ·split
    ·rename_i e he;split
     ·exact (ho e (aB he)).value
     ·exact aD _
    ·exact aD _
theorem Ux(rob:List Ent)(r:Nat→Nat)(ck:Bool)(i:Nat)(hl:rob.length≤1000)(ho:∀ x∈rob,x.ok)(hr:∀ k,r k≤4294967295)(hi:i≤1000):bT C0 164 [.sl 17 (rob.map enL) ck,.agg (Jy r),vN i] (.tup [vU (lI rob r i).1,vU (lI rob r i).2.1,vB (lI rob r i).2.2]):=by
 refine bT.intro c0Ok Tryz.func164 rfl rfl (by kernel_rfl) rfl<|cSR<|rAl 0 rfl rfl<|oR 3 rfl<|rE 4<|bK<|cSR<|oR 1 rfl<|rW (vB (decide (i<0))) rfl (okB (ltN _ _))<|oR 1 rfl<|gN rfl<|gN rfl<|gBS (x:=vN rob.length) rfl id (cG enL rob)<|gBS (x:=vB (decide (i≥rob.length))) rfl hsT (okB (geN _ _))<|cS rfl rfl rfl (by simp)<|rE 12<|aV rfl (λ h1=>?_) (λ h1=>?_)
 ·have hb:(i≥rob.length):=by have z:=h1;simp only[cOr]at z;grind
  refine cSR<|oR 3 rfl<|rE 15<|cO ?_;have hn:rob[i]?=none:=bM omT;exact fT rfl (by rw[show lI rob r i=(0,0,false)from by unfold lI;rw[hn]];rfl)
 ·have hb: ¬ (i≥rob.length):=by have z:=h1;simp only[cOr]at z;grind
  refine bB<|cSR<|oR 2 rfl ?_;obtain⟨x,hx⟩:∃ y_,rob[i]?=some y_:=⟨_,aA omT⟩;have hxo:=ho x (aB hx);refine rIx (enL x) (.dp 17 0 (enL x)) rfl rfl (jH hx) rfl<|oR 2 rfl<|rCi rfl (Gy x.i)<|oR 5 rfl<|rE 23<|cSR<|oR 4 rfl<|rCi rfl (Jv rob r ck (i) (x.i.rs1) hl ho hr omT)<|oR 5 rfl<|rE 33<|cSR<|oR 4 rfl<|rCi rfl (Jv rob r ck (i) (x.i.rs2) hl ho hr omT)<|oR 5 rfl<|rE 43<|cSR<|oR 4 rfl<|gN rfl<|cS rfl rfl rfl (λ h=>h)<|oR 3 rfl<|rE 52<|cO ?_;exact fT rfl (by rw[show lI rob r i=((kY rob r i x.i.rs1).getD 0,(kY rob r i x.i.rs2).getD 0,(kY rob r i x.i.rs1).isSome&&(kY rob r i x.i.rs2).isSome)from by unfold lI;rw[hx]];simp only[←qA];rfl)
theorem Zv(e:Ent)(he:e.ok):bT C0 231 [.agg (enL e)] (vB (Lf e)):=by
 refine bT.intro c0Ok Tryz.func231 rfl rfl (by kernel_rfl) rfl<|cSR<|rAl 0 rfl rfl<|oR 1 rfl<|rE 2<|bK<|cSR<|oR 2 rfl<|rV (vB (e.halt != 0)) rfl<|rE 5<|aV rfl (λ h1=>?_) (λ h1=>?_)
 ·refine cSR<|oR 1 rfl<|rE 6<|cO ?_;replace h1:=sP h1;exact fT rfl (dM (by unfold Lf;grind))
 ·refine bB<|bK<|cSR<|oR 2 rfl<|rCi rfl (qR e.i)<|rE 8<|bL<|cSR<|rW (vB ((kindOf e.i.op)==6)) rfl (okB (eqN _ _))<|oR 1 rfl<|rE 10<|aV rfl (λ h2=>?_) (λ h2=>?_)
  ·refine cSR<|oR 1 rfl<|rE 11<|cO ?_;replace h1:=sP h1;replace h2:=sP h2;exact fT rfl (dM (by unfold Lf;grind))
  ·refine bK<|cSR<|rW (vB ((kindOf e.i.op)==3)) rfl (okB (eqN _ _))<|oR 1 rfl<|rE 12<|aV rfl (λ h3=>?_) (λ h3=>?_)
   ·refine bB<|aV rfl (λ _=>?_) (λ h4=>Bool.noConfusion (h3.symm.trans h4));refine cSR<|oR 3 rfl<|rE 15<|cO ?_;replace h1:=sP h1;replace h2:=sP h2;replace h3:=sP h3;exact fT rfl (dM (by unfold Lf;grind))
   ·refine cSR<|rW (vB ((kindOf e.i.op)==4)) rfl (okB (eqN _ _))<|oR 1 rfl<|rE 14<|aV rfl (λ h5=>?_) (λ h5=>?_)
    ·refine bB<|aV rfl (λ _=>?_) (λ h6=>Bool.noConfusion (h5.symm.trans h6));refine cSR<|oR 3 rfl<|rE 17<|cO ?_;replace h1:=sP h1;replace h2:=sP h2;replace h3:=sP h3;replace h5:=sP h5;exact fT rfl (dM (by unfold Lf;grind))
    ·refine cRg<|rW (vB ((kindOf e.i.op)==5)) rfl (okB (eqN _ _))<|oR 1 rfl<|rE 16<|aV rfl (λ h7=>?_) (λ h7=>?_)
     ·refine cSR<|oR 3 rfl<|rE 19<|cO ?_;replace h1:=sP h1;replace h2:=sP h2;replace h3:=sP h3;replace h5:=sP h5;replace h7:=sP h7;exact fT rfl (dM (by unfold Lf;grind))
     ·refine bB<|cSR<|oR 1 rfl<|rE 17<|cO ?_;replace h1:=sP h1;replace h2:=sP h2;replace h3:=sP h3;replace h5:=sP h5;replace h7:=sP h7;exact fT rfl (dM (by unfold Lf;grind))
theorem VQ{α:Type}{p:α→Bool}{l:List α}{k:Nat}{x:α}(hx:l[k]?=some x)(hp:p x=true)(h:∀ y∈l.take k,p y=false):l.findIdx p=k:=by
 have:=PM hx hp h;rw[List.findIdx?_eq_some_iff_findIdx_eq]at this;exact this.2
theorem VR{α:Type}{p:α→Bool}{l:List α}{k:Nat}(hk:l.length≤k)(h:∀ y∈l.take k,p y=false):l.findIdx p=l.length:=by
 rw[aM hk]at h;exact List.findIdx_eq_length.2 h
theorem PG(rob:List Ent)(ck:Bool)(hl:rob.length≤1000)(ho:∀ x∈rob,x.ok):bT C0 219 [.sl 17 (rob.map enL) ck] (vN (BW rob)):=by
 refine dc1 (bT.intro c1Ok Tryz.func219 rfl rfl (by kernel_rfl) rfl ?_);refine cSR<|oR 1 rfl<|rE 1<|bK<|cSR<|oR 1 rfl<|rW (vN rob.length) rfl (cG enL rob)<|oR 1 rfl<|rE 4<|bL<|oE (κ:=Nat) (λ k=>⟨slotsF [(0,.sl 17 (rob.map enL) ck),(5,.sl 17 (rob.map enL) ck),(6,vN rob.length),(7,vN k)],heapF [],4⟩) (λ k=>k≤rob.length∧∀ y∈rob.take k,(!Lf y)=false) (λ k=>rob.length - k) 0 (λ s=>s) (Weak.of_lists (λ s=>s) wT trivial rfl) (⟨aD _,PN⟩) ?_;intro k hk;have hkn:k≤rob.length:=hk.1;have hkB:k≤1000000:=by omega
 refine cSR<|rW (vB (decide (k<rob.length))) rfl (okB (ltN _ _))<|rE 5<|bK<|aV rfl (λ h1=>?_) (λ h1=>?_)
 ·have h1p:=of_decide_eq_true h1;refine bB<|bK<|bL<|cSR<|oR 1 rfl ?_;obtain⟨x,hx⟩:∃ y_,rob[k]?=some y_:=⟨_,aA omT⟩;have hxo:=ho x (aB hx);refine rIx (enL x) (.dp 17 0 (enL x)) rfl rfl (jH hx) rfl<|oR 1 rfl<|rAl 8 rfl rfl<|oR 1 rfl<|rSt rfl<|rE 11<|cSR<|oR 1 rfl<|rCi rfl (Zv x hxo)<|oR 1 rfl<|rE 14<|aV rfl (λ h2=>?_) (λ h2=>?_)
  ·refine cSR<|oR 2 rfl<|rE 16<|cO ?_;exact fT rfl (YZ (by unfold BW;rw[VQ hx (by simpa using h2) hk.2]))
  ·refine bB<|cRg ?_;have b1:k+1≤1000001:=aG hkB (aC 1);refine rW (vN (k+1)) rfl (okI (bU b1 rfl))<|oR 1 rfl<|rE 16 ?_;refine⟨k+1,λ s=>s,Weak.of_lists _ wT trivial rfl,⟨by omega,PL hx (by simpa using h2) hk.2⟩,by show rob.length - (k+1)<rob.length - k;omega⟩
 ·have h1p:=aE h1;refine eP<|cSR<|oR 1 rfl<|rW (vN rob.length) rfl (cG enL rob)<|oR 1 rfl<|rE 8<|cO ?_;exact fT rfl (YZ (by unfold BW;rw[VR omT hk.2]))
theorem Mj(rob:List Ent)(ck:Bool)(i:Nat)(hl:rob.length≤1000)(ho:∀ x∈rob,x.ok)(hi:i≤1000):bT C0 206 [.sl 17 (rob.map enL) ck,vN i] (vB (uJ rob i)):=by
 refine bT.intro c0Ok Tryz.func206 rfl rfl (by kernel_rfl) rfl<|cSR<|oR 1 rfl<|rE 1<|cSR<|oR 1 rfl<|rW (vB (decide (i≥0))) rfl (okB (geN _ _))<|oR 1 rfl<|gN rfl<|gN rfl<|gBS (x:=vN rob.length) rfl id (cG enL rob)<|gBS (x:=vB (decide (i≤rob.length))) rfl hsT (okB (leN _ _))<|cS rfl rfl rfl (λ h=>h)<|oR 1 rfl<|gN rfl<|gN rfl<|lX (x:=vN (BW rob)) (g:=dE (decide (i≥0)) (decide (i≤rob.length)) false) rfl rfl rfl rfl (λ h=>h) rfl rfl rfl (.inl rfl) rfl (λ hg=>PG rob ck hl ho)<|gBS (x:=vB (decide (i≤(BW rob)))) rfl hsT (okB (leN _ _))<|cS rfl rfl rfl (λ h=>h)<|oR 1 rfl<|rE 16<|cO ?_;exact fT rfl (dM (by unfold uJ;rw[bP];simp[qA]))
theorem mA(rob:List Ent):∀ k,(eU rob k).length=k
 |0=>rfl
 |k+1=>by simp only[eU,aR,mA rob k,bJ,cR]
theorem SH{rob:List Ent}{k j:Nat}{x:Int}{o:Option Nat}(ho:o=some j)(hx:(eU rob k)[j]?=some x):sL (eU rob k) o=x:=by
 subst ho;show (eU rob k).getD j (-1)=x;rw[bC,hx];rfl
theorem PH(rob:List Ent)(ck:Bool)(i k:Nat)(reg:Int)(hl:rob.length≤1000)(ho:∀ x∈rob,x.ok)(hi:i≤k)(hk:k≤1000):pL C0.P C0.G 230 [vN i,vI reg,.ptr 0 0,.ptr 1 0] (heapF [(0,.box [.sl 17 (rob.map enL) ck]),(1,.box [.osl 2 0 k false]),(2,.arr ((eU rob k).map jL) 1)]) 3 (λ x h'=>x=vI (sL (eU rob k) (gZ rob i reg))∧h'=heapF [(0,.box [.sl 17 (rob.map enL) ck]),(1,.box [.osl 2 0 k false]),(2,.arr ((eU rob k).map jL) 1)]):=by
 refine HCall.intro (C:=C0) (s:=3) c0Ok.at Tryz.func230 rfl rfl (by kernel_rfl) rfl rfl<|cSR<|oR 1 rfl<|rE 4<|bK<|cSR<|oR 3 rfl<|rCi rfl (PK rob ck (i) (reg) hl ho omT)<|oR 1 rfl<|rE 9<|cSR<|oR 1 rfl<|rV (vB (decide ((Do (gZ rob (i) (reg)))≥0))) rfl<|rE 11<|aV rfl (λ h1=>?_) (λ h1=>?_)
 ·have h1p:=of_decide_eq_true h1;obtain⟨j,hj⟩:=HC (show ¬ Do (gZ rob i reg)<0 by omega);have hjl:=Et hj;have hrk:=mA rob k;refine cSR<|oR 2 rfl<|nW (.ptr2 2 (0+j) 0) rfl ((show Res.need _ (AV.ptr2 2 (0+(Do (gZ rob i reg)).toNat) 0)=Res.need _ (AV.ptr2 2 (0+j) 0)from by rw[hj];rfl)) (by (try rw[hj]);exact⟨aF _,by show (j:Int)<(k:Int);omega⟩) ?_;obtain⟨x,hx⟩:∃ y_,(eU rob k)[j]?=some y_:=⟨_,aA omT⟩;refine rIx (jL x) (vI x) rfl rfl (IB (jH hx)) rfl<|oR 1 rfl<|rE 16<|cO<|pE (rs:=[vI x]) rfl (r:=vI (sL (eU rob k) (gZ rob i reg))) (h':=heapF [(0,.box [.sl 17 (rob.map enL) ck]),(1,.box [.osl 2 0 k false]),(2,.arr ((eU rob k).map jL) 1)]) (σ:=λ z=>z) ⟨rfl,rfl⟩ rfl (cB (λ z=>z) (by rw[SH hj hx];rfl) rfl wH rfl)
 ·have h1p:=aE h1;have hj:=Mi (show Do (gZ rob i reg)<0 by omega);refine bB<|cSR<|oR 1 rfl<|rE 12<|cO<|pE (rs:=[vI (-1)]) rfl (r:=vI (sL (eU rob k) (gZ rob i reg))) (h':=heapF [(0,.box [.sl 17 (rob.map enL) ck]),(1,.box [.osl 2 0 k false]),(2,.arr ((eU rob k).map jL) 1)]) (σ:=λ z=>z) ⟨rfl,rfl⟩ rfl (cB (λ z=>z) (by rw[hj];rfl) rfl wH rfl)
theorem XT(a b:Int):(if b>a then b else a)=max a b:=by omega
theorem Eu{p:Prop}{H:AH}{s rs:Nat}{rob:List Ent}{k:Nat}{x:Int}(hl:(eU rob k).length=k)(hx:x=Da rob (eU rob k) k):
  Res.fx p (.osl s 0 ((List.take k (List.drop 0 ((eU rob k).map jL))).length+[[AV.v (.int .i64 x)]].length) false) (upd H s (some (.arr (List.take k (List.drop 0 ((eU rob k).map jL))++[[AV.v (.int .i64 x)]]) rs)))=.fx p (.osl s 0 (k+1) false) (upd H s (some (.arr ((eU rob (k+1)).map jL) rs))):=by
 rw[cH,aM (by rw[aJ,hl];exact aC _),aJ,hl];simp only[eU,eA,gO,List.map_nil, ←hx];rfl
theorem XU(rob:List Ent)(ck:Bool)(hl:rob.length≤1000)(ho:∀ x∈rob,x.ok):bT C0 218 [.sl 17 (rob.map enL) ck] (.sl 1 ((zA rob).map jL) false):=by
 refine dc1 (bT.intro c1Ok Tryz.func218 rfl rfl (by kernel_rfl) rfl ?_);refine cSR<|rAl 0 rfl rfl<|oR 1 rfl<|rE 2<|cSR<|oR 1 rfl<|rCi rfl (PG rob ck hl ho)<|oR 1 rfl<|rE 5<|cSR<|oR 1 rfl<|rW (vN rob.length) rfl (cG enL rob)<|rFx (x:=.osl 7 0 0 false) (h':=upd _ 7 (some (.arr (([]:List Int).map jL) 1))) rfl rfl (rfl) (⟨by decide,Ff.2 omT,by show ((rob.length:Nat):Int)≤1000000;omega⟩)<|rAl 8 rfl rfl<|rSt rfl<|rE 10<|cSR<|rV (.clo 230 [] [.ptr 0 0,.ptr 8 0]) rfl<|oR 1 rfl<|rE 12<|bK<|cSR<|oR 1 rfl<|rW (vN rob.length) rfl (cG enL rob)<|oR 1 rfl<|rE 15<|bL<|oE (κ:=Nat) (λ k=>⟨slotsF [(2,.sl 0 ([]) true),(3,vN (BW rob)),(4,.ptr 8 0),(5,.clo 230 [] [.ptr 0 0,.ptr 8 0]),(17,.sl 17 (rob.map enL) ck),(18,vN rob.length),(19,vN k)],heapF [(0,.box [.sl 17 (rob.map enL) ck]),(7,.arr ((eU rob k).map jL) 1),(8,.box [.osl 7 0 k false])],15⟩) (λ k=>k≤rob.length) (λ k=>rob.length - k) 0 (λ s=>s) (Weak.of_lists (λ s=>s) wT wH rfl) (aD _) ?_;intro k hk;have hkn:k≤rob.length:=hk;have hkB:k≤1000:=by omega
 refine cSR<|rW (vB (decide (k<rob.length))) rfl (okB (ltN _ _))<|rE 16<|bK<|aV rfl (λ h1=>?_) (λ h1=>?_)
 ·have h1p:=of_decide_eq_true h1;refine bB<|bK<|bL<|cSR<|oR 1 rfl ?_;obtain⟨x,hx⟩:∃ y_,rob[k]?=some y_:=⟨_,aA omT⟩;have hxo:=ho x (aB hx);refine rIx (enL x) (.dp 17 0 (enL x)) rfl rfl (jH hx) rfl<|oR 1 rfl<|rAl 19 rfl rfl<|oR 1 rfl<|rSt rfl<|rE 22<|cSR<|oR 1 rfl<|rE 23<|bK<|cSR<|oR 2 rfl<|rCi rfl (qR x.i)<|rW (vB ((kindOf x.i.op) != 3)) rfl (okB (neN _ _))<|rE 27<|aV rfl (λ h2=>?_) (λ h2=>?_)
  ·have h2p:=wN h2;refine cSR<|oR 2 rfl<|rCi rfl (Gy x.i)<|oR 5 rfl<|rE 35<|cRg<|oR 3 rfl<|fR _ rfl rfl rfl ((PH rob ck k k x.i.rs1 hl ho (aC k) omT).frameU (λ z=>match z with|0=>0|1=>8|2=>7|z=>z) _ _ rfl ⟨⟨rfl,rfl,rfl,rfl⟩,⟨rfl,rfl,rfl,rfl⟩,⟨rfl,rfl,rfl,rfl⟩,trivial⟩ rfl rfl rfl) ?_;rintro _ _ ⟨rfl,rfl⟩;refine oR 3 rfl<|fR _ rfl rfl rfl ((PH rob ck k k x.i.rs2 hl ho (aC k) omT).frameU (λ z=>match z with|0=>0|1=>8|2=>7|z=>z) _ _ rfl ⟨⟨rfl,rfl,rfl,rfl⟩,⟨rfl,rfl,rfl,rfl⟩,⟨rfl,rfl,rfl,rfl⟩,trivial⟩ rfl rfl rfl) ?_;rintro _ _ ⟨rfl,rfl⟩;refine rV (vI (if (sL (eU rob k) (gZ rob k x.i.rs2))>(sL (eU rob k) (gZ rob k x.i.rs1))then (sL (eU rob k) (gZ rob k x.i.rs2))else (sL (eU rob k) (gZ rob k x.i.rs1)))) rfl<|oR 1 rfl<|rE 45<|cRg<|oR 2 rfl<|rV (.sl 1 ([[vI (if (sL (eU rob k) (gZ rob k x.i.rs2))>(sL (eU rob k) (gZ rob k x.i.rs1))then (sL (eU rob k) (gZ rob k x.i.rs2))else (sL (eU rob k) (gZ rob k x.i.rs1)))]]) true) rfl ?_;have hrt:(if (sL (eU rob k) (gZ rob k x.i.rs2))>(sL (eU rob k) (gZ rob k x.i.rs1))then (sL (eU rob k) (gZ rob k x.i.rs2))else (sL (eU rob k) (gZ rob k x.i.rs1)))=Da rob (eU rob k) k:=by unfold Da;rw[hx];exact (XT _ _).trans (if_pos h2p).symm
   refine rFx (x:=.osl 48 0 (k+1) false) (h':=upd (upd _ 7 none) 48 (some (.arr ((eU rob (k+1)).map jL) 1))) rfl rfl (Eu (mA rob k) hrt) (⟨by simp only[aJ,bJ,cR,aN,bD,mA,oZ];omega,by simp only[aJ,mA];omega,trivial⟩)<|rSt rfl<|rE 50<|cRg ?_;have b1:k+1≤1001:=aG hkB (aC 1);refine rW (vN (k+1)) rfl (okI (bU b1 rfl))<|oR 1 rfl<|rE 52 ?_;refine⟨k+1,λ z=>match z with|7=>48|z=>z,Weak.of_lists _ wT wH rfl,by omega,by show rob.length - (k+1)<rob.length - k;omega⟩
  ·have h2p:=wO h2;refine cSR<|oR 2 rfl<|rW (vB (decide (k>(BW rob)))) rfl (okB (gtN _ _))<|rE 30<|aV rfl (λ h3=>?_) (λ h3=>?_)
   ·have h3p:=of_decide_eq_true h3;refine cRg<|oR 2 rfl<|rE 32<|cRg<|oR 2 rfl<|rV (.sl 1 ([[vN k]]) true) rfl ?_;have hrt:(k:Int)=Da rob (eU rob k) k:=by unfold Da;rw[hx];dsimp only;rw[if_neg (show ¬ kindOf x.i.op≠3 from λ q=>q h2p),if_pos h3p]
    refine rFx (x:=.osl 35 0 (k+1) false) (h':=upd (upd _ 7 none) 35 (some (.arr ((eU rob (k+1)).map jL) 1))) rfl rfl (Eu (mA rob k) hrt) (⟨by simp only[aJ,bJ,cR,aN,bD,mA,oZ];omega,by simp only[aJ,mA];omega,trivial⟩)<|rSt rfl<|rE 37<|cRg ?_;have b2:k+1≤1001:=aG hkB (aC 1);refine rW (vN (k+1)) rfl (okI (bU b2 rfl))<|oR 1 rfl<|rE 39 ?_;refine⟨k+1,λ z=>match z with|7=>35|z=>z,Weak.of_lists _ wT wH rfl,by omega,by show rob.length - (k+1)<rob.length - k;omega⟩
   ·have h3p:=aE h3;refine bB<|cRg<|oR 2 rfl<|rV (.sl 1 ([[vI (-1)]]) true) rfl ?_;have hrt:(-1)=Da rob (eU rob k) k:=by unfold Da;rw[hx];dsimp only;rw[if_neg (show ¬ kindOf x.i.op≠3 from λ q=>q h2p),if_neg h3p]
    refine rFx (x:=.osl 33 0 (k+1) false) (h':=upd (upd _ 7 none) 33 (some (.arr ((eU rob (k+1)).map jL) 1))) rfl rfl (Eu (mA rob k) hrt) (⟨by simp only[aJ,bJ,cR,aN,bD,mA,oZ];omega,by simp only[aJ,mA];omega,trivial⟩)<|rSt rfl<|rE 35<|cRg ?_;have b3:k+1≤1001:=aG hkB (aC 1);refine rW (vN (k+1)) rfl (okI (bU b3 rfl))<|oR 1 rfl<|rE 37 ?_;refine⟨k+1,λ z=>match z with|7=>33|z=>z,Weak.of_lists _ wT wH rfl,by omega,by show rob.length - (k+1)<rob.length - k;omega⟩
 ·have h1p:=aE h1;refine eP<|cSR<|oR 2 rfl<|rE 18<|cO ?_;have hke:k=rob.length:=by omega
  subst hke;refine eQ rfl (by show 0+rob.length≤((eU rob rob.length).map jL).length;rw[aJ,mA];omega) rfl ?_;show AV.sl 1 (List.take rob.length (List.drop 0 ((eU rob rob.length).map jL))) false=_;rw[jQ jL (eU rob rob.length) (by rw[mA];exact aC _)];rfl
theorem XV{rob:List Ent}{i:Nat}{reg:Int}(hg:decide (Do (gZ rob i reg)≥0)=true):0≤Do (gZ rob i reg)∧((zA rob).map jL)[(Do (gZ rob i reg)).toNat]?=some (jL ((zA rob).getD (Do (gZ rob i reg)).toNat (-1))):=by
 have h:=of_decide_eq_true hg;obtain⟨j,hj⟩:=HC (show ¬ Do (gZ rob i reg)<0 by omega);refine⟨h,?_⟩;rw[hj];have hl:=(Et hj).2;have hr:(zA rob).length=rob.length:=mA rob rob.length;show ((zA rob).map jL)[j]?=some (jL ((zA rob).getD j (-1)));rw[aZ,bC,aA omT];rfl
theorem SJ(rob:List Ent)(i:Nat)(reg:Int):dE (decide (Do (gZ rob i reg)≥0)) (decide ((zA rob).getD (Do (gZ rob i reg)).toNat (-1)≥0)) false=Ia rob i reg:=by
 unfold Ia
 cases h:gZ rob i reg with
 |none=>rfl
 |some j=>
  rw[show decide (Do (some j)≥0)=true from nB (aF _)];rfl
theorem SK(rob:List Ent)(ck:Bool)(i:Nat)(reg:Int)(hl:rob.length≤1000)(ho:∀ x∈rob,x.ok)(hi:i≤1000):bT C0 204 [.sl 17 (rob.map enL) ck,vN i,vI reg] (vB (Ia rob i reg)):=by
 refine bT.intro c0Ok Tryz.func204 rfl rfl (by kernel_rfl) rfl<|cSR<|oR 1 rfl<|rE 1<|cSR<|oR 3 rfl<|rCi rfl (PK rob ck (i) (reg) hl ho omT)<|oR 1 rfl<|rE 6<|cSR<|oR 1 rfl<|rV (vB (decide ((Do (gZ rob (i) (reg)))≥0))) rfl<|oR 1 rfl<|gN rfl<|lX (x:=.sl 1 ((zA rob).map jL) false) (g:=decide ((Do (gZ rob (i) (reg)))≥0)) rfl rfl rfl rfl (λ h=>h) rfl rfl rfl (.inl rfl) rfl (λ hg=>XU rob ck hl ho)<|gN rfl<|KL (jL ((zA rob).getD (Do (gZ rob i reg)).toNat (-1))) (x:=.dp 1 0 (jL ((zA rob).getD (Do (gZ rob i reg)).toNat (-1)))) (g:=decide ((Do (gZ rob (i) (reg)))≥0)) rfl rfl rfl rfl hsT rfl rfl (λ hg=>XV hg) rfl<|gS rfl id<|gBS (x:=vB (decide (((zA rob).getD (Do (gZ rob i reg)).toNat (-1))≥0))) rfl id rfl<|cS rfl rfl rfl (λ h=>h)<|oR 1 rfl<|rE 17<|cO ?_;exact fT rfl (dM (SJ rob i reg))
theorem XW(e:Ent)(he:e.ok):bT C0 202 [.agg (enL e)] (vB (Db e)):=by
 refine bT.intro c0Ok Tryz.func202 rfl rfl (by kernel_rfl) rfl<|cSR<|rAl 0 rfl rfl<|oR 1 rfl<|rE 2<|bK<|cSR<|oR 2 rfl<|rCi rfl (qR e.i)<|rE 5<|bL<|bK<|cSR<|rW (vB ((kindOf e.i.op)==3)) rfl (okB (eqN _ _))<|oR 1 rfl<|rE 7<|aV rfl (λ h1=>?_) (λ h1=>?_)
 ·refine bB<|aV rfl (λ _=>?_) (λ h2=>Bool.noConfusion (h1.symm.trans h2));refine cSR<|oR 1 rfl<|rE 8<|cO ?_;replace h1:=sP h1;exact fT rfl (dM (by unfold Db;rw[bP];simp only[aS];grind))
 ·refine cSR<|rW (vB ((kindOf e.i.op)==4)) rfl (okB (eqN _ _))<|oR 1 rfl<|rE 9<|aV rfl (λ h3=>?_) (λ h3=>?_)
  ·refine bB<|aV rfl (λ _=>?_) (λ h4=>Bool.noConfusion (h3.symm.trans h4));refine cSR<|oR 1 rfl<|rE 10<|cO ?_;replace h1:=sP h1;replace h3:=sP h3;exact fT rfl (dM (by unfold Db;rw[bP];simp only[aS];grind))
  ·refine cSR<|rW (vB ((kindOf e.i.op)==2)) rfl (okB (eqN _ _))<|oR 1 rfl<|rE 11<|aV rfl (λ h5=>?_) (λ h5=>?_)
   ·refine bB<|aV rfl (λ _=>?_) (λ h6=>Bool.noConfusion (h5.symm.trans h6));refine cSR<|oR 1 rfl<|rE 12<|cO ?_;replace h1:=sP h1;replace h3:=sP h3;replace h5:=sP h5;exact fT rfl (dM (by unfold Db;rw[bP];simp only[aS];grind))
   ·refine cRg<|rW (vB ((kindOf e.i.op)==5)) rfl (okB (eqN _ _))<|oR 1 rfl<|rE 13<|aV rfl (λ h7=>?_) (λ h7=>?_)
    ·refine cSR<|oR 1 rfl<|rE 14<|cO ?_;replace h1:=sP h1;replace h3:=sP h3;replace h5:=sP h5;replace h7:=sP h7;exact fT rfl (dM (by unfold Db;rw[bP];simp only[aS];grind))
    ·refine bB<|cSR<|oR 1 rfl<|rE 14<|cO ?_;replace h1:=sP h1;replace h3:=sP h3;replace h5:=sP h5;replace h7:=sP h7;exact fT rfl (dM (by unfold Db;rw[bP];simp only[aS];grind))
theorem XX(e:Ent)(he:e.ok):bT C0 205 [.agg (enL e)] (.sl 1 ((qB e).map jL) true):=by
 refine bT.intro c0Ok Tryz.func205 rfl rfl (by kernel_rfl) rfl<|cSR<|rAl 0 rfl rfl<|oR 1 rfl<|rE 2<|cSR<|oR 2 rfl<|rCi rfl (Gy e.i)<|oR 5 rfl<|rE 10<|bK<|cSR<|oR 2 rfl<|rCi rfl (qR e.i)<|rE 13<|bL<|bK<|cSR<|rW (vB ((kindOf e.i.op)==3)) rfl (okB (eqN _ _))<|oR 1 rfl<|rE 15<|aV rfl (λ h1=>?_) (λ h1=>?_)
 ·have h1p:=mC h1;refine bB<|aV rfl (λ _=>?_) (λ h2=>Bool.noConfusion (h1.symm.trans h2));refine cSR<|oR 1 rfl<|rV (.sl 1 ([[vI e.i.rs1]]) true) rfl<|oR 1 rfl<|rE 18<|cO ?_;exact fT rfl (by rw[show qB e=[e.i.rs1]from by unfold qB;exact if_pos omT];rfl)
 ·have h1p:=mD h1;refine cRg<|rW (vB ((kindOf e.i.op)==4)) rfl (okB (eqN _ _))<|oR 1 rfl<|rE 17<|aV rfl (λ h3=>?_) (λ h3=>?_)
  ·have h3p:=mC h3;refine cSR<|oR 1 rfl<|rV (.sl 1 ([[vI e.i.rs1]]) true) rfl<|oR 1 rfl<|rE 20<|cO ?_;exact fT rfl (by rw[show qB e=[e.i.rs1]from by unfold qB;exact if_pos omT];rfl)
  ·have h3p:=mD h3;refine bB<|cSR<|oR 2 rfl<|rV (.sl 1 ([[vI e.i.rs1],[vI e.i.rs2]]) true) rfl<|oR 1 rfl<|rE 21<|cO ?_;exact fT rfl (by rw[show qB e=[e.i.rs1,e.i.rs2]from by unfold qB;exact if_neg omT];rfl)
theorem SL(e:Ent):(qB e).length≤2:=by unfold qB;split<;>simp
theorem VS(rob:List Ent)(ck:Bool)(i:Nat)(reg:Int)(hl:rob.length≤1000)(ho:∀ x∈rob,x.ok)(hi:i≤1000):bT C0 203 [vI reg,.dp 1 0 [.sl 17 (rob.map enL) ck],.dp 1 0 [vN i]] (vB (!Ia rob i reg)):=by
 refine bT.intro c0Ok Tryz.func203 rfl rfl (by kernel_rfl) rfl<|cSR<|oR 1 rfl<|rE 1<|cSR<|oR 3 rfl<|rCi rfl (SK rob ck i reg hl ho hi)<|oR 2 rfl<|rE 7<|cO ?_;exact fT rfl rfl
theorem aaX(mode:Int)(rob:List Ent)(ck:Bool)(i:Nat)(hl:rob.length≤1000)(ho:∀ x∈rob,x.ok)(hi:i≤1000):bT C0 163 [vI mode,.sl 17 (rob.map enL) ck,vN i] (vB (On mode rob i)):=by
 refine bT.intro c0Ok Tryz.func163 rfl rfl (by kernel_rfl) rfl<|cSR<|rAl 0 rfl rfl<|rAl 1 rfl rfl<|oR 1 rfl<|rE 3<|bK<|cSR<|oR 1 rfl<|rW (vB (decide (i<0))) rfl (okB (ltN _ _))<|oR 1 rfl<|gN rfl<|gN rfl<|gBS (x:=vN rob.length) rfl id (cG enL rob)<|gBS (x:=vB (decide (i≥rob.length))) rfl hsT (okB (geN _ _))<|cS rfl rfl rfl (by simp)<|rE 11<|aV rfl (λ h1=>?_) (λ h1=>?_)
 ·have hb:(i≥rob.length):=by have z:=h1;simp only[cOr]at z;grind
  refine cSR<|oR 1 rfl<|rE 12<|cO ?_;have hn:rob[i]?=none:=bM omT;exact fT rfl (dM (by unfold On;rw[hn]))
 ·have hb: ¬ (i≥rob.length):=by have z:=h1;simp only[cOr]at z;grind
  refine bB<|bK<|cSR<|oR 2 rfl ?_;obtain⟨x,hx⟩:∃ y_,rob[i]?=some y_:=⟨_,aA omT⟩;have hxo:=ho x (aB hx);refine rIx (enL x) (.dp 17 0 (enL x)) rfl rfl (jH hx) rfl<|oR 1 rfl<|rCi rfl (XW x hxo)<|oR 1 rfl<|rE 17<|aV rfl (λ h2=>?_) (λ h2=>?_)
  ·refine cSR<|oR 1 rfl<|rE 18<|cO ?_;exact fT rfl (dM (by unfold On;rw[hx];dsimp only;rw[if_pos (by simpa using h2)]))
  ·refine bB<|cSR<|rV (.clo 203 [] [.ptr 0 0,.ptr 1 0]) rfl<|oR 1 rfl<|rE 19<|bK<|cSR<|oR 1 rfl<|rE 20<|bL<|cSR<|rV (vB (mode==0)) rfl<|oR 1 rfl<|rE 22<|aV rfl (λ h3=>?_) (λ h3=>?_)
   ·have h3p:=mC h3;refine cSR<|oR 1 rfl<|rE 23<|cO ?_;exact fT rfl (dM (by unfold On;rw[hx];dsimp only;rw[if_neg (by simpa using h2),if_pos h3p]))
   ·have h3p:=mD h3;refine cSR<|rV (vB (mode==1)) rfl<|oR 1 rfl<|rE 24<|aV rfl (λ h4=>?_) (λ h4=>?_)
    ·have h4p:=mC h4;refine bK<|cSR<|oR 2 rfl<|rIx (enL x) (.dp 17 0 (enL x)) rfl rfl (jH hx) rfl<|oR 1 rfl<|rCi rfl (XX x hxo)<|rW (vN ((qB x).length)) rfl (cG jL (qB x))<|oR 1 rfl<|rE 31<|bL<|oE (κ:=Nat) (λ k=>⟨slotsF [(4,.ptr 0 0),(5,.ptr 1 0),(17,vB (dE (decide (i<0)) true (decide (i≥rob.length)))),(23,vB (!(Db x))),(7,.clo 203 [] [.ptr 0 0,.ptr 1 0]),(25,vI mode),(26,vB (mode==0)),(28,vB (mode==1)),(34,.sl 1 ((qB x).map jL) true),(35,vN ((qB x).length)),(36,vN k)],heapF [(0,.box [.sl 17 (rob.map enL) ck]),(1,.box [vN i])],31⟩) (λ k=>k≤(qB x).length∧((qB x).take k).all (λ reg=> !Ia rob i reg)=true) (λ k=>(qB x).length - k) 0 (λ s=>s) (Weak.of_lists (λ s=>s) wT wH rfl) (⟨aD _,rfl⟩) ?_;intro k hk;have hkn:k≤(qB x).length:=hk.1;have hkB:k≤1000000:=by have:=SL x;omega
     refine cSR<|rW (vB (decide (k<((qB x).length)))) rfl (okB (ltN _ _))<|rE 32<|bK<|aV rfl (λ h5=>?_) (λ h5=>?_)
     ·have h5p:=of_decide_eq_true h5;refine bB<|bK<|bL<|cSR ?_;obtain⟨rg,hrg⟩:∃ y_,(qB x)[k]?=some y_:=⟨_,aA omT⟩;refine rIx (jL rg) (.dp 1 0 (jL rg)) rfl rfl (jH hrg) rfl<|oR 2 rfl<|rE 35<|cSR<|oR 2 rfl<|rCl rfl (.inr ⟨rfl,trivial,trivial,trivial,trivial⟩) (VS rob ck i rg hl ho hi)<|oR 1 rfl<|rE 39<|aV rfl (λ h6=>?_) (λ h6=>?_)
      ·refine cSR<|oR 1 rfl<|rE 40<|cO ?_;have z:=h6;exact fT rfl (dM (by unfold On;rw[hx];dsimp only;rw[if_neg (by simpa using h2),if_neg h3p,if_pos h4p,HJ (p:=λ reg=> !Ia rob i reg) hrg (by simpa using z)]))
      ·refine bB<|cRg ?_;have b1:k+1≤1000001:=aG hkB (aC 1);refine rW (vN (k+1)) rfl (okI (bU b1 rfl))<|oR 1 rfl<|rE 41 ?_;refine⟨k+1,λ s=>s,Weak.of_lists _ wT wH rfl,⟨by omega,DB (p:=λ reg=> !Ia rob i reg) hrg (by simpa using h6) hk.2⟩,by show (qB x).length - (k+1)<(qB x).length - k;omega⟩
     ·have h5p:=aE h5;refine eP<|cSR<|oR 1 rfl<|rE 33<|cO ?_;have hall:=DC (p:=λ reg=> !Ia rob i reg) omT hk.2;exact fT rfl (dM (by unfold On;rw[hx];dsimp only;rw[if_neg (by simpa using h2),if_neg h3p,if_pos h4p,hall]))
    ·have h4p:=mD h4;refine cSR<|rV (vB (mode==2)) rfl<|oR 1 rfl<|rE 26<|aV rfl (λ h7=>?_) (λ h7=>?_)
     ·have h7p:=mC h7;refine cSR<|oR 2 rfl<|rCi rfl (Mj rob ck i hl ho hi)<|oR 1 rfl<|rE 30<|cO ?_;exact fT rfl (dM (by unfold On;rw[hx];dsimp only;rw[if_neg (by simpa using h2),if_neg h3p,if_neg h4p,if_pos h7p]))
     ·have h7p:=mD h7;refine bB<|cSR<|oR 1 rfl<|rE 27<|cO ?_;exact fT rfl (dM (by unfold On;rw[hx];dsimp only;rw[if_neg (by simpa using h2),if_neg h3p,if_neg h4p,if_neg h7p]))
abbrev QL(n:Nat):List AV:=[.v (.int .i64 (n:Int))]
theorem MO{α:Type}(f:α→Value):∀ (l:List α),(l.flatMap λ a=>[f a])=l.map f
 |[]=>rfl
 |a::l=>by rw[gX,MO f l];rfl
theorem JW{α:Type}{f:α→Value}{l:List α}{S:Nat→Prop}{w:World}{v:Value}{clip:Bool}(e:TypeId)(hS:∀ b,S b→b<w.heap.size)(h:Rep S w noB (.sl 1 (l.map λ a=>[AV.v (f a)]) clip) v):Sl w.heap.size e 1 w v l.length (l.flatMap λ a=>[f a]):=by
 cases h with
 |sl _ _ _ A c b o u hc hm hcl hrs hA hw h1 hr=>
  rw[aJ]at hc;refine⟨A,c,by rw[aJ],hc,hm,by rw[MO,aJ,iX],λ hn=>?_⟩;obtain⟨hA1,hA2⟩:=hA (by rw[aJ];exact hn);refine⟨b,o,hA1,.inl (hS b hA2),λ j x hx=>?_⟩;rw[MO,aZ]at hx;obtain⟨y,hy,rfl⟩:=wV.1 hx;have hrow:(l.map λ a=>[AV.v (f a)])[j]?=some [AV.v (f y)]:=by rw[aZ,hy];rfl
  have h2:=hw j _ 0 _ hrow rfl;have h3:=hr j _ 0 _ hrow rfl;rw[show o+j * 1+0=o+j by omega]at h2;rw[h2];generalize u j 0=z at h3;cases h3;rfl
theorem NV{α:Type}{f:α→Value}(h1:∀ a,(f a).oneCell'=true){l:List α}{w:World}{v:Value}{base:Nat}{e:TypeId}(h:w.ownsRow base e 1 v l.length (l.flatMap λ a=>[f a]))(S:Nat→Prop)(hb:∀ b,base≤b→b<w.heap.size→S b):Rep S w noB (.sl 1 (l.map λ a=>[AV.v (f a)]) false) v:=by
 obtain⟨hl,⟨rfl,h0⟩|⟨g,cap,cur,rfl,hg,hh,hn,hm,hsz,hx⟩⟩:=h
 ·have:l=[]:=bA h0;subst this;exact .sl 1 [] false none 0 0 0 (λ _ _=>.bool false) (aC _) (aD _) (λ h=>by cases h) (λ _ h=>by cases h) (λ h=>absurd h (dU 0)) (λ i row j a h=>by simp at h) (λ _ _=>rfl) λ i row j a h=>by simp at h
 ·rw[MO,iX]at hx;have hget:∀ (i:Nat) row (j:Nat) a,(l.map λ a=>[AV.v (f a)])[i]?=some row→row[j]?=some a→∃ x,l[i]?=some x∧j=0∧a=.v (f x)∧cur[i]?=some (f x):=by
   intro i row j a hi hj;rw[aZ]at hi;obtain⟨x,hxl,rfl⟩:=wV.1 hi
   cases j with
   |zero=>
    injection hj with hj;refine⟨x,hxl,rfl,hj.symm,?_⟩;have:(l.map f)[i]?=some (f x):=by rw[aZ,hxl];rfl
    rw[←hx,cN]at this;split at this
    ·rw[←bF];exact this
    ·cases this
   |succ j=>simp at hj
  have hlen:(l.map λ a=>[AV.v (f a)]).length=l.length:=aJ ..;rw[←hlen];refine .sl 1 _ false (some ⟨g,0,none⟩) cap g 0 (λ i j=>if i<l.length then cur.getD i undef else .bool false) (by rw[hlen];exact hn) hm (λ h=>by cases h) (λ row hr=>?_) (λ _=>⟨rfl,hb g hg (fP hh)⟩) (λ i row j a hi hj=>?_) (λ i j=>?_) λ i row j a hi hj=>?_
  ·obtain⟨x,_,rfl⟩:=sF.1 hr;rfl
  ·obtain⟨x,h2,rfl,rfl,h3⟩:=hget i row j a hi hj;rw[if_pos (DK.1 h2).1,gQ hh];rw[show 0+i * 1+0=i by omega,h3,aI,h3];rfl
  ·show (if i<l.length then cur.getD i undef else .bool false).oneCell'=true;by_cases hi:i<l.length
   ·rw[if_pos hi];obtain⟨x,h2,_,_,h3⟩:=hget i [AV.v (f l[i])] 0 (.v (f l[i])) (by rw[aZ,aA hi];rfl) rfl;rw[aI,h3];exact h1 x
   ·rw[if_neg hi];rfl
  ·obtain⟨x,h2,rfl,rfl,h3⟩:=hget i row j a hi hj;show Rep S w noB _ (if i<l.length then cur.getD i undef else .bool false);rw[if_pos (DK.1 h2).1,aI,h3];exact .v _
theorem YF(width:Int)(busy:Bool)(kinds:List Int)(can:List Bool)(c1 c2:Bool)(h1:kinds.length≤1000)(h2:can.length≤1000):bT C0 110 [vI width,vB busy,.sl 1 (kinds.map jL) c1,.sl 1 (can.map zE) c2] (.sl 1 ((pickOf width busy kinds can).map QL) false):=by
 refine⟨⟨_,Tryz.func110,rfl,rfl⟩,λ S w vs hS hG hr=>?_⟩
 match vs,hr with
 |[v0,v1,v2,v3],hr=>
  have e0:=hr.2 0 _ v0 rfl rfl;have e1:=hr.2 1 _ v1 rfl rfl;have e2:=hr.2 2 _ v2 rfl rfl;have e3:=hr.2 3 _ v3 rfl rfl;cases e0;cases e1
  refine (Tm width busy kinds can w.heap.size kinds.length can.length v2 v3 w (JW (f:=λ a:Int=>.int .i64 a) _ hS e2) (JW (f:=λ a:Bool=>.bool a) _ hS e3) rfl rfl omT omT).mono ?_;rintro e w' ⟨v,he,ho,hB⟩
  exact⟨v,he,hB,NV (f:=λ n:Nat=>.int .i64 (n:Int)) (λ _=>rfl) ho _ λ b p q=>.inr ⟨p,q⟩⟩
 |[],hr=>exact absurd hr.1 (by simp)
 |[_],hr=>exact absurd hr.1 (by simp)
 |[_,_],hr=>exact absurd hr.1 (by simp)
 |[_,_,_],hr=>exact absurd hr.1 (by simp)
 |_::_::_::_::_::_,hr=>exact absurd hr.1 (by simp)
def Lv(q:List Req)(line:Nat)(kinds:List Int):Bool:=q.any λ x=>kinds.any λ k=>decide (x.line=line)&&decide (x.kind=k)
theorem Tq(q:List Req):mU q≤q.length:=List.length_filter_le _ _
theorem Gz{q:List Req}{k:Nat}{x:Req}(h:q[k]?=some x):mU (q.take (k+1))=mU (q.take k)+(if x.kind=4 then 0 else 1):=by
 unfold mU;rw[bV,h];by_cases e:x.kind=4<;>simp[iT,e]
theorem WC(q:List Req)(ck:Bool)(hq:q.length≤1000000)(ho:∀ x∈q,x.line≤4294967295):bT C0 170 [.sl 4 (q.map rqL) ck] (vN (mU q)):=by
 refine bT.intro c0Ok Tryz.func170 rfl rfl (by kernel_rfl) rfl<|cSR<|oR 1 rfl<|rE 1<|cSR<|oR 1 rfl<|rE 2<|bK<|cSR<|oR 1 rfl<|rW (vN q.length) rfl (cG rqL q)<|oR 1 rfl<|rE 5<|bL<|oE (κ:=Nat) (λ k=>⟨slotsF [(6,.sl 4 (q.map rqL) ck),(7,vN q.length),(3,vN (mU (q.take k))),(8,vN k)],heapF [],5⟩) (λ k=>k≤q.length) (λ k=>q.length - k) 0 (λ s=>s) (Weak.of_lists (λ s=>s) wT trivial rfl) (aD _) ?_;intro k hk;have hkB:k≤1000000:=by omega
 have hrB:mU (q.take k)≤1000000:=by have:=Tq (q.take k);rw[aN]at this;omega
 refine cSR<|rW (vB (decide (k<q.length))) rfl (okB (ltN _ _))<|rE 6<|bK<|aV rfl (λ h1=>?_) (λ h1=>?_)
 ·refine bB<|bK<|bL<|cSR ?_;obtain⟨x,hx⟩:∃ x,q[k]?=some x:=⟨_,aA (of_decide_eq_true h1)⟩;have hxo:=ho x (aB hx);refine rIx (rqL x) (.dp 4 0 (rqL x)) rfl rfl (jH hx) rfl<|oR 1 rfl<|rAl 8 rfl rfl<|rSt rfl<|rE 10<|cSR<|oR 2 rfl<|rV (vB (x.kind != 4)) rfl<|rE 13<|aV rfl (λ h2=>?_) (λ h2=>?_)
  ·refine cRg<|oR 1 rfl ?_;have b1:(mU (q.take k))+1≤1000001:=aG hrB (aC 1);refine rW (vN ((mU (q.take k))+1)) rfl (okI (bU b1 rfl))<|oR 1 rfl<|rE 16<|cRg ?_;have b2:k+1≤1000001:=aG hkB (aC 1);refine rW (vN (k+1)) rfl (okI (bU b2 rfl))<|oR 1 rfl<|rE 18 ?_;refine⟨k+1,λ s=>s,Weak.of_lists _ ⟨⟨rfl,rfl⟩,⟨rfl,rfl⟩,⟨(congrArg (λ z:Nat=>AV.v (.int .i64 (z:Int))) (by rw[Gz hx];have q:=h2;simp at q;simp[q])),rfl⟩,⟨rfl,rfl⟩,trivial⟩ trivial rfl,of_decide_eq_true h1,by have:=of_decide_eq_true h1;show q.length - (k+1)<q.length - k;omega⟩
  ·refine bB<|cRg ?_;have b3:k+1≤1000001:=aG hkB (aC 1);refine rW (vN (k+1)) rfl (okI (bU b3 rfl))<|oR 1 rfl<|rE 15 ?_;refine⟨k+1,λ s=>s,Weak.of_lists _ ⟨⟨rfl,rfl⟩,⟨rfl,rfl⟩,⟨(congrArg (λ z:Nat=>AV.v (.int .i64 (z:Int))) (by rw[Gz hx];have q:=h2;simp at q;simp[q])),rfl⟩,⟨rfl,rfl⟩,trivial⟩ trivial rfl,of_decide_eq_true h1,by have:=of_decide_eq_true h1;show q.length - (k+1)<q.length - k;omega⟩
 ·refine eP<|cSR<|oR 2 rfl<|rE 8<|cO ?_;have hke:=aE h1;exact fT rfl (YZ (by rw[aM (show q.length≤k by omega)]))
theorem Is{α:Type}{f:α→Bool}{l:List α}{k:Nat}{x:α}(h:l[k]?=some x)(hf:f x=false)(hk:(l.take k).any f=false):(l.take (k+1)).any f=false:=by
 rw[bV,h];simp[List.any_append,hf]at hk⊢;exact hk
theorem It{α:Type}{f:α→Bool}{l:List α}{k:Nat}{x:α}(h:l[k]?=some x)(hf:f x=true):l.any f=true:=LK.2 ⟨x,aB h,hf⟩
theorem Lw{α:Type}{f:α→Bool}{l:List α}{k:Nat}(h:l.length≤k)(hk:(l.take k).any f=false):l.any f=false:=by rwa [aM h]at hk
theorem QM(q:List Req)(line:Nat)(kinds:List Int)(ck ck2:Bool)(hq:q.length≤1000000)(ho:∀ x∈q,x.line≤4294967295)(hline:line≤4294967295)(hks:kinds.length≤1000000):bT C0 115 [.sl 4 (q.map rqL) ck,vU line,.sl 1 (kinds.map jL) ck2] (.v (.bool (Lv q line kinds))):=by
 refine bT.intro c0Ok Tryz.func115 rfl rfl (by kernel_rfl) rfl<|cSR<|oR 1 rfl<|rE 1<|bK<|cSR<|oR 1 rfl<|rW (vN q.length) rfl (cG rqL q)<|oR 1 rfl<|rE 4<|bL<|oE (κ:=Nat) (λ k=>⟨slotsF [(1,vU line),(2,.sl 1 (kinds.map jL) ck2),(11,.sl 4 (q.map rqL) ck),(12,vN q.length),(13,vN k)],heapF [],4⟩) (λ k=>k≤q.length∧(q.take k).any (λ x:Req=>kinds.any λ k=>decide (x.line=line)&&decide (x.kind=k))=false) (λ k=>q.length - k) 0 (λ s=>s) (Weak.of_lists (λ s=>s) wT trivial rfl) (⟨aD _,rfl⟩) ?_;intro k hk;have hkB:k≤1000000:=by have:=hk.1;omega
 refine cSR<|rW (vB (decide (k<q.length))) rfl (okB (ltN _ _))<|rE 5<|bK<|aV rfl (λ h1=>?_) (λ h1=>?_)
 ·refine bB<|bK<|bL<|cSR ?_;obtain⟨x,hx⟩:∃ x,q[k]?=some x:=⟨_,aA (of_decide_eq_true h1)⟩;refine rIx (rqL x) (.dp 4 0 (rqL x)) rfl rfl (jH hx) rfl<|oR 1 rfl<|rAl 7 rfl rfl<|rSt rfl<|rE 9<|cSR<|oR 1 rfl<|rW (vN kinds.length) rfl (cG jL kinds)<|oR 1 rfl<|rE 12<|bL<|oE (κ:=Nat) (λ j=>⟨slotsF [(1,vU line),(2,.sl 1 (kinds.map jL) ck2),(8,.ptr 7 0),(11,.sl 4 (q.map rqL) ck),(12,vN q.length),(13,vN k),(17,.sl 1 (kinds.map jL) ck2),(18,vN kinds.length),(19,vN j)],heapF [(7,.box [vI x.kind,vU x.line,vI x.left,.v (.string x.data)])],12⟩) (λ j=>j≤kinds.length∧(kinds.take j).any (λ k:Int=>decide (x.line=line)&&decide (x.kind=k))=false) (λ j=>kinds.length - j) 0 (λ s=>s) (Weak.of_lists (λ s=>s) wT wH rfl) (⟨aD _,rfl⟩) ?_;intro j hj;have hjB:j≤1000000:=by have:=hj.1;omega
  refine cSR<|rW (vB (decide (j<kinds.length))) rfl (okB (ltN _ _))<|rE 13<|bK<|aV rfl (λ h2=>?_) (λ h2=>?_)
  ·refine bB<|bK<|bL<|cSR ?_;obtain⟨kd,hkd⟩:∃ kd,kinds[j]?=some kd:=⟨_,aA (of_decide_eq_true h2)⟩;refine rIx (jL kd) (.dp 1 0 (jL kd)) rfl rfl (jH hkd) rfl<|oR 2 rfl<|rE 16<|cSR<|oR 3 rfl<|rW (vB (x.line==line)) rfl (okB (eqN _ _))<|oR 1 rfl<|gN rfl<|gS rfl id<|gN rfl<|gBS (x:=vB (x.kind==kd)) rfl hsT rfl<|cS rfl rfl rfl (λ h=>h)<|rE 26<|aV rfl (λ h3=>?_) (λ h3=>?_)
   ·refine cSR<|oR 1 rfl<|rE 27<|cO ?_;exact fT rfl (congrArg (λ z=>AV.v (.bool z)) (It hx (It hkd (by have z:=h3;simpa [c2]using z))).symm)
   ·refine bB<|cRg ?_;have b1:j+1≤1000001:=aG hjB (aC 1);refine rW (vN (j+1)) rfl (okI (bU b1 rfl))<|oR 1 rfl<|rE 28 ?_;refine⟨j+1,λ s=>s,Weak.of_lists _ wT wH rfl,⟨of_decide_eq_true h2,Is hkd (by have z:=h3;simpa [c2]using z) hj.2⟩,by have:=of_decide_eq_true h2;show kinds.length - (j+1)<kinds.length - j;omega⟩
  ·refine eP<|cRg ?_;have b2:k+1≤1000001:=aG hkB (aC 1);refine rW (vN (k+1)) rfl (okI (bU b2 rfl))<|oR 1 rfl<|rE 15 ?_;refine⟨k+1,λ s=>s,Weak.of_lists _ wT trivial rfl,⟨of_decide_eq_true h1,Is hx (Lw (by have:=aE h2;omega) hj.2) hk.2⟩,by have:=of_decide_eq_true h1;show q.length - (k+1)<q.length - k;omega⟩
 ·refine eP<|cSR<|oR 1 rfl<|rE 6<|cO ?_;exact fT rfl (congrArg (λ z=>AV.v (.bool z)) (Lw (by have:=aE h1;omega) hk.2).symm)
structure Co.okM(c:Co)(n:Nat):Prop where
 ok:c.ok n
 nb:n≤890000
 cf:tD c.conf=true
 data:iW c.data=true
 words:iW c.words=true
 guess:rX c.guess=true
 rob:c.rob.length≤1000
 fet:c.fetched.length≤1000
 sto:c.stores.length≤1000
 prog:c.prog.length≤1000
 mem:c.mem.size≤256
 std:∀ x∈c.stores,x.data.size≤4
theorem Co.okM.bus{c:Co}{n:Nat}(h:c.okM n):c.bus.length≤890000:=aL h.ok.bus h.nb
theorem Co.okM.ret{c:Co}{n:Nat}(h:c.okM n):c.retired.length≤890000:=aL h.ok.ret h.nb
theorem mR{c:Cf}(h:tD c=true):c.lat.length≤64∧c.tape.length≤64∧1≤c.width∧c.width≤2∧c.rob≤8∧2≤c.rob∧c.queue≤4∧1≤c.queue∧c.stores≤4∧1≤c.stores∧c.slots≤6∧2≤c.slots∧0≤c.mode∧c.mode≤2:=by
 unfold tD inI at h;simp only[aH,aS]at h;omega
theorem Co.okM.conf{c:Co}{n:Nat}(h:c.okM n):c.conf.ok:=⟨by have:=(mR h.cf).1;omega,by have:=(mR h.cf).2.1;omega,h.ok.conf.tp⟩
theorem Co.okM.d4{c:Co}{n:Nat}(h:c.okM n):c.data.sets.length≤4:=(jP h.data).2.1
theorem Co.okM.d2{c:Co}{n:Nat}(h:c.okM n):∀ s∈c.data.sets,s.length≤2:=λ s hs=>by have:=jP h.data;have:=this.2.2.2.2 s hs;omega
theorem BM(stores:List Pt)(c:Ca)(q:List Req)(m:ByteArray):(Ko stores c q m).size=m.size:=by unfold Ko Am fW;rw[fD,fD,fD]
theorem SG(c:Co)(n:Nat)(hm:c.okM n)(R F S T:AV)(first:Bool):bT C0 116 [.dp 64 0 (mcX c R F S T),vB first] (vB (qL c first)):=by
 refine bT.intro c0Ok Tryz.func116 rfl rfl (by kernel_rfl) rfl<|cSR<|oR 1 rfl<|rE 1<|cSR<|oR 5 rfl<|rCi rfl (WC c.bus false (by have:=hm.bus;omega) (λ x hx=>(hm.ok.buso x hx).line))<|oR 1 rfl<|rE 8<|bK<|cSR<|oR 1 rfl<|rE 9<|aV rfl (λ h1=>?_) (λ h1=>?_)
 ·refine cSR<|oR 7 rfl<|rV (vB (decide (((mU c.bus:Nat):Int)<c.conf.slots))) rfl<|oR 1 rfl<|rE 18<|cO ?_;exact fT rfl (dM (by unfold qL;rw[if_pos h1]))
 ·refine bB<|cSR<|oR 7 rfl<|rW (vI (c.conf.slots - 1)) rfl (okI (wrap_i64 (by have:=mR hm.cf;omega) (by have:=mR hm.cf;omega)))<|rV (vB (decide (((mU c.bus:Nat):Int)<(c.conf.slots - 1)))) rfl<|oR 1 rfl<|rE 19<|cO ?_;exact fT rfl (dM (by unfold qL;rw[if_neg (by rw[h1];decide)]))
theorem PF{m addr n:Nat}(h:nM (m:Int) addr (n:Int)=true):addr+n≤m:=by
 unfold nM at h;simp only[aH,aS]at h;omega
theorem XP(m:ByteArray)(addr n:Nat)(hm:m.size≤1000)(ha:addr≤4294967295)(hn:n≤4):bT C0 150 [.v (.string m),vU addr,vN n] (.tup [.v (.string (if nM (m.size:Int) addr (n:Int)=true then Wi m addr n else nE)),vI (if nM (m.size:Int) addr (n:Int)=true then 0 else 1)]):=by
 refine bT.intro c0Ok Tryz.func150 rfl rfl (by kernel_rfl) rfl<|cSR<|oR 2 rfl<|rE 2<|bK<|cSR<|oR 1 rfl<|rV (vN m.size) rfl<|oR 2 rfl<|rCi rfl (Qh (m.size:Int) addr (n:Int) omT (BT ha))<|oR 1 rfl<|rE 8<|aV rfl (λ h1=>?_) (λ h1=>?_)
 ·refine cSR<|oR 2 rfl<|rE 10<|cO ?_;have hR: ¬ nM (m.size:Int) addr (n:Int)=true:=by simpa using h1
  exact fT rfl (by rw[if_neg hR,if_neg hR];rfl)
 ·have hle:=PF (show nM (m.size:Int) addr (n:Int)=true by simpa using h1);refine bB<|cSR<|oR 1 rfl<|rW (vN addr) rfl (okI (bU ha rfl))<|oR 1 rfl<|rE 11<|cSR<|oR 4 rfl ?_;have b1:addr+n≤4294967299:=aG ha hn;refine rW (vN (addr+n)) rfl (okI (bU b1 rfl))<|nW (.v (.string (m.extract addr (addr+n)))) rfl rfl (by refine⟨?_,?_,?_⟩<;>(first|exact aF _|decide|(apply Ff.2;exact omT)))<|oR 2 rfl<|rE 19<|cO ?_;have hR:nM (m.size:Int) addr (n:Int)=true:=by simpa using h1
  exact fT rfl (by rw[if_pos hR,if_pos hR];rfl)
theorem Mh(c:Co)(n:Nat)(hm:c.okM n)(R F T:AV)(ck:Bool)(e:Ent)(he:e.ok):bT C0 94 [.dp 64 0 (mcX c R F (.sl 2 (c.stores.map ptL) ck) T),.agg (enL e)] (.v (.string (oG c e))):=by
 refine bT.intro c0Ok Tryz.func94 rfl rfl (by kernel_rfl) rfl<|cSR<|rAl 0 rfl rfl<|oR 1 rfl<|rE 2<|cSR<|oR 20 rfl<|rCi rfl (Zy c.stores c.data c.bus c.mem false ck hm.ok.data hm.d4 hm.d2 (by have:=hm.mem;omega) (by have:=hm.bus;omega) hm.ok.buso (by have:=hm.sto;omega) hm.ok.stoo)<|oR 4 rfl<|rCi rfl (Ie e.i)<|rCi rfl (XP (Ko c.stores c.data c.bus c.mem) e.addr (dB e.i.op) (by rw[BM];have:=hm.mem;omega) he.addr (tL e.i.op))<|oR 5 rfl<|rE 34<|bK<|cRg<|oR 2 rfl<|rE 36<|cO ?_;exact fT rfl rfl
theorem VO(c:Co)(n:Nat)(hm:c.okM n)(F S T:AV)(ck:Bool)(line:Nat)(hline:line≤4294967295):bT C0 208 [.dp 64 0 (mcX c (.sl 17 (c.rob.map enL) ck) F S T),vU line] (vB (Jz c line)):=by
 refine dc1 (bT.intro c1Ok Tryz.func208 rfl rfl (by kernel_rfl) rfl ?_);refine cSR<|oR 1 rfl<|rE 1<|bK<|cSR<|oR 6 rfl<|rCi rfl (Af c.data line hm.ok.data hline)<|oR 7 rfl<|rE 15<|cSR<|oR 1 rfl<|rE 16<|aV rfl (λ h1=>?_) (λ h1=>?_)
 ·refine cSR<|oR 1 rfl<|rE 17<|cO ?_;exact fT rfl (dM (by unfold Jz;rw[h1];rfl))
 ·refine bB<|bK<|cSR<|oR 5 rfl<|rW (vN c.rob.length) rfl (cG enL c.rob)<|oR 1 rfl<|rE 23<|bL<|oE (κ:=Nat) (λ k=>⟨slotsF [(1,vU line),(21,vB ((aX c.data line).2.isSome)),(26,.sl 17 (c.rob.map enL) ck),(27,vN c.rob.length),(28,vN k)],heapF [],23⟩) (λ k=>k≤c.rob.length∧(c.rob.take k).any (λ e:Ent=>e.filled&&decide (lineOf e.addr=line))=false) (λ k=>c.rob.length - k) 0 (λ s=>s) (Weak.of_lists (λ s=>s) wT trivial rfl) (⟨aD _,rfl⟩) ?_;intro k hk;have hkn:k≤c.rob.length:=hk.1;have hkB:k≤1000:=by have:=hm.rob;omega
  refine cSR<|rW (vB (decide (k<c.rob.length))) rfl (okB (ltN _ _))<|rE 24<|bK<|aV rfl (λ h2=>?_) (λ h2=>?_)
  ·have h2p:=of_decide_eq_true h2;refine bB<|bK<|bL<|cSR ?_;obtain⟨x,hx⟩:∃ y_,c.rob[k]?=some y_:=⟨_,aA omT⟩;have hxo:=hm.ok.robo x (aB hx);refine rIx (enL x) (.dp 17 0 (enL x)) rfl rfl (jH hx) rfl<|oR 1 rfl<|rAl 26 rfl rfl<|rSt rfl<|rE 28<|cSR<|oR 3 rfl<|gN rfl<|gS rfl id<|lX (x:=vU (lineOf x.addr)) (g:=x.filled) rfl rfl rfl rfl (λ h=>h) rfl rfl rfl (.inl rfl) rfl (λ hg=>tC x.addr hxo.addr)<|gN rfl<|gBS (x:=vB ((lineOf x.addr)==line)) rfl hsT (okB (eqN _ _))<|cS rfl rfl rfl (λ h=>h)<|rE 37<|aV rfl (λ h3=>?_) (λ h3=>?_)
   ·refine cSR<|oR 1 rfl<|rE 38<|cO ?_;have z:=h3;exact fT rfl (dM (by unfold Jz;rw[It (f:=(λ e:Ent=>e.filled&&decide (lineOf e.addr=line))) hx (by simpa [qA]using z)];simp))
   ·refine bB<|cRg ?_;have b1:k+1≤1001:=aG hkB (aC 1);refine rW (vN (k+1)) rfl (okI (bU b1 rfl))<|oR 1 rfl<|rE 39 ?_;refine⟨k+1,λ s=>s,Weak.of_lists _ wT trivial rfl,⟨by omega,Is (f:=(λ e:Ent=>e.filled&&decide (lineOf e.addr=line))) hx (by have z:=h3;simpa [qA]using z) hk.2⟩,by show c.rob.length - (k+1)<c.rob.length - k;omega⟩
  ·have h2p:=aE h2;refine eP<|cSR<|oR 1 rfl<|rE 25<|cO ?_;exact fT rfl (dM (by unfold Jz;rw[h1,Lw (f:=(λ e:Ent=>e.filled&&decide (lineOf e.addr=line))) omT hk.2];rfl))
theorem XQ(c:Co)(n:Nat)(hm:c.okM n)(F S T:AV)(ck:Bool)(i:Nat)(hi:i<c.rob.length):bT C0 109 [.dp 64 0 (mcX c (.sl 17 (c.rob.map enL) ck) F S T),vN i] (vB (BX c i)):=by
 refine dc1 (bT.intro c1Ok Tryz.func109 rfl rfl (by kernel_rfl) rfl ?_);refine cSR<|oR 1 rfl<|rE 1<|cSR<|oR 6 rfl ?_;obtain⟨x,hx⟩:∃ y_,c.rob[i]?=some y_:=⟨_,aA omT⟩;have hxo:=hm.ok.robo x (aB hx);refine rIx (enL x) (.dp 17 0 (enL x)) rfl rfl (jH hx) rfl<|oR 1 rfl<|rAl 9 rfl rfl<|rSt rfl<|rE 11<|bK<|cSR<|oR 2 rfl<|rV (vB (x.is != 0)) rfl<|rE 14<|aV rfl (λ h1=>?_) (λ h1=>?_)
 ·have h1p:=wN h1;refine cSR<|oR 1 rfl<|rE 15<|cO ?_;exact fT rfl (dM (by unfold BX;rw[hx];dsimp only;rw[if_pos h1p]))
 ·have h1p:=wO h1;refine bB<|cSR<|oR 12 rfl<|rCi rfl (aaX c.conf.mode c.rob ck i hm.rob hm.ok.robo (by have:=hm.rob;omega))<|oR 1 rfl<|rE 28<|cSR<|oR 2 rfl<|rCi rfl (Gy x.i)<|oR 5 rfl<|rE 36<|cSR<|oR 12 rfl<|rCi rfl (Jv c.rob c.r ck i (x.i.rs1) hm.rob hm.ok.robo hm.ok.r (by have:=hm.rob;omega))<|oR 5 rfl<|rE 54<|bK<|cSR<|oR 2 rfl<|rCi rfl (qR x.i)<|rE 57<|bL<|cSR<|rW (vB ((kindOf x.i.op)==3)) rfl (okB (eqN _ _))<|oR 1 rfl<|rE 59<|aV rfl (λ h2=>?_) (λ h2=>?_)
  ·have h2p:=mC h2;refine cSR<|oR 3 rfl<|gN rfl<|gS rfl id<|gN rfl<|vW (x:=vB (dE ((kY c.rob c.r i x.i.rs1).isSome) (On c.conf.mode c.rob i) false)) (g:= !x.known) rfl rfl rfl rfl (λ h=>h) rfl rfl (λ hg hc=>by first|(rw[hg,hc];rfl)|simp_all)<|cS rfl rfl rfl (by simp)<|oR 1 rfl<|rE 68<|cO ?_;exact fT rfl (dM (by unfold BX;rw[hx];dsimp only;rw[if_neg omT,if_pos h2p];simp only[qA,cOr,pT]))
  ·have h2p:=mD h2;refine cSR<|rW (vB ((kindOf x.i.op)==4)) rfl (okB (eqN _ _))<|oR 1 rfl<|rE 61<|aV rfl (λ h3=>?_) (λ h3=>?_)
   ·have h3p:=mC h3;refine cSR<|oR 4 rfl<|gN rfl<|cS rfl rfl rfl (λ h=>h)<|oR 1 rfl<|gN rfl<|cS rfl rfl rfl (λ h=>h)<|oR 1 rfl<|rE 71<|cO ?_;exact fT rfl (dM (by unfold BX;rw[hx];dsimp only;rw[if_neg omT,if_neg h2p,if_pos h3p];simp only[qA,cOr,pT]))
   ·have h3p:=mD h3;refine bB<|cSR<|oR 11 rfl<|rCi rfl (Ux c.rob c.r ck i hm.rob hm.ok.robo hm.ok.r (by have:=hm.rob;omega))<|oR 7 rfl<|rE 80<|cSR<|oR 2 rfl<|gN rfl<|cS rfl rfl rfl (λ h=>h)<|oR 1 rfl<|rE 85<|cO ?_;exact fT rfl (dM (by unfold BX;rw[hx];dsimp only;rw[if_neg omT,if_neg h2p,if_neg h3p];simp only[qA,cOr,pT]))
theorem pL.frameB{P:Program}{G:Nat→Option (List AV)}{f:FuncId}{args:List AV}{b0 b1:Blk}{L:List (Nat×Blk)}{s:Nat}{r:AV}(H:pL P G f args (heapF ((0,b0)::L)) s (λ x h'=>x=r∧h'=heapF ((0,b1)::L)))(ρ:Nat→Nat)(K:AH)(s2:Nat)(hfull:Dr (heapF ((0,b0)::L)) s=true)(hL:FrL ρ K s s2 ((0,b0)::L))(hi:To ρ s=true)(ha:pX s args=true)(hr:eZ r=true)(hb:tP s b1=true):
  pL P G f (Cl ρ args) K s2 (λ x h'=>x=r∧h'=upd K (ρ 0) (some (Fn ρ b1))):=by
 have hs:0<s:=aP hL.1.2.1;refine H.frameL ρ K s2 hfull hL hi ha _ λ r' h' hP=>?_;obtain⟨rfl,rfl⟩:=hP;refine⟨_,⟨yM _ _ hr,rfl⟩,λ y blk hy=>?_⟩;by_cases he:y=ρ 0
 ·subst he;rw[cZ]at hy;injection hy with hy;exact .inl ⟨0,b1,rfl,(rA ρ omT).symm,by rw[←hy,xU ρ s s2 b1 hb]⟩
 ·rw[cA _ _ he]at hy;by_cases hx:∃ x,x<s∧ρ x=y
  ·obtain⟨x,hxs,rfl⟩:=hx;have hx0:x≠0:=λ e=>he (by rw[e]);obtain⟨blk0,hb0⟩:=Dv.1 (tV hfull x hxs);have hk:=hL.get x blk0 hb0;rw[hk.2.2.2]at hy;injection hy with hy;refine .inl ⟨x,blk0,?_,(rA ρ omT).symm,?_⟩
   ·have:Nat.beq 0 x=false:=by rw[←eO];exact λ e=>hx0 (aK e).symm
    simp only[heapF,this]at hb0⊢;exact hb0
   ·rw[←hy];exact (xU ρ s s2 blk0 hk.2.2.1).symm
  ·exact .inr ⟨hy,λ x hxs e=>hx ⟨x,hxs,e⟩⟩
theorem yH{c:Co}{line:Nat}(h:(gD c.data c.bus c.mem line (kK c.conf c.asked)).2.2=true):eG c line={c with data:=(gD c.data c.bus c.mem line (kK c.conf c.asked)).1,bus:=(gD c.data c.bus c.mem line (kK c.conf c.asked)).2.1,asked:=wrap64 (c.asked+1)}:=by unfold eG;generalize gD c.data c.bus c.mem line (kK c.conf c.asked)=t at h⊢;obtain⟨d,q,a⟩:=t;dsimp only at h;subst h;rfl
theorem AB{c:Co}{line:Nat}(h:(gD c.data c.bus c.mem line (kK c.conf c.asked)).2.2=false):eG c line={c with data:=(gD c.data c.bus c.mem line (kK c.conf c.asked)).1,bus:=(gD c.data c.bus c.mem line (kK c.conf c.asked)).2.1}:=by unfold eG;generalize gD c.data c.bus c.mem line (kK c.conf c.asked)=t at h⊢;obtain⟨d,q,a⟩:=t;dsimp only at h;subst h;rfl
theorem XR(c:Co)(n:Nat)(hm:c.okM n)(kind:Int)(line:Nat)(data:ByteArray)(hline:line≤4294967295)(kR:Bool)(xR:List (List AV))(kF:Bool)(xF:List (List AV))(kS:Bool)(xS:List (List AV))(kT:Bool)(xT:List (List AV)):pL C0.P C0.G 117 [.ptr 0 0,vI kind,vU line,.v (.string data)] (heapF [(0,.box (mcX c (.sl 17 xR kR) (.sl 2 xF kF) (.sl 2 xS kS) (.sl 9 xT kT)))]) 1 (λ x h'=>x=.tup []∧h'=heapF [(0,.box (mcX (iR c kind line data) (.sl 17 xR kR) (.sl 2 xF kF) (.sl 2 xS kS) (.sl 9 xT kT)))]):=by
 refine HCall.intro (C:=C1) (s:=1) c1Ok.at Tryz.func117 rfl rfl (by kernel_rfl) rfl rfl<|cSR<|oR 18 rfl<|rCi rfl (Ev c.conf c.asked hm.conf hm.ok.asked)<|oR 1 rfl<|rCi rfl (Mr c.bus kind line (kK c.conf c.asked) data false (by have:=hm.bus;omega) hm.ok.buso hline)<|oR 3 rfl<|rSt rfl<|rE 26<|cRg<|oR 5 rfl<|rW (vI (wrap64 (c.asked+1))) rfl (okI (w64 _))<|oR 3 rfl<|rSx 0 (mcX ({c with bus:=oY c.bus kind line (kK c.conf c.asked) data,asked:=wrap64 (c.asked+1)}:Co) (.sl 17 xR kR) (.sl 2 xF kF) (.sl 2 xS kS) (.sl 9 xT kT)) rfl rfl rfl<|rE 36 ?_;exact pE (rs:=[]) rfl (σ:=λ z=>z) ⟨rfl,rfl⟩ rfl (cB (λ z=>z) rfl rfl wH rfl)
theorem Zs(c:Co)(n:Nat)(hm:c.okM n)(kind:Int)(line:Nat)(data:ByteArray)(hline:line≤4294967295)(lR nR:Nat)(kR:Bool)(rR:List (List AV))(kF:Bool)(xF:List (List AV))(kS:Bool)(xS:List (List AV))(kT:Bool)(xT:List (List AV)):pL C0.P C0.G 117 [.ptr 0 0,vI kind,vU line,.v (.string data)] (heapF [(0,.box (mcX c (.osl 1 lR nR kR) (.sl 2 xF kF) (.sl 2 xS kS) (.sl 9 xT kT))),(1,.arr rR 17)]) 2 (λ x h'=>x=.tup []∧h'=heapF [(0,.box (mcX (iR c kind line data) (.osl 1 lR nR kR) (.sl 2 xF kF) (.sl 2 xS kS) (.sl 9 xT kT))),(1,.arr rR 17)]):=by
 refine HCall.intro (C:=C1) (s:=2) c1Ok.at Tryz.func117 rfl rfl (by kernel_rfl) rfl rfl<|cSR<|oR 18 rfl<|rCi rfl (Ev c.conf c.asked hm.conf hm.ok.asked)<|oR 1 rfl<|rCi rfl (Mr c.bus kind line (kK c.conf c.asked) data false (by have:=hm.bus;omega) hm.ok.buso hline)<|oR 3 rfl<|rSt rfl<|rE 27<|cRg<|oR 5 rfl<|rW (vI (wrap64 (c.asked+1))) rfl (okI (w64 _))<|oR 3 rfl<|rSx 0 (mcX ({c with bus:=oY c.bus kind line (kK c.conf c.asked) data,asked:=wrap64 (c.asked+1)}:Co) (.osl 1 lR nR kR) (.sl 2 xF kF) (.sl 2 xS kS) (.sl 9 xT kT)) rfl rfl rfl<|rE 37 ?_;exact pE (rs:=[]) rfl (σ:=λ z=>z) ⟨rfl,rfl⟩ rfl (cB (λ z=>z) rfl rfl wH rfl)
theorem Zt(c:Co)(n:Nat)(hm:c.okM n)(kind:Int)(line:Nat)(data:ByteArray)(hline:line≤4294967295)(kR:Bool)(xR:List (List AV))(lF nF:Nat)(kF:Bool)(rF:List (List AV))(kS:Bool)(xS:List (List AV))(kT:Bool)(xT:List (List AV)):pL C0.P C0.G 117 [.ptr 0 0,vI kind,vU line,.v (.string data)] (heapF [(0,.box (mcX c (.sl 17 xR kR) (.osl 1 lF nF kF) (.sl 2 xS kS) (.sl 9 xT kT))),(1,.arr rF 2)]) 2 (λ x h'=>x=.tup []∧h'=heapF [(0,.box (mcX (iR c kind line data) (.sl 17 xR kR) (.osl 1 lF nF kF) (.sl 2 xS kS) (.sl 9 xT kT))),(1,.arr rF 2)]):=by
 refine HCall.intro (C:=C1) (s:=2) c1Ok.at Tryz.func117 rfl rfl (by kernel_rfl) rfl rfl<|cSR<|oR 18 rfl<|rCi rfl (Ev c.conf c.asked hm.conf hm.ok.asked)<|oR 1 rfl<|rCi rfl (Mr c.bus kind line (kK c.conf c.asked) data false (by have:=hm.bus;omega) hm.ok.buso hline)<|oR 3 rfl<|rSt rfl<|rE 27<|cRg<|oR 5 rfl<|rW (vI (wrap64 (c.asked+1))) rfl (okI (w64 _))<|oR 3 rfl<|rSx 0 (mcX ({c with bus:=oY c.bus kind line (kK c.conf c.asked) data,asked:=wrap64 (c.asked+1)}:Co) (.sl 17 xR kR) (.osl 1 lF nF kF) (.sl 2 xS kS) (.sl 9 xT kT)) rfl rfl rfl<|rE 37 ?_;exact pE (rs:=[]) rfl (σ:=λ z=>z) ⟨rfl,rfl⟩ rfl (cB (λ z=>z) rfl rfl wH rfl)
theorem aaW(c:Co)(n:Nat)(hm:c.okM n)(line:Nat)(hline:line≤4294967295)(kR:Bool)(xR:List (List AV))(kF:Bool)(xF:List (List AV))(kS:Bool)(xS:List (List AV))(kT:Bool)(xT:List (List AV)):pL C0.P C0.G 96 [.ptr 0 0,vU line] (heapF [(0,.box (mcX c (.sl 17 xR kR) (.sl 2 xF kF) (.sl 2 xS kS) (.sl 9 xT kT)))]) 1 (λ x h'=>x=.tup []∧h'=heapF [(0,.box (mcX (eG c line) (.sl 17 xR kR) (.sl 2 xF kF) (.sl 2 xS kS) (.sl 9 xT kT)))]):=by
 refine HCall.intro (C:=C1) (s:=1) c1Ok.at Tryz.func96 rfl rfl (by kernel_rfl) rfl rfl<|cSR<|oR 1 rfl<|rE 2<|cSR<|oR 28 rfl<|rCi rfl (Ev c.conf c.asked hm.conf hm.ok.asked)<|rCi rfl (Mm c.data c.bus c.mem line (kK c.conf c.asked) hm.ok.data (by have:=hm.bus;omega) hm.ok.buso (by have:=hm.mem;omega) hline)<|oR 7 rfl<|rSt rfl<|oR 3 rfl<|rSx 0 (mcX ({c with data:=(gD c.data c.bus c.mem line (kK c.conf c.asked)).1,bus:=(gD c.data c.bus c.mem line (kK c.conf c.asked)).2.1}:Co) (.sl 17 xR kR) (.sl 2 xF kF) (.sl 2 xS kS) (.sl 9 xT kT)) rfl rfl rfl<|oR 1 rfl<|rE 45 ?_;refine cSR<|oR 1 rfl<|rE 46 ?_;refine aV rfl (λ h1=>?_) (λ h1=>?_)
 ·refine cRg<|oR 5 rfl<|rW (vI (wrap64 (c.asked+1))) rfl (okI (w64 _))<|oR 3 rfl<|rSx 0 (mcX ({c with data:=(gD c.data c.bus c.mem line (kK c.conf c.asked)).1,bus:=(gD c.data c.bus c.mem line (kK c.conf c.asked)).2.1,asked:=wrap64 (c.asked+1)}:Co) (.sl 17 xR kR) (.sl 2 xF kF) (.sl 2 xS kS) (.sl 9 xT kT)) rfl rfl rfl<|rE 56 ?_;rw[yH h1];exact pE (rs:=[]) rfl (σ:=λ z=>z) ⟨rfl,rfl⟩ rfl (cB (λ z=>z) rfl rfl wH rfl)
 ·refine bB ?_;rw[AB h1];exact pE (rs:=[]) rfl (σ:=λ z=>z) ⟨rfl,rfl⟩ rfl (cB (λ z=>z) rfl rfl wH rfl)
theorem Zu(c:Co)(n:Nat)(hm:c.okM n)(line:Nat)(hline:line≤4294967295)(lR nR:Nat)(kR:Bool)(rR:List (List AV))(kF:Bool)(xF:List (List AV))(kS:Bool)(xS:List (List AV))(kT:Bool)(xT:List (List AV)):pL C0.P C0.G 96 [.ptr 0 0,vU line] (heapF [(0,.box (mcX c (.osl 1 lR nR kR) (.sl 2 xF kF) (.sl 2 xS kS) (.sl 9 xT kT))),(1,.arr rR 17)]) 2 (λ x h'=>x=.tup []∧h'=heapF [(0,.box (mcX (eG c line) (.osl 1 lR nR kR) (.sl 2 xF kF) (.sl 2 xS kS) (.sl 9 xT kT))),(1,.arr rR 17)]):=by
 refine HCall.intro (C:=C1) (s:=2) c1Ok.at Tryz.func96 rfl rfl (by kernel_rfl) rfl rfl<|cSR<|oR 1 rfl<|rE 3<|cSR<|oR 28 rfl<|rCi rfl (Ev c.conf c.asked hm.conf hm.ok.asked)<|rCi rfl (Mm c.data c.bus c.mem line (kK c.conf c.asked) hm.ok.data (by have:=hm.bus;omega) hm.ok.buso (by have:=hm.mem;omega) hline)<|oR 7 rfl<|rSt rfl<|oR 3 rfl<|rSx 0 (mcX ({c with data:=(gD c.data c.bus c.mem line (kK c.conf c.asked)).1,bus:=(gD c.data c.bus c.mem line (kK c.conf c.asked)).2.1}:Co) (.osl 1 lR nR kR) (.sl 2 xF kF) (.sl 2 xS kS) (.sl 9 xT kT)) rfl rfl rfl<|oR 1 rfl<|rE 46 ?_;refine cSR<|oR 1 rfl<|rE 47 ?_;refine aV rfl (λ h1=>?_) (λ h1=>?_)
 ·refine cRg<|oR 5 rfl<|rW (vI (wrap64 (c.asked+1))) rfl (okI (w64 _))<|oR 3 rfl<|rSx 0 (mcX ({c with data:=(gD c.data c.bus c.mem line (kK c.conf c.asked)).1,bus:=(gD c.data c.bus c.mem line (kK c.conf c.asked)).2.1,asked:=wrap64 (c.asked+1)}:Co) (.osl 1 lR nR kR) (.sl 2 xF kF) (.sl 2 xS kS) (.sl 9 xT kT)) rfl rfl rfl<|rE 57 ?_;rw[yH h1];exact pE (rs:=[]) rfl (σ:=λ z=>z) ⟨rfl,rfl⟩ rfl (cB (λ z=>z) rfl rfl wH rfl)
 ·refine bB ?_;rw[AB h1];exact pE (rs:=[]) rfl (σ:=λ z=>z) ⟨rfl,rfl⟩ rfl (cB (λ z=>z) rfl rfl wH rfl)
theorem XS(c:Co)(n:Nat)(hm:c.okM n)(line:Nat)(hline:line≤4294967295)(lR nR:Nat)(kR:Bool)(rR:List (List AV))(kF:Bool)(xF:List (List AV))(kS:Bool)(xS:List (List AV))(lT nT:Nat)(kT:Bool)(rT:List (List AV)):pL C0.P C0.G 96 [.ptr 0 0,vU line] (heapF [(0,.box (mcX c (.osl 1 lR nR kR) (.sl 2 xF kF) (.sl 2 xS kS) (.osl 2 lT nT kT))),(1,.arr rR 17),(2,.arr rT 9)]) 3 (λ x h'=>x=.tup []∧h'=heapF [(0,.box (mcX (eG c line) (.osl 1 lR nR kR) (.sl 2 xF kF) (.sl 2 xS kS) (.osl 2 lT nT kT))),(1,.arr rR 17),(2,.arr rT 9)]):=by
 refine HCall.intro (C:=C1) (s:=3) c1Ok.at Tryz.func96 rfl rfl (by kernel_rfl) rfl rfl<|cSR<|oR 1 rfl<|rE 4<|cSR<|oR 28 rfl<|rCi rfl (Ev c.conf c.asked hm.conf hm.ok.asked)<|rCi rfl (Mm c.data c.bus c.mem line (kK c.conf c.asked) hm.ok.data (by have:=hm.bus;omega) hm.ok.buso (by have:=hm.mem;omega) hline)<|oR 7 rfl<|rSt rfl<|oR 3 rfl<|rSx 0 (mcX ({c with data:=(gD c.data c.bus c.mem line (kK c.conf c.asked)).1,bus:=(gD c.data c.bus c.mem line (kK c.conf c.asked)).2.1}:Co) (.osl 1 lR nR kR) (.sl 2 xF kF) (.sl 2 xS kS) (.osl 2 lT nT kT)) rfl rfl rfl<|oR 1 rfl<|rE 47 ?_;refine cSR<|oR 1 rfl<|rE 48 ?_;refine aV rfl (λ h1=>?_) (λ h1=>?_)
 ·refine cRg<|oR 5 rfl<|rW (vI (wrap64 (c.asked+1))) rfl (okI (w64 _))<|oR 3 rfl<|rSx 0 (mcX ({c with data:=(gD c.data c.bus c.mem line (kK c.conf c.asked)).1,bus:=(gD c.data c.bus c.mem line (kK c.conf c.asked)).2.1,asked:=wrap64 (c.asked+1)}:Co) (.osl 1 lR nR kR) (.sl 2 xF kF) (.sl 2 xS kS) (.osl 2 lT nT kT)) rfl rfl rfl<|rE 58 ?_;rw[yH h1];exact pE (rs:=[]) rfl (σ:=λ z=>z) ⟨rfl,rfl⟩ rfl (cB (λ z=>z) rfl rfl wH rfl)
 ·refine bB ?_;rw[AB h1];exact pE (rs:=[]) rfl (σ:=λ z=>z) ⟨rfl,rfl⟩ rfl (cB (λ z=>z) rfl rfl wH rfl)
theorem VP(c:Co)(n:Nat)(hm:c.okM n)(line:Nat)(hline:line≤4294967295)(lR nR:Nat)(kR:Bool)(rR:List (List AV))(kF:Bool)(xF:List (List AV))(lS nS:Nat)(kS:Bool)(rS:List (List AV))(lT nT:Nat)(kT:Bool)(rT:List (List AV)):pL C0.P C0.G 96 [.ptr 0 0,vU line] (heapF [(0,.box (mcX c (.osl 1 lR nR kR) (.sl 2 xF kF) (.osl 2 lS nS kS) (.osl 3 lT nT kT))),(1,.arr rR 17),(2,.arr rS 2),(3,.arr rT 9)]) 4 (λ x h'=>x=.tup []∧h'=heapF [(0,.box (mcX (eG c line) (.osl 1 lR nR kR) (.sl 2 xF kF) (.osl 2 lS nS kS) (.osl 3 lT nT kT))),(1,.arr rR 17),(2,.arr rS 2),(3,.arr rT 9)]):=by
 refine HCall.intro (C:=C1) (s:=4) c1Ok.at Tryz.func96 rfl rfl (by kernel_rfl) rfl rfl<|cSR<|oR 1 rfl<|rE 5<|cSR<|oR 28 rfl<|rCi rfl (Ev c.conf c.asked hm.conf hm.ok.asked)<|rCi rfl (Mm c.data c.bus c.mem line (kK c.conf c.asked) hm.ok.data (by have:=hm.bus;omega) hm.ok.buso (by have:=hm.mem;omega) hline)<|oR 7 rfl<|rSt rfl<|oR 3 rfl<|rSx 0 (mcX ({c with data:=(gD c.data c.bus c.mem line (kK c.conf c.asked)).1,bus:=(gD c.data c.bus c.mem line (kK c.conf c.asked)).2.1}:Co) (.osl 1 lR nR kR) (.sl 2 xF kF) (.osl 2 lS nS kS) (.osl 3 lT nT kT)) rfl rfl rfl<|oR 1 rfl<|rE 48 ?_;refine cSR<|oR 1 rfl<|rE 49 ?_;refine aV rfl (λ h1=>?_) (λ h1=>?_)
 ·refine cRg<|oR 5 rfl<|rW (vI (wrap64 (c.asked+1))) rfl (okI (w64 _))<|oR 3 rfl<|rSx 0 (mcX ({c with data:=(gD c.data c.bus c.mem line (kK c.conf c.asked)).1,bus:=(gD c.data c.bus c.mem line (kK c.conf c.asked)).2.1,asked:=wrap64 (c.asked+1)}:Co) (.osl 1 lR nR kR) (.sl 2 xF kF) (.osl 2 lS nS kS) (.osl 3 lT nT kT)) rfl rfl rfl<|rE 59 ?_;rw[yH h1];exact pE (rs:=[]) rfl (σ:=λ z=>z) ⟨rfl,rfl⟩ rfl (cB (λ z=>z) rfl rfl wH rfl)
 ·refine bB ?_;rw[AB h1];exact pE (rs:=[]) rfl (σ:=λ z=>z) ⟨rfl,rfl⟩ rfl (cB (λ z=>z) rfl rfl wH rfl)
theorem aaR(e:Ent)(he:e.ok):bT C0 98 [.agg (enL e)] (.agg (enL (goE e))):=by
 refine bT.intro c0Ok Tryz.func98 rfl rfl (by kernel_rfl) rfl<|cSR<|rAl 0 rfl rfl<|rAl 1 rfl rfl<|rE 2<|bK<|cSR<|oR 2 rfl<|rV (vB (e.is != 1)) rfl<|rE 5<|aV rfl (λ h1=>?_) (λ h1=>?_)
 ·refine cSR<|oR 1 rfl<|rSt rfl<|rE 7<|cO ?_;replace h1:=sP h1;refine eQ rfl rcT rfl (oT (e:=(⟨e.no,e.pc,⟨e.i.op,e.i.rd,e.i.rs1,e.i.rs2,e.i.imm⟩,e.guess,e.is,e.left,e.value,e.next,e.addr,e.halt,e.took,e.known,e.filled⟩:Ent)) ?_);simp[w64,goE,h1]<;>(intros;simp_all)
 ·refine bB<|cSR<|oR 2 rfl<|rV (vI (IntKind.wrap .i64 (e.left - 1))) rfl<|oR 1 rfl<|rSt rfl<|rE 10<|bK<|cSR<|oR 2 rfl<|rV (vB (decide ((IntKind.wrap .i64 (e.left - 1))≤0))) rfl<|rE 13<|aV rfl (λ h2=>?_) (λ h2=>?_)
  ·refine cSR<|oR 1 rfl<|rSt rfl<|rE 15<|cSR<|oR 1 rfl<|rSt rfl<|rE 17<|cSR<|oR 2 rfl<|rCi rfl (qR e.i)<|rW (vB ((kindOf e.i.op)==5)) rfl (okB (eqN _ _))<|oR 1 rfl<|gN rfl<|gS rfl id<|gBS (x:=vB (e.halt==0)) rfl id rfl<|cS rfl rfl rfl (λ h=>h)<|rE 26<|aV rfl (λ h3=>?_) (λ h3=>?_)
   ·refine cRg<|oR 1 rfl<|rSt rfl<|rE 28<|cSR<|oR 1 rfl<|rSt rfl<|rE 30<|cO ?_;replace h1:=sP h1;replace h2:=sP h2;replace h3:=sP h3;refine eQ rfl rcT rfl (oT (e:=(⟨e.no,e.pc,⟨e.i.op,e.i.rd,e.i.rs1,e.i.rs2,e.i.imm⟩,e.guess,3,0,e.value,e.next,e.addr,e.halt,e.took,true,e.filled⟩:Ent)) ?_);simp[w64,goE,h1,h2,h3]<;>(intros;simp_all)
   ·refine bB<|cSR<|oR 1 rfl<|rSt rfl<|rE 28<|cO ?_;replace h1:=sP h1;replace h2:=sP h2;replace h3:=sP h3;refine eQ rfl rcT rfl (oT (e:=(⟨e.no,e.pc,⟨e.i.op,e.i.rd,e.i.rs1,e.i.rs2,e.i.imm⟩,e.guess,3,0,e.value,e.next,e.addr,e.halt,e.took,e.known,e.filled⟩:Ent)) ?_);simp[w64,goE,h1,h2,h3]<;>(intros;simp_all)
  ·refine bB<|cSR<|oR 1 rfl<|rSt rfl<|rE 15<|cO ?_;replace h1:=sP h1;replace h2:=sP h2;refine eQ rfl rcT rfl (oT (e:=(⟨e.no,e.pc,⟨e.i.op,e.i.rd,e.i.rs1,e.i.rs2,e.i.imm⟩,e.guess,e.is,IntKind.wrap .i64 (e.left - 1),e.value,e.next,e.addr,e.halt,e.took,e.known,e.filled⟩:Ent)) ?_);simp[w64,goE,h1,h2]<;>(intros;simp_all)
theorem WD(e:Ent)(a b:Nat)(he:e.ok)(ha:a≤4294967295)(hb:b≤4294967295):bT C0 168 [.agg (enL e),vU a,vU b] (.agg (enL (oU e a b))):=by
 refine bT.intro c0Ok Tryz.func168 rfl rfl (by kernel_rfl) rfl<|cSR<|rAl 0 rfl rfl<|rAl 1 rfl rfl<|rE 2<|cSR<|oR 2 rfl<|rCi rfl (qR e.i)<|oR 1 rfl<|rE 6<|bK<|cSR<|oR 2 rfl<|rV (vB (e.is != 0)) rfl<|oR 1 rfl<|gN rfl<|gBS (x:=vB ((kindOf e.i.op)==3)) rfl id (okB (eqN _ _))<|cS rfl rfl rfl (by simp)<|oR 1 rfl<|gN rfl<|gBS (x:=vB ((kindOf e.i.op)==4)) rfl id (okB (eqN _ _))<|cS rfl rfl rfl (by simp)<|rE 17<|aV rfl (λ h1=>?_) (λ h1=>?_)
 ·refine cSR<|oR 1 rfl<|rSt rfl<|rE 19<|cO ?_;replace h1:=sP h1;refine eQ rfl rcT rfl (oT (e:=(⟨e.no,e.pc,⟨e.i.op,e.i.rd,e.i.rs1,e.i.rs2,e.i.imm⟩,e.guess,e.is,e.left,e.value,e.next,e.addr,e.halt,e.took,e.known,e.filled⟩:Ent)) ?_);simp[w64,oU,tS,up4,h1]<;>(intros;simp_all)
 ·refine bB<|cSR<|oR 1 rfl<|rSt rfl<|rE 19<|cSR<|oR 1 rfl<|rSt rfl<|rE 21<|bK<|cSR<|oR 2 rfl<|rCi rfl (Ig e.i)<|rV (vB ((wr e.i) != 0)) rfl<|rE 25<|aV rfl (λ h2=>?_) (λ h2=>?_)
  ·refine cRg<|oR 6 rfl<|rCi rfl (Yp e.i e.pc a b (BT he.imm) (BT he.pc) (BT ha) (BT hb))<|oR 1 rfl<|rSt rfl<|rE 34<|cSR<|oR 2 rfl ?_;refine rV (vU ((e.pc+4) % 4294967296)) rfl<|oR 1 rfl<|rSt rfl<|rE 39<|cSR<|oR 1 rfl<|rSt rfl<|rE 41<|bK<|cSR<|oR 1 rfl<|rE 42<|bL<|bK<|cRg<|rW (vB ((kindOf e.i.op)==1)) rfl (okB (eqN _ _))<|oR 1 rfl<|rE 44<|aV rfl (λ h3=>?_) (λ h3=>?_)
   ·refine cRg<|oR 1 rfl<|rSt rfl<|rE 46<|cSR<|oR 1 rfl<|rSt rfl<|rE 48<|cO ?_;replace h1:=sP h1;replace h2:=sP h2;replace h3:=sP h3;refine eQ rfl rcT rfl (oT (e:=(⟨e.no,e.pc,⟨e.i.op,e.i.rd,e.i.rs1,e.i.rs2,e.i.imm⟩,e.guess,1,3,Qj e.i.op e.i.imm e.pc a b,(e.pc+4) % 4294967296,e.addr,e.halt,e.took,e.known,e.filled⟩:Ent)) ?_);simp[w64,oU,tS,up4,h1,h2,h3]<;>(intros;simp_all)
   ·refine cSR<|rW (vB ((kindOf e.i.op)==2)) rfl (okB (eqN _ _))<|oR 1 rfl<|rE 46<|aV rfl (λ h4=>?_) (λ h4=>?_)
    ·refine cSR<|oR 5 rfl<|rCi rfl (Yq e.i.op a b (BT ha) (BT hb))<|oR 1 rfl<|rSt rfl<|rE 54<|cRg<|oR 3 rfl<|rSt rfl<|rE 58<|cSR<|oR 1 rfl<|rSt rfl<|rE 60<|cO ?_;replace h1:=sP h1;replace h2:=sP h2;replace h3:=sP h3;replace h4:=sP h4;refine eQ rfl rcT rfl (oT (e:=(⟨e.no,e.pc,⟨e.i.op,e.i.rd,e.i.rs1,e.i.rs2,e.i.imm⟩,e.guess,1,(zF e.i.op a b:Int),Qj e.i.op e.i.imm e.pc a b,(e.pc+4) % 4294967296,e.addr,e.halt,(zF e.i.op a b:Int),e.known,e.filled⟩:Ent)) ?_);simp[w64,oU,tS,up4,h1,h2,h3,h4]<;>(intros;simp_all)
    ·refine cSR<|rW (vB ((kindOf e.i.op)==5)) rfl (okB (eqN _ _))<|oR 1 rfl<|rE 48<|aV rfl (λ h5=>?_) (λ h5=>?_)
     ·refine cSR<|oR 6 rfl<|rCi rfl (Qg e.i e.pc a b (BT he.imm) (BT he.pc) (BT ha) (BT hb))<|oR 5 rfl<|rE 60<|cSR<|oR 1 rfl<|rE 61<|aV rfl (λ h6=>?_) (λ h6=>?_)
      ·refine cRg<|oR 2 rfl<|rSt rfl<|rE 64<|cSR<|oR 1 rfl<|rSt rfl<|rE 66<|cO ?_;replace h1:=sP h1;replace h2:=sP h2;replace h3:=sP h3;replace h4:=sP h4;replace h5:=sP h5;replace h6:=sP h6;refine eQ rfl rcT rfl (oT (e:=(⟨e.no,e.pc,⟨e.i.op,e.i.rd,e.i.rs1,e.i.rs2,e.i.imm⟩,e.guess,1,1,Qj e.i.op e.i.imm e.pc a b,wS e.i.op e.i.imm e.pc a b,e.addr,e.halt,e.took,e.known,e.filled⟩:Ent)) ?_);simp[w64,oU,tS,up4,h1,h2,h3,h4,h5,h6]<;>(intros;simp_all)
      ·refine cSR<|oR 1 rfl<|rSt rfl<|rE 63<|cRg<|oR 1 rfl<|rSt rfl<|rE 65<|cSR<|oR 1 rfl<|rSt rfl<|rE 67<|cO ?_;replace h1:=sP h1;replace h2:=sP h2;replace h3:=sP h3;replace h4:=sP h4;replace h5:=sP h5;replace h6:=sP h6;refine eQ rfl rcT rfl (oT (e:=(⟨e.no,e.pc,⟨e.i.op,e.i.rd,e.i.rs1,e.i.rs2,e.i.imm⟩,e.guess,1,1,0,(e.pc+4) % 4294967296,e.addr,3,e.took,e.known,e.filled⟩:Ent)) ?_);simp[w64,oU,tS,up4,h1,h2,h3,h4,h5,h6]<;>(intros;simp_all)
     ·refine bB<|cSR<|oR 1 rfl<|rSt rfl<|rE 50<|cO ?_;replace h1:=sP h1;replace h2:=sP h2;replace h3:=sP h3;replace h4:=sP h4;replace h5:=sP h5;refine eQ rfl rcT rfl (oT (e:=(⟨e.no,e.pc,⟨e.i.op,e.i.rd,e.i.rs1,e.i.rs2,e.i.imm⟩,e.guess,1,1,Qj e.i.op e.i.imm e.pc a b,(e.pc+4) % 4294967296,e.addr,e.halt,e.took,e.known,e.filled⟩:Ent)) ?_);simp[w64,oU,tS,up4,h1,h2,h3,h4,h5]<;>(intros;simp_all)
  ·refine bB<|cSR<|oR 2 rfl ?_;refine rV (vU ((e.pc+4) % 4294967296)) rfl<|oR 1 rfl<|rSt rfl<|rE 30<|cSR<|oR 1 rfl<|rSt rfl<|rE 32<|bK<|cSR<|oR 1 rfl<|rE 33<|bL<|bK<|cRg<|rW (vB ((kindOf e.i.op)==1)) rfl (okB (eqN _ _))<|oR 1 rfl<|rE 35<|aV rfl (λ h7=>?_) (λ h7=>?_)
   ·refine cRg<|oR 1 rfl<|rSt rfl<|rE 37<|cSR<|oR 1 rfl<|rSt rfl<|rE 39<|cO ?_;replace h1:=sP h1;replace h2:=sP h2;replace h7:=sP h7;refine eQ rfl rcT rfl (oT (e:=(⟨e.no,e.pc,⟨e.i.op,e.i.rd,e.i.rs1,e.i.rs2,e.i.imm⟩,e.guess,1,3,0,(e.pc+4) % 4294967296,e.addr,e.halt,e.took,e.known,e.filled⟩:Ent)) ?_);simp[w64,oU,tS,up4,h1,h2,h7]<;>(intros;simp_all)
   ·refine cSR<|rW (vB ((kindOf e.i.op)==2)) rfl (okB (eqN _ _))<|oR 1 rfl<|rE 37<|aV rfl (λ h8=>?_) (λ h8=>?_)
    ·refine cSR<|oR 5 rfl<|rCi rfl (Yq e.i.op a b (BT ha) (BT hb))<|oR 1 rfl<|rSt rfl<|rE 45<|cRg<|oR 3 rfl<|rSt rfl<|rE 49<|cSR<|oR 1 rfl<|rSt rfl<|rE 51<|cO ?_;replace h1:=sP h1;replace h2:=sP h2;replace h7:=sP h7;replace h8:=sP h8;refine eQ rfl rcT rfl (oT (e:=(⟨e.no,e.pc,⟨e.i.op,e.i.rd,e.i.rs1,e.i.rs2,e.i.imm⟩,e.guess,1,(zF e.i.op a b:Int),0,(e.pc+4) % 4294967296,e.addr,e.halt,(zF e.i.op a b:Int),e.known,e.filled⟩:Ent)) ?_);simp[w64,oU,tS,up4,h1,h2,h7,h8]<;>(intros;simp_all)
    ·refine cSR<|rW (vB ((kindOf e.i.op)==5)) rfl (okB (eqN _ _))<|oR 1 rfl<|rE 39<|aV rfl (λ h9=>?_) (λ h9=>?_)
     ·refine cSR<|oR 6 rfl<|rCi rfl (Qg e.i e.pc a b (BT he.imm) (BT he.pc) (BT ha) (BT hb))<|oR 5 rfl<|rE 51<|cSR<|oR 1 rfl<|rE 52<|aV rfl (λ h10=>?_) (λ h10=>?_)
      ·refine cRg<|oR 2 rfl<|rSt rfl<|rE 55<|cSR<|oR 1 rfl<|rSt rfl<|rE 57<|cO ?_;replace h1:=sP h1;replace h2:=sP h2;replace h7:=sP h7;replace h8:=sP h8;replace h9:=sP h9;replace h10:=sP h10;refine eQ rfl rcT rfl (oT (e:=(⟨e.no,e.pc,⟨e.i.op,e.i.rd,e.i.rs1,e.i.rs2,e.i.imm⟩,e.guess,1,1,0,wS e.i.op e.i.imm e.pc a b,e.addr,e.halt,e.took,e.known,e.filled⟩:Ent)) ?_);simp[w64,oU,tS,up4,h1,h2,h7,h8,h9,h10]<;>(intros;simp_all)
      ·refine cSR<|oR 1 rfl<|rSt rfl<|rE 54<|cRg<|oR 1 rfl<|rSt rfl<|rE 56<|cSR<|oR 1 rfl<|rSt rfl<|rE 58<|cO ?_;replace h1:=sP h1;replace h2:=sP h2;replace h7:=sP h7;replace h8:=sP h8;replace h9:=sP h9;replace h10:=sP h10;refine eQ rfl rcT rfl (oT (e:=(⟨e.no,e.pc,⟨e.i.op,e.i.rd,e.i.rs1,e.i.rs2,e.i.imm⟩,e.guess,1,1,0,(e.pc+4) % 4294967296,e.addr,3,e.took,e.known,e.filled⟩:Ent)) ?_);simp[w64,oU,tS,up4,h1,h2,h7,h8,h9,h10]<;>(intros;simp_all)
     ·refine bB<|cSR<|oR 1 rfl<|rSt rfl<|rE 41<|cO ?_;replace h1:=sP h1;replace h2:=sP h2;replace h7:=sP h7;replace h8:=sP h8;replace h9:=sP h9;refine eQ rfl rcT rfl (oT (e:=(⟨e.no,e.pc,⟨e.i.op,e.i.rd,e.i.rs1,e.i.rs2,e.i.imm⟩,e.guess,1,1,0,(e.pc+4) % 4294967296,e.addr,e.halt,e.took,e.known,e.filled⟩:Ent)) ?_);simp[w64,oU,tS,up4,h1,h2,h7,h8,h9]<;>(intros;simp_all)
theorem UK(e:Ent)(size:Int)(a:Nat)(he:e.ok)(hs:size<9223372036854775808)(ha:a≤4294967295):bT C0 166 [.agg (enL e),vI size,vU a] (.agg (enL (qO e size a))):=by
 refine bT.intro c0Ok Tryz.func166 rfl rfl (by kernel_rfl) rfl<|cSR<|rAl 0 rfl rfl<|rAl 1 rfl rfl<|rE 2<|cSR<|oR 2 rfl<|rCi rfl (qR e.i)<|oR 1 rfl<|rE 6<|bK<|cSR<|oR 1 rfl<|rW (vB ((kindOf e.i.op) != 3)) rfl (okB (neN _ _))<|oR 1 rfl<|gN rfl<|gBS (x:=vB ((kindOf e.i.op) != 4)) rfl id (okB (neN _ _))<|cS rfl rfl rfl (λ h=>h)<|oR 1 rfl<|gN rfl<|gS rfl id<|gBS (x:=vB (e.is != 0)) rfl id rfl<|cS rfl rfl rfl (by simp)<|oR 1 rfl<|gN rfl<|gS rfl id<|cS rfl rfl rfl (by simp)<|rE 21<|aV rfl (λ h1=>?_) (λ h1=>?_)
 ·refine cSR<|oR 1 rfl<|rSt rfl<|rE 23<|cO ?_;replace h1:=sP h1;refine eQ rfl rcT rfl (oT (e:=(⟨e.no,e.pc,⟨e.i.op,e.i.rd,e.i.rs1,e.i.rs2,e.i.imm⟩,e.guess,e.is,e.left,e.value,e.next,e.addr,e.halt,e.took,e.known,e.filled⟩:Ent)) ?_);simp[w64,qO,h1]<;>(intros;simp_all)
 ·refine bB<|cSR<|oR 4 rfl ?_;refine rV (vU ((a+e.i.imm) % 4294967296)) rfl<|oR 1 rfl<|rSt rfl<|rE 28<|bK<|cSR<|oR 5 rfl<|rCi rfl (Ie e.i)<|rCi rfl (Qh size ((a+e.i.imm) % 4294967296) (dB e.i.op:Nat) hs (aY _ (by decide)))<|rE 35<|aV rfl (λ h2=>?_) (λ h2=>?_)
  ·refine cSR<|oR 1 rfl<|rSt rfl<|rE 37<|cSR<|oR 1 rfl<|rSt rfl<|rE 39<|cO ?_;replace h1:=sP h1;replace h2:=sP h2;refine eQ rfl rcT rfl (oT (e:=(⟨e.no,e.pc,⟨e.i.op,e.i.rd,e.i.rs1,e.i.rs2,e.i.imm⟩,e.guess,e.is,e.left,e.value,e.next,(a+e.i.imm) % 4294967296,e.halt,e.took,true,e.filled⟩:Ent)) ?_);simp[w64,qO,h1,h2]<;>(intros;simp_all)
  ·refine bB<|cSR<|oR 1 rfl<|rSt rfl<|rE 37<|bK<|cSR<|oR 1 rfl<|rW (vB ((kindOf e.i.op)==4)) rfl (okB (eqN _ _))<|rE 39<|aV rfl (λ h3=>?_) (λ h3=>?_)
   ·refine cRg<|oR 1 rfl<|rSt rfl<|rE 41<|cSR<|oR 1 rfl<|rSt rfl<|rE 43<|cSR<|oR 1 rfl<|rSt rfl<|rE 45<|cO ?_;replace h1:=sP h1;replace h2:=sP h2;replace h3:=sP h3;refine eQ rfl rcT rfl (oT (e:=(⟨e.no,e.pc,⟨e.i.op,e.i.rd,e.i.rs1,e.i.rs2,e.i.imm⟩,e.guess,3,e.left,e.value,e.next,(a+e.i.imm) % 4294967296,5,e.took,e.known,e.filled⟩:Ent)) ?_);simp[w64,qO,h1,h2,h3]<;>(intros;simp_all)
   ·refine bB<|cSR<|oR 1 rfl<|rSt rfl<|rE 41<|cSR<|oR 1 rfl<|rSt rfl<|rE 43<|cO ?_;replace h1:=sP h1;replace h2:=sP h2;replace h3:=sP h3;refine eQ rfl rcT rfl (oT (e:=(⟨e.no,e.pc,⟨e.i.op,e.i.rd,e.i.rs1,e.i.rs2,e.i.imm⟩,e.guess,3,e.left,e.value,e.next,(a+e.i.imm) % 4294967296,4,e.took,e.known,e.filled⟩:Ent)) ?_);simp[w64,qO,h1,h2,h3]<;>(intros;simp_all)
theorem QN(e:Ent)(s:ByteArray)(he:e.ok)(hs:s.size<9223372036854775808):bT C0 93 [.agg (enL e),.v (.string s)] (.agg (enL (rU e s))):=by
 refine bT.intro c0Ok Tryz.func93 rfl rfl (by kernel_rfl) rfl<|cSR<|rAl 0 rfl rfl<|rAl 1 rfl rfl<|rE 2<|bK<|cSR<|oR 2 rfl<|rCi rfl (qR e.i)<|rW (vB ((kindOf e.i.op) != 3)) rfl (okB (neN _ _))<|oR 1 rfl<|gN rfl<|gS rfl id<|gS rfl id<|cS rfl rfl rfl (by simp)<|oR 1 rfl<|gN rfl<|gS rfl id<|gBS (x:=vB (e.is != 0)) rfl id rfl<|gS rfl id<|gN rfl<|gS rfl id<|gBS (x:=vB (e.is != 2)) rfl id rfl<|vW (x:=vB (dE (e.is != 0) (e.is != 2) false)) (g:= !(dE ((kindOf e.i.op) != 3) true (!e.known))) rfl rfl rfl rfl (λ h=>h) rfl rfl (λ hg hc=>by first|(rw[hg,hc];rfl)|simp_all)<|cS rfl rfl rfl (by simp)<|rE 21<|aV rfl (λ h1=>?_) (λ h1=>?_)
 ·refine cSR<|oR 1 rfl<|rSt rfl<|rE 23<|cO ?_;replace h1:=sP h1;refine eQ rfl rcT rfl (oT (e:=(⟨e.no,e.pc,⟨e.i.op,e.i.rd,e.i.rs1,e.i.rs2,e.i.imm⟩,e.guess,e.is,e.left,e.value,e.next,e.addr,e.halt,e.took,e.known,e.filled⟩:Ent)) ?_);simp[w64,rU,h1]<;>(intros;simp_all)
 ·refine bB<|cSR<|oR 1 rfl<|rSt rfl<|rE 23<|cSR<|oR 1 rfl<|rSt rfl<|rE 25<|cSR<|oR 1 rfl<|rSt rfl<|rE 27<|bK<|cSR<|oR 2 rfl<|rCi rfl (Ig e.i)<|rV (vB ((wr e.i) != 0)) rfl<|rE 31<|aV rfl (λ h2=>?_) (λ h2=>?_)
  ·refine cRg<|oR 4 rfl<|rCi rfl (ZE e.i.op s hs)<|oR 1 rfl<|rSt rfl<|rE 38<|cSR<|oR 1 rfl<|rSt rfl<|rE 40<|cO ?_;replace h1:=sP h1;replace h2:=sP h2;refine eQ rfl rcT rfl (oT (e:=(⟨e.no,e.pc,⟨e.i.op,e.i.rd,e.i.rs1,e.i.rs2,e.i.imm⟩,e.guess,1,1,loadP e.i.op s,e.next,e.addr,e.halt,e.took,e.known,e.filled⟩:Ent)) ?_);simp[w64,rU,h1,h2]<;>(intros;simp_all)
  ·refine bB<|cSR<|oR 1 rfl<|rSt rfl<|rE 33<|cO ?_;replace h1:=sP h1;replace h2:=sP h2;refine eQ rfl rcT rfl (oT (e:=(⟨e.no,e.pc,⟨e.i.op,e.i.rd,e.i.rs1,e.i.rs2,e.i.imm⟩,e.guess,1,1,0,e.next,e.addr,e.halt,e.took,e.known,e.filled⟩:Ent)) ?_);simp[w64,rU,h1,h2]<;>(intros;simp_all)
theorem WE(x n:Nat)(hx:x<4294967296)(hn:n≤4):bT C0 158 [.v (.int .u32 (x:Int)),.v (.int .i64 (n:Int))] (.v (.int .u32 ((valB x n:Nat):Int))):=by
 refine bT.intro c0Ok Tryz.func158 rfl rfl (by kernel_rfl) rfl<|cSR<|oR 1 rfl<|rE 1<|cSR<|oR 2 rfl<|rCi rfl (Qi x n hx hn)<|oR 5 rfl<|rE 9<|cSR<|oR 1 rfl<|rCi rfl (ZD (rY x n) (by rw[yR];exact hn))<|oR 5 rfl<|rE 16<|cSR<|oR 2 rfl<|rE 18<|cO ?_;exact fT rfl rfl
theorem QO(e:Ent)(b:Nat)(he:e.ok)(hb:b≤4294967295):bT C0 102 [.agg (enL e),vU b] (.agg (enL (qJ e b))):=by
 refine bT.intro c0Ok Tryz.func102 rfl rfl (by kernel_rfl) rfl<|cSR<|rAl 0 rfl rfl<|rAl 1 rfl rfl<|rE 2<|bK<|cSR<|oR 2 rfl<|rCi rfl (qR e.i)<|rW (vB ((kindOf e.i.op) != 4)) rfl (okB (neN _ _))<|oR 1 rfl<|gN rfl<|gS rfl id<|gS rfl id<|cS rfl rfl rfl (by simp)<|oR 1 rfl<|gN rfl<|gS rfl id<|gBS (x:=vB (e.is != 0)) rfl id rfl<|cS rfl rfl rfl (by simp)<|rE 16<|aV rfl (λ h1=>?_) (λ h1=>?_)
 ·refine cSR<|oR 1 rfl<|rSt rfl<|rE 18<|cO ?_;replace h1:=sP h1;refine eQ rfl rcT rfl (oT (e:=(⟨e.no,e.pc,⟨e.i.op,e.i.rd,e.i.rs1,e.i.rs2,e.i.imm⟩,e.guess,e.is,e.left,e.value,e.next,e.addr,e.halt,e.took,e.known,e.filled⟩:Ent)) ?_);simp[w64,qJ,h1]<;>(intros;simp_all)
 ·refine bB<|cSR<|oR 1 rfl<|rSt rfl<|rE 18<|cSR<|oR 3 rfl<|rCi rfl (Ie e.i)<|rCi rfl (WE b (dB e.i.op) (BT hb) (tL e.i.op))<|oR 1 rfl<|rSt rfl<|rE 25<|cSR<|oR 1 rfl<|rSt rfl<|rE 27<|cO ?_;replace h1:=sP h1;refine eQ rfl rcT rfl (oT (e:=(⟨e.no,e.pc,⟨e.i.op,e.i.rd,e.i.rs1,e.i.rs2,e.i.imm⟩,e.guess,3,e.left,valB b (dB e.i.op),e.next,e.addr,e.halt,e.took,e.known,e.filled⟩:Ent)) ?_);simp[w64,qJ,h1]<;>(intros;simp_all)
theorem QP(e:Ent)(he:e.ok):bT C0 105 [.agg (enL e)] (.agg (spL (bW e))):=by
 refine bT.intro c0Ok Tryz.func105 rfl rfl (by kernel_rfl) rfl<|cSR<|rAl 0 rfl rfl<|rAl 1 rfl rfl<|rE 2<|bK<|cSR<|oR 2 rfl<|rV (vB (e.halt != 0)) rfl<|rE 5<|aV rfl (λ h1=>?_) (λ h1=>?_)
 ·refine cSR<|oR 6 rfl<|rV (.agg [vU e.pc,vU e.pc,vI 0,.v (.int .u32 0),.v (.int .u32 0),vI 0,vB false,vI e.halt,vI 0]) rfl<|rAl 12 rfl rfl<|rSt rfl<|rE 14<|bK<|cSR<|oR 2 rfl<|rV (vB (e.halt==4)) rfl<|oR 1 rfl<|gN rfl<|gS rfl id<|gBS (x:=vB (e.halt==5)) rfl id rfl<|cS rfl rfl rfl (by simp)<|rE 22<|aV rfl (λ h2=>?_) (λ h2=>?_)
  ·refine cRg<|oR 3 rfl<|rSt rfl<|rE 26<|cSR<|oR 1 rfl<|rSt rfl<|rE 28<|cO ?_;replace h1:=sP h1;replace h2:=sP h2;refine eQ rfl rcT rfl (Dn (e:=⟨e.pc,e.pc,0,0,e.addr,0,false,e.halt,0⟩) ?_);simp[bW,up4,h1,h2]<;>(intros;simp_all)
  ·refine bB<|cSR<|oR 1 rfl<|rSt rfl<|rE 24<|cO ?_;replace h1:=sP h1;replace h2:=sP h2;refine eQ rfl rcT rfl (Dn (e:=⟨e.pc,e.pc,0,0,0,0,false,e.halt,0⟩) ?_);simp[bW,up4,h1,h2]<;>(intros;simp_all)
 ·refine bB<|cSR<|oR 4 rfl ?_;refine rV (vU ((e.pc+4) % 4294967296)) rfl<|oR 2 rfl<|rCi rfl (Ig e.i)<|rV (.agg [vU e.pc,vU ((e.pc+4) % 4294967296),vI (wr e.i),.v (.int .u32 0),.v (.int .u32 0),vI 0,vB false,vI 0,vI 0]) rfl<|rAl 14 rfl rfl<|rSt rfl<|rE 16<|bK<|cSR<|oR 2 rfl<|rV (vB ((wr e.i) != 0)) rfl<|rE 19<|aV rfl (λ h3=>?_) (λ h3=>?_)
  ·refine cRg<|oR 3 rfl<|rSt rfl<|rE 23<|bK<|cSR<|oR 2 rfl<|rCi rfl (qR e.i)<|rE 26<|bL<|bK<|bL<|bK<|bL<|bK<|bL<|bK<|bL<|bK<|bK<|cSR<|rW (vB ((kindOf e.i.op)==4)) rfl (okB (eqN _ _))<|oR 1 rfl<|rE 28<|aV rfl (λ h4=>?_) (λ h4=>?_)
   ·refine eP<|cSR<|oR 1 rfl<|rSt rfl<|rE 30<|cRg<|oR 3 rfl<|rSt rfl<|rE 34<|bK<|cSR<|oR 3 rfl<|rSt rfl<|rE 38<|cRg<|oR 2 rfl<|rCi rfl (Ie e.i)<|oR 1 rfl<|rSt rfl<|rE 43<|eP<|cSR<|oR 1 rfl<|rSt rfl<|rE 45<|cO ?_;replace h1:=sP h1;replace h3:=sP h3;replace h4:=sP h4;refine eQ rfl rcT rfl (Dn (e:=⟨e.pc,(e.pc+4) % 4294967296,wr e.i,e.value,e.addr,dB e.i.op,true,0,0⟩) ?_);simp[bW,up4,h1,h3,h4]<;>(intros;simp_all)
   ·refine bB<|bK<|cSR<|rW (vB ((kindOf e.i.op)==3)) rfl (okB (eqN _ _))<|oR 1 rfl<|rE 30<|aV rfl (λ h5=>?_) (λ h5=>?_)
    ·refine eP<|bK<|cSR<|oR 3 rfl<|rSt rfl<|rE 34<|cRg<|oR 2 rfl<|rCi rfl (Ie e.i)<|oR 1 rfl<|rSt rfl<|rE 39<|eP<|cSR<|oR 1 rfl<|rSt rfl<|rE 41<|cO ?_;replace h1:=sP h1;replace h3:=sP h3;replace h4:=sP h4;replace h5:=sP h5;refine eQ rfl rcT rfl (Dn (e:=⟨e.pc,(e.pc+4) % 4294967296,wr e.i,e.value,e.addr,dB e.i.op,false,0,0⟩) ?_);simp[bW,up4,h1,h3,h4,h5]<;>(intros;simp_all)
    ·refine bB<|bK<|cSR<|rW (vB ((kindOf e.i.op)==2)) rfl (okB (eqN _ _))<|oR 1 rfl<|rE 32<|aV rfl (λ h6=>?_) (λ h6=>?_)
     ·refine eP<|cSR<|oR 3 rfl<|rSt rfl<|rE 36<|eP<|cSR<|oR 1 rfl<|rSt rfl<|rE 38<|cO ?_;replace h1:=sP h1;replace h3:=sP h3;replace h4:=sP h4;replace h5:=sP h5;replace h6:=sP h6;refine eQ rfl rcT rfl (Dn (e:=⟨e.pc,(e.pc+4) % 4294967296,wr e.i,e.value,0,0,false,0,e.took⟩) ?_);simp[bW,up4,h1,h3,h4,h5,h6]<;>(intros;simp_all)
     ·refine bB<|cSR<|rW (vB ((kindOf e.i.op)==5)) rfl (okB (eqN _ _))<|oR 1 rfl<|rE 34<|aV rfl (λ h7=>?_) (λ h7=>?_)
      ·refine eP<|cSR<|oR 3 rfl<|rSt rfl<|rE 38<|eP<|cSR<|oR 1 rfl<|rSt rfl<|rE 40<|cO ?_;replace h1:=sP h1;replace h3:=sP h3;replace h4:=sP h4;replace h5:=sP h5;replace h6:=sP h6;replace h7:=sP h7;refine eQ rfl rcT rfl (Dn (e:=⟨e.pc,e.next,wr e.i,e.value,0,0,false,0,0⟩) ?_);simp[bW,up4,h1,h3,h4,h5,h6,h7]<;>(intros;simp_all)
      ·refine bB<|eP<|cSR<|oR 1 rfl<|rSt rfl<|rE 36<|cO ?_;replace h1:=sP h1;replace h3:=sP h3;replace h4:=sP h4;replace h5:=sP h5;replace h6:=sP h6;replace h7:=sP h7;refine eQ rfl rcT rfl (Dn (e:=⟨e.pc,(e.pc+4) % 4294967296,wr e.i,e.value,0,0,false,0,0⟩) ?_);simp[bW,up4,h1,h3,h4,h5,h6,h7]<;>(intros;simp_all)
  ·refine bB<|bK<|cSR<|oR 2 rfl<|rCi rfl (qR e.i)<|rE 22<|bL<|bK<|bL<|bK<|bL<|bK<|bL<|bK<|bL<|bK<|bK<|cSR<|rW (vB ((kindOf e.i.op)==4)) rfl (okB (eqN _ _))<|oR 1 rfl<|rE 24<|aV rfl (λ h8=>?_) (λ h8=>?_)
   ·refine eP<|cSR<|oR 1 rfl<|rSt rfl<|rE 26<|cRg<|oR 3 rfl<|rSt rfl<|rE 30<|bK<|cSR<|oR 3 rfl<|rSt rfl<|rE 34<|cRg<|oR 2 rfl<|rCi rfl (Ie e.i)<|oR 1 rfl<|rSt rfl<|rE 39<|eP<|cSR<|oR 1 rfl<|rSt rfl<|rE 41<|cO ?_;replace h1:=sP h1;replace h3:=sP h3;replace h8:=sP h8;refine eQ rfl rcT rfl (Dn (e:=⟨e.pc,(e.pc+4) % 4294967296,wr e.i,e.value,e.addr,dB e.i.op,true,0,0⟩) ?_);simp[bW,up4,h1,h3,h8]<;>(intros;simp_all)
   ·refine bB<|bK<|cSR<|rW (vB ((kindOf e.i.op)==3)) rfl (okB (eqN _ _))<|oR 1 rfl<|rE 26<|aV rfl (λ h9=>?_) (λ h9=>?_)
    ·refine eP<|bK<|cSR<|oR 3 rfl<|rSt rfl<|rE 30<|cRg<|oR 2 rfl<|rCi rfl (Ie e.i)<|oR 1 rfl<|rSt rfl<|rE 35<|eP<|cSR<|oR 1 rfl<|rSt rfl<|rE 37<|cO ?_;replace h1:=sP h1;replace h3:=sP h3;replace h8:=sP h8;replace h9:=sP h9;refine eQ rfl rcT rfl (Dn (e:=⟨e.pc,(e.pc+4) % 4294967296,wr e.i,0,e.addr,dB e.i.op,false,0,0⟩) ?_);simp[bW,up4,h1,h3,h8,h9]<;>(intros;simp_all)
    ·refine bB<|bK<|cSR<|rW (vB ((kindOf e.i.op)==2)) rfl (okB (eqN _ _))<|oR 1 rfl<|rE 28<|aV rfl (λ h10=>?_) (λ h10=>?_)
     ·refine eP<|cSR<|oR 3 rfl<|rSt rfl<|rE 32<|eP<|cSR<|oR 1 rfl<|rSt rfl<|rE 34<|cO ?_;replace h1:=sP h1;replace h3:=sP h3;replace h8:=sP h8;replace h9:=sP h9;replace h10:=sP h10;refine eQ rfl rcT rfl (Dn (e:=⟨e.pc,(e.pc+4) % 4294967296,wr e.i,0,0,0,false,0,e.took⟩) ?_);simp[bW,up4,h1,h3,h8,h9,h10]<;>(intros;simp_all)
     ·refine bB<|cSR<|rW (vB ((kindOf e.i.op)==5)) rfl (okB (eqN _ _))<|oR 1 rfl<|rE 30<|aV rfl (λ h11=>?_) (λ h11=>?_)
      ·refine eP<|cSR<|oR 3 rfl<|rSt rfl<|rE 34<|eP<|cSR<|oR 1 rfl<|rSt rfl<|rE 36<|cO ?_;replace h1:=sP h1;replace h3:=sP h3;replace h8:=sP h8;replace h9:=sP h9;replace h10:=sP h10;replace h11:=sP h11;refine eQ rfl rcT rfl (Dn (e:=⟨e.pc,e.next,wr e.i,0,0,0,false,0,0⟩) ?_);simp[bW,up4,h1,h3,h8,h9,h10,h11]<;>(intros;simp_all)
      ·refine bB<|eP<|cSR<|oR 1 rfl<|rSt rfl<|rE 32<|cO ?_;replace h1:=sP h1;replace h3:=sP h3;replace h8:=sP h8;replace h9:=sP h9;replace h10:=sP h10;replace h11:=sP h11;refine eQ rfl rcT rfl (Dn (e:=⟨e.pc,(e.pc+4) % 4294967296,wr e.i,0,0,0,false,0,0⟩) ?_);simp[bW,up4,h1,h3,h8,h9,h10,h11]<;>(intros;simp_all)
end Go.Proofs.YtlhofpglndhfaaaGreatDoor
