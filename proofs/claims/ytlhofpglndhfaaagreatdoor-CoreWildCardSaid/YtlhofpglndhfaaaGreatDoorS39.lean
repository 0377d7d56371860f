/- Joined texts. -/
import Derived.Test.YtlhofpglndhfaaaGreatDoorS1
import Derived.Test.YtlhofpglndhfaaaGreatDoorS23
import Derived.Test.YtlhofpglndhfaaaGreatDoorS31
import Derived.Test.YtlhofpglndhfaaaGreatDoorS37
import Derived.Test.YtlhofpglndhfaaaGreatDoorS38
set_option linter.unusedVariables false
set_option linter.unusedSimpArgs false
namespace Go.Proofs.YtlhofpglndhfaaaGreatDoor
open Go.RowKit
section
variable {α:Type}
inductive YieldN(C:Ctx)(y:Value)(encs:α→Array Value)(xs:List α)(ops:List Oper)(st:ASt)(pre:List α)(K:ASt→List α→Bool→Prop):Prop
 | mk (k:Nat) (o:Oper) (f:Operand) (args:Array Operand) (ats:Array TypeId) (rest:List Oper) (hd:ops.drop k=o::rest) (ho:o.op=.call {callee:=.value f,args:=args,argTypes:=ats}) (hg:o.guard=none)
   (hr:kL C.noH (bY C.noH) ops (ops.take k) 0 st λ st1=>∃ x vs stw σ,Weak st1 stw σ∧keepB C.fr σ stw.n=true∧CF stw.h stw.n=true∧Nat.ble stw.n st.n=true∧evA C stw.t f=.v y∧Hq (args.toList.map (evA C stw.t))=some vs∧encs x=vs.toArray∧pre++[x] <+: xs∧
    ∀ b:Bool,kL C.noH (bY C.noH) ops rest (k+1) ⟨yO stw.t o.dst (.v (.bool b)),stw.h,st.n⟩ (λ st2=>K st2 (pre++[x]) (!b))):YieldN C y encs xs ops st pre K
inductive LoopY(fr:Nat)(body:ASt→List α→(AEx→ASt→List α→Bool→Prop)→Prop)(st:ASt)(pre:List α)(Q:AEx→ASt→List α→Bool→Prop):Prop
 | mk (κ:Type) (S:κ→ASt) (pr:κ→List α) (G:κ→Prop) (μ:κ→Nat) (k0:κ) (σ:Nat→Nat) (hw:Weak st (S k0) σ) (hf:keepB fr σ (S k0).n=true) (hp:pr k0=pre) (h0:G k0)
   (round:∀ k,G k→body (S k) (pr k) (λ e st' p' s'=>match e with| .normal=>s'=false∧∃ k' σ',Weak st' (S k') σ'∧keepB fr σ' (S k').n=true∧pr k'=p'∧G k'∧μ k'<μ k|e=>Q e st' p' s')):LoopY fr body st pre Q
def codeY(C:Ctx)(y:Value)(encs:α→Array Value)(xs:List α):Code→ASt→List α→Bool→(AEx→ASt→List α→Bool→Prop)→Prop
 | .seq a b,st,pre,s,Q=>codeY C y encs xs a st pre s (λ e st' p' s'=>match e with| .normal=>codeY C y encs xs b st' p' s' Q|e=>Q e st' p' s')
 | .cond c a b,st,pre,s,Q=>match evA C st.t c with| .v (.bool t)=>Branch t (codeY C y encs xs a st pre s Q) (codeY C y encs xs b st pre s Q)|_=>False
 | .block id b,st,pre,s,Q=>codeY C y encs xs b st pre s (λ e st' p' s'=>match e with| .exit i=>(match Nat.beq i id with|true=>Q .normal st' p' s'|false=>Q (.exit i) st' p' s')|e=>Q e st' p' s')
 | .loop b,st,pre,s,Q=>s=false∧LoopY C.fr (λ st p Q=>codeY C y encs xs b st p false Q) st pre Q
 | .region id ops dr,st,pre,s,Q=>gC C (bY C) (.region id ops dr) st (λ e st'=>Q e st' pre s)∨(dr=false∧s=false∧YieldN C y encs xs ops.toList st pre (λ st' p' s'=>Q .normal st' p' s'))
 |c,st,pre,s,Q=>gC C (bY C) c st (λ e st'=>Q e st' pre s)
def uW(N:Nat):Code→Bool
 | .seq a b=>uW N a&&uW N b
 | .cond _ a b=>uW N a&&uW N b
 | .block _ b=>uW N b
 | .loop b=>uW N b
 |c=>nX N (λ _=>false) c
end
theorem ML{F:Fence}{n:Nat}{P:Program}{Q:Exit→Act→World→Prop}{a:Act}{w:World}{c:Code}(I:Nat→Act→World→Prop)(m:Nat)(h0:I m a w)
  (round:∀ m a w,I m a w→c.wpIn F n P (Exit.then (λ a' w'=>∃ m',m'<m∧I m' a' w') Q) a w):(Code.loop c).wpIn F n P Q a w:=by
 classical
 have least:∀ (n:Nat) (a:Act) (w:World),(∃ m,m≤n∧I m a w)→∃ m,I m a w∧∀ m',I m' a w→m≤m':=by
  intro n
  induction n with
  |zero=>rintro a w ⟨m,h1,h2⟩;exact⟨m,h2,λ m' _=>by omega⟩
  |succ n ih=>
   rintro a w ⟨m,h1,h2⟩;by_cases hc:∃ m',m'≤n∧I m' a w
   ·exact ih a w hc
   ·exact⟨m,h2,λ m' h'=>Nat.le_of_not_lt λ h=>hc ⟨m',by omega,h'⟩⟩
 have ex:∀ a w,(∃ m,I m a w)→∃ m,I m a w∧∀ m',I m' a w→m≤m':=λ a w ⟨m,h⟩=>least m a w ⟨m,aC _,h⟩
 let μ:Act→World→Nat:=λ a w=>if h:∃ m,I m a w then Classical.choose (ex a w h)else 0
 have hμ:∀ a w,(∃ m,I m a w)→I (μ a w) a w∧∀ m',I m' a w→μ a w≤m':=λ a w h=>by
  have e:μ a w=Classical.choose (ex a w h):=dif_pos h;rw[e];exact mR (ex a w h)
 refine wpIn_loop (λ a w=>∃ m,I m a w) μ ⟨m,h0⟩ λ a w h=>wpIn_mono (round (μ a w) a w (hμ a w h).1) ?_;intro e a' w' h';cases e<;>try exact h'
 obtain⟨m',h1,h2⟩:=h';exact⟨⟨m',h2⟩,bM ((hμ a' w' ⟨m',h2⟩).2 m' h2) h1⟩
section
variable {α:Type}{C:Ctx}{J:Bool→(Nat→Prop)→List α→World→Prop}{W:World}{xs:List α}{encs:α→Array Value}{N l:Nat}
def SYp(C:Ctx)(J:Bool→(Nat→Prop)→List α→World→Prop)(W:World)(xs:List α)(N:Nat)(st:ASt)(pre:List α)(s:Bool)(a:Act)(A:World):Prop:=
 ∃ CC S β,J s CC pre A∧pre <+: xs∧W.heap.size≤A.heap.size∧SimD C (Inv.any C.fr) {W with heap:= #[]} (λ _=>True) N (· <st.n) st.t st.h a A S β∧(∀ b,S b→ ¬ CC b)∧(∀ b,OwnB β b→ ¬ CC b∧W.heap.size≤b)
theorem SYp.step(hJ:∀ s C pre A B,J s C pre A→Same (λ b=>b<W.heap.size∨C b) A B→J s C pre B)(hlt:∀ s C pre A,J s C pre A→∀ b,C b→b<A.heap.size)
  {CC:Nat→Prop} {pre:List α} {s:Bool} {w0:World} {S0:Nat→Prop} {D:Nat→Prop} {t:Nat→AV} {h:AH} {a:Act} {A A':World} {S S':Nat→Prop} {β β':Bt} {V:Inv C.fr}
  (j:J s CC pre A) (hp:pre <+: xs) (hs:W.heap.size≤A.heap.size) (k1:∀ b,S b→ ¬ CC b) (k2:∀ b,OwnB β b→ ¬ CC b∧W.heap.size≤b) (M:SimD C V w0 S0 N D t h a A S β) (P:FrP S A β C.fr S' A' β') (M':A'.os=A.os∧A'.tape=A.tape∧A'.output=A.output):
  J s CC pre A'∧W.heap.size≤A'.heap.size∧(∀ b,S' b→ ¬ CC b)∧(∀ b,OwnB β' b→ ¬ CC b∧W.heap.size≤b):=by
 refine⟨hJ s CC pre A A' j ⟨M'.1,M'.2.1,M'.2.2,P.sz,λ b hb hh=>P.still b hb λ ho=>hh.elim (λ h=>by have:=(k2 b ho).2;omega) (k2 b ho).1⟩,aL hs P.sz,λ b hb hc=>?_,λ b ⟨x,l,h1,h2⟩=>?_⟩
 ·rcases P.nw b hb with h|h|h
  ·exact k1 b h hc
  ·have:=hlt s CC pre A j b hc;omega
  ·exact (k2 b h).1 hc
 ·subst h2;rcases P.own x l h1 with h|h
  ·exact k2 _ h
  ·exact⟨λ hc=>by have:=hlt s CC pre A j _ hc;omega,aL hs h⟩
def Xy(C:Ctx)(J:Bool→(Nat→Prop)→List α→World→Prop)(W:World)(xs:List α)(N:Nat)(Q:AEx→ASt→List α→Bool→Prop)(e:Exit)(a:Act)(A:World):Prop:=∃ e' st pre s,e=ES e'∧Q e' st pre s∧SYp C J W xs N st pre s a A
theorem Kl(hC:CtxOk C)(hJ:∀ s C pre A B,J s C pre A→Same (λ b=>b<W.heap.size∨C b) A B→J s C pre B)(hlt:∀ s C pre A,J s C pre A→∀ b,C b→b<A.heap.size)
  (hY:∀ CC pre x A,J false CC pre A→pre++[x] <+: xs→YieldAt Fence.wide 1 C.P l (encs x) A λ e B=>∃ b,e=.returned (.bool b)∧∃ C',J (!b) C' (pre++[x]) B∧Same (λ b=> ¬ CC b) A B∧(∀ b,C' b→CC b∨A.heap.size≤b)):
  ∀ (c:Code),uW N c=true→∀ (st:ASt) (pre:List α) (s:Bool) (Q:AEx→ASt→List α→Bool→Prop),codeY C (.func (.yield l) #[] #[]) encs xs c st pre s Q→∀ (a:Act) (A:World),SYp C J W xs N st pre s a A→c.wpIn Fence.wide 2 C.P (Xy C J W xs N Q) a A:=by
 have base:∀ (c:Code),nX N (λ _=>false) c=true→∀ (st:ASt) (pre:List α) (s:Bool) (Q:AEx→ASt→List α→Bool→Prop),gC C (bY C) c st (λ e st'=>Q e st' pre s)→∀ (a:Act) (A:World),SYp C J W xs N st pre s a A→c.wpIn Fence.wide 2 C.P (Xy C J W xs N Q) a A:=by
  rintro c hk st pre s Q hq a A ⟨CC,S,β,j,hp,hs,M,k1,k2⟩;refine wpIn_mono (AD (V:=EI S A β C.fr) (Da C.P) hC c hk st _ hq a A S β (M.inv (Af _ _ _ _)) (tmk.refl _ _)) ?_;rintro e a' A' ⟨e',st',S',β',rfl,h1,M', -⟩;obtain⟨g1,g2,g3,g4⟩:=SYp.step hJ hlt j hp hs k1 k2 M M'.iv ⟨M'.B.os.trans M.B.os.symm,M'.B.tape.trans M.B.tape.symm,M'.B.output.trans M.B.output.symm⟩;exact⟨e',st',pre,s,rfl,h1,CC,S',β',g1,hp,g2,M'.inv trivial,g3,g4⟩
 intro c
 induction c with
 |seq x y ihx ihy=>
  intro hk st pre s Q hq a A M;simp only[uW,aK]at hk;refine wpIn_seq (wpIn_mono (ihx hk.1 st pre s _ hq a A M) ?_);rintro e a' w' ⟨e',st',p',s',rfl,h1,h2⟩
  cases e' with
  |normal=>exact ihy hk.2 st' p' s' Q h1 a' w' h2
  |exit i=>exact⟨.exit i,st',p',s',rfl,h1,h2⟩
  |ret=>exact⟨.ret,st',p',s',rfl,h1,h2⟩
 | cond c x y ihx ihy=>
  intro hk st pre s Q hq a A M;simp only[uW,aK]at hk;simp only[codeY]at hq;split at hq
  ·rename_i b hb;obtain⟨h1,h2⟩:=hq;have M0:=M;obtain⟨CC,S,β,j,hp,hs,M1,k1,k2⟩:=M0;have hv:=tR M1 c;rw[hb]at hv;exact wpIn_cond_split (kW hv) (λ ht=>ihx hk.1 st pre s Q (h1 ht) a A M) (λ hf=>ihy hk.2 st pre s Q (h2 hf) a A M)
  ·exact hq.elim
 | block id b ih=>
  intro hk st pre s Q hq a A M;refine wpIn_block (wpIn_mono (ih hk st pre s _ hq a A M) ?_);rintro e a' w' ⟨e',st',p',s',rfl,h1,h2⟩
  cases e' with
  |normal=>exact⟨.normal,st',p',s',rfl,h1,h2⟩
  |ret=>exact⟨.ret,st',p',s',rfl,h1,h2⟩
  | exit i=>
   show Exit.inBlock id _ (.exit i) a' w';simp only at h1;simp only[Exit.inBlock];by_cases hi:i=id
   ·subst hi;rw[if_pos rfl];rw[show Nat.beq i i=true from mS i]at h1;exact⟨.normal,st',p',s',rfl,h1,h2⟩
   ·rw[if_neg hi];have:Nat.beq i id=false:=by rw[←eI];exact λ e=>hi (aM e)
    rw[this]at h1
    exact⟨.exit i,st',p',s',rfl,h1,h2⟩
 | loop b ih=>
  intro hk st pre s Q hq a A M;obtain⟨rfl,hL⟩:=hq;obtain⟨κ,S,pr,G,μ,k0,σ,hw,hf,rfl,h0,round⟩:=hL;have weak:∀ {st st':ASt} {σ:Nat→Nat} {p:List α} {a:Act} {A:World},Weak st st' σ→keepB C.fr σ st'.n=true→SYp C J W xs N st p false a A→SYp C J W xs N st' p false a A:=by
   rintro st st' σ p a A hw hf ⟨CC,S,β,j,hp,hs,M1,k1,k2⟩;refine⟨CC,S,_,j,hp,hs,oZ hw hf M1,k1,λ b ⟨x,l,h1,h2⟩=>?_⟩;simp only at h1;split at h1
   ·exact k2 b ⟨_,l,h1,h2⟩
   ·cases h1
  refine ML (λ m a A=>∃ k,μ k=m∧G k∧SYp C J W xs N (S k) (pr k) false a A) (μ k0) ⟨k0,rfl,h0,weak hw hf M⟩ ?_;rintro m a A ⟨k,rfl,hG,M⟩;refine wpIn_mono (ih hk _ _ _ _ (round k hG) a A M) ?_;rintro e a' w' ⟨e',st',p',s',rfl,h1,h2⟩
  cases e' with
  |normal=>
   obtain⟨rfl,k',σ',g1,g2,rfl,g4,g5⟩:=h1
   exact⟨μ k',g5,k',rfl,g4,weak g1 g2 h2⟩
  |exit i=>exact⟨.exit i,st',p',s',rfl,h1,h2⟩
  |ret=>exact⟨.ret,st',p',s',rfl,h1,h2⟩
 | region id ops dr=>
  intro hk st pre s Q hq a A M;rcases hq with hq|⟨rfl,rfl,hq⟩
  ·exact base _ hk st pre s Q hq a A M
  obtain⟨k,o,f,args,ats,rest,hd,ho,hg,hr⟩:=hq;obtain⟨CC,S,β,j,hp,hs,M,k1,k2⟩:=M;obtain⟨t,h,n⟩:=st;simp only[uW,nX,aK]at hk;have hko:ops.toList[k]?=some o:=by
   have:(ops.toList.drop k)[0]?=some o:=by rw[hd];rfl
   simpa using this
  have hoj:ops[k]?=some o:=by rw[←hko,bJ]
  have hklt:k<ops.toList.length:=(Db.1 hko).1;have hsz:ops.size=k+(1+rest.length):=by
   have:=congrArg List.length hd;simp at this;simp at hklt;omega
  have hrest:ops.toList.drop (k+1)=rest++[]:=by rw[←kJ,hd];simp
  have htk:(ops.toList.take k).length=k:=by simp at hklt⊢;omega
  have hrange:List.range ops.size=List.range' 0 (ops.toList.take k).length++(k::(List.range' (k+1) rest.length++[])):=by
   rw[nD,hsz,htk,eQ, ←List.range'_append_1,bU,kQ 1,nA]
  refine wpIn_region ?_;rw[hrange];refine AE (C:=C.noH) (V:=EI S A β C.fr) (kp:=λ _=>false) (a0:=a) (Da C.P) hC.noH (λ _ _ _ _ _ h=>h) rfl hk.1 hk.2 _ (ops.toList.take k) 0 t h a A S β ⟨ops.toList.drop k,by simp⟩ hr ((M.inv (Af _ _ _ _)).noH) (tmk.refl _ _) ?_;rintro st1 a1 A1 S1 β0 ⟨x,vs,stw,σ,hW,hkp,hfull,hnn,hf,hvs,henc,hpx,hb⟩ M0 -;obtain⟨g1,g2,g3,g4⟩:=SYp.step hJ hlt j hp hs k1 k2 M M0.iv ⟨M0.B.os.trans M.B.os.symm,M0.B.tape.trans M.B.tape.symm,M0.B.output.trans M.B.output.symm⟩;have M1:=oZ (C:=C.noH) hW hkp M0;have hfl:=tL hfull;have hnn:=aR hnn;have g5:∀ b,OwnB (λ s=>if s<stw.n then β0 (σ s)else none) b→ ¬ CC b∧W.heap.size≤b∧b<A1.heap.size:=by
   rintro b ⟨y,l,h1,h2⟩;subst h2;obtain⟨blk,hblk⟩:=CJ.1 (hfl y (M1.dom y l h1));obtain⟨l',cs,e,fr,q1,q2, -⟩:=M1.H.own y blk hblk;simp only at h1 q1;rw[h1]at q1;cases q1;split at h1
   ·exact⟨(g4 _ ⟨_,l,h1,rfl⟩).1,(g4 _ ⟨_,l,h1,rfl⟩).2,fI q2⟩
   ·cases h1
  generalize (λ s=>if s<stw.n then β0 (σ s)else none)=β1 at M1 g5;have hfe:a1.eval f=.func (.yield l) #[] #[]:=by
   have:=tR M1 f;rw[show evA C.noH stw.t f=evA C stw.t f from rfl,hf]at this;exact kW this
  have hargs:args.map a1.eval=encs x:=by
   rw[henc];have hrl:RepL S1 A1 β1 (args.toList.map (evA C.noH stw.t)) (args.toList.map a1.eval):=⟨by simp,λ i y u p q=>by
    rw[bH]at p q
    cases hi:args.toList[i]? with
    |none=>rw[hi]at p;cases p
    |some z=>rw[hi]at p q;cases p;cases q;exact tR M1 z⟩
   have:=Jm (show Hq (args.toList.map (evA C.noH stw.t))=some vs from hvs) hrl;rw[←this];apply Array.ext';simp
  have hY1:=hY CC pre x A1 g1 hpx;refine Hb hoj hg (Kq (Da C.P) ho hfe hargs hY1 ?_);rintro b B ⟨C',j',hsame,hgrow⟩;have M2:SimD C.noH (EI S1 B β1 C.fr) {W with heap:= #[]} (λ _=>True) N (· <stw.n) stw.t stw.h a1 B S1 β1:=
   (M1.inv (V':=Inv.any C.noH.fr) trivial).move (λ b hb=>hsame.block b (M1.H.lt b hb) (g3 b hb)) (λ s l o q1 q2=>(hsame.block _ (fI q2) (g5 _ ⟨s,l,q1,rfl⟩).1).trans q2) hsame.os hsame.tape hsame.output hsame.size (λ b hb=>absurd hb (dX _)) (Af _ _ _ _)
  have hslot:=vJ hk.1 (aB hko);have M3:SimD C.noH (EI S1 B β1 C.fr) {W with heap:= #[]} (λ _=>True) N (· <n+(k+1)) (yO stw.t o.dst (.v (.bool b))) stw.h (a1.put o.dst (.bool b)) B S1 β1:=by
   refine⟨Np a1 M2.T (.v _) (λ k hk=>by rw[M2.sz];exact hslot k hk),M2.H,M2.B,λ y l hy=>(by have:y<stw.n:=M2.dom y l hy;simp only at hnn;show y<n+(k+1);omega),?_,?_,M2.G,M2.nw,M2.iv⟩
   ·cases o.dst<;>exact M2.df
   ·cases o.dst with
    |none=>exact M2.sz
    |some k=>simp only[Act.put,iJ];exact M2.sz
  refine AE (C:=C.noH) (V:=EI S1 B β1 C.fr) (kp:=λ _=>false) (a0:=a1.put o.dst (.bool b)) (Da C.P) hC.noH (λ _ _ _ _ _ h=>h) rfl hk.1 hk.2 [] rest (k+1) _ _ _ B S1 β1 ⟨[],hrest⟩ (hb b) M3 (tmk.refl _ _) ?_;rintro st2 a2 A2 S2 β2 hK M4 -;obtain⟨f1,f2,f3,f4⟩:=SYp.step (CC:=C') hJ hlt j' hpx (aL g2 hsame.size) (λ b hb hc=>(hgrow b hc).elim (g3 b hb) (λ h=>by have:=M1.H.lt b hb;omega)) (λ b hb=>⟨λ hc=>(hgrow b hc).elim (g5 b hb).1 (λ h=>by have:=(g5 b hb).2.2;omega),(g5 b hb).2.1⟩) M3.ofNoH M4.iv ⟨M4.B.os.trans M3.B.os.symm,M4.B.tape.trans M3.B.tape.symm,M4.B.output.trans M3.B.output.symm⟩
  exact⟨.normal,st2,_,_,rfl,hK,C',S2,β2,f1,hpx,f2,M4.ofNoH.inv trivial,f3,f4⟩
 |_=>intro hk st pre s Q hq;exact base _ hk st pre s Q hq
end
theorem RJ.intro{α:Type}{C:Ctx}(hC:CtxOk C){g:FuncId}{fn:Func}{body:Code}{caps:List AV}{encs:α→Array Value}{xs:List α}(hf:C.P.funcs[g]?=some fn)(hb:fn.body=some body)(hres:fn.results.toList=[])
  (hN:uW fn.ntmps body=true) (hlen:Nat.ble (caps.length+1) fn.ntmps=true)
  (hw:∀ y,codeY C y encs xs body ⟨argsT (.v y::caps),λ _=>none,0⟩ [] false (λ e _ pre s=>match e with| .exit _=>False|_=>s=false→pre=xs)) (hdf:C.df=[]:=by rfl):RJ C g caps encs xs:=by
 intro R w us hRlt hG hus l J C0 W hRW hdis hJ hJlt hY h0;have hlen:=aR hlen;have same:∀ b,R b→W.heap[b]?=w.heap[b]? :=λ b hb=>hRW.block b (hRlt b hb) hb;refine callsIn_wide.1 (callsIn_of_wp_marks (n:=2) hf hb trivial ?_);have hul:us.length=caps.length:=hus.1.symm;have M0:SYp C J W xs fn.ntmps ⟨argsT (.v (.func (.yield l) #[] #[])::caps),λ _=>none,0⟩ [] false {tmps:=(#[Value.func (.yield l) #[] #[]]++us.toArray)++Array.replicate (fn.ntmps - (#[Value.func (.yield l) #[] #[]]++us.toArray).size) undef,defers:=[]} W:=by
  refine⟨C0,R,noB,h0,List.nil_prefix,aC _,⟨λ i=>?_,⟨λ s blk h=>(by cases h),λ s s' l l' h=>absurd rfl h,λ b hb=>Nat.lt_of_lt_of_le (hRlt b hb) hRW.size,aF _⟩,⟨rfl,rfl,rfl,aF _,λ b hb=>by simp at hb⟩,λ x l h=>(by cases h),hdf.symm,?_,λ g cells hg=>yA (hG g cells hg) (λ _ h=>h) same (λ s l _ _ _ e=>by cases e),λ _ _=>.inl trivial,trivial⟩,hdis,λ b ⟨x,l,h1,_⟩=>by cases h1⟩
  ·show Rep R W noB (argsT (.v (.func (.yield l) #[] #[])::caps) i) (Array.getD _ i undef);rw[yP,aJ]
   cases i with
   |zero=>
    rw[dL (by simp),dL (by simp)]
    exact .v _
   | succ i=>
    rw[dD]
    cases ha:caps[i]? with
    |none=>exact .any _
    |some x=>
     have hi:i<us.length:=by rw[hul];exact (Db.1 ha).1
     have hv:us[i]?=some us[i]:=aA hi;rw[dL (by simp;omega),Array.getElem?_append_right (by simp)];simp only[mK,bN,cW,iC,eK,hv,gH];exact yA (hus.2 i x _ ha hv) (λ _ h=>h) same (λ s l _ _ _ e=>by cases e)
  ·simp;omega
 refine wpIn_mono (Kl hC hJ hJlt hY body hN _ _ _ _ (hw _) _ W M0) ?_;rintro e a' A ⟨e',st,pre,s,rfl,hq,CC,S,β,j,hp,hs,M,k1,k2⟩;have fin:(s=false→pre=xs)→LeavesInM Fence.wide 2 C.P fn a'.tmps (λ e W'=>(∃ v,e=.returned v)∧((∃ C,J false C xs W')∨∃ C pre,pre <+: xs∧J true C pre W')) a'.defers .returning A:=by
  intro hq;rw[M.df,hdf];refine⟨_,wX [] [] rfl fn hres,⟨_,rfl⟩,?_⟩
  cases s with
  |false=>obtain rfl:=hq rfl;exact .inl ⟨CC,j⟩
  |true=>exact .inr ⟨CC,pre,hp,j⟩
 cases e' with
 |normal=>exact fin hq
 |ret=>exact fin hq
 |exit i=>exact hq.elim
theorem CtxOk.wd{C:Ctx}(h:CtxOk C)(d:Option Nat):CtxOk (C.wd d):=⟨h.ty,h.mixed,h.hH⟩
def SN:Code→Bool
 | .seq _ _=>false
 | .cond _ _ _=>false
 | .block _ _=>false
 | .scope _=>false
 | .loop _=>false
 | .rangeFunc _ _ _ _=>false
 |_=>true
section
variable {C:Ctx}{d:Option Nat}{Q:Option Nat→AEx→ASt→Prop}{t:Nat→AV}{h:AH}{n:Nat}
theorem yN{a b:Code}{st:ASt}(k:uY C a d st (λ d' e st'=>match e with| .normal=>uY C b d' st' Q|e=>Q d' e st')):uY C (.seq a b) d st Q:=k
theorem SO{c:Operand}{a b:Code}{v:Bool}(hv:evA C t c=.v (.bool v))(k1:v=true→uY C a d ⟨t,h,n⟩ Q)(k2:v=false→uY C b d ⟨t,h,n⟩ Q):uY C (.cond c a b) d ⟨t,h,n⟩ Q:=by
 simp only[uY,hv];exact .mk k1 k2
theorem Km{id:Nat}{b:Code}{st:ASt}(k:uY C b d st (λ d' e st'=>match e with| .exit i=>(match Nat.beq i id with|true=>Q d' .normal st'|false=>Q d' (.exit i) st')|e=>Q d' e st')):uY C (.block id b) d st Q:=k
theorem Uo{b:Code}{st:ASt}(k:uY C b d st Q):uY C (.scope b) d st Q:=k
theorem xZ{c:Code}{st:ASt}(hc:SN c=true)(k:gC (C.wd d) (bY (C.wd d)) c st (Q d)):uY C c d st Q:=by
 cases c<;>first|exact k|cases hc
theorem Wc{b:Code}{st:ASt}(k:gC (C.wd d) (bY (C.wd d)) (.loop b) st (Q d)):uY C (.loop b) d st Q:=k
theorem PC{g:Operand}{ps:Array Tmp}{a b:Code}{st:ASt}(k:GhostN st λ stg=>∃ stw σ,Weak stg stw σ∧keepB C.fr σ stw.n=true∧RangeN C stw g ps.toList a b (λ e st'=>∀ D,Q (some D) e st')):uY C (.rangeFunc g ps a b) none st Q:=⟨rfl,k⟩
end
theorem Wd{C:Ctx}{R:FuncId→List AV→AV→Prop}{Q:AEx→ASt→Prop}{l:Nat}{st:ASt}(k:Q .normal st):gC C R (.label l) st Q:=k
section
variable {α:Type}{C:Ctx}{y:Value}{encs:α→Array Value}{xs pre:List α}{s:Bool}{Q:AEx→ASt→List α→Bool→Prop}{t:Nat→AV}{h:AH}{n:Nat}
theorem vF{a b:Code}{st:ASt}(k:codeY C y encs xs a st pre s (λ e st' p' s'=>match e with| .normal=>codeY C y encs xs b st' p' s' Q|e=>Q e st' p' s')):codeY C y encs xs (.seq a b) st pre s Q:=k
theorem Ee{c:Operand}{a b:Code}{v:Bool}(hv:evA C t c=.v (.bool v))(k1:v=true→codeY C y encs xs a ⟨t,h,n⟩ pre s Q)(k2:v=false→codeY C y encs xs b ⟨t,h,n⟩ pre s Q):codeY C y encs xs (.cond c a b) ⟨t,h,n⟩ pre s Q:=by
 simp only[codeY,hv];exact .mk k1 k2
theorem Cb{id:Nat}{b:Code}{st:ASt}(k:codeY C y encs xs b st pre s (λ e st' p' s'=>match e with| .exit i=>(match Nat.beq i id with|true=>Q .normal st' p' s'|false=>Q (.exit i) st' p' s')|e=>Q e st' p' s')):codeY C y encs xs (.block id b) st pre s Q:=k
theorem rJ{c:Code}{st:ASt}(hc:SN c=true)(k:gC C (bY C) c st (λ e st'=>Q e st' pre s)):codeY C y encs xs c st pre s Q:=by
 cases c<;>first|exact Or.inl k|exact k|cases hc
theorem PD{b:Code}{st:ASt}{κ:Type}(S:κ→ASt)(pr:κ→List α)(G:κ→Prop)(μ:κ→Nat)(k0:κ)(σ:Nat→Nat)(hw:Weak st (S k0) σ)(hf:keepB C.fr σ (S k0).n=true)(hp:pr k0=pre)(h0:G k0)
  (round:∀ k,G k→codeY C y encs xs b (S k) (pr k) false (λ e st' p' s'=>match e with| .normal=>s'=false∧∃ k' σ',Weak st' (S k') σ'∧keepB C.fr σ' (S k').n=true∧pr k'=p'∧G k'∧μ k'<μ k|e=>Q e st' p' s')):codeY C y encs xs (.loop b) st pre false Q:=
 ⟨rfl,.mk κ S pr G μ k0 σ hw hf hp h0 round⟩
theorem PE{id:Nat}{ops:Array Oper}{l:List Oper}{st:ASt}(hl:ops.toList=l)(k:Nat){o:Oper}{f:Operand}{args:Array Operand}{ats:Array TypeId}{rest:List Oper}(hd:l.drop k=o::rest)(ho:o.op=.call {callee:=.value f,args:=args,argTypes:=ats})(hg:o.guard=none)
  (hr:kL C.noH (bY C.noH) l (l.take k) 0 st λ st1=>∃ x vs stw σ,Weak st1 stw σ∧keepB C.fr σ stw.n=true∧CF stw.h stw.n=true∧Nat.ble stw.n st.n=true∧evA C stw.t f=.v y∧Hq (args.toList.map (evA C stw.t))=some vs∧encs x=vs.toArray∧pre++[x] <+: xs∧
    ∀ b:Bool,kL C.noH (bY C.noH) l rest (k+1) ⟨yO stw.t o.dst (.v (.bool b)),stw.h,st.n⟩ (λ st2=>Q .normal st2 (pre++[x]) (!b))):codeY C y encs xs (.region id ops false) st pre false Q:=by
 subst hl;exact .inr ⟨rfl,rfl,.mk k o f args ats rest hd ho hg hr⟩
end
set_option maxRecDepth 100000
set_option maxHeartbeats 4000000
def unV:AV→Value
 | .v x=>x
 |_=>undef
def XE(e:Ent):Value:=.agg ((enL e).map unV).toArray
def VC(x:Nat×Ent):Array Value:= #[.int .i64 (x.1:Int),XE x.2]
def yL(rob:List Ent):Nat→List (Nat×Ent)
 |0=>[]
 |n+1=>match rob[n]? with|some e=>(n,e)::yL rob n|none=>yL rob n
theorem Is{rob:List Ent}:∀ {n:Nat},n≤rob.length→(yL rob n).length=n
 |0,_=>rfl
 |n+1,h=>by
  have e:rob[n]?=some rob[n]:=aA h;simp only[yL,e,bN,Is (mN h)]
theorem Ld{rob:List Ent}:∀ {n k:Nat} {x:Ent},n≤rob.length→0<k→k≤n→rob[k - 1]?=some x→(yL rob n)[n - k]?=some (k - 1,x)
 |0,k,x,_,h1,h2,_=>by omega
 | n+1,k,x,h,h1,h2,hx=>by
  have e:rob[n]?=some rob[n]:=aA h;simp only[yL,e];by_cases hk:k=n+1
  ·subst hk;rw[iC,e]at hx;cases hx
   simp
  ·rw[show n+1 - k=(n - k)+1 by omega,dD];exact Ld (mN h) h1 omT hx
theorem zF{rob:List Ent}:∀ {n:Nat} {x:Nat×Ent},x∈yL rob n→x.1<n∧rob[x.1]?=some x.2
 |0,x,h=>by cases h
 | n+1,x,h=>by
  simp only[yL]at h;split at h
  ·rename_i e he;rcases al_List_mem_cons.1 h with rfl|h
   ·exact⟨Nat.lt_succ_self _,he⟩
   ·exact⟨mM (zF h).1,(zF h).2⟩
  ·exact⟨mM (zF h).1,(zF h).2⟩
def GA(rob:List Ent)(n k:Nat):List (Nat×Ent):=(yL rob n).take (n - k)
theorem Fo{rob:List Ent}{n k:Nat}{x:Ent}(hn:n≤rob.length)(h1:0<k)(h2:k≤n)(hx:rob[k - 1]?=some x):GA rob n (k - 1)=GA rob n k++[(k - 1,x)]:=by
 unfold GA;rw[show n - (k - 1)=(n - k)+1 by omega,bX,Ld hn h1 h2 hx];rfl
theorem Ox{rob:List Ent}{n k:Nat}:GA rob n k <+: yL rob n:=List.take_prefix _ _
theorem Oy{rob:List Ent}{n:Nat}(hn:n≤rob.length):GA rob n 0=yL rob n:=by
 unfold GA;rw[Nat.sub_zero];exact aN (Nat.le_of_eq (Is hn))
theorem JV{rob:List Ent}{n:Nat}:GA rob n n=[]:=by
 unfold GA;rw[iI];rfl
theorem WZ(rob:List Ent)(ck:Bool)(i:Nat)(hl:rob.length≤1000)(ho:∀ x∈rob,x.ok)(hi:i≤1000):RJ C0 217 [.dp 1 0 ([vN i]),.dp 1 0 ([.sl 17 (rob.map enL) ck])] VC (yL rob (min i rob.length)):=by
 refine RJ.intro c0Ok Tryz.func217 rfl rfl (by kernel_rfl) rfl ?_;intro y;refine vF<|rJ rfl<|aG rfl<|oR 2 rfl<|rW (vN rob.length) rfl (bQ enL rob)<|rW (vN (min i rob.length)) rfl (Bp i rob.length)<|oR 1 rfl<|rE 5<|Cb<|PD (κ:=Nat) (λ k=>⟨cI [(0,.v y),(1,.dp 1 0 ([vN i])),(2,.dp 1 0 ([.sl 17 (rob.map enL) ck])),(4,vN k)],heapF [],5⟩) (λ k=>GA rob (min i rob.length) k) (λ k=>k≤min i rob.length) (λ k=>k) (min i rob.length) (λ s=>s) (Weak.of_lists (λ s=>s) wT trivial rfl) rfl (JV) (aC _) ?_;intro k hk;have hkB:k≤1000:=by have:k≤min i rob.length:=hk;omega
 refine vF<|vF<|rJ rfl<|aG rfl<|oR 1 rfl<|rW (vB (decide (k>0))) rfl (okB (gtN _ _))<|rE 7 ?_;refine Ee (v:=decide (k>0)) rfl (λ h1=>?_) (λ h1=>?_)
 ·have h1p:=of_decide_eq_true h1;refine rJ rfl<|aZ<|vF<|Cb<|vF<|PE rfl 8 rfl rfl rfl<|oR 2 rfl ?_;have b1:k - 1≤1000:=aL (iO _ _) hkB;refine rW (vN (k - 1)) rfl (okI (Bm omT hkB rfl))<|oR 2 rfl ?_;have b2:k - 1≤1000:=aL (iO _ _) hkB;refine rW (vN (k - 1)) rfl (okI (Bm omT hkB rfl)) ?_;obtain⟨x,hx⟩:∃ y_,rob[(k - 1)]?=some y_:=⟨_,aA omT⟩;have hxo:=ho x (aB hx);refine rIx (enL x) (.dp 17 0 (enL x)) rfl rfl (gJ hx) rfl<|oR 1 rfl<|rE 15 ?_;refine⟨(k - 1,x),_,⟨cI [(0,.v y),(1,.dp 1 0 ([vN i])),(2,.dp 1 0 ([.sl 17 (rob.map enL) ck])),(4,vN k),(13,.v y),(15,vN (k - 1)),(20,.agg (enL x))],heapF [],0⟩,λ s=>s,Weak.of_lists _ wT trivial rfl,rfl,rfl,rfl,rfl,rfl,rfl,(by rw[←Fo (eT _ _) h1p hk hx];exact Ox),λ yb1=>?_⟩;refine oR 1 rfl<|rE 17 ?_;refine Ee (v:= !yb1) rfl (λ h2=>?_) (λ h2=>?_)
  ·refine rJ rfl<|cT ?_;intro hs;rw[h2]at hs;cases hs
  ·refine rJ rfl<|aZ<|rJ rfl<|aG rfl<|oR 1 rfl ?_;have b3:k - 1≤1000:=aL (iO _ _) hkB;refine rW (vN (k - 1)) rfl (okI (Bm omT hkB rfl))<|oR 1 rfl<|rE 20 ?_;refine⟨h2,k - 1,λ s=>s,Weak.of_lists _ wT trivial rfl,rfl,(Fo (eT _ _) h1p hk hx),(by show k - 1≤min i rob.length;omega),(by show k - 1<k;omega)⟩
 ·have h1p:=aD h1;refine rJ rfl<|eA ?_;intro _;obtain rfl:k=0:=by omega
  exact Oy (eT _ _)
theorem Cl{rob:List Ent}{reg:Int}:∀ {n:Nat},n≤rob.length→(∀ y,y∈yL rob n→ ¬ wr y.2.i=reg)→zI rob reg n=none
 |0,_,_=>rfl
 |n+1,h,hN=>by
  have e:rob[n]?=some rob[n]:=aA h;simp only[yL,e]at hN;have h0: ¬ wr rob[n].i=reg:=hN (n,rob[n]) bO;simp only[zI,JZ,e];rw[if_neg (by simpa using h0)];exact Cl (mN h) λ y hy=>hN y (bZ _ hy)
theorem Cm{rob:List Ent}{reg:Int}:∀ {n:Nat} {pre:List (Nat×Ent)} {x:Nat×Ent},n≤rob.length→pre++[x] <+: yL rob n→(∀ y,y∈pre→ ¬ wr y.2.i=reg)→wr x.2.i=reg→zI rob reg n=some x.1
 |0,pre,x,_,h,_,_=>by have:=h.length_le;simp[yL]at this
 | n+1,pre,x,hn,h,hN,hx=>by
  have e:rob[n]?=some rob[n]:=aA hn;simp only[yL,e]at h;simp only[zI,JZ,e]
  cases pre with
  | nil=>
   obtain rfl:x=(n,rob[n]):=by
    obtain⟨t,ht⟩:=h;exact (List.cons.inj ht).1
   rw[if_pos (by simpa using hx)]
  |cons y l=>
   obtain⟨t,ht⟩:=h;obtain⟨h3,h4⟩:=List.cons.inj ht;subst h3;have h0: ¬ wr rob[n].i=reg:=hN (n,rob[n]) bO;rw[if_neg (by simpa using h0)];exact Cm (mN hn) ⟨t,h4⟩ (λ y hy=>hN y (bZ _ hy)) hx
theorem Xa(rob:List Ent)(ck:Bool)(i:Nat)(hl:rob.length≤1000)(ho:∀ x∈rob,x.ok)(hi:i≤1000):bY C0 201 [.sl 17 (rob.map enL) ck,vN i] (.clo 217 [] [.dp 1 0 [vN i],.dp 1 0 [.sl 17 (rob.map enL) ck]]):=by
 refine bY.intro c0Ok Tryz.func201 rfl rfl (by kernel_rfl) rfl<|aE<|aG rfl<|rAl 0 rfl rfl<|rAl 1 rfl rfl<|oR 1 rfl<|rE 3<|aE<|aG rfl<|rV (.clo 217 [] [.ptr 1 0,.ptr 0 0]) rfl<|oR 1 rfl<|rE 5<|cT ?_;exact eW rfl tvT rfl rfl
theorem Oz(rob:List Ent)(ck:Bool)(i:Nat)(reg:Int)(hl:rob.length≤1000)(ho:∀ x∈rob,x.ok)(hi:i≤1000):bY C0 157 [.sl 17 (rob.map enL) ck,vN i,vI reg] (vI (CB (gQ rob i reg))):=by
 refine bY.introR (C:=C0) (λ d=>c0Ok.wd d) (λ n=>c0Ok.at) Tryz.func157 rfl rfl (by kernel_rfl) rfl<|yN<|xZ rfl<|aG rfl<|rAl 0 rfl rfl<|rAl 1 rfl rfl<|rE 2<|yN<|yN<|xZ rfl<|aG rfl<|oR 1 rfl<|rV (vB (decide (reg<1))) rfl<|oR 1 rfl<|gN rfl<|gBS (x:=vB (decide (reg>31))) rfl id rfl ?_;refine cH rfl rfl rfl (by simp)<|rE 8 ?_;refine SO (v:=cA (decide (reg<1)) true (decide (reg>31))) rfl (λ h1=>?_) (λ h1=>?_)
 ·refine yN<|xZ rfl<|aG rfl<|rSt rfl<|rE 9<|xZ rfl<|cT ?_;have hb:(reg<1∨reg>31):=by have z:=h1;simp only[cOr]at z;grind
  have e:gQ rob i reg=none:=if_pos hb;rw[e];exact fT rfl rfl
 ·refine xZ rfl<|aZ<|yN<|yN<|xZ rfl<|aG rfl<|oR 2 rfl<|rCi rfl (Xa rob ck i hl ho hi)<|rE 11<|Km ?_;refine PC (.mk _ (.refl _) ⟨⟨cI [(5,.ptr 0 0),(6,.ptr 1 0),(17,.clo 217 [] [.dp 1 0 ([vN i]),.dp 1 0 ([.sl 17 (rob.map enL) ck])])],heapF [(0,.box [vI reg]),(1,.box [vI 0])],2⟩,λ s=>s,Weak.of_lists _ wT wH rfl,rfl,?_⟩);refine .mk (Nat×Ent) 217 [.dp 1 0 ([vN i]),.dp 1 0 ([.sl 17 (rob.map enL) ck])] (λ x:Nat×Ent=>[vN x.1,.agg (enL x.2)]) VC (yL rob (min i rob.length)) (λ x:Nat×Ent=> ¬ wr x.2.i=reg) rfl rfl ⟨_,Tryz.func217,rfl,rfl⟩ (WZ rob ck i hl ho hi) (λ x S w β=>CL (show Hq [vN x.1,.agg (enL x.2)]=some _ from rfl)) (λ _=>rfl) rfl ?_ ?_
  ·intro pre_ x hp_ hN_;have hxm:=zF (hp_.subset (List.mem_append_right _ (tM.2 rfl)));have hx1:x.1≤1000:=by have:=hxm.1;omega
   have hxo:=ho x.2 (aB hxm.2);refine aE<|aG rfl<|oR 1 rfl<|rE 3<|aG rfl<|rAl 3 rfl rfl<|rSt rfl<|rE 5 ?_;refine⟨rfl,?_⟩;refine bI<|aE<|aG rfl<|oR 2 rfl<|rCi rfl (GR x.2.i)<|oR 1 rfl<|rV (vB ((wr x.2.i)==reg)) rfl<|rE 10 ?_;refine aU rfl (λ h2=>?_) (λ h2=>?_)
   ·have h2p:=kX h2;refine aE<|aG rfl<|oR 1 rfl<|rSt rfl<|rE 12<|cT ?_;refine .mk _ (.refl _) ⟨heapF [(0,.box [vI reg]),(1,.box [vN x.1])],λ s=>s,rfl,Weak.of_lists (l:=[]) (hp:=[(0,.box [vI reg]),(1,.box [vN x.1])]) (λ s=>s) trivial wH rfl,?_⟩;intro D;have hb: ¬ (reg<1∨reg>31):=by have z:=h1;simp only[cOr]at z;grind
    have e:gQ rob i reg=some x.1:=(if_neg hb).trans (Cm (eT _ _) hp_ hN_ (kX h2));rw[e];exact fT rfl rfl
   ·have h2p:=kY h2;refine aZ ?_;exact⟨kY h2,.mk _ (.refl _) ⟨λ s=>s,rfl,Weak.of_lists (l:=[]) (hp:=[(0,.box [vI reg]),(1,.box [vI 0])]) (λ s=>s) trivial wH rfl⟩⟩
  ·intro hN D;refine yN<|xZ rfl<|aG rfl<|rSt rfl<|rE 3<|xZ rfl<|cT ?_;have hb: ¬ (reg<1∨reg>31):=by have z:=h1;simp only[cOr]at z;grind
   have e:gQ rob i reg=none:=(if_neg hb).trans (Cl (eT _ _) hN);rw[e];exact fT rfl rfl
theorem Fn{rob:List Ent}{reg:Int}:∀ {n k:Nat},zI rob reg n=some k→k<n
 |0,k,h=>by cases h
 |n+1,k,h=>by
  simp only[zI]at h;split at h
  ·injection h with h;omega
  ·have:=Fn h;omega
theorem DJ{rob:List Ent}{i k:Nat}{reg:Int}(h:gQ rob i reg=some k):k<i∧k<rob.length:=by
 unfold gQ at h;split at h
 ·cases h
 ·have:=Fn h;omega
theorem Lb{o:Option Nat}(h:CB o<0):o=none:=by cases o with|none=>rfl|some k=>exact absurd h (by show ¬ ((k:Int)<0);omega)
theorem Gz{o:Option Nat}(h: ¬ CB o<0):∃ k,o=some k:=by cases o with|none=>exact absurd (by decide) h|some k=>exact⟨k,rfl⟩
theorem Ir(rob:List Ent)(r:Nat→Nat)(ck:Bool)(i:Nat)(reg:Int)(hl:rob.length≤1000)(ho:∀ x∈rob,x.ok)(hr:∀ k,r k≤4294967295)(hi:i≤1000):bY C0 101 [.sl 17 (rob.map enL) ck,.agg (Iz r),vN i,vI reg] (.tup [vU ((kN rob r i reg).getD 0),vB (kN rob r i reg).isSome]):=by
 refine bY.intro c0Ok Tryz.func101 rfl rfl (by kernel_rfl) rfl<|aE<|aG rfl<|rAl 0 rfl rfl<|oR 2 rfl<|rE 3<|aE<|aE<|aG rfl<|oR 1 rfl<|rV (vB (reg==0)) rfl<|rE 5 ?_;refine aU rfl (λ h1=>?_) (λ h1=>?_)
 ·have h1p:=kX h1;refine aE<|aG rfl<|oR 2 rfl<|rE 7<|cT ?_;have hrd:kN rob r i reg=some 0:=by unfold kN;rw[if_pos h1p]
  exact fT rfl (by rw[hrd];rfl)
 ·have h1p:=kY h1;refine aZ<|aE<|aE<|aG rfl<|oR 1 rfl<|rV (vB (decide (reg<0))) rfl<|oR 1 rfl<|gN rfl<|gBS (x:=vB (decide (reg>31))) rfl id rfl<|cH rfl rfl rfl (by simp)<|rE 11 ?_;refine aU rfl (λ h2=>?_) (λ h2=>?_)
  ·have hb:(reg<0∨reg>31):=by have z:=h2;simp only[cOr]at z;grind
   refine aE<|aG rfl<|oR 2 rfl<|rE 13<|cT ?_;have hrd:kN rob r i reg=none:=by unfold kN;rw[if_neg h1p,if_pos hb]
   exact fT rfl (by rw[hrd];rfl)
  ·have hb: ¬ (reg<0∨reg>31):=by have z:=h2;simp only[cOr]at z;grind
   refine aZ<|aE<|aG rfl<|oR 3 rfl<|rCi rfl (Oz rob ck (i) (reg) hl ho omT)<|oR 1 rfl<|rE 16<|aE<|aE<|aG rfl<|oR 1 rfl<|rV (vB (decide ((CB (gQ rob (i) (reg)))<0))) rfl<|rE 18 ?_;refine aU rfl (λ h3=>?_) (λ h3=>?_)
   ·have h3p:=of_decide_eq_true h3;have hj:=Lb h3p;refine aE<|aG rfl<|oR 1 rfl<|nW (.ptr 0 (0+reg.toNat * 1)) rfl rfl omT<|rW (vU (r reg.toNat)) rfl (ldL r reg.toNat omT)<|oR 2 rfl<|rE 23<|cT ?_;have hrd:kN rob r i reg=some (r reg.toNat):=by unfold kN;rw[if_neg h1p,if_neg hb,hj]
    exact fT rfl (by rw[hrd];rfl)
   ·have h3p:=aD h3;obtain⟨j,hj⟩:=Gz h3p;have hjl:=DJ hj;obtain⟨x,hx⟩:∃ x,rob[j]?=some x:=⟨_,aA hjl.2⟩;have hxo:=ho x (aB hx);refine aZ<|aE<|aE<|aG rfl<|oR 2 rfl<|Fb (enL x) (x:=.dp 17 0 (enL x)) rfl rfl rfl (by rw[hj];exact⟨aI _,gJ hx⟩) rfl<|oR 1 rfl<|rAl 22 rfl rfl<|rSt rfl<|rE 24<|aE<|aG rfl<|oR 2 rfl<|rV (vB (x.is==3)) rfl<|oR 1 rfl<|gN rfl ?_;refine gS rfl id<|gBS (x:=vB (x.halt==0)) rfl id rfl<|cH rfl rfl rfl (λ h=>h)<|rE 32 ?_;refine aU rfl (λ h4=>?_) (λ h4=>?_)
    ·refine aE<|aG rfl<|oR 4 rfl<|rE 36<|cT ?_;have hd:(x.is=3∧x.halt=0):=by have z:=h4;simp only[pM]at z;grind
     have hrd:kN rob r i reg=some x.value:=by unfold kN;rw[if_neg h1p,if_neg hb,hj];simp only[hx];exact if_pos hd
     exact fT rfl (by rw[hrd];rfl)
    ·refine aZ<|aE<|aG rfl<|oR 2 rfl<|rE 34<|cT ?_;have hd: ¬ (x.is=3∧x.halt=0):=by have z:=h4;simp only[pM]at z;grind
     have hrd:kN rob r i reg=none:=by unfold kN;rw[if_neg h1p,if_neg hb,hj];simp only[hx];exact if_neg hd
     exact fT rfl (by rw[hrd];rfl)
theorem Bh{rob:List Ent}{r:Nat→Nat}(ho:∀ x∈rob,x.ok)(hr:∀ k,r k≤4294967295)(i:Nat)(reg:Int):(kN rob r i reg).getD 0≤4294967295:=by
 unfold kN;split
 ·exact aF _
 ·split
  ·exact aF _
  ·split
   ·exact hr _
   ·split
    ·rename_i e he;split
     ·exact (ho e (aB he)).value
     ·exact aF _
    ·exact aF _
theorem SC(rob:List Ent)(r:Nat→Nat)(ck:Bool)(i:Nat)(hl:rob.length≤1000)(ho:∀ x∈rob,x.ok)(hr:∀ k,r k≤4294967295)(hi:i≤1000):bY C0 164 [.sl 17 (rob.map enL) ck,.agg (Iz r),vN i] (.tup [vU (lE rob r i).1,vU (lE rob r i).2.1,vB (lE rob r i).2.2]):=by
 refine bY.intro c0Ok Tryz.func164 rfl rfl (by kernel_rfl) rfl<|aE<|aG rfl<|rAl 0 rfl rfl<|oR 3 rfl<|rE 4<|aE<|aE<|aG rfl<|oR 1 rfl<|rW (vB (decide (i<0))) rfl (okB (ltN _ _))<|oR 1 rfl<|gN rfl<|gN rfl<|gBS (x:=vN rob.length) rfl id (bQ enL rob)<|gBS (x:=vB (decide (i≥rob.length))) rfl hsT (okB (geN _ _)) ?_;refine cH rfl rfl rfl (by simp)<|rE 12 ?_;refine aU rfl (λ h1=>?_) (λ h1=>?_)
 ·have hb:(i≥rob.length):=by have z:=h1;simp only[cOr]at z;grind
  refine aE<|aG rfl<|oR 3 rfl<|rE 15<|cT ?_;have hn:rob[i]?=none:=bR omT;exact fT rfl (by rw[show lE rob r i=(0,0,false)from by unfold lE;rw[hn]];rfl)
 ·have hb: ¬ (i≥rob.length):=by have z:=h1;simp only[cOr]at z;grind
  refine aZ<|aE<|aG rfl<|oR 2 rfl ?_;obtain⟨x,hx⟩:∃ y_,rob[i]?=some y_:=⟨_,aA omT⟩;have hxo:=ho x (aB hx);refine rIx (enL x) (.dp 17 0 (enL x)) rfl rfl (gJ hx) rfl<|oR 2 rfl<|rCi rfl (Fw x.i)<|oR 5 rfl<|rE 23<|aE<|aG rfl<|oR 4 rfl<|rCi rfl (Ir rob r ck (i) (x.i.rs1) hl ho hr omT)<|oR 5 rfl<|rE 33<|aE<|aG rfl<|oR 4 rfl<|rCi rfl (Ir rob r ck (i) (x.i.rs2) hl ho hr omT)<|oR 5 rfl ?_;refine rE 43<|aE<|aG rfl<|oR 4 rfl<|gN rfl<|cH rfl rfl rfl (λ h=>h)<|oR 3 rfl<|rE 52<|cT ?_;exact fT rfl (by rw[show lE rob r i=((kN rob r i x.i.rs1).getD 0,(kN rob r i x.i.rs2).getD 0,(kN rob r i x.i.rs1).isSome&&(kN rob r i x.i.rs2).isSome)from by unfold lE;rw[hx]];simp only[←pM];rfl)
theorem WY(e:Ent)(he:e.ok):bY C0 231 [.agg (enL e)] (vB (Ka e)):=by
 refine bY.intro c0Ok Tryz.func231 rfl rfl (by kernel_rfl) rfl<|aE<|aG rfl<|rAl 0 rfl rfl<|oR 1 rfl<|rE 2<|aE<|aE<|aG rfl<|oR 2 rfl<|rV (vB (e.halt != 0)) rfl<|rE 5 ?_;refine aU rfl (λ h1=>?_) (λ h1=>?_)
 ·have h1p:=vA h1;refine aE<|aG rfl<|oR 1 rfl<|rE 6<|cT ?_;replace h1:=sP h1;exact fT rfl (cY (by unfold Ka;grind))
 ·have h1p:=vC h1;refine aZ<|aE<|aE<|aG rfl<|oR 2 rfl<|rCi rfl (qG e.i)<|rE 8<|bI<|aE<|aG rfl<|rW (vB ((kindOf e.i.op)==6)) rfl (okB (eqN _ _))<|oR 1 rfl<|rE 10 ?_;refine aU rfl (λ h2=>?_) (λ h2=>?_)
  ·have h2p:=kX h2;refine aE<|aG rfl<|oR 1 rfl<|rE 11<|cT ?_;replace h1:=sP h1;replace h2:=sP h2;exact fT rfl (cY (by unfold Ka;grind))
  ·have h2p:=kY h2;refine aE<|aE<|aG rfl<|rW (vB ((kindOf e.i.op)==3)) rfl (okB (eqN _ _))<|oR 1 rfl<|rE 12 ?_;refine aU rfl (λ h3=>?_) (λ h3=>?_)
   ·have h3p:=kX h3;refine aZ ?_;refine aU rfl (λ _=>?_) (λ h4=>Bool.noConfusion (h3.symm.trans h4));refine aE<|aG rfl<|oR 3 rfl<|rE 15<|cT ?_;replace h1:=sP h1;replace h2:=sP h2;replace h3:=sP h3;exact fT rfl (cY (by unfold Ka;grind))
   ·have h3p:=kY h3;refine aE<|aG rfl<|rW (vB ((kindOf e.i.op)==4)) rfl (okB (eqN _ _))<|oR 1 rfl<|rE 14 ?_;refine aU rfl (λ h5=>?_) (λ h5=>?_)
    ·have h5p:=kX h5;refine aZ ?_;refine aU rfl (λ _=>?_) (λ h6=>Bool.noConfusion (h5.symm.trans h6));refine aE<|aG rfl<|oR 3 rfl<|rE 17<|cT ?_;replace h1:=sP h1;replace h2:=sP h2;replace h3:=sP h3;replace h5:=sP h5;exact fT rfl (cY (by unfold Ka;grind))
    ·have h5p:=kY h5;refine aG rfl<|rW (vB ((kindOf e.i.op)==5)) rfl (okB (eqN _ _))<|oR 1 rfl<|rE 16 ?_;refine aU rfl (λ h7=>?_) (λ h7=>?_)
     ·have h7p:=kX h7;refine aE<|aG rfl<|oR 3 rfl<|rE 19<|cT ?_;replace h1:=sP h1;replace h2:=sP h2;replace h3:=sP h3;replace h5:=sP h5;replace h7:=sP h7;exact fT rfl (cY (by unfold Ka;grind))
     ·have h7p:=kY h7;refine aZ<|aE<|aG rfl<|oR 1 rfl<|rE 17<|cT ?_;replace h1:=sP h1;replace h2:=sP h2;replace h3:=sP h3;replace h5:=sP h5;replace h7:=sP h7;exact fT rfl (cY (by unfold Ka;grind))
theorem TF{α:Type}{p:α→Bool}{l:List α}{k:Nat}{x:α}(hx:l[k]?=some x)(hp:p x=true)(h:∀ y∈l.take k,p y=false):l.findIdx p=k:=by
 have:=OB hx hp h;rw[List.findIdx?_eq_some_iff_findIdx_eq]at this;exact this.2
theorem TG{α:Type}{p:α→Bool}{l:List α}{k:Nat}(hk:l.length≤k)(h:∀ y∈l.take k,p y=false):l.findIdx p=l.length:=by
 rw[aN hk]at h;exact List.findIdx_eq_length.2 h
theorem Ov(rob:List Ent)(ck:Bool)(hl:rob.length≤1000)(ho:∀ x∈rob,x.ok):bY C0 219 [.sl 17 (rob.map enL) ck] (vN (Bn rob)):=by
 refine dc1 (bY.intro c1Ok Tryz.func219 rfl rfl (by kernel_rfl) rfl ?_);refine aE<|aG rfl<|oR 1 rfl<|rE 1<|aE<|aE<|aG rfl<|oR 1 rfl<|rW (vN rob.length) rfl (bQ enL rob)<|oR 1 rfl<|rE 4<|bI<|kZ (κ:=Nat) (λ k=>⟨cI [(0,.sl 17 (rob.map enL) ck),(5,.sl 17 (rob.map enL) ck),(6,vN rob.length),(7,vN k)],heapF [],4⟩) (λ k=>k≤rob.length∧∀ y∈rob.take k,(!Ka y)=false) (λ k=>rob.length - k) 0 (λ s=>s) (Weak.of_lists (λ s=>s) wT trivial rfl) (⟨aF _,OC⟩) ?_;intro k hk;have hkn:k≤rob.length:=hk.1;have hkB:k≤1000000:=by omega
 refine aE<|aG rfl<|rW (vB (decide (k<rob.length))) rfl (okB (ltN _ _))<|rE 5<|aE ?_;refine aU rfl (λ h1=>?_) (λ h1=>?_)
 ·have h1p:=of_decide_eq_true h1;refine aZ<|aE<|bI<|aE<|aG rfl<|oR 1 rfl ?_;obtain⟨x,hx⟩:∃ y_,rob[k]?=some y_:=⟨_,aA omT⟩;have hxo:=ho x (aB hx);refine rIx (enL x) (.dp 17 0 (enL x)) rfl rfl (gJ hx) rfl<|oR 1 rfl<|rAl 8 rfl rfl<|oR 1 rfl<|rSt rfl<|rE 11<|aE<|aG rfl<|oR 1 rfl<|rCi rfl (WY x hxo)<|oR 1 rfl<|rE 14 ?_;refine aU rfl (λ h2=>?_) (λ h2=>?_)
  ·refine aE<|aG rfl<|oR 2 rfl<|rE 16<|cT ?_;exact fT rfl (Wz (by unfold Bn;rw[TF hx (by simpa using h2) hk.2]))
  ·refine aZ<|aG rfl ?_;have b1:k+1≤1000001:=aH hkB (aC 1);refine rW (vN (k+1)) rfl (okI (bS b1 rfl))<|oR 1 rfl<|rE 16 ?_;refine⟨k+1,λ s=>s,Weak.of_lists _ wT trivial rfl,⟨by omega,OA hx (by simpa using h2) hk.2⟩,by show rob.length - (k+1)<rob.length - k;omega⟩
 ·have h1p:=aD h1;refine eA<|aE<|aG rfl<|oR 1 rfl<|rW (vN rob.length) rfl (bQ enL rob)<|oR 1 rfl<|rE 8<|cT ?_;exact fT rfl (Wz (by unfold Bn;rw[TG omT hk.2]))
theorem Lc(rob:List Ent)(ck:Bool)(i:Nat)(hl:rob.length≤1000)(ho:∀ x∈rob,x.ok)(hi:i≤1000):bY C0 206 [.sl 17 (rob.map enL) ck,vN i] (vB (tW rob i)):=by
 refine bY.intro c0Ok Tryz.func206 rfl rfl (by kernel_rfl) rfl<|aE<|aG rfl<|oR 1 rfl<|rE 1<|aE<|aG rfl<|oR 1 rfl<|rW (vB (decide (i≥0))) rfl (okB (geN _ _))<|oR 1 rfl<|gN rfl<|gN rfl<|gBS (x:=vN rob.length) rfl id (bQ enL rob)<|gBS (x:=vB (decide (i≤rob.length))) rfl hsT (okB (leN _ _))<|cH rfl rfl rfl (λ h=>h)<|oR 1 rfl ?_;refine gN rfl<|gN rfl<|jI (args:=[.sl 17 (rob.map enL) ck]) (x:=vN (Bn rob)) (g:=cA (decide (i≥0)) (decide (i≤rob.length)) false) rfl rfl rfl rfl (λ h=>h) rfl rfl rfl (.inl rfl) rfl (λ hg=>Ov rob ck hl ho)<|gBS (x:=vB (decide (i≤(Bn rob)))) rfl hsT (okB (leN _ _))<|cH rfl rfl rfl (λ h=>h)<|oR 1 rfl<|rE 16<|cT ?_;exact fT rfl (cY (by unfold tW;rw[bT];simp[pM]))
theorem lY(rob:List Ent):∀ k,(eO rob k).length=k
 |0=>rfl
 |k+1=>by simp only[eO,aY,lY rob k,bN,cW]
theorem Rd{rob:List Ent}{k j:Nat}{x:Int}{o:Option Nat}(ho:o=some j)(hx:(eO rob k)[j]?=some x):rO (eO rob k) o=x:=by
 subst ho;show (eO rob k).getD j (-1)=x;rw[bP,hx];rfl
theorem Ow(rob:List Ent)(ck:Bool)(i k:Nat)(reg:Int)(hl:rob.length≤1000)(ho:∀ x∈rob,x.ok)(hi:i≤k)(hk:k≤1000):pJ C0.P C0.G 230 [vN i,vI reg,.ptr 0 0,.ptr 1 0] (heapF [(0,.box [.sl 17 (rob.map enL) ck]),(1,.box [.osl 2 0 k false]),(2,.arr ((eO rob k).map fD) 1)]) 3 (λ x h'=>x=vI (rO (eO rob k) (gQ rob i reg))∧h'=heapF [(0,.box [.sl 17 (rob.map enL) ck]),(1,.box [.osl 2 0 k false]),(2,.arr ((eO rob k).map fD) 1)]):=by
 refine HCall.intro (C:=C0) (s:=3) c0Ok.at Tryz.func230 rfl rfl (by kernel_rfl) rfl rfl<|aE<|aG rfl<|oR 1 rfl<|rE 4<|aE<|aE<|aG rfl<|oR 3 rfl<|rCi rfl (Oz rob ck (i) (reg) hl ho omT)<|oR 1 rfl<|rE 9<|aE<|aG rfl<|oR 1 rfl<|rV (vB (decide ((CB (gQ rob (i) (reg)))≥0))) rfl ?_;refine rE 11 ?_;refine aU rfl (λ h1=>?_) (λ h1=>?_)
 ·have h1p:=of_decide_eq_true h1;obtain⟨j,hj⟩:=Gz (show ¬ CB (gQ rob i reg)<0 by omega);have hjl:=DJ hj;have hrk:=lY rob k;refine aE<|aG rfl<|oR 2 rfl<|nW (.ptr2 2 (0+j) 0) rfl ((show Res.need _ (AV.ptr2 2 (0+(CB (gQ rob i reg)).toNat) 0)=Res.need _ (AV.ptr2 2 (0+j) 0)from by rw[hj];rfl)) (by (try rw[hj]);exact⟨aI _,by show (j:Int)<(k:Int);omega⟩) ?_;obtain⟨x,hx⟩:∃ y_,(eO rob k)[j]?=some y_:=⟨_,aA omT⟩;refine rIx (fD x) (vI x) rfl rfl (Hk (gJ hx)) rfl<|oR 1 rfl<|rE 16<|cT ?_;refine oX (rs:=[vI x]) rfl (r:=vI (rO (eO rob k) (gQ rob i reg))) (h':=heapF [(0,.box [.sl 17 (rob.map enL) ck]),(1,.box [.osl 2 0 k false]),(2,.arr ((eO rob k).map fD) 1)]) (σ:=λ z=>z) ⟨rfl,rfl⟩ rfl (cF (λ z=>z) (by rw[Rd hj hx];rfl) rfl wH rfl)
 ·have h1p:=aD h1;have hj:=Lb (show CB (gQ rob i reg)<0 by omega);refine aZ<|aE<|aG rfl<|oR 1 rfl<|rE 12<|cT ?_;refine oX (rs:=[vI (-1)]) rfl (r:=vI (rO (eO rob k) (gQ rob i reg))) (h':=heapF [(0,.box [.sl 17 (rob.map enL) ck]),(1,.box [.osl 2 0 k false]),(2,.arr ((eO rob k).map fD) 1)]) (σ:=λ z=>z) ⟨rfl,rfl⟩ rfl (cF (λ z=>z) (by rw[hj];rfl) rfl wH rfl)
theorem Vx(a b:Int):(if b>a then b else a)=max a b:=by omega
theorem DK{p:Prop}{H:AH}{s rs:Nat}{rob:List Ent}{k:Nat}{x:Int}(hl:(eO rob k).length=k)(hx:x=Ct rob (eO rob k) k):
  Res.fx p (.osl s 0 ((List.take k (List.drop 0 ((eO rob k).map fD))).length+[[AV.v (.int .i64 x)]].length) false) (upd H s (some (.arr (List.take k (List.drop 0 ((eO rob k).map fD))++[[AV.v (.int .i64 x)]]) rs)))=.fx p (.osl s 0 (k+1) false) (upd H s (some (.arr ((eO rob (k+1)).map fD) rs))):=by
 rw[cQ,aN (by rw[aO,hl];exact aC _),aO,hl];simp only[eO,fX,iW,List.map_nil, ←hx];rfl
theorem Vy(rob:List Ent)(ck:Bool)(hl:rob.length≤1000)(ho:∀ x∈rob,x.ok):bY C0 218 [.sl 17 (rob.map enL) ck] (.sl 1 ((yI rob).map fD) false):=by
 refine dc1 (bY.intro c1Ok Tryz.func218 rfl rfl (by kernel_rfl) rfl ?_);refine aE<|aG rfl<|rAl 0 rfl rfl<|oR 1 rfl<|rE 2<|aE<|aG rfl<|oR 1 rfl<|rCi rfl (Ov rob ck hl ho)<|oR 1 rfl<|rE 5<|aE<|aG rfl<|oR 1 rfl<|rW (vN rob.length) rfl (bQ enL rob)<|rFx (x:=.osl 7 0 0 false) (h':=upd _ 7 (some (.arr (([]:List Int).map fD) 1))) rfl rfl (rfl) (⟨by decide,Eo.2 omT,by show ((rob.length:Nat):Int)≤1000000;omega⟩) ?_;refine rAl 8 rfl rfl<|rSt rfl<|rE 10<|aE<|aG rfl<|rV (.clo 230 [] [.ptr 0 0,.ptr 8 0]) rfl<|oR 1 rfl<|rE 12<|aE<|aE<|aG rfl<|oR 1 rfl<|rW (vN rob.length) rfl (bQ enL rob)<|oR 1 rfl<|rE 15<|bI ?_;refine kZ (κ:=Nat) (λ k=>⟨cI [(2,.sl 0 ([]) true),(3,vN (Bn rob)),(4,.ptr 8 0),(5,.clo 230 [] [.ptr 0 0,.ptr 8 0]),(17,.sl 17 (rob.map enL) ck),(18,vN rob.length),(19,vN k)],heapF [(0,.box [.sl 17 (rob.map enL) ck]),(7,.arr ((eO rob k).map fD) 1),(8,.box [.osl 7 0 k false])],15⟩) (λ k=>k≤rob.length) (λ k=>rob.length - k) 0 (λ s=>s) (Weak.of_lists (λ s=>s) wT wH rfl) (aF _) ?_;intro k hk;have hkn:k≤rob.length:=hk;have hkB:k≤1000:=by omega
 refine aE<|aG rfl<|rW (vB (decide (k<rob.length))) rfl (okB (ltN _ _))<|rE 16<|aE ?_;refine aU rfl (λ h1=>?_) (λ h1=>?_)
 ·have h1p:=of_decide_eq_true h1;refine aZ<|aE<|bI<|aE<|aG rfl<|oR 1 rfl ?_;obtain⟨x,hx⟩:∃ y_,rob[k]?=some y_:=⟨_,aA omT⟩;have hxo:=ho x (aB hx);refine rIx (enL x) (.dp 17 0 (enL x)) rfl rfl (gJ hx) rfl<|oR 1 rfl<|rAl 19 rfl rfl<|oR 1 rfl<|rSt rfl<|rE 22<|aE<|aG rfl<|oR 1 rfl<|rE 23<|aE<|aE<|aG rfl<|oR 2 rfl<|rCi rfl (qG x.i)<|rW (vB ((kindOf x.i.op) != 3)) rfl (okB (neN _ _)) ?_;refine rE 27 ?_;refine aU rfl (λ h2=>?_) (λ h2=>?_)
  ·have h2p:=vA h2;refine aE<|aG rfl<|oR 2 rfl<|rCi rfl (Fw x.i)<|oR 5 rfl<|rE 35<|aG rfl<|oR 3 rfl<|eE (args:=[vN k,vI x.i.rs1,.ptr 0 0,.ptr 8 0]) (d:=37) _ rfl rfl rfl ((Ow rob ck k k x.i.rs1 hl ho (aC k) omT).frameU (λ z=>match z with|0=>0|1=>8|2=>7|z=>z) _ _ rfl ⟨⟨rfl,rfl,rfl,rfl⟩,⟨rfl,rfl,rfl,rfl⟩,⟨rfl,rfl,rfl,rfl⟩,trivial⟩ rfl rfl rfl) ?_;rintro _ _ ⟨rfl,rfl⟩;refine oR 3 rfl<|eE (args:=[vN k,vI x.i.rs2,.ptr 0 0,.ptr 8 0]) (d:=41) _ rfl rfl rfl ((Ow rob ck k k x.i.rs2 hl ho (aC k) omT).frameU (λ z=>match z with|0=>0|1=>8|2=>7|z=>z) _ _ rfl ⟨⟨rfl,rfl,rfl,rfl⟩,⟨rfl,rfl,rfl,rfl⟩,⟨rfl,rfl,rfl,rfl⟩,trivial⟩ rfl rfl rfl) ?_;rintro _ _ ⟨rfl,rfl⟩;refine rV (vI (if (rO (eO rob k) (gQ rob k x.i.rs2))>(rO (eO rob k) (gQ rob k x.i.rs1))then (rO (eO rob k) (gQ rob k x.i.rs2))else (rO (eO rob k) (gQ rob k x.i.rs1)))) rfl<|oR 1 rfl<|rE 45<|aG rfl<|oR 2 rfl<|rV (.sl 1 ([[vI (if (rO (eO rob k) (gQ rob k x.i.rs2))>(rO (eO rob k) (gQ rob k x.i.rs1))then (rO (eO rob k) (gQ rob k x.i.rs2))else (rO (eO rob k) (gQ rob k x.i.rs1)))]]) true) rfl ?_;have hrt:(if (rO (eO rob k) (gQ rob k x.i.rs2))>(rO (eO rob k) (gQ rob k x.i.rs1))then (rO (eO rob k) (gQ rob k x.i.rs2))else (rO (eO rob k) (gQ rob k x.i.rs1)))=Ct rob (eO rob k) k:=by unfold Ct;rw[hx];exact (Vx _ _).trans (if_pos h2p).symm
   refine rFx (x:=.osl 48 0 (k+1) false) (h':=upd (upd _ 7 none) 48 (some (.arr ((eO rob (k+1)).map fD) 1))) rfl rfl (DK (lY rob k) hrt) (⟨by simp only[aO,bN,cW,aQ,bA,lY,oL];omega,by simp only[aO,lY];omega,trivial⟩)<|rSt rfl<|rE 50<|aG rfl ?_;have b1:k+1≤1001:=aH hkB (aC 1);refine rW (vN (k+1)) rfl (okI (bS b1 rfl))<|oR 1 rfl<|rE 52 ?_;refine⟨k+1,λ z=>match z with|7=>48|z=>z,Weak.of_lists _ wT wH rfl,by omega,by show rob.length - (k+1)<rob.length - k;omega⟩
  ·have h2p:=vC h2;refine aE<|aG rfl<|oR 2 rfl<|rW (vB (decide (k>(Bn rob)))) rfl (okB (gtN _ _))<|rE 30 ?_;refine aU rfl (λ h3=>?_) (λ h3=>?_)
   ·have h3p:=of_decide_eq_true h3;refine aG rfl<|oR 2 rfl<|rE 32<|aG rfl<|oR 2 rfl<|rV (.sl 1 ([[vN k]]) true) rfl ?_;have hrt:(k:Int)=Ct rob (eO rob k) k:=by unfold Ct;rw[hx];dsimp only;rw[if_neg (show ¬ kindOf x.i.op≠3 from λ q=>q h2p),if_pos h3p]
    refine rFx (x:=.osl 35 0 (k+1) false) (h':=upd (upd _ 7 none) 35 (some (.arr ((eO rob (k+1)).map fD) 1))) rfl rfl (DK (lY rob k) hrt) (⟨by simp only[aO,bN,cW,aQ,bA,lY,oL];omega,by simp only[aO,lY];omega,trivial⟩)<|rSt rfl<|rE 37<|aG rfl ?_;have b2:k+1≤1001:=aH hkB (aC 1);refine rW (vN (k+1)) rfl (okI (bS b2 rfl))<|oR 1 rfl<|rE 39 ?_;refine⟨k+1,λ z=>match z with|7=>35|z=>z,Weak.of_lists _ wT wH rfl,by omega,by show rob.length - (k+1)<rob.length - k;omega⟩
   ·have h3p:=aD h3;refine aZ<|aG rfl<|oR 2 rfl<|rV (.sl 1 ([[vI (-1)]]) true) rfl ?_;have hrt:(-1)=Ct rob (eO rob k) k:=by unfold Ct;rw[hx];dsimp only;rw[if_neg (show ¬ kindOf x.i.op≠3 from λ q=>q h2p),if_neg h3p]
    refine rFx (x:=.osl 33 0 (k+1) false) (h':=upd (upd _ 7 none) 33 (some (.arr ((eO rob (k+1)).map fD) 1))) rfl rfl (DK (lY rob k) hrt) (⟨by simp only[aO,bN,cW,aQ,bA,lY,oL];omega,by simp only[aO,lY];omega,trivial⟩)<|rSt rfl<|rE 35<|aG rfl ?_;have b3:k+1≤1001:=aH hkB (aC 1);refine rW (vN (k+1)) rfl (okI (bS b3 rfl))<|oR 1 rfl<|rE 37 ?_;refine⟨k+1,λ z=>match z with|7=>33|z=>z,Weak.of_lists _ wT wH rfl,by omega,by show rob.length - (k+1)<rob.length - k;omega⟩
 ·have h1p:=aD h1;refine eA<|aE<|aG rfl<|oR 2 rfl<|rE 18<|cT ?_;have hke:k=rob.length:=by omega
  subst hke;refine eW rfl (by show 0+rob.length≤((eO rob rob.length).map fD).length;rw[aO,lY];omega) rfl ?_;show AV.sl 1 (List.take rob.length (List.drop 0 ((eO rob rob.length).map fD))) false=_;rw[kA fD (eO rob rob.length) (by rw[lY];exact aC _)];rfl
theorem Vz{rob:List Ent}{i:Nat}{reg:Int}(hg:decide (CB (gQ rob i reg)≥0)=true):0≤CB (gQ rob i reg)∧((yI rob).map fD)[(CB (gQ rob i reg)).toNat]?=some (fD ((yI rob).getD (CB (gQ rob i reg)).toNat (-1))):=by
 have h:=of_decide_eq_true hg;obtain⟨j,hj⟩:=Gz (show ¬ CB (gQ rob i reg)<0 by omega);refine⟨h,?_⟩;rw[hj];have hl:=(DJ hj).2;have hr:(yI rob).length=rob.length:=lY rob rob.length;show ((yI rob).map fD)[j]?=some (fD ((yI rob).getD j (-1)));rw[bH,bP,aA omT];rfl
theorem Re(rob:List Ent)(i:Nat)(reg:Int):cA (decide (CB (gQ rob i reg)≥0)) (decide ((yI rob).getD (CB (gQ rob i reg)).toNat (-1)≥0)) false=GL rob i reg:=by
 unfold GL
 cases h:gQ rob i reg with
 |none=>rfl
 |some j=>
  rw[show decide (CB (some j)≥0)=true from pH (aI _)];rfl
theorem Rf(rob:List Ent)(ck:Bool)(i:Nat)(reg:Int)(hl:rob.length≤1000)(ho:∀ x∈rob,x.ok)(hi:i≤1000):bY C0 204 [.sl 17 (rob.map enL) ck,vN i,vI reg] (vB (GL rob i reg)):=by
 refine bY.intro c0Ok Tryz.func204 rfl rfl (by kernel_rfl) rfl<|aE<|aG rfl<|oR 1 rfl<|rE 1<|aE<|aG rfl<|oR 3 rfl<|rCi rfl (Oz rob ck (i) (reg) hl ho omT)<|oR 1 rfl<|rE 6<|aE<|aG rfl<|oR 1 rfl<|rV (vB (decide ((CB (gQ rob (i) (reg)))≥0))) rfl<|oR 1 rfl ?_;refine gN rfl<|jI (args:=[.sl 17 (rob.map enL) ck]) (x:=.sl 1 ((yI rob).map fD) false) (g:=decide ((CB (gQ rob (i) (reg)))≥0)) rfl rfl rfl rfl (λ h=>h) rfl rfl rfl (.inl rfl) rfl (λ hg=>Vy rob ck hl ho)<|gN rfl<|JF (fD ((yI rob).getD (CB (gQ rob i reg)).toNat (-1))) (x:=.dp 1 0 (fD ((yI rob).getD (CB (gQ rob i reg)).toNat (-1)))) (g:=decide ((CB (gQ rob (i) (reg)))≥0)) rfl rfl rfl rfl hsT rfl rfl (λ hg=>Vz hg) rfl<|gS rfl id<|gBS (x:=vB (decide (((yI rob).getD (CB (gQ rob i reg)).toNat (-1))≥0))) rfl id rfl<|cH rfl rfl rfl (λ h=>h)<|oR 1 rfl<|rE 17<|cT ?_;exact fT rfl (cY (Re rob i reg))
theorem VA(e:Ent)(he:e.ok):bY C0 202 [.agg (enL e)] (vB (Cu e)):=by
 refine bY.intro c0Ok Tryz.func202 rfl rfl (by kernel_rfl) rfl<|aE<|aG rfl<|rAl 0 rfl rfl<|oR 1 rfl<|rE 2<|aE<|aE<|aG rfl<|oR 2 rfl<|rCi rfl (qG e.i)<|rE 5<|bI<|aE<|aE<|aG rfl ?_;refine rW (vB ((kindOf e.i.op)==3)) rfl (okB (eqN _ _))<|oR 1 rfl<|rE 7 ?_;refine aU rfl (λ h1=>?_) (λ h1=>?_)
 ·have h1p:=kX h1;refine aZ ?_;refine aU rfl (λ _=>?_) (λ h2=>Bool.noConfusion (h1.symm.trans h2));refine aE<|aG rfl<|oR 1 rfl<|rE 8<|cT ?_;replace h1:=sP h1;exact fT rfl (cY (by unfold Cu;rw[bT];simp only[bC];grind))
 ·have h1p:=kY h1;refine aE<|aG rfl<|rW (vB ((kindOf e.i.op)==4)) rfl (okB (eqN _ _))<|oR 1 rfl<|rE 9 ?_;refine aU rfl (λ h3=>?_) (λ h3=>?_)
  ·have h3p:=kX h3;refine aZ ?_;refine aU rfl (λ _=>?_) (λ h4=>Bool.noConfusion (h3.symm.trans h4));refine aE<|aG rfl<|oR 1 rfl<|rE 10<|cT ?_;replace h1:=sP h1;replace h3:=sP h3;exact fT rfl (cY (by unfold Cu;rw[bT];simp only[bC];grind))
  ·have h3p:=kY h3;refine aE<|aG rfl<|rW (vB ((kindOf e.i.op)==2)) rfl (okB (eqN _ _))<|oR 1 rfl<|rE 11 ?_;refine aU rfl (λ h5=>?_) (λ h5=>?_)
   ·have h5p:=kX h5;refine aZ ?_;refine aU rfl (λ _=>?_) (λ h6=>Bool.noConfusion (h5.symm.trans h6));refine aE<|aG rfl<|oR 1 rfl<|rE 12<|cT ?_;replace h1:=sP h1;replace h3:=sP h3;replace h5:=sP h5;exact fT rfl (cY (by unfold Cu;rw[bT];simp only[bC];grind))
   ·have h5p:=kY h5;refine aG rfl<|rW (vB ((kindOf e.i.op)==5)) rfl (okB (eqN _ _))<|oR 1 rfl<|rE 13 ?_;refine aU rfl (λ h7=>?_) (λ h7=>?_)
    ·have h7p:=kX h7;refine aE<|aG rfl<|oR 1 rfl<|rE 14<|cT ?_;replace h1:=sP h1;replace h3:=sP h3;replace h5:=sP h5;replace h7:=sP h7;exact fT rfl (cY (by unfold Cu;rw[bT];simp only[bC];grind))
    ·have h7p:=kY h7;refine aZ<|aE<|aG rfl<|oR 1 rfl<|rE 14<|cT ?_;replace h1:=sP h1;replace h3:=sP h3;replace h5:=sP h5;replace h7:=sP h7;exact fT rfl (cY (by unfold Cu;rw[bT];simp only[bC];grind))
theorem VB(e:Ent)(he:e.ok):bY C0 205 [.agg (enL e)] (.sl 1 ((pO e).map fD) true):=by
 refine bY.intro c0Ok Tryz.func205 rfl rfl (by kernel_rfl) rfl<|aE<|aG rfl<|rAl 0 rfl rfl<|oR 1 rfl<|rE 2<|aE<|aG rfl<|oR 2 rfl<|rCi rfl (Fw e.i)<|oR 5 rfl<|rE 10<|aE<|aE<|aG rfl<|oR 2 rfl ?_;refine rCi rfl (qG e.i)<|rE 13<|bI<|aE<|aE<|aG rfl<|rW (vB ((kindOf e.i.op)==3)) rfl (okB (eqN _ _))<|oR 1 rfl<|rE 15 ?_;refine aU rfl (λ h1=>?_) (λ h1=>?_)
 ·have h1p:=kX h1;refine aZ ?_;refine aU rfl (λ _=>?_) (λ h2=>Bool.noConfusion (h1.symm.trans h2));refine aE<|aG rfl<|oR 1 rfl<|rV (.sl 1 ([[vI e.i.rs1]]) true) rfl<|oR 1 rfl<|rE 18<|cT ?_;exact fT rfl (by rw[show pO e=[e.i.rs1]from by unfold pO;exact if_pos omT];rfl)
 ·have h1p:=kY h1;refine aG rfl<|rW (vB ((kindOf e.i.op)==4)) rfl (okB (eqN _ _))<|oR 1 rfl<|rE 17 ?_;refine aU rfl (λ h3=>?_) (λ h3=>?_)
  ·have h3p:=kX h3;refine aE<|aG rfl<|oR 1 rfl<|rV (.sl 1 ([[vI e.i.rs1]]) true) rfl<|oR 1 rfl<|rE 20<|cT ?_;exact fT rfl (by rw[show pO e=[e.i.rs1]from by unfold pO;exact if_pos omT];rfl)
  ·have h3p:=kY h3;refine aZ<|aE<|aG rfl<|oR 2 rfl<|rV (.sl 1 ([[vI e.i.rs1],[vI e.i.rs2]]) true) rfl<|oR 1 rfl<|rE 21<|cT ?_;exact fT rfl (by rw[show pO e=[e.i.rs1,e.i.rs2]from by unfold pO;exact if_neg omT];rfl)
theorem Rg(e:Ent):(pO e).length≤2:=by unfold pO;split<;>simp
theorem TH(rob:List Ent)(ck:Bool)(i:Nat)(reg:Int)(hl:rob.length≤1000)(ho:∀ x∈rob,x.ok)(hi:i≤1000):bY C0 203 [vI reg,.dp 1 0 [.sl 17 (rob.map enL) ck],.dp 1 0 [vN i]] (vB (!GL rob i reg)):=by
 refine bY.intro c0Ok Tryz.func203 rfl rfl (by kernel_rfl) rfl<|aE<|aG rfl<|oR 1 rfl<|rE 1<|aE<|aG rfl<|oR 3 rfl<|rCi rfl (Rf rob ck i reg hl ho hi)<|oR 2 rfl<|rE 7<|cT ?_;exact fT rfl rfl
theorem XD(mode:Int)(rob:List Ent)(ck:Bool)(i:Nat)(hl:rob.length≤1000)(ho:∀ x∈rob,x.ok)(hi:i≤1000):bY C0 163 [vI mode,.sl 17 (rob.map enL) ck,vN i] (vB (MY mode rob i)):=by
 refine bY.intro c0Ok Tryz.func163 rfl rfl (by kernel_rfl) rfl<|aE<|aG rfl<|rAl 0 rfl rfl<|rAl 1 rfl rfl<|oR 1 rfl<|rE 3<|aE<|aE<|aG rfl<|oR 1 rfl<|rW (vB (decide (i<0))) rfl (okB (ltN _ _))<|oR 1 rfl<|gN rfl<|gN rfl<|gBS (x:=vN rob.length) rfl id (bQ enL rob) ?_;refine gBS (x:=vB (decide (i≥rob.length))) rfl hsT (okB (geN _ _))<|cH rfl rfl rfl (by simp)<|rE 11 ?_;refine aU rfl (λ h1=>?_) (λ h1=>?_)
 ·have hb:(i≥rob.length):=by have z:=h1;simp only[cOr]at z;grind
  refine aE<|aG rfl<|oR 1 rfl<|rE 12<|cT ?_;have hn:rob[i]?=none:=bR omT;exact fT rfl (cY (by unfold MY;rw[hn]))
 ·have hb: ¬ (i≥rob.length):=by have z:=h1;simp only[cOr]at z;grind
  refine aZ<|aE<|aE<|aG rfl<|oR 2 rfl ?_;obtain⟨x,hx⟩:∃ y_,rob[i]?=some y_:=⟨_,aA omT⟩;have hxo:=ho x (aB hx);refine rIx (enL x) (.dp 17 0 (enL x)) rfl rfl (gJ hx) rfl<|oR 1 rfl<|rCi rfl (VA x hxo)<|oR 1 rfl<|rE 17 ?_;refine aU rfl (λ h2=>?_) (λ h2=>?_)
  ·refine aE<|aG rfl<|oR 1 rfl<|rE 18<|cT ?_;exact fT rfl (cY (by unfold MY;rw[hx];dsimp only;rw[if_pos (by simpa using h2)]))
  ·refine aZ<|aE<|aG rfl<|rV (.clo 203 [] [.ptr 0 0,.ptr 1 0]) rfl<|oR 1 rfl<|rE 19<|aE<|aE<|aG rfl<|oR 1 rfl<|rE 20<|bI<|aE<|aG rfl<|rV (vB (mode==0)) rfl<|oR 1 rfl ?_;refine rE 22 ?_;refine aU rfl (λ h3=>?_) (λ h3=>?_)
   ·have h3p:=kX h3;refine aE<|aG rfl<|oR 1 rfl<|rE 23<|cT ?_;exact fT rfl (cY (by unfold MY;rw[hx];dsimp only;rw[if_neg (by simpa using h2),if_pos h3p]))
   ·have h3p:=kY h3;refine aE<|aG rfl<|rV (vB (mode==1)) rfl<|oR 1 rfl<|rE 24 ?_;refine aU rfl (λ h4=>?_) (λ h4=>?_)
    ·have h4p:=kX h4;refine aE<|aE<|aG rfl<|oR 2 rfl<|rIx (enL x) (.dp 17 0 (enL x)) rfl rfl (gJ hx) rfl<|oR 1 rfl<|rCi rfl (VB x hxo)<|rW (vN ((pO x).length)) rfl (bQ fD (pO x))<|oR 1 rfl<|rE 31<|bI<|kZ (κ:=Nat) (λ k=>⟨cI [(4,.ptr 0 0),(5,.ptr 1 0),(17,vB (cA (decide (i<0)) true (decide (i≥rob.length)))),(23,vB (!(Cu x))),(7,.clo 203 [] [.ptr 0 0,.ptr 1 0]),(25,vI mode),(26,vB (mode==0)),(28,vB (mode==1)),(34,.sl 1 ((pO x).map fD) true),(35,vN ((pO x).length)),(36,vN k)],heapF [(0,.box [.sl 17 (rob.map enL) ck]),(1,.box [vN i])],31⟩) (λ k=>k≤(pO x).length∧((pO x).take k).all (λ reg=> !GL rob i reg)=true) (λ k=>(pO x).length - k) 0 (λ s=>s) (Weak.of_lists (λ s=>s) wT wH rfl) (⟨aF _,rfl⟩) ?_;intro k hk;have hkn:k≤(pO x).length:=hk.1;have hkB:k≤1000000:=by have:=Rg x;omega
     refine aE<|aG rfl<|rW (vB (decide (k<((pO x).length)))) rfl (okB (ltN _ _))<|rE 32<|aE ?_;refine aU rfl (λ h5=>?_) (λ h5=>?_)
     ·have h5p:=of_decide_eq_true h5;refine aZ<|aE<|bI<|aE<|aG rfl ?_;obtain⟨rg,hrg⟩:∃ y_,(pO x)[k]?=some y_:=⟨_,aA omT⟩;refine rIx (fD rg) (.dp 1 0 (fD rg)) rfl rfl (gJ hrg) rfl<|oR 2 rfl<|rE 35<|aE<|aG rfl<|oR 2 rfl<|rCl rfl (.inr ⟨rfl,trivial,trivial,trivial,trivial⟩) (TH rob ck i rg hl ho hi)<|oR 1 rfl<|rE 39 ?_;refine aU rfl (λ h6=>?_) (λ h6=>?_)
      ·refine aE<|aG rfl<|oR 1 rfl<|rE 40<|cT ?_;have z:=h6;exact fT rfl (cY (by unfold MY;rw[hx];dsimp only;rw[if_neg (by simpa using h2),if_neg h3p,if_pos h4p,GC (p:=λ reg=> !GL rob i reg) hrg (by simpa using z)]))
      ·refine aZ<|aG rfl ?_;have b1:k+1≤1000001:=aH hkB (aC 1);refine rW (vN (k+1)) rfl (okI (bS b1 rfl))<|oR 1 rfl<|rE 41 ?_;refine⟨k+1,λ s=>s,Weak.of_lists _ wT wH rfl,⟨by omega,CS (p:=λ reg=> !GL rob i reg) hrg (by simpa using h6) hk.2⟩,by show (pO x).length - (k+1)<(pO x).length - k;omega⟩
     ·have h5p:=aD h5;refine eA<|aE<|aG rfl<|oR 1 rfl<|rE 33<|cT ?_;have hall:=CT (p:=λ reg=> !GL rob i reg) omT hk.2;exact fT rfl (cY (by unfold MY;rw[hx];dsimp only;rw[if_neg (by simpa using h2),if_neg h3p,if_pos h4p,hall]))
    ·have h4p:=kY h4;refine aE<|aG rfl<|rV (vB (mode==2)) rfl<|oR 1 rfl<|rE 26 ?_;refine aU rfl (λ h7=>?_) (λ h7=>?_)
     ·have h7p:=kX h7;refine aE<|aG rfl<|oR 2 rfl<|rCi rfl (Lc rob ck i hl ho hi)<|oR 1 rfl<|rE 30<|cT ?_;exact fT rfl (cY (by unfold MY;rw[hx];dsimp only;rw[if_neg (by simpa using h2),if_neg h3p,if_neg h4p,if_pos h7p]))
     ·have h7p:=kY h7;refine aZ<|aE<|aG rfl<|oR 1 rfl<|rE 27<|cT ?_;exact fT rfl (cY (by unfold MY;rw[hx];dsimp only;rw[if_neg (by simpa using h2),if_neg h3p,if_neg h4p,if_neg h7p]))
abbrev PG(n:Nat):List AV:=[.v (.int .i64 (n:Int))]
theorem LI{α:Type}(f:α→Value):∀ (l:List α),(l.flatMap λ a=>[f a])=l.map f
 |[]=>rfl
 |a::l=>by rw[eZ,LI f l];rfl
theorem IZ{α:Type}{f:α→Value}{l:List α}{S:Nat→Prop}{w:World}{v:Value}{clip:Bool}(e:TypeId)(hS:∀ b,S b→b<w.heap.size)(h:Rep S w noB (.sl 1 (l.map λ a=>[AV.v (f a)]) clip) v):Sl w.heap.size e 1 w v l.length (l.flatMap λ a=>[f a]):=by
 cases h with
 |sl _ _ _ A c b o u hc hm hcl hrs hA hw h1 hr=>
  rw[aO]at hc;refine⟨A,c,by rw[aO],hc,hm,by rw[LI,aO,jF],λ hn=>?_⟩;obtain⟨hA1,hA2⟩:=hA (by rw[aO];exact hn);refine⟨b,o,hA1,.inl (hS b hA2),λ j x hx=>?_⟩;rw[LI,bH]at hx;obtain⟨y,hy,rfl⟩:=EL.1 hx;have hrow:(l.map λ a=>[AV.v (f a)])[j]?=some [AV.v (f y)]:=by rw[bH,hy];rfl
  have h2:=hw j _ 0 _ hrow rfl;have h3:=hr j _ 0 _ hrow rfl;rw[show o+j * 1+0=o+j by omega]at h2;rw[h2];generalize u j 0=z at h3;cases h3;rfl
theorem MM{α:Type}{f:α→Value}(h1:∀ a,(f a).oneCell'=true){l:List α}{w:World}{v:Value}{base:Nat}{e:TypeId}(h:w.ownsRow base e 1 v l.length (l.flatMap λ a=>[f a]))(S:Nat→Prop)(hb:∀ b,base≤b→b<w.heap.size→S b):Rep S w noB (.sl 1 (l.map λ a=>[AV.v (f a)]) false) v:=by
 obtain⟨hl,⟨rfl,h0⟩|⟨g,cap,cur,rfl,hg,hh,hn,hm,hsz,hx⟩⟩:=h
 ·have:l=[]:=bF h0;subst this;exact .sl 1 [] false none 0 0 0 (λ _ _=>.bool false) (aC _) (aF _) (λ h=>by cases h) (λ _ h=>by cases h) (λ h=>absurd h (gX 0)) (λ i row j a h=>by simp at h) (λ _ _=>rfl) λ i row j a h=>by simp at h
 ·rw[LI,jF]at hx;have hget:∀ (i:Nat) row (j:Nat) a,(l.map λ a=>[AV.v (f a)])[i]?=some row→row[j]?=some a→∃ x,l[i]?=some x∧j=0∧a=.v (f x)∧cur[i]?=some (f x):=by
   intro i row j a hi hj;rw[bH]at hi;obtain⟨x,hxl,rfl⟩:=EL.1 hi
   cases j with
   |zero=>
    injection hj with hj;refine⟨x,hxl,rfl,hj.symm,?_⟩;have:(l.map f)[i]?=some (f x):=by rw[bH,hxl];rfl
    rw[←hx,cS]at this;split at this
    ·rw[←bJ];exact this
    ·cases this
   |succ j=>simp at hj
  have hlen:(l.map λ a=>[AV.v (f a)]).length=l.length:=aO ..;rw[←hlen];refine .sl 1 _ false (some ⟨g,0,none⟩) cap g 0 (λ i j=>if i<l.length then cur.getD i undef else .bool false) (by rw[hlen];exact hn) hm (λ h=>by cases h) (λ row hr=>?_) (λ _=>⟨rfl,hb g hg (fI hh)⟩) (λ i row j a hi hj=>?_) (λ i j=>?_) λ i row j a hi hj=>?_
  ·obtain⟨x,_,rfl⟩:=rK.1 hr;rfl
  ·obtain⟨x,h2,rfl,rfl,h3⟩:=hget i row j a hi hj;rw[if_pos (Db.1 h2).1,gM hh];rw[show 0+i * 1+0=i by omega,h3,aJ,h3];rfl
  ·show (if i<l.length then cur.getD i undef else .bool false).oneCell'=true;by_cases hi:i<l.length
   ·rw[if_pos hi];obtain⟨x,h2,_,_,h3⟩:=hget i [AV.v (f l[i])] 0 (.v (f l[i])) (by rw[bH,aA hi];rfl) rfl;rw[aJ,h3];exact h1 x
   ·rw[if_neg hi];rfl
  ·obtain⟨x,h2,rfl,rfl,h3⟩:=hget i row j a hi hj;show Rep S w noB _ (if i<l.length then cur.getD i undef else .bool false);rw[if_pos (Db.1 h2).1,aJ,h3];exact .v _
theorem Wg(width:Int)(busy:Bool)(kinds:List Int)(can:List Bool)(c1 c2:Bool)(h1:kinds.length≤1000)(h2:can.length≤1000):bY C0 110 [vI width,vB busy,.sl 1 (kinds.map fD) c1,.sl 1 (can.map yM) c2] (.sl 1 ((pickOf width busy kinds can).map PG) false):=by
 refine⟨⟨_,Tryz.func110,rfl,rfl⟩,λ S w vs hS hG hr=>?_⟩
 match vs,hr with
 |[v0,v1,v2,v3],hr=>
  have e0:=hr.2 0 _ v0 rfl rfl;have e1:=hr.2 1 _ v1 rfl rfl;have e2:=hr.2 2 _ v2 rfl rfl;have e3:=hr.2 3 _ v3 rfl rfl;cases e0;cases e1
  refine (RG width busy kinds can w.heap.size kinds.length can.length v2 v3 w (IZ (f:=λ a:Int=>.int .i64 a) _ hS e2) (IZ (f:=λ a:Bool=>.bool a) _ hS e3) rfl rfl omT omT).mono ?_;rintro e w' ⟨v,he,ho,hB⟩
  exact⟨v,he,hB,MM (f:=λ n:Nat=>.int .i64 (n:Int)) (λ _=>rfl) ho _ λ b p q=>.inr ⟨p,q⟩⟩
 |[],hr=>exact absurd hr.1 (by simp)
 |[_],hr=>exact absurd hr.1 (by simp)
 |[_,_],hr=>exact absurd hr.1 (by simp)
 |[_,_,_],hr=>exact absurd hr.1 (by simp)
 |_::_::_::_::_::_,hr=>exact absurd hr.1 (by simp)
end Go.Proofs.YtlhofpglndhfaaaGreatDoor
