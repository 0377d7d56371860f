/- Lemmas. -/
import Derived.Test.YtlpkggpdjobpmaaGreatDoorS1
import Derived.Test.YtlpkggpdjobpmaaGreatDoorS22
import Derived.Test.YtlpkggpdjobpmaaGreatDoorS24
import Derived.Test.YtlpkggpdjobpmaaGreatDoorS29
import Derived.Test.YtlpkggpdjobpmaaGreatDoorS30
set_option linter.all false
namespace Go.Proofs.YtlpkggpdjobpmaaGreatDoor
open Go.RowKit
@[reducible] def Ctx.at(C:Ctx)(s:Nat):Ctx:={C with fr:=s}
def Ge(r:AV):Nat->AV:=λi=>match i with|0=>r|_=>.any
def adN(C:Ctx)(fn:Func)(Post:AV->AH->Prop)(s:Nat):AEx->ASt->Prop
 | .exit _,_=>False
 |_,st=>∃rs,resA C st fn.results.toList=some rs∧GhostN ⟨Ge (Dp rs),st.h,st.n⟩ (λstg=>∃r h' σ,Post r h'∧keepB s σ (s+1)=true∧Weak stg ⟨Ge r,h',s+1⟩ σ)
def fullB(h:AH):Nat->Bool
 |0=>true
 |k+1=>match h k with|some _=>fullB h k|none=>false
theorem uH{h:AH}:∀{s:Nat},fullB h s=true->∀x,x<s->h x≠none
 |0,_,x,hx=>absurd hx (dG _)
 | k+1,hf,x,hx=>by
  simp only[fullB]at hf;split at hf
  ·rename_i b hb;rcases al_Nat_lt_or_ge x k with h|h
   ·exact uH hf x h
   ·have:x=k:=oT;subst this;rw[hb];simp
  ·cases hf
theorem KD:∀{fr:Nat} {σ:Nat->Nat} {n:Nat},keepB fr σ n=true->∀x,x<fr->σ x=x∧x<n
 |0,_,_,_,x,hx=>absurd hx (dG _)
 | k+1,σ,n,hf,x,hx=>by
  simp only[keepB]at hf;split at hf
  ·rename_i h1 h2;rcases al_Nat_lt_or_ge x k with h|h
   ·exact KD hf x h
   ·have:x=k:=oT;subst this;exact⟨aO h1,aJ h2⟩
  ·cases hf
section
variable (S:Nat->Prop)(w:World)(β:Bt)
def OwnB(b:Nat):Prop:=∃x l,β x=some l∧l.blk=b
structure FrP(s:Nat)(S':Nat->Prop)(w':World)(β':Bt):Prop where
 hS:∀b,S b->S' b
 hE:Evo S w w'
 sz:w.heap.size<=w'.heap.size
 keep:∀x l,x<s->β x=some l->β' x=some l
 own:∀x l,β' x=some l->OwnB β l.blk∨w.heap.size<=l.blk
 nw:∀b,S' b->S b∨w.heap.size<=b∨OwnB β b
 still:∀b,b<w.heap.size-> ¬OwnB β b->w'.heap[b]?=w.heap[b]?
def UH{S:Nat->Prop}{w w' w2:World}(h:Evo S w w')(e:w2.heap=w'.heap):Evo S w w2:=⟨λb hb=>by rw[e];exact h.stable b hb,λb cs t fr hb=>by rw[e];exact h.shape b cs t fr hb⟩
def Gf(s:Nat):Inv s where
 p:=FrP S w β s
 mono:=by
  intro B S1 w1 β1 s1 S2 w2 β2 P K
  refine⟨λb hb=>K.hS b (P.hS b hb),P.hE.trans P.hS K.hE,aL P.sz K.hB.size,λx l hx hl=>K.hle _ _ (P.keep x l hx hl),λx l hl=>?_,λb hb=>?_,λb hb hn=>?_⟩
  ·rcases K.hdom x l hl with h|⟨_,h|⟨y,k,h1,h2⟩⟩
   ·exact P.own x l h
   ·exact .inr (aL P.sz h)
   rw[<-h2];exact P.own y k h1
  ·rcases K.hN b hb with h|⟨_,h|⟨y,k,h1,h2⟩⟩
   ·exact P.nw b h
   ·exact .inr (.inl (aL P.sz h))
   rcases P.own y k h1 with h|h
   ·exact .inr (.inr (h2 ▸ h))
   exact .inr (.inl (h2 ▸ h))
  refine(K.hO b (af3 hb P.sz) λy k h1 h2=>?_).trans (P.still b hb hn)
  rcases P.own y k h1 with h|h
  ·exact hn (h2 ▸ h)
  rw[h2]at h;omega
 weak:=by
  intro S1 w1 β1 σ n P hk
  refine⟨P.hS,P.hE,P.sz,λx l hx hl=>?_,λx l hl=>?_,P.nw,P.still⟩
  ·obtain⟨h1,h2⟩:=KD hk x hx
   simp only[h2,fD,h1]
   exact P.keep x l hx hl
  by_cases hx:x<n
  ·rw[af1 hx]at hl;exact P.own _ l hl
  rw[dZ hx]at hl;cases hl
 frz:=by
  intro S1 w1 β1 x l P hl
  refine⟨λb hb=>.inl (P.hS b hb),P.hE,P.sz,P.keep,P.own,λb hb=>?_,P.still⟩
  rcases hb with hb|rfl
  ·exact P.nw b hb
  exact(P.own x l hl).elim (λh=>.inr (.inr h)) λh=>.inr (.inl h)
 heap:=by
  intro S1 w1 w2 β1 P e
  exact⟨P.hS,UH P.hE e,by rw[e];exact P.sz,P.keep,P.own,P.nw,λb hb hn=>by rw[e];exact P.still b hb hn⟩
end
theorem HCall.intro{C:Ctx}{s}(hC:CtxOk (C.at s)){f}{fn}{body}{args}{h}{Post}(hf:C.P.funcs[f]?=some fn)(hb:fn.body=some body)(hnm:(fn.name== "runtime.NumGoroutine")=false)
  (hN:rU fn.ntmps body=true) (hlen:Nat.ble args.length fn.ntmps=true) (hfull:fullB h s=true) (hw:eA (C.at s) (bI (C.at s)) body ⟨argsT args,h,s⟩ (adN (C.at s) fn Post s)) (hdf:C.df=[]:=by rfl):pM C.P C.G f args h s Post:=by
 refine⟨⟨fn,hf,by rw[hb];rfl,hnm⟩,λB S w β vs H hdom hG hargs=>?_⟩;have hlen:=aJ hlen;refine calls_of_wp hf hb ?_;have hB0:({w with heap:=w.heap.extract 0 B}:World).heap.size=B:=by
  show(w.heap.extract 0 B).size=B;rw[Array.size_extract];have:=H.big;omega
 have hget:∀b,b<B->(w.heap.extract 0 B)[b]?=w.heap[b]? :=λb hb=>by
  rw[mQ,af1 (oH H.big),bJ]
 have M0:SimD (C.at s) (Gf S w β s) {w with heap:=w.heap.extract 0 B} S fn.ntmps (· <s) (argsT args) h {tmps:=vs.toArray++Array.replicate (fn.ntmps-vs.toArray.size) undef,defers:=[]} w S β:=by
  have hl:vs.length=args.length:=hargs.1.symm;refine⟨λi=>?_,by rw[hB0];exact H,⟨rfl,rfl,rfl,by rw[hB0];exact H.big,λb hb=>?_⟩,hdom,hdf.symm,by simp;omega,hG,λ_ h=>.inl h,⟨λ_ h=>h,Evo.refl _ _,aC _,λ_ _ _ h=>h,λx l h=>.inl ⟨x,l,h,rfl⟩,λ_ h=>.inl h,λ_ _ _=>rfl⟩⟩
  ·rw[afV]
   cases ha:args[i]? with
   |none=>exact .any _
   | some x=>
    have hi:i<vs.length:=by rw[hl];exact(Em.1 ha).1
    have hv:vs[i]?=some vs[i]:=aA hi;have:(vs.toArray++Array.replicate (fn.ntmps-vs.toArray.size) undef).getD i undef=vs[i]:=by
     rw[aK,dS (sU hi),eM,hv];rfl
    rw[this];exact hargs.2 i x _ ha hv
  ·rw[hB0]at hb;exact(hget b hb).symm
 refine wp_mono (CM hC body hN ⟨argsT args,h,s⟩ _ hw _ w S β M0) ?_;rintro e a' w' ⟨e',st,S',β',rfl,hfin,M⟩;have fin:(∃rs,resA (C.at s) st fn.results.toList=some rs∧GhostN ⟨Ge (Dp rs),st.h,st.n⟩ (λstg=>∃r h' σ,Post r h'∧keepB s σ (s+1)=true∧Weak stg ⟨Ge r,h',s+1⟩ σ))->a'.defers=[]∧∃v,(results fn a'.tmps).run C.P w'=.ok v w'∧∃v' S2 β2 r h',Post r h'∧Ending.returned v=.returned v'∧Rep S2 w' β2 r v'∧SimH B S2 w' β2 h'∧StepK B S w β s S2 w' β2:=by
  rintro⟨rs,h1,stg,hgs,r,h',σ,hP,hk,hW⟩;obtain⟨t,hh,n⟩:=st;obtain⟨us,g1,g2⟩:=JA hC M _ rs h1;have hret:Rep S' w' β' (Dp rs) (if h:us.toArray.size=1 then us.toArray[0]else .tuple us.toArray):=by
   match rs,us,g2 with
   |[],us,g2=>
    have:us=[]:=afC g2.1.symm;subst this
    exact .tup [] #[] rfl λi a u p=>by simp at p
   |[x],us,g2=>
    match us,g2 with
    |[u],g2=>simpa [Dp]using g2.2 0 x u rfl rfl
    |[],g2=>exact absurd g2.1 (by simp)
    |_::_::_,g2=>exact absurd g2.1 (by simp)
   | x::y::zs,us,g2=>
    have hne: ¬us.toArray.size=1:=by
     have:=g2.1;simp at this⊢;omega
    rw[dif_neg hne];exact .tup _ _ (sU g2.1) λi a u p q=>g2.2 i a u p (sU q)
  refine⟨M.df.trans hdf,_,yO _ us g1 fn rfl,?_⟩;generalize hv:(if h:us.toArray.size=1 then us.toArray[0]else .tuple us.toArray)=v at hret⊢;have M1:SimD (C.at s) (Gf S w β s) {w with heap:=w.heap.extract 0 B} S 1 (· <n) (Ge (Dp rs)) hh {tmps:= #[v],defers:=a'.defers} w' S' β':=by
   refine⟨λi=>?_,M.H,M.B,M.dom,M.df,rfl,M.G,M.nw,M.iv⟩
   cases i with
   |zero=>exact hret
   |succ i=>exact .any _
  obtain⟨S2,M2⟩:=nK hgs M1;have M3:=pK hW hk M2;have hr:=M3.T 0;refine⟨v,S2,_,r,h',hP,rfl,hr,by have:=M3.H;rwa [hB0]at this,?_⟩;have P:FrP S w β s S2 w' _:=M3.iv;have hfl:=uH hfull;refine⟨P.hS,P.hE,⟨M3.B.os,M3.B.tape,M3.B.output,P.sz,λb hb=>?_⟩,λx l hl=>P.keep x l (hdom x l hl) hl,λx l hl=>?_,λb hb=>?_,λb hb hn=>P.still b hb λ⟨x,l,h1,h2⟩=>hn x l h1 h2⟩
  ·rw[M3.B.block b (by rw[hB0];exact hb)];exact hget b hb
  ·rcases al_Nat_lt_or_ge x s with hx|hx
   ·obtain⟨blk,hblk⟩:=DQ.1 (hfl x hx);obtain⟨l0,_,_,_,k1,_⟩:=H.own x blk hblk;have:=P.keep x l0 hx k1;rw[hl]at this;injection this with this;subst this;exact .inl k1
   ·have hx':x=s:=by
     have:=M3.dom x l hl;have:x<s+1:=this;omega
    refine .inr ⟨hx',?_⟩;rcases P.own x l hl with ⟨y,k,h1,h2⟩|h
    ·exact .inr ⟨y,k,h1,h2⟩
    ·exact .inl h
  ·rcases P.nw b hb with h|h|⟨y,k,h1,h2⟩
   ·exact .inl h
   ·exact .inr ⟨aL H.big h,.inl h⟩
   ·rcases M3.nw b hb with h|h
    ·exact .inl h
    ·exact .inr ⟨by rwa [hB0]at h,.inr ⟨y,k,h1,h2⟩⟩
 cases e' with
 |normal=>exact fin hfin
 |ret=>exact fin hfin
 |exit i=>exact hfin.elim
def LY{S}{w}{β}{a}{v}(hr:Rep S w β a v):∀{β':Bt} {ρ:Nat->Nat},(∀x l,β x=some l->β' (ρ x)=some l)->Rep S w β' (uW ρ a) v:=by
 induction hr with
 |v x=>intro β' ρ _;exact .v x
 |agg cs vs hl h1 h ih=>
  intro β' ρ hb;refine .agg _ vs (by rw[tS];exact hl) h1 λi a u p q=>?_;rw[pJ]at p;obtain⟨y,hy,rfl⟩:=Gi.1 p
  exact ih i y u hy q hb
 |tup cs vs hl h ih=>
  intro β' ρ hb;refine .tup _ vs (by rw[tS];exact hl) λi a u p q=>?_;rw[pJ]at p;obtain⟨y,hy,rfl⟩:=Gi.1 p
  exact ih i y u hy q hb
 |sl rs rows clip A c b o u hc hm hcl hrs hA hw h1 hr ih=>intro β' ρ _;exact .sl rs rows clip A c b o u hc hm hcl hrs hA hw h1 hr
 |dp rs col row b o u hrs hb hw h1 hr ih=>intro β' ρ _;exact .dp rs col row b o u hrs hb hw h1 hr
 |ptr s col l hl=>intro β' ρ hb;exact .ptr _ col l (hb _ _ hl)
 |ptr2 s row col l hl=>intro β' ρ hb;exact .ptr2 _ row col l (hb _ _ hl)
 |osl s lo len clip l A c hl hc hm hcl hA cs e fr hb room=>intro β' ρ hb';exact .osl _ lo len clip l A c (hb' _ _ hl) hc hm hcl hA cs e fr hb room
 | clo f first caps vs us hl h hl' h' ih ih'=>
  intro β' ρ hb;refine .clo f _ _ vs us (by rw[tS];exact hl) (λi a u p q=>?_) (by rw[tS];exact hl') λi a u p q=>?_
  ·rw[pJ]at p;obtain⟨y,hy,rfl⟩:=Gi.1 p;exact ih i y u hy q hb
  ·rw[pJ]at p;obtain⟨y,hy,rfl⟩:=Gi.1 p
   exact ih' i y u hy q hb
 |optT g a x hg h ih=>intro β' ρ hb;exact .optT g _ x hg (ih hb)
 |optF g a hg=>intro β' ρ _;exact .optF g _ hg
 |any x=>intro β' ρ _;exact .any x
def Rz{S}{w}{β β'}{ρ}{l}{cs}{blk}(k:Bf S w β l cs blk)(hb:∀x l,β x=some l->β' (ρ x)=some l):Bf S w β' l cs (DI ρ blk):=by
 cases blk with
 |box cells=>
  intro j a hj;rw[pJ]at hj;obtain⟨y,hy,rfl⟩:=Gi.1 hj;obtain⟨u,p1,p2,p3⟩:=k j y hy
  exact⟨u,p1,p2,LY p3 hb⟩
 |arr rows rs=>exact k
 |row cells=>
  refine⟨k.1,λj a hj=>?_⟩;rw[pJ]at hj;obtain⟨y,hy,rfl⟩:=Gi.1 hj;obtain⟨u,p1,p2,p3⟩:=k.2 j y hy;exact⟨u,p1,p2,LY p3 hb⟩
def OZ{S}{w}{β}{ρ}{n}{l}{cs}{blk}(hb:qM n blk=true)(k:Bf S w β l cs (DI ρ blk)):Bf S w (λs=>if s<n then β (ρ s)else none) l cs blk:=by
 cases blk with
 |box cells=>
  intro j a hj;obtain⟨u,q1,q2,q3⟩:=k j _ (by rw[pJ,hj];rfl)
  exact⟨u,q1,q2,Bv _ _ _ (aC _) (tD _ cells (by simpa [qM]using hb) j a hj) q3⟩
 |arr rows rs=>exact k
 |row cells=>
  refine⟨k.1,λj a hj=>?_⟩;obtain⟨u,q1,q2,q3⟩:=k.2 j _ (by rw[pJ,hj];rfl);exact⟨u,q1,q2,Bv _ _ _ (aC _) (tD _ cells (by simpa [qM]using hb) j a hj) q3⟩
def Gg(ρ:Nat->Nat)(s s2:Nat):Nat->Nat:=λx=>match Nat.beq x s with|true=>s2|false=>ρ x
def wD(ρ)(s s2):Gg ρ s s2 s=s2:=by simp[Gg]
def rL(ρ){s s2 x}(h:x≠s):Gg ρ s s2 x=ρ x:=by
 unfold Gg;have:Nat.beq x s=false:=by rw[<-eJ];exact λe=>h (aO e)
 rw[this]
theorem pM.frame{P}{G}{f}{args}{h}{s}{Post}(H:pM P G f args h s Post)(ρ)(K)(s2)(hfull:fullB h s=true)(hlt:∀x,h x≠none->x<s)
  (h1:∀x blk,h x=some blk->ρ x<s2∧qM s blk=true∧K (ρ x)=some (DI ρ blk)) (h2:∀x y,x<s->y<s->ρ x=ρ y->x=y) (ha:mS s args=true)
  (Post') (hPost:∀r h',Post r h'->∃K',Post' (uW (Gg ρ s s2) r) K'∧∀y blk,K' y=some blk->(∃x blk0,h' x=some blk0∧y=Gg ρ s s2 x∧blk=DI (Gg ρ s s2) blk0)∨(K y=some blk∧∀x,x<s->ρ x≠y)):
  pM P G f (Bg ρ args) K s2 Post':=by
 refine⟨H.1,λB S w β vs HK hdom hG hargs=>?_⟩;have hfl:=uH hfull;have hβ:∀x,x<s->∃l,β (ρ x)=some l∧K (ρ x)≠none:=λx hx=>by
  obtain⟨blk,hblk⟩:=DQ.1 (hfl x hx);obtain⟨_,_,e⟩:=h1 x blk hblk;obtain⟨l,_,_,_,k1,_⟩:=HK.own _ _ e;exact⟨l,k1,by rw[e];simp⟩
 have HS:SimH B S w (λx=>if x<s then β (ρ x)else none) h:=by
  refine⟨λx blk hx=>?_,λx x' l l' hx hx' e e' hb=>?_,HK.lt,HK.big⟩
  ·obtain⟨_,b1,e⟩:=h1 x blk hx;have hxs:=hlt x (by rw[hx];simp);obtain⟨l,cs,t,fr,k1,k2,k3,k4,k5,k6⟩:=HK.own _ _ e;exact⟨l,cs,t,fr,by simp only[hxs,fD];exact k1,k2,k3,k4,k5,OZ b1 k6⟩
  have g1:=hlt x hx;have g2:=hlt x' hx';rw[af1 g1]at e;rw[af1 g2]at e';exact h2 x x' g1 g2 (HK.inj _ _ _ _ (hβ x g1).choose_spec.2 (hβ x' g2).choose_spec.2 e e' hb)
 have hL:RepL S w (λx=>if x<s then β (ρ x)else none) args vs:=by
  refine⟨by rw[<-hargs.1,tS],λi a u p q=>?_⟩;exact Bv _ _ _ (aC _) (tD _ args ha i a p) (hargs.2 i (uW ρ a) u (by rw[pJ,p];rfl) q)
 refine(H.2 B S w _ vs HS (λx l hl=>?_) hG hL).mono ?_
 ·by_cases hx:x<s
  ·exact hx
  rw[dZ hx]at hl;cases hl
 rintro e w' ⟨v,S',βc,r,h',hP,rfl,hr,HS',KK⟩;obtain⟨K',hP',h3⟩:=hPost r h' hP;have old:∀x l,(if x<s then β (ρ x)else none)=some l->x<s∧β (ρ x)=some l:=λx l hl=>by
  by_cases hx:x<s
  ·rw[af1 hx]at hl;exact⟨hx,hl⟩
  rw[dZ hx]at hl;cases hl
 have hmap:∀x l,βc x=some l->(λy=>if y=s2 then βc s else β y) (Gg ρ s s2 x)=some l:=λx l hl=>by
  rcases KK.hdom x l hl with h|⟨h,_⟩
  ·obtain⟨hx,hx'⟩:=old x l h;have:ρ x<s2:=hdom _ _ hx';rw[rL ρ oT];show(if ρ x=s2 then βc s else β (ρ x))=some l;rw[dZ oT];exact hx'
  subst h;rw[wD];show(if s2=s2 then βc x else β s2)=some l;rw[af1 rfl];exact hl
 have hle:ME β (λy=>if y=s2 then βc s else β y):=λy l hl=>by
  have:=hdom y l hl;show(if y=s2 then βc s else β y)=some l;rw[dZ oT];exact hl
 have other:∀y blk l,K y=some blk->β y=some l->(∀x,x<s->ρ x≠y)->∀x k,(if x<s then β (ρ x)else none)=some k->k.blk≠l.blk:=λy blk l hy hl hne x k hk e=>by
  obtain⟨hx,hx'⟩:=old x k hk;exact hne x hx (HK.inj _ _ _ _ (hβ x hx).choose_spec.2 (by rw[hy];simp) hx' hl e)
 refine⟨v,S',λy=>if y=s2 then βc s else β y,_,K',hP',rfl,LY hr hmap,⟨λy blk hy=>?_,λy y' l l' hy hy' e1 e2 hb=>?_,HS'.lt,HS'.big⟩,⟨KK.hS,KK.hE,KK.hB,hle,λy l hl=>?_,λb hb=>?_,λb hb hn=>KK.hO b hb λx k hk=>?_⟩⟩
 ·rcases h3 y blk hy with ⟨x,blk0,e1,rfl,rfl⟩|⟨e1,hne⟩
  ·obtain⟨l,cs,t,fr,k1,k2,k3,k4,k5,k6⟩:=HS'.own x blk0 e1;exact⟨l,cs,t,fr,hmap x l k1,k2,k3,k4,k5,Rz k6 hmap⟩
  obtain⟨l,cs,t,fr,k1,k2,k3,k4,k5,k6⟩:=HK.own y blk e1;have hdiff:=other y blk l e1 k1 hne;have hlt:=fJ k2;refine⟨l,cs,t,fr,hle _ _ k1,(KK.hO _ hlt hdiff).trans k2,k3,k4,λhS=>?_,k6.mono KK.hS KK.hE hle⟩;rcases KK.hN _ hS with h|⟨_,h|⟨x,k,q1,q2⟩⟩
  ·exact k5 h
  ·omega
  exact hdiff x k q1 q2
 ·
  have sort:∀y l,K' y≠none->(if y=s2 then βc s else β y)=some l->(∃x,h' x≠none∧βc x=some l∧y=Gg ρ s s2 x)∨(K y≠none∧β y=some l∧∀x,x<s->ρ x≠y):=λy l hy hl=>by
   obtain⟨blk,hblk⟩:=DQ.1 hy;rcases h3 y blk hblk with ⟨x,blk0,e1,e2,_⟩|⟨e1,hne⟩
   ·obtain⟨l0,_,_,_,k1,_⟩:=HS'.own x blk0 e1;have:=hmap x l0 k1;rw[<-e2]at this;rw[show(λy=>if y=s2 then βc s else β y) y=(if y=s2 then βc s else β y)from rfl,hl]at this;injection this with this;subst this;exact .inl ⟨x,by rw[e1];simp,k1,e2⟩
   obtain⟨l0,_,_,_,k1,_⟩:=HK.own y blk e1;have hys:y<s2:=hdom y l0 k1;rw[dZ oT]at hl;exact .inr ⟨by rw[e1];simp,hl,hne⟩
  have mix:∀y l x l',K y≠none->β y=some l->(∀x,x<s->ρ x≠y)->h' x≠none->βc x=some l'->l.blk≠l'.blk:=λy l x l' hy hl hne hx hl' e=>by
   obtain⟨blk,hblk⟩:=DQ.1 hy;have hdiff:=other y blk l hblk hl hne;obtain⟨l0,_,_,_,k1,k2,_⟩:=HK.own y blk hblk;rw[hl]at k1;injection k1 with k1;subst k1;have hlt:=fJ k2;rcases KK.hdom x l' hl' with h|⟨_,h|⟨z,k,q1,q2⟩⟩
   ·exact hdiff x l' h e.symm
   ·omega
   exact hdiff z k q1 (q2.trans e.symm)
  rcases sort y l hy e1 with ⟨x,a1,a2,a3⟩|⟨a1,a2,a3⟩<;>rcases sort y' l' hy' e2 with ⟨x',b1,b2,b3⟩|⟨b1,b2,b3⟩
  ·rw[a3,b3,HS'.inj x x' l l' a1 b1 a2 b2 hb]
  ·exact absurd hb.symm (mix y' l' x l b1 b2 b3 a1 a2)
  ·exact absurd hb (mix y l x' l' a1 a2 a3 b1 b2)
  exact HK.inj y y' l l' a1 b1 a2 b2 hb
 ·have hl:(if y=s2 then βc s else β y)=some l:=hl;by_cases hy:y=s2
  ·rw[af1 hy]at hl;refine .inr ⟨hy,?_⟩;rcases KK.hdom s l hl with h|⟨_,h|⟨z,k,q1,q2⟩⟩
   ·exact absurd (old s l h).1 (iI _)
   ·exact .inl h
   exact .inr ⟨_,k,(old z k q1).2,q2⟩
  rw[dZ hy]at hl;exact .inl hl
 ·rcases KK.hN b hb with h|⟨hB,h|⟨x,k,q1,q2⟩⟩
  ·exact .inl h
  ·exact .inr ⟨hB,.inl h⟩
  exact .inr ⟨hB,.inr ⟨_,k,(old x k q1).2,q2⟩⟩
 exact hn _ k (old x k hk).2
theorem pM.frame1{P}{G}{f}{args}{blk blk1}{r}(H:pM P G f args (heapF [(0,blk)]) 1 (λx h'=>x=r∧h'=heapF [(0,blk1)]))(b)(K)(s2)(hb:b<s2)
  (hbl:qM 1 blk=true) (hK:K b=some (DI (λ_=>b) blk)) (ha:mS 1 args=true):
  pM P G f (Bg (λ_=>b) args) K s2 (λx h'=>x=uW (Gg (λ_=>b) 1 s2) r∧h'=upd K b (some (DI (Gg (λ_=>b) 1 s2) blk1))):=by
 refine H.frame (λ_=>b) K s2 rfl (λx hx=>?_) (λx blk0 hx=>?_) (λx y hx hy _=>by omega) ha _ λr' h' hP=>?_
 ·cases x with
  |zero=>omega
  |succ x=>exact absurd rfl hx
 ·cases x with
  |zero=>injection hx with hx;subst hx;exact⟨hb,hbl,hK⟩
  |succ x=>cases hx
 ·obtain⟨rfl,rfl⟩:=hP;refine⟨_,⟨rfl,rfl⟩,λy blk0 hy=>?_⟩;by_cases he:y=b
  ·subst he;rw[dB]at hy;injection hy with hy;exact .inl ⟨0,blk1,rfl,rfl,hy.symm⟩
  ·rw[cI _ _ he]at hy;exact .inr ⟨hy,λx hx e=>he e.symm⟩
theorem CtxOk.at{C}{s}(h:CtxOk C):CtxOk (C.at s):=⟨h.ty,h.mixed,h.hH⟩
def Fq{C:Ctx}{R:FuncId->List AV->AV->Prop}{Q:AEx->ASt->Prop}{κ:Type}(S:κ->ASt)(G:κ->Prop){a b:Code}{st:ASt}(ka:eA C R a st (λe st'=>match e with| .normal=>GhostN st' (λst''=>∃k σ,Weak st'' (S k) σ∧keepB C.fr σ (S k).n=true∧G k)|e=>Q e st'))(kb:∀k,G k->eA C R b (S k) Q):eA C R (.seq a b) st Q:=
 ab0 S G ka kb lE
def BH{C:Ctx}{fn:Func}{Post:AV->AH->Prop}{s:Nat}{st:ASt}{rs:List AV}(h1:resA C st fn.results.toList=some rs){r:AV}{h':AH}{σ:Nat->Nat}(hP:Post r h')(hk:keepB s σ (s+1)=true)(hW:Weak ⟨Ge (Dp rs),st.h,st.n⟩ ⟨Ge r,h',s+1⟩ σ):
  ∃rs,resA C st fn.results.toList=some rs∧GhostN ⟨Ge (Dp rs),st.h,st.n⟩ (λstg=>∃r h' σ,Post r h'∧keepB s σ (s+1)=true∧Weak stg ⟨Ge r,h',s+1⟩ σ):=
 ⟨rs,h1,.mk _ (.refl _) ⟨r,h',σ,hP,hk,hW⟩⟩
def af8{st:ASt}{x r}{hp}{n}(σ)(hx:x=uW σ r)(hb:mR n r=true)(hh:WH ⟨Ge x,st.h,st.n⟩ n σ hp)(hi:En ((hp.map (·.1)).map σ)=true):Weak ⟨Ge x,st.h,st.n⟩ ⟨Ge r,heapF hp,n⟩ σ:=by
 have W:=Weak.of_lists (l:=[(0,r)]) σ ⟨⟨hx,hb⟩,trivial⟩ hh hi;refine⟨λi=>?_,W.h,W.inj⟩;have:=W.t i
 cases i with
 |zero=>exact this
 |succ i=>exact .inl rfl
def LeL(fz:Fz):List AV->List AV->Prop
 |[],[]=>True
 |a::as_,b::bs=>LeZ fz a b∧LeL fz as_ bs
 |_,_=>False
theorem LeL.get{fz:Fz}:∀{as_ bs:List AV},LeL fz as_ bs->as_.length=bs.length∧∀(i:Nat) a d,as_[i]?=some a->bs[i]?=some d->LeZ fz a d
 |[],[],_=>⟨rfl,λi a d h=>by simp at h⟩
 |a::as_,b::bs,h=>by
  obtain⟨h1,h2⟩:=LeL.get h.2;refine⟨by simp[h1],λi x y hx hy=>?_⟩
  cases i with
  |zero=>simp at hx hy;subst hx hy;exact h.1
  |succ i=>exact h2 i x y (sU hx) (sU hy)
 |[],_::_,h=>h.elim
 |_::_,[],h=>h.elim
theorem LeB.boxL{fz}{as_ bs}(h:LeL fz as_ bs):LeB fz (.box as_) (.box bs):=.box as_ bs h.get.1 h.get.2
def GT(st:ASt)(fz:Fz):List (Nat×AV)->Prop
 |[]=>True
 |(i,x)::l=>LeZ fz (st.t i) x∧GT st fz l
def GH(st:ASt)(fz:Fz):List (Nat×Blk)->Prop
 |[]=>True
 |(i,x)::l=>((match fz with|some (b,_,_)=>Nat.beq i b=false|none=>True)∧∃b0,st.h i=some b0∧LeB fz b0 x)∧GH st fz l
theorem Ghost.of_lists{st}{fz}{l}{hp}(hb:match fz with|some (x,rs,rows)=>st.h x=some (.arr rows rs)|none=>True)(ht:GT st fz l)(hh:GH st fz hp):Ghost st ⟨slotsF l,heapF hp,st.n⟩ fz:=by
 refine⟨λx rs rows h=>(by subst h;exact hb),rfl,λi=>?_,λs blk hs=>?_⟩
 ·clear hh hb
  induction l with
  |nil=>exact .any _
  |cons p l ih=>
   obtain⟨j,x⟩:=p;simp only[slotsF]
   cases hq:Nat.beq j i with
   |true=>rw[<-aO hq];exact ht.1
   |false=>exact ih ht.2
 ·clear ht hb
  induction hp with
  |nil=>cases hs
  | cons p hp ih=>
   obtain⟨j,x⟩:=p
   change heapF _ _=_ at hs
   simp only[heapF]at hs
   cases hq:Nat.beq j s with
   |true=>
    rw[hq]at hs;injection hs with hs;subst hs;rw[<-aO hq];refine⟨λx rs rows hz e=>?_,hh.1.2⟩;have:=hh.1.1;subst hz;simp only at this;rw[e]at this
    simp at this
   |false=>rw[hq]at hs;exact ih hh.2 hs
abbrev gOL:= @Ghost.of_lists
open Go.Proofs.Tryz
abbrev dU(n:Nat):List AV:=[.v (.int .u32 (n:Int))]
theorem lN:∀(l:List UInt8),gU (l.map λb=>[.v (.int .u8 (b.toNat:Int))])=some l
 |[]=>rfl
 |b::l=>by
  simp only[jC,gU,lN l];simp
def dK{C:Ctx}{fn:Func}{r:AV}{st:ASt}{rs:List AV}(h1:resA C st fn.results.toList=some rs)(h2:jU st.h (Dp rs))(h3:eP (vR st.h (Dp rs))=true)(h4:vR st.h (Dp rs)=r):ST C fn r st:=qY h1 h2 h3 h4
def fT{C:Ctx}{fn:Func}{r:AV}{st:ASt}{rs:List AV}(h1:resA C st fn.results.toList=some rs)(h4:vR st.h (Dp rs)=r)(h2:jU st.h (Dp rs):=by exact trivial)(h3:eP (vR st.h (Dp rs))=true:=by exact rfl):ST C fn r st:=dK h1 h2 h3 h4
set_option maxRecDepth 100000 in
set_option maxHeartbeats 4000000 in
theorem Fs(i):bI C0 64 [siA i] (.tup [.v (.int .i64 i.ag0),.v (.int .i64 i.ag1)]):=by
 refine dI func64 ?_;refine uR<|Wz rfl<|rFx rfl rfl (rfl) (trivial)<|rOk rfl rfl rfl<|rOk rfl rfl rfl<|ad6 rfl<|uR<|Wz rfl<|rOk rfl rfl rfl<|rOk rfl rfl rfl<|rOk rfl rfl rfl<|rOk rfl rfl rfl<|rOk rfl rfl rfl<|rOk rfl rfl rfl<|ad6 rfl<|FQ ?_;exact qY rfl trivial rfl rfl
def UI{prog}{pc}(h1:pc%4=0)(h2:pc/4<prog.length):∃x,fetchP prog pc=some x∧prog[((pc/4:Nat):Int).toNat]?=some x:=by
 refine⟨prog[pc/4],?_,?_⟩
 ·unfold fetchP;rw[af1 h1,aA h2]
 rw[Int.toNat_natCast,aA h2]
def NC{prog}{pc}(h:pc%4≠0∨prog.length<=pc/4):fetchP prog pc=none:=by
 unfold fetchP;split
 ·exact bE oT
 rfl
def KE{prog}(hp:∀x∈prog,x<=4294967295)(pc):fetchW prog pc<=4294967295:=by
 unfold fetchW fetchP;split
 ·cases h:prog[pc/4]? with
  |none=>exact aE _
  |some x=>exact hp x (aB h)
 ·exact aE _
def Ay(i)(a):addrOf i a<=4294967295:=by unfold addrOf;omega
def uT(a):up4 a<=4294967295:=by unfold up4;omega
def XG{n:Nat}(h:n<=1000000):IntKind.wrap .u64 ((n:Int))=(n:Int):=by
 simp only[IntKind.wrap,IntKind.signed,IntKind.bits];simp;omega
set_option maxRecDepth 100000 in
set_option maxHeartbeats 4000000 in
theorem ND(prog)(pc:Nat)(clip)(hp:∀x∈prog,x<=4294967295)(hl:prog.length<=1000000)(hpc:pc<=4294967295):bI C0 77 [.sl 1 (prog.map dU) clip,.v (.int .u32 (pc:Int))] (.tup [.v (.int .u32 (fetchW prog pc:Int)),.v (.bool (fetchP prog pc).isSome)]):=by
 refine dI func77 ?_;refine uR ?_;refine Wz rfl ?_;refine rOk rfl rfl rfl ?_;refine rOk rfl rfl rfl ?_;refine ad6 rfl ?_;refine uR ?_;refine uR ?_;refine Wz rfl ?_;refine rOk rfl rfl rfl ?_;have b1:pc%4<=3:=aI (aQ _ dT);refine bO rfl rfl rfl dT ?_;refine rOk rfl rfl (okB (neN _ _)) ?_;refine rOk rfl rfl rfl ?_;refine gOk rfl rfl rfl rfl rfl rfl ?_;have b2:pc/4<=1073741823:=eG hpc;refine pB rfl rfl rfl rfl (λh=>h) rfl (al8 (nJ b2 rfl)) (λ_=>by decide) ?_;refine adJ rfl rfl rfl rfl (λh=>h) rfl (okI (nJ b2 rfl)) ?_;refine gOk rfl rfl rfl rfl rfl rfl ?_;refine adJ rfl rfl rfl rfl (λh=>h) rfl rfl ?_;refine adJ rfl rfl rfl rfl (λh=>h) rfl (by show Res.ok (.v (.int .u64 (IntKind.wrap .u64 ((((prog.map dU).length:Nat):Int)))))=_;rw[aH,XG hl]) ?_;refine adJ rfl rfl rfl rfl (λh=>by simp_all) rfl (okB (geN _ _)) ?_;refine bO rfl rfl rfl (by simp) ?_;refine ad6 rfl ?_;refine aV rfl (λh1=>?_) (λh1=>?_)
 ·skip
  refine uR ?_;refine Wz rfl ?_;refine rOk rfl rfl rfl ?_;refine rOk rfl rfl rfl ?_;refine ad6 rfl ?_;refine FQ ?_;exact dK rfl trivial rfl (by unfold fetchW;rw[NC (by simp[cE,bne]at h1;split at h1<;>first|(left;assumption)|(right;assumption)|simp_all)];rfl)
 ·skip
  refine mF ?_;refine uR ?_;refine Wz rfl ?_;refine rOk rfl rfl rfl ?_;refine rOk rfl rfl rfl ?_;have b3:pc/4<=1073741823:=eG hpc;refine bO (x:=.v (.int .u32 ((pc/4:Nat):Int))) rfl rfl (al8 (nJ b3 rfl)) dT ?_;obtain⟨x,hf,hxx⟩:=UI (prog:=prog) (pc:=pc) (by simp[cE,bne]at h1;split at h1<;>simp_all) (by simp[cE,bne]at h1;split at h1<;>simp_all);have hx:x<=4294967295:=hp x (aB hxx);refine FO (dU x) (d:=21) (x:=.dp 1 0 (dU x)) rfl rfl rfl (⟨oT,by rw[aX];exact af2 (Option.map dU) hxx⟩) rfl ?_;refine rOk rfl rfl rfl ?_;refine rOk rfl rfl rfl ?_;refine rOk rfl rfl rfl ?_;refine ad6 rfl ?_;refine FQ ?_;exact dK rfl trivial rfl (by unfold fetchW;rw[hf];rfl)
def sQ{size:Nat}{agZ}{n:Nat}(h:kZ (size:Int) agZ (n:Int)=true):agZ+n<=size∧0<n∧n<=4:=by
 simp only[kZ,aP,aY]at h;omega
def qV(m):(aS m).length=m.size:=by simp[aS]
def upS(n:Nat):Nat:=if n<=16 then 16 else if n<=32 then 32 else if n<=64 then 64 else if n<=128 then 128 else 256
def jB(m:ByteArray):ByteArray:=⟨((m.extract 0 (min m.size 256)).data.toList++List.replicate (upS (min m.size 256)-min m.size 256) 0).toArray⟩
def Cw(m:ByteArray):(m.extract 0 (min m.size 256)).size=min m.size 256:=by rw[dA];omega
def wE(m):(jB m).size=upS (min m.size 256):=by
 have h:=Cw m;have h1:(m.extract 0 _).data.size=min m.size 256:=h;show(jB m).data.size=_;simp only[jB,kP,aU,cV,cM,h1];unfold upS
 repeat' (split<;>try omega)
def RA(n):upS n<=256:=by unfold upS;repeat' (split<;>try omega)
def NE{n j}(h4:j<=4)(h1:n<=16*2 ^ j)(h2:j=0∨16*2 ^ (j-1)<n):16*2 ^ j=upS n:=by
 have:j=0∨j=1∨j=2∨j=3∨j=4:=oT;unfold upS;rcases this with rfl|rfl|rfl|rfl|rfl<;>simp at h1 h2⊢ <;>repeat' (split<;>try omega)
def IQ{j n}(h4:j<=4)(h:16*2 ^ j<min n 256):j<4:=by
 have:j=0∨j=1∨j=2∨j=3∨j=4:=oT;rcases this with rfl|rfl|rfl|rfl|rfl<;>simp at h⊢ <;>omega
def Pb(m)(s)(h:m.size<=s):gU (List.take s (List.drop 0 (List.take 0 (List.replicate s [AV.v (.int .u8 0)])++List.take (min (aS m).length s) (aS m)++List.drop (0+min (aS m).length s) (List.replicate s [AV.v (.int .u8 0)]))))=some (m.data.toList++List.replicate (s-m.size) 0):=by
 have q:=qV m;simp only[pV,iA,bS,bJ,q,kD h];have e1:List.take m.size _=aS m:=aN (by rw[q];exact aC _);rw[e1,List.drop_replicate,aN (by simp[q];omega)];have:List.replicate (s-m.size) [AV.v (.int .u8 0)]=(List.replicate (s-m.size) (0:UInt8)).map λb=>[.v (.int .u8 (b.toNat:Int))]:=by simp
 rw[this];simp only[aS];rw[<-dH];exact lN _
set_option maxRecDepth 100000 in
set_option maxHeartbeats 4000000 in
theorem KF(m):bI C0 15 [.v (.string m)] (.v (.string (jB m))):=by
 refine dI func15 ?_;refine uR<|Wz rfl<|rOk rfl rfl rfl<|ad6 rfl<|uR<|Wz rfl<|rOk rfl rfl rfl<|rOk rfl rfl rfl<|rOk rfl rfl rfl<|rOk (x:=.v (.int .i64 ((min m.size 256:Nat):Int))) rfl rfl (by show Res.ok (.v (.int .i64 (if(256:Int)<(m.size:Int)then 256 else(m.size:Int))))=_;congr 3;split<;>omega)<|bO (x:=.v (.string (m.extract 0 (min m.size 256)))) rfl rfl rfl (by refine⟨?_,?_,?_⟩<;>simp<;>omega)<|rOk rfl rfl rfl<|ad6 rfl<|uR<|Wz rfl<|rOk rfl rfl rfl<|ad6 rfl<|uR<|kO<|jR (λj=>⟨slotsF [(0,.v (.string (m.extract 0 (min m.size 256)))),(3,.v (.int .i64 ((16*2 ^ j:Nat):Int)))],heapF [],8⟩) (λj=>j<=4∧(j=0∨16*2 ^ (j-1)<min m.size 256)) (λj=>4-j) 0 (λs=>s) (wOL (λs=>s) ⟨⟨rfl,rfl⟩,⟨rfl,rfl⟩,trivial⟩ trivial rfl) (⟨dT,.inl rfl⟩) ?_;intro j hj;refine uR<|uR<|Wz rfl<|rOk rfl rfl rfl<|rOk rfl rfl rfl<|rOk rfl rfl (af2 (λn:Nat=>Res.ok (.v (.int .i64 (n:Int)))) (Cw m))<|rOk rfl rfl (okB (ltN _ _))<|ad6 rfl<|aV rfl (λh1=>?_) (λh1=>?_)
 ·skip
  refine mF<|kO<|Wz rfl<|rOk rfl rfl rfl<|rOk (x:=.v (.int .i64 ((16*2 ^ (j+1):Nat):Int))) rfl rfl (by show Res.ok (.v (.int .i64 (IntKind.wrap .i64 (((16*2 ^ j:Nat):Int)*2))))=_;have p5:=bU (n:=2) dT hj.1;rw[wrap_i64 oT oT];congr 3;rw[Nat.pow_succ];omega)<|rOk rfl rfl rfl<|ad6 rfl ?_;refine⟨j+1,λs=>s,wOL (λs=>s) ⟨⟨rfl,rfl⟩,⟨rfl,rfl⟩,trivial⟩ trivial rfl,⟨oH (IQ hj.1 (af0 h1)),.inr (sU (of_decide_eq_true h1))⟩,oH (IQ hj.1 (af0 h1))⟩
 ·skip
  refine Bh<|uR<|Wz rfl<|rOk rfl rfl rfl<|rFx (h':=upd _ 13 (some (.arr (List.replicate (16*2 ^ j) [AV.v (.int .u8 0)]) 1))) rfl rfl (rfl) (by have p5:=bU (n:=2) dT hj.1;refine⟨oT,oT,?_⟩;simp only[jH];omega)<|rOk rfl rfl rfl<|ad6 rfl<|uR<|Wz rfl<|rOk rfl rfl rfl<|rOk rfl rfl rfl<|rFx rfl rfl (rfl) (⟨by simp,trivial⟩)<|ad6 rfl<|uR<|Wz rfl<|rOk rfl rfl rfl<|SV ((m.extract 0 (min m.size 256)).data.toList++List.replicate (upS (min m.size 256)-min m.size 256) 0) rfl rfl rfl (by show 0+16*2 ^ j<=List.length (List.take 0 (List.replicate (16*2 ^ j) [AV.v (.int .u8 0)])++List.take (min (aS (m.extract 0 (min m.size 256))).length (16*2 ^ j)) (aS (m.extract 0 (min m.size 256)))++List.drop (0+min (aS (m.extract 0 (min m.size 256))).length (16*2 ^ j)) (List.replicate (16*2 ^ j) [AV.v (.int .u8 0)]));have q:=qV (m.extract 0 (min m.size 256));have q2:=Cw m;have:=aF h1;simp only[aU,aM,bD,cM,q,q2];omega) (by have e:=Pb (m.extract 0 (min m.size 256)) (16*2 ^ j) (by have:=aF h1;rw[Cw];omega);rw[Cw,NE hj.1 (oH (aF h1)) hj.2]at e;rw[NE hj.1 (oH (aF h1)) hj.2];exact e)<|rOk rfl rfl rfl<|ad6 rfl<|FQ ?_;exact qY rfl trivial rfl rfl
set_option maxRecDepth 100000
set_option maxHeartbeats 4000000
def fHu{p:Prop}(h:p:=by exact BH (rs:=[]) rfl (σ:=λz=>z) ⟨rfl,rfl⟩ rfl (af8 (λz=>z) rfl rfl wH rfl)):p:=h
abbrev ae4(n:Int):List AV:=[.v (.int .i64 n)]
abbrev cfL(c:Cf)(cl ct:Bool):List AV:=[.v (.int .i64 c.mode),.v (.int .i64 c.agN),.v (.int .i64 c.agI),.v (.int .i64 c.queue),.v (.int .i64 c.agF),.v (.int .i64 c.agP),.v (.int .i64 c.agJ),.v (.int .i64 c.ways),.sl 1 (c.agW.map ae4) cl,.v (.bool c.tables),.sl 1 (c.tape.map dU) ct]
structure Cf.ok(c:Cf):Prop where
 agW:c.agW.length<=9223372036854775807
 tape:c.tape.length<=9223372036854775807
 tp:∀x∈c.tape,x<=4294967295
mutual
theorem afK(σ:Nat->Nat):∀(a:AV),eP a=true->uW σ a=a
 | .v _,_| .sl _ _ _,_| .dp _ _ _,_=>by simp[uW]
 | .agg cs,h=>by simp only[uW,nQ σ cs (by simpa [eP]using h)]
 | .tup cs,h=>by simp only[uW,nQ σ cs (by simpa [eP]using h)]
 | .clo f a b,h=>by
  simp only[eP]at h;split at h
  ·rename_i ha;simp only[uW,nQ σ a ha,nQ σ b h]
  ·cases h
 | .ptr _ _,h| .ptr2 _ _ _,h| .osl _ _ _ _,h| .opt _ _,h| .any,h=>by cases h
theorem nQ(σ:Nat->Nat):∀(cs:List AV),eW cs=true->Bg σ cs=cs
 |[],_=>by simp[Bg]
 |c::cs,h=>by
  simp only[eW]at h;split at h
  ·rename_i hc;simp only[Bg,afK σ c hc,nQ σ cs h]
  ·cases h
end
mutual
theorem IG(n:Nat):∀(a:AV),eP a=true->mR n a=true
 | .v _,_| .sl _ _ _,_| .dp _ _ _,_=>by simp[mR]
 | .agg cs,h=>by simp only[mR,kW n cs (by simpa [eP]using h)]
 | .tup cs,h=>by simp only[mR,kW n cs (by simpa [eP]using h)]
 | .clo f a b,h=>by
  simp only[eP]at h;split at h
  ·rename_i ha;simp only[mR,kW n a ha,kW n b h]
  ·cases h
 | .ptr _ _,h| .ptr2 _ _ _,h| .osl _ _ _ _,h| .opt _ _,h| .any,h=>by cases h
theorem kW(n:Nat):∀(cs:List AV),eW cs=true->mS n cs=true
 |[],_=>by simp[mS]
 |c::cs,h=>by
  simp only[eW]at h;split at h
  ·rename_i hc;simp only[mS,IG n c hc,kW n cs h]
  ·cases h
end
def acK(σ){cs}(h:eW cs=true):some (Blk.box cs)=some (DI σ (.box cs)):=by simp only[DI,nQ σ cs h]
def adM(n){cs}(h:eW cs=true):qM n (.box cs)=true:=by simp only[qM,kW n cs h]
def ZR(cells)(col)(n lo hi)(hn:Lg cells col=some (.v (.int .i64 n)))(hc:col+1<=cells.length)(hcl:eW (zS col [.v (.int .i64 (bV n lo hi))] cells)=true):
  pM C0.P C0.G 49 [.ptr 0 col,.v (.int .i64 lo),.v (.int .i64 hi)] (heapF [(0,.box cells)]) 1 (λx h'=>x=.tup []∧h'=heapF [(0,.box (zS col [.v (.int .i64 (bV n lo hi))] cells))]):=by
 refine HCall.intro c0Ok.at func49 rfl rfl (by kernel_rfl) rfl rfl<|cRg<|oR 3 rfl<|rW _ rfl (by show okO (Lg cells col)=_;rw[hn];rfl)<|oR 1 rfl<|rV _ rfl<|oR 1 rfl<|rV _ rfl<|oR 1 rfl ?_;have hb:Nat.ble _ cells.length=true:=iL hc;refine Ow (h':=upd _ 0 (some (.box (zS col [.v (.int .i64 (bV n lo hi))] cells)))) rfl rfl (by
  show(match Nat.ble (col+1) cells.length with|true=>Res.fx True .any (upd _ 0 (some (.box (zS col [.v (.int .i64 (if hi<(if lo>n then lo else n)then hi else(if lo>n then lo else n)))] cells))))|false=>.bad)=_;rw[hb];rfl) trivial ?_
 refine rE 11 ?_;exact BH rfl ⟨rfl,rfl⟩ rfl (af8 (λs=>s) rfl rfl ⟨⟨rfl,acK _ hcl,adM _ hcl⟩,trivial⟩ rfl)
def afL{cells cells'}{b col}{n lo hi}{K}{s2}(hn:Lg cells col=some (.v (.int .i64 n)))(hc:Nat.ble (col+1) cells.length=true)(he:zS col [.v (.int .i64 (bV n lo hi))] cells=cells')(hcl:eW cells=true)(hcl':eW cells'=true)(hb:Nat.blt b s2=true)(hK:K b=some (.box cells)):
  pM C0.P C0.G 49 [.ptr b col,.v (.int .i64 lo),.v (.int .i64 hi)] K s2 (λx h'=>x=.tup []∧h'=upd K b (some (.box cells'))):=by
 subst he;have:=(ZR cells col n lo hi hn (aJ hc) hcl').frame1 b K s2 (aJ hb) (adM 1 hcl) (by rw[hK];exact acK _ hcl) rfl;rw[<-acK _ hcl']at this;exact this
def Xy(rows)(k)(n lo hi)(hn:rows[k]?=some [.v (.int .i64 n)]):
  pM C0.P C0.G 49 [.ptr2 0 k 0,.v (.int .i64 lo),.v (.int .i64 hi)] (heapF [(0,.arr rows 1)]) 1 (λx h'=>x=.tup []∧h'=heapF [(0,.arr (rows.set k [.v (.int .i64 (bV n lo hi))]) 1)]):=by
 refine HCall.intro c0Ok.at func49 rfl rfl (by kernel_rfl) rfl rfl<|qS 0 rfl<|FO [.v _] rfl rfl rfl ⟨aG _,hn⟩ rfl<|qR 0 rfl<|zW _ rfl<|zW _ rfl<|zY [.v _] rfl ⟨aG _,hn⟩ ?_;exact BH rfl ⟨rfl,rfl⟩ rfl (af8 (λs=>s) rfl rfl wH rfl)
def Np{rows rows'}{b k}{n lo hi}{K}{s2}(hn:rows[k]?=some [.v (.int .i64 n)])(he:rows.set k [.v (.int .i64 (bV n lo hi))]=rows')(hb:Nat.blt b s2=true)(hK:K b=some (.arr rows 1)):
  pM C0.P C0.G 49 [.ptr2 b k 0,.v (.int .i64 lo),.v (.int .i64 hi)] K s2 (λx h'=>x=.tup []∧h'=upd K b (some (.arr rows' 1))):=by
 subst he;exact(Xy rows k n lo hi hn).frame1 b K s2 (aJ hb) rfl hK rfl
def Bo(a b:Nat):Res.ok (.v (.int .i64 (if(b:Int)<(a:Int)then(b:Int)else(a:Int))))=.ok (.v (.int .i64 ((min a b:Nat):Int))):=by congr 3;split<;>omega
def Cr{α}(f)(l:List α)(z:List AV)(n)(hn:n=min l.length 64):(List.replicate n z).take 0++(l.map f).take (min (l.map f).length n)++(List.replicate n z).drop (0+min (l.map f).length n)=(l.take 64).map f:=by
 subst hn;rw[aH,pV,iA,cB (by rw[cM];omega),dY, <-eO];congr 1;rcases Nat.le_total l.length 64 with h|h
 ·rw[aN omT,aN omT]
 congr 1;omega
def cD{α}(f:α->List AV)(l:List α):Res.ok (.v (.int .i64 ((l.map f).length:Int)))=.ok (.v (.int .i64 ((l.length:Nat):Int))):=by rw[aH]
def DO(c:Cf)(k:Nat):List (List AV):=((((c.agW.take 64).take k).map λn=>bV n 1 8)++(c.agW.take 64).drop k).map ae4
def Nq(c)(k)(h:(c.agW.take 64).length<=k):DO c k=(bZ c).agW.map ae4:=by
 unfold DO bZ;rw[aN h,cB h,dY]
def Nr{c}{k}{x}(hx:(c.agW.take 64)[k]?=some x):(DO c k)[k]?=some (ae4 x):=by
 have hk:=(Em.1 hx).1;unfold DO;rw[aX,bM (by simp;omega)];simp only[aH,aM];rw[cL,show k+(k-min k _)=k by have:k<(c.agW.take 64).length:=hk;rw[aM]at this;omega,hx];rfl
def Ns{c}{k}{x}(hx:(c.agW.take 64)[k]?=some x):(DO c k).set k [.v (.int .i64 (bV x 1 8))]=DO c (k+1):=by
 unfold DO;generalize c.agW.take 64=l at hx⊢;have hk:=(Em.1 hx).1;have hl:((l.take k).map λn=>bV n 1 8).length=k:=by rw[aH,aM];omega
 have hx':l[k]=x:=by rw[aA hk]at hx;exact af5 hx
 rw[show([.v _]:List AV)=ae4 (bV x 1 8)from rfl, <-List.map_set,iN _ _ omT,hl,eK,bF hk,gM,bW,hx];simp
def Nt(c)(k)(h:k<=(c.agW.take 64).length):(DO c k).length=(c.agW.take 64).length:=by
 unfold DO;simp only[aH,aU,bD];rw[List.length_take_of_le h];omega
def II{p}{x}{h}{b rs}{r r'}(e:r=r'):Res.fx p x (upd h b (some (.arr r rs)))=.fx p x (upd h b (some (.arr r' rs))):=by rw[e]
def Eb(c)(cl ct)(hok:c.ok):bI C0 12 [.agg (cfL c cl ct)] (.agg (cfL (bZ c) false false)):=by
 refine dIZ func12 rfl<|zH rfl (afL rfl rfl rfl rfl rfl rfl rfl) ?_;rintro _ _ ⟨rfl,rfl⟩;refine zH rfl (afL rfl rfl rfl rfl rfl rfl rfl) ?_;rintro _ _ ⟨rfl,rfl⟩;refine zH rfl (afL rfl rfl rfl rfl rfl rfl rfl) ?_;rintro _ _ ⟨rfl,rfl⟩;refine zH rfl (afL rfl rfl rfl rfl rfl rfl rfl) ?_;rintro _ _ ⟨rfl,rfl⟩;refine zH rfl (afL rfl rfl rfl rfl rfl rfl rfl) ?_;rintro _ _ ⟨rfl,rfl⟩;refine zH rfl (afL rfl rfl rfl rfl rfl rfl rfl) ?_;rintro _ _ ⟨rfl,rfl⟩;refine zH rfl (afL rfl rfl rfl rfl rfl rfl rfl) ?_;rintro _ _ ⟨rfl,rfl⟩;refine zVB ((bV c.agJ 1 4)==3) (λh1=>?_) (λh1=>?_)
 ·refine zH rfl (afL rfl rfl rfl rfl rfl rfl rfl) ?_;rintro _ _ ⟨rfl,rfl⟩;refine rW _ rfl (cD ae4 c.agW)<|rW _ rfl (Bo c.agW.length 64)<|zF (rfl) (⟨aG _,iF _,by show(((min c.agW.length 64):Nat):Int)<=1000000;have:=(aL (eX c.agW.length 64) (aC 64));omega⟩)<|zF (II (Cr ae4 c.agW [.v (.int .i64 0)] _ rfl)) (⟨by simp,trivial⟩)<|zV (vN (min c.agW.length 64))<|zLo (λk=>⟨slotsF [(1,.ptr 0 0),(2,.ptr 1 0),(3,.clo 49 [] []),(4,.osl 36 0 (min c.agW.length 64) false),(45,vN (min c.agW.length 64)),(46,vN k)],heapF [(0,.box [vI (bV c.mode 0 2),vI (bV c.agN 1 2),vI (bV c.agI 2 8),vI (bV c.queue 1 4),vI (bV c.agF 1 4),vI (bV c.agP 2 6),vI 2,vI (bV c.ways 1 2),.sl 1 (c.agW.map ae4) cl,vB c.tables,.sl 1 (c.tape.map dU) ct]),(1,.box [vI 0,vI 0,vI 0,vI 0,vI 0,vI 0,vI 0,vI 0,.sl 0 ([]) true,vB false,.sl 0 ([]) true]),(36,.arr (DO c k) 1)],45⟩) (λk=>k<=min c.agW.length 64) (λk=>min c.agW.length 64-k) 0 (λs=>s) (wOL (λs=>s) wT wH rfl) (aE _) ?_;intro k hk;have hkB:k<=1000000:=oT;refine zWB (okB (ltN _ _)) (λh2=>?_) (λh2=>?_)
  ·skip
   have hkl:k<(c.agW.take 64).length:=by have:=af0 h2;rw[aM];omega
   obtain⟨x,hx⟩:∃x,(c.agW.take 64)[k]?=some x:=⟨_,aA hkl⟩;have hxk:(DO c k)[0+k]?=some [.v (.int .i64 x)]:=by rw[bJ];exact Nr hx
   refine nW (.ptr2 36 (0+k) 0) rfl rfl (⟨aG _,by show(k:Int)<((min c.agW.length 64:Nat):Int);have:=af0 h2;omega⟩)<|zH rfl (Np (rows':=DO c (k+1)) (k:=0+k) (n:=x) hxk ((bJ k).symm ▸ Ns hx) rfl rfl) ?_;rintro _ _ ⟨rfl,rfl⟩;have b1:k+1<=1000001:=aD hkB (aC 1);refine zW _ (okI (bH b1 rfl)) ?_;refine⟨k+1,λs=>s,wOL _ wT wH rfl,oH (af0 h2),by have:=af0 h2;show min c.agW.length 64-(k+1)<min c.agW.length 64-k;omega⟩
  refine rW _ rfl (cD dU c.tape)<|rW _ rfl (Bo c.tape.length 64)<|zF (rfl) (⟨aG _,iF _,by show(((min c.tape.length 64):Nat):Int)<=1000000;have:=(aL (eX c.tape.length 64) (aC 64));omega⟩)<|zF (II (Cr dU c.tape [.v (.int .u32 0)] _ rfl)) (⟨by simp,trivial⟩) ?_;have hk2:(c.agW.take 64).length<=k:=by rw[aM];have:=aF h2;omega
  have hll:=Nt c k (by rw[aM];omega);have e1:List.take (min c.agW.length 64) (List.drop 0 (DO c k))=(bZ c).agW.map ae4:=by rw[bS,aN (by rw[hll,aM];omega),Nq c k hk2]
  have e2:List.take (min c.tape.length 64) (List.drop 0 ((c.tape.take 64).map dU))=(bZ c).tape.map dU:=by rw[bS,aN (by rw[aH,aM];omega)];rfl
  have e3:(bZ c).agJ=2:=af1 (sU h1);refine dK rfl (r4 (r4 ⟨by show 0+min c.agW.length 64<=(DO c k).length;rw[hll,aM];omega,trivial,by show 0+min c.tape.length 64<=((c.tape.take 64).map dU).length;rw[aH,aM];omega,trivial⟩)) rfl ?_;show AV.agg [vI (bV c.mode 0 2),vI (bV c.agN 1 2),vI (bV c.agI 2 8),vI (bV c.queue 1 4),vI (bV c.agF 1 4),vI (bV c.agP 2 6),vI 2,vI (bV c.ways 1 2),.sl 1 (List.take (min c.agW.length 64) (List.drop 0 (DO c k))) false,vB c.tables,.sl 1 (List.take (min c.tape.length 64) (List.drop 0 ((c.tape.take 64).map dU))) false]=AV.agg (cfL (bZ c) false false);rw[e1,e2];show _=AV.agg [vI (bZ c).mode,vI (bZ c).agN,vI (bZ c).agI,vI (bZ c).queue,vI (bZ c).agF,vI (bZ c).agP,vI (bZ c).agJ,vI (bZ c).ways,.sl 1 ((bZ c).agW.map ae4) false,vB (bZ c).tables,.sl 1 ((bZ c).tape.map dU) false];rw[e3];rfl
 refine zH rfl (afL rfl rfl rfl rfl rfl rfl rfl) ?_;rintro _ _ ⟨rfl,rfl⟩;refine rW _ rfl (cD ae4 c.agW)<|rW _ rfl (Bo c.agW.length 64)<|zF (rfl) (⟨aG _,iF _,by show(((min c.agW.length 64):Nat):Int)<=1000000;have:=(aL (eX c.agW.length 64) (aC 64));omega⟩)<|zF (II (Cr ae4 c.agW [.v (.int .i64 0)] _ rfl)) (⟨by simp,trivial⟩)<|zV (vN (min c.agW.length 64))<|zLo (λk=>⟨slotsF [(1,.ptr 0 0),(2,.ptr 1 0),(3,.clo 49 [] []),(4,.osl 34 0 (min c.agW.length 64) false),(45,vN (min c.agW.length 64)),(46,vN k)],heapF [(0,.box [vI (bV c.mode 0 2),vI (bV c.agN 1 2),vI (bV c.agI 2 8),vI (bV c.queue 1 4),vI (bV c.agF 1 4),vI (bV c.agP 2 6),vI (bV c.agJ 1 4),vI (bV c.ways 1 2),.sl 1 (c.agW.map ae4) cl,vB c.tables,.sl 1 (c.tape.map dU) ct]),(1,.box [vI 0,vI 0,vI 0,vI 0,vI 0,vI 0,vI 0,vI 0,.sl 0 ([]) true,vB false,.sl 0 ([]) true]),(34,.arr (DO c k) 1)],43⟩) (λk=>k<=min c.agW.length 64) (λk=>min c.agW.length 64-k) 0 (λs=>s) (wOL (λs=>s) wT wH rfl) (aE _) ?_;intro k hk;have hkB:k<=1000000:=oT;refine zWB (okB (ltN _ _)) (λh3=>?_) (λh3=>?_)
 ·skip
  have hkl:k<(c.agW.take 64).length:=by have:=af0 h3;rw[aM];omega
  obtain⟨x,hx⟩:∃x,(c.agW.take 64)[k]?=some x:=⟨_,aA hkl⟩;have hxk:(DO c k)[0+k]?=some [.v (.int .i64 x)]:=by rw[bJ];exact Nr hx
  refine nW (.ptr2 34 (0+k) 0) rfl rfl (⟨aG _,by show(k:Int)<((min c.agW.length 64:Nat):Int);have:=af0 h3;omega⟩)<|zH rfl (Np (rows':=DO c (k+1)) (k:=0+k) (n:=x) hxk ((bJ k).symm ▸ Ns hx) rfl rfl) ?_;rintro _ _ ⟨rfl,rfl⟩;have b2:k+1<=1000001:=aD hkB (aC 1);refine zW _ (okI (bH b2 rfl)) ?_;refine⟨k+1,λs=>s,wOL _ wT wH rfl,oH (af0 h3),by have:=af0 h3;show min c.agW.length 64-(k+1)<min c.agW.length 64-k;omega⟩
 refine rW _ rfl (cD dU c.tape)<|rW _ rfl (Bo c.tape.length 64)<|zF (rfl) (⟨aG _,iF _,by show(((min c.tape.length 64):Nat):Int)<=1000000;have:=(aL (eX c.tape.length 64) (aC 64));omega⟩)<|zF (II (Cr dU c.tape [.v (.int .u32 0)] _ rfl)) (⟨by simp,trivial⟩) ?_;have hk2:(c.agW.take 64).length<=k:=by rw[aM];have:=aF h3;omega
 have hll:=Nt c k (by rw[aM];omega);have e1:List.take (min c.agW.length 64) (List.drop 0 (DO c k))=(bZ c).agW.map ae4:=by rw[bS,aN (by rw[hll,aM];omega),Nq c k hk2]
 have e2:List.take (min c.tape.length 64) (List.drop 0 ((c.tape.take 64).map dU))=(bZ c).tape.map dU:=by rw[bS,aN (by rw[aH,aM];omega)];rfl
 have e3:(bZ c).agJ=bV c.agJ 1 4:=dZ (sU h1);refine dK rfl (r4 (r4 ⟨by show 0+min c.agW.length 64<=(DO c k).length;rw[hll,aM];omega,trivial,by show 0+min c.tape.length 64<=((c.tape.take 64).map dU).length;rw[aH,aM];omega,trivial⟩)) rfl ?_;show AV.agg [vI (bV c.mode 0 2),vI (bV c.agN 1 2),vI (bV c.agI 2 8),vI (bV c.queue 1 4),vI (bV c.agF 1 4),vI (bV c.agP 2 6),vI (bV c.agJ 1 4),vI (bV c.ways 1 2),.sl 1 (List.take (min c.agW.length 64) (List.drop 0 (DO c k))) false,vB c.tables,.sl 1 (List.take (min c.tape.length 64) (List.drop 0 ((c.tape.take 64).map dU))) false]=AV.agg (cfL (bZ c) false false);rw[e1,e2];show _=AV.agg [vI (bZ c).mode,vI (bZ c).agN,vI (bZ c).agI,vI (bZ c).queue,vI (bZ c).agF,vI (bZ c).agP,vI (bZ c).agJ,vI (bZ c).ways,.sl 1 ((bZ c).agW.map ae4) false,vB (bZ c).tables,.sl 1 ((bZ c).tape.map dU) false];rw[e3];rfl
abbrev wyL(x:Wy):List AV:=[.v (.int .u32 (x.agY:Int)),.v (.bool x.agQ),.v (.string x.data)]
abbrev Up(s:List Wy):AV:=.sl 3 (s.map wyL) false
abbrev bX(s:List Wy):List AV:=[Up s]
abbrev caL(c:Ca)(k:Bool):List AV:=[.v (.int .i64 c.ways),.sl 1 (c.agJ.map bX) k]
abbrev rqL(x:Req):List AV:=[.v (.int .i64 x.kind),.v (.int .u32 (x.agY:Int)),.v (.int .i64 x.left),.v (.string x.data)]
def aeI(o:Option Nat):AV:=.tup [vN (o.getD 0),vB o.isSome]
structure Wy.ok(x:Wy):Prop where
 agY:x.agY<=4294967295
structure Ca.ok(c:Ca):Prop where
 agJ:c.agJ.length<=9223372036854775807
 set:∀s∈c.agJ,s.length<=9223372036854775807∧∀x∈s,x.ok
def dV{a}(h:a<=4294967295):lineOf a<=4294967295:=by unfold lineOf;omega
def acJ{a b:Nat}(h:a=b):AV.v (.int .u32 (a:Int))=.v (.int .u32 (b:Int)):=by rw[h]
def abR{a b:Nat}(h:a=b):AV.v (.int .i64 (a:Int))=.v (.int .i64 (b:Int)):=by rw[h]
def iH{α}{f:α->List AV}{l:List α}{k:Nat}{x}(h:l[k]?=some x):(l.map f)[k]?=some (f x):=by rw[aX,h];rfl
def tN(a)(ha:a<=4294967295):bI C0 56 [vU a] (vU (lineOf a)):=by
 refine dIZ func56 rfl ?_;have b1:a%16<=15:=aI (aQ _ dT);refine nW (vU (a%16)) rfl rfl dT ?_;refine zW _ (okI (Gn b1 rfl)) ?_;exact fT rfl (acJ (by unfold lineOf;omega))
def VO(c)(agY)(ck)(h0:0<c.agJ.length)(hl:c.agJ.length<=1000000)(hline:agY<=4294967295):bI C0 126 [.agg (caL c ck),vU agY] (vN (afM c agY)):=by
 refine dIZ func126 rfl ?_;have b1:agY/16<=268435455:=eG hline;refine zM _ (al8 (nJ b1 rfl)) dT<|rW _ rfl (cD bX c.agJ)<|rW _ rfl (okI (nJ hl rfl)) ?_;have b2:(agY/16)%c.agJ.length<=268435455:=aL (gR _ _) b1;refine nW _ rfl rfl omT<|zW _ (okI (bH b2 rfl)) ?_;exact fT rfl rfl
def OQ{s}{agY k}{x}(hx:s[k]?=some x)(hn: ¬x.agY=agY)(h:jY s agY=(jY (s.drop k) agY).map (· +k)):jY s agY=(jY (s.drop (k+1)) agY).map (· +(k+1)):=by
 obtain⟨hk,hx'⟩:=Em.1 hx;rw[h,bF hk,hx'];simp only[jY,dZ hn,Option.map_map];congr 1;funext i;show i+1+k=i+(k+1);omega
def OR{s}{agY k}{x}(hx:s[k]?=some x)(hn:x.agY=agY)(h:jY s agY=(jY (s.drop k) agY).map (· +k)):jY s agY=some k:=by
 obtain⟨hk,hx'⟩:=Em.1 hx;rw[h,bF hk,hx'];simp[jY,hn]
def Rk{s}{agY k}(hk:s.length<=k)(h:jY s agY=(jY (s.drop k) agY).map (· +k)):jY s agY=none:=by
 rw[h,cB hk];rfl
def VP(s)(agY)(ck)(hs:s.length<=1000000)(ho:∀x∈s,x.ok)(hline:agY<=4294967295):bI C0 127 [.sl 3 (s.map wyL) ck,vU agY] (aeI (jY s agY)):=by
 refine dIZ func127 rfl<|zW _ (cD wyL s)<|zLo (λk=>⟨slotsF [(1,vU agY),(8,.sl 3 (s.map wyL) ck),(9,vN s.length),(10,vN k)],heapF [],5⟩) (λk=>k<=s.length∧jY s agY=(jY (s.drop k) agY).map (· +k)) (λk=>s.length-k) 0 (λs=>s) (wOL (λs=>s) wT trivial rfl) (⟨aE _,by simp⟩) ?_;intro k hk;have hkB:k<=1000000:=oH hk.1;refine zWB (okB (ltN _ _)) (λh1=>?_) (λh1=>?_)
 ·skip
  obtain⟨x,hx⟩:∃x,s[k]?=some x:=⟨_,aA (af0 h1)⟩;refine zX (wyL x) (.dp 3 0 (wyL x)) rfl (iH hx)<|zWB (okB (eqN _ _)) (λh2=>?_) (λh2=>?_)
  ·exact fT rfl (by rw[OR hx (sU h2) hk.2];rfl)
  skip
  have b1:k+1<=1000001:=aD hkB (aC 1);refine zW _ (okI (bH b1 rfl)) ?_;refine⟨k+1,λs=>s,wOL _ wT trivial rfl,⟨af0 h1,OQ hx (sU h2) hk.2⟩,oH (af0 h1)⟩
 exact fT rfl (by rw[Rk (oH (aF h1)) hk.2];rfl)
def FZ(c:Ca)(k:Nat)(s:List Wy)(i:Nat)(x:Wy):Prop:=lineOf x.agY=x.agY∧afM c x.agY=k∧(x.data.size=0∨x.data.size=16)∧jY (s.take i) x.agY=none
def jX(c)(k)(s):xB c k s=true↔(s.length:Int)<=c.ways∧∀i x,s[i]?=some x->FZ c k s i x:=by
 unfold xB FZ;simp only[aP,aY,rC,lI];refine and_congr_right λ_=>⟨λh i x hx=>?_,λh i hi=>?_⟩
 ·have:=h i (Em.1 hx).1;rw[hx]at this;simp only[aP,dE,aY,iO]at this;exact⟨this.1.1.1,this.1.1.2,this.1.2,this.2⟩
 rw[aA hi];have:=h i _ (aA hi);simp only[aP,dE,aY,iO];exact⟨⟨⟨this.1,this.2.1⟩,this.2.2.1⟩,this.2.2.2⟩
def jL(c):gG c=true↔((c.agJ.length=1∨c.agJ.length=2∨c.agJ.length=4)∧(c.ways=1∨c.ways=2))∧∀k s,c.agJ[k]?=some s->xB c k s=true:=by
 unfold gG;simp only[aP,dE,aY,rC,lI];refine and_congr ?_ ⟨λh k s hs=>?_,λh k hk=>?_⟩
 ·rw[or_assoc]
 ·have:=h k (Em.1 hs).1
  rwa [hs]at this
 rw[aA hk];exact h k _ (aA hk)
def yF{c:Ca}(h: ¬gG c=true):gG c=false:=sU h
def AU{n}{w:Int}(h:cE (cE (cE (n != 1) (n != 2) false) (n != 4) false) true (cE (w != 1) (w != 2) false)=false):(n=1∨n=2∨n=4)∧(w=1∨w=2):=by
 simp only[c2]at h;constructor
 ·by_cases h1:n=1<;>by_cases h2:n=2<;>by_cases h4:n=4<;>simp_all
 by_cases h1:w=1
 ·exact .inl h1
 by_cases h2:w=2
 ·exact .inr h2
 simp[h1,h2]at h;omega
def Kw{n}{w:Int}(h:cE (cE (cE (n != 1) (n != 2) false) (n != 4) false) true (cE (w != 1) (w != 2) false)=true): ¬((n=1∨n=2∨n=4)∧(w=1∨w=2)):=by
 rintro⟨rfl|rfl|rfl,rfl|rfl⟩<;>simp[cE]at h
def Xt{c}{k j}{s}{x}(h1:cE ((lineOf x.agY) != x.agY) true ((afM c x.agY) != k)=false)(h2:cE ((x.data.size:Int) != 0) ((x.data.size:Int) != 16) false=false)(h3:(jY (s.take j) x.agY).isSome=false):FZ c k s j x:=by
 simp only[c2]at h1 h2;refine⟨?_,?_,?_,sU h3⟩
 ·by_cases h:lineOf x.agY=x.agY<;>simp_all
 ·by_cases h:afM c x.agY=k<;>simp_all
 by_cases h:x.data.size=0
 ·exact .inl h
 right;simp_all;omega
def Uq{c:Ca}{k j:Nat}{s:List Wy}{x:Wy}(h:cE ((lineOf x.agY) != x.agY) true ((afM c x.agY) != k)=true): ¬FZ c k s j x:=λq=>by
 rw[q.1,q.2.1]at h;simp[cE]at h
def Ur{c:Ca}{k j:Nat}{s:List Wy}{x:Wy}(h:cE ((x.data.size:Int) != 0) ((x.data.size:Int) != 16) false=true): ¬FZ c k s j x:=λq=>by
 rcases q.2.2.1 with e|e<;>rw[e]at h<;>simp[cE]at h
def Us{c:Ca}{k j:Nat}{s:List Wy}{x:Wy}(h:(jY (s.take j) x.agY).isSome=true): ¬FZ c k s j x:=λq=>by
 rw[q.2.2.2]at h;cases h
def OS{c:Ca}{k:Nat}{s:List Wy}(hs:c.agJ[k]?=some s)(h:xB c k s=true)(hk:∀i s,i<k->c.agJ[i]?=some s->xB c i s=true):∀i s,i<k+1->c.agJ[i]?=some s->xB c i s=true:=λi s' hi hs'=>by
 by_cases e:i=k
 ·subst e;rw[hs]at hs';injection hs' with e;exact e ▸ h
 exact hk i s' omT hs'
def Ut{c:Ca}{k j:Nat}{s:List Wy}{x:Wy}(hx:s[j]?=some x)(h:FZ c k s j x)(hj:∀i x,i<j->s[i]?=some x->FZ c k s i x):∀i x,i<j+1->s[i]?=some x->FZ c k s i x:=λi x' hi hx'=>by
 by_cases e:i=j
 ·subst e;rw[hx]at hx';injection hx' with e;exact e ▸ h
 exact hj i x' omT hx'
def AW(c)(ck)(hok:c.ok):bI C0 103 [.agg (caL c ck)] (vB (gG c)):=by
 refine dIZ func103 rfl<|zW _ (cD bX c.agJ)<|zW _ (okB (neN _ _))<|gBS rfl id (okB (neN _ _))<|zN rfl (λh=>h)<|gBS rfl id (okB (neN _ _))<|zN rfl (λh=>h)<|gS rfl id<|gBS rfl id rfl<|zG rfl id<|gS rfl id<|gBS rfl id rfl<|pB rfl rfl rfl rfl (λh=>h) rfl rfl (λhg hc=>by first|(rw[hg,hc];rfl)|simp_all)<|zN rfl (by simp)<|zB rfl (λh1=>?_) (λh1=>?_)
 ·exact fB rfl (yF (λq=>Kw h1 ((jL c).1 q).1)).symm
 refine zW _ (cD bX c.agJ)<|zLo (λk=>⟨slotsF [(1,.ptr 0 0),(3,vN c.agJ.length),(34,.sl 1 (c.agJ.map bX) ck),(35,vN c.agJ.length),(36,vN k)],heapF [(0,.box [vI c.ways,.sl 1 (c.agJ.map bX) ck])],30⟩) (λk=>k<=c.agJ.length∧∀i s,i<k->c.agJ[i]?=some s->xB c i s=true) (λk=>c.agJ.length-k) 0 (λs=>s) (wOL (λs=>s) wT wH rfl) (⟨aE _,λi s h=>absurd h (dG i)⟩) ?_;intro k hk;have hkB:k<=1000000:=by have:=hk.1;have:=(AU h1).1;omega
 refine zWB (okB (ltN _ _)) (λh2=>?_) (λh2=>?_)
 ·skip
  obtain⟨s,hs⟩:∃s,c.agJ[k]?=some s:=⟨_,aA (af0 h2)⟩;have hso:=hok.set s (aB hs);refine zX (bX s) (.dp 1 0 (bX s)) rfl (iH hs)<|zW _ (cD wyL s)<|zVB (decide (((s.length:Nat):Int)>c.ways)) (λh3=>?_) (λh3=>?_)
  ·exact fB rfl (yF (λq=>absurd ((jX c k s).1 (((jL c).1 q).2 k s hs)).1 (oH (af0 h3)))).symm
  refine zW _ (cD wyL s)<|zLo (λj=>⟨slotsF [(1,.ptr 0 0),(3,vN c.agJ.length),(34,.sl 1 (c.agJ.map bX) ck),(35,vN c.agJ.length),(36,vN k),(4,vN k),(5,.sl 3 (s.map wyL) false),(46,.sl 3 (s.map wyL) false),(47,vN s.length),(48,vN j)],heapF [(0,.box [vI c.ways,.sl 1 (c.agJ.map bX) ck])],44⟩) (λj=>j<=s.length∧∀i x,i<j->s[i]?=some x->FZ c k s i x) (λj=>s.length-j) 0 (λs=>s) (wOL (λs=>s) wT wH rfl) (⟨aE _,λi s h=>absurd h (dG i)⟩) ?_;intro j hj;have hjB:j<=1000000:=by have:=hj.1;have:=(AU h1).2;have:=aF h3;omega
  refine zWB (okB (ltN _ _)) (λh4=>?_) (λh4=>?_)
  ·skip
   obtain⟨x,hx⟩:∃x,s[j]?=some x:=⟨_,aA (af0 h4)⟩;have hxo:=hso.2 x (aB hx);refine zX (wyL x) (.dp 3 0 (wyL x)) rfl (iH hx)<|zR<|zC (tN x.agY hxo.agY)<|zW _ (okB (neN _ _))<|zG rfl id<|zQ rfl hsT rfl (.inl rfl) (λhg=>VO c x.agY ck (oH (af0 h2)) (oH ((AU h1).1)) hxo.agY)<|zAS rfl hsT (okB (neN _ _))<|zN rfl (by simp)<|zB rfl (λh5=>?_) (λh5=>?_)
   ·exact fB rfl (yF (λq=>Uq h5 (((jX c k s).1 (((jL c).1 q).2 k s hs)).2 j x hx))).symm
   refine rV (vI (x.data.size:Int)) rfl<|zV (vB ((x.data.size:Int) != 0))<|gS rfl id<|gBS rfl id rfl<|gBS rfl id rfl<|zN rfl (λh=>h)<|zB rfl (λh6=>?_) (λh6=>?_)
   ·exact fB rfl (yF (λq=>Ur h6 (((jX c k s).1 (((jL c).1 q).2 k s hs)).2 j x hx))).symm
   refine zR<|zM (.sl 3 (List.drop 0 (List.take j (s.map wyL))) false) rfl (⟨iF _,aG _,by show(j:Int)<=(((s.map wyL).length:Nat):Int);rw[aH];have:=af0 h4;omega⟩)<|zC (by show bI C0 _ [.sl 3 (List.drop 0 (List.take j (s.map wyL))) false,_] _;rw[bS, <-eO];exact VP (s.take j) x.agY false (by rw[aM];omega) (λy hy=>hso.2 y (cQ hy)) hxo.agY)<|zB rfl (λh7=>?_) (λh7=>?_)
   ·exact fB rfl (yF (λq=>Us h7 (((jX c k s).1 (((jL c).1 q).2 k s hs)).2 j x hx))).symm
   skip
   have b1:j+1<=1000001:=aD hjB (aC 1);refine zW _ (okI (bH b1 rfl)) ?_;refine⟨j+1,λs=>s,wOL _ wT wH rfl,⟨af0 h4,Ut hx (Xt h5 h6 h7) hj.2⟩,oH (af0 h4)⟩
  have b2:k+1<=1000001:=aD hkB (aC 1);refine zW _ (okI (bH b2 rfl)) ?_;refine⟨k+1,λs=>s,wOL _ wT wH rfl,⟨af0 h2,OS hs ((jX c k s).2 ⟨oH (aF h3),λi y hy=>hj.2 i y (by have:=(Em.1 hy).1;have:=aF h4;omega) hy⟩) hk.2⟩,oH (af0 h2)⟩
 exact fB rfl ((jL c).2 ⟨AU h1,λi s hs=>hk.2 i s (by have:=(Em.1 hs).1;have:=aF h2;omega) hs⟩).symm
def SW:AV:=.sl 0 [] true
def oM(rs:Nat)(c:Bool):Sub (.sl 0 [] true) (.sl rs [] c):=λS w v h=>by
 cases h with
 |sl _ _ _ A c0 b o u hc hm hcl hrs hA hw h1 hr=>exact .sl rs [] c A c0 b o u hc hm (λ_=>hcl rfl) (λ_ h=>by cases h) (λh=>absurd h (iI 0)) (λi row j a h=>by simp at h) h1 λi row j a h=>by simp at h
theorem Sub.sl{rs}{rows rows'}{clip}(hl:rows.length=rows'.length)(hw:∀(i:Nat) row row',rows[i]?=some row->rows'[i]?=some row'->row.length=row'.length∧∀(j:Nat) a b,row[j]?=some a->row'[j]?=some b->Sub a b):Sub (.sl rs rows clip) (.sl rs rows' clip):=λS w v h=>by
 cases h with
 | sl _ _ _ A c b o u hc hm hcl hrs hA hv h1 hr=>
  rw[hl];have back:∀(i:Nat) row',rows'[i]?=some row'->∃row,rows[i]?=some row:=λi row' h=>⟨_,aA (by rw[hl];exact(Em.1 h).1)⟩;have back2:∀(i:Nat) row row' (j:Nat) b,rows[i]?=some row->rows'[i]?=some row'->row'[j]?=some b->∃a,row[j]?=some a:=λi row row' j b h h' hj=>⟨_,aA (by rw[(hw i row row' h h').1];exact(Em.1 hj).1)⟩;refine .sl rs rows' clip A c b o u (hl ▸ hc) hm (λe=>(hcl e).trans hl) (λrow' hr'=>?_) (λh0=>hA omT) (λi row' j a hi hj=>?_) h1 λi row' j a hi hj=>?_
  ·obtain⟨i,hi,rfl⟩:=fY hr';obtain⟨row,hrow⟩:=back i _ (aA hi);rw[<-(hw i row _ hrow (aA hi)).1];exact hrs row (aB hrow)
  ·obtain⟨row,hrow⟩:=back i row' hi;obtain⟨x,hx⟩:=back2 i row row' j a hrow hi hj;exact hv i row j x hrow hx
  ·obtain⟨row,hrow⟩:=back i row' hi;obtain⟨x,hx⟩:=back2 i row row' j a hrow hi hj;exact(hw i row row' hrow hi).2 j x a hx hj S w _ (hr i row j x hrow hx)
def ZK:List AV->List AV->Prop
 |[],[]=>True
 |a::xs,b::ys=>Sub a b∧ZK xs ys
 |_,_=>False
theorem ZK.get:∀{xs ys:List AV},ZK xs ys->xs.length=ys.length∧∀(i:Nat) a b,xs[i]?=some a->ys[i]?=some b->Sub a b
 |[],[],_=>⟨rfl,λi a b h=>by simp at h⟩
 |x::xs,y::ys,h=>by
  obtain⟨h1,h2⟩:=ZK.get h.2;refine⟨by simp[h1],λi a b ha hb=>?_⟩
  cases i with
  |zero=>simp at ha hb;subst ha;subst hb;exact h.1
  |succ i=>exact h2 i a b (sU ha) (sU hb)
 |[],_::_,h=>h.elim
 |_::_,[],h=>h.elim
theorem Sub.agg{xs ys}(h:ZK xs ys):Sub (.agg xs) (.agg ys):=λS w v hv=>by
 cases hv with
 |agg _ vs hl h1 hr=>
  refine .agg ys vs (h.get.1 ▸ hl) h1 λi b u p q=>?_;have hi:i<xs.length:=by rw[h.get.1];exact(Em.1 p).1
  exact h.get.2 i xs[i] b (aA hi) p S w u (hr i _ u (aA hi) q)
theorem Sub.tup{xs ys}(h:ZK xs ys):Sub (.tup xs) (.tup ys):=λS w v hv=>by
 cases hv with
 |tup _ vs hl hr=>
  refine .tup ys vs (h.get.1 ▸ hl) λi b u p q=>?_;have hi:i<xs.length:=by rw[h.get.1];exact(Em.1 p).1
  exact h.get.2 i xs[i] b (aA hi) p S w u (hr i _ u (aA hi) q)
theorem Sub.clip(rs)(rows)(c):Sub (.sl rs rows c) (.sl rs rows false):=λS w v h=>by
 cases h with
 |sl _ _ _ A c0 b o u hc hm hcl hrs hA hw h1 hr=>exact .sl rs rows false A c0 b o u hc hm (λh=>by cases h) hrs hA hw h1 hr
def Nk(n):Sub (.sl 1 (List.replicate n [SW]) false) (.sl 1 (List.replicate n (bX [])) false):=by
 refine Sub.sl (by simp) λi row row' h h'=>?_;have e1:=gK (aB h);have e2:=gK (aB h');subst e1;subst e2;refine⟨rfl,λj a b ha hb=>?_⟩
 cases j with
 |zero=>injection ha with ha;injection hb with hb;subst ha;subst hb;exact oM 3 false
 |succ j=>simp at ha
abbrev gsL(x:Gs):List AV:=[.v (.int .u32 (x.pc:Int)),.v (.int .u32 (x.next:Int))]
abbrev guL(g:Gu):List AV:=[.sl 2 (g.agP.map gsL) false,.v (.int .u32 (g.ag2:Int)),.sl 1 (g.rets.map dU) false]
def VN(agJ ways):bI C0 14 [vI agJ,vI ways] (.agg (caL (CZ agJ ways) false)):=by
 refine dIZ func14 rfl ?_;obtain⟨L,hLe,hL,hL1⟩:∃L:Nat,bV agJ 1 4=(L:Int)∧L<=4∧1<=L:=⟨(bV agJ 1 4).toNat,by unfold bV;(repeat' split)<;>omega,by unfold bV;(repeat' split)<;>omega,by unfold bV;(repeat' split)<;>omega⟩;refine rV (vI (if 1>agJ then 1 else agJ)) rfl<|zW _ (af2 (λz:Int=>Res.ok (.v (.int .i64 z))) hLe)<|zWB (okB (eqN _ _)) (λh1=>?_) (λh1=>?_)
 all_goals
  refine rV (vI (if 1>ways then 1 else ways)) rfl<|zW (vI (if 2<(if 1>ways then 1 else ways)then 2 else(if 1>ways then 1 else ways))) rfl ?_
  first
   |refine rFx rfl rfl (rfl) (⟨dT,dT,dT⟩)<|zW (.agg [vI (if 2<(if 1>ways then 1 else ways)then 2 else(if 1>ways then 1 else ways)),.osl 12 0 2 false]) rfl ?_;have e:(CZ agJ ways).agJ=List.replicate 2 []:=by show List.replicate (if bV agJ 1 4=3 then 2 else bV agJ 1 4).toNat []=_;rw[hLe];rw[af1 (by have:L=3:=(sU h1);omega)];rfl
    refine⟨_,rfl,⟨trivial,by show 0+2<=(List.replicate 2 [SW]).length;rw[cM];omega,trivial⟩,rfl,Sub.agg ⟨Sub.refl _,?_,trivial⟩⟩;show Sub (.sl 1 (List.take 2 (List.drop 0 (List.replicate 2 [SW]))) false) (.sl 1 ((CZ agJ ways).agJ.map bX) false)
   |refine rFx rfl rfl (rfl) (⟨aG _,iF _,by show(L:Int)<=1000000;have:=hL;omega⟩)<|zW (.agg [vI (if 2<(if 1>ways then 1 else ways)then 2 else(if 1>ways then 1 else ways)),.osl 11 0 L false]) rfl ?_;have e:(CZ agJ ways).agJ=List.replicate L []:=by show List.replicate (if bV agJ 1 4=3 then 2 else bV agJ 1 4).toNat []=_;rw[hLe];rw[dZ (by have: ¬L=3:=(sU h1);omega)];rfl
    refine⟨_,rfl,⟨trivial,by show 0+L<=(List.replicate L [SW]).length;rw[cM];omega,trivial⟩,rfl,Sub.agg ⟨Sub.refl _,?_,trivial⟩⟩;show Sub (.sl 1 (List.take L (List.drop 0 (List.replicate L [SW]))) false) (.sl 1 ((CZ agJ ways).agJ.map bX) false)
  rw[e,bS,aN (by rw[cM];exact aC _),fH]
  first|exact Nk 2|exact Nk L
def ZL:bI C0 16 [] (.agg (guL ZT)):=by
 refine dIZ func16 rfl ?_;refine rFx rfl rfl (rfl) (⟨dT,dT,dT⟩)<|zV _ ?_;refine⟨_,rfl,⟨by show 0+8<=_;decide,trivial,trivial,trivial⟩,rfl,Sub.agg ⟨Sub.refl _,Sub.refl _,oM 1 false,trivial⟩⟩
abbrev ftL(x:Ft):List AV:=[.v (.int .u32 (x.pc:Int)),.v (.int .u32 (x.agK:Int))]
abbrev ptL(x:Pt):List AV:=[.v (.int .u32 (x.agZ:Int)),.v (.string x.data)]
abbrev enL(e:Ent):List AV:=[.v (.int .i64 e.no),.v (.int .u32 (e.pc:Int)),.v (.int .i64 e.i.op),.v (.int .i64 e.i.rd),.v (.int .i64 e.i.ag0),.v (.int .i64 e.i.ag1),.v (.int .u32 (e.i.agR:Int)),.v (.int .u32 (e.agK:Int)),.v (.int .i64 e.is),.v (.int .i64 e.left),.v (.int .u32 (e.value:Int)),.v (.int .u32 (e.next:Int)),.v (.int .u32 (e.agZ:Int)),.v (.int .i64 e.halt),.v (.int .i64 e.agV),.v (.bool e.known),.v (.bool e.agU)]
abbrev coL(c:Co):List AV:=[.v (.int .i64 c.agL.mode),.v (.int .i64 c.agL.agN),.v (.int .i64 c.agL.agI),.v (.int .i64 c.agL.queue),.v (.int .i64 c.agL.agF),.v (.int .i64 c.agL.agP),.v (.int .i64 c.agL.agJ),.v (.int .i64 c.agL.ways),.sl 1 (c.agL.agW.map ae4) false,.v (.bool c.agL.tables),.sl 1 (c.agL.tape.map dU) false,.sl 1 (c.prog.map dU) false,.v (.int .i64 c.cycle),.v (.int .u32 (c.r 0:Int)),.v (.int .u32 (c.r 1:Int)),.v (.int .u32 (c.r 2:Int)),.v (.int .u32 (c.r 3:Int)),.v (.int .u32 (c.r 4:Int)),.v (.int .u32 (c.r 5:Int)),.v (.int .u32 (c.r 6:Int)),.v (.int .u32 (c.r 7:Int)),.v (.int .u32 (c.r 8:Int)),.v (.int .u32 (c.r 9:Int)),.v (.int .u32 (c.r 10:Int)),.v (.int .u32 (c.r 11:Int)),.v (.int .u32 (c.r 12:Int)),.v (.int .u32 (c.r 13:Int)),.v (.int .u32 (c.r 14:Int)),.v (.int .u32 (c.r 15:Int)),.v (.int .u32 (c.r 16:Int)),.v (.int .u32 (c.r 17:Int)),.v (.int .u32 (c.r 18:Int)),.v (.int .u32 (c.r 19:Int)),.v (.int .u32 (c.r 20:Int)),.v (.int .u32 (c.r 21:Int)),.v (.int .u32 (c.r 22:Int)),.v (.int .u32 (c.r 23:Int)),.v (.int .u32 (c.r 24:Int)),.v (.int .u32 (c.r 25:Int)),.v (.int .u32 (c.r 26:Int)),.v (.int .u32 (c.r 27:Int)),.v (.int .u32 (c.r 28:Int)),.v (.int .u32 (c.r 29:Int)),.v (.int .u32 (c.r 30:Int)),.v (.int .u32 (c.r 31:Int)),.v (.int .u32 (c.agM:Int)),.v (.bool c.stop),.sl 2 (c.agH.map ftL) false,.sl 17 (c.agI.map enL) false,.v (.int .i64 c.next),.sl 2 (c.agF.map ptL) false,.v (.int .i64 c.data.ways),.sl 1 (c.data.agJ.map bX) false,.v (.int .i64 c.agO.ways),.sl 1 (c.agO.agJ.map bX) false,.sl 4 (c.agS.map rqL) false,.v (.int .i64 c.asked),.v (.int .i64 c.agT),.v (.string c.mem),.sl 2 (c.agK.agP.map gsL) false,.v (.int .u32 (c.agK.ag2:Int)),.sl 1 (c.agK.rets.map dU) false,.v (.int .i64 c.halt),.sl 9 (c.agG.map spL) false]
theorem bI.sub{C}{f}{args}{r r'}(h:bI C f args r)(k:Sub r r'):bI C f args r':=⟨h.1,λS w vs a b c=>(h.2 S w vs a b c).mono λe w' ⟨v,p,q,s⟩=>⟨v,p,q,k _ _ _ s⟩⟩
def Rj(k):bI C0 13 [.v (.slice none 0 k)] (.sl 0 [] true):=by
 refine dIZ func13 rfl<|rV _ rfl<|qRF 1 rfl ?_;exact fT rfl rfl
def FY{P}{w}(t ty e)(i)(ht:P.underlying t=some (.slice e))(hi:P.info? e=some i)(A0)(c0)(a)(k):
  (Builtin.append_ #[t,t] ty #[.slice A0 0 c0,.slice (some a) 0 k]).run P w=.ok (.slice A0 0 c0) w:=by
 have hl:(loadCells a 0).run P w=.ok #[] w:=rfl;cases A0<;>simp[Builtin.append_,run_underlying ht,sizeOf,typeInfo,hi,Builtin.lenOf,Builtin.firstCells,storeCells,hl]
def yE{P}{w}{ops}{rest}{o}{a}{Q}(hgd:o.guard=none)(s x)(t)
  (ho:o.op=.call {callee:=.builtin .append,args:= #[s,x],argTypes:= #[t,t]}) (e) (i) (ht:P.underlying t=some (.slice e)) (hi:P.info? e=some i)
  (A0) (c0) (b) (k) (hs:a.eval s=.slice A0 0 c0) (hx:a.eval x=.slice (some b) 0 k)
  (h:wpList P ops Q rest (a.put o.dst (.slice A0 0 c0)) w):wpList P ops Q (o::rest) a w:=by
 refine wpList_plain hgd λK hK=>?_;have hrun:=FY (w:=w) t o.type e i ht hi A0 c0 b k;unfold Oper.wp;simp[execOp,ho,resolve,invoke,builtin,hs,hx,hrun,Result.andThen];exact hK _ _ h
def ZM(a)(k)(w):Calls Tryz.prog 13 #[.slice (some a) 0 k] w λe w'=>∃v,e=.returned v∧Below w.heap.size w w'∧∃A c,v=.slice A 0 c∧c<=maxLen:=by
 obtain⟨i0,z0,hi, -⟩:=(c0Ok.ty 28 _ rfl).info
 go_enter func13,ntmps13
 have hb:Sem.run Tryz.prog (binOp .eql 23 (.slice (some a) 0 k) (.slice none 0 0)) w=.ok (.bool false) w:=by
  have e1:(Op.equal 23 (.slice (some a) 0 k) (.slice none 0 0)).run Tryz.prog w=.ok (some a).isNone w:=Bx Tryz.prog w 9999 _ 28 (c0Ok.ty 23 _ rfl).kd _ _ _;simp only[binOp,Sem.run_bind,e1,Result.andThen_ok];rfl
 go_wp2_with (first|(rw[hb];simp only[Result.andThen_ok,Oper.upon])|(at_builtin;refine yE rfl (.tmp 5) (.tmp 6) 23 rfl 28 i0 (c0Ok.ty 23 _ rfl).kd hi _ _ _ _ rfl rfl ?_))
 go_ret
 exact⟨_,rfl,(Below.refl _ _).alloc (aC _) _,_,_,rfl,aE _⟩
def Xs(x)(xs)(ck)(hl:(x::xs).length<=1000000):bI C0 13 [.sl 1 (x::xs) ck] (.sl 1 (x::xs) false):=by
 refine dIZ func13 rfl<|rV _ rfl<|qR 1 rfl<|zV (.sl 1 ([]) true)<|zF (rfl) (⟨by first|(exact Nat.succ_pos _)|(simp only[cX,bJ];exact hl),by first|(exact Nat.succ_pos _)|(simp only[cX,bJ];exact hl),trivial,trivial⟩) ?_;refine⟨_,rfl,(by show 0+(0+(x::xs).length)<=(x::xs).length;omega),rfl,?_⟩;show Sub (.sl 1 (List.take (0+(x::xs).length) (List.drop 0 ([]++(x::xs)))) false) _;rw[bS,iA,bJ,aN (aC _)];exact Sub.refl _
def ZN(rows)(ck)(hl:rows.length<=1000000):bI C0 13 [.sl 1 rows ck] (.sl 1 rows false):=by
 match rows,hl with
 |x::xs,hl=>exact Xs x xs ck hl
 | [],_=>
  refine⟨(Rj 0).1,λS w vs hS hG hr=>?_⟩
  match vs,hr with
  |[],hr=>simp[RepL]at hr
  |_::_::_,hr=>simp[RepL]at hr
  | [v],hr=>
   have h0:=hr.2 0 _ v rfl rfl
   cases h0 with
   | sl _ _ _ A c b o u hc hm hcl hrs hA hw h1 h'=>
    cases A with
    |none=>exact((Rj c).sub (oM 1 false)).2 S w _ hS hG (RepL.cons (.v _) (RepL.nil _ _ _))
    |some a=>
     exact(ZM a c w).mono λe w' ⟨v,h1,h2,A,c',h3,h4⟩=>⟨v,h1,h2,h3 ▸ .sl 1 [] false A c' 0 0 (λ_ _=>.bool false) (aE _) h4 (λh=>by cases h) (λ_ h=>by cases h) (λh=>absurd h (iI 0)) (λi row j a h=>by simp at h) (λ_ _=>rfl) λi row j a h=>by simp at h⟩
def fX(c:Cf)(prog:List Nat)(m:ByteArray):Co:=
 {agL:=bZ c,prog:=prog.take (min prog.length 64),cycle:=0,r:=λ_=>0,agM:=0,stop:=false,agH:=[],agI:=[],next:=1,agF:=[],data:=CZ (bZ c).agJ (bZ c).ways,agO:=CZ (bZ c).agJ (bZ c).ways,agS:=[],asked:=0,agT:=0,mem:=jB m,agK:=ZT,halt:=0,agG:=[]}
def ZO(c)(prog)(m)(hok:c.ok)(hl:prog.length<=1000000):bI C0 5 [.agg (cfL c false false),.sl 1 (prog.map dU) false,.v (.string m)] (.agg (coL (fX c prog m))):=by
 refine dIZ func5 rfl<|zC (Eb c false false hok)<|zR<|zW _ (cD dU prog)<|zW _ (Bo prog.length 64)<|zM _ rfl (⟨iF _,by show(0:Int)<=((min prog.length 64:Nat):Int);omega,by show((min prog.length 64:Nat):Int)<=(((prog.map dU).length:Nat):Int);rw[aH];omega⟩)<|zC (ZN (List.drop 0 (List.take (min prog.length 64) (prog.map dU))) _ (by rw[bD,aM,aH];omega))<|zC (VN (bZ c).agJ (bZ c).ways)<|zC (VN (bZ c).agJ (bZ c).ways)<|zC (KF m)<|zC (ZL)<|zV _ ?_;exact⟨_,rfl,tvT,rfl,Sub.agg ⟨Sub.refl _,Sub.refl _,Sub.refl _,Sub.refl _,Sub.refl _,Sub.refl _,Sub.refl _,Sub.refl _,Sub.refl _,Sub.refl _,Sub.refl _,(by show Sub (.sl 1 (List.drop 0 (List.take (min prog.length 64) (prog.map dU))) false) (.sl 1 ((prog.take (min prog.length 64)).map dU) false);rw[bS, <-eO];exact Sub.refl _),Sub.refl _,Sub.refl _,Sub.refl _,Sub.refl _,Sub.refl _,Sub.refl _,Sub.refl _,Sub.refl _,Sub.refl _,Sub.refl _,Sub.refl _,Sub.refl _,Sub.refl _,Sub.refl _,Sub.refl _,Sub.refl _,Sub.refl _,Sub.refl _,Sub.refl _,Sub.refl _,Sub.refl _,Sub.refl _,Sub.refl _,Sub.refl _,Sub.refl _,Sub.refl _,Sub.refl _,Sub.refl _,Sub.refl _,Sub.refl _,Sub.refl _,Sub.refl _,Sub.refl _,Sub.refl _,Sub.refl _,oM 2 false,oM 17 false,Sub.refl _,oM 2 false,Sub.refl _,Sub.refl _,Sub.refl _,Sub.refl _,oM 4 false,Sub.refl _,Sub.refl _,Sub.refl _,Sub.refl _,Sub.refl _,Sub.refl _,Sub.refl _,oM 9 false,trivial⟩⟩
def NF(l:List Nat)(k):(l.take k).sum<=l.sum:=by
 have:=af2 List.sum (afF k l);rw[List.sum_append]at this;omega
noncomputable def CIR:Ctx:={P:=Tryz.prog,ty:=tys.find,G:=λ_=>none,H:=pM Tryz.prog (λ_=>none)}
def cirOk:CtxOk CIR:=⟨TT.find_ok tys ZX,by kernel_rfl,λ_ _ _ _ _ h=>h⟩
def YK(p:Nat×Nat):List AV:=[vN p.1,vN p.2]
def abU(f:Nat):Nat:=if 2<=f∧f<=7 then 2 else 0
def XJ(op:Int):bI CIR 147 [vI op] (vN (cW op)):=.of_flat func147 rfl rfl rfl rfl λw=>(Cb op w).mono λ_ _ ⟨a,b⟩=>⟨a,b ▸ rD _⟩
def aaB(f:Nat)(hf:f<=8):bI CIR 146 [vN f] (.tup [vB (yW f),vB (uS f),vB (vS f)]):=.of_tup func146 rfl rfl rfl rfl λw=>(LB f hf w).mono λ_ _ ⟨a,b⟩=>⟨a,b ▸ rD _⟩
def Ef(x a n:Nat)(h1:1<=n)(h2:a+n<=32)(hx:x<4294967296):bI CIR 183 [vU x,vN a,vN n] (vU (field x a n)):=.of_flat func183 rfl rfl rfl rfl λw=>Qd x a n w h1 h2 hx
def aaC(x a n v:Nat)(h1:1<=n)(h2:a+n<=32)(hx:x<4294967296)(hv:v<4294967296):bI CIR 168 [vU x,vN a,vN n,vU v] (vU (setf x a n v)):=.of_flat func168 rfl rfl rfl rfl λw=>Qe x a n v w h1 h2 hx hv
def XK(x n:Nat)(h1:1<=n)(h2:n<=32)(hx:x<4294967296):bI CIR 149 [vU x,vN n] (vU (sext x n)):=.of_flat func149 rfl rfl rfl rfl λw=>Ic x n w h1 h2 hx
def UM:bI CIR 149 [vU 0,vN 0] (vU 0):=.of_flat func149 rfl rfl rfl rfl λw=>PZ w
def aaD(f)(hf:f<=8):bI CIR 166 [vN f] (.tup [.sl (abU f) ((eQ f).map YK) true,vN (qN f)]):=by
 refine bI.intro cirOk func166 rfl rfl (by kernel_rfl) rfl<|qS 0 rfl<|zWB (okB (eqN _ _)) (λh1=>?_) (λh1=>?_)
 ·refine rV (.agg [vI 20,vI 12]) rfl<|zV (.sl 2 ([[vI 20,vI 12]]) true) ?_;obtain rfl:f=2:=by have z:=h1;simp at z;omega
  exact dK rfl rcT rfl rfl
 refine zWB (okB (eqN _ _)) (λh2=>?_) (λh2=>?_)
 ·refine rV (.agg [vI 20,vI 5]) rfl<|zV (.sl 2 ([[vI 20,vI 5]]) true) ?_;obtain rfl:f=3:=by have z:=h2;simp at z;omega
  exact dK rfl rcT rfl rfl
 refine zWB (okB (eqN _ _)) (λh3=>?_) (λh3=>?_)
 ·refine rV (.agg [vI 7,vI 5]) rfl<|rV (.agg [vI 25,vI 7]) rfl<|zV (.sl 2 ([[vI 7,vI 5],[vI 25,vI 7]]) true) ?_;obtain rfl:f=4:=by have z:=h3;simp at z;omega
  exact dK rfl rcT rfl rfl
 refine zWB (okB (eqN _ _)) (λh4=>?_) (λh4=>?_)
 ·refine rV (.agg [vI 8,vI 4]) rfl<|rV _ rfl<|rV _ rfl<|rV _ rfl<|zV (.sl 2 ([[vI 8,vI 4],[vI 25,vI 6],[vI 7,vI 1],[vI 31,vI 1]]) true) ?_;obtain rfl:f=5:=by have z:=h4;simp at z;omega
  exact dK rfl rcT rfl rfl
 refine zWB (okB (eqN _ _)) (λh5=>?_) (λh5=>?_)
 ·refine rV _ rfl<|zV (.sl 2 ([[vI 12,vI 20]]) true) ?_;obtain rfl:f=6:=by have z:=h5;simp at z;omega
  exact dK rfl rcT rfl rfl
 refine zWB (okB (eqN _ _)) (λh6=>?_) (λh6=>?_)
 ·refine rV _ rfl<|rV _ rfl<|rV _ rfl<|rV _ rfl<|zV _ ?_;obtain rfl:f=7:=by have z:=h6;simp at z;omega
  exact dK rfl rcT rfl rfl
 have hz:f=0∨f=1∨f=8:=by simp at h1 h2 h3 h4 h5 h6;omega
 rcases hz with rfl|rfl|rfl<;>exact dK rfl rcT rfl rfl
def aaE(x rs)(ps)(ck)(hx:x<4294967296)(hrs:ps≠[]->rs=2)(hok:LA ps)(hl:ps.length<=100):bI CIR 184 [vU x,.sl rs (ps.map YK) ck] (.tup [vU (rZ x ps).1,vN (rZ x ps).2]):=by
 refine bI.intro cirOk func184 rfl rfl (by kernel_rfl) rfl<|qS 0 rfl<|zW _ (cD YK ps)<|zLo (λk=>⟨slotsF [(0,vU x),(10,.sl rs (ps.map YK) ck),(11,vN ps.length),(12,vN k),(6,vU (((ps.take k).foldl (Ag x) (0,0)).1)),(7,vN (((ps.take k).foldl (Ag x) (0,0)).2))],heapF [],7⟩) (λk=>k<=ps.length) (λk=>ps.length-k) 0 (λs=>s) (wOL (λs=>s) wT trivial rfl) (aE _) ?_;intro k hk;have hkB:k<=100:=oT;have hsk:xH (ps.take k)<=32:=aL (by unfold xH;rw[eO];exact NF _ _) hok.2;have hi:=CR x (ps.take k) (0,0) (by show 0<4294967296;omega) (λp hp=>hok.1 p (cQ hp)) omT;have hu:((ps.take k).foldl (Ag x) (0,0)).1<=4294967295:=oT;have hv2:((ps.take k).foldl (Ag x) (0,0)).2=xH (ps.take k):=hi.2.trans (bJ _);have hv:((ps.take k).foldl (Ag x) (0,0)).2<=32:=oT;refine zWB (okB (ltN _ _)) (λh1=>?_) (λh1=>?_)
 ·skip
  obtain⟨p,hp⟩:∃p,ps[k]?=some p:=⟨_,aA (af0 h1)⟩;obtain rfl:=hrs (λz=>by subst z;cases hp);obtain⟨p1,p2⟩:=hok.1 p (aB hp);have hp1:p.1<=32:=oT;have hp2:p.2<=32:=oT;have hsz:xH (ps.take (k+1))<=32:=aL (by unfold xH;rw[eO];exact NF _ _) hok.2;have hs2:xH (ps.take (k+1))=xH (ps.take k)+p.2:=by rw[bW,hp];simp[xH]
  have hfl:field x p.1 p.2<4294967296:=af3 (iR _ _ _) (wV omT);refine zX (YK p) (.dp 2 0 (YK p)) rfl (iH hp)<|zR<|zC (Ef x p.1 p.2 p1 p2 hx)<|zC (aaC ((ps.take k).foldl (Ag x) (0,0)).1 ((ps.take k).foldl (Ag x) (0,0)).2 p.2 (field x p.1 p.2) p1 omT omT hfl) ?_;have b1:(((ps.take k).foldl (Ag x) (0,0)).2)+p.2<=64:=aD hv hp2;refine zW _ (okI (bH b1 rfl)) ?_;have b2:k+1<=101:=aD hkB (aC 1);refine zW _ (okI (bH b2 rfl)) ?_;refine⟨k+1,λs=>s,wOL (λs=>s) ⟨⟨rfl,rfl⟩,⟨rfl,rfl⟩,⟨rfl,rfl⟩,⟨rfl,rfl⟩,⟨(af2 (λz:Nat×Nat=>AV.v (.int .u32 (z.1:Int))) (EI (Ag x) (0,0) ps k p hp).symm),rfl⟩,⟨(af2 (λz:Nat×Nat=>AV.v (.int .i64 (z.2:Int))) (EI (Ag x) (0,0) ps k p hp).symm),rfl⟩,trivial⟩ trivial rfl,af0 h1,oH (af0 h1)⟩
 have hke:=aF h1;exact dK rfl rcT rfl (by rw[aN (oT:ps.length<=k)];rfl)
def acN{x c:Nat}(h:c<=32):IntKind.wrap .u32 ((x:Int)*2 ^ (min (Int.toNat (c:Int)) (IntKind.bits .u32)))=((x*2 ^ c%4294967296:Nat):Int):=by
 rw[Int.toNat_natCast,show min c (IntKind.bits .u32)=c from kD h];have e:((x*2 ^ c%4294967296:Nat):Int)=((x*2 ^ c:Nat):Int)%((4294967296:Nat):Int):=Int.natCast_emod _ _;rw[e,Int.natCast_mul,Int.natCast_pow];rfl
def aaF(f):qN f<=12:=by unfold qN;split<;>decide
def UN(f x)(hf1:1<=f)(hf:f<=8)(h3:(f != 3)=true):bI CIR 149 [vU ((rZ x (eQ f)).1*2 ^ qN f%4294967296),vN ((rZ x (eQ f)).2+qN f)] (vU (EG f x)):=by
 have h3:f≠3:=sU h3;rw[(BA x f).1];unfold EG;rw[dZ h3];by_cases h:f=1∨f=8
 ·rw[af1 h];rcases h with rfl|rfl<;>exact UM
 rw[dZ h];have hs:1<=xH (eQ f)+qN f∧xH (eQ f)+qN f<=32:=by
  have:f=2∨f=4∨f=5∨f=6∨f=7:=oT;rcases this with rfl|rfl|rfl|rfl|rfl<;>decide
 exact XK _ _ hs.1 hs.2 omT
def XL(op)(x f)(hfo:cW op=f)(hf1:1<=f)(hf:f<=8)(hx:x<4294967296):bI CIR 165 [vI op,vU x] (.agg [vI op,vN (cond (yW f) (field x 7 5) 0),vN (cond (uS f) (field x 15 5) 0),vN (cond (vS f) (field x 20 5) 0),vU (EG f x)]):=by
 refine bI.intro cirOk func165 rfl rfl (by kernel_rfl) rfl ?_;have hfrd:field x 7 5<=31:=aI (iR x 7 5);have hfrs1:field x 15 5<=31:=aI (iR x 15 5);have hfrs2:field x 20 5<=31:=aI (iR x 20 5);have hZ:(rZ x (eQ f)).2<=32:=by rw[(BA x f).1];exact(vF f).2
 have hpl:(eQ f).length<=100:=by unfold eQ;split<;>decide
 have hne:eQ f≠[]->abU f=2:=by unfold eQ abU;intro h;split at h<;>first|rfl|exact absurd rfl h
 refine qS 0 rfl<|zC (hfo ▸ XJ op)<|zV (.agg [vI op,vI 0,vI 0,vI 0,.v (.int .u32 0)])<|rCi rfl (aaB f hf)<|qRJ 0 0 rfl<|Fq (κ:=Unit) (λu_=>⟨slotsF [(1,vU x),(4,.ptr 0 0),(5,vN f),(6,.ptr 6 0),(8,vB (uS f)),(9,vB (vS f))],heapF [(0,.box [vI 0,vI 0,vI 0,vI 0,.v (.int .u32 0)]),(6,.box [vI op,vN (cond (yW f) (field x 7 5) 0),vI 0,vI 0,.v (.int .u32 0)])],17⟩) (λu_=>True) ?_ ?_
 ·skip;refine qSC 0 rfl<|zB rfl (λh1=>?_) (λh1=>?_)
  all_goals
   first|refine rCi rfl (Ef x 7 5 dT dT hx)<|zW _ (okI (bH hfrd rfl)) ?_|skip
   refine .mk _ (.refl _) ⟨(),λs=>s,wOL (λs=>s) wT ⟨⟨rfl,rfl,rfl⟩,⟨rfl,(by rw[h1];rfl),rfl⟩,trivial⟩ rfl,rfl,trivial⟩
 intro u_ _;refine Fq (κ:=Unit) (λu_=>⟨slotsF [(1,vU x),(4,.ptr 0 0),(5,vN f),(6,.ptr 6 0),(9,vB (vS f))],heapF [(0,.box [vI 0,vI 0,vI 0,vI 0,.v (.int .u32 0)]),(6,.box [vI op,vN (cond (yW f) (field x 7 5) 0),vN (cond (uS f) (field x 15 5) 0),vI 0,.v (.int .u32 0)])],17⟩) (λu_=>True) ?_ ?_
 ·skip;refine qSC 0 rfl<|zB rfl (λh2=>?_) (λh2=>?_)
  all_goals
   first|refine rCi rfl (Ef x 15 5 dT dT hx)<|zW _ (okI (bH hfrs1 rfl)) ?_|skip
   refine .mk _ (.refl _) ⟨(),λs=>s,wOL (λs=>s) wT ⟨⟨rfl,rfl,rfl⟩,⟨rfl,(by rw[h2];rfl),rfl⟩,trivial⟩ rfl,rfl,trivial⟩
 intro u_ _;refine Fq (κ:=Unit) (λu_=>⟨slotsF [(1,vU x),(4,.ptr 0 0),(5,vN f),(6,.ptr 6 0)],heapF [(0,.box [vI 0,vI 0,vI 0,vI 0,.v (.int .u32 0)]),(6,.box [vI op,vN (cond (yW f) (field x 7 5) 0),vN (cond (uS f) (field x 15 5) 0),vN (cond (vS f) (field x 20 5) 0),.v (.int .u32 0)])],17⟩) (λu_=>True) ?_ ?_
 ·skip;refine qSC 0 rfl<|zB rfl (λh3=>?_) (λh3=>?_)
  all_goals
   first|refine rCi rfl (Ef x 20 5 dT dT hx)<|zW _ (okI (bH hfrs2 rfl)) ?_|skip
   refine .mk _ (.refl _) ⟨(),λs=>s,wOL (λs=>s) wT ⟨⟨rfl,rfl,rfl⟩,⟨rfl,(by rw[h3];rfl),rfl⟩,trivial⟩ rfl,rfl,trivial⟩
 intro u_ _;refine qC 0 rfl<|zC (aaD f hf)<|zC (aaE x (abU f) (eQ f) true hx hne (vF f) hpl)<|nW _ rfl (al8 (acN (aL (aaF f) dT))) (aG _)<|qRJ 0 0 rfl<|Fq (κ:=Unit) (λu_=>⟨slotsF [(4,.ptr 0 0),(6,.ptr 6 0)],heapF [(0,.box [vI 0,vI 0,vI 0,vI 0,.v (.int .u32 0)]),(6,.box [vI op,vN (cond (yW f) (field x 7 5) 0),vN (cond (uS f) (field x 15 5) 0),vN (cond (vS f) (field x 20 5) 0),vU (EG f x)])],37⟩) (λu_=>True) ?_ ?_
 ·refine qS 0 rfl<|zWB (okB (neN _ _)) (λh4=>?_) (λh4=>?_)
  ·skip;have b1:((rZ x (eQ f)).2)+(qN f)<=44:=aD hZ (aaF f);refine rW _ rfl (okI (bH b1 rfl))<|zC (UN f x hf1 hf h4)<|.mk _ (.refl _) ⟨(),λs=>s,wOL (λs=>s) wT wH rfl,rfl,trivial⟩
  skip;refine .mk _ (.refl _) ⟨(),λs=>s,wOL (λs=>s) wT ⟨⟨rfl,rfl,rfl⟩,⟨rfl,(by rw[(sU h4:f=3)];rfl),rfl⟩,trivial⟩ rfl,rfl,trivial⟩
 intro u_ _;refine qCF 0 rfl ?_;exact dK rfl rcT rfl rfl
def Df:PY:=λop x w hop hx=>by
 have h2:cW op≠0:=by unfold cW;repeat' (split<;>try omega)
 have h:=bI.flat (XL op x (cW op) rfl (eU h2) (sB op) hx) (λ_ _ _ _ h=>by cases h) rfl rfl w;refine h.mono λe w' ⟨he,hB⟩=>⟨he.trans ?_,hB⟩;unfold SI.val xW;cases yW _<;>cases uS _<;>cases vS _<;>rfl
def IV(x:Nat)(hx:x<4294967296):bI C0 125 [.v (.int .u32 (x:Int))] (.tup [siA (decN x),.v (.int .i64 ((decE x:Nat):Int))]):=
 .of_tupG func125 rfl rfl rfl rfl λS w hG=>Oz Df x w (Db hG) hx
def isK(e:Ent)(k:Nat):Bool:=decide (kindOf e.i.op=k)
def uE(e:Ent)(a b:Nat):Nat:=if wr e.i=0 then 0 else BF e.i.op e.i.agR e.pc a b
def rJ(e:Ent)(a b:Nat):Ent:=
 if e.is≠0∨kindOf e.i.op=3∨kindOf e.i.op=4 then e
 else if kindOf e.i.op=1 then {e with is:=1,value:=uE e a b,next:=up4 e.pc,left:=3}
 else if kindOf e.i.op=2 then {e with is:=1,value:=uE e a b,next:=up4 e.pc,agV:=tookP e.i.op a b,left:=tookP e.i.op a b}
 else if kindOf e.i.op=5 then
  if qP e.i.op e.i.agR e.pc a b%4=0 then {e with is:=1,value:=uE e a b,next:=qP e.i.op e.i.agR e.pc a b,left:=1}
  else {e with is:=1,value:=0,next:=up4 e.pc,left:=1,halt:=3}
 else {e with is:=1,value:=uE e a b,next:=up4 e.pc,left:=1}
def goE(e:Ent):Ent:=
 if e.is≠1 then e
 else if wrap64 (e.left-1)<=0 then {e with left:=0,is:=3,known:=if kindOf e.i.op=5∧e.halt=0 then true else e.known}
 else {e with left:=wrap64 (e.left-1)}
def yC(e:Ent)(size:Int)(a:Nat):Ent:=
 if(kindOf e.i.op≠3∧kindOf e.i.op≠4)∨e.is≠0∨e.known=true then e
 else if kZ size ((a+e.i.agR)%4294967296) (sizeOf' e.i.op)=true then {e with agZ:=(a+e.i.agR)%4294967296,known:=true}
 else {e with agZ:=(a+e.i.agR)%4294967296,halt:=if kindOf e.i.op=4 then 5 else 4,is:=3}
def uM(e:Ent)(s:ByteArray):Ent:=
 if kindOf e.i.op≠3∨e.known=false∨(e.is≠0∧e.is≠2)then e
 else {e with is:=1,left:=1,value:=if wr e.i=0 then 0 else loadP e.i.op s}
def uF(e:Ent)(b:Nat):Ent:=
 if kindOf e.i.op≠4∨e.known=false∨e.is≠0 then e else {e with is:=3,value:=valB b (sizeOf' e.i.op)}
def cA(e:Ent):Sp:=
 if e.halt≠0 then⟨e.pc,e.pc,0,0,if e.halt=4∨e.halt=5 then e.agZ else 0,0,false,e.halt,0⟩
 else if kindOf e.i.op=4 then⟨e.pc,up4 e.pc,wr e.i,e.value,e.agZ,(sizeOf' e.i.op:Nat),true,0,0⟩
 else if kindOf e.i.op=3 then⟨e.pc,up4 e.pc,wr e.i,if wr e.i≠0 then e.value else 0,e.agZ,(sizeOf' e.i.op:Nat),false,0,0⟩
 else if kindOf e.i.op=2 then⟨e.pc,up4 e.pc,wr e.i,if wr e.i≠0 then e.value else 0,0,0,false,0,e.agV⟩
 else if kindOf e.i.op=5 then⟨e.pc,e.next,wr e.i,if wr e.i≠0 then e.value else 0,0,0,false,0,0⟩
 else⟨e.pc,up4 e.pc,wr e.i,if wr e.i≠0 then e.value else 0,0,0,false,0,0⟩
def DM(o:Option Nat):Int:=match o with|some k=>k|none=> -1
def Nj(e:Ent):Bool:=decide (kindOf e.i.op=5)&&e.known&&decide (e.next≠e.agK)
def yD(agI:List Ent):Option Nat:=agI.findIdx? Nj
def DY(agI:List Ent)(i:Nat):List Ent:=match agI[i]? with|some e=>agI.take i++[{e with agK:=e.next}]|none=>agI
def Xq(i:SI):Bool:=decide (1<=i.op)&&decide (i.op<=48)&&decide ((xW i.op (Jw i)).op=i.op)&&decide ((xW i.op (Jw i)).rd=i.rd)&&decide ((xW i.op (Jw i)).ag0=i.ag0)&&decide ((xW i.op (Jw i)).ag1=i.ag1)&&decide ((xW i.op (Jw i)).agR=i.agR)
def xJ(e:Ent):Bool:=
 if e.is<0∨e.is>3 then false
 else if(e.is=1∧e.left<=0)∨(e.is≠1∧e.left≠0)then false
 else if e.is=2∧(kindOf e.i.op≠3∨e.known=false)then false
 else if e.halt≠0∧e.is≠3∧ ¬(e.is=1∧kindOf e.i.op=5∧e.halt=3)then false
 else if Xq e.i=true then true else decide (e.halt=1)||decide (e.halt=2)
def ZI(agI:List Ent)(i:Nat):Int:=match agI[i]? with|some e=>e.no|none=>0
def IB(agI:List Ent)(i:Nat):Bool:=match agI[i]? with|some e=>(i==0||decide (ZI agI (i-1)<e.no))&&xJ e|none=>true
def Ff(agI:List Ent):Bool:=decide (agI.length<=8)&&(List.range agI.length).all (IB agI)
def qB(no:Int)(f:Ft)(prog:List Nat):Ent:=
 if(fetchP prog f.pc).isSome=false then {Cs with no:=no,pc:=f.pc,agK:=f.agK,halt:=1,is:=3}
 else if opOf (fetchW prog f.pc)=0 then {Cs with no:=no,pc:=f.pc,agK:=f.agK,halt:=2,is:=3}
 else if(decN (fetchW prog f.pc)).op=47 then {Cs with no:=no,pc:=f.pc,agK:=f.agK,i:=decN (fetchW prog f.pc),halt:=6,is:=3}
 else if(decN (fetchW prog f.pc)).op=48 then {Cs with no:=no,pc:=f.pc,agK:=f.agK,i:=decN (fetchW prog f.pc),halt:=7,is:=3}
 else {Cs with no:=no,pc:=f.pc,agK:=f.agK,i:=decN (fetchW prog f.pc)}
def LS(agI:List Ent)(reg:Int)(k:Nat):Bool:=match agI[k]? with|some e=>decide (wr e.i=reg)|none=>false
def makerTo(agI:List Ent)(reg:Int):Nat->Option Nat
 |0=>none
 |n+1=>if LS agI reg n=true then some n else makerTo agI reg n
def gX(agI:List Ent)(i:Nat)(reg:Int):Option Nat:=if reg<1∨reg>31 then none else makerTo agI reg (min i agI.length)
def lK(agI:List Ent)(r:Nat->Nat)(i:Nat)(reg:Int):Option Nat:=
 if reg=0 then some 0
 else if reg<0∨reg>31 then none
 else match gX agI i reg with
  |none=>some (r reg.toNat)
  |some k=>match agI[k]? with
   |some e=>if e.is=3∧e.halt=0 then some e.value else none
   |none=>none
def mI(agI:List Ent)(r:Nat->Nat)(i:Nat):Nat×Nat×Bool:=
 match agI[i]? with
 |some e=>((lK agI r i e.i.ag0).getD 0,(lK agI r i e.i.ag1).getD 0,(lK agI r i e.i.ag0).isSome&&(lK agI r i e.i.ag1).isSome)
 |none=>(0,0,false)
def LT(e:Ent):Bool:=if e.halt≠0 then false else if kindOf e.i.op=6 then false else if kindOf e.i.op=3∨kindOf e.i.op=4∨kindOf e.i.op=5 then e.known else true
def Cq(agI:List Ent):Nat:=agI.findIdx λe=> !LT e
def vC(agI:List Ent)(i:Nat):Bool:=decide (i<=agI.length)&&decide (i<=Cq agI)
def sZ(roots:List Int)(k:Option Nat):Int:=match k with|some k=>roots.getD k (-1)|none=> -1
def DB(agI:List Ent)(roots:List Int)(k:Nat):Int:=
 match agI[k]? with
 |some e=>if kindOf e.i.op≠3 then max (sZ roots (gX agI k e.i.ag0)) (sZ roots (gX agI k e.i.ag1))else if k>Cq agI then k else -1
 |none=> -1
def eS(agI:List Ent):Nat->List Int
 |0=>[]
 |k+1=>eS agI k++[DB agI (eS agI k) k]
def afS(agI:List Ent):List Int:=eS agI agI.length
def IC(agI:List Ent)(i:Nat)(reg:Int):Bool:=match gX agI i reg with|some k=>decide (0<=(afS agI).getD k (-1))|none=>false
def DC(e:Ent):Bool:=decide (kindOf e.i.op=3∨kindOf e.i.op=4∨kindOf e.i.op=2∨kindOf e.i.op=5)
def qD(e:Ent):List Int:=if kindOf e.i.op=3∨kindOf e.i.op=4 then [e.i.ag0]else [e.i.ag0,e.i.ag1]
def Pr(mode:Int)(agI:List Ent)(i:Nat):Bool:=
 match agI[i]? with
 |none=>false
 |some e=>if DC e=false then true
  else if mode=0 then true
  else if mode=1 then(qD e).all λreg=> !IC agI i reg
  else if mode=2 then vC agI i
  else false
structure Std where
 agZ:Nat
 size:Nat
 data:ByteArray
 there:Bool
def Fg(e:Ent):Std:=⟨e.agZ,sizeOf' e.i.op,oF e.value (sizeOf' e.i.op),decide (e.is=3)⟩
def CY(p:Pt):Std:=⟨p.agZ,p.data.size,p.data,true⟩
def FW(agI:List Ent)(agF:List Pt):List Std:=((agI.filter λe=>isK e 4).map Fg).reverse++(agF.map CY).reverse
def lapsP(a n b m:Nat):Bool:=decide (0<n)&&decide (0<m)&&decide (a<b+m)&&decide (b<a+n)
def Fh(a n b m:Nat):Bool:=decide (0<m)&&decide (a<=b)&&decide (b+m<=a+n)
def xK(at_ n:Nat):List Std->Int×ByteArray
 |[]=>(2,oZ)
 |s::l=>if lapsP s.agZ s.size at_ n=false then xK at_ n l
  else if Fh s.agZ s.size at_ n=false∨s.there=false then(0,oZ)
  else(1,s.data.extract (at_-s.agZ) (at_-s.agZ+n))
def Aw(e:Ent):Bool:=isK e 4&&(!e.known||decide (e.halt≠0))
def lL(agI:List Ent)(agF:List Pt)(i:Nat):Int×ByteArray:=
 match agI[i]? with
 |none=>(0,oZ)
 |some e=>if kindOf e.i.op≠3 then(0,oZ)
  else if(agI.take i).any Aw=true then(0,oZ)
  else xK e.agZ (sizeOf' e.i.op) (FW (agI.take i) agF)
def lY(r:Nat->Nat)(s:Sp):Nat->Nat:=if 1<=s.rd∧s.rd<=31∧s.halt=0 then setR r s.rd.toNat s.value else r
def iJ(s:Sp):Option Pt:=if s.store=false∨s.halt≠0∨(s.size≠1∧s.size≠2∧s.size≠4)then none else some ⟨s.agZ,oF s.value s.size.toNat⟩
def iQ(c:Ca)(q:List Req)(m:ByteArray)(agY:Nat)(left:Int):Ca×List Req×Bool:=
 if gG c=false then(c,q,false)
 else if(bK c (lineOf agY)).2.isSome=true then(tO c (lineOf agY),q,false)
 else match qZ c (lineOf agY) (Ga (jZ q m) (lineOf agY)) false with
  |(d,gone,went)=>if went=true∧gone.agQ=true∧gone.data.size≠0 then(d,Bi q 4 gone.agY left gone.data,true)else(d,q,false)
def sL(agF:List Pt)(c:Ca):List Pt×Ca×Bool:=
 match agF with
 |[]=>(agF,c,false)
 |p::l=>if(xL c p.agZ p.data).2=true then(l,(xL c p.agZ p.data).1,true)else(agF,c,false)
def jE(c:Co)(kind:Int)(agY:Nat)(data:ByteArray):Co:={c with agS:=Bi c.agS kind agY (lX c.agL c.asked) data,asked:=wrap64 (c.asked+1)}
def tA(c:Co)(first:Bool):Bool:=if first=true then decide ((yH c.agS:Int)<c.agL.agP)else decide ((yH c.agS:Int)<c.agL.agP-1)
def oK(c:Co)(agY:Nat):Co:=
 match iQ c.data c.agS c.mem agY (lX c.agL c.asked)with
 |(d,q,asked)=>{c with data:=d,agS:=q,asked:=if asked=true then wrap64 (c.asked+1)else c.asked}
def Xr(c:Co):ByteArray:=ZS c.agF c.data c.agS c.mem
def oL(c:Co)(e:Ent):ByteArray:=if kZ ((Xr c).size:Int) e.agZ (sizeOf' e.i.op:Nat)=true then Cv (Xr c) e.agZ (sizeOf' e.i.op)else oZ
def wO(c:Co)(agY:Nat)(e:Ent):Ent:=if e.is=2∧lineOf e.agZ=agY then uM {e with agU:=true} (oL c e)else e
def ID(c:Co)(x:Req):Co:=
 if x.kind=1 then {c with agI:=c.agI.map (wO c x.agY)}
 else if x.kind=2 then {c with agO:=(qZ c.agO x.agY oZ false).1}
 else if x.kind=3 then oK c x.agY
 else if x.kind=4 then {c with mem:=rP c.mem [⟨x.agY,x.data⟩]}
 else c
def lM(c:Co):Co:=
 match eH c.agS with
 |(q,x,ok)=>if ok=true then ID {c with agS:=q} x else {c with agS:=q}
def storeAt(r:Nat->Nat)(agI:List Ent)(i:Nat):List Ent:=
 match agI[i]? with
 |some e=>if kindOf e.i.op=4 then(match lK agI r i e.i.ag1 with|some b=>agI.set i (uF e b)|none=>agI)else agI
 |none=>agI
def cN(r:Nat->Nat)(agI:List Ent):Nat->List Ent
 |0=>agI
 |k+1=>storeAt r (cN r agI k) k
def afD(c:Co):List Ent:=cN c.r (c.agI.map goE) c.agI.length
def kK(c:Co):Co:=
 if c.halt≠0 then c
 else match yD (afD c)with
  |some i=>{c with agI:=DY (afD c) i,agM:=(match(afD c)[i]? with|some e=>e.next|none=>0),agH:=[],stop:=false}
  |none=>{c with agI:=afD c}
def tM(c:Co)(s:Sp):Co:={c with agG:=c.agG++[s],halt:=s.halt,agI:=[],agH:=[],stop:=true}
def vG(c:Co)(e:Ent)(s:Sp):Co:=if kindOf e.i.op=3 then oK c s.agZ else c
def fZ(c:Co)(s:Sp):Co:={c with agG:=c.agG++[s],agF:=(match iJ s with|some p=>c.agF++[p]|none=>c.agF)}
def vZ(c:Co)(e:Ent)(s:Sp)(l:List Ent):Co:=
 {vG (fZ c s) e s with r:=lY c.r s,agK:=fM c.agK s.pc s.next e.i,agI:=l}
def eC:Nat->Co->Co
 |0,c=>c
 | n+1,c=>
  if c.halt≠0 then c
  else match c.agI with
   |[]=>c
   |e::l=>
    if e.is≠3 then c
    else if(cA e).halt≠0 then tM c (cA e)
    else if(cA e).store=true∧(c.agF.length:Int)>=c.agL.agF then c
    else eC n (vZ c e (cA e) l)
def af7(c:Co):Co:=eC c.agL.agN.toNat c
def DN(c:Co)(i:Nat):Bool:=
 match c.agI[i]? with
 |none=>false
 |some e=>
  if e.is≠0 then false
  else if kindOf e.i.op=3 then e.known||((lK c.agI c.r i e.i.ag0).isSome&&Pr c.agL.mode c.agI i)
  else if kindOf e.i.op=4 then !e.known&&(lK c.agI c.r i e.i.ag0).isSome&&Pr c.agL.mode c.agI i
  else(mI c.agI c.r i).2.2&&Pr c.agL.mode c.agI i
def Kt(c:Co)(agY:Nat):Bool:=(bK c.data agY).2.isSome||c.agI.any λe=>e.agU&&decide (lineOf e.agZ=agY)
def setE(c:Co)(i:Nat)(e:Ent):Co:={c with agI:=c.agI.set i e}
def oE(c:Co)(i:Nat):Co:=
 match c.agI[i]? with
 |none=>c
 |some e=>
  if e.known=false then c
  else if(lL c.agI c.agF i).1=1 then setE c i (uM e (lL c.agI c.agF i).2)
  else if(lL c.agI c.agF i).1≠2 then c
  else if Kt c (lineOf e.agZ)=true then setE c i (uM e (oL c e))
  else if Ec c.agS (lineOf e.agZ) 1=true then setE c i {e with is:=2}
  else if tA c (vC c.agI i)=true∧Ec c.agS (lineOf e.agZ) 3=false then setE (jE c 1 (lineOf e.agZ) oZ) i {e with is:=2}
  else c
def iS(c:Co)(i:Nat):Co:=
 match c.agI[i]? with
 |none=>c
 |some e=>
  if kindOf e.i.op=4 then setE c i (yC e c.mem.size (mI c.agI c.r i).1)
  else if kindOf e.i.op=3 then oE (setE c i (yC e c.mem.size (mI c.agI c.r i).1)) i
  else setE c i (rJ e (mI c.agI c.r i).1 (mI c.agI c.r i).2.1)
def IE(e:Ent):Bool:=decide (kindOf e.i.op=2)&&decide (e.is=1)
def Fi(c:Co):List Int:=c.agI.map λe=>(kindOf e.i.op:Int)
def Kv(c:Co):List Bool:=(List.range c.agI.length).map (DN c)
def gY(c:Co):Co:=if c.halt≠0 then c else(pickOf c.agL.agN (c.agI.any IE) (Fi c) (Kv c)).foldl iS c
def kV:Nat->Co->Co
 |0,c=>c
 | n+1,c=>
  if(c.agI.length:Int)>=c.agL.agI then c
  else match c.agH with
   |[]=>c
   |f::l=>kV n {c with agI:=c.agI++[qB c.next f c.prog],next:=wrap64 (c.next+1),agH:=l}
def lP(c:Co):Co:=if c.halt≠0 then c else kV c.agL.agN.toNat c
def dM(c:Co)(w:Nat):Co×Nat:=
 if opOf w=0∨kindOf (decN w).op≠5 then(c,up4 c.agM)
 else if c.agL.tables=true then(c,xC c.agK c.agM (decN w))
 else({c with agT:=wrap64 (c.agT+1)},yG c.agL c.agT c.agM)
def LU(c:Co)(n:Nat):Co:={c with agH:=c.agH++[⟨c.agM,n⟩],agM:=n}
def eL:Nat->Co->Co
 |0,c=>c
 | n+1,c=>
  if c.stop=true∨(c.agH.length:Int)>=c.agL.queue then c
  else if(fetchP c.prog c.agM).isSome=false then {c with agH:=c.agH++[⟨c.agM,up4 c.agM⟩],stop:=true}
  else if(bK c.agO (lineOf c.agM)).2.isSome=false then
   (if Ec c.agS (lineOf c.agM) 2=false∧tA c false=true then jE c 2 (lineOf c.agM) oZ else c)
  else
   eL n (LU (dM {c with agO:=tO c.agO (lineOf c.agM)} (fetchW c.prog c.agM)).1 (dM {c with agO:=tO c.agO (lineOf c.agM)} (fetchW c.prog c.agM)).2)
def eN(c:Co):Co:=if c.halt≠0 then c else eL c.agL.agN.toNat c
def aW(c:Co):Co:={c with agF:=(sL c.agF c.data).1,data:=(sL c.agF c.data).2.1}
def tW(c:Co):Co:=
 match c.agF with
 |[]=>c
 |p::_=>if Ec c.agS (lineOf p.agZ) 3=false∧tA c true=true then jE c 3 (lineOf p.agZ) oZ else c
def pE(c:Co):Co:=
 match cR c.data with
 |some w=>if w.data.size≠0 then {jE c 4 w.agY w.data with data:=wB c.data w.agY}else c
 |none=>c
def nP(c:Co):Co:=if c.agF≠[]∨c.halt=0 then c else pE c
def tY(c:Co):Co:=
 match c.agF with
 |[]=>nP (aW c)
 |_::_=>if(sL c.agF c.data).2.2=true then nP (aW c)else nP (tW (aW c))
def Ax(c:Ca)(f:Cf):Bool:=gG c&&decide ((c.agJ.length:Int)=f.agJ)&&decide (c.ways=f.ways)
def jF(c:Co):Bool:=
 wA c.agL&&decide (c.prog.length<=64)&&(c.mem.toList==(jB c.mem).toList)&&Ff c.agI&&decide ((c.agI.length:Int)<=c.agL.agI)&&(c.agI.all λe=>decide (e.no<c.next))&&Ax c.data c.agL&&Ax c.agO c.agL&&sM c.agK&&decide ((c.agH.length:Int)<=c.agL.queue)&&decide ((c.agF.length:Int)<=c.agL.agF)&&c.agF.all λp=>kZ c.mem.size p.agZ p.data.size
def ZJ(c:Co):Co:=tY (eN (lP (gY (af7 (kK (lM {c with cycle:=wrap64 (c.cycle+1)}))))))
def uG(c:Co):Co:=if jF c=true then ZJ c else c
def uN(c:Co):Nat->Co
 |0=>c
 |n+1=>uG (uN c n)
noncomputable def C1:Ctx:={C0 with lt:=true}
def c1Ok:CtxOk C1:=⟨c0Ok.1,c0Ok.2,c0Ok.3⟩
def dc1{f:FuncId}{args:List AV}{r:AV}(h:bI C1 f args r):bI C0 f args r:=h
theorem dJ{f}{fn}{body}{args}{r}(hf:C1.P.funcs[f]?=some fn)(hw:eA C1 (bI C1) body ⟨argsT args,λ _=>none,0⟩ (Fin C1 fn r))(hb:fn.body=some body:=by rfl)(hnm:(fn.name== "runtime.NumGoroutine")=false:=by rfl) (hN:rU fn.ntmps body=true:=by kernel_rfl) (hlen:Nat.ble args.length fn.ntmps=true:=by rfl):bI C0 f args r:=dc1 (bI.intro c1Ok hf hb hnm hN hlen hw)
theorem dJZ{f}{fn}{body}{args}{r}(hf:C1.P.funcs[f]?=some fn)(hb:fn.body=some body)(hw:goQ C1 (bI C1) (Fin C1 fn r) (.code body) (argsT args) (λ _=>none) 0 [])(hnm:(fn.name== "runtime.NumGoroutine")=false:=by rfl) (hN:rU fn.ntmps body=true:=by kernel_rfl) (hlen:Nat.ble args.length fn.ntmps=true:=by rfl):bI C0 f args r:=dJ hf (zK hw) hb hnm hN hlen
theorem hI(s){f}{fn}{body}{args}{h}{Post}(hf:C1.P.funcs[f]?=some fn)(hw:eA (C1.at s) (bI (C1.at s)) body ⟨argsT args,h,s⟩ (adN (C1.at s) fn Post s))(hb:fn.body=some body:=by rfl)(hnm:(fn.name== "runtime.NumGoroutine")=false:=by rfl) (hN:rU fn.ntmps body=true:=by kernel_rfl) (hlen:Nat.ble args.length fn.ntmps=true:=by rfl) (hfull:fullB h s=true:=by rfl):pM C0.P C0.G f args h s Post:=HCall.intro c1Ok.at hf hb hnm hN hlen hfull hw
theorem hZ(s){f}{fn}{body}{args}{h}{Post}(hf:C1.P.funcs[f]?=some fn)(hb:fn.body=some body)(hw:goQ (C1.at s) (bI (C1.at s)) (adN (C1.at s) fn Post s) (.code body) (argsT args) h s [])(hnm:(fn.name== "runtime.NumGoroutine")=false:=by rfl) (hN:rU fn.ntmps body=true:=by kernel_rfl) (hlen:Nat.ble args.length fn.ntmps=true:=by rfl) (hfull:fullB h s=true:=by rfl):pM C0.P C0.G f args h s Post:=hI s hf (zK hw) hb hnm hN hlen hfull
def w64(x):IntKind.wrap .i64 x=wrap64 x:=by rw[IntKind.wrap_i64];simp only[wrap64]
theorem cOr(c y):cE c true y=(c||y):=by cases c<;>rfl
theorem qA(c x):cE c x false=(c&&x):=by cases c<;>rfl
def sP{p q:Prop}(h:p)(t:p->q:=by intro h;(try simp only[w64,cOr,qA,dE,aP,dP,kI,pU,pX,ne_eq,bA,iC,aY,mA,eJ,Bool.not_eq_false,Bool.not_eq_eq_eq_not,mD,Bool.not_false,Decidable.not_not]at h);exact h):q:=t h
abbrev zCo:List AV:=[vI 0,vI 0,vI 0,vI 0,vI 0,vI 0,vI 0,vI 0,.sl 0 ([]) true,vB false,.sl 0 ([]) true,.sl 0 ([]) true,vI 0,zU,zU,zU,zU,zU,zU,zU,zU,zU,zU,zU,zU,zU,zU,zU,zU,zU,zU,zU,zU,zU,zU,zU,zU,zU,zU,zU,zU,zU,zU,zU,zU,zU,vB false,.sl 0 ([]) true,.sl 0 ([]) true,vI 0,.sl 0 ([]) true,vI 0,.sl 0 ([]) true,vI 0,.sl 0 ([]) true,.sl 0 ([]) true,vI 0,vI 0,.v (.string (⟨#[]⟩:ByteArray)),.sl 0 ([]) true,zU,.sl 0 ([]) true,vI 0,.sl 0 ([]) true]
def mT{α:Type}[BEq α][LawfulBEq α]{a b:α}(h:(a==b)=true):a=b:=eq_of_beq h
def nA{α:Type}[BEq α][LawfulBEq α]{a b:α}(h:(a==b)=false): ¬a=b:=λe=>by rw[e,an7]at h;cases h
def wM{α:Type}[BEq α][LawfulBEq α]{a b:α}(h:(a != b)=true): ¬a=b:=λe=>by rw[e]at h;simp at h
def wN{α:Type}[BEq α][LawfulBEq α]{a b:α}(h:(a != b)=false):a=b:=sU h
def vW{α}(f:α->List AV)(l:List α){n}(h:l.length=n):Res.ok (.v (.int .i64 ((l.map f).length:Int)))=.ok (.v (.int .i64 (n:Int))):=by rw[aH,h]
def Jv{α}{l:List α}{k}{x}(h:l[k]?=some x):l[0+k]?=some x:=by rwa [bJ]
def Ri{p}{x}{h}{b rs}{r r'}(e:r=r'):Res.fx p x (upd h b (some (.arr r rs)))=.fx p x (upd h b (some (.arr r' rs))):=by rw[e]
def vX{α}{f}{l:List α}{k}{x}{h:AH}{b rs}:some (upd h b (some (.arr ((l.map f).set (0+k) (f x)) rs)))=some (upd h b (some (.arr ((l.set k x).map f) rs))):=by rw[bJ,List.map_set]
def yB{p}{rs}{r r'}{c}(e:r=r'):Res.need p (.sl rs r c)=.need p (.sl rs r' c):=by rw[e]
def LR{p}{s lo lo' n n'}{c}(e:lo=lo')(e':n=n'):Res.need p (.osl s lo n c)=.need p (.osl s lo' n' c):=by rw[e,e']
section
variable {α:Type}(f:α->List AV)
section
variable (l:List α)
def vY(H:Nat):List.drop 0 (List.take H (l.map f))=(l.take H).map f:=by rw[bS,eO]
def Kr(L:Nat):List.drop L (List.take (l.map f).length (l.map f))=(l.drop L).map f:=by rw[cH,kM]
def Iw{p}{H}{s rs m}{c}(hl:c.length=m):Res.fx p (.osl s 0 c.length false) (upd H s (some (.arr c rs)))=.fx p (.osl s 0 m false) (upd H s (some (.arr c rs))):=by rw[hl]
def iP{p:Prop}{H:AH}{s rs n m:Nat}(B:List α)(h1:l.length=n)(h2:l.length+B.length=m):
  Res.fx p (.osl s 0 ((List.take n (List.drop 0 (l.map f))).length+(B.map f).length) false) (upd H s (some (.arr (List.take n (List.drop 0 (l.map f))++B.map f) rs)))=.fx p (.osl s 0 m false) (upd H s (some (.arr ((l++B).map f) rs))):=by
 rw[bS,aN (by rw[aH,h1];exact aC _),aH,aH,h2,dH]
def Au{p:Prop}{H:AH}{s rs m:Nat}(B:List α)(h2:l.length+B.length=m):
  Res.fx p (.osl s 0 ((l.map f).length+(B.map f).length) false) (upd H s (some (.arr (l.map f++B.map f) rs)))=.fx p (.osl s 0 m false) (upd H s (some (.arr ((l++B).map f) rs))):=by
 rw[aH,aH,h2,dH]
def Uo{p:Prop}{H:AH}{s rs lo n m:Nat}(B:List α)(h2:((l.drop lo).take n).length+B.length=m):
  Res.fx p (.osl s 0 ((List.take n (List.drop lo (l.map f))).length+(B.map f).length) false) (upd H s (some (.arr (List.take n (List.drop lo (l.map f))++B.map f) rs)))=.fx p (.osl s 0 m false) (upd H s (some (.arr ((((l.drop lo).take n)++B).map f) rs))):=by
 rw[<-h2,dH,eO,kM,aH];simp only[aM,bD,aH]
end
def DX{n:Nat}(X:List (List AV))(B:List α)(hB:B.length=n)(hX:X.length=n):X.take 0++(B.map f).take (min (B.map f).length n)++X.drop (0+min (B.map f).length n)=B.map f:=by
 rw[aH,hB,Nat.min_self,pV,iA,cB oT,dY,aN (by rw[aH];omega)]
section
variable (l:List α)
def Cp{lo n:Nat}{M:List α}(h:(l.drop lo).take n=M):List.take n (List.drop lo (l.map f))=M.map f:=by rw[<-h,eO,kM]
def jW{n:Nat}(h:l.length<=n):List.take n (List.drop 0 (l.map f))=l.map f:=by rw[bS,aN (by rw[aH];exact h)]
end
end
def Iy{α}{f}{l:List α}{b rs lo n}{c}(h:lo+n<=l.length):LeZ (some (b,rs,l.map f)) (.osl b lo n c) (.sl rs (((l.drop lo).take n).map f) false):=by
 have:=LeZ.frz b rs lo n (l.map f) c false rfl (by rw[aH];exact h) (λh=>by cases h);rw[eO,kM];exact this
def nB{α}{f}{l:List α}{b rs n}{c}(h:l.length=n):LeZ (some (b,rs,l.map f)) (.osl b 0 n c) (.sl rs (l.map f) false):=by
 have:=Iy (f:=f) (b:=b) (rs:=rs) (c:=c) (l:=l) (lo:=0) (n:=n) oT
 rwa [bS,aN oT]at this
def rfT{p:Prop}(h:p:=by repeat (first|exact trivial|refine⟨.refl _,?_⟩|refine⟨Iy (by exact omT),?_⟩|refine⟨nB (by exact omT),?_⟩)):p:=h
def zD{α:Type}{P:α->Prop}{l:List α}{n:Nat}(h:∀x∈l,P x):∀x∈l.take n,P x:=λx hx=>h x (cQ hx)
def Iz{α:Type}{P:α->Prop}{l:List α}{n:Nat}(h:∀x∈l,P x):∀x∈l.drop n,P x:=λx hx=>h x (eT hx)
def sJ{α:Type}{P:α->Prop}{l m:List α}(h:∀x∈l,P x)(h':∀x∈m,P x):∀x∈l++m,P x:=λx hx=>(al_List_mem_append.1 hx).elim (h x) (h' x)
def sK{α:Type}{P:α->Prop}{y:α}(h:P y):∀x∈[y],P x:=λx hx=>by rw[uJ]at hx;rw[hx];exact h
def mem_set{α:Type}{P:α->Prop}{l:List α}{k:Nat}{y:α}(h:∀x∈l,P x)(h':P y):∀x∈l.set k y,P x:=λx hx=>(List.mem_or_eq_of_mem_set hx).elim (h x) λe=>e ▸ h'
theorem pM.frame0{P}{G}{f}{args}{rows}{rs lo n}{cl}(H:pM P G f args (heapF []) 0 (λx h'=>x=.osl 0 lo n cl∧h'=heapF [(0,.arr rows rs)]))(K)(s2)(ha:eW args=true):
  pM P G f args K s2 (λx h'=>x=.osl s2 lo n cl∧h'=upd K s2 (some (.arr rows rs))):=by
 have:=H.frame (λx=>x) K s2 rfl (λx hx=>absurd rfl hx) (λx blk hx=>by cases hx) (λx y hx=>absurd hx (dG _)) (kW 0 args ha) (λx h'=>x=.osl s2 lo n cl∧h'=upd K s2 (some (.arr rows rs))) λr h' hP=>?_
 ·rwa [nQ _ args ha]at this
 obtain⟨rfl,rfl⟩:=hP;refine⟨_,⟨by simp[uW,wD],rfl⟩,λy blk hy=>?_⟩;by_cases he:y=s2
 ·subst he;rw[dB]at hy;injection hy with hy;exact .inl ⟨0,.arr rows rs,rfl,(wD _ _ _).symm,by subst hy;rfl⟩
 rw[cI _ _ he]at hy;exact .inr ⟨hy,λx hx=>absurd hx (dG _)⟩
theorem pM.frameO{P}{G}{f}{args}{rows rows2}{rs ag1 n}(H:pM P G f args (heapF [(0,.arr rows rs)]) 1 (λx h'=>x=.osl 1 0 n false∧h'=heapF [(0,.arr rows rs),(1,.arr rows2 ag1)]))(b)(K)(s2)(hb:Nat.blt b s2=true)(hK:K b=some (.arr rows rs))(ha:mS 1 args=true):
  pM P G f (Bg (λ_=>b) args) K s2 (λx h'=>x=.osl s2 0 n false∧h'=upd K s2 (some (.arr rows2 ag1))):=by
 have hb:=aJ hb;refine H.frame (λ_=>b) K s2 rfl (λx hx=>?_) (λx blk0 hx=>?_) (λx y hx hy _=>by omega) ha _ λr' h' hP=>?_
 ·cases x with
  |zero=>omega
  |succ x=>exact absurd rfl hx
 ·cases x with
  |zero=>injection hx with hx;subst hx;exact⟨hb,rfl,hK⟩
  |succ x=>cases hx
 ·obtain⟨rfl,rfl⟩:=hP;refine⟨_,⟨by simp[uW,wD],rfl⟩,λy blk0 hy=>?_⟩;by_cases he:y=s2
  ·subst he;rw[dB]at hy;injection hy with hy;exact .inl ⟨1,.arr rows2 ag1,rfl,(wD _ _ _).symm,by subst hy;rfl⟩
  ·rw[cI _ _ he]at hy;by_cases hyb:y=b
   ·subst hyb;rw[hK]at hy;injection hy with hy;exact .inl ⟨0,.arr rows rs,rfl,rfl,by subst hy;rfl⟩
   ·exact .inr ⟨hy,λx hx e=>hyb e.symm⟩
abbrev afU(b:Bool):List AV:=[.v (.bool b)]
structure Ent.ok(e:Ent):Prop where
 pc:e.pc<=4294967295
 agR:e.i.agR<=4294967295
 agK:e.agK<=4294967295
 value:e.value<=4294967295
 next:e.next<=4294967295
 agZ:e.agZ<=4294967295
structure Req.ok(x:Req):Prop where
 agY:x.agY<=4294967295
structure Pt.ok(x:Pt):Prop where
 agZ:x.agZ<=4294967295
structure Ft.ok(x:Ft):Prop where
 pc:x.pc<=4294967295
 agK:x.agK<=4294967295
structure Gs.ok(x:Gs):Prop where
 pc:x.pc<=4294967295
 next:x.next<=4294967295
structure Sp.ok(x:Sp):Prop where
 pc:x.pc<=4294967295
 next:x.next<=4294967295
 value:x.value<=4294967295
 agZ:x.agZ<=4294967295
def DA{a b B}(h:b<=a)(h2:a<=B)(hB:Nat.ble B 9223372036854775807=true):IntKind.wrap .i64 ((a:Int)-(b:Int))=((a-b:Nat):Int):=by
 have:=aJ hB;rw[wrap_i64 oT oT];omega
def ZH(a b:Nat):Int.tmod (a:Int) (b:Int)=((a%b:Nat):Int):=pY a b |>.symm
def CI{a:Nat}(h:a<=4294967295):a<4294967296:=bG h
def oW{e e'}(h:e=e'):AV.agg (enL e)=.agg (enL e'):=by rw[h]
def DL{e e'}(h:e=e'):AV.agg (spL e)=.agg (spL e'):=by rw[h]
def dR{b b'}(h:b=b'):AV.v (.bool b)=.v (.bool b'):=by rw[h]
def Ni{b b'}(h:b=b'):AV.v (.int .i64 b)=.v (.int .i64 b'):=by rw[h]
def GW{b b':Nat}(h:b=b'):AV.v (.int .u32 (b:Int))=.v (.int .u32 (b':Int)):=by rw[h]
abbrev Ks(r:Nat->Nat):List AV:=[.v (.int .u32 (r 0:Int)),.v (.int .u32 (r 1:Int)),.v (.int .u32 (r 2:Int)),.v (.int .u32 (r 3:Int)),.v (.int .u32 (r 4:Int)),.v (.int .u32 (r 5:Int)),.v (.int .u32 (r 6:Int)),.v (.int .u32 (r 7:Int)),.v (.int .u32 (r 8:Int)),.v (.int .u32 (r 9:Int)),.v (.int .u32 (r 10:Int)),.v (.int .u32 (r 11:Int)),.v (.int .u32 (r 12:Int)),.v (.int .u32 (r 13:Int)),.v (.int .u32 (r 14:Int)),.v (.int .u32 (r 15:Int)),.v (.int .u32 (r 16:Int)),.v (.int .u32 (r 17:Int)),.v (.int .u32 (r 18:Int)),.v (.int .u32 (r 19:Int)),.v (.int .u32 (r 20:Int)),.v (.int .u32 (r 21:Int)),.v (.int .u32 (r 22:Int)),.v (.int .u32 (r 23:Int)),.v (.int .u32 (r 24:Int)),.v (.int .u32 (r 25:Int)),.v (.int .u32 (r 26:Int)),.v (.int .u32 (r 27:Int)),.v (.int .u32 (r 28:Int)),.v (.int .u32 (r 29:Int)),.v (.int .u32 (r 30:Int)),.v (.int .u32 (r 31:Int))]
def ldL(r)(n)(hn:n<32):okO (Lg (Ks r) (0+n*1))=.ok (.v (.int .u32 (r n:Int))):=by
 have:∀(n:_root_.Fin 32),okO (Lg (Ks r) (0+n.1*1))=.ok (.v (.int .u32 (r n.1:Int))):=by
  intro n
  match n with
  |⟨0,_⟩=>rfl
  |⟨1,_⟩=>rfl
  |⟨2,_⟩=>rfl
  |⟨3,_⟩=>rfl
  |⟨4,_⟩=>rfl
  |⟨5,_⟩=>rfl
  |⟨6,_⟩=>rfl
  |⟨7,_⟩=>rfl
  |⟨8,_⟩=>rfl
  |⟨9,_⟩=>rfl
  |⟨10,_⟩=>rfl
  |⟨11,_⟩=>rfl
  |⟨12,_⟩=>rfl
  |⟨13,_⟩=>rfl
  |⟨14,_⟩=>rfl
  |⟨15,_⟩=>rfl
  |⟨16,_⟩=>rfl
  |⟨17,_⟩=>rfl
  |⟨18,_⟩=>rfl
  |⟨19,_⟩=>rfl
  |⟨20,_⟩=>rfl
  |⟨21,_⟩=>rfl
  |⟨22,_⟩=>rfl
  |⟨23,_⟩=>rfl
  |⟨24,_⟩=>rfl
  |⟨25,_⟩=>rfl
  |⟨26,_⟩=>rfl
  |⟨27,_⟩=>rfl
  |⟨28,_⟩=>rfl
  |⟨29,_⟩=>rfl
  |⟨30,_⟩=>rfl
  |⟨31,_⟩=>rfl
  |⟨k+32,h⟩=>exact absurd h oT
 exact this ⟨n,hn⟩
def acI(r)(n v:Nat)(hn:n<32):zS (0+n*1) [.v (.int .u32 (v:Int))] (Ks r)=Ks (setR r n v):=by
 have:∀(n:_root_.Fin 32),zS (0+n.1*1) [.v (.int .u32 (v:Int))] (Ks r)=Ks (setR r n.1 v):=by
  intro n
  match n with
  |⟨0,_⟩=>rfl
  |⟨1,_⟩=>rfl
  |⟨2,_⟩=>rfl
  |⟨3,_⟩=>rfl
  |⟨4,_⟩=>rfl
  |⟨5,_⟩=>rfl
  |⟨6,_⟩=>rfl
  |⟨7,_⟩=>rfl
  |⟨8,_⟩=>rfl
  |⟨9,_⟩=>rfl
  |⟨10,_⟩=>rfl
  |⟨11,_⟩=>rfl
  |⟨12,_⟩=>rfl
  |⟨13,_⟩=>rfl
  |⟨14,_⟩=>rfl
  |⟨15,_⟩=>rfl
  |⟨16,_⟩=>rfl
  |⟨17,_⟩=>rfl
  |⟨18,_⟩=>rfl
  |⟨19,_⟩=>rfl
  |⟨20,_⟩=>rfl
  |⟨21,_⟩=>rfl
  |⟨22,_⟩=>rfl
  |⟨23,_⟩=>rfl
  |⟨24,_⟩=>rfl
  |⟨25,_⟩=>rfl
  |⟨26,_⟩=>rfl
  |⟨27,_⟩=>rfl
  |⟨28,_⟩=>rfl
  |⟨29,_⟩=>rfl
  |⟨30,_⟩=>rfl
  |⟨31,_⟩=>rfl
  |⟨k+32,h⟩=>exact absurd h oT
 exact this ⟨n,hn⟩
def aeH{ev}{h}{s b n v:Nat}{a x}{r}(ha:ev a=.ptr b (0+n*1))(hb:h b=some (.box (Ks r)))(hx:ev x=.v (.int .u32 (v:Int)))(hn:n<32):
  opA C0 ev h s (.store 28 a x)=.fx True .any (upd h b (some (.box (Ks (setR r n v))))):=by
 have hty:C0.ty 28=some anW:=rfl;have hc:(0+n*1+([.v (.int .u32 (v:Int))]:List AV).length).ble (Ks r).length=true:=iL (by simp;omega);simp only[opA,hty,hx,kN,ha,hb];rw[show([AV.v _].length.beq 1)=true from rfl];simp only;rw[hc];simp only;rw[acI _ _ _ hn]
end Go.Proofs.YtlpkggpdjobpmaaGreatDoor
