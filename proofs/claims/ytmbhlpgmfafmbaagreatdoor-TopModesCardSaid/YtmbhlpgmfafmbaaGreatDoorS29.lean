/- Lemmas. -/
import Derived.Test.YtmbhlpgmfafmbaaGreatDoorS1
import Derived.Test.YtmbhlpgmfafmbaaGreatDoorS22
import Derived.Test.YtmbhlpgmfafmbaaGreatDoorS24
import Derived.Test.YtmbhlpgmfafmbaaGreatDoorS27
import Derived.Test.YtmbhlpgmfafmbaaGreatDoorS28
set_option linter.all false
namespace Go.Proofs.YtmbhlpgmfafmbaaGreatDoor
open Go.RowKit
@[reducible] def az.at(C:az)(s:Nat):az:={C with fr:=s}
def Ge(r:AV):Nat->AV:=λi=>match i with|0=>r|_=>.any
def qm(C:az)(c:Func)(bm:AV->AH->Prop)(s:Nat):cg->ay->Prop
 | .exit _,_=>False
 |_,a=>∃rs,gq C a c.results.toList=some rs∧gm ⟨Ge (Dp rs),a.h,a.n⟩ (λb=>∃r h' σ,bm r h'∧dj s σ (s+1)=true∧cu b ⟨Ge r,h',s+1⟩ σ)
def gn(h:AH):Nat->Bool
 |0=>true
 |k+1=>match h k with|some _=>gn h k|none=>false
theorem uH{h:AH}:∀{s:Nat},gn h s=true->∀x,x<s->h x≠none
 |0,_,x,c=>absurd c (dG _)
 | k+1,a,x,c=>by
  simp[gn]at a;split at a
  ·rename_i b d;rcases ew x k with h|h
   ·exact uH a x h
   ·have:x=k:=oT;subst this;rw[d];simp
  ·cases a
theorem KD:∀{b:Nat} {σ:Nat->Nat} {n:Nat},dj b σ n=true->∀x,x<b->σ x=x∧x<n
 |0,_,_,_,x,c=>absurd c (dG _)
 | k+1,σ,n,a,x,c=>by
  simp[dj]at a;split at a
  ·rename_i d e;rcases ew x k with h|h
   ·exact KD a x h
   ·have:x=k:=oT;subst this;exact⟨aO d,aJ e⟩
  ·cases a
section
variable (S:Nat->Prop)(w:World)(β:Bt)
def g7(b:Nat):Prop:=∃x l,β x=some l∧l.f=b
structure kv(s:Nat)(S':Nat->Prop)(w':World)(β':Bt):Prop where
 hS:∀b,S b->S' b
 hE:b9 S w w'
 a:w.heap.size<=w'.heap.size
 Zr:∀x l,x<s->β x=some l->β' x=some l
 own:∀x l,β' x=some l->g7 β l.f∨w.heap.size<=l.f
 nw:∀b,S' b->S b∨w.heap.size<=b∨g7 β b
 still:∀b,b<w.heap.size-> ¬g7 β b->w'.heap[b]?=w.heap[b]?
def UH{S:Nat->Prop}{w c d:World}(h:b9 S w c)(e:d.heap=c.heap):b9 S w d:=⟨λb a=>by rw[e];exact h.ZH b a,λb g t i a=>by rw[e];exact h.shape b g t i a⟩
def Gf(s:Nat):Inv s where
 p:=kv S w β s
 mono:=by
  intro B o p j s1 u r t P K
  refine⟨λb a=>K.hS b (P.hS b a),P.hE.trans P.hS K.hE,aL P.a K.hB.size,λx l i c=>K.hle _ _ (P.Zr x l i c),λx l c=>?_,λb a=>?_,λb a m=>?_⟩
  ·rcases K.Zf x l c with h|⟨_,h|⟨y,k,g,d⟩⟩
   ·exact P.own x l h
   ·exact .inr (aL P.a h)
   rw[<-d];exact P.own y k g
  ·rcases K.hN b a with h|⟨_,h|⟨y,k,g,d⟩⟩
   ·exact P.nw b h
   ·exact .inr (.inl (aL P.a h))
   rcases P.own y k g with h|h
   ·exact .inr (.inr (d ▸ h))
   exact .inr (.inl (d ▸ h))
  refine(K.hO b (ei a P.a) λy k g d=>?_).trans (P.still b a m)
  rcases P.own y k g with h|h
  ·exact m (d ▸ h)
  rw[d]at h;omega
 YN:=by
  intro o p j σ n P q
  refine⟨P.hS,P.hE,P.a,λx l i c=>?_,λx l c=>?_,P.nw,P.still⟩
  ·let⟨g,d⟩:=KD q x i
   simp[d,fD,g]
   exact P.Zr x l i c
  by_cases i:x<n
  ·rw[aa i]at c;exact P.own _ l c
  rw[dZ i]at c;cases c
 Y0:=by
  intro o p j x l P c
  refine⟨λb a=>.inl (P.hS b a),P.hE,P.a,P.Zr,P.own,λb a=>?_,P.still⟩
  rcases a with a|rfl
  ·exact P.nw b a
  exact(P.own x l c).elim (λh=>.inr (.inr h)) λh=>.inr (.inl h)
 heap:=by
  intro o p r j P e
  exact⟨P.hS,UH P.hE e,by rw[e];exact P.a,P.Zr,P.own,P.nw,λb a m=>by rw[e];exact P.still b a m⟩
end
theorem HCall.intro{C:az}{s}(hC:b0 (C.at s)){f}{j}{z}{args}{h}{bm}(hf:C.P.funcs[f]?=some j)(d:j.body=some z)(ai:(j.name== "runtime.NumGoroutine")=false)
  (hN:rU j.ntmps z=true) (O:Nat.ble args.length j.ntmps=true) (T:gn h s=true) (hw:eA (C.at s) (bI (C.at s)) z ⟨fg args,h,s⟩ (qm (C.at s) j bm s)) (W:C.df=[]:=by rfl):pM C.P C.G f args h s bm:=by
 refine⟨⟨j,hf,by rw[d];rfl,ai⟩,λB S w β A H L hG I=>?_⟩;have O:=aJ O;apply calls_of_wp hf d;have m:({w with heap:=w.heap.extract 0 B}:World).heap.size=B:=by
  show(w.heap.extract 0 B).size=B;rw[Array.size_extract];have:=H.ZQ;omega
 have N:∀b,b<B->(w.heap.extract 0 B)[b]?=w.heap[b]? :=λb d=>by
  rw[mQ,aa (oH H.ZQ),bJ]
 have M0:bn (C.at s) (Gf S w β s) {w with heap:=w.heap.extract 0 B} S j.ntmps (· <s) (fg args) h {tmps:=A.toArray++Array.replicate (j.ntmps-A.toArray.size) undef,defers:=[]} w S β:=by
  have D:A.length=args.length:=I.1.symm;refine⟨λi=>?_,by rw[m];exact H,⟨rfl,rfl,rfl,by rw[m];exact H.ZQ,λb d=>?_⟩,L,W.symm,by simp;omega,hG,λ_ h=>.inl h,⟨λ_ h=>h,b9.refl _ _,aC _,λ_ _ _ h=>h,λx l h=>.inl ⟨x,l,h,rfl⟩,λ_ h=>.inl h,λ_ _ _=>rfl⟩⟩
  ·rw[lC]
   cases ha:args[i]? with
   |none=>exact .any _
   | some x=>
    have hi:i<A.length:=by rw[D];exact(Em.1 ha).1
    have hv:A[i]?=some A[i]:=aA hi;have:(A.toArray++Array.replicate (j.ntmps-A.toArray.size) undef).getD i undef=A[i]:=by
     rw[aK,dS (sU hi),eM,hv];rfl
    rw[this];exact I.2 i x _ ha hv
  ·rw[m]at d;exact(N b d).symm
 apply wp_mono (CM hC z hN ⟨fg args,h,s⟩ _ hw _ w S β M0);rintro e Z E ⟨e',U,S',Y,rfl,G,M⟩;have V:(∃rs,gq (C.at s) U j.results.toList=some rs∧gm ⟨Ge (Dp rs),U.h,U.n⟩ (λX=>∃r h' σ,bm r h'∧dj s σ (s+1)=true∧cu X ⟨Ge r,h',s+1⟩ σ))->Z.defers=[]∧∃v,(results j Z.tmps).run C.P E=.ok v E∧∃v' J R r h',bm r h'∧Ending.returned v=.returned v'∧aq J E R r v'∧ca B J E R h'∧f' B S w β s J E R:=by
  rintro⟨rs,F,X,ab,r,h',σ,hP,hk,hW⟩;let⟨b4,hh,n⟩:=U;let⟨g,al,c⟩:=JA hC M _ rs F;have Q:aq S' E Y (Dp rs) (if h:g.toArray.size=1 then g.toArray[0]else .tuple g.toArray):=by
   match rs,g,c with
   |[],g,c=>
    have:g=[]:=gp c.1.symm;subst this
    exact .A [] #[] rfl λi a u p=>by simp at p
   |[x],g,c=>
    match g,c with
    |[u],c=>simpa [Dp]using c.2 0 x u rfl rfl
    |[],c=>exact absurd c.1 (by simp)
    |_::_::_,c=>exact absurd c.1 (by simp)
   | x::y::bd,g,c=>
    have ag: ¬g.toArray.size=1:=by
     have:=c.1;simp at this⊢;omega
    rw[dif_neg ag];exact .A _ _ (sU c.1) λi a u p q=>c.2 i a u p (sU q)
  refine⟨M.df.trans W,_,yO _ g al j rfl,?_⟩;generalize hv:(if h:g.toArray.size=1 then g.toArray[0]else .tuple g.toArray)=v at Q⊢;have M1:bn (C.at s) (Gf S w β s) {w with heap:=w.heap.extract 0 B} S 1 (· <n) (Ge (Dp rs)) hh {tmps:= #[v],defers:=Z.defers} E S' Y:=by
   refine⟨λi=>?_,M.H,M.B,M.Z2,M.df,rfl,M.G,M.nw,M.iv⟩
   cases i with
   |zero=>exact Q
   |succ i=>exact .any _
  let⟨J,M2⟩:=nK ab M1;have o:=pK hW hk M2;refine⟨v,J,_,r,h',hP,rfl,o.T 0,by have:=o.H;rwa [m]at this,?_⟩;have P:kv S w β s J E _:=o.iv;refine⟨P.hS,P.hE,⟨o.B.os,o.B.tape,o.B.output,P.a,λb d=>?_⟩,λx l D=>P.Zr x l (L x l D) D,λx l D=>?_,λb d=>?_,λb d hn=>P.still b d λ⟨x,l,F,K⟩=>hn x l F K⟩
  ·rw[o.B.block b (by rw[m];exact d)];exact N b d
  ·rcases ew x s with hx|hx
   ·let⟨blk,t⟩:=DQ.1 ((uH T) x hx);let⟨bb,_,_,_,k1,_⟩:=H.own x blk t;have:=P.Zr x bb hx k1;rw[D]at this;injection this with this;subst this;exact .inl k1
   ·have ak:x=s:=by
     have:=o.Z2 x l D;have:x<s+1:=this;omega
    refine .inr ⟨ak,?_⟩;rcases P.own x l D with ⟨y,k,F,K⟩|h
    ·exact .inr ⟨y,k,F,K⟩
    ·exact .inl h
  ·rcases P.nw b d with h|h|⟨y,k,F,K⟩
   ·exact .inl h
   ·exact .inr ⟨aL H.ZQ h,.inl h⟩
   ·rcases o.nw b d with h|h
    ·exact .inl h
    ·exact .inr ⟨by rwa [m]at h,.inr ⟨y,k,F,K⟩⟩
 cases e' with
 |normal=>exact V G
 |ret=>exact V G
 |exit i=>exact G.elim
def LY{S}{w}{β}{a}{v}(C:aq S w β a v):∀{d:Bt} {k:Nat->Nat},(∀x l,β x=some l->d (k x)=some l)->aq S w d (uW k a) v:=by
 induction C with
 |v x=>intro d k _;exact .v x
 |agg F E m z h ih=>
  intro d k j;refine .agg _ E (by rw[tS];exact m) z λi a u p q=>?_;rw[pJ]at p;obtain⟨y,t,rfl⟩:=Gi.1 p
  exact ih i y u t q j
 |A F E m h ih=>
  intro d k j;refine .A _ E (by rw[tS];exact m) λi a u p q=>?_;rw[pJ]at p;obtain⟨y,t,rfl⟩:=Gi.1 p
  exact ih i y u t q j
 |X rs rows r A c b o u G I B D hA J z C ih=>intro d k _;exact .X rs rows r A c b o u G I B D hA J z C
 |dp rs n row b o u D j J z C ih=>intro d k _;exact .dp rs n row b o u D j J z C
 |ptr s n l m=>intro d k j;exact .ptr _ n l (j _ _ m)
 |x s row n l m=>intro d k j;exact .x _ row n l (j _ _ m)
 |S s lo len r l A c m G I B hA F e P j K=>intro d k L;exact .S _ lo len r l A c (L _ _ m) G I B hA F e P j K
 | F f first O E Q m h M h' ih N=>
  intro d k j;refine .F f _ _ E Q (by rw[tS];exact m) (λi a u p q=>?_) (by rw[tS];exact M) λi a u p q=>?_
  ·rw[pJ]at p;obtain⟨y,t,rfl⟩:=Gi.1 p;exact ih i y u t q j
  ·rw[pJ]at p;obtain⟨y,t,rfl⟩:=Gi.1 p
   exact N i y u t q j
 |ZP g a x H h ih=>intro d k j;exact .ZP g _ x H (ih j)
 |ZM g a H=>intro d k _;exact .ZM g _ H
 |any x=>intro d k _;exact .any x
def Rz{S}{w}{β d}{o}{l}{m}{blk}(k:Bf S w β l m blk)(n:∀x l,β x=some l->d (o x)=some l):Bf S w d l m (DI o blk):=by
 cases blk with
 |box c=>
  intro j a b;rw[pJ]at b;obtain⟨y,e,rfl⟩:=Gi.1 b;let⟨u,g,h,i⟩:=k j y e
  exact⟨u,g,h,LY i n⟩
 |arr rows rs=>exact k
 |row c=>
  refine⟨k.1,λj a b=>?_⟩;rw[pJ]at b;obtain⟨y,e,rfl⟩:=Gi.1 b;let⟨u,g,h,i⟩:=k.2 j y e;exact⟨u,g,h,LY i n⟩
def OZ{S}{w}{β}{m}{n}{l}{h}{blk}(i:qM n blk=true)(k:Bf S w β l h (DI m blk)):Bf S w (λs=>if s<n then β (m s)else none) l h blk:=by
 cases blk with
 |box b=>
  intro j a c;obtain⟨u,d,e,g⟩:=k j _ (by rw[pJ,c];rfl)
  exact⟨u,d,e,Bv _ _ _ (aC _) (tD _ b (by simpa [qM]using i) j a c) g⟩
 |arr rows rs=>exact k
 |row b=>
  refine⟨k.1,λj a c=>?_⟩;obtain⟨u,d,e,g⟩:=k.2 j _ (by rw[pJ,c];rfl);exact⟨u,d,e,Bv _ _ _ (aC _) (tD _ b (by simpa [qM]using i) j a c) g⟩
def Gg(a:Nat->Nat)(s ap:Nat):Nat->Nat:=λx=>match Nat.beq x s with|true=>ap|false=>a x
def ks(a)(s ap):Gg a s ap s=ap:=by simp[Gg]
def rL(a){s ap x}(h:x≠s):Gg a s ap x=a x:=by
 unfold Gg;have:Nat.beq x s=false:=by rw[<-eJ];exact λe=>h (aO e)
 rw[this]
theorem pM.frame{P}{aq}{f}{args}{h}{s}{bm}(ar:pM P aq f args h s bm)(d)(K)(ap)(ai:gn h s=true)(M:∀x,h x≠none->x<s)
  (h1:∀x blk,h x=some blk->d x<ap∧qM s blk=true∧K (d x)=some (DI d blk)) (h2:∀x y,x<s->y<s->d x=d y->x=y) (ha:mS s args=true)
  (Y) (ag:∀r h',bm r h'->∃K',Y (uW (Gg d s ap) r) K'∧∀y blk,K' y=some blk->(∃x o,h' x=some o∧y=Gg d s ap x∧blk=DI (Gg d s ap) o)∨(K y=some blk∧∀x,x<s->d x≠y)):
  pM P aq f (Bg d args) K ap Y:=by
 refine⟨ar.1,λao S w β vs J V hG Z=>?_⟩;have H:∀x,x<s->∃l,β (d x)=some l∧K (d x)≠none:=λx j=>by
  let⟨blk,A⟩:=DQ.1 ((uH ai) x j);let⟨_,_,e⟩:=h1 x blk A;let⟨l,_,_,_,m,_⟩:=J.own _ _ e;exact⟨l,m,by rw[e];simp⟩
 have HS:ca ao S w (λx=>if x<s then β (d x)else none) h:=by
  refine⟨λx blk j=>?_,λx x' l F j R e e' L=>?_,J.lt,J.ZQ⟩
  ·let⟨_,U,e⟩:=h1 x blk j;let⟨l,cs,b5,fr,m,T,k3,k4,k5,k6⟩:=J.own _ _ e;exact⟨l,cs,b5,fr,by simp[M x (by rw[j];simp),fD];exact m,T,k3,k4,k5,OZ U k6⟩
  have g1:=M x j;have g2:=M x' R;rw[aa g1]at e;rw[aa g2]at e';exact h2 x x' g1 g2 (J.inj _ _ _ _ (H x g1).choose_spec.2 (H x' g2).choose_spec.2 e e' L)
 have hL:bs S w (λx=>if x<s then β (d x)else none) args vs:=by
  exact⟨by rw[<-Z.1,tS],λi a av p q=>(Bv _ _ _ (aC _) (tD _ args ha i a p) (Z.2 i (uW d a) av (by rw[pJ,p];rfl) q))⟩
 refine(ar.2 ao S w _ vs HS (λx l c=>?_) hG hL).mono ?_
 ·by_cases j:x<s
  ·exact j
  rw[dZ j]at c;cases c
 rintro e w' ⟨v,S',g,r,h',hP,rfl,hr,Q,D⟩;let⟨K',b4,h3⟩:=ag r h' hP;have N:∀x l,(if x<s then β (d x)else none)=some l->x<s∧β (d x)=some l:=λx l c=>by
  by_cases j:x<s
  ·rw[aa j]at c;exact⟨j,c⟩
  rw[dZ j]at c;cases c
 have O:∀x l,g x=some l->(λy=>if y=ap then g s else β y) (Gg d s ap x)=some l:=λx l c=>by
  rcases D.Zf x l c with h|⟨h,_⟩
  ·let⟨j,R⟩:=N x l h;have:d x<ap:=V _ _ R;rw[rL d oT];show(if d x=ap then g s else β (d x))=some l;rwa[dZ oT]
  subst h;rw[ks];show(if ap=ap then g x else β ap)=some l;rwa[aa rfl]
 have G:ME β (λy=>if y=ap then g s else β y):=λy l c=>by
  have:=V y l c;show(if y=ap then g s else β y)=some l;rwa[dZ oT]
 have u:∀y blk l,K y=some blk->β y=some l->(∀x,x<s->d x≠y)->∀x k,(if x<s then β (d x)else none)=some k->k.f≠l.f:=λy blk l C c I x k hk e=>by
  let⟨j,R⟩:=N x k hk;exact I x j (J.inj _ _ _ _ (H x j).choose_spec.2 (by rw[C];simp) R c e)
 refine⟨v,S',λy=>if y=ap then g s else β y,_,K',b4,rfl,LY hr O,⟨λy blk C=>?_,λy y' l F C an E e2 L=>?_,Q.lt,Q.ZQ⟩,⟨D.hS,D.hE,D.hB,G,λy l c=>?_,λb L=>?_,λb L hn=>D.hO b L λx k hk=>?_⟩⟩
 ·rcases h3 y blk C with ⟨x,o,E,rfl,rfl⟩|⟨E,I⟩
  ·let⟨l,cs,b5,fr,m,T,k3,k4,k5,k6⟩:=Q.own x o E;exact⟨l,cs,b5,fr,O x l m,T,k3,k4,k5,Rz k6 O⟩
  let⟨l,cs,b5,fr,m,T,k3,k4,k5,k6⟩:=J.own y blk E;have n:=u y blk l E m I;have M:=fJ T;refine⟨l,cs,b5,fr,G _ _ m,(D.hO _ M n).trans T,k3,k4,λhS=>?_,k6.mono D.hS D.hE G⟩;rcases D.hN _ hS with h|⟨_,h|⟨x,k,W,X⟩⟩
  ·exact k5 h
  ·omega
  exact n x k W X
 ·
  have ab:∀y l,K' y≠none->(if y=ap then g s else β y)=some l->(∃x,h' x≠none∧g x=some l∧y=Gg d s ap x)∨(K y≠none∧β y=some l∧∀x,x<s->d x≠y):=λy l C c=>by
   let⟨blk,A⟩:=DQ.1 C;rcases h3 y blk A with ⟨x,o,E,e2,_⟩|⟨E,I⟩
   ·let⟨al,_,_,_,m,_⟩:=Q.own x o E;have:=O x al m;rw[<-e2,show(λy=>if y=ap then g s else β y) y=(if y=ap then g s else β y)from rfl,c]at this;injection this with this;subst this;exact .inl ⟨x,by rw[E];simp,m,e2⟩
   let⟨al,_,_,_,m,_⟩:=J.own y blk E;have au:y<ap:=V y al m;rw[dZ oT]at c;exact .inr ⟨by rw[E];simp,c,I⟩
  have ak:∀y l x F,K y≠none->β y=some l->(∀x,x<s->d x≠y)->h' x≠none->g x=some F->l.f≠F.f:=λy l x F C c I j am e=>by
   let⟨blk,A⟩:=DQ.1 C;have n:=u y blk l A c I;let⟨al,_,_,_,m,T,_⟩:=J.own y blk A;rw[c]at m;injection m with m;subst m;have M:=fJ T;rcases D.Zf x F am with h|⟨_,h|⟨cf,k,W,X⟩⟩
   ·exact n x F h e.symm
   ·omega
   exact n cf k W (X.trans e.symm)
  rcases ab y l C E with ⟨x,t,z,bb⟩|⟨t,z,bb⟩<;>rcases ab y' F an e2 with ⟨x',U,B,bd⟩|⟨U,B,bd⟩
  ·rw[bb,bd,Q.inj x x' l F t U z B L]
  ·exact absurd L.symm (ak y' F x l U B bd t z)
  ·exact absurd L (ak y l x' F t z bb U B)
  exact J.inj y y' l F t U z B L
 ·have c:(if y=ap then g s else β y)=some l:=c;by_cases C:y=ap
  ·rw[aa C]at c;refine .inr ⟨C,?_⟩;rcases D.Zf s l c with h|⟨_,h|⟨cf,k,W,X⟩⟩
   ·exact absurd (N s l h).1 (iI _)
   ·exact .inl h
   exact .inr ⟨_,k,(N cf k W).2,X⟩
  rw[dZ C]at c;exact .inl c
 ·rcases D.hN b L with h|⟨hB,h|⟨x,k,W,X⟩⟩
  ·exact .inl h
  ·exact .inr ⟨hB,.inl h⟩
  exact .inr ⟨hB,.inr ⟨_,k,(N x k W).2,X⟩⟩
 exact hn _ k (N x k hk).2
theorem pM.Y'{P}{G}{f}{args}{blk c}{r}(H:pM P G f args (ao [(0,blk)]) 1 (λx h'=>x=r∧h'=ao [(0,c)]))(b)(K)(ap)(n:b<ap)
  (i:qM 1 blk=true) (j:K b=some (DI (λ_=>b) blk)) (m:mS 1 args=true):
  pM P G f (Bg (λ_=>b) args) K ap (λx h'=>x=uW (Gg (λ_=>b) 1 ap) r∧h'=an K b (some (DI (Gg (λ_=>b) 1 ap) c))):=by
 refine H.frame (λ_=>b) K ap rfl (λx a=>?_) (λx g a=>?_) (λx y a d _=>by omega) m _ λo h' k=>?_
 ·cases x with
  |zero=>omega
  |succ x=>exact absurd rfl a
 ·cases x with
  |zero=>injection a with a;subst a;exact⟨n,i,j⟩
  |succ x=>cases a
 ·obtain⟨rfl,rfl⟩:=k;refine⟨_,a9,λy g d=>?_⟩;by_cases h:y=b
  ·subst h;rw[dB]at d;injection d with d;exact .inl ⟨0,c,rfl,rfl,d.symm⟩
  ·rw[cI _ _ h]at d;exact .inr ⟨d,λx a e=>h e.symm⟩
theorem b0.at{C}{s}(h:b0 C):b0 (C.at s):=⟨h.ty,h.mixed,h.hH⟩
def Fq{C:az}{R:FuncId->List AV->AV->Prop}{Q:cg->ay->Prop}{κ:Type}(S:κ->ay)(G:κ->Prop){a b:Code}{g:ay}(h:eA C R a g (λe c=>match e with| .normal=>gm c (λd=>∃k σ,cu d (S k) σ∧dj C.fr σ (S k).n=true∧G k)|e=>Q e c))(i:∀k,G k->eA C R b (S k) Q):eA C R (.seq a b) g Q:=
 CH S G h i lE
def BH{C:az}{b:Func}{bm:AV->AH->Prop}{s:Nat}{a:ay}{rs:List AV}(d:gq C a b.results.toList=some rs){r:AV}{h':AH}{σ:Nat->Nat}(e:bm r h')(h:dj s σ (s+1)=true)(g:cu ⟨Ge (Dp rs),a.h,a.n⟩ ⟨Ge r,h',s+1⟩ σ):
  ∃rs,gq C a b.results.toList=some rs∧gm ⟨Ge (Dp rs),a.h,a.n⟩ (λc=>∃r h' σ,bm r h'∧dj s σ (s+1)=true∧cu c ⟨Ge r,h',s+1⟩ σ):=
 ⟨rs,d,.mk _ (.refl _) ⟨r,h',σ,e,h,g⟩⟩
def ah{a:ay}{x r}{hp}{n}(σ)(e:x=uW σ r)(b:mR n r=true)(c:WH ⟨Ge x,a.h,a.n⟩ n σ hp)(d:En ((hp.map (·.1)).map σ)=true):cu ⟨Ge x,a.h,a.n⟩ ⟨Ge r,ao hp,n⟩ σ:=by
 have W:=cu.ZB (l:=[(0,r)]) σ ⟨⟨e,b⟩,trivial⟩ c d;refine⟨λi=>?_,W.h,W.inj⟩;have:=W.t i
 cases i with
 |zero=>exact this
 |succ i=>exact .inl rfl
def kt(d:Fz):List AV->List AV->Prop
 |[],[]=>True
 |a::c,b::e=>eu d a b∧kt d c e
 |_,_=>False
theorem kt.get{k:Fz}:∀{c e:List AV},kt k c e->c.length=e.length∧∀(i:Nat) a d,c[i]?=some a->e[i]?=some d->eu k a d
 |[],[],_=>⟨rfl,λi a d h=>by simp at h⟩
 |a::c,b::e,h=>by
  let⟨m,n⟩:=kt.get h.2;refine⟨by simp[m],λi x y g j=>?_⟩
  cases i with
  |zero=>simp at g j;subst g j;exact h.1
  |succ i=>exact n i x y (sU g) (sU j)
 |[],_::_,h=>h.elim
 |_::_,[],h=>h.elim
theorem eh.ZR{c}{a b}(h:kt c a b):eh c (.box a) (.box b):=.box a b h.get.1 h.get.2
def GT(b:ay)(a:Fz):List (Nat×AV)->Prop
 |[]=>True
 |(i,x)::l=>eu a (b.t i) x∧GT b a l
def GH(d:ay)(a:Fz):List (Nat×bj)->Prop
 |[]=>True
 |(i,x)::l=>((match a with|some (b,_,_)=>Nat.beq i b=false|none=>True)∧∃c,d.h i=some c∧eh a c x)∧GH d a l
theorem j'.ZB{c}{d}{l}{hp}(k:match d with|some (x,rs,rows)=>c.h x=some (.arr rows rs)|none=>True)(m:GT c d l)(g:GH c d hp):j' c ⟨be l,ao hp,c.n⟩ d:=by
 refine⟨λx rs rows h=>(by subst h;exact k),rfl,λi=>?_,λs blk a=>?_⟩
 ·clear g k
  induction l with
  |nil=>exact .any _
  |cons p l ih=>
   let⟨j,x⟩:=p;simp[be]
   cases b:Nat.beq j i with
   |true=>rw[<-aO b];exact m.1
   |false=>exact ih m.2
 ·clear m k
  induction hp with
  |nil=>cases a
  | cons p hp ih=>
   let⟨j,x⟩:=p
   change ao _ _=_ at a
   simp[ao]at a
   cases b:Nat.beq j s with
   |true=>
    rw[b]at a;injection a with a;subst a;rw[<-aO b];refine⟨λx rs rows n e=>?_,g.1.2⟩;have:=g.1.1;subst n;simp only at this;rw[e]at this
    simp at this
   |false=>rw[b]at a;exact ih g.2 a
abbrev ec:= @j'.ZB
open Go.Proofs.Tryz
set_option maxRecDepth 100000
set_option maxHeartbeats 4000000
abbrev dU(n:Nat):List AV:=[.v (.int .u32 (n:Int))]
theorem lN:∀(l:List UInt8),gU (l.map λb=>[.v (.int .u8 (b.toNat:Int))])=some l
 |[]=>rfl
 |b::l=>by
  simp only[jC,gU,lN l];simp
def dK{C:az}{b:Func}{r:AV}{a:ay}{rs:List AV}(c:gq C a b.results.toList=some rs)(d:jU a.h (Dp rs))(e:eP (vR a.h (Dp rs))=true)(g:vR a.h (Dp rs)=r):ST C b r a:=qY c d e g
def fT{C:az}{b:Func}{r:AV}{a:ay}{rs:List AV}(c:gq C a b.results.toList=some rs)(g:vR a.h (Dp rs)=r)(d:jU a.h (Dp rs):=by exact trivial)(e:eP (vR a.h (Dp rs))=true:=by exact rfl):ST C b r a:=dK c d e g
def Fs(i):bI C0 43 [hV i] (.A [vI i.j,vI i.o]):=by
 exact bx func43 rfl<|zR (qY rfl trivial rfl rfl)
def UI{prog}{pc}(b:pc%4=0)(a:pc/4<prog.length):∃x,ez prog pc=some x∧prog[((pc/4:Nat):Int).toNat]?=some x:=by
 refine⟨prog[pc/4],?_,?_⟩
 ·unfold ez;rw[aa b,aA a]
 rw[Int.toNat_natCast,aA a]
def NC{prog}{pc}(h:pc%4≠0∨prog.length<=pc/4):ez prog pc=none:=by
 unfold ez;split
 ·exact bE oT
 rfl
def KE{prog}(hp:∀x∈prog,x<=4294967295)(pc):bg prog pc<=4294967295:=by
 unfold bg ez;split
 ·cases h:prog[pc/4]? with
  |none=>exact aE _
  |some x=>exact hp x (aB h)
 ·exact aE _
def Ay(i)(a):gC i a<=4294967295:=by unfold gC;omega
def uT(a):bz a<=4294967295:=by unfold bz;omega
def UJ{m:ByteArray}(h:m.size<=256)(a n:Nat):(Cv m a n).size<9223372036854775808:=by
 unfold Cv;rw[dA];omega
def Dd(x:Nat):(ij x != 0)=true↔e4 x=0:=by
 unfold ij;split<;>simp_all
def XG{n:Nat}(h:n<=1000000):IntKind.wrap .u64 ((n:Int))=(n:Int):=by
 simp only[IntKind.wrap,IntKind.signed,IntKind.bits];simp;omega
def ND(prog:List Nat)(pc:Nat)(d:Bool)(hp:∀x∈prog,x<=4294967295)(j:prog.length<=1000000)(b:pc<=4294967295):bI C0 40 [.X 1 (prog.map dU) d,vU pc] (.A [.v (.int .u32 (bg prog pc:Int)),.v (.bool (ez prog pc).isSome)]):=by
 apply bx func40 rfl;have k:pc%4<=3:=aI (aQ _ dT);refine bO (x:=vU (pc%4)) rfl rfl rfl dT<|bw (x:=.v (.bool ((pc%4) != 0))) rfl rfl (ar (ee _ _)) ?_;have e:pc/4<=1073741823:=eG b;refine qR 0 rfl<|pB (x:=vU (pc/4)) (g:= !((pc%4) != 0)) rfl rfl rfl rfl (λh=>h) rfl (kl (nJ e rfl)) (λm=>by decide)<|gc (x:=.v (.int .u64 ((pc/4:Nat):Int))) rfl id (ax (nJ e rfl))<|a' (x:=vI ((prog.map dU).length:Int)) rfl id rfl<|a' (x:=.v (.int .u64 ((prog.length:Nat):Int))) rfl id (by show bv.ok (.v (.int .u64 (IntKind.wrap .u64 ((((prog.map dU).length:Nat):Int)))))=_;rw[aH,XG j])<|a' (x:=.v (.bool (decide ((pc/4)>=prog.length)))) rfl cj (ar (kx _ _))<|zN rfl (by simp) ?_;refine zB rfl (λa=>?_) (λa=>?_)
 ·exact dK rfl trivial rfl (by unfold bg;rw[NC (by simp[cE,bne]at a;split at a<;>first|(left;assumption)|(right;assumption)|simp_all)];rfl)
 skip
 have g:pc/4<=1073741823:=eG b;refine bO (x:=vU (pc/4)) rfl rfl (kl (nJ g rfl)) dT ?_;let⟨x,i,c⟩:=UI (prog:=prog) (pc:=pc) (by simp[cE,bne]at a;split at a<;>simp_all) (by simp[cE,bne]at a;split at a<;>simp_all);have n:x<=4294967295:=hp x (aB c);apply FO (dU x) (x:=.dp 1 0 (dU x)) rfl rfl rfl (⟨oT,by rw[aX];exact a1 (Option.map dU) c⟩) rfl;apply cd 0 rfl;exact dK rfl trivial rfl (by unfold bg;rw[i];rfl)
def sQ{size:Nat}{a}{n:Nat}(h:kZ (size:Int) a (n:Int)=true):a+n<=size∧0<n∧n<=4:=by
 simp[kZ,aP,aY]at h;omega
def yg(m:ByteArray)(a n:Nat)(b:kZ (m.size:Int) a (n:Int)=true)(h:m.size<=256)(d:a<=4294967295):bI C0 93 [.v (.string m),vU a,vI (n:Int)] (.A [.v (.string (Cv m a n)),vI 0]):=by
 apply bx func93 rfl;have g:n<=4:=(sQ b).2.2;refine bw (x:=vI (m.size:Int)) rfl rfl rfl<|qR 0 rfl<|zC (GY _ _ _ oT oT) ?_;refine zB rfl (λc=>by rw[b]at c;cases c) (λ_=>?_);refine bw (x:=vI (a:Int)) rfl rfl (ax (bH d rfl)) ?_;have e:a+n<=4294967299:=aD d g;refine qR 0 rfl<|bw (x:=vN (a+n)) rfl rfl (ax (bH e rfl)) ?_;refine bO (x:=.v (.string (m.extract a (a+n)))) rfl rfl rfl (by have q:=sQ b;refine⟨?_,?_,?_⟩<;>simp<;>omega) ?_;apply cd 0 rfl;exact qY rfl trivial rfl rfl
def qV(m):(aS m).length=m.size:=by simp[aS]
def Pa(m b:ByteArray)(a:Nat)(h:a+b.size<=m.size)(h':a<=m.size):
  gU (((((((List.take a (List.drop 0 (aS m)))++aS b).drop 0).take ((List.take a (List.drop 0 (aS m))).length+(aS b).length))++((aS m).drop (0+(a+b.size))).take (((m.size:Int)-((a+b.size:Nat):Int)).toNat)).drop 0).take
   ((((((List.take a (List.drop 0 (aS m)))++aS b).drop 0).take ((List.take a (List.drop 0 (aS m))).length+(aS b).length))).length+(((aS m).drop (0+(a+b.size))).take (((m.size:Int)-((a+b.size:Nat):Int)).toNat)).length))=some (m.data.toList.take a++b.data.toList++m.data.toList.drop (a+b.size)):=by
 simp only[bS,bJ];rw[<-aU,cH, <-aU,cH];have e:(((m.size:Int)-((a+b.size:Nat):Int)).toNat)=((aS m).drop (a+b.size)).length:=by
  rw[bD,qV];omega
 rw[e,cH];simp only[aS];rw[<-eO, <-kM, <-dH, <-dH];exact lN _
def Ec(m:ByteArray)(a:Nat)(b:ByteArray)(c:kZ (m.size:Int) a (b.size:Int)=true)(k:m.size<=256)(h:a<=4294967295):bI C0 92 [.v (.string m),vU a,.v (.string b)] (.A [.v (.string (DD m a b)),vI 0]):=by
 apply bx func92 rfl;have j:b.size<=4:=(sQ c).2.2;refine bw (x:=vN m.size) rfl rfl rfl<|qR 0 rfl<|bw (x:=vN b.size) rfl rfl rfl<|zC (GY _ _ _ oT oT) ?_;refine zB rfl (λg=>by rw[c]at g;cases g) (λ_=>?_);refine bw (x:=vI (a:Int)) rfl rfl (ax (bH h rfl))<|qR 0 rfl<|zF (x:=.S 12 0 m.size false) (h':=an _ 12 (some (.arr (aS m) 1))) (rfl) (oT:m.size<=1000000)<|Wz rfl<|oR 3 rfl<|bO (x:=.S 12 0 a true) rfl rfl rfl (have q:=sQ c;⟨iF _,aG _,rfl,by show(a:Int)<=(m.size:Int);omega⟩)<|oR 3 rfl<|bw (x:=vN b.size) rfl rfl rfl ?_;have i:a+b.size<=4294967299:=aD h j;exact bw (x:=vN (a+b.size)) rfl rfl (ax (bH i rfl))<|bO (x:=.S 12 (0+(a+b.size)) (((m.size:Int)-((a+b.size:Nat):Int)).toNat) false) rfl rfl rfl (have q:=sQ c;⟨aG _,by show((a+b.size:Nat):Int)<=(m.size:Int);omega,iF _⟩)<|oR 2 rfl<|rE 27<|qX 0 rfl<|zF (x:=.S 29 0 ((List.take a (List.drop 0 (aS m))).length+(aS b).length) false) (h':=an _ 29 (some (.arr ((List.take a (List.drop 0 (aS m)))++aS b) 1))) (rfl) (have q:=sQ c;have d:=qV m;have e:=qV b;⟨by simp only[bS,aM,d,e,jH];omega,(oT:0<(aS b).length),(oT:0+a<=(aS m).length),trivial⟩)<|eg (x:=.S 31 0 (((((List.take a (List.drop 0 (aS m)))++aS b).drop 0).take ((List.take a (List.drop 0 (aS m))).length+(aS b).length)).length+(((aS m).drop (0+(a+b.size))).take (((m.size:Int)-((a+b.size:Nat):Int)).toNat)).length) false) (h':=an (an _ 29 none) 31 (some (.arr (((((List.take a (List.drop 0 (aS m)))++aS b).drop 0).take ((List.take a (List.drop 0 (aS m))).length+(aS b).length))++(((aS m).drop (0+(a+b.size))).take (((m.size:Int)-((a+b.size:Nat):Int)).toNat))) 1))) rfl rfl (rfl) (have q:=sQ c;have d:=qV m;have e:=qV b;⟨by show List.length ((((List.take a (List.drop 0 (aS m)))++aS b).drop 0).take ((List.take a (List.drop 0 (aS m))).length+(aS b).length))+List.length (((aS m).drop (0+(a+b.size))).take (((m.size:Int)-((a+b.size:Nat):Int)).toNat))<=jH;simp only[bS,aM,aU,bD,d,e,jH];omega,by show 0+((List.take a (List.drop 0 (aS m))).length+(aS b).length)=List.length ((List.take a (List.drop 0 (aS m)))++aS b);rw[aU];omega,(oT:0+(a+b.size)+(((m.size:Int)-((a+b.size:Nat):Int)).toNat)<=(aS m).length)⟩)<|SV (m.data.toList.take a++b.data.toList++m.data.toList.drop (a+b.size)) (d:=38) rfl rfl rfl (by show 0+(((((List.take a (List.drop 0 (aS m)))++aS b).drop 0).take ((List.take a (List.drop 0 (aS m))).length+(aS b).length)).length+(((aS m).drop (0+(a+b.size))).take (((m.size:Int)-((a+b.size:Nat):Int)).toNat)).length)<=List.length (((((List.take a (List.drop 0 (aS m)))++aS b).drop 0).take ((List.take a (List.drop 0 (aS m))).length+(aS b).length))++(((aS m).drop (0+(a+b.size))).take (((m.size:Int)-((a+b.size:Nat):Int)).toNat)));rw[aU];omega) (by have q:=sQ c;exact Pa m b a oT oT)<|cd 0 rfl (qY rfl trivial rfl rfl)
def gr(n:Nat):Nat:=if n<=16 then 16 else if n<=32 then 32 else if n<=64 then 64 else if n<=128 then 128 else 256
def jB(m:ByteArray):ByteArray:=⟨((m.extract 0 (min m.size 256)).data.toList++List.replicate (gr (min m.size 256)-min m.size 256) 0).toArray⟩
def Cw(m:ByteArray):(m.extract 0 (min m.size 256)).size=min m.size 256:=by rw[dA];omega
def wE(m):(jB m).size=gr (min m.size 256):=by
 have a:(m.extract 0 _).data.size=min m.size 256:=(Cw m);show(jB m).data.size=_;simp[jB,kP,aU,cV,cM,a];unfold gr
 repeat' (split<;>try omega)
def RA(n):gr n<=256:=by unfold gr;repeat' (split<;>try omega)
def NE{n j}(c:j<=4)(a:n<=16*2 ^ j)(b:j=0∨16*2 ^ (j-1)<n):16*2 ^ j=gr n:=by
 have:j=0∨j=1∨j=2∨j=3∨j=4:=oT;unfold gr;rcases this with rfl|rfl|rfl|rfl|rfl<;>simp at a b⊢ <;>repeat' (split<;>try omega)
def IQ{j n}(a:j<=4)(h:16*2 ^ j<min n 256):j<4:=by
 have:j=0∨j=1∨j=2∨j=3∨j=4:=oT;rcases this with rfl|rfl|rfl|rfl|rfl<;>simp at h⊢ <;>omega
def Pb(m)(s)(h:m.size<=s):gU (List.take s (List.drop 0 (List.take 0 (List.replicate s [AV.v (.int .u8 0)])++List.take (min (aS m).length s) (aS m)++List.drop (0+min (aS m).length s) (List.replicate s [AV.v (.int .u8 0)]))))=some (m.data.toList++List.replicate (s-m.size) 0):=by
 have q:=qV m;simp only[pV,iA,bS,bJ,q,lu h];have a:List.take m.size _=aS m:=aN (by rw[q];exact aC _);rw[a,List.drop_replicate,aN (by simp[q];omega)];have:List.replicate (s-m.size) [AV.v (.int .u8 0)]=(List.replicate (s-m.size) (0:UInt8)).map λb=>[.v (.int .u8 (b.toNat:Int))]:=by simp
 rw[this];simp only[aS];rw[<-dH];exact lN _
def KF(m):bI C0 19 [.v (.string m)] (.v (.string (jB m))):=by
 refine bx func19 rfl<|bw (x:=vI (m.size:Int)) rfl rfl rfl<|bw (x:=vN (min m.size 256)) rfl rfl (by show bv.ok (vI (if(256:Int)<(m.size:Int)then 256 else(m.size:Int)))=_;congr 3;split<;>omega)<|bO (x:=.v (.string (m.extract 0 (min m.size 256)))) rfl rfl rfl (by refine⟨?_,?_,?_⟩<;>simp<;>omega)<|dm 0 rfl<|dy (κ:=Nat) (λj=>⟨be [(0,.v (.string (m.extract 0 (min m.size 256)))),(3,vN (16*2 ^ j))],ao [],8⟩) (λj=>j<=4∧(j=0∨16*2 ^ (j-1)<min m.size 256)) (λj=>4-j) 0 (λs=>s) (au (λs=>s) wT trivial rfl) (⟨dT,.inl rfl⟩) ?_;intro j b;refine bw (x:=vN (min m.size 256)) rfl rfl (a1 (λn:Nat=>bv.ok (vI (n:Int))) (Cw m))<|bw rfl rfl (ar (b2 _ _))<|dm 0 rfl<|zB rfl (λa=>?_) (λa=>?_)
 ·refine bw (x:=vN (16*2 ^ (j+1))) rfl rfl (by show bv.ok (vI (IntKind.wrap .i64 (((16*2 ^ j:Nat):Int)*2)))=_;have c:=bU (n:=2) dT b.1;rw[kw oT oT];congr 3;rw[Nat.pow_succ];omega)<|cd 0 rfl<|⟨j+1,λs=>s,au (λs=>s) wT trivial rfl,⟨oH (IQ b.1 (a7 a)),.inr (sU (of_decide_eq_true a))⟩,oH (IQ b.1 (a7 a))⟩
 refine zF (x:=.S 13 0 (16*2 ^ j) false) (h':=an _ 13 (some (.arr (List.replicate (16*2 ^ j) [AV.v (.int .u8 0)]) 1))) (rfl) (by have c:=bU (n:=2) dT b.1;refine⟨oT,oT,?_⟩;simp only[jH];omega)<|zF (x:=vN (min (aS (m.extract 0 (min m.size 256))).length (16*2 ^ j))) (h':=an _ 13 (some (.arr (List.take 0 (List.replicate (16*2 ^ j) [AV.v (.int .u8 0)])++List.take (min (aS (m.extract 0 (min m.size 256))).length (16*2 ^ j)) (aS (m.extract 0 (min m.size 256)))++List.drop (0+min (aS (m.extract 0 (min m.size 256))).length (16*2 ^ j)) (List.replicate (16*2 ^ j) [AV.v (.int .u8 0)])) 1))) (rfl) (⟨by simp,trivial⟩)<|SV ((m.extract 0 (min m.size 256)).data.toList++List.replicate (gr (min m.size 256)-min m.size 256) 0) rfl rfl rfl (by show 0+16*2 ^ j<=List.length (List.take 0 (List.replicate (16*2 ^ j) [AV.v (.int .u8 0)])++List.take (min (aS (m.extract 0 (min m.size 256))).length (16*2 ^ j)) (aS (m.extract 0 (min m.size 256)))++List.drop (0+min (aS (m.extract 0 (min m.size 256))).length (16*2 ^ j)) (List.replicate (16*2 ^ j) [AV.v (.int .u8 0)]));have q:=qV (m.extract 0 (min m.size 256));have d:=Cw m;have:=aF a;simp[aU,aM,bD,cM,q,d];omega) (by have e:=Pb (m.extract 0 (min m.size 256)) (16*2 ^ j) (by have:=aF a;rw[Cw];omega);rw[Cw,NE b.1 (oH (aF a)) b.2]at e;rw[NE b.1 (oH (aF a)) b.2];exact e)<|cd 0 rfl ?_;exact qY rfl trivial rfl rfl
def ze(p:AV)(m:ByteArray):bI C0 12 [p,.v (.string m)] (i_ ⟨0,λ_=>0,jB m,0⟩):=by
 apply bx func12 rfl;exact fd rfl (.inl rfl) (KF m)<|bw (x:=.agg (cx 0 (λ_=>0) (jB m) 0)) rfl rfl rfl<|cd 0 rfl (qY rfl f_ rfl rfl)
def cT{p:Prop}(h:p:=by exact BH (rs:=[]) rfl (σ:=λz=>z) a9 rfl (ah (λz=>z) rfl rfl wH rfl)):p:=h
abbrev a_(n:Int):List AV:=[.v (.int .i64 n)]
abbrev fv(c:Cf)(a b:Bool):List AV:=[.v (.int .i64 c.mode),.v (.int .i64 c.u),.v (.int .i64 c.Z),.v (.int .i64 c.queue),.v (.int .i64 c.W),.v (.int .i64 c.C),.v (.int .i64 c.Q),.v (.int .i64 c.ways),.X 1 (c.J.map a_) a,.v (.bool c.tables),.X 1 (c.tape.map dU) b]
structure Cf.ok(c:Cf):Prop where
 J:c.J.length<=9223372036854775807
 tape:c.tape.length<=9223372036854775807
 tp:∀x∈c.tape,x<=4294967295
mutual
theorem nf(σ:Nat->Nat):∀(a:AV),eP a=true->uW σ a=a
 | .v _,_| .X _ _ _,_| .dp _ _ _,_=>by simp[uW]
 | .agg c,h=>by simp[uW,nQ σ c (by simpa [eP]using h)]
 | .A c,h=>by simp[uW,nQ σ c (by simpa [eP]using h)]
 | .F f a b,h=>by
  simp[eP]at h;split at h
  ·rename_i d;simp[uW,nQ σ a d,nQ σ b h]
  ·cases h
 | .ptr _ _,h| .x _ _ _,h| .S _ _ _ _,h| .ZZ _ _,h| .any,h=>by cases h
theorem nQ(σ:Nat->Nat):∀(a:List AV),eW a=true->Bg σ a=a
 |[],_=>by simp[Bg]
 |c::a,h=>by
  simp[eW]at h;split at h
  ·rename_i b;simp[Bg,nf σ c b,nQ σ a h]
  ·cases h
end
mutual
theorem IG(n:Nat):∀(a:AV),eP a=true->mR n a=true
 | .v _,_| .X _ _ _,_| .dp _ _ _,_=>by simp[mR]
 | .agg c,h=>by simp[mR,kW n c (by simpa [eP]using h)]
 | .A c,h=>by simp[mR,kW n c (by simpa [eP]using h)]
 | .F f a b,h=>by
  simp[eP]at h;split at h
  ·rename_i d;simp[mR,kW n a d,kW n b h]
  ·cases h
 | .ptr _ _,h| .x _ _ _,h| .S _ _ _ _,h| .ZZ _ _,h| .any,h=>by cases h
theorem kW(n:Nat):∀(a:List AV),eW a=true->mS n a=true
 |[],_=>by simp[mS]
 |c::a,h=>by
  simp[eW]at h;split at h
  ·rename_i b;simp[mS,IG n c b,kW n a h]
  ·cases h
end
def q7(σ){a}(h:eW a=true):some (bj.box a)=some (DI σ (.box a)):=by simp[DI,nQ σ a h]
def rR(n){a}(h:eW a=true):qM n (.box a)=true:=by simp[qM,kW n a h]
def y2(a)(b)(n lo c)(g:Lg a b=some (vI n))(e:b+1<=a.length)(d:eW (zS b [vI (bV n lo c)] a)=true):
  pM C0.P C0.G 47 [.ptr 0 b,vI lo,vI c] (ao [(0,.box a)]) 1 (λx h'=>x=.A []∧h'=ao [(0,.box (zS b [vI (bV n lo c)] a))]):=by
 refine HCall.intro fw.at func47 rfl rfl (by kernel_rfl) rfl rfl<|a6<|oR 3 rfl<|rW _ rfl (by show eb (Lg a b)=_;rw[g];rfl)<|oR 1 rfl<|rV _ rfl<|oR 1 rfl<|rV _ rfl<|oR 1 rfl ?_;refine Ow (h':=an _ 0 (some (.box (zS b [vI (bV n lo c)] a)))) rfl rfl (by
  show(match Nat.ble (b+1) a.length with|true=>bv.fx True .any (an _ 0 (some (.box (zS b [vI (if c<(if lo>n then lo else n)then c else(if lo>n then lo else n))] a))))|false=>.bad)=_;rw[iL e];rfl) trivial ?_
 exact rE 11<|BH rfl a9 rfl (ah (λs=>s) rfl rfl ⟨⟨rfl,q7 _ d,rR _ d⟩,trivial⟩ rfl)
def jr{a c}{b d}{n lo h}{K}{ap}(o:Lg a d=some (vI n))(k:Nat.ble (d+1) a.length=true)(m:zS d [vI (bV n lo h)] a=c)(g:eW a=true)(e:eW c=true)(j:Nat.blt b ap=true)(i:K b=some (.box a)):
  pM C0.P C0.G 47 [.ptr b d,vI lo,vI h] K ap (λx h'=>x=.A []∧h'=an K b (some (.box c))):=by
 subst m;have:=(y2 a d n lo h o (aJ k) e).Y' b K ap (aJ j) (rR 1 g) (by rw[i];exact q7 _ g) rfl;rwa[<-q7 _ e]at this
def Xy(rows)(k)(n lo a)(b:rows[k]?=some [vI n]):
  pM C0.P C0.G 47 [.x 0 k 0,vI lo,vI a] (ao [(0,.arr rows 1)]) 1 (λx h'=>x=.A []∧h'=ao [(0,.arr (rows.set k [vI (bV n lo a)]) 1)]):=by
 refine HCall.intro fw.at func47 rfl rfl (by kernel_rfl) rfl rfl<|qS 0 rfl<|FO [.v _] rfl rfl rfl ⟨aG _,b⟩ rfl<|qR 0 rfl<|zW _ rfl<|zW _ rfl<|zY [.v _] rfl ⟨aG _,b⟩ ?_;exact BH rfl a9 rfl (ah (λs=>s) rfl rfl wH rfl)
def Np{rows rows'}{b k}{n lo a}{K}{ap}(g:rows[k]?=some [vI n])(e:rows.set k [vI (bV n lo a)]=rows')(d:Nat.blt b ap=true)(c:K b=some (.arr rows 1)):
  pM C0.P C0.G 47 [.x b k 0,vI lo,vI a] K ap (λx h'=>x=.A []∧h'=an K b (some (.arr rows' 1))):=by
 subst e;exact(Xy rows k n lo a g).Y' b K ap (aJ d) rfl c rfl
def Bo(a b:Nat):bv.ok (vI (if(b:Int)<(a:Int)then(b:Int)else(a:Int)))=.ok (vN (min a b)):=by congr 3;split<;>omega
def Cr{α}(f)(l:List α)(z:List AV)(n)(a:n=min l.length 64):(List.replicate n z).take 0++(l.map f).take (min (l.map f).length n)++(List.replicate n z).drop (0+min (l.map f).length n)=(l.take 64).map f:=by
 subst a;rw[aH,pV,iA,cB (by rw[cM];omega),dY, <-eO];congr 1;rcases Nat.le_total l.length 64 with h|h
 ·rw[aN ad,aN ad]
 congr 1;omega
def cD{α}(f:α->List AV)(l:List α):bv.ok (vI ((l.map f).length:Int))=.ok (vN l.length):=by rw[aH]
def DO(c:Cf)(k:Nat):List (List AV):=((((c.J.take 64).take k).map λn=>bV n 1 8)++(c.J.take 64).drop k).map a_
def Nq(c)(k)(h:(c.J.take 64).length<=k):DO c k=(bZ c).J.map a_:=by
 unfold DO bZ;rw[aN h,cB h,dY]
def Nr{c}{k}{x}(a:(c.J.take 64)[k]?=some x):(DO c k)[k]?=some (a_ x):=by
 unfold DO;rw[aX,bM (by simp;omega)];simp only[aH,aM];rw[cL,show k+(k-min k _)=k by have:k<(c.J.take 64).length:=((Em.1 a).1);rw[aM]at this;omega,a];rfl
def Ns{c}{k}{x}(a:(c.J.take 64)[k]?=some x):(DO c k).set k [vI (bV x 1 8)]=DO c (k+1):=by
 unfold DO;generalize c.J.take 64=l at a⊢;have b:=(Em.1 a).1;have d:((l.take k).map λn=>bV n 1 8).length=k:=by rw[aH,aM];omega
 have e:l[k]=x:=by rw[aA b]at a;exact ft a
 rw[show([.v _]:List AV)=a_ (bV x 1 8)from rfl, <-List.map_set,iN _ _ ad,d,eK,bF b,gM,bW,a];simp
def Nt(c)(k)(h:k<=(c.J.take 64).length):(DO c k).length=(c.J.take 64).length:=by
 unfold DO;simp only[aH,aU,bD];rw[List.length_take_of_le h];omega
def II{p}{x}{h}{b rs}{r a}(e:r=a):bv.fx p x (an h b (some (.arr r rs)))=.fx p x (an h b (some (.arr a rs))):=by rw[e]
def Eb(c)(j m)(v:c.ok):bI C0 23 [.agg (fv c j m)] (.agg (fv (bZ c) false false)):=by
 refine bx func23 rfl<|zH rfl (jr rfl rfl rfl rfl rfl rfl rfl) ?_;rintro _ _ ⟨rfl,rfl⟩;apply zH rfl (jr rfl rfl rfl rfl rfl rfl rfl);rintro _ _ ⟨rfl,rfl⟩;apply zH rfl (jr rfl rfl rfl rfl rfl rfl rfl);rintro _ _ ⟨rfl,rfl⟩;apply zH rfl (jr rfl rfl rfl rfl rfl rfl rfl);rintro _ _ ⟨rfl,rfl⟩;apply zH rfl (jr rfl rfl rfl rfl rfl rfl rfl);rintro _ _ ⟨rfl,rfl⟩;apply zH rfl (jr rfl rfl rfl rfl rfl rfl rfl);rintro _ _ ⟨rfl,rfl⟩;apply zH rfl (jr rfl rfl rfl rfl rfl rfl rfl);rintro _ _ ⟨rfl,rfl⟩;refine cq ((bV c.Q 1 4)==3) (λq=>?_) (λq=>?_)
 ·refine zH rfl (jr rfl rfl rfl rfl rfl rfl rfl) ?_;rintro _ _ ⟨rfl,rfl⟩;refine rW _ rfl (cD a_ c.J)<|rW _ rfl (Bo c.J.length 64)<|zF (rfl) (⟨aG _,iF _,by show(((min c.J.length 64):Nat):Int)<=1000000;have:=(aL (eX c.J.length 64) (aC 64));omega⟩)<|zF (II (Cr a_ c.J [vI 0] _ rfl)) (⟨by simp,trivial⟩)<|zV (vN (min c.J.length 64))<|dy (λk=>⟨be [(1,.ptr 0 0),(2,.ptr 1 0),(3,.F 47 [] []),(4,.S 36 0 (min c.J.length 64) false),(45,vN (min c.J.length 64)),(46,vN k)],ao [(0,.box [vI (bV c.mode 0 2),vI (bV c.u 1 2),vI (bV c.Z 2 8),vI (bV c.queue 1 4),vI (bV c.W 1 4),vI (bV c.C 2 6),vI 2,vI (bV c.ways 1 2),.X 1 (c.J.map a_) j,vB c.tables,.X 1 (c.tape.map dU) m]),(1,.box [vI 0,vI 0,vI 0,vI 0,vI 0,vI 0,vI 0,vI 0,.X 0 ([]) true,vB false,.X 0 ([]) true]),(36,.arr (DO c k) 1)],45⟩) (λk=>k<=min c.J.length 64) (λk=>min c.J.length 64-k) 0 (λs=>s) (au (λs=>s) wT wH rfl) (aE _) ?_;intro k u;have r:k<=1000000:=oT;refine bu (ar (b2 _ _)) (λb=>?_) (λb=>?_)
  ·skip
   have g:k<(c.J.take 64).length:=by have:=a7 b;rw[aM];omega
   let⟨x,h⟩:∃x,(c.J.take 64)[k]?=some x:=⟨_,aA g⟩;have i:(DO c k)[0+k]?=some [vI x]:=by rw[bJ];exact Nr h
   refine nW (.x 36 (0+k) 0) rfl rfl (⟨aG _,by show(k:Int)<((min c.J.length 64:Nat):Int);have:=a7 b;omega⟩)<|zH rfl (Np (rows':=DO c (k+1)) (k:=0+k) (n:=x) i ((bJ k).symm ▸ Ns h) rfl rfl) ?_;rintro _ _ ⟨rfl,rfl⟩;refine zW _ (ax (bH (aD r (aC 1)) rfl)) ?_;refine⟨k+1,λs=>s,au _ wT wH rfl,oH (a7 b),by have:=a7 b;show min c.J.length 64-(k+1)<min c.J.length 64-k;omega⟩
  refine rW _ rfl (cD dU c.tape)<|rW _ rfl (Bo c.tape.length 64)<|zF (rfl) (⟨aG _,iF _,by show(((min c.tape.length 64):Nat):Int)<=1000000;have:=(aL (eX c.tape.length 64) (aC 64));omega⟩)<|zF (II (Cr dU c.tape [zU] _ rfl)) (⟨by simp,trivial⟩) ?_;have e:(c.J.take 64).length<=k:=by rw[aM];have:=aF b;omega
  have a:=Nt c k (by rw[aM];omega);have n:List.take (min c.J.length 64) (List.drop 0 (DO c k))=(bZ c).J.map a_:=by rw[bS,aN (by rw[a,aM];omega),Nq c k e]
  have o:List.take (min c.tape.length 64) (List.drop 0 ((c.tape.take 64).map dU))=(bZ c).tape.map dU:=by rw[bS,aN (by rw[aH,aM];omega)];rfl
  have p:(bZ c).Q=2:=aa (sU q);refine dK rfl (r4 (r4 ⟨by show 0+min c.J.length 64<=(DO c k).length;rw[a,aM];omega,trivial,by show 0+min c.tape.length 64<=((c.tape.take 64).map dU).length;rw[aH,aM];omega,trivial⟩)) rfl ?_;show AV.agg [vI (bV c.mode 0 2),vI (bV c.u 1 2),vI (bV c.Z 2 8),vI (bV c.queue 1 4),vI (bV c.W 1 4),vI (bV c.C 2 6),vI 2,vI (bV c.ways 1 2),.X 1 (List.take (min c.J.length 64) (List.drop 0 (DO c k))) false,vB c.tables,.X 1 (List.take (min c.tape.length 64) (List.drop 0 ((c.tape.take 64).map dU))) false]=AV.agg (fv (bZ c) false false);rw[n,o];show _=AV.agg [vI (bZ c).mode,vI (bZ c).u,vI (bZ c).Z,vI (bZ c).queue,vI (bZ c).W,vI (bZ c).C,vI (bZ c).Q,vI (bZ c).ways,.X 1 ((bZ c).J.map a_) false,vB (bZ c).tables,.X 1 ((bZ c).tape.map dU) false];rw[p];rfl
 refine zH rfl (jr rfl rfl rfl rfl rfl rfl rfl) ?_;rintro _ _ ⟨rfl,rfl⟩;refine rW _ rfl (cD a_ c.J)<|rW _ rfl (Bo c.J.length 64)<|zF (rfl) (⟨aG _,iF _,by show(((min c.J.length 64):Nat):Int)<=1000000;have:=(aL (eX c.J.length 64) (aC 64));omega⟩)<|zF (II (Cr a_ c.J [vI 0] _ rfl)) (⟨by simp,trivial⟩)<|zV (vN (min c.J.length 64))<|dy (λk=>⟨be [(1,.ptr 0 0),(2,.ptr 1 0),(3,.F 47 [] []),(4,.S 34 0 (min c.J.length 64) false),(45,vN (min c.J.length 64)),(46,vN k)],ao [(0,.box [vI (bV c.mode 0 2),vI (bV c.u 1 2),vI (bV c.Z 2 8),vI (bV c.queue 1 4),vI (bV c.W 1 4),vI (bV c.C 2 6),vI (bV c.Q 1 4),vI (bV c.ways 1 2),.X 1 (c.J.map a_) j,vB c.tables,.X 1 (c.tape.map dU) m]),(1,.box [vI 0,vI 0,vI 0,vI 0,vI 0,vI 0,vI 0,vI 0,.X 0 ([]) true,vB false,.X 0 ([]) true]),(34,.arr (DO c k) 1)],43⟩) (λk=>k<=min c.J.length 64) (λk=>min c.J.length 64-k) 0 (λs=>s) (au (λs=>s) wT wH rfl) (aE _) ?_;intro k u;refine bu (ar (b2 _ _)) (λd=>?_) (λd=>?_)
 ·skip
  have g:k<(c.J.take 64).length:=by have:=a7 d;rw[aM];omega
  let⟨x,h⟩:∃x,(c.J.take 64)[k]?=some x:=⟨_,aA g⟩;have i:(DO c k)[0+k]?=some [vI x]:=by rw[bJ];exact Nr h
  refine nW (.x 34 (0+k) 0) rfl rfl (⟨aG _,by show(k:Int)<((min c.J.length 64:Nat):Int);have:=a7 d;omega⟩)<|zH rfl (Np (rows':=DO c (k+1)) (k:=0+k) (n:=x) i ((bJ k).symm ▸ Ns h) rfl rfl) ?_;rintro _ _ ⟨rfl,rfl⟩;have t:k+1<=1000001:=aD oT (aC 1);refine zW _ (ax (bH t rfl)) ?_;refine⟨k+1,λs=>s,au _ wT wH rfl,oH (a7 d),by have:=a7 d;show min c.J.length 64-(k+1)<min c.J.length 64-k;omega⟩
 refine rW _ rfl (cD dU c.tape)<|rW _ rfl (Bo c.tape.length 64)<|zF (rfl) (⟨aG _,iF _,by show(((min c.tape.length 64):Nat):Int)<=1000000;have:=(aL (eX c.tape.length 64) (aC 64));omega⟩)<|zF (II (Cr dU c.tape [zU] _ rfl)) (⟨by simp,trivial⟩) ?_;have e:(c.J.take 64).length<=k:=by rw[aM];have:=aF d;omega
 have a:=Nt c k (by rw[aM];omega);have n:List.take (min c.J.length 64) (List.drop 0 (DO c k))=(bZ c).J.map a_:=by rw[bS,aN (by rw[a,aM];omega),Nq c k e]
 have o:List.take (min c.tape.length 64) (List.drop 0 ((c.tape.take 64).map dU))=(bZ c).tape.map dU:=by rw[bS,aN (by rw[aH,aM];omega)];rfl
 have p:(bZ c).Q=bV c.Q 1 4:=dZ (sU q);refine dK rfl (r4 (r4 ⟨by show 0+min c.J.length 64<=(DO c k).length;rw[a,aM];omega,trivial,by show 0+min c.tape.length 64<=((c.tape.take 64).map dU).length;rw[aH,aM];omega,trivial⟩)) rfl ?_;show AV.agg [vI (bV c.mode 0 2),vI (bV c.u 1 2),vI (bV c.Z 2 8),vI (bV c.queue 1 4),vI (bV c.W 1 4),vI (bV c.C 2 6),vI (bV c.Q 1 4),vI (bV c.ways 1 2),.X 1 (List.take (min c.J.length 64) (List.drop 0 (DO c k))) false,vB c.tables,.X 1 (List.take (min c.tape.length 64) (List.drop 0 ((c.tape.take 64).map dU))) false]=AV.agg (fv (bZ c) false false);rw[n,o];show _=AV.agg [vI (bZ c).mode,vI (bZ c).u,vI (bZ c).Z,vI (bZ c).queue,vI (bZ c).W,vI (bZ c).C,vI (bZ c).Q,vI (bZ c).ways,.X 1 ((bZ c).J.map a_) false,vB (bZ c).tables,.X 1 ((bZ c).tape.map dU) false];rw[p];rfl
abbrev a8(x:Wy):List AV:=[.v (.int .u32 (x.R:Int)),.v (.bool x.Z'),.v (.string x.data)]
abbrev Up(s:List Wy):AV:=.X 3 (s.map a8) false
abbrev bX(s:List Wy):List AV:=[Up s]
abbrev fi(c:Ca)(k:Bool):List AV:=[.v (.int .i64 c.ways),.X 1 (c.Q.map bX) k]
abbrev b3(x:a2):List AV:=[.v (.int .i64 x.kind),.v (.int .u32 (x.R:Int)),.v (.int .i64 x.left),.v (.string x.data)]
def A5(o:Option Nat):AV:=.A [vN (o.getD 0),vB o.isSome]
structure Wy.ok(x:Wy):Prop where
 R:x.R<=4294967295
structure Ca.ok(c:Ca):Prop where
 Q:c.Q.length<=9223372036854775807
 set:∀s∈c.Q,s.length<=9223372036854775807∧∀x∈s,x.ok
def dV{a}(h:a<=4294967295):ab a<=4294967295:=by unfold ab;omega
def xp{a b:Nat}(h:a=b):AV.v (.int .u32 (a:Int))=vU b:=by rw[h]
def nd{a b:Nat}(h:a=b):AV.v (.int .i64 (a:Int))=vI (b:Int):=by rw[h]
def iH{α}{f:α->List AV}{l:List α}{k:Nat}{x}(h:l[k]?=some x):(l.map f)[k]?=some (f x):=by rw[aX,h];rfl
def tN(a)(b:a<=4294967295):bI C0 54 [vU a] (vU (ab a)):=by
 apply bx func54 rfl;apply nW (vU (a%16)) rfl rfl dT;exact zW _ (ax (Gn (aI (aQ _ dT)) rfl))<|fT rfl (xp (by unfold ab;omega))
def VO(c)(agY)(d)(g:0<c.Q.length)(e:c.Q.length<=1000000)(a:agY<=4294967295):bI C0 114 [.agg (fi c d),vU agY] (vN (h_ c agY)):=by
 apply bx func114 rfl;have b:agY/16<=268435455:=eG a;exact zM _ (kl (nJ b rfl)) dT<|rW _ rfl (cD bX c.Q)<|rW _ rfl (ax (nJ e rfl)) (nW _ rfl rfl ad<|zW _ (ax (bH (aL (gR _ _) b) rfl))<|fT rfl rfl)
def OQ{s}{agY k}{x}(d:s[k]?=some x)(c: ¬x.R=agY)(h:jY s agY=(jY (s.drop k) agY).map (· +k)):jY s agY=(jY (s.drop (k+1)) agY).map (· +(k+1)):=by
 let⟨b,a⟩:=Em.1 d;rw[h,bF b,a];simp[jY,dZ c,Option.map_map];congr 1;funext i;show i+1+k=i+(k+1);omega
def OR{s}{agY k}{x}(d:s[k]?=some x)(c:x.R=agY)(h:jY s agY=(jY (s.drop k) agY).map (· +k)):jY s agY=some k:=by
 let⟨b,a⟩:=Em.1 d;rw[h,bF b,a];simp[jY,c]
def Rk{s}{agY k}(a:s.length<=k)(h:jY s agY=(jY (s.drop k) agY).map (· +k)):jY s agY=none:=by
 rw[h,cB a];rfl
def VP(s)(agY)(e)(j:s.length<=1000000)(i:∀x∈s,x.ok)(g:agY<=4294967295):bI C0 115 [.X 3 (s.map a8) e,vU agY] (A5 (jY s agY)):=by
 refine bx func115 rfl<|zW _ (cD a8 s)<|dy (λk=>⟨be [(1,vU agY),(8,.X 3 (s.map a8) e),(9,vN s.length),(10,vN k)],ao [],5⟩) (λk=>k<=s.length∧jY s agY=(jY (s.drop k) agY).map (· +k)) (λk=>s.length-k) 0 (λs=>s) (au (λs=>s) wT trivial rfl) (⟨aE _,by simp⟩) ?_;intro k b;refine bu (ar (b2 _ _)) (λa=>?_) (λa=>?_)
 ·skip
  let⟨x,d⟩:∃x,s[k]?=some x:=⟨_,aA (a7 a)⟩;refine zX (a8 x) (.dp 3 0 (a8 x)) rfl (iH d)<|bu (ar (b8 _ _)) (λc=>?_) (λc=>?_)
  ·exact fT rfl (by rw[OR d (sU c) b.2];rfl)
  skip
  have h:k+1<=1000001:=aD (oH b.1) (aC 1);refine zW _ (ax (bH h rfl)) ?_;refine⟨k+1,λs=>s,au _ wT trivial rfl,⟨a7 a,OQ d (sU c) b.2⟩,oH (a7 a)⟩
 exact fT rfl (by rw[Rk (oH (aF a)) b.2];rfl)
def FZ(c:Ca)(k:Nat)(s:List Wy)(i:Nat)(x:Wy):Prop:=ab x.R=x.R∧h_ c x.R=k∧(x.data.size=0∨x.data.size=16)∧jY (s.take i) x.R=none
def jX(c)(k)(s):xB c k s=true↔(s.length:Int)<=c.ways∧∀i x,s[i]?=some x->FZ c k s i x:=by
 unfold xB FZ;simp only[aP,aY,rC,lI];refine and_congr_right λ_=>⟨λh i x b=>?_,λh i a=>?_⟩
 ·have:=h i (Em.1 b).1;rw[b]at this;simp only[aP,dE,aY,iO]at this;exact⟨this.1.1.1,this.1.1.2,this.1.2,this.2⟩
 rw[aA a];have:=h i _ (aA a);simp only[aP,dE,aY,iO];exact⟨⟨⟨this.1,this.2.1⟩,this.2.2.1⟩,this.2.2.2⟩
def jL(c):gG c=true↔((c.Q.length=1∨c.Q.length=2∨c.Q.length=4)∧(c.ways=1∨c.ways=2))∧∀k s,c.Q[k]?=some s->xB c k s=true:=by
 unfold gG;simp[aP,dE,aY,rC,lI];refine and_congr ?_ ⟨λh k s b=>?_,λh k a=>?_⟩
 ·rw[or_assoc]
 ·have:=h k (Em.1 b).1
  rwa [b]at this
 rw[aA a];exact h k _ (aA a)
def yF{c:Ca}(h: ¬gG c=true):gG c=false:=sU h
def AU{n}{w:Int}(h:cE (cE (cE (n != 1) (n != 2) false) (n != 4) false) true (cE (w != 1) (w != 2) false)=false):(n=1∨n=2∨n=4)∧(w=1∨w=2):=by
 simp[c2]at h;constructor
 ·by_cases a:n=1<;>by_cases b:n=2<;>by_cases c:n=4<;>simp_all
 by_cases a:w=1
 ·exact .inl a
 by_cases b:w=2
 ·exact .inr b
 simp[a,b]at h;omega
def Kw{n}{w:Int}(h:cE (cE (cE (n != 1) (n != 2) false) (n != 4) false) true (cE (w != 1) (w != 2) false)=true): ¬((n=1∨n=2∨n=4)∧(w=1∨w=2)):=by
 rintro⟨rfl|rfl|rfl,rfl|rfl⟩<;>simp[cE]at h
def Xt{c}{k j}{s}{x}(a:cE ((ab x.R) != x.R) true ((h_ c x.R) != k)=false)(b:cE ((x.data.size:Int) != 0) ((x.data.size:Int) != 16) false=false)(d:(jY (s.take j) x.R).isSome=false):FZ c k s j x:=by
 simp[c2]at a b;refine⟨?_,?_,?_,sU d⟩
 ·by_cases h:ab x.R=x.R<;>simp_all
 ·by_cases h:h_ c x.R=k<;>simp_all
 by_cases h:x.data.size=0
 ·exact .inl h
 right;simp_all;omega
def Uq{c:Ca}{k j:Nat}{s:List Wy}{x:Wy}(h:cE ((ab x.R) != x.R) true ((h_ c x.R) != k)=true): ¬FZ c k s j x:=λq=>by
 rw[q.1,q.2.1]at h;simp[cE]at h
def Ur{c:Ca}{k j:Nat}{s:List Wy}{x:Wy}(h:cE ((x.data.size:Int) != 0) ((x.data.size:Int) != 16) false=true): ¬FZ c k s j x:=λq=>by
 rcases q.2.2.1 with e|e<;>rw[e]at h<;>simp[cE]at h
def Us{c:Ca}{k j:Nat}{s:List Wy}{x:Wy}(h:(jY (s.take j) x.R).isSome=true): ¬FZ c k s j x:=λq=>by
 rw[q.2.2.2]at h;cases h
def OS{c:Ca}{k:Nat}{s:List Wy}(d:c.Q[k]?=some s)(h:xB c k s=true)(b:∀i s,i<k->c.Q[i]?=some s->xB c i s=true):∀i s,i<k+1->c.Q[i]?=some s->xB c i s=true:=λi g j a=>by
 by_cases e:i=k
 ·subst e;rw[d]at a;injection a with e;exact e ▸ h
 exact b i g ad a
def Ut{c:Ca}{k j:Nat}{s:List Wy}{x:Wy}(d:s[j]?=some x)(h:FZ c k s j x)(b:∀i x,i<j->s[i]?=some x->FZ c k s i x):∀i x,i<j+1->s[i]?=some x->FZ c k s i x:=λi g m a=>by
 by_cases e:i=j
 ·subst e;rw[d]at a;injection a with e;exact e ▸ h
 exact b i g ad a
def AW(c)(b)(E:c.ok):bI C0 84 [.agg (fi c b)] (vB (gG c)):=by
 refine bx func84 rfl<|zW _ (cD bX c.Q)<|zW _ (ar (ee _ _))<|a' rfl id (ar (ee _ _))<|zN rfl (λh=>h)<|a' rfl id (ar (ee _ _))<|zN rfl (λh=>h)<|gS rfl id<|a' rfl id rfl<|zG rfl id<|gS rfl id<|a' rfl id rfl<|pB rfl rfl rfl rfl (λh=>h) rfl rfl (λB H=>by first|(rw[B,H];rfl)|simp_all)<|zN rfl (by simp)<|zB rfl (λd=>?_) (λd=>?_)
 ·exact lk rfl (yF (λq=>Kw d ((jL c).1 q).1)).symm
 refine zW _ (cD bX c.Q)<|dy (λk=>⟨be [(1,.ptr 0 0),(3,vN c.Q.length),(34,.X 1 (c.Q.map bX) b),(35,vN c.Q.length),(36,vN k)],ao [(0,.box [vI c.ways,.X 1 (c.Q.map bX) b])],30⟩) (λk=>k<=c.Q.length∧∀i s,i<k->c.Q[i]?=some s->xB c i s=true) (λk=>c.Q.length-k) 0 (λs=>s) (au (λs=>s) wT wH rfl) (⟨aE _,λi s h=>absurd h (dG i)⟩) ?_;intro k A;have D:k<=1000000:=by have:=A.1;have:=(AU d).1;omega
 refine bu (ar (b2 _ _)) (λe=>?_) (λe=>?_)
 ·skip
  let⟨s,a⟩:∃s,c.Q[k]?=some s:=⟨_,aA (a7 e)⟩;have r:=E.set s (aB a);refine zX (bX s) (.dp 1 0 (bX s)) rfl (iH a)<|zW _ (cD a8 s)<|cq (decide (((s.length:Nat):Int)>c.ways)) (λo=>?_) (λo=>?_)
  ·exact lk rfl (yF (λq=>absurd ((jX c k s).1 (((jL c).1 q).2 k s a)).1 (oH (a7 o)))).symm
  refine zW _ (cD a8 s)<|dy (λj=>⟨be [(1,.ptr 0 0),(3,vN c.Q.length),(34,.X 1 (c.Q.map bX) b),(35,vN c.Q.length),(36,vN k),(4,vN k),(5,.X 3 (s.map a8) false),(46,.X 3 (s.map a8) false),(47,vN s.length),(48,vN j)],ao [(0,.box [vI c.ways,.X 1 (c.Q.map bX) b])],44⟩) (λj=>j<=s.length∧∀i x,i<j->s[i]?=some x->FZ c k s i x) (λj=>s.length-j) 0 (λs=>s) (au (λs=>s) wT wH rfl) (⟨aE _,λi s h=>absurd h (dG i)⟩) ?_;intro j z;have C:j<=1000000:=by have:=z.1;have:=(AU d).2;have:=aF o;omega
  refine bu (ar (b2 _ _)) (λg=>?_) (λg=>?_)
  ·skip
   let⟨x,m⟩:∃x,s[j]?=some x:=⟨_,aA (a7 g)⟩;have n:=r.2 x (aB m);refine zX (a8 x) (.dp 3 0 (a8 x)) rfl (iH m)<|zR<|zC (tN x.R n.R)<|zW _ (ar (ee _ _))<|zG rfl id<|zQ rfl cj rfl (.inl rfl) (λB=>VO c x.R b (oH (a7 e)) (oH ((AU d).1)) n.R)<|gc rfl cj (ar (ee _ _))<|zN rfl (by simp)<|zB rfl (λt=>?_) (λt=>?_)
   ·exact lk rfl (yF (λq=>Uq t (((jX c k s).1 (((jL c).1 q).2 k s a)).2 j x m))).symm
   refine rV (vI (x.data.size:Int)) rfl<|zV (vB ((x.data.size:Int) != 0))<|gS rfl id<|a' rfl id rfl<|a' rfl id rfl<|zN rfl (λh=>h)<|zB rfl (λu=>?_) (λu=>?_)
   ·exact lk rfl (yF (λq=>Ur u (((jX c k s).1 (((jL c).1 q).2 k s a)).2 j x m))).symm
   refine zR<|zM (.X 3 (List.drop 0 (List.take j (s.map a8))) false) rfl (⟨iF _,aG _,by show(j:Int)<=(((s.map a8).length:Nat):Int);rw[aH];have:=a7 g;omega⟩)<|zC (by show bI C0 _ [.X 3 (List.drop 0 (List.take j (s.map a8))) false,_] _;rw[bS, <-eO];exact VP (s.take j) x.R false (by rw[aM];omega) (λy p=>r.2 y (cQ p)) n.R)<|zB rfl (λv=>?_) (λv=>?_)
   ·exact lk rfl (yF (λq=>Us v (((jX c k s).1 (((jL c).1 q).2 k s a)).2 j x m))).symm
   skip
   have F:j+1<=1000001:=aD C (aC 1);refine zW _ (ax (bH F rfl)) ?_;refine⟨j+1,λs=>s,au _ wT wH rfl,⟨a7 g,Ut m (Xt t u v) z.2⟩,oH (a7 g)⟩
  have G:k+1<=1000001:=aD D (aC 1);refine zW _ (ax (bH G rfl)) ?_;refine⟨k+1,λs=>s,au _ wT wH rfl,⟨a7 e,OS a ((jX c k s).2 ⟨oH (aF o),λi y p=>z.2 i y (by have:=(Em.1 p).1;have:=aF g;omega) p⟩) A.2⟩,oH (a7 e)⟩
 exact lk rfl ((jL c).2 ⟨AU d,λi s a=>A.2 i s (by have:=(Em.1 a).1;have:=aF e;omega) a⟩).symm
def SW:AV:=.X 0 [] true
def oM(rs:Nat)(c:Bool):Sub (.X 0 [] true) (.X rs [] c):=λS w v h=>by
 cases h with
 |X _ _ _ A e b o u k m d n hA q g p=>exact .X rs [] c A e b o u k m (λ_=>d rfl) nofun (λh=>absurd h (iI 0)) (λi row j a h=>by simp at h) g λi row j a h=>by simp at h
theorem Sub.X{rs}{rows rows'}{n}(r:rows.length=rows'.length)(t:∀(i:Nat) row d,rows[i]?=some row->rows'[i]?=some d->row.length=d.length∧∀(j:Nat) a b,row[j]?=some a->d[j]?=some b->Sub a b):Sub (.X rs rows n) (.X rs rows' n):=λS w v h=>by
 cases h with
 | X _ _ _ A c b o u D E y B hA G C F=>
  rw[r];have m:∀(i:Nat) d,rows'[i]?=some d->∃row,rows[i]?=some row:=λi d h=>⟨_,aA (by rw[r];exact(Em.1 h).1)⟩;have p:∀(i:Nat) row d (j:Nat) b,rows[i]?=some row->rows'[i]?=some d->d[j]?=some b->∃a,row[j]?=some a:=λi row d j b h h' q=>⟨_,aA (by rw[(t i row d h h').1];exact(Em.1 q).1)⟩;refine .X rs rows' n A c b o u (r ▸ D) E (λe=>(y e).trans r) (λd z=>?_) (λH=>hA ad) (λi d j a k q=>?_) C λi d j a k q=>?_
  ·obtain⟨i,k,rfl⟩:=fY z;let⟨row,g⟩:=m i _ (aA k);rw[<-(t i row _ g (aA k)).1];exact B row (aB g)
  ·let⟨row,g⟩:=m i d k;let⟨x,s⟩:=p i row d j a g k q;exact G i row j x g s
  ·let⟨row,g⟩:=m i d k;let⟨x,s⟩:=p i row d j a g k q;exact(t i row d g k).2 j x a s q S w _ (F i row j x g s)
def kz:List AV->List AV->Prop
 |[],[]=>True
 |a::c,b::d=>Sub a b∧kz c d
 |_,_=>False
theorem kz.get:∀{c d:List AV},kz c d->c.length=d.length∧∀(i:Nat) a b,c[i]?=some a->d[i]?=some b->Sub a b
 |[],[],_=>⟨rfl,λi a b h=>by simp at h⟩
 |x::c,y::d,h=>by
  let⟨j,k⟩:=kz.get h.2;refine⟨by simp[j],λi a b e g=>?_⟩
  cases i with
  |zero=>simp at e g;subst e;subst g;exact h.1
  |succ i=>exact k i a b (sU e) (sU g)
 |[],_::_,h=>h.elim
 |_::_,[],h=>h.elim
theorem Sub.agg{a c}(h:kz a c):Sub (.agg a) (.agg c):=λS w v k=>by
 cases k with
 |agg _ m g e j=>
  refine .agg c m (h.get.1 ▸ g) e λi b u p q=>?_;have d:i<a.length:=by rw[h.get.1];exact(Em.1 p).1
  exact h.get.2 i a[i] b (aA d) p S w u (j i _ u (aA d) q)
theorem Sub.A{a c}(h:kz a c):Sub (.A a) (.A c):=λS w v j=>by
 cases j with
 |A _ k e g=>
  refine .A c k (h.get.1 ▸ e) λi b u p q=>?_;have d:i<a.length:=by rw[h.get.1];exact(Em.1 p).1
  exact h.get.2 i a[i] b (aA d) p S w u (g i _ u (aA d) q)
theorem Sub.clip(rs)(rows)(c):Sub (.X rs rows c) (.X rs rows false):=λS w v h=>by
 cases h with
 |X _ _ _ A d b o u g i m a hA k e j=>exact .X rs rows false A d b o u g i nofun a hA k e j
def Nk(n):Sub (.X 1 (List.replicate n [SW]) false) (.X 1 (List.replicate n (bX [])) false):=by
 refine Sub.X (by simp) λi row k h h'=>?_;have e:=gK (aB h);have g:=gK (aB h');subst e g;refine⟨rfl,λj a b c d=>?_⟩
 cases j with
 |zero=>injection c with c;injection d with d;subst c d;exact oM 3 false
 |succ j=>simp at c
abbrev cy(x:Gs):List AV:=[.v (.int .u32 (x.K:Int)),.v (.int .u32 (x.next:Int))]
abbrev hK(g:Gu):List AV:=[.X 2 (g.C.map cy) false,.v (.int .u32 (g.Z6:Int)),.X 1 (g.I.map dU) false]
def VN(a ways):bI C0 25 [vI a,vI ways] (.agg (fi (CZ a ways) false)):=by
 apply bx func25 rfl;let⟨L,b,d,g⟩:∃L:Nat,bV a 1 4=(L:Int)∧L<=4∧1<=L:=⟨(bV a 1 4).toNat,by unfold bV;(repeat' split)<;>omega,by unfold bV;(repeat' split)<;>omega,by unfold bV;(repeat' split)<;>omega⟩;refine rV (vI (if 1>a then 1 else a)) rfl<|zW _ (a1 (λz:Int=>bv.ok (vI z)) b)<|bu (ar (b8 _ _)) (λc=>?_) (λc=>?_)
 all_goals
  refine rV (vI (if 1>ways then 1 else ways)) rfl<|zW (vI (if 2<(if 1>ways then 1 else ways)then 2 else(if 1>ways then 1 else ways))) rfl ?_
  first
   |refine eg rfl rfl (rfl) (⟨dT,dT,dT⟩)<|zW (.agg [vI (if 2<(if 1>ways then 1 else ways)then 2 else(if 1>ways then 1 else ways)),.S 12 0 2 false]) rfl ?_;have e:(CZ a ways).Q=List.replicate 2 []:=by show List.replicate (if bV a 1 4=3 then 2 else bV a 1 4).toNat []=_;rw[b];rw[aa (by have:L=3:=(sU c);omega)];rfl
    refine⟨_,rfl,⟨trivial,by show 0+2<=(List.replicate 2 [SW]).length;rw[cM];omega,trivial⟩,rfl,Sub.agg ⟨Sub.refl _,?_,trivial⟩⟩;show Sub (.X 1 (List.take 2 (List.drop 0 (List.replicate 2 [SW]))) false) (.X 1 ((CZ a ways).Q.map bX) false)
   |refine eg rfl rfl (rfl) (⟨aG _,iF _,by show(L:Int)<=1000000;have:=d;omega⟩)<|zW (.agg [vI (if 2<(if 1>ways then 1 else ways)then 2 else(if 1>ways then 1 else ways)),.S 11 0 L false]) rfl ?_;have e:(CZ a ways).Q=List.replicate L []:=by show List.replicate (if bV a 1 4=3 then 2 else bV a 1 4).toNat []=_;rw[b];rw[dZ (by have: ¬L=3:=(sU c);omega)];rfl
    refine⟨_,rfl,⟨trivial,by show 0+L<=(List.replicate L [SW]).length;rw[cM];omega,trivial⟩,rfl,Sub.agg ⟨Sub.refl _,?_,trivial⟩⟩;show Sub (.X 1 (List.take L (List.drop 0 (List.replicate L [SW]))) false) (.X 1 ((CZ a ways).Q.map bX) false)
  rw[e,bS,aN (by rw[cM];exact aC _),fH]
  first|exact Nk 2|exact Nk L
def C_:bI C0 26 [] (.agg (hK qz)):=by
 apply bx func26 rfl;refine eg rfl rfl (rfl) (⟨dT,dT,dT⟩)<|zV _ ?_;refine⟨_,rfl,⟨by show 0+8<=_;decide,trivial,trivial,trivial⟩,rfl,Sub.agg ⟨Sub.refl _,Sub.refl _,oM 1 false,trivial⟩⟩
abbrev a5(x:Ft):List AV:=[.v (.int .u32 (x.K:Int)),.v (.int .u32 (x.M:Int))]
abbrev av(x:Pt):List AV:=[.v (.int .u32 (x.V:Int)),.v (.string x.data)]
abbrev ak(e:ai):List AV:=[.v (.int .i64 e.no),.v (.int .u32 (e.K:Int)),.v (.int .i64 e.i.op),.v (.int .i64 e.i.rd),.v (.int .i64 e.i.j),.v (.int .i64 e.i.o),.v (.int .u32 (e.i.k:Int)),.v (.int .u32 (e.M:Int)),.v (.int .i64 e.is),.v (.int .i64 e.left),.v (.int .u32 (e.value:Int)),.v (.int .u32 (e.next:Int)),.v (.int .u32 (e.V:Int)),.v (.int .i64 e.halt),.v (.int .i64 e.ZX),.v (.bool e.known),.v (.bool e.Z3)]
abbrev ey(c:Co):List AV:=[.v (.int .i64 c.U.mode),.v (.int .i64 c.U.u),.v (.int .i64 c.U.Z),.v (.int .i64 c.U.queue),.v (.int .i64 c.U.W),.v (.int .i64 c.U.C),.v (.int .i64 c.U.Q),.v (.int .i64 c.U.ways),.X 1 (c.U.J.map a_) false,.v (.bool c.U.tables),.X 1 (c.U.tape.map dU) false,.X 1 (c.prog.map dU) false,.v (.int .i64 c.ZW),.v (.int .u32 (c.r 0:Int)),.v (.int .u32 (c.r 1:Int)),.v (.int .u32 (c.r 2:Int)),.v (.int .u32 (c.r 3:Int)),.v (.int .u32 (c.r 4:Int)),.v (.int .u32 (c.r 5:Int)),.v (.int .u32 (c.r 6:Int)),.v (.int .u32 (c.r 7:Int)),.v (.int .u32 (c.r 8:Int)),.v (.int .u32 (c.r 9:Int)),.v (.int .u32 (c.r 10:Int)),.v (.int .u32 (c.r 11:Int)),.v (.int .u32 (c.r 12:Int)),.v (.int .u32 (c.r 13:Int)),.v (.int .u32 (c.r 14:Int)),.v (.int .u32 (c.r 15:Int)),.v (.int .u32 (c.r 16:Int)),.v (.int .u32 (c.r 17:Int)),.v (.int .u32 (c.r 18:Int)),.v (.int .u32 (c.r 19:Int)),.v (.int .u32 (c.r 20:Int)),.v (.int .u32 (c.r 21:Int)),.v (.int .u32 (c.r 22:Int)),.v (.int .u32 (c.r 23:Int)),.v (.int .u32 (c.r 24:Int)),.v (.int .u32 (c.r 25:Int)),.v (.int .u32 (c.r 26:Int)),.v (.int .u32 (c.r 27:Int)),.v (.int .u32 (c.r 28:Int)),.v (.int .u32 (c.r 29:Int)),.v (.int .u32 (c.r 30:Int)),.v (.int .u32 (c.r 31:Int)),.v (.int .u32 (c.Yr:Int)),.v (.bool c.stop),.X 2 (c.O.map a5) false,.X 17 (c.Z.map ak) false,.v (.int .i64 c.next),.X 2 (c.W.map av) false,.v (.int .i64 c.data.ways),.X 1 (c.data.Q.map bX) false,.v (.int .i64 c.y.ways),.X 1 (c.y.Q.map bX) false,.X 4 (c.Y.map b3) false,.v (.int .i64 c.asked),.v (.int .i64 c.ZY),.v (.string c.mem),.X 2 (c.M.C.map cy) false,.v (.int .u32 (c.M.Z6:Int)),.X 1 (c.M.I.map dU) false,.v (.int .i64 c.halt),.X 9 (c.N.map a3) false]
theorem bI.sub{C}{f}{args}{r d}(h:bI C f args r)(k:Sub r d):bI C f args d:=⟨h.1,λS w g a b c=>(h.2 S w g a b c).mono λe i ⟨v,p,q,s⟩=>⟨v,p,q,k _ _ _ s⟩⟩
def Rj(k):bI C0 24 [.v (.slice none 0 k)] (.X 0 [] true):=by
 exact bx func24 rfl<|rV _ rfl<|cd 1 rfl<|fT rfl rfl
def FY{P}{w}(t ty e)(i)(h:P.underlying t=some (.slice e))(d:P.info? e=some i)(b)(c)(a)(k):
  (Builtin.append_ #[t,t] ty #[.slice b 0 c,.slice (some a) 0 k]).run P w=.ok (.slice b 0 c) w:=by
 have g:(loadCells a 0).run P w=.ok #[] w:=rfl;cases b<;>simp[Builtin.append_,run_underlying h,sizeOf,typeInfo,d,Builtin.lenOf,Builtin.firstCells,storeCells,g]
def yE{P}{w}{ops}{rest}{o}{a}{Q}(g:o.guard=none)(s x)(t)
  (n:o.op=.call {callee:=.builtin .append,args:= #[s,x],argTypes:= #[t,t]}) (e) (i) (q:P.underlying t=some (.slice e)) (m:P.info? e=some i)
  (c) (d) (b) (k) (p:a.eval s=.slice c 0 d) (r:a.eval x=.slice (some b) 0 k)
  (h:wpList P ops Q rest (a.put o.dst (.slice c 0 d)) w):wpList P ops Q (o::rest) a w:=by
 refine wpList_plain g λK j=>?_;unfold Oper.wp;simp[execOp,n,resolve,invoke,builtin,p,r,FY (w:=w) t o.type e i q m c d b k,Result.andThen];exact j _ _ h
def xg(a)(k)(w):Calls Tryz.prog 24 #[.slice (some a) 0 k] w λe w'=>∃v,e=.returned v∧Below w.heap.size w w'∧∃A c,v=.slice A 0 c∧c<=maxLen:=by
 let⟨i0,z0,hi, _⟩:=(fw.ty 28 _ rfl).ZO
 go_enter func24,ntmps24
 have hb:Sem.run Tryz.prog (binOp .eql 23 (.slice (some a) 0 k) (.slice none 0 0)) w=.ok (.bool false) w:=by
  simp only[binOp,Sem.run_bind,Bx Tryz.prog w 9999 _ 28 (fw.ty 23 _ rfl).kd _ _ _,Result.andThen_ok];rfl
 go_wp2_with (first|(rw[hb];simp[Result.andThen_ok,Oper.upon])|(at_builtin;refine yE rfl (.tmp 5) (.tmp 6) 23 rfl 28 i0 (fw.ty 23 _ rfl).kd hi _ _ _ _ rfl rfl ?_))
 go_ret
 exact⟨_,rfl,(Below.refl _ _).alloc (aC _) _,_,_,rfl,aE _⟩
def Xs(x)(a)(c)(b:(x::a).length<=1000000):bI C0 24 [.X 1 (x::a) c] (.X 1 (x::a) false):=by
 refine bx func24 rfl<|rV _ rfl<|qR 1 rfl<|zV (.X 1 ([]) true)<|zF (rfl) (⟨by first|(exact Nat.succ_pos _)|(simp[cX,bJ];exact b),by first|(exact Nat.succ_pos _)|(simp[cX,bJ];exact b),trivial,trivial⟩) ?_;refine⟨_,rfl,(oT:0+(0+(x::a).length)<=(x::a).length),rfl,?_⟩;show Sub (.X 1 (List.take (0+(x::a).length) (List.drop 0 ([]++(x::a)))) false) _;rw[bS,iA,bJ,aN (aC _)];exact Sub.refl _
def I0(rows)(k)(g:rows.length<=1000000):bI C0 24 [.X 1 rows k] (.X 1 rows false):=by
 match rows,g with
 |x::B,g=>exact Xs x B k g
 | [],_=>
  refine⟨(Rj 0).1,λS w z y t d=>?_⟩
  match z,d with
  |[],d=>simp[bs]at d
  |_::_::_,d=>simp[bs]at d
  | [v],d=>
   have p:=d.2 0 _ v rfl rfl
   cases p with
   | X _ _ _ A c b o u E F C D hA G m h'=>
    cases A with
    |none=>exact((Rj c).sub (oM 1 false)).2 S w _ y t (bs.cons (.v _) (bs.nil _ _ _))
    |some a=>
     exact(xg a c w).mono λe H ⟨v,m,q,A,n,r,s⟩=>⟨v,m,q,r ▸ .X 1 [] false A n 0 0 (λ_ _=>.bool false) (aE _) s nofun nofun (λh=>absurd h (iI 0)) (λi row j a h=>by simp at h) (λ_ _=>rfl) λi row j a h=>by simp at h⟩
def fX(c:Cf)(prog:List Nat)(m:ByteArray):Co:=
 {U:=bZ c,prog:=prog.take (min prog.length 64),ZW:=0,r:=λ_=>0,Yr:=0,stop:=false,O:=[],Z:=[],next:=1,W:=[],data:=CZ (bZ c).Q (bZ c).ways,y:=CZ (bZ c).Q (bZ c).ways,Y:=[],asked:=0,ZY:=0,mem:=jB m,M:=qz,halt:=0,N:=[]}
def EF(c)(prog)(m)(a:c.ok)(b:prog.length<=1000000):bI C0 16 [.agg (fv c false false),.X 1 (prog.map dU) false,.v (.string m)] (.agg (ey (fX c prog m))):=by
 refine bx func16 rfl<|zC (Eb c false false a)<|zR<|zW _ (cD dU prog)<|zW _ (Bo prog.length 64)<|zM _ rfl (⟨iF _,by show(0:Int)<=((min prog.length 64:Nat):Int);omega,by show((min prog.length 64:Nat):Int)<=(((prog.map dU).length:Nat):Int);rw[aH];omega⟩)<|zC (I0 (List.drop 0 (List.take (min prog.length 64) (prog.map dU))) _ (by rw[bD,aM,aH];omega))<|zC (VN (bZ c).Q (bZ c).ways)<|zC (VN (bZ c).Q (bZ c).ways)<|zC (KF m)<|zC (C_)<|zV _ ?_;exact⟨_,rfl,f_,rfl,Sub.agg ⟨Sub.refl _,Sub.refl _,Sub.refl _,Sub.refl _,Sub.refl _,Sub.refl _,Sub.refl _,Sub.refl _,Sub.refl _,Sub.refl _,Sub.refl _,(by show Sub (.X 1 (List.drop 0 (List.take (min prog.length 64) (prog.map dU))) false) (.X 1 ((prog.take (min prog.length 64)).map dU) false);rw[bS, <-eO];exact Sub.refl _),Sub.refl _,Sub.refl _,Sub.refl _,Sub.refl _,Sub.refl _,Sub.refl _,Sub.refl _,Sub.refl _,Sub.refl _,Sub.refl _,Sub.refl _,Sub.refl _,Sub.refl _,Sub.refl _,Sub.refl _,Sub.refl _,Sub.refl _,Sub.refl _,Sub.refl _,Sub.refl _,Sub.refl _,Sub.refl _,Sub.refl _,Sub.refl _,Sub.refl _,Sub.refl _,Sub.refl _,Sub.refl _,Sub.refl _,Sub.refl _,Sub.refl _,Sub.refl _,Sub.refl _,Sub.refl _,Sub.refl _,oM 2 false,oM 17 false,Sub.refl _,oM 2 false,Sub.refl _,Sub.refl _,Sub.refl _,Sub.refl _,oM 4 false,Sub.refl _,Sub.refl _,Sub.refl _,Sub.refl _,Sub.refl _,Sub.refl _,Sub.refl _,oM 9 false,trivial⟩⟩
def NF(l:List Nat)(k):(l.take k).sum<=l.sum:=by
 have:=a1 List.sum (js k l);rw[List.sum_append]at this;omega
noncomputable def i5:az:={P:=Tryz.prog,ty:=mn.find,G:=λ_=>none,H:=pM Tryz.prog (λ_=>none)}
def o5:b0 i5:=⟨TT.Zx mn wP,by kernel_rfl,λ_ _ _ _ _ h=>h⟩
def ln(p:Nat×Nat):List AV:=[vN p.1,vN p.2]
def oq(f:Nat):Nat:=if 2<=f∧f<=7 then 2 else 0
def XJ(c:Int):bI i5 86 [vI c] (vN (cW c)):=.of_flat func86 rfl rfl rfl rfl λw=>(Cb c w).mono λ_ _ ⟨a,b⟩=>⟨a,b ▸ rD _⟩
def CD(f:Nat)(c:f<=8):bI i5 122 [vN f] (.A [vB (yW f),vB (uS f),vB (vS f)]):=.Zp func122 rfl rfl rfl rfl λw=>(LB f c w).mono λ_ _ ⟨a,b⟩=>⟨a,b ▸ rD _⟩
def Ef(x a n:Nat)(b:1<=n)(c:a+n<=32)(d:x<4294967296):bI i5 123 [vU x,vN a,vN n] (vU (br x a n)):=.of_flat func123 rfl rfl rfl rfl λw=>Qd x a n w b c d
def CF(x a n v:Nat)(b:1<=n)(c:a+n<=32)(e:x<4294967296)(d:v<4294967296):bI i5 146 [vU x,vN a,vN n,vU v] (vU (bo x a n v)):=.of_flat func146 rfl rfl rfl rfl λw=>Qe x a n v w b c e d
def XK(x n:Nat)(a:1<=n)(b:n<=32)(c:x<4294967296):bI i5 126 [vU x,vN n] (vU (ed x n)):=.of_flat func126 rfl rfl rfl rfl λw=>Ic x n w a b c
def UM:bI i5 126 [vU 0,vN 0] (vU 0):=.of_flat func126 rfl rfl rfl rfl λw=>PZ w
def A8(f)(i:f<=8):bI i5 124 [vN f] (.A [.X (oq f) ((eQ f).map ln) true,vN (qN f)]):=by
 refine bI.intro o5 func124 rfl rfl (by kernel_rfl) rfl<|qS 0 rfl<|bu (ar (b8 _ _)) (λa=>?_) (λa=>?_)
 ·refine rV (.agg [vI 20,vI 12]) rfl<|zV (.X 2 ([[vI 20,vI 12]]) true) ?_;obtain rfl:f=2:=by have z:=a;simp at z;omega
  exact dK rfl cn rfl rfl
 refine bu (ar (b8 _ _)) (λb=>?_) (λb=>?_)
 ·refine rV (.agg [vI 20,vI 5]) rfl<|zV (.X 2 ([[vI 20,vI 5]]) true) ?_;obtain rfl:f=3:=by have z:=b;simp at z;omega
  exact dK rfl cn rfl rfl
 refine bu (ar (b8 _ _)) (λc=>?_) (λc=>?_)
 ·refine rV (.agg [vI 7,vI 5]) rfl<|rV (.agg [vI 25,vI 7]) rfl<|zV (.X 2 ([[vI 7,vI 5],[vI 25,vI 7]]) true) ?_;obtain rfl:f=4:=by have z:=c;simp at z;omega
  exact dK rfl cn rfl rfl
 refine bu (ar (b8 _ _)) (λd=>?_) (λd=>?_)
 ·refine rV (.agg [vI 8,vI 4]) rfl<|rV _ rfl<|rV _ rfl<|rV _ rfl<|zV (.X 2 ([[vI 8,vI 4],[vI 25,vI 6],[vI 7,vI 1],[vI 31,vI 1]]) true) ?_;obtain rfl:f=5:=by have z:=d;simp at z;omega
  exact dK rfl cn rfl rfl
 refine bu (ar (b8 _ _)) (λe=>?_) (λe=>?_)
 ·refine rV _ rfl<|zV (.X 2 ([[vI 12,vI 20]]) true) ?_;obtain rfl:f=6:=by have z:=e;simp at z;omega
  exact dK rfl cn rfl rfl
 refine bu (ar (b8 _ _)) (λg=>?_) (λg=>?_)
 ·refine rV _ rfl<|rV _ rfl<|rV _ rfl<|rV _ rfl<|zV _ ?_;obtain rfl:f=7:=by have z:=g;simp at z;omega
  exact dK rfl cn rfl rfl
 have h:f=0∨f=1∨f=8:=by simp at a b c d e g;omega
 rcases h with rfl|rfl|rfl<;>exact dK rfl cn rfl rfl
def G7(x rs)(a)(d)(q:x<4294967296)(h:a≠[]->rs=2)(b:LA a)(D:a.length<=100):bI i5 125 [vU x,.X rs (a.map ln) d] (.A [vU (rZ x a).1,vN (rZ x a).2]):=by
 refine bI.intro o5 func125 rfl rfl (by kernel_rfl) rfl<|qS 0 rfl<|zW _ (cD ln a)<|dy (λk=>⟨be [(0,vU x),(10,.X rs (a.map ln) d),(11,vN a.length),(12,vN k),(6,vU (((a.take k).foldl (Ag x) (0,0)).1)),(7,vN (((a.take k).foldl (Ag x) (0,0)).2))],ao [],7⟩) (λk=>k<=a.length) (λk=>a.length-k) 0 (λs=>s) (au (λs=>s) wT trivial rfl) (aE _) ?_;intro k C;have y:xH (a.take k)<=32:=aL (by unfold xH;rw[eO];exact NF _ _) b.2;have n:=CR x (a.take k) (0,0) (oT:0<4294967296) (λp hp=>b.1 p (cQ hp)) ad;have E:((a.take k).foldl (Ag x) (0,0)).1<=4294967295:=oT;have B:((a.take k).foldl (Ag x) (0,0)).2=xH (a.take k):=n.2.trans (bJ _);have o:((a.take k).foldl (Ag x) (0,0)).2<=32:=oT;refine bu (ar (b2 _ _)) (λc=>?_) (λc=>?_)
 ·skip
  let⟨p,hp⟩:∃p,a[k]?=some p:=⟨_,aA (a7 c)⟩;obtain rfl:=h (λz=>by subst z;cases hp);let⟨i,r⟩:=b.1 p (aB hp);have u:p.1<=32:=oT;have g:p.2<=32:=oT;have A:xH (a.take (k+1))<=32:=aL (by unfold xH;rw[eO];exact NF _ _) b.2;have v:xH (a.take (k+1))=xH (a.take k)+p.2:=by rw[bW,hp];simp[xH]
  have e:br x p.1 p.2<4294967296:=ei (iR _ _ _) (wV ad);refine zX (ln p) (.dp 2 0 (ln p)) rfl (iH hp)<|zR<|zC (Ef x p.1 p.2 i r q)<|zC (CF ((a.take k).foldl (Ag x) (0,0)).1 ((a.take k).foldl (Ag x) (0,0)).2 p.2 (br x p.1 p.2) i ad ad e) ?_;have j:(((a.take k).foldl (Ag x) (0,0)).2)+p.2<=64:=aD o g;refine zW _ (ax (bH j rfl)) ?_;have m:k+1<=101:=aD oT (aC 1);refine zW _ (ax (bH m rfl)) ?_;refine⟨k+1,λs=>s,au (λs=>s) ⟨a9,a9,a9,a9,⟨(a1 (λz:Nat×Nat=>AV.v (.int .u32 (z.1:Int))) (EI (Ag x) (0,0) a k p hp).symm),rfl⟩,⟨(a1 (λz:Nat×Nat=>AV.v (.int .i64 (z.2:Int))) (EI (Ag x) (0,0) a k p hp).symm),rfl⟩,trivial⟩ trivial rfl,a7 c,oH (a7 c)⟩
 have t:=aF c;exact dK rfl cn rfl (by rw[aN (oT:a.length<=k)];rfl)
def xd{x c:Nat}(h:c<=32):IntKind.wrap .u32 ((x:Int)*2 ^ (min (Int.toNat (c:Int)) (IntKind.bits .u32)))=((x*2 ^ c%4294967296:Nat):Int):=by
 rw[Int.toNat_natCast,show min c (IntKind.bits .u32)=c from lu h,Int.natCast_emod _ _,Int.natCast_mul,Int.natCast_pow];rfl
def tm(f):qN f<=12:=by unfold qN;split<;>decide
def UN(f x)(c:1<=f)(d:f<=8)(a:(f != 3)=true):bI i5 126 [vU ((rZ x (eQ f)).1*2 ^ qN f%4294967296),vN ((rZ x (eQ f)).2+qN f)] (vU (EG f x)):=by
 have a:f≠3:=sU a;rw[(BA x f).1];unfold EG;rw[dZ a];by_cases h:f=1∨f=8
 ·rw[aa h];rcases h with rfl|rfl<;>exact UM
 rw[dZ h];have b:1<=xH (eQ f)+qN f∧xH (eQ f)+qN f<=32:=by
  have:f=2∨f=4∨f=5∨f=6∨f=7:=oT;rcases this with rfl|rfl|rfl|rfl|rfl<;>decide
 exact XK _ _ b.1 b.2 ad
def XL(b)(x f)(o:cW b=f)(n:1<=f)(i:f<=8)(e:x<4294967296):bI i5 87 [vI b,vU x] (.agg [vI b,vN (cond (yW f) (br x 7 5) 0),vN (cond (uS f) (br x 15 5) 0),vN (cond (vS f) (br x 20 5) 0),vU (EG f x)]):=by
 apply bI.intro o5 func87 rfl rfl (by kernel_rfl) rfl;have c:br x 15 5<=31:=aI (iR x 15 5);have d:br x 20 5<=31:=aI (iR x 20 5);have hZ:(rZ x (eQ f)).2<=32:=by rw[(BA x f).1];exact(vF f).2
 have q:(eQ f).length<=100:=by unfold eQ;split<;>decide
 have p:eQ f≠[]->oq f=2:=by unfold eQ oq;intro h;split at h<;>first|rfl|exact absurd rfl h
 refine qS 0 rfl<|zC (o ▸ XJ b)<|zV (.agg [vI b,vI 0,vI 0,vI 0,zU])<|ba rfl (CD f i)<|j3 0 0 rfl<|Fq (κ:=Unit) (λa=>⟨be [(1,vU x),(4,.ptr 0 0),(5,vN f),(6,.ptr 6 0),(8,vB (uS f)),(9,vB (vS f))],ao [(0,.box [vI 0,vI 0,vI 0,vI 0,zU]),(6,.box [vI b,vN (cond (yW f) (br x 7 5) 0),vI 0,vI 0,zU])],17⟩) (λa=>True) ?_ ?_
 ·skip;refine py 0 rfl<|zB rfl (λj=>?_) (λj=>?_)
  all_goals
   first|refine ba rfl (Ef x 7 5 dT dT e)<|zW _ (ax (bH (aI (iR x 7 5)) rfl)) ?_|skip
   refine .mk _ (.refl _) ⟨(),λs=>s,au (λs=>s) wT ⟨c9,⟨rfl,(by rw[j];rfl),rfl⟩,trivial⟩ rfl,rfl,trivial⟩
 intro a _;apply Fq (κ:=Unit) (λa=>⟨be [(1,vU x),(4,.ptr 0 0),(5,vN f),(6,.ptr 6 0),(9,vB (vS f))],ao [(0,.box [vI 0,vI 0,vI 0,vI 0,zU]),(6,.box [vI b,vN (cond (yW f) (br x 7 5) 0),vN (cond (uS f) (br x 15 5) 0),vI 0,zU])],17⟩) (λa=>True)
 ·skip;refine py 0 rfl<|zB rfl (λk=>?_) (λk=>?_)
  all_goals
   first|refine ba rfl (Ef x 15 5 dT dT e)<|zW _ (ax (bH c rfl)) ?_|skip
   refine .mk _ (.refl _) ⟨(),λs=>s,au (λs=>s) wT ⟨c9,⟨rfl,(by rw[k];rfl),rfl⟩,trivial⟩ rfl,rfl,trivial⟩
 intro a _;apply Fq (κ:=Unit) (λa=>⟨be [(1,vU x),(4,.ptr 0 0),(5,vN f),(6,.ptr 6 0)],ao [(0,.box [vI 0,vI 0,vI 0,vI 0,zU]),(6,.box [vI b,vN (cond (yW f) (br x 7 5) 0),vN (cond (uS f) (br x 15 5) 0),vN (cond (vS f) (br x 20 5) 0),zU])],17⟩) (λa=>True)
 ·skip;refine py 0 rfl<|zB rfl (λm=>?_) (λm=>?_)
  all_goals
   first|refine ba rfl (Ef x 20 5 dT dT e)<|zW _ (ax (bH d rfl)) ?_|skip
   refine .mk _ (.refl _) ⟨(),λs=>s,au (λs=>s) wT ⟨c9,⟨rfl,(by rw[m];rfl),rfl⟩,trivial⟩ rfl,rfl,trivial⟩
 intro a _;refine qC 0 rfl<|zC (A8 f i)<|zC (G7 x (oq f) (eQ f) true e p (vF f) q)<|nW _ rfl (kl (xd (aL (tm f) dT))) (aG _)<|j3 0 0 rfl<|Fq (κ:=Unit) (λa=>⟨be [(4,.ptr 0 0),(6,.ptr 6 0)],ao [(0,.box [vI 0,vI 0,vI 0,vI 0,zU]),(6,.box [vI b,vN (cond (yW f) (br x 7 5) 0),vN (cond (uS f) (br x 15 5) 0),vN (cond (vS f) (br x 20 5) 0),vU (EG f x)])],37⟩) (λa=>True) ?_ ?_
 ·refine qS 0 rfl<|bu (ar (ee _ _)) (λg=>?_) (λg=>?_)
  ·skip;refine rW _ rfl (ax (bH (aD hZ (tm f)) rfl))<|zC (UN f x n i g)<|.mk _ (.refl _) ⟨(),λs=>s,au (λs=>s) wT wH rfl,rfl,trivial⟩
  skip;refine .mk _ (.refl _) ⟨(),λs=>s,au (λs=>s) wT ⟨c9,⟨rfl,(by rw[(sU g:f=3)];rfl),rfl⟩,trivial⟩ rfl,rfl,trivial⟩
 intro a _;exact hM 0 rfl<|dK rfl cn rfl rfl
def Df:PY:=λa x w i g=>by
 have b:cW a≠0:=by unfold cW;repeat' (split<;>try omega)
 have h:=bI.flat (XL a x (cW a) rfl (eU b) (sB a) g) nofun rfl rfl w;refine h.mono λe j ⟨d,c⟩=>⟨d.trans ?_,c⟩;unfold SI.val xW;cases yW _<;>cases uS _<;>cases vS _<;>rfl
def IV(x:Nat)(b:x<4294967296):bI C0 42 [vU x] (.A [hV (bi x),vN (ij x)]):=
 .Zu func42 rfl rfl rfl rfl λS w a=>Oz Df x w (Db a) b
def fm(e:ai)(k:Nat):Bool:=decide (am e.i.op=k)
def uE(e:ai)(a b:Nat):Nat:=if wr e.i=0 then 0 else BF e.i.op e.i.k e.K a b
def rJ(e:ai)(a b:Nat):ai:=
 if e.is≠0∨am e.i.op=3∨am e.i.op=4 then e
 else if am e.i.op=1 then {e with is:=1,value:=uE e a b,next:=bz e.K,left:=3}
 else if am e.i.op=2 then {e with is:=1,value:=uE e a b,next:=bz e.K,ZX:=e6 e.i.op a b,left:=e6 e.i.op a b}
 else if am e.i.op=5 then
  if qP e.i.op e.i.k e.K a b%4=0 then {e with is:=1,value:=uE e a b,next:=qP e.i.op e.i.k e.K a b,left:=1}
  else {e with is:=1,value:=0,next:=bz e.K,left:=1,halt:=3}
 else {e with is:=1,value:=uE e a b,next:=bz e.K,left:=1}
def a0(e:ai):ai:=
 if e.is≠1 then e
 else if wrap64 (e.left-1)<=0 then {e with left:=0,is:=3,known:=if am e.i.op=5∧e.halt=0 then true else e.known}
 else {e with left:=wrap64 (e.left-1)}
def yC(e:ai)(size:Int)(a:Nat):ai:=
 if(am e.i.op≠3∧am e.i.op≠4)∨e.is≠0∨e.known=true then e
 else if kZ size ((a+e.i.k)%4294967296) (bP e.i.op)=true then {e with V:=(a+e.i.k)%4294967296,known:=true}
 else {e with V:=(a+e.i.k)%4294967296,halt:=if am e.i.op=4 then 5 else 4,is:=3}
def uM(e:ai)(s:ByteArray):ai:=
 if am e.i.op≠3∨e.known=false∨(e.is≠0∧e.is≠2)then e
 else {e with is:=1,left:=1,value:=if wr e.i=0 then 0 else hW e.i.op s}
def uF(e:ai)(b:Nat):ai:=
 if am e.i.op≠4∨e.known=false∨e.is≠0 then e else {e with is:=3,value:=ki b (bP e.i.op)}
def cA(e:ai):Sp:=
 if e.halt≠0 then⟨e.K,e.K,0,0,if e.halt=4∨e.halt=5 then e.V else 0,0,false,e.halt,0⟩
 else if am e.i.op=4 then⟨e.K,bz e.K,wr e.i,e.value,e.V,(bP e.i.op:Nat),true,0,0⟩
 else if am e.i.op=3 then⟨e.K,bz e.K,wr e.i,if wr e.i≠0 then e.value else 0,e.V,(bP e.i.op:Nat),false,0,0⟩
 else if am e.i.op=2 then⟨e.K,bz e.K,wr e.i,if wr e.i≠0 then e.value else 0,0,0,false,0,e.ZX⟩
 else if am e.i.op=5 then⟨e.K,e.next,wr e.i,if wr e.i≠0 then e.value else 0,0,0,false,0,0⟩
 else⟨e.K,bz e.K,wr e.i,if wr e.i≠0 then e.value else 0,0,0,false,0,0⟩
def DM(o:Option Nat):Int:=match o with|some k=>k|none=> -1
def Nj(e:ai):Bool:=decide (am e.i.op=5)&&e.known&&decide (e.next≠e.M)
def yD(agI:List ai):Option Nat:=agI.findIdx? Nj
def c3(agI:List ai)(i:Nat):List ai:=match agI[i]? with|some e=>agI.take i++[{e with M:=e.next}]|none=>agI
def Xq(i:SI):Bool:=decide (1<=i.op)&&decide (i.op<=48)&&decide ((xW i.op (Jw i)).op=i.op)&&decide ((xW i.op (Jw i)).rd=i.rd)&&decide ((xW i.op (Jw i)).j=i.j)&&decide ((xW i.op (Jw i)).o=i.o)&&decide ((xW i.op (Jw i)).k=i.k)
def xJ(e:ai):Bool:=
 if e.is<0∨e.is>3 then false
 else if(e.is=1∧e.left<=0)∨(e.is≠1∧e.left≠0)then false
 else if e.is=2∧(am e.i.op≠3∨e.known=false)then false
 else if e.halt≠0∧e.is≠3∧ ¬(e.is=1∧am e.i.op=5∧e.halt=3)then false
 else if Xq e.i=true then true else decide (e.halt=1)||decide (e.halt=2)
def pn(agI:List ai)(i:Nat):Int:=match agI[i]? with|some e=>e.no|none=>0
def IB(agI:List ai)(i:Nat):Bool:=match agI[i]? with|some e=>(i==0||decide (pn agI (i-1)<e.no))&&xJ e|none=>true
def Ff(agI:List ai):Bool:=decide (agI.length<=8)&&(List.range agI.length).all (IB agI)
def qB(no:Int)(f:Ft)(prog:List Nat):ai:=
 if(ez prog f.K).isSome=false then {Cs with no:=no,K:=f.K,M:=f.M,halt:=1,is:=3}
 else if e4 (bg prog f.K)=0 then {Cs with no:=no,K:=f.K,M:=f.M,halt:=2,is:=3}
 else if(bi (bg prog f.K)).op=47 then {Cs with no:=no,K:=f.K,M:=f.M,i:=bi (bg prog f.K),halt:=6,is:=3}
 else if(bi (bg prog f.K)).op=48 then {Cs with no:=no,K:=f.K,M:=f.M,i:=bi (bg prog f.K),halt:=7,is:=3}
 else {Cs with no:=no,K:=f.K,M:=f.M,i:=bi (bg prog f.K)}
def LS(agI:List ai)(a:Int)(k:Nat):Bool:=match agI[k]? with|some e=>decide (wr e.i=a)|none=>false
def hv(agI:List ai)(a:Int):Nat->Option Nat
 |0=>none
 |n+1=>if LS agI a n=true then some n else hv agI a n
def gX(agI:List ai)(i:Nat)(a:Int):Option Nat:=if a<1∨a>31 then none else hv agI a (min i agI.length)
def lK(agI:List ai)(r:Nat->Nat)(i:Nat)(a:Int):Option Nat:=
 if a=0 then some 0
 else if a<0∨a>31 then none
 else match gX agI i a with
  |none=>some (r a.toNat)
  |some k=>match agI[k]? with
   |some e=>if e.is=3∧e.halt=0 then some e.value else none
   |none=>none
def mI(agI:List ai)(r:Nat->Nat)(i:Nat):Nat×Nat×Bool:=
 match agI[i]? with
 |some e=>((lK agI r i e.i.j).getD 0,(lK agI r i e.i.o).getD 0,(lK agI r i e.i.j).isSome&&(lK agI r i e.i.o).isSome)
 |none=>(0,0,false)
def LT(e:ai):Bool:=if e.halt≠0 then false else if am e.i.op=6 then false else if am e.i.op=3∨am e.i.op=4∨am e.i.op=5 then e.known else true
def Cq(agI:List ai):Nat:=agI.findIdx λe=> !LT e
def vC(agI:List ai)(i:Nat):Bool:=decide (i<=agI.length)&&decide (i<=Cq agI)
def sZ(a:List Int)(k:Option Nat):Int:=match k with|some k=>a.getD k (-1)|none=> -1
def DB(agI:List ai)(a:List Int)(k:Nat):Int:=
 match agI[k]? with
 |some e=>if am e.i.op≠3 then max (sZ a (gX agI k e.i.j)) (sZ a (gX agI k e.i.o))else if k>Cq agI then k else -1
 |none=> -1
def eS(agI:List ai):Nat->List Int
 |0=>[]
 |k+1=>eS agI k++[DB agI (eS agI k) k]
def kf(agI:List ai):List Int:=eS agI agI.length
def IC(agI:List ai)(i:Nat)(a:Int):Bool:=match gX agI i a with|some k=>decide (0<=(kf agI).getD k (-1))|none=>false
def DC(e:ai):Bool:=decide (am e.i.op=3∨am e.i.op=4∨am e.i.op=2∨am e.i.op=5)
def qD(e:ai):List Int:=if am e.i.op=3∨am e.i.op=4 then [e.i.j]else [e.i.j,e.i.o]
def Pr(mode:Int)(agI:List ai)(i:Nat):Bool:=
 match agI[i]? with
 |none=>false
 |some e=>if DC e=false then true
  else if mode=0 then true
  else if mode=1 then(qD e).all λa=> !IC agI i a
  else if mode=2 then vC agI i
  else false
structure Std where
 V:Nat
 size:Nat
 data:ByteArray
 there:Bool
def Fg(e:ai):Std:=⟨e.V,bP e.i.op,oF e.value (bP e.i.op),decide (e.is=3)⟩
def CY(p:Pt):Std:=⟨p.V,p.data.size,p.data,true⟩
def FW(agI:List ai)(agF:List Pt):List Std:=((agI.filter λe=>fm e 4).map Fg).reverse++(agF.map CY).reverse
def hF(a n b m:Nat):Bool:=decide (0<n)&&decide (0<m)&&decide (a<b+m)&&decide (b<a+n)
def Fh(a n b m:Nat):Bool:=decide (0<m)&&decide (a<=b)&&decide (b+m<=a+n)
def xK(at_ n:Nat):List Std->Int×ByteArray
 |[]=>(2,oZ)
 |s::l=>if hF s.V s.size at_ n=false then xK at_ n l
  else if Fh s.V s.size at_ n=false∨s.there=false then(0,oZ)
  else(1,s.data.extract (at_-s.V) (at_-s.V+n))
def Aw(e:ai):Bool:=fm e 4&&(!e.known||decide (e.halt≠0))
def lL(agI:List ai)(agF:List Pt)(i:Nat):Int×ByteArray:=
 match agI[i]? with
 |none=>(0,oZ)
 |some e=>if am e.i.op≠3 then(0,oZ)
  else if(agI.take i).any Aw=true then(0,oZ)
  else xK e.V (bP e.i.op) (FW (agI.take i) agF)
def lY(r:Nat->Nat)(s:Sp):Nat->Nat:=if 1<=s.rd∧s.rd<=31∧s.halt=0 then gk r s.rd.toNat s.value else r
def iJ(s:Sp):Option Pt:=if s.store=false∨s.halt≠0∨(s.size≠1∧s.size≠2∧s.size≠4)then none else some ⟨s.V,oF s.value s.size.toNat⟩
def iQ(c:Ca)(q:List a2)(m:ByteArray)(agY:Nat)(left:Int):Ca×List a2×Bool:=
 if gG c=false then(c,q,false)
 else if(bK c (ab agY)).2.isSome=true then(tO c (ab agY),q,false)
 else match qZ c (ab agY) (Ga (jZ q m) (ab agY)) false with
  |(d,a,b)=>if b=true∧a.Z'=true∧a.data.size≠0 then(d,Bi q 4 a.R left a.data,true)else(d,q,false)
def sL(agF:List Pt)(c:Ca):List Pt×Ca×Bool:=
 match agF with
 |[]=>(agF,c,false)
 |p::l=>if(xL c p.V p.data).2=true then(l,(xL c p.V p.data).1,true)else(agF,c,false)
def jE(c:Co)(b:Int)(agY:Nat)(a:ByteArray):Co:={c with Y:=Bi c.Y b agY (lX c.U c.asked) a,asked:=wrap64 (c.asked+1)}
def tA(c:Co)(first:Bool):Bool:=if first=true then decide ((yH c.Y:Int)<c.U.C)else decide ((yH c.Y:Int)<c.U.C-1)
def oK(c:Co)(agY:Nat):Co:=
 match iQ c.data c.Y c.mem agY (lX c.U c.asked)with
 |(d,q,asked)=>{c with data:=d,Y:=q,asked:=if asked=true then wrap64 (c.asked+1)else c.asked}
def Xr(c:Co):ByteArray:=iz c.W c.data c.Y c.mem
def oL(c:Co)(e:ai):ByteArray:=if kZ ((Xr c).size:Int) e.V (bP e.i.op:Nat)=true then Cv (Xr c) e.V (bP e.i.op)else oZ
def wO(c:Co)(agY:Nat)(e:ai):ai:=if e.is=2∧ab e.V=agY then uM {e with Z3:=true} (oL c e)else e
def ID(c:Co)(x:a2):Co:=
 if x.kind=1 then {c with Z:=c.Z.map (wO c x.R)}
 else if x.kind=2 then {c with y:=(qZ c.y x.R oZ false).1}
 else if x.kind=3 then oK c x.R
 else if x.kind=4 then {c with mem:=rP c.mem [⟨x.R,x.data⟩]}
 else c
def lM(c:Co):Co:=
 match eH c.Y with
 |(q,x,ok)=>if ok=true then ID {c with Y:=q} x else {c with Y:=q}
def et(r:Nat->Nat)(agI:List ai)(i:Nat):List ai:=
 match agI[i]? with
 |some e=>if am e.i.op=4 then(match lK agI r i e.i.o with|some b=>agI.set i (uF e b)|none=>agI)else agI
 |none=>agI
def bq(r:Nat->Nat)(agI:List ai):Nat->List ai
 |0=>agI
 |k+1=>et r (bq r agI k) k
def bp(c:Co):List ai:=bq c.r (c.Z.map a0) c.Z.length
def kK(c:Co):Co:=
 if c.halt≠0 then c
 else match yD (bp c)with
  |some i=>{c with Z:=c3 (bp c) i,Yr:=(match(bp c)[i]? with|some e=>e.next|none=>0),O:=[],stop:=false}
  |none=>{c with Z:=bp c}
def tM(c:Co)(s:Sp):Co:={c with N:=c.N++[s],halt:=s.halt,Z:=[],O:=[],stop:=true}
def vG(c:Co)(e:ai)(s:Sp):Co:=if am e.i.op=3 then oK c s.V else c
def fZ(c:Co)(s:Sp):Co:={c with N:=c.N++[s],W:=(match iJ s with|some p=>c.W++[p]|none=>c.W)}
def vZ(c:Co)(e:ai)(s:Sp)(l:List ai):Co:=
 {vG (fZ c s) e s with r:=lY c.r s,M:=fM c.M s.K s.next e.i,Z:=l}
def eC:Nat->Co->Co
 |0,c=>c
 | n+1,c=>
  if c.halt≠0 then c
  else match c.Z with
   |[]=>c
   |e::l=>
    if e.is≠3 then c
    else if(cA e).halt≠0 then tM c (cA e)
    else if(cA e).store=true∧(c.W.length:Int)>=c.U.W then c
    else eC n (vZ c e (cA e) l)
def d'(c:Co):Co:=eC c.U.u.toNat c
def DN(c:Co)(i:Nat):Bool:=
 match c.Z[i]? with
 |none=>false
 |some e=>
  if e.is≠0 then false
  else if am e.i.op=3 then e.known||((lK c.Z c.r i e.i.j).isSome&&Pr c.U.mode c.Z i)
  else if am e.i.op=4 then !e.known&&(lK c.Z c.r i e.i.j).isSome&&Pr c.U.mode c.Z i
  else(mI c.Z c.r i).2.2&&Pr c.U.mode c.Z i
def Kt(c:Co)(agY:Nat):Bool:=(bK c.data agY).2.isSome||c.Z.any λe=>e.Z3&&decide (ab e.V=agY)
def bt(c:Co)(i:Nat)(e:ai):Co:={c with Z:=c.Z.set i e}
def oE(c:Co)(i:Nat):Co:=
 match c.Z[i]? with
 |none=>c
 |some e=>
  if e.known=false then c
  else if(lL c.Z c.W i).1=1 then bt c i (uM e (lL c.Z c.W i).2)
  else if(lL c.Z c.W i).1≠2 then c
  else if Kt c (ab e.V)=true then bt c i (uM e (oL c e))
  else if bf c.Y (ab e.V) 1=true then bt c i {e with is:=2}
  else if tA c (vC c.Z i)=true∧bf c.Y (ab e.V) 3=false then bt (jE c 1 (ab e.V) oZ) i {e with is:=2}
  else c
def iS(c:Co)(i:Nat):Co:=
 match c.Z[i]? with
 |none=>c
 |some e=>
  if am e.i.op=4 then bt c i (yC e c.mem.size (mI c.Z c.r i).1)
  else if am e.i.op=3 then oE (bt c i (yC e c.mem.size (mI c.Z c.r i).1)) i
  else bt c i (rJ e (mI c.Z c.r i).1 (mI c.Z c.r i).2.1)
def IE(e:ai):Bool:=decide (am e.i.op=2)&&decide (e.is=1)
def Fi(c:Co):List Int:=c.Z.map λe=>(am e.i.op:Int)
def Kv(c:Co):List Bool:=(List.range c.Z.length).map (DN c)
def gY(c:Co):Co:=if c.halt≠0 then c else(g9 c.U.u (c.Z.any IE) (Fi c) (Kv c)).foldl iS c
def kV:Nat->Co->Co
 |0,c=>c
 | n+1,c=>
  if(c.Z.length:Int)>=c.U.Z then c
  else match c.O with
   |[]=>c
   |f::l=>kV n {c with Z:=c.Z++[qB c.next f c.prog],next:=wrap64 (c.next+1),O:=l}
def lP(c:Co):Co:=if c.halt≠0 then c else kV c.U.u.toNat c
def dM(c:Co)(w:Nat):Co×Nat:=
 if e4 w=0∨am (bi w).op≠5 then(c,bz c.Yr)
 else if c.U.tables=true then(c,xC c.M c.Yr (bi w))
 else({c with ZY:=wrap64 (c.ZY+1)},yG c.U c.ZY c.Yr)
def LU(c:Co)(n:Nat):Co:={c with O:=c.O++[⟨c.Yr,n⟩],Yr:=n}
def eL:Nat->Co->Co
 |0,c=>c
 | n+1,c=>
  if c.stop=true∨(c.O.length:Int)>=c.U.queue then c
  else if(ez c.prog c.Yr).isSome=false then {c with O:=c.O++[⟨c.Yr,bz c.Yr⟩],stop:=true}
  else if(bK c.y (ab c.Yr)).2.isSome=false then
   (if bf c.Y (ab c.Yr) 2=false∧tA c false=true then jE c 2 (ab c.Yr) oZ else c)
  else
   eL n (LU (dM {c with y:=tO c.y (ab c.Yr)} (bg c.prog c.Yr)).1 (dM {c with y:=tO c.y (ab c.Yr)} (bg c.prog c.Yr)).2)
def eN(c:Co):Co:=if c.halt≠0 then c else eL c.U.u.toNat c
def aW(c:Co):Co:={c with W:=(sL c.W c.data).1,data:=(sL c.W c.data).2.1}
def tW(c:Co):Co:=
 match c.W with
 |[]=>c
 |p::_=>if bf c.Y (ab p.V) 3=false∧tA c true=true then jE c 3 (ab p.V) oZ else c
def pE(c:Co):Co:=
 match cR c.data with
 |some w=>if w.data.size≠0 then {jE c 4 w.R w.data with data:=wB c.data w.R}else c
 |none=>c
def nP(c:Co):Co:=if c.W≠[]∨c.halt=0 then c else pE c
def tY(c:Co):Co:=
 match c.W with
 |[]=>nP (aW c)
 |_::_=>if(sL c.W c.data).2.2=true then nP (aW c)else nP (tW (aW c))
def Ax(c:Ca)(f:Cf):Bool:=gG c&&decide ((c.Q.length:Int)=f.Q)&&decide (c.ways=f.ways)
def jF(c:Co):Bool:=
 wA c.U&&decide (c.prog.length<=64)&&(c.mem.toList==(jB c.mem).toList)&&Ff c.Z&&decide ((c.Z.length:Int)<=c.U.Z)&&(c.Z.all λe=>decide (e.no<c.next))&&Ax c.data c.U&&Ax c.y c.U&&sM c.M&&decide ((c.O.length:Int)<=c.U.queue)&&decide ((c.W.length:Int)<=c.U.W)&&c.W.all λp=>kZ c.mem.size p.V p.data.size
def c8(c:Co):Co:=tY (eN (lP (gY (d' (kK (lM {c with ZW:=wrap64 (c.ZW+1)}))))))
def uG(c:Co):Co:=if jF c=true then c8 c else c
def uN(c:Co):Nat->Co
 |0=>c
 |n+1=>uG (uN c n)
noncomputable def C1:az:={C0 with lt:=true}
def k9:b0 C1:=⟨fw.1,fw.2,fw.3⟩
def pm{f:FuncId}{args:List AV}{r:AV}(h:bI C1 f args r):bI C0 f args r:=h
theorem dJ{f}{b}{a}{args}{r}(h:C1.P.funcs[f]?=some b)(i:eA C1 (bI C1) a ⟨fg args,λ _=>none,0⟩ (Fin C1 b r))(g:b.body=some a:=by rfl)(d:(b.name== "runtime.NumGoroutine")=false:=by rfl) (e:rU b.ntmps a=true:=by kernel_rfl) (c:Nat.ble args.length b.ntmps=true:=by rfl):bI C0 f args r:=pm (bI.intro k9 h g d e c i)
theorem dx{f}{b}{a}{args}{r}(h:C1.P.funcs[f]?=some b)(g:b.body=some a)(i:es C1 (bI C1) (Fin C1 b r) (.code a) (fg args) (λ _=>none) 0 [])(d:(b.name== "runtime.NumGoroutine")=false:=by rfl) (e:rU b.ntmps a=true:=by kernel_rfl) (c:Nat.ble args.length b.ntmps=true:=by rfl):bI C0 f args r:=dJ h (zK i) g d e c
theorem hI(s){f}{b}{a}{args}{h}{bm}(j:C1.P.funcs[f]?=some b)(k:eA (C1.at s) (bI (C1.at s)) a ⟨fg args,h,s⟩ (qm (C1.at s) b bm s))(i:b.body=some a:=by rfl)(e:(b.name== "runtime.NumGoroutine")=false:=by rfl) (g:rU b.ntmps a=true:=by kernel_rfl) (d:Nat.ble args.length b.ntmps=true:=by rfl) (c:gn h s=true:=by rfl):pM C0.P C0.G f args h s bm:=HCall.intro k9.at j i e g d c k
theorem hZ(s){f}{b}{a}{args}{h}{bm}(j:C1.P.funcs[f]?=some b)(i:b.body=some a)(k:es (C1.at s) (bI (C1.at s)) (qm (C1.at s) b bm s) (.code a) (fg args) h s [])(e:(b.name== "runtime.NumGoroutine")=false:=by rfl) (g:rU b.ntmps a=true:=by kernel_rfl) (d:Nat.ble args.length b.ntmps=true:=by rfl) (c:gn h s=true:=by rfl):pM C0.P C0.G f args h s bm:=hI s j (zK k) i e g d c
def ae(x):IntKind.wrap .i64 x=wrap64 x:=by rw[IntKind.wrap_i64];simp[wrap64]
theorem af(c y):cE c true y=(c||y):=by cases c<;>rfl
theorem qA(c x):cE c x false=(c&&x):=by cases c<;>rfl
def sP{p q:Prop}(h:p)(t:p->q:=by intro h;(try simp[ae,af,qA,dE,aP,dP,kI,pU,pX,ne_eq,bA,iC,aY,mA,eJ,Bool.not_eq_false,Bool.not_eq_eq_eq_not,aj,Bool.not_false,Decidable.not_not]at h);exact h):q:=t h
abbrev gL:List AV:=[vI 0,vI 0,vI 0,vI 0,vI 0,vI 0,vI 0,vI 0,.X 0 ([]) true,vB false,.X 0 ([]) true,.X 0 ([]) true,vI 0,zU,zU,zU,zU,zU,zU,zU,zU,zU,zU,zU,zU,zU,zU,zU,zU,zU,zU,zU,zU,zU,zU,zU,zU,zU,zU,zU,zU,zU,zU,zU,zU,zU,vB false,.X 0 ([]) true,.X 0 ([]) true,vI 0,.X 0 ([]) true,vI 0,.X 0 ([]) true,vI 0,.X 0 ([]) true,.X 0 ([]) true,vI 0,vI 0,.v (.string (⟨#[]⟩:ByteArray)),.X 0 ([]) true,zU,.X 0 ([]) true,vI 0,.X 0 ([]) true]
def mT{α:Type}[BEq α][LawfulBEq α]{a b:α}(h:(a==b)=true):a=b:=eq_of_beq h
def nA{α:Type}[BEq α][LawfulBEq α]{a b:α}(h:(a==b)=false): ¬a=b:=λe=>by rw[e,nR]at h;cases h
def wM{α:Type}[BEq α][LawfulBEq α]{a b:α}(h:(a != b)=true): ¬a=b:=λe=>by rw[e]at h;simp at h
def wN{α:Type}[BEq α][LawfulBEq α]{a b:α}(h:(a != b)=false):a=b:=sU h
def vW{α}(f:α->List AV)(l:List α){n}(h:l.length=n):bv.ok (vI ((l.map f).length:Int))=.ok (vI (n:Int)):=by rw[aH,h]
def Jv{α}{l:List α}{k}{x}(h:l[k]?=some x):l[0+k]?=some x:=by rwa [bJ]
def Ri{p}{x}{h}{b rs}{r a}(e:r=a):bv.fx p x (an h b (some (.arr r rs)))=.fx p x (an h b (some (.arr a rs))):=by rw[e]
def vX{α}{f}{l:List α}{k}{x}{h:AH}{b rs}:some (an h b (some (.arr ((l.map f).set (0+k) (f x)) rs)))=some (an h b (some (.arr ((l.set k x).map f) rs))):=by rw[bJ,List.map_set]
def yB{p}{rs}{r a}{c}(e:r=a):bv.Z8 p (.X rs r c)=.Z8 p (.X rs a c):=by rw[e]
def LR{p}{s lo a n b}{c}(e:lo=a)(d:n=b):bv.Z8 p (.S s lo n c)=.Z8 p (.S s a b c):=by rw[e,d]
section
variable {α:Type}(f:α->List AV)
section
variable (l:List α)
def vY(H:Nat):List.drop 0 (List.take H (l.map f))=(l.take H).map f:=by rw[bS,eO]
def Kr(L:Nat):List.drop L (List.take (l.map f).length (l.map f))=(l.drop L).map f:=by rw[cH,kM]
def Iw{p}{H}{s rs m}{c}(a:c.length=m):bv.fx p (.S s 0 c.length false) (an H s (some (.arr c rs)))=.fx p (.S s 0 m false) (an H s (some (.arr c rs))):=by rw[a]
def iP{p:Prop}{H:AH}{s rs n m:Nat}(B:List α)(a:l.length=n)(b:l.length+B.length=m):
  bv.fx p (.S s 0 ((List.take n (List.drop 0 (l.map f))).length+(B.map f).length) false) (an H s (some (.arr (List.take n (List.drop 0 (l.map f))++B.map f) rs)))=.fx p (.S s 0 m false) (an H s (some (.arr ((l++B).map f) rs))):=by
 rw[bS,aN (by rw[aH,a];exact aC _),aH,aH,b,dH]
def Au{p:Prop}{H:AH}{s rs m:Nat}(B:List α)(a:l.length+B.length=m):
  bv.fx p (.S s 0 ((l.map f).length+(B.map f).length) false) (an H s (some (.arr (l.map f++B.map f) rs)))=.fx p (.S s 0 m false) (an H s (some (.arr ((l++B).map f) rs))):=by
 rw[aH,aH,a,dH]
def Uo{p:Prop}{H:AH}{s rs lo n m:Nat}(B:List α)(a:((l.drop lo).take n).length+B.length=m):
  bv.fx p (.S s 0 ((List.take n (List.drop lo (l.map f))).length+(B.map f).length) false) (an H s (some (.arr (List.take n (List.drop lo (l.map f))++B.map f) rs)))=.fx p (.S s 0 m false) (an H s (some (.arr ((((l.drop lo).take n)++B).map f) rs))):=by
 rw[<-a,dH,eO,kM,aH];simp[aM,bD,aH]
end
def DX{n:Nat}(X:List (List AV))(B:List α)(a:B.length=n)(b:X.length=n):X.take 0++(B.map f).take (min (B.map f).length n)++X.drop (0+min (B.map f).length n)=B.map f:=by
 rw[aH,a,Nat.min_self,pV,iA,cB oT,dY,aN (by rw[aH];omega)]
section
variable (l:List α)
def Cp{lo n:Nat}{M:List α}(h:(l.drop lo).take n=M):List.take n (List.drop lo (l.map f))=M.map f:=by rw[<-h,eO,kM]
def jW{n:Nat}(h:l.length<=n):List.take n (List.drop 0 (l.map f))=l.map f:=by rw[bS,aN (by rw[aH];exact h)]
end
end
def Iy{α}{f}{l:List α}{b rs lo n}{c}(h:lo+n<=l.length):eu (some (b,rs,l.map f)) (.S b lo n c) (.X rs (((l.drop lo).take n).map f) false):=by
 have:=eu.Y0 b rs lo n (l.map f) c false rfl (by rw[aH];exact h) nofun;rwa[eO,kM]
def nB{α}{f}{l:List α}{b rs n}{c}(h:l.length=n):eu (some (b,rs,l.map f)) (.S b 0 n c) (.X rs (l.map f) false):=by
 have:=Iy (f:=f) (b:=b) (rs:=rs) (c:=c) (l:=l) (lo:=0) (n:=n) oT
 rwa [bS,aN oT]at this
def hP{p:Prop}(h:p:=by repeat (first|exact trivial|refine⟨.refl _,?_⟩|refine⟨Iy (by exact ad),?_⟩|refine⟨nB (by exact ad),?_⟩)):p:=h
def zD{α:Type}{P:α->Prop}{l:List α}{n:Nat}(h:∀x∈l,P x):∀x∈l.take n,P x:=λx a=>h x (cQ a)
def Iz{α:Type}{P:α->Prop}{l:List α}{n:Nat}(h:∀x∈l,P x):∀x∈l.drop n,P x:=λx a=>h x (eT a)
def sJ{α:Type}{P:α->Prop}{l m:List α}(h:∀x∈l,P x)(h':∀x∈m,P x):∀x∈l++m,P x:=λx a=>(cp.1 a).elim (h x) (h' x)
def sK{α:Type}{P:α->Prop}{y:α}(h:P y):∀x∈[y],P x:=λx a=>by rw[uJ]at a;rw[a];exact h
def jy{α:Type}{P:α->Prop}{l:List α}{k:Nat}{y:α}(h:∀x∈l,P x)(h':P y):∀x∈l.set k y,P x:=λx a=>(List.mem_or_eq_of_mem_set a).elim (h x) λe=>e ▸ h'
theorem pM.Zk{P}{G}{f}{args}{rows}{rs lo n}{c}(H:pM P G f args (ao []) 0 (λx h'=>x=.S 0 lo n c∧h'=ao [(0,.arr rows rs)]))(K)(ap)(d:eW args=true):
  pM P G f args K ap (λx h'=>x=.S ap lo n c∧h'=an K ap (some (.arr rows rs))):=by
 have:=H.frame (λx=>x) K ap rfl (λx b=>absurd rfl b) nofun (λx y b=>absurd b (dG _)) (kW 0 args d) (λx h'=>x=.S ap lo n c∧h'=an K ap (some (.arr rows rs))) λr h' g=>?_
 ·rwa [nQ _ args d]at this
 obtain⟨rfl,rfl⟩:=g;refine⟨_,⟨by simp[uW,ks],rfl⟩,λy blk a=>?_⟩;by_cases e:y=ap
 ·subst e;rw[dB]at a;injection a with a;exact .inl ⟨0,.arr rows rs,rfl,(ks _ _ _).symm,by subst a;rfl⟩
 rw[cI _ _ e]at a;exact .inr ⟨a,λx b=>absurd b (dG _)⟩
theorem pM.YT{P}{G}{f}{args}{rows c}{rs g n}(H:pM P G f args (ao [(0,.arr rows rs)]) 1 (λx h'=>x=.S 1 0 n false∧h'=ao [(0,.arr rows rs),(1,.arr c g)]))(b)(K)(ap)(p:Nat.blt b ap=true)(j:K b=some (.arr rows rs))(o:mS 1 args=true):
  pM P G f (Bg (λ_=>b) args) K ap (λx h'=>x=.S ap 0 n false∧h'=an K ap (some (.arr c g))):=by
 refine H.frame (λ_=>b) K ap rfl (λx d=>?_) (λx i d=>?_) (λx y d a _=>by omega) o _ λq h' m=>?_
 ·cases x with
  |zero=>omega
  |succ x=>exact absurd rfl d
 ·cases x with
  |zero=>injection d with d;subst d;exact⟨aJ p,rfl,j⟩
  |succ x=>cases d
 ·obtain⟨rfl,rfl⟩:=m;refine⟨_,⟨by simp[uW,ks],rfl⟩,λy i a=>?_⟩;by_cases k:y=ap
  ·subst k;rw[dB]at a;injection a with a;exact .inl ⟨1,.arr c g,rfl,(ks _ _ _).symm,by subst a;rfl⟩
  ·rw[cI _ _ k]at a;by_cases h:y=b
   ·subst h;rw[j]at a;injection a with a;exact .inl ⟨0,.arr rows rs,rfl,rfl,by subst a;rfl⟩
   ·exact .inr ⟨a,λx d e=>h e.symm⟩
abbrev hJ(b:Bool):List AV:=[.v (.bool b)]
structure ai.ok(e:ai):Prop where
 K:e.K<=4294967295
 k:e.i.k<=4294967295
 M:e.M<=4294967295
 value:e.value<=4294967295
 next:e.next<=4294967295
 V:e.V<=4294967295
structure a2.ok(x:a2):Prop where
 R:x.R<=4294967295
structure Pt.ok(x:Pt):Prop where
 V:x.V<=4294967295
structure Ft.ok(x:Ft):Prop where
 K:x.K<=4294967295
 M:x.M<=4294967295
structure Gs.ok(x:Gs):Prop where
 K:x.K<=4294967295
 next:x.next<=4294967295
structure Sp.ok(x:Sp):Prop where
 K:x.K<=4294967295
 next:x.next<=4294967295
 value:x.value<=4294967295
 V:x.V<=4294967295
def DA{a b B}(h:b<=a)(d:a<=B)(c:Nat.ble B 9223372036854775807=true):IntKind.wrap .i64 ((a:Int)-(b:Int))=((a-b:Nat):Int):=by
 have:=aJ c;rw[kw oT oT];omega
def tC(a b:Nat):Int.tmod (a:Int) (b:Int)=((a%b:Nat):Int):=pY a b |>.symm
def CI{a:Nat}(h:a<=4294967295):a<4294967296:=bG h
def oW{e a}(h:e=a):AV.agg (ak e)=.agg (ak a):=by rw[h]
def DL{e a}(h:e=a):AV.agg (a3 e)=.agg (a3 a):=by rw[h]
def dR{b a}(h:b=a):AV.v (.bool b)=.v (.bool a):=by rw[h]
def Ni{b a}(h:b=a):AV.v (.int .i64 b)=vI a:=by rw[h]
def GW{b a:Nat}(h:b=a):AV.v (.int .u32 (b:Int))=vU a:=by rw[h]
abbrev Ks(r:Nat->Nat):List AV:=[.v (.int .u32 (r 0:Int)),.v (.int .u32 (r 1:Int)),.v (.int .u32 (r 2:Int)),.v (.int .u32 (r 3:Int)),.v (.int .u32 (r 4:Int)),.v (.int .u32 (r 5:Int)),.v (.int .u32 (r 6:Int)),.v (.int .u32 (r 7:Int)),.v (.int .u32 (r 8:Int)),.v (.int .u32 (r 9:Int)),.v (.int .u32 (r 10:Int)),.v (.int .u32 (r 11:Int)),.v (.int .u32 (r 12:Int)),.v (.int .u32 (r 13:Int)),.v (.int .u32 (r 14:Int)),.v (.int .u32 (r 15:Int)),.v (.int .u32 (r 16:Int)),.v (.int .u32 (r 17:Int)),.v (.int .u32 (r 18:Int)),.v (.int .u32 (r 19:Int)),.v (.int .u32 (r 20:Int)),.v (.int .u32 (r 21:Int)),.v (.int .u32 (r 22:Int)),.v (.int .u32 (r 23:Int)),.v (.int .u32 (r 24:Int)),.v (.int .u32 (r 25:Int)),.v (.int .u32 (r 26:Int)),.v (.int .u32 (r 27:Int)),.v (.int .u32 (r 28:Int)),.v (.int .u32 (r 29:Int)),.v (.int .u32 (r 30:Int)),.v (.int .u32 (r 31:Int))]
def G3(r)(n)(a:n<32):eb (Lg (Ks r) (0+n*1))=.ok (.v (.int .u32 (r n:Int))):=by
 have:∀(n:_root_.Fin 32),eb (Lg (Ks r) (0+n.1*1))=.ok (.v (.int .u32 (r n.1:Int))):=by
  intro n
  match n with
  |⟨0,_⟩=>rfl
  |⟨1,_⟩=>rfl
  |⟨2,_⟩=>rfl
  |⟨3,_⟩=>rfl
  |⟨4,_⟩=>rfl
  |⟨5,_⟩=>rfl
  |⟨6,_⟩=>rfl
  |⟨7,_⟩=>rfl
  |⟨8,_⟩=>rfl
  |⟨9,_⟩=>rfl
  |⟨10,_⟩=>rfl
  |⟨11,_⟩=>rfl
  |⟨12,_⟩=>rfl
  |⟨13,_⟩=>rfl
  |⟨14,_⟩=>rfl
  |⟨15,_⟩=>rfl
  |⟨16,_⟩=>rfl
  |⟨17,_⟩=>rfl
  |⟨18,_⟩=>rfl
  |⟨19,_⟩=>rfl
  |⟨20,_⟩=>rfl
  |⟨21,_⟩=>rfl
  |⟨22,_⟩=>rfl
  |⟨23,_⟩=>rfl
  |⟨24,_⟩=>rfl
  |⟨25,_⟩=>rfl
  |⟨26,_⟩=>rfl
  |⟨27,_⟩=>rfl
  |⟨28,_⟩=>rfl
  |⟨29,_⟩=>rfl
  |⟨30,_⟩=>rfl
  |⟨31,_⟩=>rfl
  |⟨k+32,h⟩=>exact absurd h oT
 exact this ⟨n,a⟩
def He(r)(n v:Nat)(a:n<32):zS (0+n*1) [vU v] (Ks r)=Ks (gk r n v):=by
 have:∀(n:_root_.Fin 32),zS (0+n.1*1) [vU v] (Ks r)=Ks (gk r n.1 v):=by
  intro n
  match n with
  |⟨0,_⟩=>rfl
  |⟨1,_⟩=>rfl
  |⟨2,_⟩=>rfl
  |⟨3,_⟩=>rfl
  |⟨4,_⟩=>rfl
  |⟨5,_⟩=>rfl
  |⟨6,_⟩=>rfl
  |⟨7,_⟩=>rfl
  |⟨8,_⟩=>rfl
  |⟨9,_⟩=>rfl
  |⟨10,_⟩=>rfl
  |⟨11,_⟩=>rfl
  |⟨12,_⟩=>rfl
  |⟨13,_⟩=>rfl
  |⟨14,_⟩=>rfl
  |⟨15,_⟩=>rfl
  |⟨16,_⟩=>rfl
  |⟨17,_⟩=>rfl
  |⟨18,_⟩=>rfl
  |⟨19,_⟩=>rfl
  |⟨20,_⟩=>rfl
  |⟨21,_⟩=>rfl
  |⟨22,_⟩=>rfl
  |⟨23,_⟩=>rfl
  |⟨24,_⟩=>rfl
  |⟨25,_⟩=>rfl
  |⟨26,_⟩=>rfl
  |⟨27,_⟩=>rfl
  |⟨28,_⟩=>rfl
  |⟨29,_⟩=>rfl
  |⟨30,_⟩=>rfl
  |⟨31,_⟩=>rfl
  |⟨k+32,h⟩=>exact absurd h oT
 exact this ⟨n,a⟩
def J2{c}{h}{s b n v:Nat}{a x}{r}(e:c a=.ptr b (0+n*1))(g:h b=some (.box (Ks r)))(k:c x=vU v)(j:n<32):
  bc C0 c h s (.store 28 a x)=.fx True .any (an h b (some (.box (Ks (gk r n v))))):=by
 have d:C0.ty 28=some ph:=rfl;have i:(0+n*1+([vU v]:List AV).length).ble (Ks r).length=true:=iL (by simp;omega);simp only[bc,d,k,kN,e,g];rw[show([AV.v _].length.beq 1)=true from rfl];simp only;rw[i];simp only;rw[He _ _ _ j]
end Go.Proofs.YtmbhlpgmfafmbaaGreatDoor
