/- Lemmas. -/
import Derived.Test.YtdhclfgoomldfaaGreatDoorS1
import Derived.Test.YtdhclfgoomldfaaGreatDoorS22
import Derived.Test.YtdhclfgoomldfaaGreatDoorS24
import Derived.Test.YtdhclfgoomldfaaGreatDoorS29
import Derived.Test.YtdhclfgoomldfaaGreatDoorS30
set_option linter.all false
namespace Go.Proofs.YtdhclfgoomldfaaGreatDoor
open Go.RowKit
@[reducible] def a3.at(C:a3)(s:Nat):a3:={C with fr:=s}
def Ge(r:AV):Nat->AV:=λi=>match i with|0=>r|_=>.any
def qf(C:a3)(b:Func)(bo:AV->AH->Prop)(s:Nat):cv->a2->Prop
 | .exit _,_=>False
 |_,st=>∃rs,gk C st b.results.toList=some rs∧g2 ⟨Ge (Dp rs),st.h,st.n⟩ (λa=>∃r h' σ,bo r h'∧d_ s σ (s+1)=true∧c1 a ⟨Ge r,h',s+1⟩ σ)
def g4(h:AH):Nat->Bool
 |0=>true
 |k+1=>match h k with|some _=>g4 h k|none=>false
theorem uH{h:AH}:∀{s:Nat},g4 h s=true->∀x,x<s->h x≠none
 |0,_,x,c=>absurd c (dG _)
 | k+1,a,x,c=>by
  simp[g4]at a;split at a
  ·rename_i b d;rcases fk x k with h|h
   ·exact uH a x h
   ·have:x=k:=oT;subst this;rw[d];simp
  ·cases a
theorem KD:∀{b:Nat} {σ:Nat->Nat} {n:Nat},d_ b σ n=true->∀x,x<b->σ x=x∧x<n
 |0,_,_,_,x,c=>absurd c (dG _)
 | k+1,σ,n,a,x,c=>by
  simp[d_]at a;split at a
  ·rename_i d e;rcases fk x k with h|h
   ·exact KD a x h
   ·have:x=k:=oT;subst this;exact⟨aO d,aJ e⟩
  ·cases a
section
variable (S:Nat->Prop)(w:World)(β:Bt)
def hQ(b:Nat):Prop:=∃x l,β x=some l∧l.j=b
structure k9(s:Nat)(S':Nat->Prop)(w':World)(β':Bt):Prop where
 hS:∀b,S b->S' b
 hE:ci S w w'
 f:w.heap.size<=w'.heap.size
 Zt:∀x l,x<s->β x=some l->β' x=some l
 own:∀x l,β' x=some l->hQ β l.j∨w.heap.size<=l.j
 nw:∀b,S' b->S b∨w.heap.size<=b∨hQ β b
 still:∀b,b<w.heap.size-> ¬hQ β b->w'.heap[b]?=w.heap[b]?
def UH{S:Nat->Prop}{w w' c:World}(h:ci S w w')(e:c.heap=w'.heap):ci S w c:=⟨λb a=>by rw[e];exact h.ZI b a,λb d t g a=>by rw[e];exact h.shape b d t g a⟩
def Gf(s:Nat):Inv s where
 p:=k9 S w β s
 mono:=by
  intro B o p j s1 u r t P K
  refine⟨λb a=>K.hS b (P.hS b a),P.hE.trans P.hS K.hE,aL P.f K.hB.size,λx l i c=>K.hle _ _ (P.Zt x l i c),λx l c=>?_,λb a=>?_,λb a m=>?_⟩
  ·rcases K.Zg x l c with h|⟨_,h|⟨y,k,g,d⟩⟩
   ·exact P.own x l h
   ·exact .inr (aL P.f h)
   rw[<-d];exact P.own y k g
  ·rcases K.hN b a with h|⟨_,h|⟨y,k,g,d⟩⟩
   ·exact P.nw b h
   ·exact .inr (.inl (aL P.f h))
   rcases P.own y k g with h|h
   ·exact .inr (.inr (d ▸ h))
   exact .inr (.inl (d ▸ h))
  refine(K.hO b (ep a P.f) λy k g d=>?_).trans (P.still b a m)
  rcases P.own y k g with h|h
  ·exact m (d ▸ h)
  rw[d]at h;omega
 YO:=by
  intro o p j σ n P q
  refine⟨P.hS,P.hE,P.f,λx l i c=>?_,λx l c=>?_,P.nw,P.still⟩
  ·let⟨g,d⟩:=KD q x i
   simp[d,fD,g]
   exact P.Zt x l i c
  by_cases i:x<n
  ·rw[aa i]at c;exact P.own _ l c
  rw[dZ i]at c;cases c
 YT:=by
  intro o p j x l P c
  refine⟨λb a=>.inl (P.hS b a),P.hE,P.f,P.Zt,P.own,λb a=>?_,P.still⟩
  rcases a with a|rfl
  ·exact P.nw b a
  exact(P.own x l c).elim (λh=>.inr (.inr h)) λh=>.inr (.inl h)
 heap:=by
  intro o p r j P e
  exact⟨P.hS,UH P.hE e,by rw[e];exact P.f,P.Zt,P.own,P.nw,λb a m=>by rw[e];exact P.still b a m⟩
end
theorem HCall.intro{C:a3}{s}(V:b6 (C.at s)){f}{d}{m}{args}{h}{bo}(X:C.P.funcs[f]?=some d)(c:d.body=some m)(ab:(d.name== "runtime.NumGoroutine")=false)
  (hN:rU d.ntmps m=true) (G:Nat.ble args.length d.ntmps=true) (K:g4 h s=true) (hw:eA (C.at s) (bI (C.at s)) m ⟨fu args,h,s⟩ (qf (C.at s) d bo s)) (N:C.df=[]:=by rfl):pM C.P C.G f args h s bo:=by
 refine⟨⟨d,X,by rw[c];rfl,ab⟩,λB S w β o H E hG D=>?_⟩;have G:=aJ G;apply calls_of_wp X c;have g:({w with heap:=w.heap.extract 0 B}:World).heap.size=B:=by
  show(w.heap.extract 0 B).size=B;rw[Array.size_extract];have:=H.ZT;omega
 have F:∀b,b<B->(w.heap.extract 0 B)[b]?=w.heap[b]? :=λb c=>by
  rw[mQ,aa (oH H.ZT),bJ]
 have M0:bp (C.at s) (Gf S w β s) {w with heap:=w.heap.extract 0 B} S d.ntmps (· <s) (fu args) h {tmps:=o.toArray++Array.replicate (d.ntmps-o.toArray.size) undef,defers:=[]} w S β:=by
  have z:o.length=args.length:=D.1.symm;refine⟨λi=>?_,by rw[g];exact H,⟨rfl,rfl,rfl,by rw[g];exact H.ZT,λb c=>?_⟩,E,N.symm,by simp;omega,hG,λ_ h=>.inl h,⟨λ_ h=>h,ci.refl _ _,aC _,λ_ _ _ h=>h,λx l h=>.inl ⟨x,l,h,rfl⟩,λ_ h=>.inl h,λ_ _ _=>rfl⟩⟩
  ·rw[mj]
   cases W:args[i]? with
   |none=>exact .any _
   | some x=>
    have Z:i<o.length:=by rw[z];exact(Em.1 W).1
    have T:o[i]?=some o[i]:=aA Z;have:(o.toArray++Array.replicate (d.ntmps-o.toArray.size) undef).getD i undef=o[i]:=by
     rw[aK,dS (sU Z),eM,T];rfl
    rw[this];exact D.2 i x _ W T
  ·rw[g]at c;exact(F b c).symm
 apply wp_mono (CM V m hN ⟨fu args,h,s⟩ _ hw _ w S β M0);rintro e R w' ⟨e',st,U,Q,rfl,A,M⟩;have L:(∃rs,gk (C.at s) st d.results.toList=some rs∧g2 ⟨Ge (Dp rs),st.h,st.n⟩ (λO=>∃r h' σ,bo r h'∧d_ s σ (s+1)=true∧c1 O ⟨Ge r,h',s+1⟩ σ))->R.defers=[]∧∃v,(results d R.tmps).run C.P w'=.ok v w'∧∃v' S2 J r h',bo r h'∧Ending.returned v=.returned v'∧au S2 w' J r v'∧ct B S2 w' J h'∧gl B S w β s S2 w' J:=by
  rintro⟨rs,h1,O,Y,r,h',σ,hP,hk,hW⟩;let⟨fz,dr,n⟩:=st;let⟨us,c',bb⟩:=JA V M _ rs h1;have I:au U w' Q (Dp rs) (if h:us.toArray.size=1 then us.toArray[0]else .tuple us.toArray):=by
   match rs,us,bb with
   |[],us,bb=>
    have:us=[]:=g3 bb.1.symm;subst this
    exact .E [] #[] rfl λi a u p=>by simp at p
   |[x],us,bb=>
    match us,bb with
    |[u],bb=>simpa [Dp]using bb.2 0 x u rfl rfl
    |[],bb=>exact absurd bb.1 (by simp)
    |_::_::_,bb=>exact absurd bb.1 (by simp)
   | x::y::em,us,bb=>
    have t: ¬us.toArray.size=1:=by
     have:=bb.1;simp at this⊢;omega
    rw[dif_neg t];exact .E _ _ (sU bb.1) λi a u p q=>bb.2 i a u p (sU q)
  refine⟨M.df.trans N,_,yO _ us c' d rfl,?_⟩;generalize T:(if h:us.toArray.size=1 then us.toArray[0]else .tuple us.toArray)=v at I⊢;have M1:bp (C.at s) (Gf S w β s) {w with heap:=w.heap.extract 0 B} S 1 (· <n) (Ge (Dp rs)) dr {tmps:= #[v],defers:=R.defers} w' U Q:=by
   refine⟨λi=>?_,M.H,M.B,M.Z3,M.df,rfl,M.G,M.nw,M.iv⟩
   cases i with
   |zero=>exact I
   |succ i=>exact .any _
  let⟨S2,c0⟩:=nK Y M1;have j:=pK hW hk c0;refine⟨v,S2,_,r,h',hP,rfl,j.T 0,by have:=j.H;rwa [g]at this,?_⟩;have P:k9 S w β s S2 w' _:=j.iv;refine⟨P.hS,P.hE,⟨j.B.os,j.B.tape,j.B.output,P.f,λb c=>?_⟩,λx l z=>P.Zt x l (E x l z) z,λx l z=>?_,λb c=>?_,λb c hn=>P.still b c λ⟨x,l,h1,h2⟩=>hn x l h1 h2⟩
  ·rw[j.B.block b (by rw[g];exact c)];exact F b c
  ·rcases fk x s with hx|hx
   ·let⟨blk,b4⟩:=DQ.1 ((uH K) x hx);let⟨ds,_,_,_,cs,_⟩:=H.own x blk b4;have:=P.Zt x ds hx cs;rw[z]at this;injection this with this;subst this;exact .inl cs
   ·have ag:x=s:=by
     have:=j.Z3 x l z;have:x<s+1:=this;omega
    refine .inr ⟨ag,?_⟩;rcases P.own x l z with ⟨y,k,h1,h2⟩|h
    ·exact .inr ⟨y,k,h1,h2⟩
    ·exact .inl h
  ·rcases P.nw b c with h|h|⟨y,k,h1,h2⟩
   ·exact .inl h
   ·exact .inr ⟨aL H.ZT h,.inl h⟩
   ·rcases j.nw b c with h|h
    ·exact .inl h
    ·exact .inr ⟨by rwa [g]at h,.inr ⟨y,k,h1,h2⟩⟩
 cases e' with
 |normal=>exact L A
 |ret=>exact L A
 |exit i=>exact A.elim
def LY{S}{w}{β}{a}{v}(B:au S w β a v):∀{d:Bt} {ρ:Nat->Nat},(∀x l,β x=some l->d (ρ x)=some l)->au S w d (uW ρ a) v:=by
 induction B with
 |v x=>intro d ρ _;exact .v x
 |agg E D k t h ih=>
  intro d ρ j;refine .agg _ D (by rw[tS];exact k) t λi a u p q=>?_;rw[pJ]at p;obtain⟨y,r,rfl⟩:=Gi.1 p
  exact ih i y u r q j
 |E E D k h ih=>
  intro d ρ j;refine .E _ D (by rw[tS];exact k) λi a u p q=>?_;rw[pJ]at p;obtain⟨y,r,rfl⟩:=Gi.1 p
  exact ih i y u r q j
 |X rs rows n A c b o u F H z C hA I t B ih=>intro d ρ _;exact .X rs rows n A c b o u F H z C hA I t B
 |dp rs m row b o u C j I t B ih=>intro d ρ _;exact .dp rs m row b o u C j I t B
 |ptr s m l k=>intro d ρ j;exact .ptr _ m l (j _ _ k)
 |u s row m l k=>intro d ρ j;exact .u _ row m l (j _ _ k)
 |S s lo len n l A c k F H z hA E e O j J=>intro d ρ K;exact .S _ lo len n l A c (K _ _ k) F H z hA E e O j J
 | F f first N D P k h L h' ih M=>
  intro d ρ j;refine .F f _ _ D P (by rw[tS];exact k) (λi a u p q=>?_) (by rw[tS];exact L) λi a u p q=>?_
  ·rw[pJ]at p;obtain⟨y,r,rfl⟩:=Gi.1 p;exact ih i y u r q j
  ·rw[pJ]at p;obtain⟨y,r,rfl⟩:=Gi.1 p
   exact M i y u r q j
 |Zr g a x G h ih=>intro d ρ j;exact .Zr g _ x G (ih j)
 |Zn g a G=>intro d ρ _;exact .Zn g _ G
 |any x=>intro d ρ _;exact .any x
def Rz{S}{w}{β c}{ρ}{l}{i}{blk}(k:Bf S w β l i blk)(m:∀x l,β x=some l->c (ρ x)=some l):Bf S w c l i (DI ρ blk):=by
 cases blk with
 |box cells=>
  intro j a b;rw[pJ]at b;obtain⟨y,d,rfl⟩:=Gi.1 b;let⟨u,e,g,h⟩:=k j y d
  exact⟨u,e,g,LY h m⟩
 |arr rows rs=>exact k
 |row cells=>
  refine⟨k.1,λj a b=>?_⟩;rw[pJ]at b;obtain⟨y,d,rfl⟩:=Gi.1 b;let⟨u,e,g,h⟩:=k.2 j y d;exact⟨u,e,g,LY h m⟩
def OZ{S}{w}{β}{ρ}{n}{l}{g}{blk}(h:qM n blk=true)(k:Bf S w β l g (DI ρ blk)):Bf S w (λs=>if s<n then β (ρ s)else none) l g blk:=by
 cases blk with
 |box cells=>
  intro j a b;obtain⟨u,c,d,e⟩:=k j _ (by rw[pJ,b];rfl)
  exact⟨u,c,d,Bv _ _ _ (aC _) (tD _ cells (by simpa [qM]using h) j a b) e⟩
 |arr rows rs=>exact k
 |row cells=>
  refine⟨k.1,λj a b=>?_⟩;obtain⟨u,c,d,e⟩:=k.2 j _ (by rw[pJ,b];rfl);exact⟨u,c,d,Bv _ _ _ (aC _) (tD _ cells (by simpa [qM]using h) j a b) e⟩
def Gg(ρ:Nat->Nat)(s aq:Nat):Nat->Nat:=λx=>match Nat.beq x s with|true=>aq|false=>ρ x
def lk(ρ)(s aq):Gg ρ s aq s=aq:=by simp[Gg]
def rL(ρ){s aq x}(h:x≠s):Gg ρ s aq x=ρ x:=by
 unfold Gg;have:Nat.beq x s=false:=by rw[<-eJ];exact λe=>h (aO e)
 rw[this]
theorem pM.frame{P}{G}{f}{args}{h}{s}{bo}(H:pM P G f args h s bo)(ρ)(K)(aq)(W:g4 h s=true)(D:∀x,h x≠none->x<s)
  (h1:∀x blk,h x=some blk->ρ x<aq∧qM s blk=true∧K (ρ x)=some (DI ρ blk)) (h2:∀x y,x<s->y<s->ρ x=ρ y->x=y) (ha:mS s args=true)
  (L) (V:∀r h',bo r h'->∃hc,L (uW (Gg ρ s aq) r) hc∧∀y blk,hc y=some blk->(∃x j,h' x=some j∧y=Gg ρ s aq x∧blk=DI (Gg ρ s aq) j)∨(K y=some blk∧∀x,x<s->ρ x≠y)):
  pM P G f (Bg ρ args) K aq L:=by
 refine⟨H.1,λB S w β vs A J hG M=>?_⟩;have R:∀x,x<s->∃l,β (ρ x)=some l∧K (ρ x)≠none:=λx hx=>by
  let⟨blk,b4⟩:=DQ.1 ((uH W) x hx);let⟨_,_,e⟩:=h1 x blk b4;let⟨l,_,_,_,bb,_⟩:=A.own _ _ e;exact⟨l,bb,by rw[e];simp⟩
 have HS:ct B S w (λx=>if x<s then β (ρ x)else none) h:=by
  refine⟨λx blk hx=>?_,λx O l o hx dr e e' C=>?_,A.lt,A.ZT⟩
  ·let⟨_,em,e⟩:=h1 x blk hx;let⟨l,cs,hX,hj,bb,ds,hm,ho,hp,hq⟩:=A.own _ _ e;exact⟨l,cs,hX,hj,by simp[D x (by rw[hx];simp),fD];exact bb,ds,hm,ho,hp,OZ em hq⟩
  have Y:=D x hx;have Z:=D O dr;rw[aa Y]at e;rw[aa Z]at e';exact h2 x O Y Z (A.inj _ _ _ _ (R x Y).choose_spec.2 (R O Z).choose_spec.2 e e' C)
 have hL:b2 S w (λx=>if x<s then β (ρ x)else none) args vs:=by
  exact⟨by rw[<-M.1,tS],λi a u p q=>(Bv _ _ _ (aC _) (tD _ args ha i a p) (M.2 i (uW ρ a) u (by rw[pJ,p];rfl) q))⟩
 refine(H.2 B S w _ vs HS (λx l c=>?_) hG hL).mono ?_
 ·by_cases hx:x<s
  ·exact hx
  rw[dZ hx]at c;cases c
 rintro e w' ⟨v,S',d,r,h',hP,rfl,hr,I,n⟩;let⟨hc,hT,h3⟩:=V r h' hP;have E:∀x l,(if x<s then β (ρ x)else none)=some l->x<s∧β (ρ x)=some l:=λx l c=>by
  by_cases hx:x<s
  ·rw[aa hx]at c;exact⟨hx,c⟩
  rw[dZ hx]at c;cases c
 have F:∀x l,d x=some l->(λy=>if y=aq then d s else β y) (Gg ρ s aq x)=some l:=λx l c=>by
  rcases n.Zg x l c with h|⟨h,_⟩
  ·let⟨hx,dr⟩:=E x l h;have:ρ x<aq:=J _ _ dr;rw[rL ρ oT];show(if ρ x=aq then d s else β (ρ x))=some l;rwa[dZ oT]
  subst h;rw[lk];show(if aq=aq then d x else β aq)=some l;rwa[aa rfl]
 have Q:ME β (λy=>if y=aq then d s else β y):=λy l c=>by
  have:=J y l c;show(if y=aq then d s else β y)=some l;rwa[dZ oT]
 have N:∀y blk l,K y=some blk->β y=some l->(∀x,x<s->ρ x≠y)->∀x k,(if x<s then β (ρ x)else none)=some k->k.j≠l.j:=λy blk l m c c' x k hk e=>by
  let⟨hx,dr⟩:=E x k hk;exact c' x hx (A.inj _ _ _ _ (R x hx).choose_spec.2 (by rw[m];simp) dr c e)
 refine⟨v,S',λy=>if y=aq then d s else β y,_,hc,hT,rfl,LY hr F,⟨λy blk m=>?_,λy y' l o m ag c0 U C=>?_,I.lt,I.ZT⟩,⟨n.hS,n.hE,n.hB,Q,λy l c=>?_,λb C=>?_,λb C hn=>n.hO b C λx k hk=>?_⟩⟩
 ·rcases h3 y blk m with ⟨x,j,c0,rfl,rfl⟩|⟨c0,c'⟩
  ·let⟨l,cs,hX,hj,bb,ds,hm,ho,hp,hq⟩:=I.own x j c0;exact⟨l,cs,hX,hj,F x l bb,ds,hm,ho,hp,Rz hq F⟩
  let⟨l,cs,hX,hj,bb,ds,hm,ho,hp,hq⟩:=A.own y blk c0;have g:=N y blk l c0 bb c';have D:=fJ ds;refine⟨l,cs,hX,hj,Q _ _ bb,(n.hO _ D g).trans ds,hm,ho,λhS=>?_,hq.mono n.hS n.hE Q⟩;rcases n.hN _ hS with h|⟨_,h|⟨x,k,fz,gf⟩⟩
  ·exact hp h
  ·omega
  exact g x k fz gf
 ·
  have T:∀y l,hc y≠none->(if y=aq then d s else β y)=some l->(∃x,h' x≠none∧d x=some l∧y=Gg ρ s aq x)∨(K y≠none∧β y=some l∧∀x,x<s->ρ x≠y):=λy l m c=>by
   let⟨blk,b4⟩:=DQ.1 m;rcases h3 y blk b4 with ⟨x,j,c0,U,_⟩|⟨c0,c'⟩
   ·let⟨hu,_,_,_,bb,_⟩:=I.own x j c0;have:=F x hu bb;rw[<-U,show(λy=>if y=aq then d s else β y) y=(if y=aq then d s else β y)from rfl,c]at this;injection this with this;subst this;exact .inl ⟨x,by rw[c0];simp,bb,U⟩
   let⟨hu,_,_,_,bb,_⟩:=A.own y blk c0;have ai:y<aq:=J y hu bb;rw[dZ oT]at c;exact .inr ⟨by rw[c0];simp,c,c'⟩
  have X:∀y l x o,K y≠none->β y=some l->(∀x,x<s->ρ x≠y)->h' x≠none->d x=some o->l.j≠o.j:=λy l x o m c c' hx ab e=>by
   let⟨blk,b4⟩:=DQ.1 m;have g:=N y blk l b4 c c';let⟨hu,_,_,_,bb,ds,_⟩:=A.own y blk b4;rw[c]at bb;injection bb with bb;subst bb;have D:=fJ ds;rcases n.Zg x o ab with h|⟨_,h|⟨h4,k,fz,gf⟩⟩
   ·exact g x o h e.symm
   ·omega
   exact g h4 k fz (gf.trans e.symm)
  rcases T y l m c0 with ⟨x,hd,hf,hw⟩|⟨hd,hf,hw⟩<;>rcases T y' o ag U with ⟨O,em,hg,hz⟩|⟨em,hg,hz⟩
  ·rw[hw,hz,I.inj x O l o hd em hf hg C]
  ·exact absurd C.symm (X y' o x l em hg hz hd hf)
  ·exact absurd C (X y l O o hd hf hw em hg)
  exact A.inj y y' l o hd em hf hg C
 ·have c:(if y=aq then d s else β y)=some l:=c;by_cases m:y=aq
  ·rw[aa m]at c;refine .inr ⟨m,?_⟩;rcases n.Zg s l c with h|⟨_,h|⟨h4,k,fz,gf⟩⟩
   ·exact absurd (E s l h).1 (iI _)
   ·exact .inl h
   exact .inr ⟨_,k,(E h4 k fz).2,gf⟩
  rw[dZ m]at c;exact .inl c
 ·rcases n.hN b C with h|⟨hR,h|⟨x,k,fz,gf⟩⟩
  ·exact .inl h
  ·exact .inr ⟨hR,.inl h⟩
  exact .inr ⟨hR,.inr ⟨_,k,(E x k fz).2,gf⟩⟩
 exact hn _ k (E x k hk).2
theorem pM.Za{P}{G}{f}{args}{blk c}{r}(H:pM P G f args (ap [(0,blk)]) 1 (λx h'=>x=r∧h'=ap [(0,c)]))(b)(K)(aq)(n:b<aq)
  (i:qM 1 blk=true) (j:K b=some (DI (λ_=>b) blk)) (m:mS 1 args=true):
  pM P G f (Bg (λ_=>b) args) K aq (λx h'=>x=uW (Gg (λ_=>b) 1 aq) r∧h'=ao K b (some (DI (Gg (λ_=>b) 1 aq) c))):=by
 refine H.frame (λ_=>b) K aq rfl (λx a=>?_) (λx g a=>?_) (λx y a d _=>by omega) m _ λo h' k=>?_
 ·cases x with
  |zero=>omega
  |succ x=>exact absurd rfl a
 ·cases x with
  |zero=>injection a with a;subst a;exact⟨n,i,j⟩
  |succ x=>cases a
 ·obtain⟨rfl,rfl⟩:=k;refine⟨_,a9,λy g d=>?_⟩;by_cases h:y=b
  ·subst h;rw[dB]at d;injection d with d;exact .inl ⟨0,c,rfl,rfl,d.symm⟩
  ·rw[cI _ _ h]at d;exact .inr ⟨d,λx a e=>h e.symm⟩
theorem b6.at{C}{s}(h:b6 C):b6 (C.at s):=⟨h.ty,h.mixed,h.hH⟩
def Fq{C:a3}{R:FuncId->List AV->AV->Prop}{Q:cv->a2->Prop}{κ:Type}(S:κ->a2)(G:κ->Prop){a b:Code}{st:a2}(g:eA C R a st (λe c=>match e with| .normal=>g2 c (λd=>∃k σ,c1 d (S k) σ∧d_ C.fr σ (S k).n=true∧G k)|e=>Q e c))(h:∀k,G k->eA C R b (S k) Q):eA C R (.seq a b) st Q:=
 zt S G g h lE
def BH{C:a3}{a:Func}{bo:AV->AH->Prop}{s:Nat}{st:a2}{rs:List AV}(c:gk C st a.results.toList=some rs){r:AV}{h':AH}{σ:Nat->Nat}(d:bo r h')(g:d_ s σ (s+1)=true)(e:c1 ⟨Ge (Dp rs),st.h,st.n⟩ ⟨Ge r,h',s+1⟩ σ):
  ∃rs,gk C st a.results.toList=some rs∧g2 ⟨Ge (Dp rs),st.h,st.n⟩ (λb=>∃r h' σ,bo r h'∧d_ s σ (s+1)=true∧c1 b ⟨Ge r,h',s+1⟩ σ):=
 ⟨rs,c,.mk _ (.refl _) ⟨r,h',σ,d,g,e⟩⟩
def ah{st:a2}{x r}{hp}{n}(σ)(d:x=uW σ r)(a:mR n r=true)(b:WH ⟨Ge x,st.h,st.n⟩ n σ hp)(c:En ((hp.map (·.1)).map σ)=true):c1 ⟨Ge x,st.h,st.n⟩ ⟨Ge r,ap hp,n⟩ σ:=by
 have W:=c1.ZE (l:=[(0,r)]) σ ⟨⟨d,a⟩,trivial⟩ b c;refine⟨λi=>?_,W.h,W.inj⟩;have:=W.t i
 cases i with
 |zero=>exact this
 |succ i=>exact .inl rfl
def k_(fz:Fz):List AV->List AV->Prop
 |[],[]=>True
 |a::c,b::d=>e9 fz a b∧k_ fz c d
 |_,_=>False
theorem k_.get{fz:Fz}:∀{bb b4:List AV},k_ fz bb b4->bb.length=b4.length∧∀(i:Nat) a d,bb[i]?=some a->b4[i]?=some d->e9 fz a d
 |[],[],_=>⟨rfl,λi a d h=>by simp at h⟩
 |a::bb,b::b4,h=>by
  let⟨h1,h2⟩:=k_.get h.2;refine⟨by simp[h1],λi x y c e=>?_⟩
  cases i with
  |zero=>simp at c e;subst c e;exact h.1
  |succ i=>exact h2 i x y (sU c) (sU e)
 |[],_::_,h=>h.elim
 |_::_,[],h=>h.elim
theorem fc.ZP{fz}{a b}(h:k_ fz a b):fc fz (.box a) (.box b):=.box a b h.get.1 h.get.2
def GT(st:a2)(fz:Fz):List (Nat×AV)->Prop
 |[]=>True
 |(i,x)::l=>e9 fz (st.t i) x∧GT st fz l
def GH(st:a2)(fz:Fz):List (Nat×bh)->Prop
 |[]=>True
 |(i,x)::l=>((match fz with|some (b,_,_)=>Nat.beq i b=false|none=>True)∧∃a,st.h i=some a∧fc fz a x)∧GH st fz l
theorem kp.ZE{st}{fz}{l}{hp}(d:match fz with|some (x,rs,rows)=>st.h x=some (.arr rows rs)|none=>True)(g:GT st fz l)(c:GH st fz hp):kp st ⟨be l,ap hp,st.n⟩ fz:=by
 refine⟨λx rs rows h=>(by subst h;exact d),rfl,λi=>?_,λs blk a=>?_⟩
 ·clear c d
  induction l with
  |nil=>exact .any _
  |cons p l ih=>
   let⟨j,x⟩:=p;simp[be]
   cases b:Nat.beq j i with
   |true=>rw[<-aO b];exact g.1
   |false=>exact ih g.2
 ·clear g d
  induction hp with
  |nil=>cases a
  | cons p hp ih=>
   let⟨j,x⟩:=p
   change ap _ _=_ at a
   simp[ap]at a
   cases b:Nat.beq j s with
   |true=>
    rw[b]at a;injection a with a;subst a;rw[<-aO b];refine⟨λx rs rows k e=>?_,c.1.2⟩;have:=c.1.1;subst k;simp only at this;rw[e]at this
    simp at this
   |false=>rw[b]at a;exact ih c.2 a
abbrev e':= @kp.ZE
open Go.Proofs.Tryz
abbrev dU(n:Nat):List AV:=[.v (.int .u32 (n:Int))]
theorem lN:∀(l:List UInt8),gU (l.map λb=>[.v (.int .u8 (b.toNat:Int))])=some l
 |[]=>rfl
 |b::l=>by
  simp only[jC,gU,lN l];simp
def dK{C:a3}{a:Func}{r:AV}{st:a2}{rs:List AV}(b:gk C st a.results.toList=some rs)(c:jU st.h (Dp rs))(d:eP (vR st.h (Dp rs))=true)(e:vR st.h (Dp rs)=r):ST C a r st:=qY b c d e
def fT{C:a3}{a:Func}{r:AV}{st:a2}{rs:List AV}(b:gk C st a.results.toList=some rs)(e:vR st.h (Dp rs)=r)(c:jU st.h (Dp rs):=by exact trivial)(d:eP (vR st.h (Dp rs))=true:=by exact rfl):ST C a r st:=dK b c d e
set_option maxRecDepth 100000 in
set_option maxHeartbeats 4000000 in
theorem Fs(i:SI):bI C0 79 [hC i] (.E [.v (.int .i64 i.m),.v (.int .i64 i.x)]):=by
 refine dI func79 ?_;refine uR<|Wz rfl<|e5 (x:=.ptr 0 0) (h':=ao _ 0 (some (.box [.v (.int .i64 i.op),.v (.int .i64 i.rd),.v (.int .i64 i.m),.v (.int .i64 i.x),.v (.int .u32 ((i.A:Nat):Int))]))) rfl rfl (rfl) (trivial)<|cy rfl rfl rfl<|cy rfl rfl rfl<|h_ (n':=3) rfl<|uR<|Wz rfl<|cy rfl rfl rfl<|cy rfl rfl rfl<|cy rfl rfl rfl<|cy rfl rfl rfl<|cy rfl rfl rfl<|cy rfl rfl rfl<|h_ (n':=9) rfl<|FQ ?_;exact qY rfl trivial rfl rfl
def UI{prog}{pc}(b:pc%4=0)(a:pc/4<prog.length):∃x,ek prog pc=some x∧prog[((pc/4:Nat):Int).toNat]?=some x:=by
 refine⟨prog[pc/4],?_,?_⟩
 ·unfold ek;rw[aa b,aA a]
 rw[Int.toNat_natCast,aA a]
def NC{prog}{pc}(h:pc%4≠0∨prog.length<=pc/4):ek prog pc=none:=by
 unfold ek;split
 ·exact bE oT
 rfl
def KE{prog}(hp:∀x∈prog,x<=4294967295)(pc):bf prog pc<=4294967295:=by
 unfold bf ek;split
 ·cases h:prog[pc/4]? with
  |none=>exact aE _
  |some x=>exact hp x (aB h)
 ·exact aE _
def Ay(i)(a):gx i a<=4294967295:=by unfold gx;omega
def uT(a):b8 a<=4294967295:=by unfold b8;omega
def XG{n:Nat}(h:n<=1000000):IntKind.wrap .u64 ((n:Int))=(n:Int):=by
 simp only[IntKind.wrap,IntKind.signed,IntKind.bits];simp;omega
set_option maxRecDepth 100000 in
set_option maxHeartbeats 4000000 in
theorem ND(prog:List Nat)(pc:Nat)(a:Bool)(hp:∀x∈prog,x<=4294967295)(j:prog.length<=1000000)(c:pc<=4294967295):bI C0 92 [.X 1 (prog.map dU) a,.v (.int .u32 (pc:Int))] (.E [.v (.int .u32 (bf prog pc:Int)),.v (.bool (ek prog pc).isSome)]):=by
 refine dI func92 ?_;refine uR ?_;refine Wz rfl ?_;refine cy (d:=4) (x:=.v (.int .u32 0)) rfl rfl rfl ?_;refine cy (d:=5) (x:=.v (.bool false)) rfl rfl rfl ?_;refine h_ (n':=2) rfl ?_;refine uR ?_;refine uR ?_;refine Wz rfl ?_;refine cy (d:=6) (x:=.v (.int .u32 (pc:Int))) rfl rfl rfl ?_;have k:pc%4<=3:=aI (aQ _ dT);refine bO (d:=7) (x:=.v (.int .u32 ((pc%4:Nat):Int))) rfl rfl rfl dT ?_;refine cy (d:=8) (x:=.v (.bool ((pc%4) != 0))) rfl rfl (am (db _ _)) ?_;refine cy (d:=9) (x:=.v (.bool ((pc%4) != 0))) rfl rfl rfl ?_;refine pm (d:=10) (x:=.v (.int .u32 (pc:Int))) (g:= !((pc%4) != 0)) rfl rfl rfl rfl rfl rfl ?_;have e:pc/4<=1073741823:=eG c;refine pB (d:=11) (x:=.v (.int .u32 ((pc/4:Nat):Int))) (g:= !((pc%4) != 0)) rfl rfl rfl rfl (λh=>h) rfl (hW (nJ e rfl)) (λ_=>by decide) ?_;refine ly (d:=12) (x:=.v (.int .u64 ((pc/4:Nat):Int))) (g:= !((pc%4) != 0)) rfl rfl rfl rfl (λh=>h) rfl (ar (nJ e rfl)) ?_;refine pm (d:=13) (x:=.X 1 (prog.map dU) a) (g:= !((pc%4) != 0)) rfl rfl rfl rfl rfl rfl ?_;refine ly (d:=14) (x:=.v (.int .i64 ((prog.map dU).length:Int))) (g:= !((pc%4) != 0)) rfl rfl rfl rfl (λh=>h) rfl rfl ?_;refine ly (d:=15) (x:=.v (.int .u64 ((prog.length:Nat):Int))) (g:= !((pc%4) != 0)) rfl rfl rfl rfl (λh=>h) rfl (by show bw.ok (.v (.int .u64 (IntKind.wrap .u64 ((((prog.map dU).length:Nat):Int)))))=_;rw[aH,XG j]) ?_;refine ly (d:=16) (x:=.v (.bool (decide ((pc/4)>=prog.length)))) (g:= !((pc%4) != 0)) rfl rfl rfl rfl (λh=>by simp_all) rfl (am (i9 _ _)) ?_;refine bO (d:=17) (x:=.v (.bool (cE ((pc%4) != 0) true (decide ((pc/4)>=prog.length))))) rfl rfl rfl (by simp) ?_;refine h_ (n':=14) rfl ?_;refine aV (v:=cE ((pc%4) != 0) true (decide ((pc/4)>=prog.length))) rfl (λb=>?_) (λb=>?_)
 ·skip
  refine uR ?_;refine Wz rfl ?_;refine cy (d:=4) (x:=.v (.int .u32 0)) rfl rfl rfl ?_;refine cy (d:=5) (x:=.v (.bool false)) rfl rfl rfl ?_;refine h_ (n':=16) rfl ?_;refine FQ ?_;exact dK rfl trivial rfl (by unfold bf;rw[NC (by simp[cE,bne]at b;split at b<;>first|(left;assumption)|(right;assumption)|simp_all)];rfl)
 ·skip
  refine mF ?_;refine uR ?_;refine Wz rfl ?_;refine cy (d:=18) (x:=.X 1 (prog.map dU) a) rfl rfl rfl ?_;refine cy (d:=19) (x:=.v (.int .u32 (pc:Int))) rfl rfl rfl ?_;have g:pc/4<=1073741823:=eG c;refine bO (d:=20) (x:=.v (.int .u32 ((pc/4:Nat):Int))) rfl rfl (hW (nJ g rfl)) dT ?_;obtain⟨x,i,d⟩:=UI (prog:=prog) (pc:=pc) (by simp[cE,bne]at b;split at b<;>simp_all) (by simp[cE,bne]at b;split at b<;>simp_all);have m:x<=4294967295:=hp x (aB d);refine FO (dU x) (d:=21) (x:=.dp 1 0 (dU x)) rfl rfl rfl (⟨oT,by rw[aX];exact az (Option.map dU) d⟩) rfl ?_;refine cy (d:=22) (x:=.v (.int .u32 (x:Int))) rfl rfl rfl ?_;refine cy (d:=4) (x:=.v (.int .u32 (x:Int))) rfl rfl rfl ?_;refine cy (d:=5) (x:=.v (.bool true)) rfl rfl rfl ?_;refine h_ (n':=21) rfl ?_;refine FQ ?_;exact dK rfl trivial rfl (by unfold bf;rw[i];rfl)
def sQ{size:Nat}{a}{n:Nat}(h:kZ (size:Int) a (n:Int)=true):a+n<=size∧0<n∧n<=4:=by
 simp[kZ,aP,aY]at h;omega
def qV(m):(aS m).length=m.size:=by simp[aS]
def hF(n:Nat):Nat:=if n<=16 then 16 else if n<=32 then 32 else if n<=64 then 64 else if n<=128 then 128 else 256
def jB(m:ByteArray):ByteArray:=⟨((m.extract 0 (min m.size 256)).data.toList++List.replicate (hF (min m.size 256)-min m.size 256) 0).toArray⟩
def Cw(m:ByteArray):(m.extract 0 (min m.size 256)).size=min m.size 256:=by rw[dA];omega
def wE(m):(jB m).size=hF (min m.size 256):=by
 have a:(m.extract 0 _).data.size=min m.size 256:=(Cw m);show(jB m).data.size=_;simp[jB,kP,aU,cV,cM,a];unfold hF
 repeat' (split<;>try omega)
def RA(n):hF n<=256:=by unfold hF;repeat' (split<;>try omega)
def NE{n j}(c:j<=4)(a:n<=16*2 ^ j)(b:j=0∨16*2 ^ (j-1)<n):16*2 ^ j=hF n:=by
 have:j=0∨j=1∨j=2∨j=3∨j=4:=oT;unfold hF;rcases this with rfl|rfl|rfl|rfl|rfl<;>simp at a b⊢ <;>repeat' (split<;>try omega)
def IQ{j n}(a:j<=4)(h:16*2 ^ j<min n 256):j<4:=by
 have:j=0∨j=1∨j=2∨j=3∨j=4:=oT;rcases this with rfl|rfl|rfl|rfl|rfl<;>simp at h⊢ <;>omega
def Pb(m)(s)(h:m.size<=s):gU (List.take s (List.drop 0 (List.take 0 (List.replicate s [AV.v (.int .u8 0)])++List.take (min (aS m).length s) (aS m)++List.drop (0+min (aS m).length s) (List.replicate s [AV.v (.int .u8 0)]))))=some (m.data.toList++List.replicate (s-m.size) 0):=by
 have q:=qV m;simp only[pV,iA,bS,bJ,q,ll h];have a:List.take m.size _=aS m:=aN (by rw[q];exact aC _);rw[a,List.drop_replicate,aN (by simp[q];omega)];have:List.replicate (s-m.size) [AV.v (.int .u8 0)]=(List.replicate (s-m.size) (0:UInt8)).map λb=>[.v (.int .u8 (b.toNat:Int))]:=by simp
 rw[this];simp only[aS];rw[<-dH];exact lN _
set_option maxRecDepth 100000 in
set_option maxHeartbeats 4000000 in
theorem KF(m):bI C0 34 [.v (.string m)] (.v (.string (jB m))):=by
 refine dI func34 ?_;refine uR<|Wz rfl<|cy (x:=.v (.string (⟨#[]⟩))) rfl rfl rfl<|h_ (n':=1) rfl<|uR<|Wz rfl<|cy (x:=.v (.string m)) rfl rfl rfl<|cy (x:=.v (.string m)) rfl rfl rfl<|cy (x:=vI (m.size:Int)) rfl rfl rfl<|cy (x:=vN (min m.size 256)) rfl rfl (by show bw.ok (vI (if(256:Int)<(m.size:Int)then 256 else(m.size:Int)))=_;congr 3;split<;>omega)<|bO (x:=.v (.string (m.extract 0 (min m.size 256)))) rfl rfl rfl (by refine⟨?_,?_,?_⟩<;>simp<;>omega)<|cy (x:=.v (.string (m.extract 0 (min m.size 256)))) rfl rfl rfl<|h_ (n':=7) rfl<|uR<|Wz rfl<|cy (x:=.v (.int .i64 16)) rfl rfl rfl<|h_ (n':=8) rfl<|uR<|kO<|jR (κ:=Nat) (λj=>⟨be [(0,.v (.string (m.extract 0 (min m.size 256)))),(3,vN (16*2 ^ j))],ap [],8⟩) (λj=>j<=4∧(j=0∨16*2 ^ (j-1)<min m.size 256)) (λj=>4-j) 0 (λs=>s) (av (λs=>s) ⟨⟨rfl,rfl⟩,⟨rfl,rfl⟩,trivial⟩ trivial rfl) (⟨dT,.inl rfl⟩) ?_;intro j b;refine uR<|uR<|Wz rfl<|cy (x:=.v (.int .i64 ((16*2 ^ j:Nat):Int))) rfl rfl rfl<|cy (x:=.v (.string (m.extract 0 (min m.size 256)))) rfl rfl rfl<|cy (x:=vN (min m.size 256)) rfl rfl (az (λn:Nat=>bw.ok (vI (n:Int))) (Cw m))<|cy rfl rfl (am (bz _ _))<|h_ (n':=12) rfl<|aV (v:=decide ((16*2 ^ j)<(min m.size 256))) rfl (λa=>?_) (λa=>?_)
 ·skip
  refine mF<|kO<|Wz rfl<|cy (x:=.v (.int .i64 ((16*2 ^ j:Nat):Int))) rfl rfl rfl<|cy (x:=vN (16*2 ^ (j+1))) rfl rfl (by show bw.ok (vI (IntKind.wrap .i64 (((16*2 ^ j:Nat):Int)*2)))=_;have c:=bU (n:=2) dT b.1;rw[c4 oT oT];congr 3;rw[Nat.pow_succ];omega)<|cy (x:=.v (.int .i64 ((16*2 ^ (j+1):Nat):Int))) rfl rfl rfl<|h_ (n':=15) rfl ?_;refine⟨j+1,λs=>s,av (λs=>s) ⟨⟨rfl,rfl⟩,⟨rfl,rfl⟩,trivial⟩ trivial rfl,⟨oH (IQ b.1 (bj a)),.inr (sU (of_decide_eq_true a))⟩,oH (IQ b.1 (bj a))⟩
 ·skip
  refine Bh<|uR<|Wz rfl<|cy (x:=.v (.int .i64 ((16*2 ^ j:Nat):Int))) rfl rfl rfl<|e5 (x:=.S 13 0 (16*2 ^ j) false) (h':=ao _ 13 (some (.arr (List.replicate (16*2 ^ j) [AV.v (.int .u8 0)]) 1))) rfl rfl (rfl) (by have c:=bU (n:=2) dT b.1;refine⟨oT,oT,?_⟩;simp only[jH];omega)<|cy (x:=.S 13 0 (16*2 ^ j) false) rfl rfl rfl<|h_ (n':=15) rfl<|uR<|Wz rfl<|cy (x:=.S 13 0 (16*2 ^ j) false) rfl rfl rfl<|cy (x:=.v (.string (m.extract 0 (min m.size 256)))) rfl rfl rfl<|e5 (x:=vN (min (aS (m.extract 0 (min m.size 256))).length (16*2 ^ j))) (h':=ao _ 13 (some (.arr (List.take 0 (List.replicate (16*2 ^ j) [AV.v (.int .u8 0)])++List.take (min (aS (m.extract 0 (min m.size 256))).length (16*2 ^ j)) (aS (m.extract 0 (min m.size 256)))++List.drop (0+min (aS (m.extract 0 (min m.size 256))).length (16*2 ^ j)) (List.replicate (16*2 ^ j) [AV.v (.int .u8 0)])) 1))) rfl rfl (rfl) (⟨by simp,trivial⟩)<|h_ (n':=18) rfl<|uR<|Wz rfl<|cy (x:=.S 13 0 (16*2 ^ j) false) rfl rfl rfl<|SV ((m.extract 0 (min m.size 256)).data.toList++List.replicate (hF (min m.size 256)-min m.size 256) 0) rfl rfl rfl (by show 0+16*2 ^ j<=List.length (List.take 0 (List.replicate (16*2 ^ j) [AV.v (.int .u8 0)])++List.take (min (aS (m.extract 0 (min m.size 256))).length (16*2 ^ j)) (aS (m.extract 0 (min m.size 256)))++List.drop (0+min (aS (m.extract 0 (min m.size 256))).length (16*2 ^ j)) (List.replicate (16*2 ^ j) [AV.v (.int .u8 0)]));have q:=qV (m.extract 0 (min m.size 256));have d:=Cw m;have:=aF a;simp[aU,aM,bD,cM,q,d];omega) (by have e:=Pb (m.extract 0 (min m.size 256)) (16*2 ^ j) (by have:=aF a;rw[Cw];omega);rw[Cw,NE b.1 (oH (aF a)) b.2]at e;rw[NE b.1 (oH (aF a)) b.2];exact e)<|cy (x:=.v (.string (jB m))) rfl rfl rfl<|h_ (n':=21) rfl<|FQ ?_;exact qY rfl trivial rfl rfl
set_option maxRecDepth 100000
set_option maxHeartbeats 4000000
def de{p:Prop}(h:p:=by exact BH (rs:=[]) rfl (σ:=λz=>z) a9 rfl (ah (λz=>z) rfl rfl wH rfl)):p:=h
abbrev b1(n:Int):List AV:=[.v (.int .i64 n)]
abbrev ie(c:Cf)(a b:Bool):List AV:=[.v (.int .i64 c.mode),.v (.int .i64 c.k),.v (.int .i64 c.Z),.v (.int .i64 c.queue),.v (.int .i64 c.W),.v (.int .i64 c.o),.v (.int .i64 c.L),.v (.int .i64 c.ways),.X 1 (c.y.map b1) a,.v (.bool c.tables),.X 1 (c.tape.map dU) b]
structure Cf.ok(c:Cf):Prop where
 y:c.y.length<=9223372036854775807
 tape:c.tape.length<=9223372036854775807
 tp:∀x∈c.tape,x<=4294967295
mutual
theorem ol(σ:Nat->Nat):∀(a:AV),eP a=true->uW σ a=a
 | .v _,_| .X _ _ _,_| .dp _ _ _,_=>by simp[uW]
 | .agg c,h=>by simp[uW,nQ σ c (by simpa [eP]using h)]
 | .E c,h=>by simp[uW,nQ σ c (by simpa [eP]using h)]
 | .F f a b,h=>by
  simp[eP]at h;split at h
  ·rename_i d;simp[uW,nQ σ a d,nQ σ b h]
  ·cases h
 | .ptr _ _,h| .u _ _ _,h| .S _ _ _ _,h| .Z0 _ _,h| .any,h=>by cases h
theorem nQ(σ:Nat->Nat):∀(a:List AV),eW a=true->Bg σ a=a
 |[],_=>by simp[Bg]
 |c::a,h=>by
  simp[eW]at h;split at h
  ·rename_i b;simp[Bg,ol σ c b,nQ σ a h]
  ·cases h
end
mutual
theorem IG(n:Nat):∀(a:AV),eP a=true->mR n a=true
 | .v _,_| .X _ _ _,_| .dp _ _ _,_=>by simp[mR]
 | .agg c,h=>by simp[mR,kW n c (by simpa [eP]using h)]
 | .E c,h=>by simp[mR,kW n c (by simpa [eP]using h)]
 | .F f a b,h=>by
  simp[eP]at h;split at h
  ·rename_i d;simp[mR,kW n a d,kW n b h]
  ·cases h
 | .ptr _ _,h| .u _ _ _,h| .S _ _ _ _,h| .Z0 _ _,h| .any,h=>by cases h
theorem kW(n:Nat):∀(a:List AV),eW a=true->mS n a=true
 |[],_=>by simp[mS]
 |c::a,h=>by
  simp[eW]at h;split at h
  ·rename_i b;simp[mS,IG n c b,kW n a h]
  ·cases h
end
def qc(σ){a}(h:eW a=true):some (bh.box a)=some (DI σ (.box a)):=by simp[DI,nQ σ a h]
def t'(n){a}(h:eW a=true):qM n (.box a)=true:=by simp[qM,kW n a h]
def yz(cells)(a)(n lo b)(e:Lg cells a=some (vI n))(d:a+1<=cells.length)(c:eW (zS a [vI (bV n lo b)] cells)=true):
  pM C0.P C0.G 59 [.ptr 0 a,vI lo,vI b] (ap [(0,.box cells)]) 1 (λx h'=>x=.E []∧h'=ap [(0,.box (zS a [vI (bV n lo b)] cells))]):=by
 refine HCall.intro gq.at func59 rfl rfl (by kernel_rfl) rfl rfl<|a8<|oR 3 rfl<|rW _ rfl (by show eo (Lg cells a)=_;rw[e];rfl)<|oR 1 rfl<|rV _ rfl<|oR 1 rfl<|rV _ rfl<|oR 1 rfl ?_;refine Ow (h':=ao _ 0 (some (.box (zS a [vI (bV n lo b)] cells)))) rfl rfl (by
  show(match Nat.ble (a+1) cells.length with|true=>bw.fx True .any (ao _ 0 (some (.box (zS a [vI (if b<(if lo>n then lo else n)then b else(if lo>n then lo else n))] cells))))|false=>.bad)=_;rw[iL d];rfl) trivial ?_
 exact rE 11<|BH rfl a9 rfl (ah (λs=>s) rfl rfl ⟨⟨rfl,qc _ c,t' _ c⟩,trivial⟩ rfl)
def kf{cells cells'}{b a}{n lo e}{K}{aq}(k:Lg cells a=some (vI n))(i:Nat.ble (a+1) cells.length=true)(j:zS a [vI (bV n lo e)] cells=cells')(d:eW cells=true)(c:eW cells'=true)(h:Nat.blt b aq=true)(g:K b=some (.box cells)):
  pM C0.P C0.G 59 [.ptr b a,vI lo,vI e] K aq (λx h'=>x=.E []∧h'=ao K b (some (.box cells'))):=by
 subst j;have:=(yz cells a n lo e k (aJ i) c).Za b K aq (aJ h) (t' 1 d) (by rw[g];exact qc _ d) rfl;rwa[<-qc _ c]at this
def Xy(rows)(k)(n lo a)(b:rows[k]?=some [vI n]):
  pM C0.P C0.G 59 [.u 0 k 0,vI lo,vI a] (ap [(0,.arr rows 1)]) 1 (λx h'=>x=.E []∧h'=ap [(0,.arr (rows.set k [vI (bV n lo a)]) 1)]):=by
 refine HCall.intro gq.at func59 rfl rfl (by kernel_rfl) rfl rfl<|qS 0 rfl<|FO [.v _] rfl rfl rfl ⟨aG _,b⟩ rfl<|qR 0 rfl<|zW _ rfl<|zW _ rfl<|zY [.v _] rfl ⟨aG _,b⟩ ?_;exact BH rfl a9 rfl (ah (λs=>s) rfl rfl wH rfl)
def Np{rows rows'}{b k}{n lo a}{K}{aq}(g:rows[k]?=some [vI n])(e:rows.set k [vI (bV n lo a)]=rows')(d:Nat.blt b aq=true)(c:K b=some (.arr rows 1)):
  pM C0.P C0.G 59 [.u b k 0,vI lo,vI a] K aq (λx h'=>x=.E []∧h'=ao K b (some (.arr rows' 1))):=by
 subst e;exact(Xy rows k n lo a g).Za b K aq (aJ d) rfl c rfl
def Bo(a b:Nat):bw.ok (vI (if(b:Int)<(a:Int)then(b:Int)else(a:Int)))=.ok (vN (min a b)):=by congr 3;split<;>omega
def Cr{α}(f)(l:List α)(z:List AV)(n)(a:n=min l.length 64):(List.replicate n z).take 0++(l.map f).take (min (l.map f).length n)++(List.replicate n z).drop (0+min (l.map f).length n)=(l.take 64).map f:=by
 subst a;rw[aH,pV,iA,cB (by rw[cM];omega),dY, <-eO];congr 1;rcases Nat.le_total l.length 64 with h|h
 ·rw[aN ad,aN ad]
 congr 1;omega
def cD{α}(f:α->List AV)(l:List α):bw.ok (vI ((l.map f).length:Int))=.ok (vN l.length):=by rw[aH]
def DO(c:Cf)(k:Nat):List (List AV):=((((c.y.take 64).take k).map λn=>bV n 1 8)++(c.y.take 64).drop k).map b1
def Nq(c)(k)(h:(c.y.take 64).length<=k):DO c k=(bZ c).y.map b1:=by
 unfold DO bZ;rw[aN h,cB h,dY]
def Nr{c}{k}{x}(a:(c.y.take 64)[k]?=some x):(DO c k)[k]?=some (b1 x):=by
 unfold DO;rw[aX,bM (by simp;omega)];simp only[aH,aM];rw[cL,show k+(k-min k _)=k by have:k<(c.y.take 64).length:=((Em.1 a).1);rw[aM]at this;omega,a];rfl
def Ns{c}{k}{x}(a:(c.y.take 64)[k]?=some x):(DO c k).set k [vI (bV x 1 8)]=DO c (k+1):=by
 unfold DO;generalize c.y.take 64=l at a⊢;have b:=(Em.1 a).1;have d:((l.take k).map λn=>bV n 1 8).length=k:=by rw[aH,aM];omega
 have e:l[k]=x:=by rw[aA b]at a;exact ga a
 rw[show([.v _]:List AV)=b1 (bV x 1 8)from rfl, <-List.map_set,iN _ _ ad,d,eK,bF b,gM,bW,a];simp
def Nt(c)(k)(h:k<=(c.y.take 64).length):(DO c k).length=(c.y.take 64).length:=by
 unfold DO;simp only[aH,aU,bD];rw[List.length_take_of_le h];omega
def II{p}{x}{h}{b rs}{r a}(e:r=a):bw.fx p x (ao h b (some (.arr r rs)))=.fx p x (ao h b (some (.arr a rs))):=by rw[e]
def Eb(c)(j m)(v:c.ok):bI C0 31 [.agg (ie c j m)] (.agg (ie (bZ c) false false)):=by
 refine bk func31 rfl<|zH rfl (kf rfl rfl rfl rfl rfl rfl rfl) ?_;rintro _ _ ⟨rfl,rfl⟩;apply zH rfl (kf rfl rfl rfl rfl rfl rfl rfl);rintro _ _ ⟨rfl,rfl⟩;apply zH rfl (kf rfl rfl rfl rfl rfl rfl rfl);rintro _ _ ⟨rfl,rfl⟩;apply zH rfl (kf rfl rfl rfl rfl rfl rfl rfl);rintro _ _ ⟨rfl,rfl⟩;apply zH rfl (kf rfl rfl rfl rfl rfl rfl rfl);rintro _ _ ⟨rfl,rfl⟩;apply zH rfl (kf rfl rfl rfl rfl rfl rfl rfl);rintro _ _ ⟨rfl,rfl⟩;apply zH rfl (kf rfl rfl rfl rfl rfl rfl rfl);rintro _ _ ⟨rfl,rfl⟩;refine cN ((bV c.L 1 4)==3) (λq=>?_) (λq=>?_)
 ·refine zH rfl (kf rfl rfl rfl rfl rfl rfl rfl) ?_;rintro _ _ ⟨rfl,rfl⟩;refine rW _ rfl (cD b1 c.y)<|rW _ rfl (Bo c.y.length 64)<|zF (rfl) (⟨aG _,iF _,by show(((min c.y.length 64):Nat):Int)<=1000000;have:=(aL (eX c.y.length 64) (aC 64));omega⟩)<|zF (II (Cr b1 c.y [vI 0] _ rfl)) (⟨by simp,trivial⟩)<|zV (vN (min c.y.length 64))<|eh (λk=>⟨be [(1,.ptr 0 0),(2,.ptr 1 0),(3,.F 59 [] []),(4,.S 36 0 (min c.y.length 64) false),(45,vN (min c.y.length 64)),(46,vN k)],ap [(0,.box [vI (bV c.mode 0 2),vI (bV c.k 1 2),vI (bV c.Z 2 8),vI (bV c.queue 1 4),vI (bV c.W 1 4),vI (bV c.o 2 6),vI 2,vI (bV c.ways 1 2),.X 1 (c.y.map b1) j,vB c.tables,.X 1 (c.tape.map dU) m]),(1,.box [vI 0,vI 0,vI 0,vI 0,vI 0,vI 0,vI 0,vI 0,.X 0 ([]) true,vB false,.X 0 ([]) true]),(36,.arr (DO c k) 1)],45⟩) (λk=>k<=min c.y.length 64) (λk=>min c.y.length 64-k) 0 (λs=>s) (av (λs=>s) wT wH rfl) (aE _) ?_;intro k u;have r:k<=1000000:=oT;refine b7 (am (bz _ _)) (λb=>?_) (λb=>?_)
  ·skip
   have g:k<(c.y.take 64).length:=by have:=bj b;rw[aM];omega
   let⟨x,h⟩:∃x,(c.y.take 64)[k]?=some x:=⟨_,aA g⟩;have i:(DO c k)[0+k]?=some [vI x]:=by rw[bJ];exact Nr h
   refine nW (.u 36 (0+k) 0) rfl rfl (⟨aG _,by show(k:Int)<((min c.y.length 64:Nat):Int);have:=bj b;omega⟩)<|zH rfl (Np (rows':=DO c (k+1)) (k:=0+k) (n:=x) i ((bJ k).symm ▸ Ns h) rfl rfl) ?_;rintro _ _ ⟨rfl,rfl⟩;refine zW _ (ar (bH (aD r (aC 1)) rfl)) ?_;refine⟨k+1,λs=>s,av _ wT wH rfl,oH (bj b),by have:=bj b;show min c.y.length 64-(k+1)<min c.y.length 64-k;omega⟩
  refine rW _ rfl (cD dU c.tape)<|rW _ rfl (Bo c.tape.length 64)<|zF (rfl) (⟨aG _,iF _,by show(((min c.tape.length 64):Nat):Int)<=1000000;have:=(aL (eX c.tape.length 64) (aC 64));omega⟩)<|zF (II (Cr dU c.tape [zU] _ rfl)) (⟨by simp,trivial⟩) ?_;have e:(c.y.take 64).length<=k:=by rw[aM];have:=aF b;omega
  have a:=Nt c k (by rw[aM];omega);have n:List.take (min c.y.length 64) (List.drop 0 (DO c k))=(bZ c).y.map b1:=by rw[bS,aN (by rw[a,aM];omega),Nq c k e]
  have o:List.take (min c.tape.length 64) (List.drop 0 ((c.tape.take 64).map dU))=(bZ c).tape.map dU:=by rw[bS,aN (by rw[aH,aM];omega)];rfl
  have p:(bZ c).L=2:=aa (sU q);refine dK rfl (r4 (r4 ⟨by show 0+min c.y.length 64<=(DO c k).length;rw[a,aM];omega,trivial,by show 0+min c.tape.length 64<=((c.tape.take 64).map dU).length;rw[aH,aM];omega,trivial⟩)) rfl ?_;show AV.agg [vI (bV c.mode 0 2),vI (bV c.k 1 2),vI (bV c.Z 2 8),vI (bV c.queue 1 4),vI (bV c.W 1 4),vI (bV c.o 2 6),vI 2,vI (bV c.ways 1 2),.X 1 (List.take (min c.y.length 64) (List.drop 0 (DO c k))) false,vB c.tables,.X 1 (List.take (min c.tape.length 64) (List.drop 0 ((c.tape.take 64).map dU))) false]=AV.agg (ie (bZ c) false false);rw[n,o];show _=AV.agg [vI (bZ c).mode,vI (bZ c).k,vI (bZ c).Z,vI (bZ c).queue,vI (bZ c).W,vI (bZ c).o,vI (bZ c).L,vI (bZ c).ways,.X 1 ((bZ c).y.map b1) false,vB (bZ c).tables,.X 1 ((bZ c).tape.map dU) false];rw[p];rfl
 refine zH rfl (kf rfl rfl rfl rfl rfl rfl rfl) ?_;rintro _ _ ⟨rfl,rfl⟩;refine rW _ rfl (cD b1 c.y)<|rW _ rfl (Bo c.y.length 64)<|zF (rfl) (⟨aG _,iF _,by show(((min c.y.length 64):Nat):Int)<=1000000;have:=(aL (eX c.y.length 64) (aC 64));omega⟩)<|zF (II (Cr b1 c.y [vI 0] _ rfl)) (⟨by simp,trivial⟩)<|zV (vN (min c.y.length 64))<|eh (λk=>⟨be [(1,.ptr 0 0),(2,.ptr 1 0),(3,.F 59 [] []),(4,.S 34 0 (min c.y.length 64) false),(45,vN (min c.y.length 64)),(46,vN k)],ap [(0,.box [vI (bV c.mode 0 2),vI (bV c.k 1 2),vI (bV c.Z 2 8),vI (bV c.queue 1 4),vI (bV c.W 1 4),vI (bV c.o 2 6),vI (bV c.L 1 4),vI (bV c.ways 1 2),.X 1 (c.y.map b1) j,vB c.tables,.X 1 (c.tape.map dU) m]),(1,.box [vI 0,vI 0,vI 0,vI 0,vI 0,vI 0,vI 0,vI 0,.X 0 ([]) true,vB false,.X 0 ([]) true]),(34,.arr (DO c k) 1)],43⟩) (λk=>k<=min c.y.length 64) (λk=>min c.y.length 64-k) 0 (λs=>s) (av (λs=>s) wT wH rfl) (aE _) ?_;intro k u;refine b7 (am (bz _ _)) (λd=>?_) (λd=>?_)
 ·skip
  have g:k<(c.y.take 64).length:=by have:=bj d;rw[aM];omega
  let⟨x,h⟩:∃x,(c.y.take 64)[k]?=some x:=⟨_,aA g⟩;have i:(DO c k)[0+k]?=some [vI x]:=by rw[bJ];exact Nr h
  refine nW (.u 34 (0+k) 0) rfl rfl (⟨aG _,by show(k:Int)<((min c.y.length 64:Nat):Int);have:=bj d;omega⟩)<|zH rfl (Np (rows':=DO c (k+1)) (k:=0+k) (n:=x) i ((bJ k).symm ▸ Ns h) rfl rfl) ?_;rintro _ _ ⟨rfl,rfl⟩;have t:k+1<=1000001:=aD oT (aC 1);refine zW _ (ar (bH t rfl)) ?_;refine⟨k+1,λs=>s,av _ wT wH rfl,oH (bj d),by have:=bj d;show min c.y.length 64-(k+1)<min c.y.length 64-k;omega⟩
 refine rW _ rfl (cD dU c.tape)<|rW _ rfl (Bo c.tape.length 64)<|zF (rfl) (⟨aG _,iF _,by show(((min c.tape.length 64):Nat):Int)<=1000000;have:=(aL (eX c.tape.length 64) (aC 64));omega⟩)<|zF (II (Cr dU c.tape [zU] _ rfl)) (⟨by simp,trivial⟩) ?_;have e:(c.y.take 64).length<=k:=by rw[aM];have:=aF d;omega
 have a:=Nt c k (by rw[aM];omega);have n:List.take (min c.y.length 64) (List.drop 0 (DO c k))=(bZ c).y.map b1:=by rw[bS,aN (by rw[a,aM];omega),Nq c k e]
 have o:List.take (min c.tape.length 64) (List.drop 0 ((c.tape.take 64).map dU))=(bZ c).tape.map dU:=by rw[bS,aN (by rw[aH,aM];omega)];rfl
 have p:(bZ c).L=bV c.L 1 4:=dZ (sU q);refine dK rfl (r4 (r4 ⟨by show 0+min c.y.length 64<=(DO c k).length;rw[a,aM];omega,trivial,by show 0+min c.tape.length 64<=((c.tape.take 64).map dU).length;rw[aH,aM];omega,trivial⟩)) rfl ?_;show AV.agg [vI (bV c.mode 0 2),vI (bV c.k 1 2),vI (bV c.Z 2 8),vI (bV c.queue 1 4),vI (bV c.W 1 4),vI (bV c.o 2 6),vI (bV c.L 1 4),vI (bV c.ways 1 2),.X 1 (List.take (min c.y.length 64) (List.drop 0 (DO c k))) false,vB c.tables,.X 1 (List.take (min c.tape.length 64) (List.drop 0 ((c.tape.take 64).map dU))) false]=AV.agg (ie (bZ c) false false);rw[n,o];show _=AV.agg [vI (bZ c).mode,vI (bZ c).k,vI (bZ c).Z,vI (bZ c).queue,vI (bZ c).W,vI (bZ c).o,vI (bZ c).L,vI (bZ c).ways,.X 1 ((bZ c).y.map b1) false,vB (bZ c).tables,.X 1 ((bZ c).tape.map dU) false];rw[p];rfl
abbrev a7(x:Wy):List AV:=[.v (.int .u32 (x.R:Int)),.v (.bool x.Z'),.v (.string x.data)]
abbrev Up(s:List Wy):AV:=.X 3 (s.map a7) false
abbrev bX(s:List Wy):List AV:=[Up s]
abbrev fv(c:Ca)(k:Bool):List AV:=[.v (.int .i64 c.ways),.X 1 (c.L.map bX) k]
abbrev ca(x:a5):List AV:=[.v (.int .i64 x.kind),.v (.int .u32 (x.R:Int)),.v (.int .i64 x.left),.v (.string x.data)]
def C5(o:Option Nat):AV:=.E [vN (o.getD 0),vB o.isSome]
structure Wy.ok(x:Wy):Prop where
 R:x.R<=4294967295
structure Ca.ok(c:Ca):Prop where
 L:c.L.length<=9223372036854775807
 set:∀s∈c.L,s.length<=9223372036854775807∧∀x∈s,x.ok
def dV{a}(h:a<=4294967295):ab a<=4294967295:=by unfold ab;omega
def qb{a b:Nat}(h:a=b):AV.v (.int .u32 (a:Int))=vU b:=by rw[h]
def oe{a b:Nat}(h:a=b):AV.v (.int .i64 (a:Int))=vI (b:Int):=by rw[h]
def iH{α}{f:α->List AV}{l:List α}{k:Nat}{x}(h:l[k]?=some x):(l.map f)[k]?=some (f x):=by rw[aX,h];rfl
def tN(a)(b:a<=4294967295):bI C0 71 [vU a] (vU (ab a)):=by
 apply bk func71 rfl;apply nW (vU (a%16)) rfl rfl dT;exact zW _ (ar (Gn (aI (aQ _ dT)) rfl))<|fT rfl (qb (by unfold ab;omega))
def VO(c)(agY)(d)(g:0<c.L.length)(e:c.L.length<=1000000)(a:agY<=4294967295):bI C0 139 [.agg (fv c d),vU agY] (vN (ir c agY)):=by
 apply bk func139 rfl;have b:agY/16<=268435455:=eG a;exact zM _ (hW (nJ b rfl)) dT<|rW _ rfl (cD bX c.L)<|rW _ rfl (ar (nJ e rfl)) (nW _ rfl rfl ad<|zW _ (ar (bH (aL (gR _ _) b) rfl))<|fT rfl rfl)
def OQ{s}{agY k}{x}(d:s[k]?=some x)(c: ¬x.R=agY)(h:jY s agY=(jY (s.drop k) agY).map (· +k)):jY s agY=(jY (s.drop (k+1)) agY).map (· +(k+1)):=by
 let⟨b,a⟩:=Em.1 d;rw[h,bF b,a];simp[jY,dZ c,Option.map_map];congr 1;funext i;show i+1+k=i+(k+1);omega
def OR{s}{agY k}{x}(d:s[k]?=some x)(c:x.R=agY)(h:jY s agY=(jY (s.drop k) agY).map (· +k)):jY s agY=some k:=by
 let⟨b,a⟩:=Em.1 d;rw[h,bF b,a];simp[jY,c]
def Rk{s}{agY k}(a:s.length<=k)(h:jY s agY=(jY (s.drop k) agY).map (· +k)):jY s agY=none:=by
 rw[h,cB a];rfl
def VP(s)(agY)(e)(j:s.length<=1000000)(i:∀x∈s,x.ok)(g:agY<=4294967295):bI C0 140 [.X 3 (s.map a7) e,vU agY] (C5 (jY s agY)):=by
 refine bk func140 rfl<|zW _ (cD a7 s)<|eh (λk=>⟨be [(1,vU agY),(8,.X 3 (s.map a7) e),(9,vN s.length),(10,vN k)],ap [],5⟩) (λk=>k<=s.length∧jY s agY=(jY (s.drop k) agY).map (· +k)) (λk=>s.length-k) 0 (λs=>s) (av (λs=>s) wT trivial rfl) (⟨aE _,by simp⟩) ?_;intro k b;refine b7 (am (bz _ _)) (λa=>?_) (λa=>?_)
 ·skip
  let⟨x,d⟩:∃x,s[k]?=some x:=⟨_,aA (bj a)⟩;refine zX (a7 x) (.dp 3 0 (a7 x)) rfl (iH d)<|b7 (am (a6 _ _)) (λc=>?_) (λc=>?_)
  ·exact fT rfl (by rw[OR d (sU c) b.2];rfl)
  skip
  have h:k+1<=1000001:=aD (oH b.1) (aC 1);refine zW _ (ar (bH h rfl)) ?_;refine⟨k+1,λs=>s,av _ wT trivial rfl,⟨bj a,OQ d (sU c) b.2⟩,oH (bj a)⟩
 exact fT rfl (by rw[Rk (oH (aF a)) b.2];rfl)
def FZ(c:Ca)(k:Nat)(s:List Wy)(i:Nat)(x:Wy):Prop:=ab x.R=x.R∧ir c x.R=k∧(x.data.size=0∨x.data.size=16)∧jY (s.take i) x.R=none
def jX(c)(k)(s):xB c k s=true↔(s.length:Int)<=c.ways∧∀i x,s[i]?=some x->FZ c k s i x:=by
 unfold xB FZ;simp only[aP,aY,rC,lI];refine and_congr_right λ_=>⟨λh i x b=>?_,λh i a=>?_⟩
 ·have:=h i (Em.1 b).1;rw[b]at this;simp only[aP,dE,aY,iO]at this;exact⟨this.1.1.1,this.1.1.2,this.1.2,this.2⟩
 rw[aA a];have:=h i _ (aA a);simp only[aP,dE,aY,iO];exact⟨⟨⟨this.1,this.2.1⟩,this.2.2.1⟩,this.2.2.2⟩
def jL(c):gG c=true↔((c.L.length=1∨c.L.length=2∨c.L.length=4)∧(c.ways=1∨c.ways=2))∧∀k s,c.L[k]?=some s->xB c k s=true:=by
 unfold gG;simp[aP,dE,aY,rC,lI];refine and_congr ?_ ⟨λh k s b=>?_,λh k a=>?_⟩
 ·rw[or_assoc]
 ·have:=h k (Em.1 b).1
  rwa [b]at this
 rw[aA a];exact h k _ (aA a)
def yF{c:Ca}(h: ¬gG c=true):gG c=false:=sU h
def AU{n}{w:Int}(h:cE (cE (cE (n != 1) (n != 2) false) (n != 4) false) true (cE (w != 1) (w != 2) false)=false):(n=1∨n=2∨n=4)∧(w=1∨w=2):=by
 simp[c2]at h;constructor
 ·by_cases a:n=1<;>by_cases b:n=2<;>by_cases c:n=4<;>simp_all
 by_cases a:w=1
 ·exact .inl a
 by_cases b:w=2
 ·exact .inr b
 simp[a,b]at h;omega
def Kw{n}{w:Int}(h:cE (cE (cE (n != 1) (n != 2) false) (n != 4) false) true (cE (w != 1) (w != 2) false)=true): ¬((n=1∨n=2∨n=4)∧(w=1∨w=2)):=by
 rintro⟨rfl|rfl|rfl,rfl|rfl⟩<;>simp[cE]at h
def Xt{c}{k j}{s}{x}(a:cE ((ab x.R) != x.R) true ((ir c x.R) != k)=false)(b:cE ((x.data.size:Int) != 0) ((x.data.size:Int) != 16) false=false)(d:(jY (s.take j) x.R).isSome=false):FZ c k s j x:=by
 simp[c2]at a b;refine⟨?_,?_,?_,sU d⟩
 ·by_cases h:ab x.R=x.R<;>simp_all
 ·by_cases h:ir c x.R=k<;>simp_all
 by_cases h:x.data.size=0
 ·exact .inl h
 right;simp_all;omega
def Uq{c:Ca}{k j:Nat}{s:List Wy}{x:Wy}(h:cE ((ab x.R) != x.R) true ((ir c x.R) != k)=true): ¬FZ c k s j x:=λq=>by
 rw[q.1,q.2.1]at h;simp[cE]at h
def Ur{c:Ca}{k j:Nat}{s:List Wy}{x:Wy}(h:cE ((x.data.size:Int) != 0) ((x.data.size:Int) != 16) false=true): ¬FZ c k s j x:=λq=>by
 rcases q.2.2.1 with e|e<;>rw[e]at h<;>simp[cE]at h
def Us{c:Ca}{k j:Nat}{s:List Wy}{x:Wy}(h:(jY (s.take j) x.R).isSome=true): ¬FZ c k s j x:=λq=>by
 rw[q.2.2.2]at h;cases h
def OS{c:Ca}{k:Nat}{s:List Wy}(d:c.L[k]?=some s)(h:xB c k s=true)(b:∀i s,i<k->c.L[i]?=some s->xB c i s=true):∀i s,i<k+1->c.L[i]?=some s->xB c i s=true:=λi g j a=>by
 by_cases e:i=k
 ·subst e;rw[d]at a;injection a with e;exact e ▸ h
 exact b i g ad a
def Ut{c:Ca}{k j:Nat}{s:List Wy}{x:Wy}(d:s[j]?=some x)(h:FZ c k s j x)(b:∀i x,i<j->s[i]?=some x->FZ c k s i x):∀i x,i<j+1->s[i]?=some x->FZ c k s i x:=λi g m a=>by
 by_cases e:i=j
 ·subst e;rw[d]at a;injection a with e;exact e ▸ h
 exact b i g ad a
def AW(c)(b)(E:c.ok):bI C0 116 [.agg (fv c b)] (vB (gG c)):=by
 refine bk func116 rfl<|zW _ (cD bX c.L)<|zW _ (am (db _ _))<|ay rfl id (am (db _ _))<|zN rfl (λh=>h)<|ay rfl id (am (db _ _))<|zN rfl (λh=>h)<|gS rfl id<|ay rfl id rfl<|zG rfl id<|gS rfl id<|ay rfl id rfl<|pB rfl rfl rfl rfl (λh=>h) rfl rfl (λB H=>by first|(rw[B,H];rfl)|simp_all)<|zN rfl (by simp)<|zB rfl (λd=>?_) (λd=>?_)
 ·exact ii rfl (yF (λq=>Kw d ((jL c).1 q).1)).symm
 refine zW _ (cD bX c.L)<|eh (λk=>⟨be [(1,.ptr 0 0),(3,vN c.L.length),(34,.X 1 (c.L.map bX) b),(35,vN c.L.length),(36,vN k)],ap [(0,.box [vI c.ways,.X 1 (c.L.map bX) b])],30⟩) (λk=>k<=c.L.length∧∀i s,i<k->c.L[i]?=some s->xB c i s=true) (λk=>c.L.length-k) 0 (λs=>s) (av (λs=>s) wT wH rfl) (⟨aE _,λi s h=>absurd h (dG i)⟩) ?_;intro k A;have D:k<=1000000:=by have:=A.1;have:=(AU d).1;omega
 refine b7 (am (bz _ _)) (λe=>?_) (λe=>?_)
 ·skip
  let⟨s,a⟩:∃s,c.L[k]?=some s:=⟨_,aA (bj e)⟩;have r:=E.set s (aB a);refine zX (bX s) (.dp 1 0 (bX s)) rfl (iH a)<|zW _ (cD a7 s)<|cN (decide (((s.length:Nat):Int)>c.ways)) (λo=>?_) (λo=>?_)
  ·exact ii rfl (yF (λq=>absurd ((jX c k s).1 (((jL c).1 q).2 k s a)).1 (oH (bj o)))).symm
  refine zW _ (cD a7 s)<|eh (λj=>⟨be [(1,.ptr 0 0),(3,vN c.L.length),(34,.X 1 (c.L.map bX) b),(35,vN c.L.length),(36,vN k),(4,vN k),(5,.X 3 (s.map a7) false),(46,.X 3 (s.map a7) false),(47,vN s.length),(48,vN j)],ap [(0,.box [vI c.ways,.X 1 (c.L.map bX) b])],44⟩) (λj=>j<=s.length∧∀i x,i<j->s[i]?=some x->FZ c k s i x) (λj=>s.length-j) 0 (λs=>s) (av (λs=>s) wT wH rfl) (⟨aE _,λi s h=>absurd h (dG i)⟩) ?_;intro j z;have C:j<=1000000:=by have:=z.1;have:=(AU d).2;have:=aF o;omega
  refine b7 (am (bz _ _)) (λg=>?_) (λg=>?_)
  ·skip
   let⟨x,m⟩:∃x,s[j]?=some x:=⟨_,aA (bj g)⟩;have n:=r.2 x (aB m);refine zX (a7 x) (.dp 3 0 (a7 x)) rfl (iH m)<|zR<|zC (tN x.R n.R)<|zW _ (am (db _ _))<|zG rfl id<|zQ rfl cn rfl (.inl rfl) (λB=>VO c x.R b (oH (bj e)) (oH ((AU d).1)) n.R)<|e8 rfl cn (am (db _ _))<|zN rfl (by simp)<|zB rfl (λt=>?_) (λt=>?_)
   ·exact ii rfl (yF (λq=>Uq t (((jX c k s).1 (((jL c).1 q).2 k s a)).2 j x m))).symm
   refine rV (vI (x.data.size:Int)) rfl<|zV (vB ((x.data.size:Int) != 0))<|gS rfl id<|ay rfl id rfl<|ay rfl id rfl<|zN rfl (λh=>h)<|zB rfl (λu=>?_) (λu=>?_)
   ·exact ii rfl (yF (λq=>Ur u (((jX c k s).1 (((jL c).1 q).2 k s a)).2 j x m))).symm
   refine zR<|zM (.X 3 (List.drop 0 (List.take j (s.map a7))) false) rfl (⟨iF _,aG _,by show(j:Int)<=(((s.map a7).length:Nat):Int);rw[aH];have:=bj g;omega⟩)<|zC (by show bI C0 _ [.X 3 (List.drop 0 (List.take j (s.map a7))) false,_] _;rw[bS, <-eO];exact VP (s.take j) x.R false (by rw[aM];omega) (λy p=>r.2 y (cQ p)) n.R)<|zB rfl (λv=>?_) (λv=>?_)
   ·exact ii rfl (yF (λq=>Us v (((jX c k s).1 (((jL c).1 q).2 k s a)).2 j x m))).symm
   skip
   have F:j+1<=1000001:=aD C (aC 1);refine zW _ (ar (bH F rfl)) ?_;refine⟨j+1,λs=>s,av _ wT wH rfl,⟨bj g,Ut m (Xt t u v) z.2⟩,oH (bj g)⟩
  have G:k+1<=1000001:=aD D (aC 1);refine zW _ (ar (bH G rfl)) ?_;refine⟨k+1,λs=>s,av _ wT wH rfl,⟨bj e,OS a ((jX c k s).2 ⟨oH (aF o),λi y p=>z.2 i y (by have:=(Em.1 p).1;have:=aF g;omega) p⟩) A.2⟩,oH (bj e)⟩
 exact ii rfl ((jL c).2 ⟨AU d,λi s a=>A.2 i s (by have:=(Em.1 a).1;have:=aF e;omega) a⟩).symm
def SW:AV:=.X 0 [] true
def oM(rs:Nat)(c:Bool):Sub (.X 0 [] true) (.X rs [] c):=λS w v h=>by
 cases h with
 |X _ _ _ A e b o u k m d n hA q g p=>exact .X rs [] c A e b o u k m (λ_=>d rfl) nofun (λh=>absurd h (iI 0)) (λi row j a h=>by simp at h) g λi row j a h=>by simp at h
theorem Sub.X{rs}{rows rows'}{m}(q:rows.length=rows'.length)(r:∀(i:Nat) row d,rows[i]?=some row->rows'[i]?=some d->row.length=d.length∧∀(j:Nat) a b,row[j]?=some a->d[j]?=some b->Sub a b):Sub (.X rs rows m) (.X rs rows' m):=λS w v h=>by
 cases h with
 | X _ _ _ c' c b o u hc hm b4 cs hA c0 h1 hr=>
  rw[q];have k:∀(i:Nat) d,rows'[i]?=some d->∃row,rows[i]?=some row:=λi d h=>⟨_,aA (by rw[q];exact(Em.1 h).1)⟩;have n:∀(i:Nat) row d (j:Nat) b,rows[i]?=some row->rows'[i]?=some d->d[j]?=some b->∃a,row[j]?=some a:=λi row d j b h h' p=>⟨_,aA (by rw[(r i row d h h').1];exact(Em.1 p).1)⟩;refine .X rs rows' m c' c b o u (q ▸ hc) hm (λe=>(b4 e).trans q) (λd s=>?_) (λt=>hA ad) (λi d j a g p=>?_) h1 λi d j a g p=>?_
  ·obtain⟨i,g,rfl⟩:=fY s;let⟨row,bb⟩:=k i _ (aA g);rw[<-(r i row _ bb (aA g)).1];exact cs row (aB bb)
  ·let⟨row,bb⟩:=k i d g;let⟨x,hx⟩:=n i row d j a bb g p;exact c0 i row j x bb hx
  ·let⟨row,bb⟩:=k i d g;let⟨x,hx⟩:=n i row d j a bb g p;exact(r i row d bb g).2 j x a hx p S w _ (hr i row j x bb hx)
def la:List AV->List AV->Prop
 |[],[]=>True
 |a::c,b::d=>Sub a b∧la c d
 |_,_=>False
theorem la.get:∀{xs bb:List AV},la xs bb->xs.length=bb.length∧∀(i:Nat) a b,xs[i]?=some a->bb[i]?=some b->Sub a b
 |[],[],_=>⟨rfl,λi a b h=>by simp at h⟩
 |x::xs,y::bb,h=>by
  let⟨h1,h2⟩:=la.get h.2;refine⟨by simp[h1],λi a b c d=>?_⟩
  cases i with
  |zero=>simp at c d;subst c;subst d;exact h.1
  |succ i=>exact h2 i a b (sU c) (sU d)
 |[],_::_,h=>h.elim
 |_::_,[],h=>h.elim
theorem Sub.agg{a c}(h:la a c):Sub (.agg a) (.agg c):=λS w v e=>by
 cases e with
 |agg _ vs bb h1 hr=>
  refine .agg c vs (h.get.1 ▸ bb) h1 λi b u p q=>?_;have d:i<a.length:=by rw[h.get.1];exact(Em.1 p).1
  exact h.get.2 i a[i] b (aA d) p S w u (hr i _ u (aA d) q)
theorem Sub.E{a c}(h:la a c):Sub (.E a) (.E c):=λS w v e=>by
 cases e with
 |E _ vs bb hr=>
  refine .E c vs (h.get.1 ▸ bb) λi b u p q=>?_;have d:i<a.length:=by rw[h.get.1];exact(Em.1 p).1
  exact h.get.2 i a[i] b (aA d) p S w u (hr i _ u (aA d) q)
theorem Sub.clip(rs)(rows)(c):Sub (.X rs rows c) (.X rs rows false):=λS w v h=>by
 cases h with
 |X _ _ _ cs c0 b o u hc hm b4 bb hA hw h1 hr=>exact .X rs rows false cs c0 b o u hc hm nofun bb hA hw h1 hr
def Nk(n):Sub (.X 1 (List.replicate n [SW]) false) (.X 1 (List.replicate n (bX [])) false):=by
 refine Sub.X (by simp) λi row k h h'=>?_;have e:=gK (aB h);have g:=gK (aB h');subst e g;refine⟨rfl,λj a b c d=>?_⟩
 cases j with
 |zero=>injection c with c;injection d with d;subst c d;exact oM 3 false
 |succ j=>simp at c
abbrev c8(x:Gs):List AV:=[.v (.int .u32 (x.K:Int)),.v (.int .u32 (x.next:Int))]
abbrev il(g:Gu):List AV:=[.X 2 (g.o.map c8) false,.v (.int .u32 (g.Z7:Int)),.X 1 (g.J.map dU) false]
def VN(a ways):bI C0 33 [vI a,vI ways] (.agg (fv (CZ a ways) false)):=by
 apply bk func33 rfl;let⟨L,b,d,g⟩:∃L:Nat,bV a 1 4=(L:Int)∧L<=4∧1<=L:=⟨(bV a 1 4).toNat,by unfold bV;(repeat' split)<;>omega,by unfold bV;(repeat' split)<;>omega,by unfold bV;(repeat' split)<;>omega⟩;refine rV (vI (if 1>a then 1 else a)) rfl<|zW _ (az (λz:Int=>bw.ok (vI z)) b)<|b7 (am (a6 _ _)) (λc=>?_) (λc=>?_)
 all_goals
  refine rV (vI (if 1>ways then 1 else ways)) rfl<|zW (vI (if 2<(if 1>ways then 1 else ways)then 2 else(if 1>ways then 1 else ways))) rfl ?_
  first
   |refine e5 rfl rfl (rfl) (⟨dT,dT,dT⟩)<|zW (.agg [vI (if 2<(if 1>ways then 1 else ways)then 2 else(if 1>ways then 1 else ways)),.S 12 0 2 false]) rfl ?_;have e:(CZ a ways).L=List.replicate 2 []:=by show List.replicate (if bV a 1 4=3 then 2 else bV a 1 4).toNat []=_;rw[b];rw[aa (by have:L=3:=(sU c);omega)];rfl
    refine⟨_,rfl,⟨trivial,by show 0+2<=(List.replicate 2 [SW]).length;rw[cM];omega,trivial⟩,rfl,Sub.agg ⟨Sub.refl _,?_,trivial⟩⟩;show Sub (.X 1 (List.take 2 (List.drop 0 (List.replicate 2 [SW]))) false) (.X 1 ((CZ a ways).L.map bX) false)
   |refine e5 rfl rfl (rfl) (⟨aG _,iF _,by show(L:Int)<=1000000;have:=d;omega⟩)<|zW (.agg [vI (if 2<(if 1>ways then 1 else ways)then 2 else(if 1>ways then 1 else ways)),.S 11 0 L false]) rfl ?_;have e:(CZ a ways).L=List.replicate L []:=by show List.replicate (if bV a 1 4=3 then 2 else bV a 1 4).toNat []=_;rw[b];rw[dZ (by have: ¬L=3:=(sU c);omega)];rfl
    refine⟨_,rfl,⟨trivial,by show 0+L<=(List.replicate L [SW]).length;rw[cM];omega,trivial⟩,rfl,Sub.agg ⟨Sub.refl _,?_,trivial⟩⟩;show Sub (.X 1 (List.take L (List.drop 0 (List.replicate L [SW]))) false) (.X 1 ((CZ a ways).L.map bX) false)
  rw[e,bS,aN (by rw[cM];exact aC _),fH]
  first|exact Nk 2|exact Nk L
def yv:bI C0 35 [] (.agg (il p7)):=by
 apply bk func35 rfl;refine e5 rfl rfl (rfl) (⟨dT,dT,dT⟩)<|zV _ ?_;refine⟨_,rfl,⟨by show 0+8<=_;decide,trivial,trivial,trivial⟩,rfl,Sub.agg ⟨Sub.refl _,Sub.refl _,oM 1 false,trivial⟩⟩
abbrev a4(x:Ft):List AV:=[.v (.int .u32 (x.K:Int)),.v (.int .u32 (x.N:Int))]
abbrev aw(x:Pt):List AV:=[.v (.int .u32 (x.V:Int)),.v (.string x.data)]
abbrev aj(e:ai):List AV:=[.v (.int .i64 e.no),.v (.int .u32 (e.K:Int)),.v (.int .i64 e.i.op),.v (.int .i64 e.i.rd),.v (.int .i64 e.i.m),.v (.int .i64 e.i.x),.v (.int .u32 (e.i.A:Int)),.v (.int .u32 (e.N:Int)),.v (.int .i64 e.is),.v (.int .i64 e.left),.v (.int .u32 (e.value:Int)),.v (.int .u32 (e.next:Int)),.v (.int .u32 (e.V:Int)),.v (.int .i64 e.halt),.v (.int .i64 e.ZW),.v (.bool e.known),.v (.bool e.Z4)]
abbrev gr(c:Co):List AV:=[.v (.int .i64 c.U.mode),.v (.int .i64 c.U.k),.v (.int .i64 c.U.Z),.v (.int .i64 c.U.queue),.v (.int .i64 c.U.W),.v (.int .i64 c.U.o),.v (.int .i64 c.U.L),.v (.int .i64 c.U.ways),.X 1 (c.U.y.map b1) false,.v (.bool c.U.tables),.X 1 (c.U.tape.map dU) false,.X 1 (c.prog.map dU) false,.v (.int .i64 c.ZY),.v (.int .u32 (c.r 0:Int)),.v (.int .u32 (c.r 1:Int)),.v (.int .u32 (c.r 2:Int)),.v (.int .u32 (c.r 3:Int)),.v (.int .u32 (c.r 4:Int)),.v (.int .u32 (c.r 5:Int)),.v (.int .u32 (c.r 6:Int)),.v (.int .u32 (c.r 7:Int)),.v (.int .u32 (c.r 8:Int)),.v (.int .u32 (c.r 9:Int)),.v (.int .u32 (c.r 10:Int)),.v (.int .u32 (c.r 11:Int)),.v (.int .u32 (c.r 12:Int)),.v (.int .u32 (c.r 13:Int)),.v (.int .u32 (c.r 14:Int)),.v (.int .u32 (c.r 15:Int)),.v (.int .u32 (c.r 16:Int)),.v (.int .u32 (c.r 17:Int)),.v (.int .u32 (c.r 18:Int)),.v (.int .u32 (c.r 19:Int)),.v (.int .u32 (c.r 20:Int)),.v (.int .u32 (c.r 21:Int)),.v (.int .u32 (c.r 22:Int)),.v (.int .u32 (c.r 23:Int)),.v (.int .u32 (c.r 24:Int)),.v (.int .u32 (c.r 25:Int)),.v (.int .u32 (c.r 26:Int)),.v (.int .u32 (c.r 27:Int)),.v (.int .u32 (c.r 28:Int)),.v (.int .u32 (c.r 29:Int)),.v (.int .u32 (c.r 30:Int)),.v (.int .u32 (c.r 31:Int)),.v (.int .u32 (c.M:Int)),.v (.bool c.stop),.X 2 (c.Q.map a4) false,.X 17 (c.Z.map aj) false,.v (.int .i64 c.next),.X 2 (c.W.map aw) false,.v (.int .i64 c.data.ways),.X 1 (c.data.L.map bX) false,.v (.int .i64 c.C.ways),.X 1 (c.C.L.map bX) false,.X 4 (c.Y.map ca) false,.v (.int .i64 c.asked),.v (.int .i64 c.ZZ),.v (.string c.mem),.X 2 (c.N.o.map c8) false,.v (.int .u32 (c.N.Z7:Int)),.X 1 (c.N.J.map dU) false,.v (.int .i64 c.halt),.X 9 (c.O.map bg) false]
theorem bI.sub{C}{f}{args}{r d}(h:bI C f args r)(k:Sub r d):bI C f args d:=⟨h.1,λS w g a b c=>(h.2 S w g a b c).mono λe w' ⟨v,p,q,s⟩=>⟨v,p,q,k _ _ _ s⟩⟩
def Rj(k):bI C0 32 [.v (.slice none 0 k)] (.X 0 [] true):=by
 exact bk func32 rfl<|rV _ rfl<|dc 1 rfl<|fT rfl rfl
def FY{P}{w}(t ty e)(i)(h:P.underlying t=some (.slice e))(d:P.info? e=some i)(b)(c)(a)(k):
  (Builtin.append_ #[t,t] ty #[.slice b 0 c,.slice (some a) 0 k]).run P w=.ok (.slice b 0 c) w:=by
 have g:(loadCells a 0).run P w=.ok #[] w:=rfl;cases b<;>simp[Builtin.append_,run_underlying h,sizeOf,typeInfo,d,Builtin.lenOf,Builtin.firstCells,storeCells,g]
def yE{P}{w}{ops}{rest}{o}{a}{Q}(g:o.guard=none)(s x)(t)
  (n:o.op=.call {callee:=.builtin .append,args:= #[s,x],argTypes:= #[t,t]}) (e) (i) (q:P.underlying t=some (.slice e)) (m:P.info? e=some i)
  (c) (d) (b) (k) (p:a.eval s=.slice c 0 d) (r:a.eval x=.slice (some b) 0 k)
  (h:wpList P ops Q rest (a.put o.dst (.slice c 0 d)) w):wpList P ops Q (o::rest) a w:=by
 refine wpList_plain g λK j=>?_;unfold Oper.wp;simp[execOp,n,resolve,invoke,builtin,p,r,FY (w:=w) t o.type e i q m c d b k,Result.andThen];exact j _ _ h
def yw(a)(k)(w):Calls Tryz.prog 32 #[.slice (some a) 0 k] w λe w'=>∃v,e=.returned v∧Below w.heap.size w w'∧∃A c,v=.slice A 0 c∧c<=maxLen:=by
 let⟨i0,z0,hi, _⟩:=(gq.ty 28 _ rfl).ZR
 go_enter func32,ntmps32
 have hb:Sem.run Tryz.prog (binOp .eql 23 (.slice (some a) 0 k) (.slice none 0 0)) w=.ok (.bool false) w:=by
  simp only[binOp,Sem.run_bind,Bx Tryz.prog w 9999 _ 28 (gq.ty 23 _ rfl).kd _ _ _,Result.andThen_ok];rfl
 go_wp2_with (first|(rw[hb];simp[Result.andThen_ok,Oper.upon])|(at_builtin;refine yE rfl (.tmp 5) (.tmp 6) 23 rfl 28 i0 (gq.ty 23 _ rfl).kd hi _ _ _ _ rfl rfl ?_))
 go_ret
 exact⟨_,rfl,(Below.refl _ _).alloc (aC _) _,_,_,rfl,aE _⟩
def Xs(x)(a)(c)(b:(x::a).length<=1000000):bI C0 32 [.X 1 (x::a) c] (.X 1 (x::a) false):=by
 refine bk func32 rfl<|rV _ rfl<|qR 1 rfl<|zV (.X 1 ([]) true)<|zF (rfl) (⟨by first|(exact Nat.succ_pos _)|(simp[cX,bJ];exact b),by first|(exact Nat.succ_pos _)|(simp[cX,bJ];exact b),trivial,trivial⟩) ?_;refine⟨_,rfl,(oT:0+(0+(x::a).length)<=(x::a).length),rfl,?_⟩;show Sub (.X 1 (List.take (0+(x::a).length) (List.drop 0 ([]++(x::a)))) false) _;rw[bS,iA,bJ,aN (aC _)];exact Sub.refl _
def yx(rows)(k)(g:rows.length<=1000000):bI C0 32 [.X 1 rows k] (.X 1 rows false):=by
 match rows,g with
 |x::B,g=>exact Xs x B k g
 | [],_=>
  refine⟨(Rj 0).1,λS w z y t d=>?_⟩
  match z,d with
  |[],d=>simp[b2]at d
  |_::_::_,d=>simp[b2]at d
  | [v],d=>
   have p:=d.2 0 _ v rfl rfl
   cases p with
   | X _ _ _ A c b o u E F C D hA G m h'=>
    cases A with
    |none=>exact((Rj c).sub (oM 1 false)).2 S w _ y t (b2.cons (.v _) (b2.nil _ _ _))
    |some a=>
     exact(yw a c w).mono λe w' ⟨v,m,q,A,n,r,s⟩=>⟨v,m,q,r ▸ .X 1 [] false A n 0 0 (λ_ _=>.bool false) (aE _) s nofun nofun (λh=>absurd h (iI 0)) (λi row j a h=>by simp at h) (λ_ _=>rfl) λi row j a h=>by simp at h⟩
def fX(c:Cf)(prog:List Nat)(m:ByteArray):Co:=
 {U:=bZ c,prog:=prog.take (min prog.length 64),ZY:=0,r:=λ_=>0,M:=0,stop:=false,Q:=[],Z:=[],next:=1,W:=[],data:=CZ (bZ c).L (bZ c).ways,C:=CZ (bZ c).L (bZ c).ways,Y:=[],asked:=0,ZZ:=0,mem:=jB m,N:=p7,halt:=0,O:=[]}
def yy(c)(prog)(m)(a:c.ok)(b:prog.length<=1000000):bI C0 12 [.agg (ie c false false),.X 1 (prog.map dU) false,.v (.string m)] (.agg (gr (fX c prog m))):=by
 refine bk func12 rfl<|zC (Eb c false false a)<|zR<|zW _ (cD dU prog)<|zW _ (Bo prog.length 64)<|zM _ rfl (⟨iF _,by show(0:Int)<=((min prog.length 64:Nat):Int);omega,by show((min prog.length 64:Nat):Int)<=(((prog.map dU).length:Nat):Int);rw[aH];omega⟩)<|zC (yx (List.drop 0 (List.take (min prog.length 64) (prog.map dU))) _ (by rw[bD,aM,aH];omega))<|zC (VN (bZ c).L (bZ c).ways)<|zC (VN (bZ c).L (bZ c).ways)<|zC (KF m)<|zC (yv)<|zV _ ?_;exact⟨_,rfl,hD,rfl,Sub.agg ⟨Sub.refl _,Sub.refl _,Sub.refl _,Sub.refl _,Sub.refl _,Sub.refl _,Sub.refl _,Sub.refl _,Sub.refl _,Sub.refl _,Sub.refl _,(by show Sub (.X 1 (List.drop 0 (List.take (min prog.length 64) (prog.map dU))) false) (.X 1 ((prog.take (min prog.length 64)).map dU) false);rw[bS, <-eO];exact Sub.refl _),Sub.refl _,Sub.refl _,Sub.refl _,Sub.refl _,Sub.refl _,Sub.refl _,Sub.refl _,Sub.refl _,Sub.refl _,Sub.refl _,Sub.refl _,Sub.refl _,Sub.refl _,Sub.refl _,Sub.refl _,Sub.refl _,Sub.refl _,Sub.refl _,Sub.refl _,Sub.refl _,Sub.refl _,Sub.refl _,Sub.refl _,Sub.refl _,Sub.refl _,Sub.refl _,Sub.refl _,Sub.refl _,Sub.refl _,Sub.refl _,Sub.refl _,Sub.refl _,Sub.refl _,Sub.refl _,Sub.refl _,oM 2 false,oM 17 false,Sub.refl _,oM 2 false,Sub.refl _,Sub.refl _,Sub.refl _,Sub.refl _,oM 4 false,Sub.refl _,Sub.refl _,Sub.refl _,Sub.refl _,Sub.refl _,Sub.refl _,Sub.refl _,oM 9 false,trivial⟩⟩
def NF(l:List Nat)(k):(l.take k).sum<=l.sum:=by
 have:=az List.sum (kb k l);rw[List.sum_append]at this;omega
noncomputable def jj:a3:={P:=Tryz.prog,ty:=nt.find,G:=λ_=>none,H:=pM Tryz.prog (λ_=>none)}
def sc:b6 jj:=⟨TT.Zz nt s9,by kernel_rfl,λ_ _ _ _ _ h=>h⟩
def lx(p:Nat×Nat):List AV:=[vN p.1,vN p.2]
def oh(f:Nat):Nat:=if 2<=f∧f<=7 then 2 else 0
def XJ(c:Int):bI jj 148 [vI c] (vN (cW c)):=.of_flat func148 rfl rfl rfl rfl λw=>(Cb c w).mono λ_ _ ⟨a,b⟩=>⟨a,b ▸ rD _⟩
def zm(f:Nat)(c:f<=8):bI jj 147 [vN f] (.E [vB (yW f),vB (uS f),vB (vS f)]):=.Zq func147 rfl rfl rfl rfl λw=>(LB f c w).mono λ_ _ ⟨a,b⟩=>⟨a,b ▸ rD _⟩
def Ef(x a n:Nat)(b:1<=n)(c:a+n<=32)(d:x<4294967296):bI jj 184 [vU x,vN a,vN n] (vU (an x a n)):=.of_flat func184 rfl rfl rfl rfl λw=>Qd x a n w b c d
def zn(x a n v:Nat)(b:1<=n)(c:a+n<=32)(e:x<4294967296)(d:v<4294967296):bI jj 169 [vU x,vN a,vN n,vU v] (vU (bi x a n v)):=.of_flat func169 rfl rfl rfl rfl λw=>Qe x a n v w b c e d
def XK(x n:Nat)(a:1<=n)(b:n<=32)(c:x<4294967296):bI jj 150 [vU x,vN n] (vU (cp x n)):=.of_flat func150 rfl rfl rfl rfl λw=>Ic x n w a b c
def UM:bI jj 150 [vU 0,vN 0] (vU 0):=.of_flat func150 rfl rfl rfl rfl λw=>PZ w
def zo(f)(i:f<=8):bI jj 167 [vN f] (.E [.X (oh f) ((eQ f).map lx) true,vN (qN f)]):=by
 refine bI.intro sc func167 rfl rfl (by kernel_rfl) rfl<|qS 0 rfl<|b7 (am (a6 _ _)) (λa=>?_) (λa=>?_)
 ·refine rV (.agg [vI 20,vI 12]) rfl<|zV (.X 2 ([[vI 20,vI 12]]) true) ?_;obtain rfl:f=2:=by have z:=a;simp at z;omega
  exact dK rfl cz rfl rfl
 refine b7 (am (a6 _ _)) (λb=>?_) (λb=>?_)
 ·refine rV (.agg [vI 20,vI 5]) rfl<|zV (.X 2 ([[vI 20,vI 5]]) true) ?_;obtain rfl:f=3:=by have z:=b;simp at z;omega
  exact dK rfl cz rfl rfl
 refine b7 (am (a6 _ _)) (λc=>?_) (λc=>?_)
 ·refine rV (.agg [vI 7,vI 5]) rfl<|rV (.agg [vI 25,vI 7]) rfl<|zV (.X 2 ([[vI 7,vI 5],[vI 25,vI 7]]) true) ?_;obtain rfl:f=4:=by have z:=c;simp at z;omega
  exact dK rfl cz rfl rfl
 refine b7 (am (a6 _ _)) (λd=>?_) (λd=>?_)
 ·refine rV (.agg [vI 8,vI 4]) rfl<|rV _ rfl<|rV _ rfl<|rV _ rfl<|zV (.X 2 ([[vI 8,vI 4],[vI 25,vI 6],[vI 7,vI 1],[vI 31,vI 1]]) true) ?_;obtain rfl:f=5:=by have z:=d;simp at z;omega
  exact dK rfl cz rfl rfl
 refine b7 (am (a6 _ _)) (λe=>?_) (λe=>?_)
 ·refine rV _ rfl<|zV (.X 2 ([[vI 12,vI 20]]) true) ?_;obtain rfl:f=6:=by have z:=e;simp at z;omega
  exact dK rfl cz rfl rfl
 refine b7 (am (a6 _ _)) (λg=>?_) (λg=>?_)
 ·refine rV _ rfl<|rV _ rfl<|rV _ rfl<|rV _ rfl<|zV _ ?_;obtain rfl:f=7:=by have z:=g;simp at z;omega
  exact dK rfl cz rfl rfl
 have h:f=0∨f=1∨f=8:=by simp at a b c d e g;omega
 rcases h with rfl|rfl|rfl<;>exact dK rfl cz rfl rfl
def zp(x rs)(a)(d)(q:x<4294967296)(h:a≠[]->rs=2)(b:LA a)(D:a.length<=100):bI jj 185 [vU x,.X rs (a.map lx) d] (.E [vU (rZ x a).1,vN (rZ x a).2]):=by
 refine bI.intro sc func185 rfl rfl (by kernel_rfl) rfl<|qS 0 rfl<|zW _ (cD lx a)<|eh (λk=>⟨be [(0,vU x),(10,.X rs (a.map lx) d),(11,vN a.length),(12,vN k),(6,vU (((a.take k).foldl (Ag x) (0,0)).1)),(7,vN (((a.take k).foldl (Ag x) (0,0)).2))],ap [],7⟩) (λk=>k<=a.length) (λk=>a.length-k) 0 (λs=>s) (av (λs=>s) wT trivial rfl) (aE _) ?_;intro k C;have y:xH (a.take k)<=32:=aL (by unfold xH;rw[eO];exact NF _ _) b.2;have n:=CR x (a.take k) (0,0) (oT:0<4294967296) (λp hp=>b.1 p (cQ hp)) ad;have E:((a.take k).foldl (Ag x) (0,0)).1<=4294967295:=oT;have B:((a.take k).foldl (Ag x) (0,0)).2=xH (a.take k):=n.2.trans (bJ _);have o:((a.take k).foldl (Ag x) (0,0)).2<=32:=oT;refine b7 (am (bz _ _)) (λc=>?_) (λc=>?_)
 ·skip
  let⟨p,hp⟩:∃p,a[k]?=some p:=⟨_,aA (bj c)⟩;obtain rfl:=h (λz=>by subst z;cases hp);let⟨i,r⟩:=b.1 p (aB hp);have u:p.1<=32:=oT;have g:p.2<=32:=oT;have A:xH (a.take (k+1))<=32:=aL (by unfold xH;rw[eO];exact NF _ _) b.2;have v:xH (a.take (k+1))=xH (a.take k)+p.2:=by rw[bW,hp];simp[xH]
  have e:an x p.1 p.2<4294967296:=ep (iR _ _ _) (wV ad);refine zX (lx p) (.dp 2 0 (lx p)) rfl (iH hp)<|zR<|zC (Ef x p.1 p.2 i r q)<|zC (zn ((a.take k).foldl (Ag x) (0,0)).1 ((a.take k).foldl (Ag x) (0,0)).2 p.2 (an x p.1 p.2) i ad ad e) ?_;have j:(((a.take k).foldl (Ag x) (0,0)).2)+p.2<=64:=aD o g;refine zW _ (ar (bH j rfl)) ?_;have m:k+1<=101:=aD oT (aC 1);refine zW _ (ar (bH m rfl)) ?_;refine⟨k+1,λs=>s,av (λs=>s) ⟨a9,a9,a9,a9,⟨(az (λz:Nat×Nat=>AV.v (.int .u32 (z.1:Int))) (EI (Ag x) (0,0) a k p hp).symm),rfl⟩,⟨(az (λz:Nat×Nat=>AV.v (.int .i64 (z.2:Int))) (EI (Ag x) (0,0) a k p hp).symm),rfl⟩,trivial⟩ trivial rfl,bj c,oH (bj c)⟩
 have t:=aF c;exact dK rfl cz rfl (by rw[aN (oT:a.length<=k)];rfl)
def A8{x c:Nat}(h:c<=32):IntKind.wrap .u32 ((x:Int)*2 ^ (min (Int.toNat (c:Int)) (IntKind.bits .u32)))=((x*2 ^ c%4294967296:Nat):Int):=by
 rw[Int.toNat_natCast,show min c (IntKind.bits .u32)=c from ll h,Int.natCast_emod _ _,Int.natCast_mul,Int.natCast_pow];rfl
def tc(f):qN f<=12:=by unfold qN;split<;>decide
def UN(f x)(c:1<=f)(d:f<=8)(a:(f != 3)=true):bI jj 150 [vU ((rZ x (eQ f)).1*2 ^ qN f%4294967296),vN ((rZ x (eQ f)).2+qN f)] (vU (EG f x)):=by
 have a:f≠3:=sU a;rw[(BA x f).1];unfold EG;rw[dZ a];by_cases h:f=1∨f=8
 ·rw[aa h];rcases h with rfl|rfl<;>exact UM
 rw[dZ h];have b:1<=xH (eQ f)+qN f∧xH (eQ f)+qN f<=32:=by
  have:f=2∨f=4∨f=5∨f=6∨f=7:=oT;rcases this with rfl|rfl|rfl|rfl|rfl<;>decide
 exact XK _ _ b.1 b.2 ad
def XL(b)(x f)(o:cW b=f)(n:1<=f)(i:f<=8)(e:x<4294967296):bI jj 166 [vI b,vU x] (.agg [vI b,vN (cond (yW f) (an x 7 5) 0),vN (cond (uS f) (an x 15 5) 0),vN (cond (vS f) (an x 20 5) 0),vU (EG f x)]):=by
 apply bI.intro sc func166 rfl rfl (by kernel_rfl) rfl;have c:an x 15 5<=31:=aI (iR x 15 5);have d:an x 20 5<=31:=aI (iR x 20 5);have hZ:(rZ x (eQ f)).2<=32:=by rw[(BA x f).1];exact(vF f).2
 have q:(eQ f).length<=100:=by unfold eQ;split<;>decide
 have p:eQ f≠[]->oh f=2:=by unfold eQ oh;intro h;split at h<;>first|rfl|exact absurd rfl h
 refine qS 0 rfl<|zC (o ▸ XJ b)<|zV (.agg [vI b,vI 0,vI 0,vI 0,zU])<|a1 rfl (zm f i)<|lq 0 0 rfl<|Fq (κ:=Unit) (λa=>⟨be [(1,vU x),(4,.ptr 0 0),(5,vN f),(6,.ptr 6 0),(8,vB (uS f)),(9,vB (vS f))],ap [(0,.box [vI 0,vI 0,vI 0,vI 0,zU]),(6,.box [vI b,vN (cond (yW f) (an x 7 5) 0),vI 0,vI 0,zU])],17⟩) (λa=>True) ?_ ?_
 ·skip;refine sg 0 rfl<|zB rfl (λj=>?_) (λj=>?_)
  all_goals
   first|refine a1 rfl (Ef x 7 5 dT dT e)<|zW _ (ar (bH (aI (iR x 7 5)) rfl)) ?_|skip
   refine .mk _ (.refl _) ⟨(),λs=>s,av (λs=>s) wT ⟨c9,⟨rfl,(by rw[j];rfl),rfl⟩,trivial⟩ rfl,rfl,trivial⟩
 intro a _;apply Fq (κ:=Unit) (λa=>⟨be [(1,vU x),(4,.ptr 0 0),(5,vN f),(6,.ptr 6 0),(9,vB (vS f))],ap [(0,.box [vI 0,vI 0,vI 0,vI 0,zU]),(6,.box [vI b,vN (cond (yW f) (an x 7 5) 0),vN (cond (uS f) (an x 15 5) 0),vI 0,zU])],17⟩) (λa=>True)
 ·skip;refine sg 0 rfl<|zB rfl (λk=>?_) (λk=>?_)
  all_goals
   first|refine a1 rfl (Ef x 15 5 dT dT e)<|zW _ (ar (bH c rfl)) ?_|skip
   refine .mk _ (.refl _) ⟨(),λs=>s,av (λs=>s) wT ⟨c9,⟨rfl,(by rw[k];rfl),rfl⟩,trivial⟩ rfl,rfl,trivial⟩
 intro a _;apply Fq (κ:=Unit) (λa=>⟨be [(1,vU x),(4,.ptr 0 0),(5,vN f),(6,.ptr 6 0)],ap [(0,.box [vI 0,vI 0,vI 0,vI 0,zU]),(6,.box [vI b,vN (cond (yW f) (an x 7 5) 0),vN (cond (uS f) (an x 15 5) 0),vN (cond (vS f) (an x 20 5) 0),zU])],17⟩) (λa=>True)
 ·skip;refine sg 0 rfl<|zB rfl (λm=>?_) (λm=>?_)
  all_goals
   first|refine a1 rfl (Ef x 20 5 dT dT e)<|zW _ (ar (bH d rfl)) ?_|skip
   refine .mk _ (.refl _) ⟨(),λs=>s,av (λs=>s) wT ⟨c9,⟨rfl,(by rw[m];rfl),rfl⟩,trivial⟩ rfl,rfl,trivial⟩
 intro a _;refine qC 0 rfl<|zC (zo f i)<|zC (zp x (oh f) (eQ f) true e p (vF f) q)<|nW _ rfl (hW (A8 (aL (tc f) dT))) (aG _)<|lq 0 0 rfl<|Fq (κ:=Unit) (λa=>⟨be [(4,.ptr 0 0),(6,.ptr 6 0)],ap [(0,.box [vI 0,vI 0,vI 0,vI 0,zU]),(6,.box [vI b,vN (cond (yW f) (an x 7 5) 0),vN (cond (uS f) (an x 15 5) 0),vN (cond (vS f) (an x 20 5) 0),vU (EG f x)])],37⟩) (λa=>True) ?_ ?_
 ·refine qS 0 rfl<|b7 (am (db _ _)) (λg=>?_) (λg=>?_)
  ·skip;refine rW _ rfl (ar (bH (aD hZ (tc f)) rfl))<|zC (UN f x n i g)<|.mk _ (.refl _) ⟨(),λs=>s,av (λs=>s) wT wH rfl,rfl,trivial⟩
  skip;refine .mk _ (.refl _) ⟨(),λs=>s,av (λs=>s) wT ⟨c9,⟨rfl,(by rw[(sU g:f=3)];rfl),rfl⟩,trivial⟩ rfl,rfl,trivial⟩
 intro a _;exact i' 0 rfl<|dK rfl cz rfl rfl
def Df:PY:=λa x w i g=>by
 have b:cW a≠0:=by unfold cW;repeat' (split<;>try omega)
 have h:=bI.flat (XL a x (cW a) rfl (eU b) (sB a) g) nofun rfl rfl w;refine h.mono λe w' ⟨d,c⟩=>⟨d.trans ?_,c⟩;unfold SI.val xW;cases yW _<;>cases uS _<;>cases vS _<;>rfl
def IV(x:Nat)(b:x<4294967296):bI C0 138 [vU x] (.E [hC (bm x),vN (he x)]):=
 .Zw func138 rfl rfl rfl rfl λS w a=>Oz Df x w (Db a) b
def gj(e:ai)(k:Nat):Bool:=decide (ak e.i.op=k)
def uE(e:ai)(a b:Nat):Nat:=if wr e.i=0 then 0 else BF e.i.op e.i.A e.K a b
def rJ(e:ai)(a b:Nat):ai:=
 if e.is≠0∨ak e.i.op=3∨ak e.i.op=4 then e
 else if ak e.i.op=1 then {e with is:=1,value:=uE e a b,next:=b8 e.K,left:=3}
 else if ak e.i.op=2 then {e with is:=1,value:=uE e a b,next:=b8 e.K,ZW:=eu e.i.op a b,left:=eu e.i.op a b}
 else if ak e.i.op=5 then
  if qP e.i.op e.i.A e.K a b%4=0 then {e with is:=1,value:=uE e a b,next:=qP e.i.op e.i.A e.K a b,left:=1}
  else {e with is:=1,value:=0,next:=b8 e.K,left:=1,halt:=3}
 else {e with is:=1,value:=uE e a b,next:=b8 e.K,left:=1}
def a0(e:ai):ai:=
 if e.is≠1 then e
 else if wrap64 (e.left-1)<=0 then {e with left:=0,is:=3,known:=if ak e.i.op=5∧e.halt=0 then true else e.known}
 else {e with left:=wrap64 (e.left-1)}
def yC(e:ai)(size:Int)(a:Nat):ai:=
 if(ak e.i.op≠3∧ak e.i.op≠4)∨e.is≠0∨e.known=true then e
 else if kZ size ((a+e.i.A)%4294967296) (a' e.i.op)=true then {e with V:=(a+e.i.A)%4294967296,known:=true}
 else {e with V:=(a+e.i.A)%4294967296,halt:=if ak e.i.op=4 then 5 else 4,is:=3}
def uM(e:ai)(s:ByteArray):ai:=
 if ak e.i.op≠3∨e.known=false∨(e.is≠0∧e.is≠2)then e
 else {e with is:=1,left:=1,value:=if wr e.i=0 then 0 else hL e.i.op s}
def uF(e:ai)(b:Nat):ai:=
 if ak e.i.op≠4∨e.known=false∨e.is≠0 then e else {e with is:=3,value:=kY b (a' e.i.op)}
def cA(e:ai):Sp:=
 if e.halt≠0 then⟨e.K,e.K,0,0,if e.halt=4∨e.halt=5 then e.V else 0,0,false,e.halt,0⟩
 else if ak e.i.op=4 then⟨e.K,b8 e.K,wr e.i,e.value,e.V,(a' e.i.op:Nat),true,0,0⟩
 else if ak e.i.op=3 then⟨e.K,b8 e.K,wr e.i,if wr e.i≠0 then e.value else 0,e.V,(a' e.i.op:Nat),false,0,0⟩
 else if ak e.i.op=2 then⟨e.K,b8 e.K,wr e.i,if wr e.i≠0 then e.value else 0,0,0,false,0,e.ZW⟩
 else if ak e.i.op=5 then⟨e.K,e.next,wr e.i,if wr e.i≠0 then e.value else 0,0,0,false,0,0⟩
 else⟨e.K,b8 e.K,wr e.i,if wr e.i≠0 then e.value else 0,0,0,false,0,0⟩
def DM(o:Option Nat):Int:=match o with|some k=>k|none=> -1
def Nj(e:ai):Bool:=decide (ak e.i.op=5)&&e.known&&decide (e.next≠e.N)
def yD(agI:List ai):Option Nat:=agI.findIdx? Nj
def dl(agI:List ai)(i:Nat):List ai:=match agI[i]? with|some e=>agI.take i++[{e with N:=e.next}]|none=>agI
def Xq(i:SI):Bool:=decide (1<=i.op)&&decide (i.op<=48)&&decide ((xW i.op (Jw i)).op=i.op)&&decide ((xW i.op (Jw i)).rd=i.rd)&&decide ((xW i.op (Jw i)).m=i.m)&&decide ((xW i.op (Jw i)).x=i.x)&&decide ((xW i.op (Jw i)).A=i.A)
def xJ(e:ai):Bool:=
 if e.is<0∨e.is>3 then false
 else if(e.is=1∧e.left<=0)∨(e.is≠1∧e.left≠0)then false
 else if e.is=2∧(ak e.i.op≠3∨e.known=false)then false
 else if e.halt≠0∧e.is≠3∧ ¬(e.is=1∧ak e.i.op=5∧e.halt=3)then false
 else if Xq e.i=true then true else decide (e.halt=1)||decide (e.halt=2)
def p6(agI:List ai)(i:Nat):Int:=match agI[i]? with|some e=>e.no|none=>0
def IB(agI:List ai)(i:Nat):Bool:=match agI[i]? with|some e=>(i==0||decide (p6 agI (i-1)<e.no))&&xJ e|none=>true
def Ff(agI:List ai):Bool:=decide (agI.length<=8)&&(List.range agI.length).all (IB agI)
def qB(no:Int)(f:Ft)(prog:List Nat):ai:=
 if(ek prog f.K).isSome=false then {Cs with no:=no,K:=f.K,N:=f.N,halt:=1,is:=3}
 else if dw (bf prog f.K)=0 then {Cs with no:=no,K:=f.K,N:=f.N,halt:=2,is:=3}
 else if(bm (bf prog f.K)).op=47 then {Cs with no:=no,K:=f.K,N:=f.N,i:=bm (bf prog f.K),halt:=6,is:=3}
 else if(bm (bf prog f.K)).op=48 then {Cs with no:=no,K:=f.K,N:=f.N,i:=bm (bf prog f.K),halt:=7,is:=3}
 else {Cs with no:=no,K:=f.K,N:=f.N,i:=bm (bf prog f.K)}
def LS(agI:List ai)(a:Int)(k:Nat):Bool:=match agI[k]? with|some e=>decide (wr e.i=a)|none=>false
def h8(agI:List ai)(a:Int):Nat->Option Nat
 |0=>none
 |n+1=>if LS agI a n=true then some n else h8 agI a n
def gX(agI:List ai)(i:Nat)(a:Int):Option Nat:=if a<1∨a>31 then none else h8 agI a (min i agI.length)
def lK(agI:List ai)(r:Nat->Nat)(i:Nat)(a:Int):Option Nat:=
 if a=0 then some 0
 else if a<0∨a>31 then none
 else match gX agI i a with
  |none=>some (r a.toNat)
  |some k=>match agI[k]? with
   |some e=>if e.is=3∧e.halt=0 then some e.value else none
   |none=>none
def mI(agI:List ai)(r:Nat->Nat)(i:Nat):Nat×Nat×Bool:=
 match agI[i]? with
 |some e=>((lK agI r i e.i.m).getD 0,(lK agI r i e.i.x).getD 0,(lK agI r i e.i.m).isSome&&(lK agI r i e.i.x).isSome)
 |none=>(0,0,false)
def LT(e:ai):Bool:=if e.halt≠0 then false else if ak e.i.op=6 then false else if ak e.i.op=3∨ak e.i.op=4∨ak e.i.op=5 then e.known else true
def Cq(agI:List ai):Nat:=agI.findIdx λe=> !LT e
def vC(agI:List ai)(i:Nat):Bool:=decide (i<=agI.length)&&decide (i<=Cq agI)
def sZ(a:List Int)(k:Option Nat):Int:=match k with|some k=>a.getD k (-1)|none=> -1
def DB(agI:List ai)(a:List Int)(k:Nat):Int:=
 match agI[k]? with
 |some e=>if ak e.i.op≠3 then max (sZ a (gX agI k e.i.m)) (sZ a (gX agI k e.i.x))else if k>Cq agI then k else -1
 |none=> -1
def eS(agI:List ai):Nat->List Int
 |0=>[]
 |k+1=>eS agI k++[DB agI (eS agI k) k]
def kr(agI:List ai):List Int:=eS agI agI.length
def IC(agI:List ai)(i:Nat)(a:Int):Bool:=match gX agI i a with|some k=>decide (0<=(kr agI).getD k (-1))|none=>false
def DC(e:ai):Bool:=decide (ak e.i.op=3∨ak e.i.op=4∨ak e.i.op=2∨ak e.i.op=5)
def qD(e:ai):List Int:=if ak e.i.op=3∨ak e.i.op=4 then [e.i.m]else [e.i.m,e.i.x]
def Pr(mode:Int)(agI:List ai)(i:Nat):Bool:=
 match agI[i]? with
 |none=>false
 |some e=>if DC e=false then true
  else if mode=0 then true
  else if mode=1 then(qD e).all λa=> !IC agI i a
  else if mode=2 then vC agI i
  else false
structure Std where
 V:Nat
 size:Nat
 data:ByteArray
 there:Bool
def Fg(e:ai):Std:=⟨e.V,a' e.i.op,oF e.value (a' e.i.op),decide (e.is=3)⟩
def CY(p:Pt):Std:=⟨p.V,p.data.size,p.data,true⟩
def FW(agI:List ai)(agF:List Pt):List Std:=((agI.filter λe=>gj e 4).map Fg).reverse++(agF.map CY).reverse
def h7(a n b m:Nat):Bool:=decide (0<n)&&decide (0<m)&&decide (a<b+m)&&decide (b<a+n)
def Fh(a n b m:Nat):Bool:=decide (0<m)&&decide (a<=b)&&decide (b+m<=a+n)
def xK(at_ n:Nat):List Std->Int×ByteArray
 |[]=>(2,oZ)
 |s::l=>if h7 s.V s.size at_ n=false then xK at_ n l
  else if Fh s.V s.size at_ n=false∨s.there=false then(0,oZ)
  else(1,s.data.extract (at_-s.V) (at_-s.V+n))
def Aw(e:ai):Bool:=gj e 4&&(!e.known||decide (e.halt≠0))
def lL(agI:List ai)(agF:List Pt)(i:Nat):Int×ByteArray:=
 match agI[i]? with
 |none=>(0,oZ)
 |some e=>if ak e.i.op≠3 then(0,oZ)
  else if(agI.take i).any Aw=true then(0,oZ)
  else xK e.V (a' e.i.op) (FW (agI.take i) agF)
def lY(r:Nat->Nat)(s:Sp):Nat->Nat:=if 1<=s.rd∧s.rd<=31∧s.halt=0 then io r s.rd.toNat s.value else r
def iJ(s:Sp):Option Pt:=if s.store=false∨s.halt≠0∨(s.size≠1∧s.size≠2∧s.size≠4)then none else some ⟨s.V,oF s.value s.size.toNat⟩
def iQ(c:Ca)(q:List a5)(m:ByteArray)(agY:Nat)(left:Int):Ca×List a5×Bool:=
 if gG c=false then(c,q,false)
 else if(bK c (ab agY)).2.isSome=true then(tO c (ab agY),q,false)
 else match qZ c (ab agY) (Ga (jZ q m) (ab agY)) false with
  |(d,a,b)=>if b=true∧a.Z'=true∧a.data.size≠0 then(d,Bi q 4 a.R left a.data,true)else(d,q,false)
def sL(agF:List Pt)(c:Ca):List Pt×Ca×Bool:=
 match agF with
 |[]=>(agF,c,false)
 |p::l=>if(xL c p.V p.data).2=true then(l,(xL c p.V p.data).1,true)else(agF,c,false)
def jE(c:Co)(b:Int)(agY:Nat)(a:ByteArray):Co:={c with Y:=Bi c.Y b agY (lX c.U c.asked) a,asked:=wrap64 (c.asked+1)}
def tA(c:Co)(first:Bool):Bool:=if first=true then decide ((yH c.Y:Int)<c.U.o)else decide ((yH c.Y:Int)<c.U.o-1)
def oK(c:Co)(agY:Nat):Co:=
 match iQ c.data c.Y c.mem agY (lX c.U c.asked)with
 |(d,q,asked)=>{c with data:=d,Y:=q,asked:=if asked=true then wrap64 (c.asked+1)else c.asked}
def Xr(c:Co):ByteArray:=jm c.W c.data c.Y c.mem
def oL(c:Co)(e:ai):ByteArray:=if kZ ((Xr c).size:Int) e.V (a' e.i.op:Nat)=true then Cv (Xr c) e.V (a' e.i.op)else oZ
def wO(c:Co)(agY:Nat)(e:ai):ai:=if e.is=2∧ab e.V=agY then uM {e with Z4:=true} (oL c e)else e
def ID(c:Co)(x:a5):Co:=
 if x.kind=1 then {c with Z:=c.Z.map (wO c x.R)}
 else if x.kind=2 then {c with C:=(qZ c.C x.R oZ false).1}
 else if x.kind=3 then oK c x.R
 else if x.kind=4 then {c with mem:=rP c.mem [⟨x.R,x.data⟩]}
 else c
def lM(c:Co):Co:=
 match eH c.Y with
 |(q,x,ok)=>if ok=true then ID {c with Y:=q} x else {c with Y:=q}
def e6(r:Nat->Nat)(agI:List ai)(i:Nat):List ai:=
 match agI[i]? with
 |some e=>if ak e.i.op=4 then(match lK agI r i e.i.x with|some b=>agI.set i (uF e b)|none=>agI)else agI
 |none=>agI
def bt(r:Nat->Nat)(agI:List ai):Nat->List ai
 |0=>agI
 |k+1=>e6 r (bt r agI k) k
def br(c:Co):List ai:=bt c.r (c.Z.map a0) c.Z.length
def kK(c:Co):Co:=
 if c.halt≠0 then c
 else match yD (br c)with
  |some i=>{c with Z:=dl (br c) i,M:=(match(br c)[i]? with|some e=>e.next|none=>0),Q:=[],stop:=false}
  |none=>{c with Z:=br c}
def tM(c:Co)(s:Sp):Co:={c with O:=c.O++[s],halt:=s.halt,Z:=[],Q:=[],stop:=true}
def vG(c:Co)(e:ai)(s:Sp):Co:=if ak e.i.op=3 then oK c s.V else c
def fZ(c:Co)(s:Sp):Co:={c with O:=c.O++[s],W:=(match iJ s with|some p=>c.W++[p]|none=>c.W)}
def vZ(c:Co)(e:ai)(s:Sp)(l:List ai):Co:=
 {vG (fZ c s) e s with r:=lY c.r s,N:=fM c.N s.K s.next e.i,Z:=l}
def eC:Nat->Co->Co
 |0,c=>c
 | n+1,c=>
  if c.halt≠0 then c
  else match c.Z with
   |[]=>c
   |e::l=>
    if e.is≠3 then c
    else if(cA e).halt≠0 then tM c (cA e)
    else if(cA e).store=true∧(c.W.length:Int)>=c.U.W then c
    else eC n (vZ c e (cA e) l)
def ei(c:Co):Co:=eC c.U.k.toNat c
def DN(c:Co)(i:Nat):Bool:=
 match c.Z[i]? with
 |none=>false
 |some e=>
  if e.is≠0 then false
  else if ak e.i.op=3 then e.known||((lK c.Z c.r i e.i.m).isSome&&Pr c.U.mode c.Z i)
  else if ak e.i.op=4 then !e.known&&(lK c.Z c.r i e.i.m).isSome&&Pr c.U.mode c.Z i
  else(mI c.Z c.r i).2.2&&Pr c.U.mode c.Z i
def Kt(c:Co)(agY:Nat):Bool:=(bK c.data agY).2.isSome||c.Z.any λe=>e.Z4&&decide (ab e.V=agY)
def b0(c:Co)(i:Nat)(e:ai):Co:={c with Z:=c.Z.set i e}
def oE(c:Co)(i:Nat):Co:=
 match c.Z[i]? with
 |none=>c
 |some e=>
  if e.known=false then c
  else if(lL c.Z c.W i).1=1 then b0 c i (uM e (lL c.Z c.W i).2)
  else if(lL c.Z c.W i).1≠2 then c
  else if Kt c (ab e.V)=true then b0 c i (uM e (oL c e))
  else if bn c.Y (ab e.V) 1=true then b0 c i {e with is:=2}
  else if tA c (vC c.Z i)=true∧bn c.Y (ab e.V) 3=false then b0 (jE c 1 (ab e.V) oZ) i {e with is:=2}
  else c
def iS(c:Co)(i:Nat):Co:=
 match c.Z[i]? with
 |none=>c
 |some e=>
  if ak e.i.op=4 then b0 c i (yC e c.mem.size (mI c.Z c.r i).1)
  else if ak e.i.op=3 then oE (b0 c i (yC e c.mem.size (mI c.Z c.r i).1)) i
  else b0 c i (rJ e (mI c.Z c.r i).1 (mI c.Z c.r i).2.1)
def IE(e:ai):Bool:=decide (ak e.i.op=2)&&decide (e.is=1)
def Fi(c:Co):List Int:=c.Z.map λe=>(ak e.i.op:Int)
def Kv(c:Co):List Bool:=(List.range c.Z.length).map (DN c)
def gY(c:Co):Co:=if c.halt≠0 then c else(h9 c.U.k (c.Z.any IE) (Fi c) (Kv c)).foldl iS c
def kV:Nat->Co->Co
 |0,c=>c
 | n+1,c=>
  if(c.Z.length:Int)>=c.U.Z then c
  else match c.Q with
   |[]=>c
   |f::l=>kV n {c with Z:=c.Z++[qB c.next f c.prog],next:=wrap64 (c.next+1),Q:=l}
def lP(c:Co):Co:=if c.halt≠0 then c else kV c.U.k.toNat c
def dM(c:Co)(w:Nat):Co×Nat:=
 if dw w=0∨ak (bm w).op≠5 then(c,b8 c.M)
 else if c.U.tables=true then(c,xC c.N c.M (bm w))
 else({c with ZZ:=wrap64 (c.ZZ+1)},yG c.U c.ZZ c.M)
def LU(c:Co)(n:Nat):Co:={c with Q:=c.Q++[⟨c.M,n⟩],M:=n}
def eL:Nat->Co->Co
 |0,c=>c
 | n+1,c=>
  if c.stop=true∨(c.Q.length:Int)>=c.U.queue then c
  else if(ek c.prog c.M).isSome=false then {c with Q:=c.Q++[⟨c.M,b8 c.M⟩],stop:=true}
  else if(bK c.C (ab c.M)).2.isSome=false then
   (if bn c.Y (ab c.M) 2=false∧tA c false=true then jE c 2 (ab c.M) oZ else c)
  else
   eL n (LU (dM {c with C:=tO c.C (ab c.M)} (bf c.prog c.M)).1 (dM {c with C:=tO c.C (ab c.M)} (bf c.prog c.M)).2)
def eN(c:Co):Co:=if c.halt≠0 then c else eL c.U.k.toNat c
def aW(c:Co):Co:={c with W:=(sL c.W c.data).1,data:=(sL c.W c.data).2.1}
def tW(c:Co):Co:=
 match c.W with
 |[]=>c
 |p::_=>if bn c.Y (ab p.V) 3=false∧tA c true=true then jE c 3 (ab p.V) oZ else c
def pE(c:Co):Co:=
 match cR c.data with
 |some w=>if w.data.size≠0 then {jE c 4 w.R w.data with data:=wB c.data w.R}else c
 |none=>c
def nP(c:Co):Co:=if c.W≠[]∨c.halt=0 then c else pE c
def tY(c:Co):Co:=
 match c.W with
 |[]=>nP (aW c)
 |_::_=>if(sL c.W c.data).2.2=true then nP (aW c)else nP (tW (aW c))
def Ax(c:Ca)(f:Cf):Bool:=gG c&&decide ((c.L.length:Int)=f.L)&&decide (c.ways=f.ways)
def jF(c:Co):Bool:=
 wA c.U&&decide (c.prog.length<=64)&&(c.mem.toList==(jB c.mem).toList)&&Ff c.Z&&decide ((c.Z.length:Int)<=c.U.Z)&&(c.Z.all λe=>decide (e.no<c.next))&&Ax c.data c.U&&Ax c.C c.U&&sM c.N&&decide ((c.Q.length:Int)<=c.U.queue)&&decide ((c.W.length:Int)<=c.U.W)&&c.W.all λp=>kZ c.mem.size p.V p.data.size
def ed(c:Co):Co:=tY (eN (lP (gY (ei (kK (lM {c with ZY:=wrap64 (c.ZY+1)}))))))
def uG(c:Co):Co:=if jF c=true then ed c else c
def uN(c:Co):Nat->Co
 |0=>c
 |n+1=>uG (uN c n)
noncomputable def C1:a3:={C0 with lt:=true}
def pl:b6 C1:=⟨gq.1,gq.2,gq.3⟩
def xy{f:FuncId}{args:List AV}{r:AV}(h:bI C1 f args r):bI C0 f args r:=h
theorem dJ{f}{b}{a}{args}{r}(h:C1.P.funcs[f]?=some b)(i:eA C1 (bI C1) a ⟨fu args,λ _=>none,0⟩ (Fin C1 b r))(g:b.body=some a:=by rfl)(d:(b.name== "runtime.NumGoroutine")=false:=by rfl) (e:rU b.ntmps a=true:=by kernel_rfl) (c:Nat.ble args.length b.ntmps=true:=by rfl):bI C0 f args r:=xy (bI.intro pl h g d e c i)
theorem e_{f}{b}{a}{args}{r}(h:C1.P.funcs[f]?=some b)(g:b.body=some a)(i:ee C1 (bI C1) (Fin C1 b r) (.code a) (fu args) (λ _=>none) 0 [])(d:(b.name== "runtime.NumGoroutine")=false:=by rfl) (e:rU b.ntmps a=true:=by kernel_rfl) (c:Nat.ble args.length b.ntmps=true:=by rfl):bI C0 f args r:=dJ h (zK i) g d e c
theorem hI(s){f}{b}{a}{args}{h}{bo}(j:C1.P.funcs[f]?=some b)(k:eA (C1.at s) (bI (C1.at s)) a ⟨fu args,h,s⟩ (qf (C1.at s) b bo s))(i:b.body=some a:=by rfl)(e:(b.name== "runtime.NumGoroutine")=false:=by rfl) (g:rU b.ntmps a=true:=by kernel_rfl) (d:Nat.ble args.length b.ntmps=true:=by rfl) (c:g4 h s=true:=by rfl):pM C0.P C0.G f args h s bo:=HCall.intro pl.at j i e g d c k
theorem hZ(s){f}{b}{a}{args}{h}{bo}(j:C1.P.funcs[f]?=some b)(i:b.body=some a)(k:ee (C1.at s) (bI (C1.at s)) (qf (C1.at s) b bo s) (.code a) (fu args) h s [])(e:(b.name== "runtime.NumGoroutine")=false:=by rfl) (g:rU b.ntmps a=true:=by kernel_rfl) (d:Nat.ble args.length b.ntmps=true:=by rfl) (c:g4 h s=true:=by rfl):pM C0.P C0.G f args h s bo:=hI s j (zK k) i e g d c
def af(x):IntKind.wrap .i64 x=wrap64 x:=by rw[IntKind.wrap_i64];simp[wrap64]
theorem ae(c y):cE c true y=(c||y):=by cases c<;>rfl
theorem qA(c x):cE c x false=(c&&x):=by cases c<;>rfl
def sP{p q:Prop}(h:p)(t:p->q:=by intro h;(try simp[af,ae,qA,dE,aP,dP,kI,pU,pX,ne_eq,bA,iC,aY,mA,eJ,Bool.not_eq_false,Bool.not_eq_eq_eq_not,mD,Bool.not_false,Decidable.not_not]at h);exact h):q:=t h
abbrev hM:List AV:=[vI 0,vI 0,vI 0,vI 0,vI 0,vI 0,vI 0,vI 0,.X 0 ([]) true,vB false,.X 0 ([]) true,.X 0 ([]) true,vI 0,zU,zU,zU,zU,zU,zU,zU,zU,zU,zU,zU,zU,zU,zU,zU,zU,zU,zU,zU,zU,zU,zU,zU,zU,zU,zU,zU,zU,zU,zU,zU,zU,zU,vB false,.X 0 ([]) true,.X 0 ([]) true,vI 0,.X 0 ([]) true,vI 0,.X 0 ([]) true,vI 0,.X 0 ([]) true,.X 0 ([]) true,vI 0,vI 0,.v (.string (⟨#[]⟩:ByteArray)),.X 0 ([]) true,zU,.X 0 ([]) true,vI 0,.X 0 ([]) true]
def mT{α:Type}[BEq α][LawfulBEq α]{a b:α}(h:(a==b)=true):a=b:=eq_of_beq h
def nA{α:Type}[BEq α][LawfulBEq α]{a b:α}(h:(a==b)=false): ¬a=b:=λe=>by rw[e,q3]at h;cases h
def wM{α:Type}[BEq α][LawfulBEq α]{a b:α}(h:(a != b)=true): ¬a=b:=λe=>by rw[e]at h;simp at h
def wN{α:Type}[BEq α][LawfulBEq α]{a b:α}(h:(a != b)=false):a=b:=sU h
def vW{α}(f:α->List AV)(l:List α){n}(h:l.length=n):bw.ok (vI ((l.map f).length:Int))=.ok (vI (n:Int)):=by rw[aH,h]
def Jv{α}{l:List α}{k}{x}(h:l[k]?=some x):l[0+k]?=some x:=by rwa [bJ]
def Ri{p}{x}{h}{b rs}{r a}(e:r=a):bw.fx p x (ao h b (some (.arr r rs)))=.fx p x (ao h b (some (.arr a rs))):=by rw[e]
def vX{α}{f}{l:List α}{k}{x}{h:AH}{b rs}:some (ao h b (some (.arr ((l.map f).set (0+k) (f x)) rs)))=some (ao h b (some (.arr ((l.set k x).map f) rs))):=by rw[bJ,List.map_set]
def yB{p}{rs}{r a}{c}(e:r=a):bw.Z9 p (.X rs r c)=.Z9 p (.X rs a c):=by rw[e]
def LR{p}{s lo a n n'}{c}(e:lo=a)(b:n=n'):bw.Z9 p (.S s lo n c)=.Z9 p (.S s a n' c):=by rw[e,b]
section
variable {α:Type}(f:α->List AV)
section
variable (l:List α)
def vY(H:Nat):List.drop 0 (List.take H (l.map f))=(l.take H).map f:=by rw[bS,eO]
def Kr(L:Nat):List.drop L (List.take (l.map f).length (l.map f))=(l.drop L).map f:=by rw[cH,kM]
def Iw{p}{H}{s rs m}{c}(a:c.length=m):bw.fx p (.S s 0 c.length false) (ao H s (some (.arr c rs)))=.fx p (.S s 0 m false) (ao H s (some (.arr c rs))):=by rw[a]
def iP{p:Prop}{H:AH}{s rs n m:Nat}(B:List α)(a:l.length=n)(b:l.length+B.length=m):
  bw.fx p (.S s 0 ((List.take n (List.drop 0 (l.map f))).length+(B.map f).length) false) (ao H s (some (.arr (List.take n (List.drop 0 (l.map f))++B.map f) rs)))=.fx p (.S s 0 m false) (ao H s (some (.arr ((l++B).map f) rs))):=by
 rw[bS,aN (by rw[aH,a];exact aC _),aH,aH,b,dH]
def Au{p:Prop}{H:AH}{s rs m:Nat}(B:List α)(a:l.length+B.length=m):
  bw.fx p (.S s 0 ((l.map f).length+(B.map f).length) false) (ao H s (some (.arr (l.map f++B.map f) rs)))=.fx p (.S s 0 m false) (ao H s (some (.arr ((l++B).map f) rs))):=by
 rw[aH,aH,a,dH]
def Uo{p:Prop}{H:AH}{s rs lo n m:Nat}(B:List α)(a:((l.drop lo).take n).length+B.length=m):
  bw.fx p (.S s 0 ((List.take n (List.drop lo (l.map f))).length+(B.map f).length) false) (ao H s (some (.arr (List.take n (List.drop lo (l.map f))++B.map f) rs)))=.fx p (.S s 0 m false) (ao H s (some (.arr ((((l.drop lo).take n)++B).map f) rs))):=by
 rw[<-a,dH,eO,kM,aH];simp[aM,bD,aH]
end
def DX{n:Nat}(X:List (List AV))(B:List α)(a:B.length=n)(b:X.length=n):X.take 0++(B.map f).take (min (B.map f).length n)++X.drop (0+min (B.map f).length n)=B.map f:=by
 rw[aH,a,Nat.min_self,pV,iA,cB oT,dY,aN (by rw[aH];omega)]
section
variable (l:List α)
def Cp{lo n:Nat}{M:List α}(h:(l.drop lo).take n=M):List.take n (List.drop lo (l.map f))=M.map f:=by rw[<-h,eO,kM]
def jW{n:Nat}(h:l.length<=n):List.take n (List.drop 0 (l.map f))=l.map f:=by rw[bS,aN (by rw[aH];exact h)]
end
end
def Iy{α}{f}{l:List α}{b rs lo n}{c}(h:lo+n<=l.length):e9 (some (b,rs,l.map f)) (.S b lo n c) (.X rs (((l.drop lo).take n).map f) false):=by
 have:=e9.YT b rs lo n (l.map f) c false rfl (by rw[aH];exact h) nofun;rwa[eO,kM]
def nB{α}{f}{l:List α}{b rs n}{c}(h:l.length=n):e9 (some (b,rs,l.map f)) (.S b 0 n c) (.X rs (l.map f) false):=by
 have:=Iy (f:=f) (b:=b) (rs:=rs) (c:=c) (l:=l) (lo:=0) (n:=n) oT
 rwa [bS,aN oT]at this
def jr{p:Prop}(h:p:=by repeat (first|exact trivial|refine⟨.refl _,?_⟩|refine⟨Iy (by exact ad),?_⟩|refine⟨nB (by exact ad),?_⟩)):p:=h
def zD{α:Type}{P:α->Prop}{l:List α}{n:Nat}(h:∀x∈l,P x):∀x∈l.take n,P x:=λx a=>h x (cQ a)
def Iz{α:Type}{P:α->Prop}{l:List α}{n:Nat}(h:∀x∈l,P x):∀x∈l.drop n,P x:=λx a=>h x (eT a)
def sJ{α:Type}{P:α->Prop}{l m:List α}(h:∀x∈l,P x)(h':∀x∈m,P x):∀x∈l++m,P x:=λx a=>(cx.1 a).elim (h x) (h' x)
def sK{α:Type}{P:α->Prop}{y:α}(h:P y):∀x∈[y],P x:=λx a=>by rw[uJ]at a;rw[a];exact h
def kk{α:Type}{P:α->Prop}{l:List α}{k:Nat}{y:α}(h:∀x∈l,P x)(h':P y):∀x∈l.set k y,P x:=λx a=>(List.mem_or_eq_of_mem_set a).elim (h x) λe=>e ▸ h'
theorem pM.Zk{P}{G}{f}{args}{rows}{rs lo n}{c}(H:pM P G f args (ap []) 0 (λx h'=>x=.S 0 lo n c∧h'=ap [(0,.arr rows rs)]))(K)(aq)(d:eW args=true):
  pM P G f args K aq (λx h'=>x=.S aq lo n c∧h'=ao K aq (some (.arr rows rs))):=by
 have:=H.frame (λx=>x) K aq rfl (λx b=>absurd rfl b) nofun (λx y b=>absurd b (dG _)) (kW 0 args d) (λx h'=>x=.S aq lo n c∧h'=ao K aq (some (.arr rows rs))) λr h' g=>?_
 ·rwa [nQ _ args d]at this
 obtain⟨rfl,rfl⟩:=g;refine⟨_,⟨by simp[uW,lk],rfl⟩,λy blk a=>?_⟩;by_cases e:y=aq
 ·subst e;rw[dB]at a;injection a with a;exact .inl ⟨0,.arr rows rs,rfl,(lk _ _ _).symm,by subst a;rfl⟩
 rw[cI _ _ e]at a;exact .inr ⟨a,λx b=>absurd b (dG _)⟩
theorem pM.YU{P}{G}{f}{args}{rows c}{rs g n}(H:pM P G f args (ap [(0,.arr rows rs)]) 1 (λx h'=>x=.S 1 0 n false∧h'=ap [(0,.arr rows rs),(1,.arr c g)]))(b)(K)(aq)(p:Nat.blt b aq=true)(j:K b=some (.arr rows rs))(o:mS 1 args=true):
  pM P G f (Bg (λ_=>b) args) K aq (λx h'=>x=.S aq 0 n false∧h'=ao K aq (some (.arr c g))):=by
 refine H.frame (λ_=>b) K aq rfl (λx d=>?_) (λx i d=>?_) (λx y d a _=>by omega) o _ λq h' m=>?_
 ·cases x with
  |zero=>omega
  |succ x=>exact absurd rfl d
 ·cases x with
  |zero=>injection d with d;subst d;exact⟨aJ p,rfl,j⟩
  |succ x=>cases d
 ·obtain⟨rfl,rfl⟩:=m;refine⟨_,⟨by simp[uW,lk],rfl⟩,λy i a=>?_⟩;by_cases k:y=aq
  ·subst k;rw[dB]at a;injection a with a;exact .inl ⟨1,.arr c g,rfl,(lk _ _ _).symm,by subst a;rfl⟩
  ·rw[cI _ _ k]at a;by_cases h:y=b
   ·subst h;rw[j]at a;injection a with a;exact .inl ⟨0,.arr rows rs,rfl,rfl,by subst a;rfl⟩
   ·exact .inr ⟨a,λx d e=>h e.symm⟩
abbrev ib(b:Bool):List AV:=[.v (.bool b)]
structure ai.ok(e:ai):Prop where
 K:e.K<=4294967295
 A:e.i.A<=4294967295
 N:e.N<=4294967295
 value:e.value<=4294967295
 next:e.next<=4294967295
 V:e.V<=4294967295
structure a5.ok(x:a5):Prop where
 R:x.R<=4294967295
structure Pt.ok(x:Pt):Prop where
 V:x.V<=4294967295
structure Ft.ok(x:Ft):Prop where
 K:x.K<=4294967295
 N:x.N<=4294967295
structure Gs.ok(x:Gs):Prop where
 K:x.K<=4294967295
 next:x.next<=4294967295
structure Sp.ok(x:Sp):Prop where
 K:x.K<=4294967295
 next:x.next<=4294967295
 value:x.value<=4294967295
 V:x.V<=4294967295
def DA{a b B}(h:b<=a)(d:a<=B)(c:Nat.ble B 9223372036854775807=true):IntKind.wrap .i64 ((a:Int)-(b:Int))=((a-b:Nat):Int):=by
 have:=aJ c;rw[c4 oT oT];omega
def sT(a b:Nat):Int.tmod (a:Int) (b:Int)=((a%b:Nat):Int):=pY a b |>.symm
def CI{a:Nat}(h:a<=4294967295):a<4294967296:=bG h
def oW{e a}(h:e=a):AV.agg (aj e)=.agg (aj a):=by rw[h]
def DL{e a}(h:e=a):AV.agg (bg e)=.agg (bg a):=by rw[h]
def dR{b a}(h:b=a):AV.v (.bool b)=.v (.bool a):=by rw[h]
def Ni{b a}(h:b=a):AV.v (.int .i64 b)=vI a:=by rw[h]
def GW{b a:Nat}(h:b=a):AV.v (.int .u32 (b:Int))=vU a:=by rw[h]
abbrev Ks(r:Nat->Nat):List AV:=[.v (.int .u32 (r 0:Int)),.v (.int .u32 (r 1:Int)),.v (.int .u32 (r 2:Int)),.v (.int .u32 (r 3:Int)),.v (.int .u32 (r 4:Int)),.v (.int .u32 (r 5:Int)),.v (.int .u32 (r 6:Int)),.v (.int .u32 (r 7:Int)),.v (.int .u32 (r 8:Int)),.v (.int .u32 (r 9:Int)),.v (.int .u32 (r 10:Int)),.v (.int .u32 (r 11:Int)),.v (.int .u32 (r 12:Int)),.v (.int .u32 (r 13:Int)),.v (.int .u32 (r 14:Int)),.v (.int .u32 (r 15:Int)),.v (.int .u32 (r 16:Int)),.v (.int .u32 (r 17:Int)),.v (.int .u32 (r 18:Int)),.v (.int .u32 (r 19:Int)),.v (.int .u32 (r 20:Int)),.v (.int .u32 (r 21:Int)),.v (.int .u32 (r 22:Int)),.v (.int .u32 (r 23:Int)),.v (.int .u32 (r 24:Int)),.v (.int .u32 (r 25:Int)),.v (.int .u32 (r 26:Int)),.v (.int .u32 (r 27:Int)),.v (.int .u32 (r 28:Int)),.v (.int .u32 (r 29:Int)),.v (.int .u32 (r 30:Int)),.v (.int .u32 (r 31:Int))]
def P0(r)(n)(a:n<32):eo (Lg (Ks r) (0+n*1))=.ok (.v (.int .u32 (r n:Int))):=by
 have:∀(n:_root_.Fin 32),eo (Lg (Ks r) (0+n.1*1))=.ok (.v (.int .u32 (r n.1:Int))):=by
  intro n
  match n with
  |⟨0,_⟩=>rfl
  |⟨1,_⟩=>rfl
  |⟨2,_⟩=>rfl
  |⟨3,_⟩=>rfl
  |⟨4,_⟩=>rfl
  |⟨5,_⟩=>rfl
  |⟨6,_⟩=>rfl
  |⟨7,_⟩=>rfl
  |⟨8,_⟩=>rfl
  |⟨9,_⟩=>rfl
  |⟨10,_⟩=>rfl
  |⟨11,_⟩=>rfl
  |⟨12,_⟩=>rfl
  |⟨13,_⟩=>rfl
  |⟨14,_⟩=>rfl
  |⟨15,_⟩=>rfl
  |⟨16,_⟩=>rfl
  |⟨17,_⟩=>rfl
  |⟨18,_⟩=>rfl
  |⟨19,_⟩=>rfl
  |⟨20,_⟩=>rfl
  |⟨21,_⟩=>rfl
  |⟨22,_⟩=>rfl
  |⟨23,_⟩=>rfl
  |⟨24,_⟩=>rfl
  |⟨25,_⟩=>rfl
  |⟨26,_⟩=>rfl
  |⟨27,_⟩=>rfl
  |⟨28,_⟩=>rfl
  |⟨29,_⟩=>rfl
  |⟨30,_⟩=>rfl
  |⟨31,_⟩=>rfl
  |⟨k+32,h⟩=>exact absurd h oT
 exact this ⟨n,a⟩
def A7(r)(n v:Nat)(a:n<32):zS (0+n*1) [vU v] (Ks r)=Ks (io r n v):=by
 have:∀(n:_root_.Fin 32),zS (0+n.1*1) [vU v] (Ks r)=Ks (io r n.1 v):=by
  intro n
  match n with
  |⟨0,_⟩=>rfl
  |⟨1,_⟩=>rfl
  |⟨2,_⟩=>rfl
  |⟨3,_⟩=>rfl
  |⟨4,_⟩=>rfl
  |⟨5,_⟩=>rfl
  |⟨6,_⟩=>rfl
  |⟨7,_⟩=>rfl
  |⟨8,_⟩=>rfl
  |⟨9,_⟩=>rfl
  |⟨10,_⟩=>rfl
  |⟨11,_⟩=>rfl
  |⟨12,_⟩=>rfl
  |⟨13,_⟩=>rfl
  |⟨14,_⟩=>rfl
  |⟨15,_⟩=>rfl
  |⟨16,_⟩=>rfl
  |⟨17,_⟩=>rfl
  |⟨18,_⟩=>rfl
  |⟨19,_⟩=>rfl
  |⟨20,_⟩=>rfl
  |⟨21,_⟩=>rfl
  |⟨22,_⟩=>rfl
  |⟨23,_⟩=>rfl
  |⟨24,_⟩=>rfl
  |⟨25,_⟩=>rfl
  |⟨26,_⟩=>rfl
  |⟨27,_⟩=>rfl
  |⟨28,_⟩=>rfl
  |⟨29,_⟩=>rfl
  |⟨30,_⟩=>rfl
  |⟨31,_⟩=>rfl
  |⟨k+32,h⟩=>exact absurd h oT
 exact this ⟨n,a⟩
def C4{ev}{h}{s b n v:Nat}{a x}{r}(d:ev a=.ptr b (0+n*1))(e:h b=some (.box (Ks r)))(j:ev x=vU v)(i:n<32):
  bc C0 ev h s (.store 28 a x)=.fx True .any (ao h b (some (.box (Ks (io r n v))))):=by
 have c:C0.ty 28=some q8:=rfl;have g:(0+n*1+([vU v]:List AV).length).ble (Ks r).length=true:=iL (by simp;omega);simp only[bc,c,j,kN,d,e];rw[show([AV.v _].length.beq 1)=true from rfl];simp only;rw[g];simp only;rw[A7 _ _ _ i]
end Go.Proofs.YtdhclfgoomldfaaGreatDoor
