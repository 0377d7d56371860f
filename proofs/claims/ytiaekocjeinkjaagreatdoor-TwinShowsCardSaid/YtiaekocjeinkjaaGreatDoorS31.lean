import Derived.Test.YtiaekocjeinkjaaGreatDoorS22
import Derived.Test.YtiaekocjeinkjaaGreatDoorS24
import Derived.Test.YtiaekocjeinkjaaGreatDoorS30
set_option linter.all false
namespace Go.Proofs.YtiaekocjeinkjaaGreatDoor
open Go.RowKit
@[reducible] def a5.at(C:a5)(s:Nat):a5:={C with fr:=s}
def Ge(r:AV):Nat->AV:=λi=>match i with|0=>r|_=>.any
def p5(C:a5)(b:Func)(bs:AV->AH->Prop)(s:Nat):c8->a4->Prop
 | .exit _,_=>False
 |_,st=>∃rs,gx C st b.results.toList=some rs/\he ⟨Ge (Dp rs),st.h,st.n⟩ (λa=>∃r h' σ,bs r h'/\ef s σ (s+1)=true/\di a ⟨Ge r,h',s+1⟩ σ)
def hD(h:AH):Nat->Bool
 |0=>true
 |k+1=>match h k with|some _=>hD h k|none=>false
theorem uH{h:AH}:∀{s:Nat},hD h s=true->∀x,x<s->h x≠none
 |0,_,x,c=>absurd c (dG _)
 | k+1,a,x,c=>by
  simp only[hD]at a;split at a
  .rename_i b d;rcases fb x k with h|h
   .exact uH a x h
   .have:x=k:=oT;subst this;rw[d];simp
  .cases a
theorem KD:∀{b:Nat} {σ:Nat->Nat} {n:Nat},ef b σ n=true->∀x,x<b->σ x=x/\x<n
 |0,_,_,_,x,c=>absurd c (dG _)
 | k+1,σ,n,a,x,c=>by
  simp only[ef]at a;split at a
  .rename_i d e;rcases fb x k with h|h
   .exact KD a x h
   .have:x=k:=oT;subst this;exact⟨aO d,aJ e⟩
  .cases a
section
variable (S:Nat->Prop)(w:World)(β:Bt)
def ie(b:Nat):Prop:=∃x l,β x=some l/\l.l=b
structure lg(s:Nat)(S':Nat->Prop)(w':World)(β':Bt):Prop where
 hS:∀b,S b->S' b
 hE:cp S w w'
 j:w.heap.size<=w'.heap.size
 Zs:∀x l,x<s->β x=some l->β' x=some l
 own:∀x l,β' x=some l->ie β l.l\/w.heap.size<=l.l
 nw:∀b,S' b->S b\/w.heap.size<=b\/ie β b
 still:∀b,b<w.heap.size-> ¬ie β b->w'.heap[b]?=w.heap[b]?
def UH{S:Nat->Prop}{w w' c:World}(h:cp S w w')(e:c.heap=w'.heap):cp S w c:=⟨λb a=>by rw[e];exact h.ZK b a,λb d t f a=>by rw[e];exact h.shape b d t f a⟩
def Gf(s:Nat):Inv s where
 p:=lg S w β s
 mono:=by
  intro B m o i s1 t q r P K
  refine⟨λb a=>K.hS b (P.hS b a),P.hE.trans P.hS K.hE,aL P.j K.hB.size,λx l g c=>K.hle _ _ (P.Zs x l g c),λx l c=>?_,λb a=>?_,λb a j=>?_⟩
  .rcases K.Ze x l c with h|⟨_,h|⟨y,k,f,d⟩⟩
   .exact P.own x l h
   .exact .inr (aL P.j h)
   rw[<-d];exact P.own y k f
  .rcases K.hN b a with h|⟨_,h|⟨y,k,f,d⟩⟩
   .exact P.nw b h
   .exact .inr (.inl (aL P.j h))
   rcases P.own y k f with h|h
   .exact .inr (.inr (d ▸ h))
   exact .inr (.inl (d ▸ h))
  refine(K.hO b (e5 a P.j) λy k f d=>?_).trans (P.still b a j)
  rcases P.own y k f with h|h
  .exact j (d ▸ h)
  rw[d]at h;omega
 Zd:=by
  intro m o i σ n P p
  refine⟨P.hS,P.hE,P.j,λx l g c=>?_,λx l c=>?_,P.nw,P.still⟩
  .obtain⟨f,d⟩:=KD p x g
   simp only[d,fD,f]
   exact P.Zs x l g c
  by_cases g:x<n
  .rw[aa g]at c;exact P.own _ l c
  rw[dZ g]at c;cases c
 Y2:=by
  intro m o i x l P c
  refine⟨λb a=>.inl (P.hS b a),P.hE,P.j,P.Zs,P.own,λb a=>?_,P.still⟩
  rcases a with a|rfl
  .exact P.nw b a
  exact(P.own x l c).elim (λh=>.inr (.inr h)) λh=>.inr (.inl h)
 heap:=by
  intro m o q i P e
  exact⟨P.hS,UH P.hE e,by rw[e];exact P.j,P.Zs,P.own,P.nw,λb a j=>by rw[e];exact P.still b a j⟩
end
theorem HCall.intro{C:a5}{s:Nat}(Z:cb (C.at s)){f:FuncId}{d:Func}{m:Code}{args:List AV}{h:AH}{bs:AV→AH→Prop}(hf:C.P.funcs[f]?=some d)(c:d.body=some m)(ag:(d.name== "runtime.NumGoroutine")=false)
  (hN:rU d.ntmps m=true) (J:Nat.ble args.length d.ntmps=true) (N:hD h s=true) (hw:eA (C.at s) (bI (C.at s)) m ⟨gj args,h,s⟩ (p5 (C.at s) d bs s)) (Q:C.df=[]:=by rfl):pM C.P C.G f args h s bs:=by
 refine⟨⟨d,hf,by rw[c];rfl,ag⟩,λB S w β o H G hG E=>?_⟩;have J:=aJ J;refine calls_of_wp hf c ?_;have g:({w with heap:=w.heap.extract 0 B}:World).heap.size=B:=by
  show(w.heap.extract 0 B).size=B;rw[Array.size_extract];have:=H.ZT;omega
 have I:∀b,b<B->(w.heap.extract 0 B)[b]?=w.heap[b]? :=λb c=>by
  rw[mQ,aa (oH H.ZT),bJ]
 have M0:bt (C.at s) (Gf S w β s) {w with heap:=w.heap.extract 0 B} S d.ntmps (· <s) (gj args) h {tmps:=o.toArray++Array.replicate (d.ntmps-o.toArray.size) undef,defers:=[]} w S β:=by
  have A:o.length=args.length:=E.1.symm;refine⟨λi=>?_,by rw[g];exact H,⟨R,R,R,by rw[g];exact H.ZT,λb c=>?_⟩,G,Q.symm,by simp;omega,hG,λ_ h=>.inl h,⟨λ_ h=>h,cp.refl _ _,aC _,λ_ _ _ h=>h,λx l h=>.inl ⟨x,l,h,R⟩,λ_ h=>.inl h,λ_ _ _=>rfl⟩⟩
  .rw[mv]
   cases ha:args[i]? with
   |none=>exact .any _
   | some x=>
    have hi:i<o.length:=by rw[A];exact(Em.1 ha).1
    have X:o[i]?=some o[i]:=aA hi;have:(o.toArray++Array.replicate (d.ntmps-o.toArray.size) undef).getD i undef=o[i]:=by
     rw[aK,dS (sU hi),eM,X];rfl
    rw[this];exact E.2 i x _ ha X
  .rw[g]at c;exact(I b c).symm
 refine wp_mono (CM Z m hN ⟨gj args,h,s⟩ _ hw _ w S β M0) ?_;rintro e V w' ⟨e',st,Y,U,rfl,D,M⟩;have O:(∃rs,gx (C.at s) st d.results.toList=some rs/\he ⟨Ge (Dp rs),st.h,st.n⟩ (λT=>∃r h' σ,bs r h'/\ef s σ (s+1)=true/\di T ⟨Ge r,h',s+1⟩ σ))->V.defers=[]/\∃v,(results d V.tmps).run C.P w'=.ok v w'/\∃v' F L r h',bs r h'/\Ending.returned v=.returned v'/\av F w' L r v'/\c3 B F w' L h'/\gy B S w β s F w' L:=by
  rintro⟨rs,h1,T,t,r,h',σ,hP,hk,hW⟩;obtain⟨ak,hh,n⟩:=st;obtain⟨z,g1,g2⟩:=JA Z M _ rs h1;have K:av Y w' U (Dp rs) (if h:z.toArray.size=1 then z.toArray[0]else .tuple z.toArray):=by
   match rs,z,g2 with
   |[],z,g2=>
    have:z=[]:=gq g2.1.symm;subst this
    exact .F [] #[] R λi a bb p=>by simp at p
   |[x],z,g2=>
    match z,g2 with
    |[bb],g2=>simpa [Dp]using g2.2 0 x bb R R
    |[],g2=>exact absurd g2.1 (by simp)
    |_::_::_,g2=>exact absurd g2.1 (by simp)
   | x::y::b4,z,g2=>
    have ab: ¬z.toArray.size=1:=by
     have:=g2.1;simp at this⊢;omega
    rw[dif_neg ab];exact .F _ _ (sU g2.1) λi a bb p aj=>g2.2 i a bb p (sU aj)
  refine⟨M.df.trans Q,_,yO _ z g1 d R,?_⟩;generalize X:(if h:z.toArray.size=1 then z.toArray[0]else .tuple z.toArray)=v at K⊢;have M1:bt (C.at s) (Gf S w β s) {w with heap:=w.heap.extract 0 B} S 1 (· <n) (Ge (Dp rs)) hh {tmps:= #[v],defers:=V.defers} w' Y U:=by
   refine⟨λi=>?_,M.H,M.B,M.Z2,M.df,R,M.G,M.nw,M.iv⟩
   cases i with
   |zero=>exact K
   |succ i=>exact .any _
  obtain⟨F,M2⟩:=nK t M1;have j:=pK hW hk M2;have hr:=j.T 0;refine⟨v,F,_,r,h',hP,R,hr,by have:=j.H;rwa [g]at this,?_⟩;have P:lg S w β s F w' _:=j.iv;have q:=uH N;refine⟨P.hS,P.hE,⟨j.B.os,j.B.tape,j.B.output,P.j,λb c=>?_⟩,λx l A=>P.Zs x l (G x l A) A,λx l A=>?_,λb c=>?_,λb c hn=>P.still b c λ⟨x,l,h1,h2⟩=>hn x l h1 h2⟩
  .rw[j.B.block b (by rw[g];exact c)];exact I b c
  .rcases fb x s with hx|hx
   .obtain⟨blk,W⟩:=DQ.1 (q x hx);obtain⟨l0,_,_,_,k1,_⟩:=H.own x blk W;have:=P.Zs x l0 hx k1;rw[A]at this;injection this with this;subst this;exact .inl k1
   .have ai:x=s:=by
     have:=j.Z2 x l A;have:x<s+1:=this;omega
    refine .inr ⟨ai,?_⟩;rcases P.own x l A with ⟨y,k,h1,h2⟩|h
    .exact .inr ⟨y,k,h1,h2⟩
    .exact .inl h
  .rcases P.nw b c with h|h|⟨y,k,h1,h2⟩
   .exact .inl h
   .exact .inr ⟨aL H.ZT h,.inl h⟩
   .rcases j.nw b c with h|h
    .exact .inl h
    .exact .inr ⟨by rwa [g]at h,.inr ⟨y,k,h1,h2⟩⟩
 cases e' with
 |normal=>exact O D
 |ret=>exact O D
 |exit i=>exact D.elim
def fk{S:Nat->Prop}{w:World}{β:Bt}{a:AV}{v:Value}(B:av S w β a v):∀{d:Bt} {ρ:Nat->Nat},(∀x l,β x=some l->d (ρ x)=some l)->av S w d (uW ρ a) v:=by
 induction B with
 |v x=>intro d ρ _;exact .v x
 |agg E D k t h ih=>
  intro d ρ j;refine .agg _ D (by rw[tS];exact k) t λi a u p q=>?_;rw[pJ]at p;obtain⟨y,r,rfl⟩:=Gi.1 p
  exact ih i y u r q j
 |F E D k h ih=>
  intro d ρ j;refine .F _ D (by rw[tS];exact k) λi a u p q=>?_;rw[pJ]at p;obtain⟨y,r,rfl⟩:=Gi.1 p
  exact ih i y u r q j
 |Y rs rows n A c b o u G I z C F J t B ih=>intro d ρ _;exact .Y rs rows n A c b o u G I z C F J t B
 |k rs m row b o u C j J t B ih=>intro d ρ _;exact .k rs m row b o u C j J t B
 |ptr s m l k=>intro d ρ j;exact .ptr _ m l (j _ _ k)
 |x s row m l k=>intro d ρ j;exact .x _ row m l (j _ _ k)
 |X s lo len n l A c k G I z F E e P j K=>intro d ρ L;exact .X _ lo len n l A c (L _ _ k) G I z F E e P j K
 | a f first O D Q k h M h' ih N=>
  intro d ρ j;refine .a f _ _ D Q (by rw[tS];exact k) (λi a u p q=>?_) (by rw[tS];exact M) λi a u p q=>?_
  .rw[pJ]at p;obtain⟨y,r,rfl⟩:=Gi.1 p;exact ih i y u r q j
  .rw[pJ]at p;obtain⟨y,r,rfl⟩:=Gi.1 p
   exact N i y u r q j
 |Zr g a x H h ih=>intro d ρ j;exact .Zr g _ x H (ih j)
 |Zm g a H=>intro d ρ _;exact .Zm g _ H
 |any x=>intro d ρ _;exact .any x
def Rz{S:Nat->Prop}{w:World}{β c:Bt}{ρ:Nat->Nat}{l:Loc}{h:Array Value}{blk:a'}(k:Bf S w β l h blk)(i:∀x l,β x=some l->c (ρ x)=some l):Bf S w c l h (DI ρ blk):=by
 cases blk with
 |box cells=>
  intro j a b;rw[pJ]at b;obtain⟨y,d,rfl⟩:=Gi.1 b;obtain⟨u,e,f,g⟩:=k j y d
  exact⟨u,e,f,fk g i⟩
 |arr rows rs=>exact k
 |row cells=>
  refine⟨k.1,λj a b=>?_⟩;rw[pJ]at b;obtain⟨y,d,rfl⟩:=Gi.1 b;obtain⟨u,e,f,g⟩:=k.2 j y d;exact⟨u,e,f,fk g i⟩
def OZ{S:Nat->Prop}{w:World}{β:Bt}{ρ:Nat->Nat}{n:Nat}{l:Loc}{f:Array Value}{blk:a'}(g:qM n blk=true)(k:Bf S w β l f (DI ρ blk)):Bf S w (λs=>if s<n then β (ρ s)else none) l f blk:=by
 cases blk with
 |box cells=>
  intro j a b;obtain⟨u,c,d,e⟩:=k j (uW ρ a) (by rw[pJ,b];rfl)
  exact⟨u,c,d,Bv _ _ _ (aC _) (tD _ cells (by simpa [qM]using g) j a b) e⟩
 |arr rows rs=>exact k
 |row cells=>
  refine⟨k.1,λj a b=>?_⟩;obtain⟨u,c,d,e⟩:=k.2 j (uW ρ a) (by rw[pJ,b];rfl);exact⟨u,c,d,Bv _ _ _ (aC _) (tD _ cells (by simpa [qM]using g) j a b) e⟩
def Gg(ρ:Nat->Nat)(s s2:Nat):Nat->Nat:=λx=>match Nat.beq x s with|true=>s2|false=>ρ x
def wD(ρ:Nat->Nat)(s s2:Nat):Gg ρ s s2 s=s2:=by simp[Gg]
def rL(ρ:Nat->Nat){s s2 x:Nat}(h:x≠s):Gg ρ s s2 x=ρ x:=by
 unfold Gg;have:Nat.beq x s=false:=by rw[<-eJ];exact λe=>h (aO e)
 rw[this]
theorem pM.frame{P:Program}{an:Nat->Option (List AV)}{f:FuncId}{args:List AV}{h:AH}{s:Nat}{bs:AV->AH->Prop}(ao:pM P an f args h s bs)(ρ:Nat->Nat)(K:AH)(s2:Nat)(ag:hD h s=true)(I:∀x,h x≠none->x<s)
  (h1:∀x blk,h x=some blk->ρ x<s2/\qM s blk=true/\K (ρ x)=some (DI ρ blk)) (h2:∀x y,x<s->y<s->ρ x=ρ y->x=y) (ha:mS s args=true)
  (T:AV->AH->Prop) (ab:∀r h',bs r h'->∃X,T (uW (Gg ρ s s2) r) X/\∀y blk,X y=some blk->(∃x n,h' x=some n/\y=Gg ρ s s2 x/\blk=DI (Gg ρ s s2) n)\/(K y=some blk/\∀x,x<s->ρ x≠y)):
  pM P an f (Bg ρ args) K s2 T:=by
 refine⟨ao.1,λB S w β vs E Q hG U=>?_⟩;have aj:=uH ag;have u:∀x,x<s->∃l,β (ρ x)=some l/\K (ρ x)≠none:=λx g=>by
  obtain⟨blk,o⟩:=DQ.1 (aj x g);obtain⟨_,_,e⟩:=h1 x blk o;obtain⟨l,_,_,_,j,_⟩:=E.own _ _ e;exact⟨l,j,by rw[e];simp⟩
 have HS:c3 B S w (λx=>if x<s then β (ρ x)else none) h:=by
  refine⟨λx blk g=>?_,λx W l D g J e e' F=>?_,E.lt,E.ZT⟩
  .obtain⟨_,b4,e⟩:=h1 x blk g;have al:=I x (by rw[g];simp);obtain⟨l,Y,t,Z,j,O,k3,k4,k5,k6⟩:=E.own _ _ e;exact⟨l,Y,t,Z,by simp only[al,fD];exact j,O,k3,k4,k5,OZ b4 k6⟩
  have g1:=I x g;have g2:=I W J;rw[aa g1]at e;rw[aa g2]at e';exact h2 x W g1 g2 (E.inj _ _ _ _ (u x g1).choose_spec.2 (u W g2).choose_spec.2 e e' F)
 have hL:b6 S w (λx=>if x<s then β (ρ x)else none) args vs:=by
  refine⟨by rw[<-U.1,tS],λi a ar p aq=>?_⟩;exact Bv _ _ _ (aC _) (tD _ args ha i a p) (U.2 i (uW ρ a) ar (by rw[pJ,p];rfl) aq)
 refine(ao.2 B S w _ vs HS (λx l c=>?_) hG hL).mono ?_
 .by_cases g:x<s
  .exact g
  rw[dZ g]at c;cases c
 rintro e w' ⟨v,S',d,r,h',hP,rfl,hr,N,C⟩;obtain⟨X,ai,h3⟩:=ab r h' hP;have L:∀x l,(if x<s then β (ρ x)else none)=some l->x<s/\β (ρ x)=some l:=λx l c=>by
  by_cases g:x<s
  .rw[aa g]at c;exact⟨g,c⟩
  rw[dZ g]at c;cases c
 have M:∀x l,d x=some l->(λy=>if y=s2 then d s else β y) (Gg ρ s s2 x)=some l:=λx l c=>by
  rcases C.Ze x l c with h|⟨h,_⟩
  .obtain⟨g,J⟩:=L x l h;have:ρ x<s2:=Q _ _ J;rw[rL ρ oT];show(if ρ x=s2 then d s else β (ρ x))=some l;rw[dZ oT];exact J
  subst h;rw[wD];show(if s2=s2 then d x else β s2)=some l;rw[aa R];exact c
 have q:ME β (λy=>if y=s2 then d s else β y):=λy l c=>by
  have:=Q y l c;show(if y=s2 then d s else β y)=some l;rw[dZ oT];exact c
 have V:∀y blk l,K y=some blk->β y=some l->(∀x,x<s->ρ x≠y)->∀x k,(if x<s then β (ρ x)else none)=some k->k.l≠l.l:=λy blk l A c bb x k hk e=>by
  obtain⟨g,J⟩:=L x k hk;exact bb x g (E.inj _ _ _ _ (u x g).choose_spec.2 (by rw[A];simp) J c e)
 refine⟨v,S',λy=>if y=s2 then d s else β y,_,X,ai,R,fk hr M,⟨λy blk A=>?_,λy y' l D A am z e2 F=>?_,N.lt,N.ZT⟩,⟨C.hS,C.hE,C.hB,q,λy l c=>?_,λb F=>?_,λb F hn=>C.hO b F λx k hk=>?_⟩⟩
 .rcases h3 y blk A with ⟨x,n,z,rfl,rfl⟩|⟨z,bb⟩
  .obtain⟨l,Y,t,Z,j,O,k3,k4,k5,k6⟩:=N.own x n z;exact⟨l,Y,t,Z,M x l j,O,k3,k4,k5,Rz k6 M⟩
  obtain⟨l,Y,t,Z,j,O,k3,k4,k5,k6⟩:=E.own y blk z;have m:=V y blk l z j bb;have I:=fJ O;refine⟨l,Y,t,Z,q _ _ j,(C.hO _ I m).trans O,k3,k4,λhS=>?_,k6.mono C.hS C.hE q⟩;rcases C.hN _ hS with h|⟨_,h|⟨x,k,c0,c'⟩⟩
  .exact k5 h
  .omega
  exact m x k c0 c'
 ·
  have G:∀y l,X y≠none->(if y=s2 then d s else β y)=some l->(∃x,h' x≠none/\d x=some l/\y=Gg ρ s s2 x)\/(K y≠none/\β y=some l/\∀x,x<s->ρ x≠y):=λy l A c=>by
   obtain⟨blk,o⟩:=DQ.1 A;rcases h3 y blk o with ⟨x,n,z,e2,_⟩|⟨z,bb⟩
   .obtain⟨l0,_,_,_,j,_⟩:=N.own x n z;have:=M x l0 j;rw[<-e2]at this;rw[show(λy=>if y=s2 then d s else β y) y=(if y=s2 then d s else β y)from R,c]at this;injection this with this;subst this;exact .inl ⟨x,by rw[z];simp,j,e2⟩
   obtain⟨l0,_,_,_,j,_⟩:=E.own y blk z;have ap:y<s2:=Q y l0 j;rw[dZ oT]at c;exact .inr ⟨by rw[z];simp,c,bb⟩
  have H:∀y l x D,K y≠none->β y=some l->(∀x,x<s->ρ x≠y)->h' x≠none->d x=some D->l.l≠D.l:=λy l x D A c bb g ak e=>by
   obtain⟨blk,o⟩:=DQ.1 A;have m:=V y blk l o c bb;obtain⟨l0,_,_,_,j,O,_⟩:=E.own y blk o;rw[c]at j;injection j with j;subst j;have I:=fJ O;rcases C.Ze x D ak with h|⟨_,h|⟨hc,k,c0,c'⟩⟩
   .exact m x D h e.symm
   .omega
   exact m hc k c0 (c'.trans e.symm)
  rcases G y l A z with ⟨x,dr,ds,fs⟩|⟨dr,ds,fs⟩<;>rcases G y' D am e2 with ⟨W,b4,em,fz⟩|⟨b4,em,fz⟩
  .rw[fs,fz,N.inj x W l D dr b4 ds em F]
  .exact absurd F.symm (H y' D x l b4 em fz dr ds)
  .exact absurd F (H y l W D dr ds fs b4 em)
  exact E.inj y y' l D dr b4 ds em F
 .have c:(if y=s2 then d s else β y)=some l:=c;by_cases A:y=s2
  .rw[aa A]at c;refine .inr ⟨A,?_⟩;rcases C.Ze s l c with h|⟨_,h|⟨hc,k,c0,c'⟩⟩
   .exact absurd (L s l h).1 (iI _)
   .exact .inl h
   exact .inr ⟨_,k,(L hc k c0).2,c'⟩
  rw[dZ A]at c;exact .inl c
 .rcases C.hN b F with h|⟨gf,h|⟨x,k,c0,c'⟩⟩
  .exact .inl h
  .exact .inr ⟨gf,.inl h⟩
  exact .inr ⟨gf,.inr ⟨_,k,(L x k c0).2,c'⟩⟩
 exact hn _ k (L x k hk).2
theorem pM.Y'{P:Program}{G:Nat->Option (List AV)}{f:FuncId}{args:List AV}{blk c:a'}{r:AV}(H:pM P G f args (aq [(0,blk)]) 1 (λx h'=>x=r/\h'=aq [(0,c)]))(b:Nat)(K:AH)(s2:Nat)(m:b<s2)
  (i:qM 1 blk=true) (j:K b=some (DI (λ_=>b) blk)) (l:mS 1 args=true):
  pM P G f (Bg (λ_=>b) args) K s2 (λx h'=>x=uW (Gg (λ_=>b) 1 s2) r/\h'=an K b (some (DI (Gg (λ_=>b) 1 s2) c))):=by
 refine H.frame (λ_=>b) K s2 R (λx a=>?_) (λx g a=>?_) (λx y a d _=>by omega) l _ λn h' k=>?_
 .cases x with
  |zero=>omega
  |succ x=>exact absurd R a
 .cases x with
  |zero=>injection a with a;subst a;exact⟨m,i,j⟩
  |succ x=>cases a
 .obtain⟨rfl,rfl⟩:=k;refine⟨_,⟨R,R⟩,λy g d=>?_⟩;by_cases h:y=b
  .subst h;rw[dB]at d;injection d with d;exact .inl ⟨0,c,R,R,d.symm⟩
  .rw[cI _ _ h]at d;exact .inr ⟨d,λx a e=>h e.symm⟩
theorem cb.at{C:a5}{s:Nat}(h:cb C):cb (C.at s):=⟨h.ty,h.mixed,h.hH⟩
def Fq{C:a5}{R:FuncId->List AV->AV->Prop}{Q:c8->a4->Prop}{κ:Type}(S:κ->a4)(G:κ->Prop){a b:Code}{st:a4}(f:eA C R a st (λe c=>match e with| .normal=>he c (λd=>∃k σ,di d (S k) σ∧ef C.fr σ (S k).n=true∧G k)|e=>Q e c))(g:∀k,G k->eA C R b (S k) Q):eA C R (.seq a b) st Q:=
 zk S G f g lE
def BH{C:a5}{a:Func}{bs:AV->AH->Prop}{s:Nat}{st:a4}{rs:List AV}(c:gx C st a.results.toList=some rs){r:AV}{h':AH}{σ:Nat->Nat}(d:bs r h')(f:ef s σ (s+1)=true)(e:di ⟨Ge (Dp rs),st.h,st.n⟩ ⟨Ge r,h',s+1⟩ σ):
  ∃rs,gx C st a.results.toList=some rs/\he ⟨Ge (Dp rs),st.h,st.n⟩ (λb=>∃r h' σ,bs r h'/\ef s σ (s+1)=true/\di b ⟨Ge r,h',s+1⟩ σ):=
 ⟨rs,c,.mk _ (.refl _) ⟨r,h',σ,d,f,e⟩⟩
def ah{st:a4}{x r:AV}{hp:List (Nat×a')}{n:Nat}(σ:Nat->Nat)(d:x=uW σ r)(a:mR n r=true)(b:WH ⟨Ge x,st.h,st.n⟩ n σ hp)(c:En ((hp.map (·.1)).map σ)=true):di ⟨Ge x,st.h,st.n⟩ ⟨Ge r,aq hp,n⟩ σ:=by
 have W:=di.ZG (st:=⟨Ge x,st.h,st.n⟩) (l:=[(0,r)]) (hp:=hp) (n:=n) σ ⟨⟨d,a⟩,tr⟩ b c;refine⟨λi=>?_,W.h,W.inj⟩;have:=W.t i
 cases i with
 |zero=>exact this
 |succ i=>exact .inl R
def lh(fz:Fz):List AV->List AV->Prop
 |[],[]=>True
 |a::as_,b::c=>e4 fz a b/\lh fz as_ c
 |_,_=>False
theorem lh.get{fz:Fz}:∀{as_ z:List AV},lh fz as_ z->as_.length=z.length/\∀(i:Nat) a d,as_[i]?=some a->z[i]?=some d->e4 fz a d
 |[],[],_=>⟨R,λi a d h=>by simp at h⟩
 |a::as_,b::z,h=>by
  obtain⟨f,g⟩:=lh.get h.2;refine⟨by simp[f],λi x y c e=>?_⟩
  cases i with
  |zero=>simp at c e;subst c e;exact h.1
  |succ i=>exact g i x y (sU c) (sU e)
 |[],_::_,h=>h.elim
 |_::_,[],h=>h.elim
theorem eg.ZU{fz:Fz}{as_ a:List AV}(h:lh fz as_ a):eg fz (.box as_) (.box a):=.box as_ a h.get.1 h.get.2
def GT(st:a4)(fz:Fz):List (Nat×AV)->Prop
 |[]=>True
 |(i,x)::l=>e4 fz (st.t i) x/\GT st fz l
def GH(st:a4)(fz:Fz):List (Nat×a')->Prop
 |[]=>True
 |(i,x)::l=>((match fz with|some (b,_,_)=>Nat.beq i b=false|none=>True)/\∃a,st.h i=some a/\eg fz a x)/\GH st fz l
theorem kx.ZG{st:a4}{fz:Fz}{l:List (Nat×AV)}{hp:List (Nat×a')}(d:match fz with|some (x,rs,rows)=>st.h x=some (.arr rows rs)|none=>True)(f:GT st fz l)(c:GH st fz hp):kx st ⟨a6 l,aq hp,st.n⟩ fz:=by
 refine⟨λx rs rows h=>(by subst h;exact d),R,λi=>?_,λs blk a=>?_⟩
 .clear c d
  induction l with
  |nil=>exact .any _
  |cons p l ih=>
   obtain⟨j,x⟩:=p;simp only[a6]
   cases b:Nat.beq j i with
   |true=>rw[<-aO b];exact f.1
   |false=>exact ih f.2
 .clear f d
  induction hp with
  |nil=>cases a
  | cons p hp ih=>
   obtain⟨j,x⟩:=p
   change aq _ _=_ at a
   simp only[aq]at a
   cases b:Nat.beq j s with
   |true=>
    rw[b]at a;injection a with a;subst a;rw[<-aO b];refine⟨λx rs rows g e=>?_,c.1.2⟩;have:=c.1.1;subst g;simp only at this;rw[e]at this
    simp at this
   |false=>rw[b]at a;exact ih c.2 a
abbrev ee:= @kx.ZG
open Go.Proofs.Tryz
set_option maxRecDepth 100000
set_option maxHeartbeats 4000000
abbrev dU(n:Nat):List AV:=[.v (.int .u32 (n:Int))]
theorem lN:∀(l:List UInt8),gU (l.map λb=>[.v (.int .u8 (b.toNat:Int))])=some l
 |[]=>rfl
 |b::l=>by
  simp only[jC,gU,lN l];simp
def dK{C:a5}{a:Func}{r:AV}{st:a4}{rs:List AV}(b:gx C st a.results.toList=some rs)(c:jU st.h (Dp rs))(d:eP (vR st.h (Dp rs))=true)(e:vR st.h (Dp rs)=r):ST C a r st:=qY b c d e
def fT{C:a5}{a:Func}{r:AV}{st:a4}{rs:List AV}(b:gx C st a.results.toList=some rs)(e:vR st.h (Dp rs)=r)(c:jU st.h (Dp rs):=by exact trivial)(d:eP (vR st.h (Dp rs))=true:=by exact rfl):ST C a r st:=dK b c d e
def Fs(i:SI):bI C0 129 [g9 i] (.F [.v (.int .i64 i.y),.v (.int .i64 i.A)]):=by
 refine bc func129 R<|zR ?_;exact qY R tr R R
def UI{prog:List Nat}{pc:Nat}(b:pc%4=0)(a:pc/4<prog.length):∃x,es prog pc=some x/\prog[((pc/4:Nat):Int).toNat]?=some x:=by
 refine⟨prog[pc/4],?_,?_⟩
 .unfold es;rw[aa b,aA a]
 rw[Int.toNat_natCast,aA a]
def NC{prog:List Nat}{pc:Nat}(h:pc%4≠0\/prog.length<=pc/4):es prog pc=none:=by
 unfold es;split
 .exact bE oT
 rfl
def KE{prog:List Nat}(hp:∀x∈prog,x<=4294967295)(pc:Nat):a8 prog pc<=4294967295:=by
 unfold a8 es;split
 .cases h:prog[pc/4]? with
  |none=>exact aE _
  |some x=>exact hp x (aB h)
 .exact aE _
def Ay(i:SI)(a:Nat):fa i a<=4294967295:=by unfold fa;omega
def uT(a:Nat):b_ a<=4294967295:=by unfold b_;omega
def UJ{m:ByteArray}(h:m.size<=256)(a n:Nat):(Cv m a n).size<9223372036854775808:=by
 unfold Cv;rw[dA];omega
def Dd(x:Nat):(g7 x != 0)=true↔dq x=0:=by
 unfold g7;split<;>simp_all
def XG{n:Nat}(h:n<=1000000):IntKind.wrap .u64 ((n:Int))=(n:Int):=by
 simp only[IntKind.wrap,IntKind.signed,IntKind.bits];simp;omega
def ND(prog:List Nat)(pc:Nat)(d:Bool)(hp:∀x∈prog,x<=4294967295)(i:prog.length<=1000000)(b:pc<=4294967295):bI C0 142 [.Y 1 (prog.map dU) d,.v (.int .u32 (pc:Int))] (.F [.v (.int .u32 (a8 prog pc:Int)),.v (.bool (es prog pc).isSome)]):=by
 refine bc func142 R ?_;have j:pc%4<=3:=aI (aQ _ dT);refine bO (x:=.v (.int .u32 ((pc%4:Nat):Int))) R R R dT<|b' (x:=.v (.bool ((pc%4) != 0))) R R (ak (db _ _)) ?_;have e:pc/4<=1073741823:=eG b;refine qR 0 R<|pB (x:=.v (.int .u32 ((pc/4:Nat):Int))) (g:= !((pc%4) != 0)) R R R R (λh=>h) R (ij (nJ e R)) (λk=>by decide)<|gn (x:=.v (.int .u64 ((pc/4:Nat):Int))) R id (ap (nJ e R))<|aw (x:=.v (.int .i64 ((prog.map dU).length:Int))) R id R<|aw (x:=.v (.int .u64 ((prog.length:Nat):Int))) R id (by show b1.ok (.v (.int .u64 (IntKind.wrap .u64 ((((prog.map dU).length:Nat):Int)))))=_;rw[aH,XG i])<|aw (x:=.v (.bool (decide ((pc/4)>=prog.length)))) R b9 (ak (im _ _))<|zN R (by simp) ?_;refine zB R (λa=>?_) (λa=>?_)
 .exact dK R tr R (by unfold a8;rw[NC (by simp[cE,bne]at a;split at a<;>first|(left;assumption)|(right;assumption)|simp_all)];rfl)
 skip
 have f:pc/4<=1073741823:=eG b;refine bO (x:=.v (.int .u32 ((pc/4:Nat):Int))) R R (ij (nJ f R)) dT ?_;obtain⟨x,g,c⟩:=UI (prog:=prog) (pc:=pc) (by simp[cE,bne]at a;split at a<;>simp_all) (by simp[cE,bne]at a;split at a<;>simp_all);have l:x<=4294967295:=hp x (aB c);refine FO (dU x) (x:=.k 1 0 (dU x)) R R R (⟨oT,by rw[aX];exact am (Option.map dU) c⟩) R ?_;refine cg 0 R ?_;exact dK R tr R (by unfold a8;rw[g];rfl)
def sQ{size:Nat}{a:Nat}{n:Nat}(h:kZ (size:Int) a (n:Int)=true):a+n<=size/\0<n/\n<=4:=by
 simp only[kZ,aP,aY]at h;omega
def A1(m:ByteArray)(a n:Nat)(b:kZ (m.size:Int) a (n:Int)=true)(g:m.size<=256)(d:a<=4294967295):bI C0 166 [.v (.string m),.v (.int .u32 (a:Int)),.v (.int .i64 (n:Int))] (.F [.v (.string (Cv m a n)),.v (.int .i64 0)]):=by
 refine bc func166 R ?_;have f:n<=4:=(sQ b).2.2;refine b' (x:=.v (.int .i64 (m.size:Int))) R R R<|qR 0 R<|zC (GY _ _ _ oT oT) ?_;refine zB R (λc=>by rw[b]at c;cases c) (λ_=>?_);refine b' (x:=.v (.int .i64 (a:Int))) R R (ap (bH d R)) ?_;have e:a+n<=4294967299:=aD d f;refine qR 0 R<|b' (x:=.v (.int .i64 ((a+n:Nat):Int))) R R (ap (bH e R)) ?_;refine bO (x:=.v (.string (m.extract a (a+n)))) R R R (by have q:=sQ b;refine⟨?_,?_,?_⟩<;>simp<;>omega) ?_;refine cg 0 R ?_;exact qY R tr R R
def qV(m:ByteArray):(aS m).length=m.size:=by simp[aS]
def Pa(m b:ByteArray)(a:Nat)(h:a+b.size<=m.size)(h':a<=m.size):
  gU (((((((List.take a (List.drop 0 (aS m)))++aS b).drop 0).take ((List.take a (List.drop 0 (aS m))).length+(aS b).length))++((aS m).drop (0+(a+b.size))).take (((m.size:Int)-((a+b.size:Nat):Int)).toNat)).drop 0).take
   ((((((List.take a (List.drop 0 (aS m)))++aS b).drop 0).take ((List.take a (List.drop 0 (aS m))).length+(aS b).length))).length+(((aS m).drop (0+(a+b.size))).take (((m.size:Int)-((a+b.size:Nat):Int)).toNat)).length))=some (m.data.toList.take a++b.data.toList++m.data.toList.drop (a+b.size)):=by
 simp only[bS,bJ];rw[<-aU,cH, <-aU,cH];have e:(((m.size:Int)-((a+b.size:Nat):Int)).toNat)=((aS m).drop (a+b.size)).length:=by
  rw[bD,qV];omega
 rw[e,cH];simp only[aS];rw[<-eO, <-kM, <-dH, <-dH];exact lN _
def y6(m:ByteArray)(a:Nat)(b:ByteArray)(c:kZ (m.size:Int) a (b.size:Int)=true)(j:m.size<=256)(g:a<=4294967295):bI C0 240 [.v (.string m),.v (.int .u32 (a:Int)),.v (.string b)] (.F [.v (.string (DD m a b)),.v (.int .i64 0)]):=by
 refine bc func240 R ?_;have i:b.size<=4:=(sQ c).2.2;refine b' (x:=.v (.int .i64 ((m.size:Nat):Int))) R R R<|qR 0 R<|b' (x:=.v (.int .i64 ((b.size:Nat):Int))) R R R<|zC (GY _ _ _ oT oT) ?_;refine zB R (λf=>by rw[c]at f;cases f) (λ_=>?_);refine b' (x:=.v (.int .i64 (a:Int))) R R (ap (bH g R))<|qR 0 R<|zF (x:=.X 12 0 m.size false) (h':=an _ 12 (some (.arr (aS m) 1))) (rfl) (by show m.size<=1000000;omega)<|Wz R<|oR 3 R<|bO (x:=.X 12 0 a true) R R R (have q:=sQ c;⟨iF _,aG _,R,by show(a:Int)<=(m.size:Int);omega⟩)<|oR 3 R<|b' (x:=.v (.int .i64 ((b.size:Nat):Int))) R R R ?_;have h:a+b.size<=4294967299:=aD g i;refine b' (x:=.v (.int .i64 ((a+b.size:Nat):Int))) R R (ap (bH h R))<|bO (x:=.X 12 (0+(a+b.size)) (((m.size:Int)-((a+b.size:Nat):Int)).toNat) false) R R R (have q:=sQ c;⟨aG _,by show((a+b.size:Nat):Int)<=(m.size:Int);omega,iF _⟩)<|oR 2 R<|rE 27<|qX 0 R<|zF (x:=.X 29 0 ((List.take a (List.drop 0 (aS m))).length+(aS b).length) false) (h':=an _ 29 (some (.arr ((List.take a (List.drop 0 (aS m)))++aS b) 1))) (rfl) (have q:=sQ c;have d:=qV m;have e:=qV b;⟨by simp only[bS,aM,d,e,jH];omega,by show 0<(aS b).length;omega,by show 0+a<=(aS m).length;omega,tr⟩)<|eo (x:=.X 31 0 (((((List.take a (List.drop 0 (aS m)))++aS b).drop 0).take ((List.take a (List.drop 0 (aS m))).length+(aS b).length)).length+(((aS m).drop (0+(a+b.size))).take (((m.size:Int)-((a+b.size:Nat):Int)).toNat)).length) false) (h':=an (an _ 29 none) 31 (some (.arr (((((List.take a (List.drop 0 (aS m)))++aS b).drop 0).take ((List.take a (List.drop 0 (aS m))).length+(aS b).length))++(((aS m).drop (0+(a+b.size))).take (((m.size:Int)-((a+b.size:Nat):Int)).toNat))) 1))) R R (rfl) (have q:=sQ c;have d:=qV m;have e:=qV b;⟨by show List.length ((((List.take a (List.drop 0 (aS m)))++aS b).drop 0).take ((List.take a (List.drop 0 (aS m))).length+(aS b).length))+List.length (((aS m).drop (0+(a+b.size))).take (((m.size:Int)-((a+b.size:Nat):Int)).toNat))<=jH;simp only[bS,aM,aU,bD,d,e,jH];omega,by show 0+((List.take a (List.drop 0 (aS m))).length+(aS b).length)=List.length ((List.take a (List.drop 0 (aS m)))++aS b);rw[aU];omega,by show 0+(a+b.size)+(((m.size:Int)-((a+b.size:Nat):Int)).toNat)<=(aS m).length;omega⟩)<|SV (m.data.toList.take a++b.data.toList++m.data.toList.drop (a+b.size)) (d:=38) R R R (by show 0+(((((List.take a (List.drop 0 (aS m)))++aS b).drop 0).take ((List.take a (List.drop 0 (aS m))).length+(aS b).length)).length+(((aS m).drop (0+(a+b.size))).take (((m.size:Int)-((a+b.size:Nat):Int)).toNat)).length)<=List.length (((((List.take a (List.drop 0 (aS m)))++aS b).drop 0).take ((List.take a (List.drop 0 (aS m))).length+(aS b).length))++(((aS m).drop (0+(a+b.size))).take (((m.size:Int)-((a+b.size:Nat):Int)).toNat)));rw[aU];omega) (by have q:=sQ c;exact Pa m b a oT oT)<|cg 0 R ?_;exact qY R tr R R
def hY(n:Nat):Nat:=if n<=16 then 16 else if n<=32 then 32 else if n<=64 then 64 else if n<=128 then 128 else 256
def jB(m:ByteArray):ByteArray:=⟨((m.extract 0 (min m.size 256)).data.toList++List.replicate (hY (min m.size 256)-min m.size 256) 0).toArray⟩
def Cw(m:ByteArray):(m.extract 0 (min m.size 256)).size=min m.size 256:=by rw[dA];omega
def wE(m:ByteArray):(jB m).size=hY (min m.size 256):=by
 have h:=Cw m;have a:(m.extract 0 (min m.size 256)).data.size=min m.size 256:=h;show(jB m).data.size=_;simp only[jB,kP,aU,cV,cM,a];unfold hY
 repeat' (split<;>try omega)
def RA(n:Nat):hY n<=256:=by unfold hY;repeat' (split<;>try omega)
def NE{n j:Nat}(c:j<=4)(a:n<=16*2 ^ j)(b:j=0\/16*2 ^ (j-1)<n):16*2 ^ j=hY n:=by
 have:j=0\/j=1\/j=2\/j=3\/j=4:=oT;unfold hY;rcases this with rfl|rfl|rfl|rfl|rfl<;>simp at a b⊢ <;>repeat' (split<;>try omega)
def IQ{j n:Nat}(a:j<=4)(h:16*2 ^ j<min n 256):j<4:=by
 have:j=0\/j=1\/j=2\/j=3\/j=4:=oT;rcases this with rfl|rfl|rfl|rfl|rfl<;>simp at h⊢ <;>omega
def Pb(m:ByteArray)(s:Nat)(h:m.size<=s):gU (List.take s (List.drop 0 (List.take 0 (List.replicate s [AV.v (.int .u8 0)])++List.take (min (aS m).length s) (aS m)++List.drop (0+min (aS m).length s) (List.replicate s [AV.v (.int .u8 0)]))))=some (m.data.toList++List.replicate (s-m.size) 0):=by
 have q:=qV m;simp only[pV,iA,bS,bJ,q,kD h];have a:List.take m.size (aS m)=aS m:=aN (by rw[q];exact aC _);rw[a,List.drop_replicate,aN (by simp[q];omega)];have:List.replicate (s-m.size) [AV.v (.int .u8 0)]=(List.replicate (s-m.size) (0:UInt8)).map λb=>[.v (.int .u8 (b.toNat:Int))]:=by simp
 rw[this];simp only[aS];rw[<-dH];exact lN _
def KF(m:ByteArray):bI C0 50 [.v (.string m)] (.v (.string (jB m))):=by
 refine bc func50 R<|b' (x:=.v (.int .i64 (m.size:Int))) R R R<|b' (x:=.v (.int .i64 ((min m.size 256:Nat):Int))) R R (by show b1.ok (.v (.int .i64 (if(256:Int)<(m.size:Int)then 256 else(m.size:Int))))=_;congr 3;split<;>omega)<|bO (x:=.v (.string (m.extract 0 (min m.size 256)))) R R R (by refine⟨?_,?_,?_⟩<;>simp<;>omega)<|cr 0 R<|dk (κ:=Nat) (λj=>⟨a6 [(0,.v (.string (m.extract 0 (min m.size 256)))),(3,.v (.int .i64 ((16*2 ^ j:Nat):Int)))],aq [],8⟩) (λj=>j<=4/\(j=0\/16*2 ^ (j-1)<min m.size 256)) (λj=>4-j) 0 (λs=>s) (au (λs=>s) wT tr R) (⟨dT,.inl R⟩) ?_;intro j b;refine b' (x:=.v (.int .i64 ((min m.size 256:Nat):Int))) R R (am (λn:Nat=>b1.ok (.v (.int .i64 (n:Int)))) (Cw m))<|b' (x:=.v (.bool (decide ((16*2 ^ j)<(min m.size 256))))) R R (ak (bl _ _))<|cr 0 R<|zB R (λa=>?_) (λa=>?_)
 .refine b' (x:=.v (.int .i64 ((16*2 ^ (j+1):Nat):Int))) R R (by show b1.ok (.v (.int .i64 (IntKind.wrap .i64 (((16*2 ^ j:Nat):Int)*2))))=_;have c:=bU (n:=2) dT b.1;rw[dd oT oT];congr 3;rw[Nat.pow_succ];omega)<|cg 0 R<|⟨j+1,λs=>s,au (λs=>s) wT tr R,⟨oH (IQ b.1 (ax a)),.inr (sU (of_decide_eq_true a))⟩,oH (IQ b.1 (ax a))⟩
 refine zF (x:=.X 13 0 (16*2 ^ j) false) (h':=an _ 13 (some (.arr (List.replicate (16*2 ^ j) [AV.v (.int .u8 0)]) 1))) (rfl) (by have c:=bU (n:=2) dT b.1;refine⟨oT,oT,?_⟩;simp only[jH];omega)<|zF (x:=.v (.int .i64 ((min (aS (m.extract 0 (min m.size 256))).length (16*2 ^ j):Nat):Int))) (h':=an _ 13 (some (.arr (List.take 0 (List.replicate (16*2 ^ j) [AV.v (.int .u8 0)])++List.take (min (aS (m.extract 0 (min m.size 256))).length (16*2 ^ j)) (aS (m.extract 0 (min m.size 256)))++List.drop (0+min (aS (m.extract 0 (min m.size 256))).length (16*2 ^ j)) (List.replicate (16*2 ^ j) [AV.v (.int .u8 0)])) 1))) (rfl) (⟨by simp,tr⟩)<|SV ((m.extract 0 (min m.size 256)).data.toList++List.replicate (hY (min m.size 256)-min m.size 256) 0) R R R (by show 0+16*2 ^ j<=List.length (List.take 0 (List.replicate (16*2 ^ j) [AV.v (.int .u8 0)])++List.take (min (aS (m.extract 0 (min m.size 256))).length (16*2 ^ j)) (aS (m.extract 0 (min m.size 256)))++List.drop (0+min (aS (m.extract 0 (min m.size 256))).length (16*2 ^ j)) (List.replicate (16*2 ^ j) [AV.v (.int .u8 0)]));have q:=qV (m.extract 0 (min m.size 256));have d:=Cw m;have:=aF a;simp only[aU,aM,bD,cM,q,d];omega) (by have e:=Pb (m.extract 0 (min m.size 256)) (16*2 ^ j) (by have:=aF a;rw[Cw];omega);rw[Cw,NE b.1 (oH (aF a)) b.2]at e;rw[NE b.1 (oH (aF a)) b.2];exact e)<|cg 0 R ?_;exact qY R tr R R
def D4(p:AV)(m:ByteArray):bI C0 152 [p,.v (.string m)] (h_ ⟨0,λ_=>0,jB m,0⟩):=by
 refine bc func152 R ?_;refine g5 R (.inl R) (KF m)<|b' (x:=.agg (c6 0 (λ_=>0) (jB m) 0)) R R R<|cg 0 R ?_;exact qY R ga R R
def du{p:Prop}(h:p:=by exact BH (rs:=[]) rfl (σ:=λz=>z) ⟨rfl,rfl⟩ rfl (ah (λz=>z) rfl rfl wH rfl)):p:=h
abbrev bm(n:Int):List AV:=[.v (.int .i64 n)]
abbrev er(c:Cf)(a b:Bool):List AV:=[.v (.int .i64 c.mode),.v (.int .i64 c.o),.v (.int .i64 c.Z),.v (.int .i64 c.queue),.v (.int .i64 c.V),.v (.int .i64 c.m),.v (.int .i64 c.O),.v (.int .i64 c.ways),.Y 1 (c.q.map bm) a,.v (.bool c.tables),.Y 1 (c.tape.map dU) b]
structure Cf.ok(c:Cf):Prop where
 q:c.q.length<=9223372036854775807
 tape:c.tape.length<=9223372036854775807
 tp:∀x∈c.tape,x<=4294967295
mutual
theorem od(σ:Nat->Nat):∀(a:AV),eP a=true->uW σ a=a
 | .v _,_| .Y _ _ _,_| .k _ _ _,_=>by simp[uW]
 | .agg c,h=>by simp only[uW,nQ σ c (by simpa [eP]using h)]
 | .F c,h=>by simp only[uW,nQ σ c (by simpa [eP]using h)]
 | .a f a b,h=>by
  simp only[eP]at h;split at h
  .rename_i d;simp only[uW,nQ σ a d,nQ σ b h]
  .cases h
 | .ptr _ _,h| .x _ _ _,h| .X _ _ _ _,h| .ZY _ _,h| .any,h=>by cases h
theorem nQ(σ:Nat->Nat):∀(a:List AV),eW a=true->Bg σ a=a
 |[],_=>by simp[Bg]
 |c::a,h=>by
  simp only[eW]at h;split at h
  .rename_i b;simp only[Bg,od σ c b,nQ σ a h]
  .cases h
end
mutual
theorem IG(n:Nat):∀(a:AV),eP a=true->mR n a=true
 | .v _,_| .Y _ _ _,_| .k _ _ _,_=>by simp[mR]
 | .agg c,h=>by simp only[mR,kW n c (by simpa [eP]using h)]
 | .F c,h=>by simp only[mR,kW n c (by simpa [eP]using h)]
 | .a f a b,h=>by
  simp only[eP]at h;split at h
  .rename_i d;simp only[mR,kW n a d,kW n b h]
  .cases h
 | .ptr _ _,h| .x _ _ _,h| .X _ _ _ _,h| .ZY _ _,h| .any,h=>by cases h
theorem kW(n:Nat):∀(a:List AV),eW a=true->mS n a=true
 |[],_=>by simp[mS]
 |c::a,h=>by
  simp only[eW]at h;split at h
  .rename_i b;simp only[mS,IG n c b,kW n a h]
  .cases h
end
def pz(σ:Nat->Nat){a:List AV}(h:eW a=true):some (a'.box a)=some (DI σ (.box a)):=by simp only[DI,nQ σ a h]
def tE(n:Nat){a:List AV}(h:eW a=true):qM n (.box a)=true:=by simp only[qM,kW n a h]
def yh(cells:List AV)(a:Nat)(n lo b:Int)(f:Lg cells a=some (.v (.int .i64 n)))(e:a+1<=cells.length)(c:eW (zS a [.v (.int .i64 (bV n lo b))] cells)=true):
  pM C0.P C0.G 53 [.ptr 0 a,.v (.int .i64 lo),.v (.int .i64 b)] (aq [(0,.box cells)]) 1 (λx h'=>x=.F []/\h'=aq [(0,.box (zS a [.v (.int .i64 (bV n lo b))] cells))]):=by
 refine HCall.intro (C:=C0) (s:=1) gr.at func53 R R (by kernel_rfl) R R<|a7<|oR 3 R<|rW (.v (.int .i64 n)) R (by show et (Lg cells a)=_;rw[f];rfl)<|oR 1 R<|rV (.v (.int .i64 (if lo>n then lo else n))) R<|oR 1 R<|rV (.v (.int .i64 (if b<(if lo>n then lo else n)then b else(if lo>n then lo else n)))) R<|oR 1 R ?_;have d:Nat.ble (a+1) cells.length=true:=iL e;refine Ow (p:=True) (h':=an _ 0 (some (.box (zS a [.v (.int .i64 (bV n lo b))] cells)))) R R (by
  show(match Nat.ble (a+1) cells.length with|true=>b1.fx True .any (an _ 0 (some (.box (zS a [.v (.int .i64 (if b<(if lo>n then lo else n)then b else(if lo>n then lo else n)))] cells))))|false=>.bad)=_;rw[d];rfl) tr ?_
 refine rE 11 ?_;exact BH (rs:=[]) R (σ:=λs=>s) ⟨R,R⟩ R (ah (λs=>s) R R ⟨⟨R,pz _ c,tE _ c⟩,tr⟩ R)
def kp{cells cells':List AV}{b a:Nat}{n lo e:Int}{K:AH}{s2:Nat}(j:Lg cells a=some (.v (.int .i64 n)))(h:Nat.ble (a+1) cells.length=true)(i:zS a [.v (.int .i64 (bV n lo e))] cells=cells')(d:eW cells=true)(c:eW cells'=true)(g:Nat.blt b s2=true)(f:K b=some (.box cells)):
  pM C0.P C0.G 53 [.ptr b a,.v (.int .i64 lo),.v (.int .i64 e)] K s2 (λx h'=>x=.F []/\h'=an K b (some (.box cells'))):=by
 subst i;have:=(yh cells a n lo e j (aJ h) c).Y' b K s2 (aJ g) (tE 1 d) (by rw[f];exact pz _ d) R;rw[<-pz (Gg (λ_=>b) 1 s2) c]at this;exact this
def Xy(rows:List (List AV))(k:Nat)(n lo a:Int)(b:rows[k]?=some [.v (.int .i64 n)]):
  pM C0.P C0.G 53 [.x 0 k 0,.v (.int .i64 lo),.v (.int .i64 a)] (aq [(0,.arr rows 1)]) 1 (λx h'=>x=.F []/\h'=aq [(0,.arr (rows.set k [.v (.int .i64 (bV n lo a))]) 1)]):=by
 refine HCall.intro (C:=C0) (s:=1) gr.at func53 R R (by kernel_rfl) R R<|qS 0 R<|FO [.v (.int .i64 n)] (x:=.v (.int .i64 n)) R R R ⟨aG _,b⟩ R<|qR 0 R<|zW (.v (.int .i64 (if lo>n then lo else n))) R<|zW (.v (.int .i64 (if a<(if lo>n then lo else n)then a else(if lo>n then lo else n)))) R<|zY [.v (.int .i64 n)] (h':=an _ 0 (some (.arr (rows.set k [.v (.int .i64 (bV n lo a))]) 1))) R ⟨aG _,b⟩ ?_;exact BH (rs:=[]) R (σ:=λs=>s) ⟨R,R⟩ R (ah (λs=>s) R R wH R)
def Np{rows rows':List (List AV)}{b k:Nat}{n lo a:Int}{K:AH}{s2:Nat}(f:rows[k]?=some [.v (.int .i64 n)])(e:rows.set k [.v (.int .i64 (bV n lo a))]=rows')(d:Nat.blt b s2=true)(c:K b=some (.arr rows 1)):
  pM C0.P C0.G 53 [.x b k 0,.v (.int .i64 lo),.v (.int .i64 a)] K s2 (λx h'=>x=.F []/\h'=an K b (some (.arr rows' 1))):=by
 subst e;exact(Xy rows k n lo a f).Y' b K s2 (aJ d) R c R
def Bo(a b:Nat):b1.ok (.v (.int .i64 (if(b:Int)<(a:Int)then(b:Int)else(a:Int))))=.ok (.v (.int .i64 ((min a b:Nat):Int))):=by congr 3;split<;>omega
def Cr{a:Type}(f:a->List AV)(l:List a)(z:List AV)(n:Nat)(b:n=min l.length 64):(List.replicate n z).take 0++(l.map f).take (min (l.map f).length n)++(List.replicate n z).drop (0+min (l.map f).length n)=(l.take 64).map f:=by
 subst b;rw[aH,pV,iA,cB (by rw[cM];omega),dY, <-eO];congr 1;rcases Nat.le_total l.length 64 with h|h
 .rw[aN ad,aN ad]
 congr 1;omega
def cD{a:Type}(f:a->List AV)(l:List a):b1.ok (.v (.int .i64 ((l.map f).length:Int)))=.ok (.v (.int .i64 ((l.length:Nat):Int))):=by rw[aH]
def DO(c:Cf)(k:Nat):List (List AV):=((((c.q.take 64).take k).map λn=>bV n 1 8)++(c.q.take 64).drop k).map bm
def Nq(c:Cf)(k:Nat)(h:(c.q.take 64).length<=k):DO c k=(bZ c).q.map bm:=by
 unfold DO bZ;rw[aN h,cB h,dY]
def Nr{c:Cf}{k:Nat}{x:Int}(a:(c.q.take 64)[k]?=some x):(DO c k)[k]?=some (bm x):=by
 have b:=(Em.1 a).1;unfold DO;rw[aX,bM (by simp;omega)];simp only[aH,aM];rw[cL,show k+(k-min k (min 64 c.q.length))=k by have:k<(c.q.take 64).length:=b;rw[aM]at this;omega,a];rfl
def Ns{c:Cf}{k:Nat}{x:Int}(a:(c.q.take 64)[k]?=some x):(DO c k).set k [.v (.int .i64 (bV x 1 8))]=DO c (k+1):=by
 unfold DO;generalize c.q.take 64=l at a⊢;have b:=(Em.1 a).1;have d:((l.take k).map λn=>bV n 1 8).length=k:=by rw[aH,aM];omega
 have e:l[k]=x:=by rw[aA b]at a;exact fj a
 rw[show([.v (.int .i64 (bV x 1 8))]:List AV)=bm (bV x 1 8)from R, <-List.map_set,iN _ _ ad,d,eK,bF b,gM,bW,a];simp
def Nt(c:Cf)(k:Nat)(h:k<=(c.q.take 64).length):(DO c k).length=(c.q.take 64).length:=by
 unfold DO;simp only[aH,aU,bD];rw[List.length_take_of_le h];omega
def II{p:Prop}{x:AV}{h:AH}{b rs:Nat}{r a:List (List AV)}(e:r=a):b1.fx p x (an h b (some (.arr r rs)))=.fx p x (an h b (some (.arr a rs))):=by rw[e]
def Eb(c:Cf)(a b:Bool)(u:c.ok):bI C0 23 [.agg (er c a b)] (.agg (er (bZ c) false false)):=by
 refine bc func23 R<|zH R (kp (cells:=[vI c.mode,vI c.o,vI c.Z,vI c.queue,vI c.V,vI c.m,vI c.O,vI c.ways,.Y 1 (c.q.map bm) a,vB c.tables,.Y 1 (c.tape.map dU) b]) (cells':=[vI (bV c.mode 0 2),vI c.o,vI c.Z,vI c.queue,vI c.V,vI c.m,vI c.O,vI c.ways,.Y 1 (c.q.map bm) a,vB c.tables,.Y 1 (c.tape.map dU) b]) R R R R R R R) ?_;rintro _ _ ⟨rfl,rfl⟩;refine zH R (kp (cells:=[vI (bV c.mode 0 2),vI c.o,vI c.Z,vI c.queue,vI c.V,vI c.m,vI c.O,vI c.ways,.Y 1 (c.q.map bm) a,vB c.tables,.Y 1 (c.tape.map dU) b]) (cells':=[vI (bV c.mode 0 2),vI (bV c.o 1 2),vI c.Z,vI c.queue,vI c.V,vI c.m,vI c.O,vI c.ways,.Y 1 (c.q.map bm) a,vB c.tables,.Y 1 (c.tape.map dU) b]) R R R R R R R) ?_;rintro _ _ ⟨rfl,rfl⟩;refine zH R (kp (cells:=[vI (bV c.mode 0 2),vI (bV c.o 1 2),vI c.Z,vI c.queue,vI c.V,vI c.m,vI c.O,vI c.ways,.Y 1 (c.q.map bm) a,vB c.tables,.Y 1 (c.tape.map dU) b]) (cells':=[vI (bV c.mode 0 2),vI (bV c.o 1 2),vI (bV c.Z 2 8),vI c.queue,vI c.V,vI c.m,vI c.O,vI c.ways,.Y 1 (c.q.map bm) a,vB c.tables,.Y 1 (c.tape.map dU) b]) R R R R R R R) ?_;rintro _ _ ⟨rfl,rfl⟩;refine zH R (kp (cells:=[vI (bV c.mode 0 2),vI (bV c.o 1 2),vI (bV c.Z 2 8),vI c.queue,vI c.V,vI c.m,vI c.O,vI c.ways,.Y 1 (c.q.map bm) a,vB c.tables,.Y 1 (c.tape.map dU) b]) (cells':=[vI (bV c.mode 0 2),vI (bV c.o 1 2),vI (bV c.Z 2 8),vI (bV c.queue 1 4),vI c.V,vI c.m,vI c.O,vI c.ways,.Y 1 (c.q.map bm) a,vB c.tables,.Y 1 (c.tape.map dU) b]) R R R R R R R) ?_;rintro _ _ ⟨rfl,rfl⟩;refine zH R (kp (cells:=[vI (bV c.mode 0 2),vI (bV c.o 1 2),vI (bV c.Z 2 8),vI (bV c.queue 1 4),vI c.V,vI c.m,vI c.O,vI c.ways,.Y 1 (c.q.map bm) a,vB c.tables,.Y 1 (c.tape.map dU) b]) (cells':=[vI (bV c.mode 0 2),vI (bV c.o 1 2),vI (bV c.Z 2 8),vI (bV c.queue 1 4),vI (bV c.V 1 4),vI c.m,vI c.O,vI c.ways,.Y 1 (c.q.map bm) a,vB c.tables,.Y 1 (c.tape.map dU) b]) R R R R R R R) ?_;rintro _ _ ⟨rfl,rfl⟩;refine zH R (kp (cells:=[vI (bV c.mode 0 2),vI (bV c.o 1 2),vI (bV c.Z 2 8),vI (bV c.queue 1 4),vI (bV c.V 1 4),vI c.m,vI c.O,vI c.ways,.Y 1 (c.q.map bm) a,vB c.tables,.Y 1 (c.tape.map dU) b]) (cells':=[vI (bV c.mode 0 2),vI (bV c.o 1 2),vI (bV c.Z 2 8),vI (bV c.queue 1 4),vI (bV c.V 1 4),vI (bV c.m 2 6),vI c.O,vI c.ways,.Y 1 (c.q.map bm) a,vB c.tables,.Y 1 (c.tape.map dU) b]) R R R R R R R) ?_;rintro _ _ ⟨rfl,rfl⟩;refine zH R (kp (cells:=[vI (bV c.mode 0 2),vI (bV c.o 1 2),vI (bV c.Z 2 8),vI (bV c.queue 1 4),vI (bV c.V 1 4),vI (bV c.m 2 6),vI c.O,vI c.ways,.Y 1 (c.q.map bm) a,vB c.tables,.Y 1 (c.tape.map dU) b]) (cells':=[vI (bV c.mode 0 2),vI (bV c.o 1 2),vI (bV c.Z 2 8),vI (bV c.queue 1 4),vI (bV c.V 1 4),vI (bV c.m 2 6),vI (bV c.O 1 4),vI c.ways,.Y 1 (c.q.map bm) a,vB c.tables,.Y 1 (c.tape.map dU) b]) R R R R R R R) ?_;rintro _ _ ⟨rfl,rfl⟩;refine de ((bV c.O 1 4)==3) (λp=>?_) (λp=>?_)
 .refine zH R (kp (cells:=[vI (bV c.mode 0 2),vI (bV c.o 1 2),vI (bV c.Z 2 8),vI (bV c.queue 1 4),vI (bV c.V 1 4),vI (bV c.m 2 6),vI 2,vI c.ways,.Y 1 (c.q.map bm) a,vB c.tables,.Y 1 (c.tape.map dU) b]) (cells':=[vI (bV c.mode 0 2),vI (bV c.o 1 2),vI (bV c.Z 2 8),vI (bV c.queue 1 4),vI (bV c.V 1 4),vI (bV c.m 2 6),vI 2,vI (bV c.ways 1 2),.Y 1 (c.q.map bm) a,vB c.tables,.Y 1 (c.tape.map dU) b]) R R R R R R R) ?_;rintro _ _ ⟨rfl,rfl⟩;refine rW _ R (cD bm c.q)<|rW _ R (Bo c.q.length 64)<|zF (x:=.X 36 0 (min c.q.length 64) false) (h':=an _ 36 (some (.arr (List.replicate (min c.q.length 64) [vI 0]) 1))) (rfl) (⟨aG _,iF _,by show(((min c.q.length 64):Nat):Int)<=1000000;have:=(aL (eX c.q.length 64) (aC 64));omega⟩)<|zF (x:=vI ((min (c.q.map bm).length (min c.q.length 64):Nat):Int)) (h':=an _ 36 (some (.arr (DO c 0) 1))) (II (Cr bm c.q [.v (.int .i64 0)] _ R)) (⟨by simp,tr⟩)<|zV (vN (min c.q.length 64))<|dk (κ:=Nat) (λk=>⟨a6 [(1,.ptr 0 0),(2,.ptr 1 0),(3,.a 53 [] []),(4,.X 36 0 (min c.q.length 64) false),(45,vN (min c.q.length 64)),(46,vN k)],aq [(0,.box [vI (bV c.mode 0 2),vI (bV c.o 1 2),vI (bV c.Z 2 8),vI (bV c.queue 1 4),vI (bV c.V 1 4),vI (bV c.m 2 6),vI 2,vI (bV c.ways 1 2),.Y 1 (c.q.map bm) a,vB c.tables,.Y 1 (c.tape.map dU) b]),(1,.box [vI 0,vI 0,vI 0,vI 0,vI 0,vI 0,vI 0,vI 0,.Y 0 ([]) true,vB false,.Y 0 ([]) true]),(36,.arr (DO c k) 1)],45⟩) (λk=>k<=min c.q.length 64) (λk=>min c.q.length 64-k) 0 (λs=>s) (au (λs=>s) wT wH R) (aE _) ?_;intro k t;have h:k<=1000000:=oT;refine b0 (ak (bl _ _)) (λe=>?_) (λe=>?_)
  .skip
   have i:k<(c.q.take 64).length:=by have:=ax e;rw[aM];omega
   obtain⟨x,j⟩:∃x,(c.q.take 64)[k]?=some x:=⟨_,aA i⟩;have l:(DO c k)[0+k]?=some [.v (.int .i64 x)]:=by rw[bJ];exact Nr j
   refine nW (.x 36 (0+k) 0) R R (⟨aG _,by show(k:Int)<((min c.q.length 64:Nat):Int);have:=ax e;omega⟩)<|zH R (Np (rows:=DO c k) (rows':=DO c (k+1)) (k:=0+k) (n:=x) l ((bJ k).symm ▸ Ns j) R R) ?_;rintro _ _ ⟨rfl,rfl⟩;have q:k+1<=1000001:=aD h (aC 1);refine zW _ (ap (bH q R)) ?_;refine⟨k+1,λs=>s,au _ wT wH R,oH (ax e),by have:=ax e;show min c.q.length 64-(k+1)<min c.q.length 64-k;omega⟩
  refine rW _ R (cD dU c.tape)<|rW _ R (Bo c.tape.length 64)<|zF (x:=.X 50 0 (min c.tape.length 64) false) (h':=an _ 50 (some (.arr (List.replicate (min c.tape.length 64) [.v (.int .u32 0)]) 1))) (rfl) (⟨aG _,iF _,by show(((min c.tape.length 64):Nat):Int)<=1000000;have:=(aL (eX c.tape.length 64) (aC 64));omega⟩)<|zF (x:=vI ((min (c.tape.map dU).length (min c.tape.length 64):Nat):Int)) (h':=an _ 50 (some (.arr ((c.tape.take 64).map dU) 1))) (II (Cr dU c.tape [.v (.int .u32 0)] _ R)) (⟨by simp,tr⟩) ?_;have g:(c.q.take 64).length<=k:=by rw[aM];have:=aF e;omega
  have d:=Nt c k (by rw[aM];omega);have m:List.take (min c.q.length 64) (List.drop 0 (DO c k))=(bZ c).q.map bm:=by rw[bS,aN (by rw[d,aM];omega),Nq c k g]
  have n:List.take (min c.tape.length 64) (List.drop 0 ((c.tape.take 64).map dU))=(bZ c).tape.map dU:=by rw[bS,aN (by rw[aH,aM];omega)];rfl
  have o:(bZ c).O=2:=aa (sU p);refine dK R (r4 (r4 ⟨by show 0+min c.q.length 64<=(DO c k).length;rw[d,aM];omega,tr,by show 0+min c.tape.length 64<=((c.tape.take 64).map dU).length;rw[aH,aM];omega,tr⟩)) R ?_;show AV.agg [vI (bV c.mode 0 2),vI (bV c.o 1 2),vI (bV c.Z 2 8),vI (bV c.queue 1 4),vI (bV c.V 1 4),vI (bV c.m 2 6),vI 2,vI (bV c.ways 1 2),.Y 1 (List.take (min c.q.length 64) (List.drop 0 (DO c k))) false,vB c.tables,.Y 1 (List.take (min c.tape.length 64) (List.drop 0 ((c.tape.take 64).map dU))) false]=AV.agg (er (bZ c) false false);rw[m,n];show _=AV.agg [vI (bZ c).mode,vI (bZ c).o,vI (bZ c).Z,vI (bZ c).queue,vI (bZ c).V,vI (bZ c).m,vI (bZ c).O,vI (bZ c).ways,.Y 1 ((bZ c).q.map bm) false,vB (bZ c).tables,.Y 1 ((bZ c).tape.map dU) false];rw[o];rfl
 refine zH R (kp (cells:=[vI (bV c.mode 0 2),vI (bV c.o 1 2),vI (bV c.Z 2 8),vI (bV c.queue 1 4),vI (bV c.V 1 4),vI (bV c.m 2 6),vI (bV c.O 1 4),vI c.ways,.Y 1 (c.q.map bm) a,vB c.tables,.Y 1 (c.tape.map dU) b]) (cells':=[vI (bV c.mode 0 2),vI (bV c.o 1 2),vI (bV c.Z 2 8),vI (bV c.queue 1 4),vI (bV c.V 1 4),vI (bV c.m 2 6),vI (bV c.O 1 4),vI (bV c.ways 1 2),.Y 1 (c.q.map bm) a,vB c.tables,.Y 1 (c.tape.map dU) b]) R R R R R R R) ?_;rintro _ _ ⟨rfl,rfl⟩;refine rW _ R (cD bm c.q)<|rW _ R (Bo c.q.length 64)<|zF (x:=.X 34 0 (min c.q.length 64) false) (h':=an _ 34 (some (.arr (List.replicate (min c.q.length 64) [vI 0]) 1))) (rfl) (⟨aG _,iF _,by show(((min c.q.length 64):Nat):Int)<=1000000;have:=(aL (eX c.q.length 64) (aC 64));omega⟩)<|zF (x:=vI ((min (c.q.map bm).length (min c.q.length 64):Nat):Int)) (h':=an _ 34 (some (.arr (DO c 0) 1))) (II (Cr bm c.q [.v (.int .i64 0)] _ R)) (⟨by simp,tr⟩)<|zV (vN (min c.q.length 64))<|dk (κ:=Nat) (λk=>⟨a6 [(1,.ptr 0 0),(2,.ptr 1 0),(3,.a 53 [] []),(4,.X 34 0 (min c.q.length 64) false),(45,vN (min c.q.length 64)),(46,vN k)],aq [(0,.box [vI (bV c.mode 0 2),vI (bV c.o 1 2),vI (bV c.Z 2 8),vI (bV c.queue 1 4),vI (bV c.V 1 4),vI (bV c.m 2 6),vI (bV c.O 1 4),vI (bV c.ways 1 2),.Y 1 (c.q.map bm) a,vB c.tables,.Y 1 (c.tape.map dU) b]),(1,.box [vI 0,vI 0,vI 0,vI 0,vI 0,vI 0,vI 0,vI 0,.Y 0 ([]) true,vB false,.Y 0 ([]) true]),(34,.arr (DO c k) 1)],43⟩) (λk=>k<=min c.q.length 64) (λk=>min c.q.length 64-k) 0 (λs=>s) (au (λs=>s) wT wH R) (aE _) ?_;intro k t;have h:k<=1000000:=oT;refine b0 (ak (bl _ _)) (λf=>?_) (λf=>?_)
 .skip
  have i:k<(c.q.take 64).length:=by have:=ax f;rw[aM];omega
  obtain⟨x,j⟩:∃x,(c.q.take 64)[k]?=some x:=⟨_,aA i⟩;have l:(DO c k)[0+k]?=some [.v (.int .i64 x)]:=by rw[bJ];exact Nr j
  refine nW (.x 34 (0+k) 0) R R (⟨aG _,by show(k:Int)<((min c.q.length 64:Nat):Int);have:=ax f;omega⟩)<|zH R (Np (rows:=DO c k) (rows':=DO c (k+1)) (k:=0+k) (n:=x) l ((bJ k).symm ▸ Ns j) R R) ?_;rintro _ _ ⟨rfl,rfl⟩;have r:k+1<=1000001:=aD h (aC 1);refine zW _ (ap (bH r R)) ?_;refine⟨k+1,λs=>s,au _ wT wH R,oH (ax f),by have:=ax f;show min c.q.length 64-(k+1)<min c.q.length 64-k;omega⟩
 refine rW _ R (cD dU c.tape)<|rW _ R (Bo c.tape.length 64)<|zF (x:=.X 48 0 (min c.tape.length 64) false) (h':=an _ 48 (some (.arr (List.replicate (min c.tape.length 64) [.v (.int .u32 0)]) 1))) (rfl) (⟨aG _,iF _,by show(((min c.tape.length 64):Nat):Int)<=1000000;have:=(aL (eX c.tape.length 64) (aC 64));omega⟩)<|zF (x:=vI ((min (c.tape.map dU).length (min c.tape.length 64):Nat):Int)) (h':=an _ 48 (some (.arr ((c.tape.take 64).map dU) 1))) (II (Cr dU c.tape [.v (.int .u32 0)] _ R)) (⟨by simp,tr⟩) ?_;have g:(c.q.take 64).length<=k:=by rw[aM];have:=aF f;omega
 have d:=Nt c k (by rw[aM];omega);have m:List.take (min c.q.length 64) (List.drop 0 (DO c k))=(bZ c).q.map bm:=by rw[bS,aN (by rw[d,aM];omega),Nq c k g]
 have n:List.take (min c.tape.length 64) (List.drop 0 ((c.tape.take 64).map dU))=(bZ c).tape.map dU:=by rw[bS,aN (by rw[aH,aM];omega)];rfl
 have o:(bZ c).O=bV c.O 1 4:=dZ (sU p);refine dK R (r4 (r4 ⟨by show 0+min c.q.length 64<=(DO c k).length;rw[d,aM];omega,tr,by show 0+min c.tape.length 64<=((c.tape.take 64).map dU).length;rw[aH,aM];omega,tr⟩)) R ?_;show AV.agg [vI (bV c.mode 0 2),vI (bV c.o 1 2),vI (bV c.Z 2 8),vI (bV c.queue 1 4),vI (bV c.V 1 4),vI (bV c.m 2 6),vI (bV c.O 1 4),vI (bV c.ways 1 2),.Y 1 (List.take (min c.q.length 64) (List.drop 0 (DO c k))) false,vB c.tables,.Y 1 (List.take (min c.tape.length 64) (List.drop 0 ((c.tape.take 64).map dU))) false]=AV.agg (er (bZ c) false false);rw[m,n];show _=AV.agg [vI (bZ c).mode,vI (bZ c).o,vI (bZ c).Z,vI (bZ c).queue,vI (bZ c).V,vI (bZ c).m,vI (bZ c).O,vI (bZ c).ways,.Y 1 ((bZ c).q.map bm) false,vB (bZ c).tables,.Y 1 ((bZ c).tape.map dU) false];rw[o];rfl
abbrev a0(x:Wy):List AV:=[.v (.int .u32 (x.S:Int)),.v (.bool x.f),.v (.string x.data)]
abbrev Up(s:List Wy):AV:=.Y 3 (s.map a0) false
abbrev bX(s:List Wy):List AV:=[Up s]
abbrev fy(c:Ca)(k:Bool):List AV:=[.v (.int .i64 c.ways),.Y 1 (c.O.map bX) k]
abbrev bv(x:bp):List AV:=[.v (.int .i64 x.kind),.v (.int .u32 (x.S:Int)),.v (.int .i64 x.left),.v (.string x.data)]
def DN(o:Option Nat):AV:=.F [vN (o.getD 0),vB o.isSome]
structure Wy.ok(x:Wy):Prop where
 S:x.S<=4294967295
structure Ca.ok(c:Ca):Prop where
 O:c.O.length<=9223372036854775807
 set:∀s∈c.O,s.length<=9223372036854775807/\∀x∈s,x.ok
def dV{a:Nat}(h:a<=4294967295):ao a<=4294967295:=by unfold ao;omega
def py{a b:Nat}(h:a=b):AV.v (.int .u32 (a:Int))=.v (.int .u32 (b:Int)):=by rw[h]
def nT{a b:Nat}(h:a=b):AV.v (.int .i64 (a:Int))=.v (.int .i64 (b:Int)):=by rw[h]
def iH{a:Type}{f:a->List AV}{l:List a}{k:Nat}{x:a}(h:l[k]?=some x):(l.map f)[k]?=some (f x):=by rw[aX,h];rfl
def tN(a:Nat)(c:a<=4294967295):bI C0 121 [vU a] (vU (ao a)):=by
 refine bc func121 R ?_;have b:a%16<=15:=aI (aQ _ dT);refine nW (vU (a%16)) R R dT ?_;refine zW _ (ap (Gn b R)) ?_;exact fT R (py (by unfold ao;omega))
def VO(c:Ca)(agY:Nat)(e:Bool)(g:0<c.O.length)(f:c.O.length<=1000000)(a:agY<=4294967295):bI C0 186 [.agg (fy c e),vU agY] (vN (hj c agY)):=by
 refine bc func186 R ?_;have b:agY/16<=268435455:=eG a;refine zM _ (ij (nJ b R)) dT<|rW _ R (cD bX c.O)<|rW _ R (ap (nJ f R)) ?_;have d:(agY/16)%c.O.length<=268435455:=aL (gR _ _) b;refine nW (vU ((agY/16)%c.O.length)) R R ad<|zW _ (ap (bH d R)) ?_;exact fT R R
def OQ{s:List Wy}{agY k:Nat}{x:Wy}(d:s[k]?=some x)(c: ¬x.S=agY)(h:jY s agY=(jY (s.drop k) agY).map (· +k)):jY s agY=(jY (s.drop (k+1)) agY).map (· +(k+1)):=by
 obtain⟨b,a⟩:=Em.1 d;rw[h,bF b,a];simp only[jY,dZ c,Option.map_map];congr 1;funext i;show i+1+k=i+(k+1);omega
def OR{s:List Wy}{agY k:Nat}{x:Wy}(d:s[k]?=some x)(c:x.S=agY)(h:jY s agY=(jY (s.drop k) agY).map (· +k)):jY s agY=some k:=by
 obtain⟨b,a⟩:=Em.1 d;rw[h,bF b,a];simp[jY,c]
def Rk{s:List Wy}{agY k:Nat}(a:s.length<=k)(h:jY s agY=(jY (s.drop k) agY).map (· +k)):jY s agY=none:=by
 rw[h,cB a];rfl
def VP(s:List Wy)(agY:Nat)(e:Bool)(j:s.length<=1000000)(i:∀x∈s,x.ok)(g:agY<=4294967295):bI C0 187 [.Y 3 (s.map a0) e,vU agY] (DN (jY s agY)):=by
 refine bc func187 R<|zW _ (cD a0 s)<|dk (κ:=Nat) (λk=>⟨a6 [(1,vU agY),(8,.Y 3 (s.map a0) e),(9,vN s.length),(10,vN k)],aq [],5⟩) (λk=>k<=s.length/\jY s agY=(jY (s.drop k) agY).map (· +k)) (λk=>s.length-k) 0 (λs=>s) (au (λs=>s) wT tr R) (⟨aE _,by simp⟩) ?_;intro k b;have f:k<=1000000:=oH b.1;refine b0 (ak (bl _ _)) (λa=>?_) (λa=>?_)
 .skip
  obtain⟨x,d⟩:∃x,s[k]?=some x:=⟨_,aA (ax a)⟩;refine zX (a0 x) (.k 3 0 (a0 x)) R (iH d)<|b0 (ak (ba _ _)) (λc=>?_) (λc=>?_)
  .exact fT R (by rw[OR d (sU c) b.2];rfl)
  skip
  have h:k+1<=1000001:=aD f (aC 1);refine zW _ (ap (bH h R)) ?_;refine⟨k+1,λs=>s,au _ wT tr R,⟨ax a,OQ d (sU c) b.2⟩,oH (ax a)⟩
 exact fT R (by rw[Rk (oH (aF a)) b.2];rfl)
def FZ(c:Ca)(k:Nat)(s:List Wy)(i:Nat)(x:Wy):Prop:=ao x.S=x.S/\hj c x.S=k/\(x.data.size=0\/x.data.size=16)/\jY (s.take i) x.S=none
def jX(c:Ca)(k:Nat)(s:List Wy):xB c k s=true↔(s.length:Int)<=c.ways/\∀i x,s[i]?=some x->FZ c k s i x:=by
 unfold xB FZ;simp only[aP,aY,rC,lI];refine and_congr_right λ_=>⟨λh i x b=>?_,λh i a=>?_⟩
 .have:=h i (Em.1 b).1;rw[b]at this;simp only[aP,dE,aY,iO]at this;exact⟨this.1.1.1,this.1.1.2,this.1.2,this.2⟩
 rw[aA a];have:=h i _ (aA a);simp only[aP,dE,aY,iO];exact⟨⟨⟨this.1,this.2.1⟩,this.2.2.1⟩,this.2.2.2⟩
def jL(c:Ca):gG c=true↔((c.O.length=1\/c.O.length=2\/c.O.length=4)/\(c.ways=1\/c.ways=2))/\∀k s,c.O[k]?=some s->xB c k s=true:=by
 unfold gG;simp only[aP,dE,aY,rC,lI];refine and_congr ?_ ⟨λh k s b=>?_,λh k a=>?_⟩
 .rw[or_assoc]
 .have:=h k (Em.1 b).1
  rwa [b]at this
 rw[aA a];exact h k _ (aA a)
def yF{c:Ca}(h: ¬gG c=true):gG c=false:=sU h
def AU{n:Nat}{w:Int}(h:cE (cE (cE (n != 1) (n != 2) false) (n != 4) false) true (cE (w != 1) (w != 2) false)=false):(n=1\/n=2\/n=4)/\(w=1\/w=2):=by
 simp only[c2]at h;constructor
 .by_cases a:n=1<;>by_cases b:n=2<;>by_cases c:n=4<;>simp_all
 by_cases a:w=1
 .exact .inl a
 by_cases b:w=2
 .exact .inr b
 simp[a,b]at h;omega
def Kw{n:Nat}{w:Int}(h:cE (cE (cE (n != 1) (n != 2) false) (n != 4) false) true (cE (w != 1) (w != 2) false)=true): ¬((n=1\/n=2\/n=4)/\(w=1\/w=2)):=by
 rintro⟨rfl|rfl|rfl,rfl|rfl⟩<;>simp[cE]at h
def Xt{c:Ca}{k j:Nat}{s:List Wy}{x:Wy}(a:cE ((ao x.S) != x.S) true ((hj c x.S) != k)=false)(b:cE ((x.data.size:Int) != 0) ((x.data.size:Int) != 16) false=false)(d:(jY (s.take j) x.S).isSome=false):FZ c k s j x:=by
 simp only[c2]at a b;refine⟨?_,?_,?_,sU d⟩
 .by_cases h:ao x.S=x.S<;>simp_all
 .by_cases h:hj c x.S=k<;>simp_all
 by_cases h:x.data.size=0
 .exact .inl h
 right;simp_all;omega
def Uq{c:Ca}{k j:Nat}{s:List Wy}{x:Wy}(h:cE ((ao x.S) != x.S) true ((hj c x.S) != k)=true): ¬FZ c k s j x:=λq=>by
 rw[q.1,q.2.1]at h;simp[cE]at h
def Ur{c:Ca}{k j:Nat}{s:List Wy}{x:Wy}(h:cE ((x.data.size:Int) != 0) ((x.data.size:Int) != 16) false=true): ¬FZ c k s j x:=λq=>by
 rcases q.2.2.1 with e|e<;>rw[e]at h<;>simp[cE]at h
def Us{c:Ca}{k j:Nat}{s:List Wy}{x:Wy}(h:(jY (s.take j) x.S).isSome=true): ¬FZ c k s j x:=λq=>by
 rw[q.2.2.2]at h;cases h
def OS{c:Ca}{k:Nat}{s:List Wy}(d:c.O[k]?=some s)(h:xB c k s=true)(b:∀i s,i<k->c.O[i]?=some s->xB c i s=true):∀i s,i<k+1->c.O[i]?=some s->xB c i s=true:=λi f g a=>by
 by_cases e:i=k
 .subst e;rw[d]at a;injection a with e;exact e ▸ h
 exact b i f ad a
def Ut{c:Ca}{k j:Nat}{s:List Wy}{x:Wy}(d:s[j]?=some x)(h:FZ c k s j x)(b:∀i x,i<j->s[i]?=some x->FZ c k s i x):∀i x,i<j+1->s[i]?=some x->FZ c k s i x:=λi f g a=>by
 by_cases e:i=j
 .subst e;rw[d]at a;injection a with e;exact e ▸ h
 exact b i f ad a
def AW(c:Ca)(b:Bool)(C:c.ok):bI C0 154 [.agg (fy c b)] (vB (gG c)):=by
 refine bc func154 R<|zW _ (cD bX c.O)<|zW _ (ak (db _ _))<|aw R id (ak (db _ _))<|zN R (λh=>h)<|aw R id (ak (db _ _))<|zN R (λh=>h)<|gS R id<|aw R id R<|zG R id<|gS R id<|aw R id R<|pB (x:=vB (cE (c.ways != 1) (c.ways != 2) false)) (g:= !(cE (cE (c.O.length != 1) (c.O.length != 2) false) (c.O.length != 4) false)) R R R R (λh=>h) R R (λz F=>by first|(rw[z,F];rfl)|simp_all)<|zN rfl (by simp)<|zB rfl (λd=>?_) (λd=>?_)
 .exact i6 (x:=false) R (yF (c:=c) (λq=>Kw d ((jL c).1 q).1)).symm
 refine zW _ (cD bX c.O)<|dk (κ:=Nat) (λk=>⟨a6 [(1,.ptr 0 0),(3,vN c.O.length),(34,.Y 1 (c.O.map bX) b),(35,vN c.O.length),(36,vN k)],aq [(0,.box [vI c.ways,.Y 1 (c.O.map bX) b])],30⟩) (λk=>k<=c.O.length/\∀i s,i<k->c.O[i]?=some s->xB c i s=true) (λk=>c.O.length-k) 0 (λs=>s) (au (λs=>s) wT wH R) (⟨aE _,λi s h=>absurd h (dG i)⟩) ?_;intro k v;have B:k<=1000000:=by have:=v.1;have:=(AU d).1;omega
 refine b0 (ak (bl _ _)) (λe=>?_) (λe=>?_)
 .skip
  obtain⟨s,a⟩:∃s,c.O[k]?=some s:=⟨_,aA (ax e)⟩;have o:=C.set s (aB a);refine zX (bX s) (.k 1 0 (bX s)) R (iH a)<|zW _ (cD a0 s)<|de (decide (((s.length:Nat):Int)>c.ways)) (λm=>?_) (λm=>?_)
  .exact i6 (x:=false) R (yF (c:=c) (λq=>absurd ((jX c k s).1 (((jL c).1 q).2 k s a)).1 (oH (ax m)))).symm
  refine zW _ (cD a0 s)<|dk (κ:=Nat) (λj=>⟨a6 [(1,.ptr 0 0),(3,vN c.O.length),(34,.Y 1 (c.O.map bX) b),(35,vN c.O.length),(36,vN k),(4,vN k),(5,.Y 3 (s.map a0) false),(46,.Y 3 (s.map a0) false),(47,vN s.length),(48,vN j)],aq [(0,.box [vI c.ways,.Y 1 (c.O.map bX) b])],44⟩) (λj=>j<=s.length/\∀i x,i<j->s[i]?=some x->FZ c k s i x) (λj=>s.length-j) 0 (λs=>s) (au (λs=>s) wT wH R) (⟨aE _,λi s h=>absurd h (dG i)⟩) ?_;intro j u;have A:j<=1000000:=by have:=u.1;have:=(AU d).2;have:=aF m;omega
  refine b0 (ak (bl _ _)) (λf=>?_) (λf=>?_)
  .skip
   obtain⟨x,g⟩:∃x,s[j]?=some x:=⟨_,aA (ax f)⟩;have l:=o.2 x (aB g);refine zX (a0 x) (.k 3 0 (a0 x)) R (iH g)<|zR<|zC (tN x.S l.S)<|zW _ (ak (db _ _))<|zG R id<|zQ (x:=vN (hj c x.S)) (g:= !((ao x.S) != x.S)) R b9 R (.inl R) (λz=>VO c x.S b (oH (ax e)) (oH ((AU d).1)) l.S)<|gn (x:=vB ((hj c x.S) != k)) R b9 (ak (db _ _))<|zN R (by simp)<|zB R (λp=>?_) (λp=>?_)
   .exact i6 (x:=false) R (yF (c:=c) (λq=>Uq p (((jX c k s).1 (((jL c).1 q).2 k s a)).2 j x g))).symm
   refine rV (vI (x.data.size:Int)) R<|zV (vB ((x.data.size:Int) != 0))<|gS R id<|aw R id R<|aw R id R<|zN R (λh=>h)<|zB R (λr=>?_) (λr=>?_)
   .exact i6 (x:=false) R (yF (c:=c) (λq=>Ur r (((jX c k s).1 (((jL c).1 q).2 k s a)).2 j x g))).symm
   refine zR<|zM (.Y 3 (List.drop 0 (List.take j (s.map a0))) false) R (⟨iF _,aG _,by show(j:Int)<=(((s.map a0).length:Nat):Int);rw[aH];have:=ax f;omega⟩)<|zC (x:=.F [vN ((jY (s.take j) x.S).getD 0),vB ((jY (s.take j) x.S).isSome)]) (by show bI C0 _ [.Y 3 (List.drop 0 (List.take j (s.map a0))) false,_] _;rw[bS, <-eO];exact VP (s.take j) x.S false (by rw[aM];omega) (λy n=>o.2 y (cQ n)) l.S)<|zB R (λt=>?_) (λt=>?_)
   .exact i6 (x:=false) R (yF (c:=c) (λq=>Us t (((jX c k s).1 (((jL c).1 q).2 k s a)).2 j x g))).symm
   skip
   have D:j+1<=1000001:=aD A (aC 1);refine zW _ (ap (bH D R)) ?_;refine⟨j+1,λs=>s,au _ wT wH R,⟨ax f,Ut g (Xt p r t) u.2⟩,oH (ax f)⟩
  have E:k+1<=1000001:=aD B (aC 1);refine zW _ (ap (bH E R)) ?_;refine⟨k+1,λs=>s,au _ wT wH R,⟨ax e,OS a ((jX c k s).2 ⟨oH (aF m),λi y n=>u.2 i y (by have:=(Em.1 n).1;have:=aF f;omega) n⟩) v.2⟩,oH (ax e)⟩
 exact i6 (x:=true) R ((jL c).2 ⟨AU d,λi s a=>v.2 i s (by have:=(Em.1 a).1;have:=aF e;omega) a⟩).symm
def DZ(x:Wy):Wy:={x with data:=oZ}
def SW:AV:=.Y 0 [] true
def Ea(c:Ca)(k:Nat):List AV:=((c.O.take k).map λs=>Up (s.map DZ))++List.replicate (c.O.length-k) SW
def AX{c:Ca}{k:Nat}(h:k<=c.O.length):(Ea c k).length=c.O.length:=by unfold Ea;simp;omega
def Rl(c:Ca):Ea c 0=List.replicate c.O.length SW:=by unfold Ea;simp
def Uu{c:Ca}{k:Nat}(h:k<c.O.length):(Ea c k)[k]?=some SW:=by
 unfold Ea;rw[bM (by simp;omega),aH,List.length_take_of_le ad,eK,jG,aa ad]
def Kx{c:Ca}{k:Nat}{s:List Wy}(a:c.O[k]?=some s):(Ea c k).set k (Up (s.map DZ))=Ea c (k+1):=by
 obtain⟨d,b⟩:=Em.1 a;unfold Ea;rw[iN _ _ (by simp;omega),aH,List.length_take_of_le ad,eK,(oT:c.O.length-k=(c.O.length-(k+1))+1),List.replicate_succ,gM,bW,a];simp
def Uv{c:Ca}(h:gG c=true):(Ea c c.O.length).map (λx=>[x])=(kY c).map bX:=by
 unfold Ea kY;rw[aa h,eK,cH];simp only[List.replicate_zero,dY,List.map_map];rfl
def IF{cells:List AV}{k:Nat}{x:AV}(h:cells[k]?=some x):0<=((0+k:Nat):Int)/\(cells.map λx=>[x])[((0+k:Nat):Int).toNat]?=some [x]:=
 ⟨aG _,by show(cells.map _)[0+k]?=_;rw[bJ,aX,h];rfl⟩
def yg(fz:Fz)(n:Nat)(x:AV):eg fz (.arr (List.replicate n [x]) 1) (.row (List.replicate n x)):=by
 have:=eg.YN (fz:=fz) (List.replicate n x)
 rwa [fH]at this
def Rm(fz:Fz){cells:List AV}{k:Nat}{x y:AV}(f:k<cells.length)(h:e4 fz x y):eg fz (.row (cells.set k x)) (.row (cells.set k y)):=by
 refine .row _ _ (by simp) λi a d c b=>?_;by_cases e:i=k
 .subst e;rw[aZ f]at c b;injection c with c;injection b with b;subst c;subst b;exact h
 rw[kX (Ne.symm e)]at c b;rw[c]at b;injection b with b;subst b;exact .refl _
theorem Nl(σ:Nat->Nat):∀(l:List AV) (k:Nat) (x:AV),Bg σ (l.set k x)=(Bg σ l).set k (uW σ x)
 |[],_,_=>by simp[Bg]
 |y::l,0,x=>by simp[Bg]
 |y::l,k+1,x=>by simp[Bg,Nl σ l k x]
theorem GX(n:Nat):∀(l:List AV) (k:Nat) (x:AV),mS n l=true->mR n x=true->mS n (l.set k x)=true
 |[],_,_,h,_=>by simpa using h
 |y::l,0,x,h,a=>by
  simp only[mS]at h;split at h
  .simp only[gM,mS,a];exact h
  .cases h
 |y::l,k+1,x,h,a=>by
  simp only[mS]at h;split at h
  .rename_i b;simp only[List.set_cons_succ,mS,b];exact GX n l k x h a
  .cases h
theorem Fj:∀{l:List AV},(∀x∈l,eP x=true)->eW l=true
 |[],_=>rfl
 |x::l,h=>by simp only[eW,h x (ce)];exact Fj λy a=>h y (bY _ a)
def iT(c:Ca)(k:Nat):eW (Ea c k)=true:=Fj λx a=>by
 unfold Ea at a;rcases dz.1 a with h|h
 .obtain⟨s,_,rfl⟩:=pG.1 h;rfl
 rw[gK h];rfl
def n_{σ:Nat->Nat}{cells r:List AV}(a:eW cells=true)(h:r=cells):some (a'.row r)=some (DI σ (.row cells)):=by simp only[DI,nQ σ cells a,h]
def OT{n:Nat}{cells:List AV}(a:eW cells=true):qM n (.row cells)=true:=by simp only[qM,kW n cells a]
def Xu{σ:Nat->Nat}{cells r:List AV}{k:Nat}{x:AV}(a:eW cells=true)(h:r=cells.set k (uW σ x)):some (a'.row r)=some (DI σ (.row (cells.set k x))):=by simp only[DI,Nl,nQ σ cells a,h]
def Xv{n k:Nat}{cells:List AV}{x:AV}(a:eW cells=true)(b:mR n x=true):qM n (.row (cells.set k x))=true:=by
 simp only[qM];exact GX n cells k x (kW n cells a) b
def Uw{a:Type}{l:List a}{k:Nat}{x:a}(h:l[k]?=some x):l.set k x=l:=by
 apply dD;intro i;rw[mV];split
 .rename_i e;subst e;rw[h];simp[(Em.1 h).1]
 rfl
def Ky{a:Type}(l:List a)(k:Nat)(x y:a):(l.set k x).set (0+k) y=l.set k y:=by rw[bJ,lO]
def Rn{s:List Wy}{j:Nat}(h:j+1<s.length):(List.take (j+1) (List.drop 0 (((s.take (j+1)).map DZ).map a0))).length=j+1:=by simp;omega
def Nm{p:Prop}{H:AH}{s rs m:Nat}{a c r:List (List AV)}(b:a.length=m)(d:a++c=r):b1.fx p (.X s 0 (a.length+c.length) false) (an H s (some (.arr (a++c) rs)))=.fx p (.X s 0 (m+c.length) false) (an H s (some (.arr r rs))):=by rw[b,d]
def oM(rs:Nat)(c:Bool):Sub (.Y 0 [] true) (.Y rs [] c):=λS w v h=>by
 cases h with
 |Y _ _ _ A e b o u g k d l m p f n=>exact .Y rs [] c A e b o u g k (λ_=>d R) (λ_ h=>by cases h) (λh=>absurd h (iI 0)) (λi row j a h=>by simp at h) f λi row j a h=>by simp at h
def Ux(s:List Wy){x:Wy}(a:s[0]?=some x):[a0 (DZ x)]=((s.take 1).map DZ).map a0:=by
 cases s with
 |nil=>cases a
 |cons y l=>injection a with a;subst a;rfl
def Xw(s:List Wy){x:Wy}{j:Nat}(a:s[j]?=some x):List.take j (List.drop 0 (((s.take j).map DZ).map a0))++[a0 (DZ x)]=((s.take (j+1)).map DZ).map a0:=by
 obtain⟨c,b⟩:=Em.1 a;rw[bS,aN (by simp;omega),bW,a];simp
def Xx{s:List Wy}{j b:Nat}(a:j+1=s.length):e4 (some (b,3,((s.take (j+1)).map DZ).map a0)) (.X b 0 (j+1) false) (Up (s.map DZ)):=by
 have c:(((s.take (j+1)).map DZ).map a0).length=j+1:=by simp;omega
 have:=e4.Y2 (fz:=some (b,3,((s.take (j+1)).map DZ).map a0)) b 3 0 (j+1) (((s.take (j+1)).map DZ).map a0) false false R ad (λh=>h);rw[show List.take (j+1) (List.drop 0 (((s.take (j+1)).map DZ).map a0))=((s.take (j+1)).map DZ).map a0 from by rw[bS];exact aN ad]at this;have e:Up (s.map DZ)=.Y 3 (((s.take (j+1)).map DZ).map a0) false:=by rw[a,cH]
 rw[e];exact this
def Nn{c:Ca}(h:gG c=true):(kY c).length=c.O.length:=by unfold kY;rw[aa h,aH]
def Uy{fz:Fz}{c:Ca}{k:Nat}(h:decide (k<c.O.length)=false)(d:k<=c.O.length)(b:gG c=true):eg fz (.row (Ea c k)) (.arr ((kY c).map bX) 1):=by
 have:k=c.O.length:=oH (aF h);subst this;rw[<-Uv b];refine .YO _ λx a=>?_;unfold Ea at a;rw[eK,List.replicate_zero,dY]at a;obtain⟨s,_,rfl⟩:=pG.1 a;rfl
def sd(c:Ca)(b:Bool)(r:c.ok):bI C0 84 [.agg (fy c b)] (.Y 1 ((kY c).map bX) false):=by
 refine dI func84 ?_;refine bk<|dm 0 R R<|oR 1 R<|rE 2<|uR<|bk<|oR 1 R<|aW R (AW c b r)<|oR 1 R<|rE 5<|aV R (λe=>?_) (λe=>?_)
 .refine bk<|oR 1 R<|rE 6<|FQ ?_;exact⟨_,R,tr,R,by show Sub _ (.Y 1 ((kY c).map bX) false);rw[show kY c=[]from dZ (sU e)];exact oM 1 false⟩
 refine mF<|bk<|oR 2 R ?_;have n:gG c=true:=sU e;have l:=((jL c).1 n).1;have m:c.O.length<=1000000:=oH l.1;refine rW (vN c.O.length) R (cD bX c.O)<|eo (x:=.X 8 0 c.O.length false) (h':=an _ 8 (some (.arr (List.replicate c.O.length [.Y 0 ([]) true]) 1))) R R (rfl) (⟨aG _,iF _,by show((c.O.length:Nat):Int)<=1000000;have:=m;omega⟩)<|oR 1 R<|rE 10<|FP<|FP<|a7<|oR 2 R<|rW (vN c.O.length) R (cD bX c.O)<|oR 1 R<|rE 14<| .mk _ (.step none (ee (l:=[(3,.X 8 0 c.O.length false),(16,.Y 1 (c.O.map bX) b),(17,vN c.O.length),(18,vI 0)]) (hp:=[(8,.row (Ea c 0))]) tr ⟨.refl _,.refl _,.refl _,.refl _,tr⟩ ⟨⟨tr,_,R,(by rw[Rl];exact yg _ _ _)⟩,tr⟩) (.refl _))<|kO<|jR (κ:=Nat) (λk=>⟨a6 [(3,.X 8 0 c.O.length false),(16,.Y 1 (c.O.map bX) b),(17,vN c.O.length),(18,vN k)],aq [(8,.row (Ea c k))],14⟩) (λk=>k<=c.O.length) (λk=>c.O.length-k) 0 (λs=>s) (au (λs=>s) wT ⟨⟨R,(n_ (iT c 0) R),(OT (iT c 0))⟩,tr⟩ R) (aE _) ?_;intro k C;have q:k<=1000000:=oT;refine bk<|rW (vB (decide (k<c.O.length))) R (ak (bl _ _))<|rE 15<|uR<|aV R (λf=>?_) (λf=>?_)
 .refine mF<|Fq (κ:=Unit) (λv=>⟨a6 [(3,.X 8 0 c.O.length false),(16,.Y 1 (c.O.map bX) b),(17,vN c.O.length),(18,vN k)],aq [(8,.row (Ea c (k+1)))],61⟩) (λv=>True) ?_ ?_
  .refine kO<|bk<|oR 1 R ?_;obtain⟨s,i⟩:∃s,c.O[k]?=some s:=⟨_,aA (ax f)⟩;have u:s.length<=2:=by have:=((jX c k s).1 (((jL c).1 n).2 k s i)).1;have:=l.2;omega
   have a:k<c.O.length:=ax f;refine ja (bX s) (.k 1 0 (bX s)) R R (iH i) R<|oR 3 R<|rE 20<|bk<|oR 1 R<|rW (vN s.length) R (cD a0 s)<|oR 1 R<|rE 23<|kO<|jR (κ:=Nat) (λj=>match j with|0=>⟨a6 [(3,.X 8 0 c.O.length false),(16,.Y 1 (c.O.map bX) b),(17,vN c.O.length),(18,vN k),(4,vN k),(23,.Y 3 (s.map a0) false),(24,vN s.length),(25,vN 0)],aq [(8,.row ((Ea c k).set k (.Y 0 ([]) true)))],61⟩|j+1=>⟨a6 [(3,.X 8 0 c.O.length false),(16,.Y 1 (c.O.map bX) b),(17,vN c.O.length),(18,vN k),(4,vN k),(23,.Y 3 (s.map a0) false),(24,vN s.length),(25,vN (j+1))],aq [(8,.row ((Ea c k).set k (.X 60 0 (j+1) false))),(60,.arr (((s.take (j+1)).map DZ).map a0) 3)],61⟩) (λj=>j<=s.length) (λj=>s.length-j) 0 (λs=>s) (au (λs=>s) wT ⟨⟨R,(Xu (iT c k) (Uw (Uu a)).symm),(Xv (iT c k) R)⟩,tr⟩ R) (aE _) ?_;intro j D;rcases j with _|j
   .refine bk<|rW (vB (decide (0<s.length))) rfl (ak (bl _ _))<|rE 62<|uR<|aV rfl (λg=>?_) (λg=>?_)
    .refine mF<|uR<|kO<|bk ?_;obtain⟨x,h⟩:∃x,s[0]?=some x:=⟨_,aA (ax g)⟩;refine ja (a0 x) (.k 3 0 (a0 x)) R R (iH h) R<|oR 1 R<|dm 64 R R<|a1 R<|rE 66<|bk<|oR 1 R<|a1 R<|rE 68<|a7<|oR 4 R<|nW (.x 8 (0+k) 0) R R (⟨aG _,FF.2 (by show k<c.O.length;omega)⟩)<|FO ([.Y 0 ([]) true]) (x:=.Y 0 ([]) true) R R R (IF (aZ (by rw[AX (Nat.le_of_lt a)];exact a))) R<|oR 1 R<|rV (.Y 3 ([[vU x.S,vB x.f,.v (.string (⟨#[]⟩:ByteArray))]]) true) R<|eo (x:=.X 76 0 1 false) (h':=an _ 76 (some (.arr ([[vU x.S,vB x.f,.v (.string (⟨#[]⟩:ByteArray))]]) 3))) R R (rfl) (⟨R,by simp[jH],by simp[jH],tr⟩)<|nW (.x 8 (0+k) 0) R R (⟨aG _,FF.2 (by show k<c.O.length;omega)⟩)<|nM ([SW]) (h':=an _ 8 (some (.row (((Ea c k).set k SW).set (0+k) (.X 76 0 1 false))))) R R R (IF (aZ (by rw[AX (Nat.le_of_lt a)];exact a))) R<|rE 79<|a7 ?_;have y:0+1<=1:=aD (aC 0) (aC 1);refine rW (vN (0+1)) R (ap (bH y R))<|oR 1 R<|rE 81 ?_;refine⟨1,λs=>match s with|60=>76|s=>s,au _ wT ⟨⟨R,(Xu (iT c k) (Ky ..)),(Xv (iT c k) R)⟩,⟨R,(am (λz=>some (a'.arr z 3)) (Ux s h)),R⟩,tr⟩ R,ax g,by have:=ax g;show s.length-1<s.length-0;omega⟩
    refine Bh ?_;have t:s=[]:=gq (oH (aF g));subst t;refine .mk _ (.step none (ee (l:=[(3,.X 8 0 c.O.length false),(16,.Y 1 (c.O.map bX) b),(17,vN c.O.length),(18,vN k)]) (hp:=[(8,.row ((Ea c k).set k (Up (([]:List Wy).map DZ))))]) tr ⟨.refl _,.refl _,.refl _,.refl _,tr⟩ ⟨⟨tr,_,R,(Rm none (y:=Up (([]:List Wy).map DZ)) (by rw[AX (Nat.le_of_lt a)];exact a) (.nil 3 false))⟩,tr⟩) (.refl _)) ⟨(),λs=>s,au _ wT ⟨⟨R,(n_ (iT c (k+1)) (Kx i)),(OT (iT c (k+1)))⟩,tr⟩ R,R,tr⟩
   have o:j+1<=1000000:=oT;refine bk<|rW (vB (decide ((j+1)<s.length))) R (ak (bl _ _))<|rE 62<|uR<|aV R (λd=>?_) (λd=>?_)
   .refine mF<|uR<|kO<|bk ?_;obtain⟨x,h⟩:∃x,s[(j+1)]?=some x:=⟨_,aA (ax d)⟩;refine ja (a0 x) (.k 3 0 (a0 x)) R R (iH h) R<|oR 1 R<|dm 64 R R<|a1 R<|rE 66<|bk<|oR 1 R<|a1 R<|rE 68<|a7<|oR 4 R<|nW (.x 8 (0+k) 0) R R (⟨aG _,FF.2 (by show k<c.O.length;omega)⟩)<|FO ([.X 60 0 (j+1) false]) (x:=.X 60 0 (j+1) false) R R R (IF (aZ (by rw[AX (Nat.le_of_lt a)];exact a))) R<|oR 1 R<|rV (.Y 3 ([[vU x.S,vB x.f,.v (.string (⟨#[]⟩:ByteArray))]]) true) R<|eo (x:=.X 76 0 (j+1+1) false) (h':=an (an _ 60 none) 76 (some (.arr (((s.take (j+1+1)).map DZ).map a0) 3))) R R (Nm (Rn (ax d)) (Xw s h)) (⟨by rw[Rn (ax d)];have:=u;show j+1+1<=1000000;have:=ax d;omega,by rw[bJ];simp;have:=ax d;omega,tr⟩)<|nW (.x 8 (0+k) 0) R R (⟨aG _,FF.2 (by show k<c.O.length;omega)⟩)<|nM ([.X 60 0 (j+1) false]) (h':=an _ 8 (some (.row (((Ea c k).set k (.X 60 0 (j+1) false)).set (0+k) (.X 76 0 (j+1+1) false))))) R R R (IF (aZ (by rw[AX (Nat.le_of_lt a)];exact a))) R<|rE 79<|a7 ?_;have A:(j+1)+1<=1000001:=aD o (aC 1);refine rW (vN ((j+1)+1)) R (ap (bH A R))<|oR 1 R<|rE 81 ?_;refine⟨(j+1)+1,λs=>match s with|60=>76|s=>s,au _ wT ⟨⟨R,(Xu (iT c k) (Ky ..)),(Xv (iT c k) R)⟩,⟨R,R,R⟩,tr⟩ R,ax d,by have:=ax d;show s.length-((j+1)+1)<s.length-(j+1);omega⟩
   refine Bh ?_;have p:j+1=s.length:=oH (aF d);refine .mk _ (.step (some (60,3,((s.take (j+1)).map DZ).map a0)) (ee (l:=[(3,.X 8 0 c.O.length false),(16,.Y 1 (c.O.map bX) b),(17,vN c.O.length),(18,vN k)]) (hp:=[(8,.row ((Ea c k).set k (Up (s.map DZ))))]) R ⟨.refl _,.refl _,.refl _,.refl _,tr⟩ ⟨⟨R,_,R,(Rm _ (y:=Up (s.map DZ)) (by rw[AX (Nat.le_of_lt a)];exact a) (Xx p))⟩,tr⟩) (.refl _)) ⟨(),λs=>s,au _ wT ⟨⟨R,(n_ (iT c (k+1)) (Kx i)),(OT (iT c (k+1)))⟩,tr⟩ R,R,tr⟩
  intro v _;refine a7 ?_;have B:k+1<=1000001:=aD q (aC 1);refine rW (vN (k+1)) R (ap (bH B R))<|oR 1 R<|rE 63 ?_;refine⟨k+1,λs=>s,au _ wT ⟨⟨R,(n_ (iT c (k+1)) R),(OT (iT c (k+1)))⟩,tr⟩ R,ax f,by have:=ax f;show c.O.length-(k+1)<c.O.length-k;omega⟩
 refine Bh<| .mk _ (.step none (ee (l:=[(3,.X 8 0 c.O.length false)]) (hp:=[(8,.arr ((kY c).map bX) 1)]) tr ⟨.refl _,tr⟩ ⟨⟨tr,_,R,(Uy f C (sU e))⟩,tr⟩) (.refl _))<|bk<|oR 2 R<|rE 17<|FQ<|dK R (show 0+c.O.length<=((kY c).map bX).length from by rw[aH,Nn (sU e)];omega) R ?_;show AV.Y 1 (List.take c.O.length (List.drop 0 ((kY c).map bX))) false=_;rw[bS,aN (by rw[aH,Nn (sU e)];omega)]
theorem Sub.Y{rs:Nat}{rows rows':List (List AV)}{l:Bool}(p:rows.length=rows'.length)(r:∀(i:Nat) row d,rows[i]?=some row->rows'[i]?=some d->row.length=d.length/\∀(j:Nat) a b,row[j]?=some a->d[j]?=some b->Sub a b):Sub (.Y rs rows l) (.Y rs rows' l):=λS w v h=>by
 cases h with
 | Y _ _ _ cs c b o c0 hc hm z bb hA b4 h1 hr=>
  rw[p];have k:∀(i:Nat) d,rows'[i]?=some d->∃row,rows[i]?=some row:=λi d h=>⟨_,aA (by rw[p];exact(Em.1 h).1)⟩;have m:∀(i:Nat) row d (j:Nat) b,rows[i]?=some row->rows'[i]?=some d->d[j]?=some b->∃a,row[j]?=some a:=λi row d j b h h' n=>⟨_,aA (by rw[(r i row d h h').1];exact(Em.1 n).1)⟩;refine .Y rs rows' l cs c b o c0 (p ▸ hc) hm (λe=>(z e).trans p) (λd s=>?_) (λt=>hA ad) (λi d j a g n=>?_) h1 λi d j a g n=>?_
  .obtain⟨i,g,rfl⟩:=fY s;obtain⟨row,f⟩:=k i _ (aA g);rw[<-(r i row _ f (aA g)).1];exact bb row (aB f)
  .obtain⟨row,f⟩:=k i d g;obtain⟨x,q⟩:=m i row d j a f g n;exact b4 i row j x f q
  .obtain⟨row,f⟩:=k i d g;obtain⟨x,q⟩:=m i row d j a f g n;exact(r i row d f g).2 j x a q n S w _ (hr i row j x f q)
def lj:List AV->List AV->Prop
 |[],[]=>True
 |a::c,b::d=>Sub a b/\lj c d
 |_,_=>False
theorem lj.get:∀{z bb:List AV},lj z bb->z.length=bb.length/\∀(i:Nat) a b,z[i]?=some a->bb[i]?=some b->Sub a b
 |[],[],_=>⟨R,λi a b h=>by simp at h⟩
 |x::z,y::bb,h=>by
  obtain⟨e,f⟩:=lj.get h.2;refine⟨by simp[e],λi a b c d=>?_⟩
  cases i with
  |zero=>simp at c d;subst c;subst d;exact h.1
  |succ i=>exact f i a b (sU c) (sU d)
 |[],_::_,h=>h.elim
 |_::_,[],h=>h.elim
theorem Sub.agg{a c:List AV}(h:lj a c):Sub (.agg a) (.agg c):=λS w v e=>by
 cases e with
 |agg _ vs hl z hr=>
  refine .agg c vs (h.get.1 ▸ hl) z λi b u p q=>?_;have d:i<a.length:=by rw[h.get.1];exact(Em.1 p).1
  exact h.get.2 i a[i] b (aA d) p S w u (hr i _ u (aA d) q)
theorem Sub.F{a c:List AV}(h:lj a c):Sub (.F a) (.F c):=λS w v e=>by
 cases e with
 |F _ vs z hr=>
  refine .F c vs (h.get.1 ▸ z) λi b u p q=>?_;have d:i<a.length:=by rw[h.get.1];exact(Em.1 p).1
  exact h.get.2 i a[i] b (aA d) p S w u (hr i _ u (aA d) q)
theorem Sub.clip(rs:Nat)(rows:List (List AV))(c:Bool):Sub (.Y rs rows c) (.Y rs rows false):=λS w v h=>by
 cases h with
 |Y _ _ _ b4 c0 b o cs hc hm bb z hA hw h1 hr=>exact .Y rs rows false b4 c0 b o cs hc hm (λh=>by cases h) z hA hw h1 hr
def Nk(n:Nat):Sub (.Y 1 (List.replicate n [SW]) false) (.Y 1 (List.replicate n (bX [])) false):=by
 refine Sub.Y (by simp) λi row g h h'=>?_;have e:=gK (aB h);have f:=gK (aB h');subst e;subst f;refine⟨R,λj a b c d=>?_⟩
 cases j with
 |zero=>injection c with c;injection d with d;subst c;subst d;exact oM 3 false
 |succ j=>simp at c
abbrev dn(x:Gs):List AV:=[.v (.int .u32 (x.M:Int)),.v (.int .u32 (x.next:Int))]
abbrev i_(g:Gu):List AV:=[.Y 2 (g.m.map dn) false,.v (.int .u32 (g.Z7:Int)),.Y 1 (g.I.map dU) false]
def VN(a ways:Int):bI C0 71 [vI a,vI ways] (.agg (fy (CZ a ways) false)):=by
 refine bc func71 R ?_;obtain⟨L,b,d,f⟩:∃L:Nat,bV a 1 4=(L:Int)/\L<=4/\1<=L:=⟨(bV a 1 4).toNat,by unfold bV;(repeat' split)<;>omega,by unfold bV;(repeat' split)<;>omega,by unfold bV;(repeat' split)<;>omega⟩;refine rV (vI (if 1>a then 1 else a)) R<|zW _ (am (λz:Int=>b1.ok (.v (.int .i64 z))) b)<|b0 (ak (ba _ _)) (λc=>?_) (λc=>?_)
 all_goals
  refine rV (vI (if 1>ways then 1 else ways)) R<|zW (vI (if 2<(if 1>ways then 1 else ways)then 2 else(if 1>ways then 1 else ways))) R ?_
  first
   |refine eo (x:=.X 12 0 2 false) (h':=an _ 12 (some (.arr (List.replicate 2 [.Y 0 ([]) true]) 1))) R R (rfl) (⟨dT,dT,dT⟩)<|zW (.agg [vI (if 2<(if 1>ways then 1 else ways)then 2 else(if 1>ways then 1 else ways)),.X 12 0 2 false]) R ?_;have e:(CZ a ways).O=List.replicate 2 []:=by show List.replicate (if bV a 1 4=3 then 2 else bV a 1 4).toNat []=_;rw[b];rw[aa (by have:L=3:=(sU c);omega)];rfl
    refine⟨_,R,⟨tr,by show 0+2<=(List.replicate 2 [SW]).length;rw[cM];omega,tr⟩,R,Sub.agg ⟨Sub.refl _,?_,tr⟩⟩;show Sub (.Y 1 (List.take 2 (List.drop 0 (List.replicate 2 [SW]))) false) (.Y 1 ((CZ a ways).O.map bX) false)
   |refine eo (x:=.X 11 0 L false) (h':=an _ 11 (some (.arr (List.replicate L [.Y 0 ([]) true]) 1))) R R (rfl) (⟨aG _,iF _,by show(L:Int)<=1000000;have:=d;omega⟩)<|zW (.agg [vI (if 2<(if 1>ways then 1 else ways)then 2 else(if 1>ways then 1 else ways)),.X 11 0 L false]) R ?_;have e:(CZ a ways).O=List.replicate L []:=by show List.replicate (if bV a 1 4=3 then 2 else bV a 1 4).toNat []=_;rw[b];rw[dZ (by have: ¬L=3:=(sU c);omega)];rfl
    refine⟨_,R,⟨tr,by show 0+L<=(List.replicate L [SW]).length;rw[cM];omega,tr⟩,R,Sub.agg ⟨Sub.refl _,?_,tr⟩⟩;show Sub (.Y 1 (List.take L (List.drop 0 (List.replicate L [SW]))) false) (.Y 1 ((CZ a ways).O.map bX) false)
  rw[e,bS,aN (by rw[cM];exact aC _),fH]
  first|exact Nk 2|exact Nk L
def yc:bI C0 72 [] (.agg (i_ po)):=by
 refine bc func72 R ?_;refine eo (x:=.X 1 0 8 false) (h':=an _ 1 (some (.arr (List.replicate 8 [.v (.int .u32 0),.v (.int .u32 0)]) 2))) R R (rfl) (⟨dT,dT,dT⟩)<|zV (.agg [.X 1 0 8 false,.v (.int .u32 0),.Y 0 ([]) true]) ?_;refine⟨_,R,⟨by show 0+8<=_;decide,tr,tr,tr⟩,R,Sub.agg ⟨Sub.refl _,Sub.refl _,oM 1 false,tr⟩⟩
abbrev a_(x:Ft):List AV:=[.v (.int .u32 (x.M:Int)),.v (.int .u32 (x.K:Int))]
abbrev ay(x:Pt):List AV:=[.v (.int .u32 (x.W:Int)),.v (.string x.data)]
abbrev ab(e:ai):List AV:=[.v (.int .i64 e.no),.v (.int .u32 (e.M:Int)),.v (.int .i64 e.i.op),.v (.int .i64 e.i.rd),.v (.int .i64 e.i.y),.v (.int .i64 e.i.A),.v (.int .u32 (e.i.C:Int)),.v (.int .u32 (e.K:Int)),.v (.int .i64 e.is),.v (.int .i64 e.left),.v (.int .u32 (e.value:Int)),.v (.int .u32 (e.next:Int)),.v (.int .u32 (e.W:Int)),.v (.int .i64 e.halt),.v (.int .i64 e.d),.v (.bool e.known),.v (.bool e.Z8)]
abbrev fm(c:Co):List AV:=[.v (.int .i64 c.Q.mode),.v (.int .i64 c.Q.o),.v (.int .i64 c.Q.Z),.v (.int .i64 c.Q.queue),.v (.int .i64 c.Q.V),.v (.int .i64 c.Q.m),.v (.int .i64 c.Q.O),.v (.int .i64 c.Q.ways),.Y 1 (c.Q.q.map bm) false,.v (.bool c.Q.tables),.Y 1 (c.Q.tape.map dU) false,.Y 1 (c.prog.map dU) false,.v (.int .i64 c.Z3),.v (.int .u32 (c.r 0:Int)),.v (.int .u32 (c.r 1:Int)),.v (.int .u32 (c.r 2:Int)),.v (.int .u32 (c.r 3:Int)),.v (.int .u32 (c.r 4:Int)),.v (.int .u32 (c.r 5:Int)),.v (.int .u32 (c.r 6:Int)),.v (.int .u32 (c.r 7:Int)),.v (.int .u32 (c.r 8:Int)),.v (.int .u32 (c.r 9:Int)),.v (.int .u32 (c.r 10:Int)),.v (.int .u32 (c.r 11:Int)),.v (.int .u32 (c.r 12:Int)),.v (.int .u32 (c.r 13:Int)),.v (.int .u32 (c.r 14:Int)),.v (.int .u32 (c.r 15:Int)),.v (.int .u32 (c.r 16:Int)),.v (.int .u32 (c.r 17:Int)),.v (.int .u32 (c.r 18:Int)),.v (.int .u32 (c.r 19:Int)),.v (.int .u32 (c.r 20:Int)),.v (.int .u32 (c.r 21:Int)),.v (.int .u32 (c.r 22:Int)),.v (.int .u32 (c.r 23:Int)),.v (.int .u32 (c.r 24:Int)),.v (.int .u32 (c.r 25:Int)),.v (.int .u32 (c.r 26:Int)),.v (.int .u32 (c.r 27:Int)),.v (.int .u32 (c.r 28:Int)),.v (.int .u32 (c.r 29:Int)),.v (.int .u32 (c.r 30:Int)),.v (.int .u32 (c.r 31:Int)),.v (.int .u32 (c.J:Int)),.v (.bool c.stop),.Y 2 (c.L.map a_) false,.Y 17 (c.Z.map ab) false,.v (.int .i64 c.next),.Y 2 (c.V.map ay) false,.v (.int .i64 c.data.ways),.Y 1 (c.data.O.map bX) false,.v (.int .i64 c.u.ways),.Y 1 (c.u.O.map bX) false,.Y 4 (c.U.map bv) false,.v (.int .i64 c.asked),.v (.int .i64 c.Z1),.v (.string c.mem),.Y 2 (c.K.m.map dn) false,.v (.int .u32 (c.K.Z7:Int)),.Y 1 (c.K.I.map dU) false,.v (.int .i64 c.halt),.Y 9 (c.N.map a2) false]
theorem bI.sub{C:a5}{f:FuncId}{args:List AV}{r d:AV}(h:bI C f args r)(k:Sub r d):bI C f args d:=⟨h.1,λS w g a b c=>(h.2 S w g a b c).mono λe w' ⟨v,p,z,s⟩=>⟨v,p,z,k _ _ _ s⟩⟩
def Rj(k:Nat):bI C0 70 [.v (.slice none 0 k)] (.Y 0 [] true):=by
 refine bc func70 R<|rV (vB true) R<|cg 1 R ?_;exact fT R R
def FY{P:Program}{w:World}(t ty e:TypeId)(i:TypeInfo)(g:P.underlying t=some (.slice e))(d:P.info? e=some i)(b:Option Addr)(c:Nat)(a:Addr)(k:Nat):
  (Builtin.append_ #[t,t] ty #[.slice b 0 c,.slice (some a) 0 k]).run P w=.ok (.slice b 0 c) w:=by
 have f:(loadCells a 0).run P w=.ok #[] w:=rfl;cases b<;>simp[Builtin.append_,run_underlying g,sizeOf,typeInfo,d,Builtin.lenOf,Builtin.firstCells,storeCells,f]
def yE{P:Program}{w:World}{ops:Array Oper}{rest:List Oper}{o:Oper}{a:Act}{Q:Exit->Act->World->Prop}(g:o.guard=none)(s x:Operand)(t:TypeId)
  (m:o.op=.call {callee:=.builtin .append,args:= #[s,x],argTypes:= #[t,t]}) (e:TypeId) (i:TypeInfo) (p:P.underlying t=some (.slice e)) (l:P.info? e=some i)
  (c:Option Addr) (d:Nat) (b:Addr) (k:Nat) (n:a.eval s=.slice c 0 d) (q:a.eval x=.slice (some b) 0 k)
  (h:wpList P ops Q rest (a.put o.dst (.slice c 0 d)) w):wpList P ops Q (o::rest) a w:=by
 refine wpList_plain g λK j=>?_;have f:=FY (P:=P) (w:=w) t o.type e i p l c d b k;unfold Oper.wp;simp[execOp,m,resolve,invoke,builtin,n,q,f,Result.andThen];exact j _ _ h
def yd(a:Addr)(k:Nat)(w:World):Calls Tryz.prog 70 #[.slice (some a) 0 k] w λe w'=>∃v,e=.returned v/\Below w.heap.size w w'/\∃A c,v=.slice A 0 c/\c<=maxLen:=by
 obtain⟨i0,z0,hi, -⟩:=(gr.ty 29 _ R).ZR
 go_enter func70,ntmps70
 have hb:Sem.run Tryz.prog (binOp .eql 23 (.slice (some a) 0 k) (.slice none 0 0)) w=.ok (.bool false) w:=by
  have e1:(Op.equal 23 (.slice (some a) 0 k) (.slice none 0 0)).run Tryz.prog w=.ok (some a).isNone w:=Bx Tryz.prog w 9999 _ 29 (gr.ty 23 _ R).kd _ _ _;simp only[binOp,Sem.run_bind,e1,Result.andThen_ok];rfl
 go_wp2_with (first|(rw[hb];simp only[Result.andThen_ok,Oper.upon])|(at_builtin;refine yE rfl (.tmp 5) (.tmp 6) 23 rfl 29 i0 (gr.ty 23 _ rfl).kd hi _ _ _ _ rfl rfl ?_))
 go_ret
 exact⟨_,rfl,(Below.refl _ _).alloc (aC _) _,_,_,rfl,aE _⟩
def Xs(x:List AV)(a:List (List AV))(c:Bool)(b:(x::a).length<=1000000):bI C0 70 [.Y 1 (x::a) c] (.Y 1 (x::a) false):=by
 refine bc func70 R<|rV (vB false) R<|qR 1 R<|zV (.Y 1 ([]) true)<|zF (x:=.X 5 0 (0+(x::a).length) false) (h':=an _ 5 (some (.arr (([])++(x::a)) 1))) (rfl) (⟨by first|(exact Nat.succ_pos _)|(simp only[cX,bJ];exact b),by first|(exact Nat.succ_pos _)|(simp only[cX,bJ];exact b),trivial,trivial⟩) ?_;refine⟨_,rfl,(by show 0+(0+(x::a).length)<=(x::a).length;omega),rfl,?_⟩;show Sub (.Y 1 (List.take (0+(x::a).length) (List.drop 0 ([]++(x::a)))) false) _;rw[bS,iA,bJ,aN (aC _)];exact Sub.refl _
def ye(rows:List (List AV))(g:Bool)(f:rows.length<=1000000):bI C0 70 [.Y 1 rows g] (.Y 1 rows false):=by
 match rows,f with
 |x::y,f=>exact Xs x y g f
 | [],_=>
  refine⟨(Rj 0).1,λS w t s r d=>?_⟩
  match t,d with
  |[],d=>simp[b6]at d
  |_::_::_,d=>simp[b6]at d
  | [v],d=>
   have m:=d.2 0 _ v R R
   cases m with
   | Y _ _ _ A c b o u D E z B C F k h'=>
    cases A with
    |none=>exact((Rj c).sub (oM 1 false)).2 S w _ s r (b6.cons (.v _) (b6.nil _ _ _))
    |some a=>
     exact(yd a c w).mono λe w' ⟨v,k,n,A,l,p,q⟩=>⟨v,k,n,p ▸ .Y 1 [] false A l 0 0 (λ_ _=>.bool false) (aE _) q (λh=>by cases h) (λ_ h=>by cases h) (λh=>absurd h (iI 0)) (λi row j a h=>by simp at h) (λ_ _=>rfl) λi row j a h=>by simp at h⟩
def fX(c:Cf)(prog:List Nat)(m:ByteArray):Co:=
 {Q:=bZ c,prog:=prog.take (min prog.length 64),Z3:=0,r:=λ_=>0,J:=0,stop:=false,L:=[],Z:=[],next:=1,V:=[],data:=CZ (bZ c).O (bZ c).ways,u:=CZ (bZ c).O (bZ c).ways,U:=[],asked:=0,Z1:=0,mem:=jB m,K:=po,halt:=0,N:=[]}
def yf(c:Cf)(prog:List Nat)(m:ByteArray)(a:c.ok)(b:prog.length<=1000000):bI C0 46 [.agg (er c false false),.Y 1 (prog.map dU) false,.v (.string m)] (.agg (fm (fX c prog m))):=by
 refine bc func46 R<|zC (Eb c false false a)<|zR<|zW _ (cD dU prog)<|zW _ (Bo prog.length 64)<|zM (.Y 1 (List.drop 0 (List.take (min prog.length 64) (prog.map dU))) false) R (⟨iF _,by show(0:Int)<=((min prog.length 64:Nat):Int);omega,by show((min prog.length 64:Nat):Int)<=(((prog.map dU).length:Nat):Int);rw[aH];omega⟩)<|zC (ye (List.drop 0 (List.take (min prog.length 64) (prog.map dU))) _ (by rw[bD,aM,aH];omega))<|zC (VN (bZ c).O (bZ c).ways)<|zC (VN (bZ c).O (bZ c).ways)<|zC (KF m)<|zC (yc)<|zV (.agg [vI ((bZ c).mode),vI ((bZ c).o),vI ((bZ c).Z),vI ((bZ c).queue),vI ((bZ c).V),vI ((bZ c).m),vI ((bZ c).O),vI ((bZ c).ways),.Y 1 ((bZ c).q.map bm) false,vB ((bZ c).tables),.Y 1 ((bZ c).tape.map dU) false,.Y 1 (List.drop 0 (List.take (min prog.length 64) (prog.map dU))) false,vI 0,zU,zU,zU,zU,zU,zU,zU,zU,zU,zU,zU,zU,zU,zU,zU,zU,zU,zU,zU,zU,zU,zU,zU,zU,zU,zU,zU,zU,zU,zU,zU,zU,zU,vB false,.Y 0 ([]) true,.Y 0 ([]) true,vI 1,.Y 0 ([]) true,vI ((CZ (bZ c).O (bZ c).ways).ways),.Y 1 ((CZ (bZ c).O (bZ c).ways).O.map bX) false,vI ((CZ (bZ c).O (bZ c).ways).ways),.Y 1 ((CZ (bZ c).O (bZ c).ways).O.map bX) false,.Y 0 ([]) true,vI 0,vI 0,.v (.string (jB m)),.Y 2 (po.m.map dn) false,vU po.Z7,.Y 1 (po.I.map dU) false,vI 0,.Y 0 ([]) true]) ?_;exact⟨_,R,ga,R,Sub.agg ⟨Sub.refl _,Sub.refl _,Sub.refl _,Sub.refl _,Sub.refl _,Sub.refl _,Sub.refl _,Sub.refl _,Sub.refl _,Sub.refl _,Sub.refl _,(by show Sub (.Y 1 (List.drop 0 (List.take (min prog.length 64) (prog.map dU))) false) (.Y 1 ((prog.take (min prog.length 64)).map dU) false);rw[bS, <-eO];exact Sub.refl _),Sub.refl _,Sub.refl _,Sub.refl _,Sub.refl _,Sub.refl _,Sub.refl _,Sub.refl _,Sub.refl _,Sub.refl _,Sub.refl _,Sub.refl _,Sub.refl _,Sub.refl _,Sub.refl _,Sub.refl _,Sub.refl _,Sub.refl _,Sub.refl _,Sub.refl _,Sub.refl _,Sub.refl _,Sub.refl _,Sub.refl _,Sub.refl _,Sub.refl _,Sub.refl _,Sub.refl _,Sub.refl _,Sub.refl _,Sub.refl _,Sub.refl _,Sub.refl _,Sub.refl _,Sub.refl _,Sub.refl _,oM 2 false,oM 17 false,Sub.refl _,oM 2 false,Sub.refl _,Sub.refl _,Sub.refl _,Sub.refl _,oM 4 false,Sub.refl _,Sub.refl _,Sub.refl _,Sub.refl _,Sub.refl _,Sub.refl _,Sub.refl _,oM 9 false,tr⟩⟩
def NF(l:List Nat)(k:Nat):(l.take k).sum<=l.sum:=by
 have:=am List.sum (j' k l);rw[List.sum_append]at this;omega
noncomputable def jv:a5:={P:=Tryz.prog,ty:=nk.find,G:=λ_=>none,H:=pM Tryz.prog (λ_=>none)}
def rx:cb jv:=⟨TT.ZB nk sg,by kernel_rfl,λ_ _ _ _ _ h=>h⟩
def lB(p:Nat×Nat):List AV:=[vN p.1,vN p.2]
def n'(f:Nat):Nat:=if 2<=f/\f<=7 then 2 else 0
def XJ(c:Int):bI jv 199 [vI c] (vN (cW c)):=.of_flat func199 R R R R λw=>(Cb c w).mono λ_ _ ⟨a,b⟩=>⟨a,b ▸ rD _⟩
def y7(f:Nat)(c:f<=8):bI jv 198 [vN f] (.F [vB (yW f),vB (uS f),vB (vS f)]):=.Zp func198 R R R R λw=>(LB f c w).mono λ_ _ ⟨a,b⟩=>⟨a,b ▸ rD _⟩
def Ef(x a n:Nat)(b:1<=n)(c:a+n<=32)(d:x<4294967296):bI jv 238 [vU x,vN a,vN n] (vU (ar x a n)):=.of_flat func238 R R R R λw=>Qd x a n w b c d
def y8(x a n v:Nat)(b:1<=n)(c:a+n<=32)(e:x<4294967296)(d:v<4294967296):bI jv 223 [vU x,vN a,vN n,vU v] (vU (bo x a n v)):=.of_flat func223 R R R R λw=>Qe x a n v w b c e d
def XK(x n:Nat)(a:1<=n)(b:n<=32)(c:x<4294967296):bI jv 201 [vU x,vN n] (vU (cv x n)):=.of_flat func201 R R R R λw=>Ic x n w a b c
def UM:bI jv 201 [vU 0,vN 0] (vU 0):=.of_flat func201 R R R R λw=>PZ w
def y9(f:Nat)(i:f<=8):bI jv 221 [vN f] (.F [.Y (n' f) ((eQ f).map lB) true,vN (qN f)]):=by
 refine bI.intro rx func221 R R (by kernel_rfl) R<|qS 0 R<|b0 (ak (ba _ _)) (λa=>?_) (λa=>?_)
 .refine rV (.agg [vI 20,vI 12]) R<|zV (.Y 2 ([[vI 20,vI 12]]) true) ?_;obtain rfl:f=2:=by have z:=a;simp at z;omega
  exact dK R dc R R
 refine b0 (ak (ba _ _)) (λb=>?_) (λb=>?_)
 .refine rV (.agg [vI 20,vI 5]) R<|zV (.Y 2 ([[vI 20,vI 5]]) true) ?_;obtain rfl:f=3:=by have z:=b;simp at z;omega
  exact dK R dc R R
 refine b0 (ak (ba _ _)) (λc=>?_) (λc=>?_)
 .refine rV (.agg [vI 7,vI 5]) R<|rV (.agg [vI 25,vI 7]) R<|zV (.Y 2 ([[vI 7,vI 5],[vI 25,vI 7]]) true) ?_;obtain rfl:f=4:=by have z:=c;simp at z;omega
  exact dK R dc R R
 refine b0 (ak (ba _ _)) (λd=>?_) (λd=>?_)
 .refine rV (.agg [vI 8,vI 4]) R<|rV (.agg [vI 25,vI 6]) R<|rV (.agg [vI 7,vI 1]) R<|rV (.agg [vI 31,vI 1]) R<|zV (.Y 2 ([[vI 8,vI 4],[vI 25,vI 6],[vI 7,vI 1],[vI 31,vI 1]]) true) ?_;obtain rfl:f=5:=by have z:=d;simp at z;omega
  exact dK R dc R R
 refine b0 (ak (ba _ _)) (λe=>?_) (λe=>?_)
 .refine rV (.agg [vI 12,vI 20]) R<|zV (.Y 2 ([[vI 12,vI 20]]) true) ?_;obtain rfl:f=6:=by have z:=e;simp at z;omega
  exact dK R dc R R
 refine b0 (ak (ba _ _)) (λg=>?_) (λg=>?_)
 .refine rV (.agg [vI 21,vI 10]) R<|rV (.agg [vI 20,vI 1]) R<|rV (.agg [vI 12,vI 8]) R<|rV (.agg [vI 31,vI 1]) R<|zV (.Y 2 ([[vI 21,vI 10],[vI 20,vI 1],[vI 12,vI 8],[vI 31,vI 1]]) true) ?_;obtain rfl:f=7:=by have z:=g;simp at z;omega
  exact dK R dc R R
 have h:f=0\/f=1\/f=8:=by simp at a b c d e g;omega
 rcases h with rfl|rfl|rfl<;>exact dK rfl dc rfl rfl
def y'(x rs:Nat)(a:List (Nat×Nat))(d:Bool)(o:x<4294967296)(h:a≠[]->rs=2)(b:LA a)(C:a.length<=100):bI jv 239 [vU x,.Y rs (a.map lB) d] (.F [vU (rZ x a).1,vN (rZ x a).2]):=by
 refine bI.intro rx func239 R R (by kernel_rfl) R<|qS 0 R<|zW _ (cD lB a)<|dk (κ:=Nat) (λk=>⟨a6 [(0,vU x),(10,.Y rs (a.map lB) d),(11,vN a.length),(12,vN k),(6,vU (((a.take k).foldl (Ag x) (0,0)).1)),(7,vN (((a.take k).foldl (Ag x) (0,0)).2))],aq [],7⟩) (λk=>k<=a.length) (λk=>a.length-k) 0 (λs=>s) (au (λs=>s) wT tr R) (aE _) ?_;intro k B;have f:k<=100:=oT;have v:xH (a.take k)<=32:=aL (by unfold xH;rw[eO];exact NF _ _) b.2;have m:=CR x (a.take k) (0,0) (by show 0<4294967296;omega) (λp hp=>b.1 p (cQ hp)) ad;have D:((a.take k).foldl (Ag x) (0,0)).1<=4294967295:=oT;have A:((a.take k).foldl (Ag x) (0,0)).2=xH (a.take k):=m.2.trans (bJ _);have n:((a.take k).foldl (Ag x) (0,0)).2<=32:=oT;refine b0 (ak (bl _ _)) (λc=>?_) (λc=>?_)
 .skip
  obtain⟨p,hp⟩:∃p,a[k]?=some p:=⟨_,aA (ax c)⟩;obtain rfl:=h (λz=>by subst z;cases hp);obtain⟨i,q⟩:=b.1 p (aB hp);have t:p.1<=32:=oT;have g:p.2<=32:=oT;have y:xH (a.take (k+1))<=32:=aL (by unfold xH;rw[eO];exact NF _ _) b.2;have u:xH (a.take (k+1))=xH (a.take k)+p.2:=by rw[bW,hp];simp[xH]
  have e:ar x p.1 p.2<4294967296:=e5 (iR _ _ _) (wV ad);refine zX (lB p) (.k 2 0 (lB p)) R (iH hp)<|zR<|zC (Ef x p.1 p.2 i q o)<|zC (y8 ((a.take k).foldl (Ag x) (0,0)).1 ((a.take k).foldl (Ag x) (0,0)).2 p.2 (ar x p.1 p.2) i ad ad e) ?_;have j:(((a.take k).foldl (Ag x) (0,0)).2)+p.2<=64:=aD n g;refine zW _ (ap (bH j R)) ?_;have l:k+1<=101:=aD f (aC 1);refine zW _ (ap (bH l R)) ?_;refine⟨k+1,λs=>s,au (λs=>s) ⟨⟨R,R⟩,⟨R,R⟩,⟨R,R⟩,⟨R,R⟩,⟨(am (λz:Nat×Nat=>AV.v (.int .u32 (z.1:Int))) (EI (Ag x) (0,0) a k p hp).symm),R⟩,⟨(am (λz:Nat×Nat=>AV.v (.int .i64 (z.2:Int))) (EI (Ag x) (0,0) a k p hp).symm),R⟩,tr⟩ tr R,ax c,oH (ax c)⟩
 have r:=aF c;exact dK R dc R (by rw[aN (oT:a.length<=k)];rfl)
def A2{x c:Nat}(h:c<=32):IntKind.wrap .u32 ((x:Int)*2 ^ (min (Int.toNat (c:Int)) (IntKind.bits .u32)))=((x*2 ^ c%4294967296:Nat):Int):=by
 rw[Int.toNat_natCast,show min c (IntKind.bits .u32)=c from kD h];have e:((x*2 ^ c%4294967296:Nat):Int)=((x*2 ^ c:Nat):Int)%((4294967296:Nat):Int):=Int.natCast_emod _ _;rw[e,Int.natCast_mul,Int.natCast_pow];rfl
def ss(f:Nat):qN f<=12:=by unfold qN;split<;>decide
def UN(f x:Nat)(c:1<=f)(d:f<=8)(a:(f != 3)=true):bI jv 201 [vU ((rZ x (eQ f)).1*2 ^ qN f%4294967296),vN ((rZ x (eQ f)).2+qN f)] (vU (EG f x)):=by
 have a:f≠3:=sU a;rw[(BA x f).1];unfold EG;rw[dZ a];by_cases h:f=1\/f=8
 .rw[aa h];rcases h with rfl|rfl<;>exact UM
 rw[dZ h];have b:1<=xH (eQ f)+qN f/\xH (eQ f)+qN f<=32:=by
  have:f=2\/f=4\/f=5\/f=6\/f=7:=oT;rcases this with rfl|rfl|rfl|rfl|rfl<;>decide
 exact XK _ _ b.1 b.2 ad
def XL(b:Int)(x f:Nat)(o:cW b=f)(n:1<=f)(i:f<=8)(e:x<4294967296):bI jv 217 [vI b,vU x] (.agg [vI b,vN (cond (yW f) (ar x 7 5) 0),vN (cond (uS f) (ar x 15 5) 0),vN (cond (vS f) (ar x 20 5) 0),vU (EG f x)]):=by
 refine bI.intro rx func217 R R (by kernel_rfl) R ?_;have j:ar x 7 5<=31:=aI (iR x 7 5);have c:ar x 15 5<=31:=aI (iR x 15 5);have d:ar x 20 5<=31:=aI (iR x 20 5);have hZ:(rZ x (eQ f)).2<=32:=by rw[(BA x f).1];exact(vF f).2
 have q:(eQ f).length<=100:=by unfold eQ;split<;>decide
 have p:eQ f≠[]->n' f=2:=by unfold eQ n';intro h;split at h<;>first|rfl|exact absurd rfl h
 refine qS 0 rfl<|zC (o ▸ XJ b)<|zV (.agg [vI b,vI 0,vI 0,vI 0,.v (.int .u32 0)])<|aW rfl (y7 f i)<|lv 0 0 rfl<|Fq (κ:=Unit) (λa=>⟨a6 [(1,vU x),(4,.ptr 0 0),(5,vN f),(6,.ptr 6 0),(8,vB (uS f)),(9,vB (vS f))],aq [(0,.box [vI 0,vI 0,vI 0,vI 0,.v (.int .u32 0)]),(6,.box [vI b,vN (cond (yW f) (ar x 7 5) 0),vI 0,vI 0,.v (.int .u32 0)])],17⟩) (λa=>True) ?_ ?_
 .skip;refine rT 0 R<|zB R (λk=>?_) (λk=>?_)
  all_goals
   first|refine aW rfl (Ef x 7 5 dT dT e)<|zW _ (ap (bH j rfl)) ?_|skip
   refine .mk _ (.refl _) ⟨(),λs=>s,au (λs=>s) wT ⟨⟨R,R,R⟩,⟨R,(by rw[k];rfl),R⟩,tr⟩ R,R,tr⟩
 intro a _;refine Fq (κ:=Unit) (λa=>⟨a6 [(1,vU x),(4,.ptr 0 0),(5,vN f),(6,.ptr 6 0),(9,vB (vS f))],aq [(0,.box [vI 0,vI 0,vI 0,vI 0,.v (.int .u32 0)]),(6,.box [vI b,vN (cond (yW f) (ar x 7 5) 0),vN (cond (uS f) (ar x 15 5) 0),vI 0,.v (.int .u32 0)])],17⟩) (λa=>True) ?_ ?_
 .skip;refine rT 0 R<|zB R (λl=>?_) (λl=>?_)
  all_goals
   first|refine aW rfl (Ef x 15 5 dT dT e)<|zW _ (ap (bH c rfl)) ?_|skip
   refine .mk _ (.refl _) ⟨(),λs=>s,au (λs=>s) wT ⟨⟨R,R,R⟩,⟨R,(by rw[l];rfl),R⟩,tr⟩ R,R,tr⟩
 intro a _;refine Fq (κ:=Unit) (λa=>⟨a6 [(1,vU x),(4,.ptr 0 0),(5,vN f),(6,.ptr 6 0)],aq [(0,.box [vI 0,vI 0,vI 0,vI 0,.v (.int .u32 0)]),(6,.box [vI b,vN (cond (yW f) (ar x 7 5) 0),vN (cond (uS f) (ar x 15 5) 0),vN (cond (vS f) (ar x 20 5) 0),.v (.int .u32 0)])],17⟩) (λa=>True) ?_ ?_
 .skip;refine rT 0 R<|zB R (λm=>?_) (λm=>?_)
  all_goals
   first|refine aW rfl (Ef x 20 5 dT dT e)<|zW _ (ap (bH d rfl)) ?_|skip
   refine .mk _ (.refl _) ⟨(),λs=>s,au (λs=>s) wT ⟨⟨R,R,R⟩,⟨R,(by rw[m];rfl),R⟩,tr⟩ R,R,tr⟩
 intro a _;refine qC 0 R<|zC (y9 f i)<|zC (y' x (n' f) (eQ f) true e p (vF f) q)<|nW _ R (ij (A2 (aL (ss f) dT))) (aG _)<|lv 0 0 R<|Fq (κ:=Unit) (λa=>⟨a6 [(4,.ptr 0 0),(6,.ptr 6 0)],aq [(0,.box [vI 0,vI 0,vI 0,vI 0,.v (.int .u32 0)]),(6,.box [vI b,vN (cond (yW f) (ar x 7 5) 0),vN (cond (uS f) (ar x 15 5) 0),vN (cond (vS f) (ar x 20 5) 0),vU (EG f x)])],37⟩) (λa=>True) ?_ ?_
 .refine qS 0 R<|b0 (ak (db _ _)) (λg=>?_) (λg=>?_)
  .skip;have r:((rZ x (eQ f)).2)+(qN f)<=44:=aD hZ (ss f);refine rW _ R (ap (bH r R))<|zC (UN f x n i g)<|.mk _ (.refl _) ⟨(),λs=>s,au (λs=>s) wT wH R,R,tr⟩
  skip;refine .mk _ (.refl _) ⟨(),λs=>s,au (λs=>s) wT ⟨⟨R,R,R⟩,⟨R,(by rw[(sU g:f=3)];rfl),R⟩,tr⟩ R,R,tr⟩
 intro a _;refine jj 0 R ?_;exact dK R dc R R
def Df:PY:=λa x w g f=>by
 have b:cW a≠0:=by unfold cW;repeat' (split<;>try omega)
 have h:=bI.flat (XL a x (cW a) R (eU b) (sB a) f) (λ_ _ _ _ h=>by cases h) R R w;refine h.mono λe w' ⟨d,c⟩=>⟨d.trans ?_,c⟩;unfold SI.val xW;cases yW (cW a)<;>cases uS (cW a)<;>cases vS (cW a)<;>rfl
def IV(x:Nat)(b:x<4294967296):bI C0 185 [.v (.int .u32 (x:Int))] (.F [g9 (be x),.v (.int .i64 ((g7 x:Nat):Int))]):=
 .Zy func185 R R R R λS w a=>Oz Df x w (Db a) b
def f'(e:ai)(k:Nat):Bool:=decide (aj e.i.op=k)
def uE(e:ai)(a b:Nat):Nat:=if wr e.i=0 then 0 else BF e.i.op e.i.C e.M a b
def rJ(e:ai)(a b:Nat):ai:=
 if e.is≠0\/aj e.i.op=3\/aj e.i.op=4 then e
 else if aj e.i.op=1 then {e with is:=1,value:=uE e a b,next:=b_ e.M,left:=3}
 else if aj e.i.op=2 then {e with is:=1,value:=uE e a b,next:=b_ e.M,d:=e8 e.i.op a b,left:=e8 e.i.op a b}
 else if aj e.i.op=5 then
  if qP e.i.op e.i.C e.M a b%4=0 then {e with is:=1,value:=uE e a b,next:=qP e.i.op e.i.C e.M a b,left:=1}
  else {e with is:=1,value:=0,next:=b_ e.M,left:=1,halt:=3}
 else {e with is:=1,value:=uE e a b,next:=b_ e.M,left:=1}
def bn(e:ai):ai:=
 if e.is≠1 then e
 else if wrap64 (e.left-1)<=0 then {e with left:=0,is:=3,known:=if aj e.i.op=5/\e.halt=0 then true else e.known}
 else {e with left:=wrap64 (e.left-1)}
def yC(e:ai)(size:Int)(a:Nat):ai:=
 if(aj e.i.op≠3/\aj e.i.op≠4)\/e.is≠0\/e.known=true then e
 else if kZ size ((a+e.i.C)%4294967296) (bh e.i.op)=true then {e with W:=(a+e.i.C)%4294967296,known:=true}
 else {e with W:=(a+e.i.C)%4294967296,halt:=if aj e.i.op=4 then 5 else 4,is:=3}
def uM(e:ai)(s:ByteArray):ai:=
 if aj e.i.op≠3\/e.known=false\/(e.is≠0/\e.is≠2)then e
 else {e with is:=1,left:=1,value:=if wr e.i=0 then 0 else hG e.i.op s}
def uF(e:ai)(b:Nat):ai:=
 if aj e.i.op≠4\/e.known=false\/e.is≠0 then e else {e with is:=3,value:=la b (bh e.i.op)}
def cA(e:ai):Sp:=
 if e.halt≠0 then⟨e.M,e.M,0,0,if e.halt=4\/e.halt=5 then e.W else 0,0,false,e.halt,0⟩
 else if aj e.i.op=4 then⟨e.M,b_ e.M,wr e.i,e.value,e.W,(bh e.i.op:Nat),true,0,0⟩
 else if aj e.i.op=3 then⟨e.M,b_ e.M,wr e.i,if wr e.i≠0 then e.value else 0,e.W,(bh e.i.op:Nat),false,0,0⟩
 else if aj e.i.op=2 then⟨e.M,b_ e.M,wr e.i,if wr e.i≠0 then e.value else 0,0,0,false,0,e.d⟩
 else if aj e.i.op=5 then⟨e.M,e.next,wr e.i,if wr e.i≠0 then e.value else 0,0,0,false,0,0⟩
 else⟨e.M,b_ e.M,wr e.i,if wr e.i≠0 then e.value else 0,0,0,false,0,0⟩
def DM(o:Option Nat):Int:=match o with|some k=>k|none=> -1
def Nj(e:ai):Bool:=decide (aj e.i.op=5)&&e.known&&decide (e.next≠e.K)
def yD(a:List ai):Option Nat:=a.findIdx? Nj
def DY(a:List ai)(i:Nat):List ai:=match a[i]? with|some e=>a.take i++[{e with K:=e.next}]|none=>a
def Xq(i:SI):Bool:=decide (1<=i.op)&&decide (i.op<=48)&&decide ((xW i.op (Jw i)).op=i.op)&&decide ((xW i.op (Jw i)).rd=i.rd)&&decide ((xW i.op (Jw i)).y=i.y)&&decide ((xW i.op (Jw i)).A=i.A)&&decide ((xW i.op (Jw i)).C=i.C)
def xJ(e:ai):Bool:=
 if e.is<0\/e.is>3 then false
 else if(e.is=1/\e.left<=0)\/(e.is≠1/\e.left≠0)then false
 else if e.is=2/\(aj e.i.op≠3\/e.known=false)then false
 else if e.halt≠0/\e.is≠3/\ ¬(e.is=1/\aj e.i.op=5/\e.halt=3)then false
 else if Xq e.i=true then true else decide (e.halt=1)||decide (e.halt=2)
def pn(a:List ai)(i:Nat):Int:=match a[i]? with|some e=>e.no|none=>0
def IB(a:List ai)(i:Nat):Bool:=match a[i]? with|some e=>(i==0||decide (pn a (i-1)<e.no))&&xJ e|none=>true
def Ff(a:List ai):Bool:=decide (a.length<=8)&&(List.range a.length).all (IB a)
def qB(no:Int)(f:Ft)(prog:List Nat):ai:=
 if(es prog f.M).isSome=false then {Cs with no:=no,M:=f.M,K:=f.K,halt:=1,is:=3}
 else if dq (a8 prog f.M)=0 then {Cs with no:=no,M:=f.M,K:=f.K,halt:=2,is:=3}
 else if(be (a8 prog f.M)).op=47 then {Cs with no:=no,M:=f.M,K:=f.K,i:=be (a8 prog f.M),halt:=6,is:=3}
 else if(be (a8 prog f.M)).op=48 then {Cs with no:=no,M:=f.M,K:=f.K,i:=be (a8 prog f.M),halt:=7,is:=3}
 else {Cs with no:=no,M:=f.M,K:=f.K,i:=be (a8 prog f.M)}
def LS(a:List ai)(b:Int)(k:Nat):Bool:=match a[k]? with|some e=>decide (wr e.i=b)|none=>false
def ec(a:List ai)(b:Int):Nat->Option Nat
 |0=>none
 |n+1=>if LS a b n=true then some n else ec a b n
def bq(b:List ai)(i:Nat)(a:Int):Option Nat:=if a<1\/a>31 then none else ec b a (min i b.length)
def lK(b:List ai)(r:Nat->Nat)(i:Nat)(a:Int):Option Nat:=
 if a=0 then some 0
 else if a<0\/a>31 then none
 else match bq b i a with
  |none=>some (r a.toNat)
  |some k=>match b[k]? with
   |some e=>if e.is=3/\e.halt=0 then some e.value else none
   |none=>none
def mI(a:List ai)(r:Nat->Nat)(i:Nat):Nat×Nat×Bool:=
 match a[i]? with
 |some e=>((lK a r i e.i.y).getD 0,(lK a r i e.i.A).getD 0,(lK a r i e.i.y).isSome&&(lK a r i e.i.A).isSome)
 |none=>(0,0,false)
def LT(e:ai):Bool:=if e.halt≠0 then false else if aj e.i.op=6 then false else if aj e.i.op=3\/aj e.i.op=4\/aj e.i.op=5 then e.known else true
def Cq(a:List ai):Nat:=a.findIdx λe=> !LT e
def vC(a:List ai)(i:Nat):Bool:=decide (i<=a.length)&&decide (i<=Cq a)
def sZ(a:List Int)(k:Option Nat):Int:=match k with|some k=>a.getD k (-1)|none=> -1
def DB(a:List ai)(b:List Int)(k:Nat):Int:=
 match a[k]? with
 |some e=>if aj e.i.op≠3 then max (sZ b (bq a k e.i.y)) (sZ b (bq a k e.i.A))else if k>Cq a then k else -1
 |none=> -1
def bg(a:List ai):Nat->List Int
 |0=>[]
 |k+1=>bg a k++[DB a (bg a k) k]
def jo(a:List ai):List Int:=bg a a.length
def IC(a:List ai)(i:Nat)(b:Int):Bool:=match bq a i b with|some k=>decide (0<=(jo a).getD k (-1))|none=>false
def DC(e:ai):Bool:=decide (aj e.i.op=3\/aj e.i.op=4\/aj e.i.op=2\/aj e.i.op=5)
def qD(e:ai):List Int:=if aj e.i.op=3\/aj e.i.op=4 then [e.i.y]else [e.i.y,e.i.A]
def Pr(a:Int)(b:List ai)(i:Nat):Bool:=
 match b[i]? with
 |none=>false
 |some e=>if DC e=false then true
  else if a=0 then true
  else if a=1 then(qD e).all λc=> !IC b i c
  else if a=2 then vC b i
  else false
structure Std where
 W:Nat
 size:Nat
 data:ByteArray
 there:Bool
def Fg(e:ai):Std:=⟨e.W,bh e.i.op,oF e.value (bh e.i.op),decide (e.is=3)⟩
def CY(p:Pt):Std:=⟨p.W,p.data.size,p.data,true⟩
def FW(a:List ai)(agF:List Pt):List Std:=((a.filter λe=>f' e 4).map Fg).reverse++(agF.map CY).reverse
def dh(a n b m:Nat):Bool:=decide (0<n)&&decide (0<m)&&decide (a<b+m)&&decide (b<a+n)
def Fh(a n b m:Nat):Bool:=decide (0<m)&&decide (a<=b)&&decide (b+m<=a+n)
def xK(at_ n:Nat):List Std->Int×ByteArray
 |[]=>(2,oZ)
 |s::l=>if dh s.W s.size at_ n=false then xK at_ n l
  else if Fh s.W s.size at_ n=false\/s.there=false then(0,oZ)
  else(1,s.data.extract (at_-s.W) (at_-s.W+n))
def Aw(e:ai):Bool:=f' e 4&&(!e.known||decide (e.halt≠0))
def lL(a:List ai)(agF:List Pt)(i:Nat):Int×ByteArray:=
 match a[i]? with
 |none=>(0,oZ)
 |some e=>if aj e.i.op≠3 then(0,oZ)
  else if(a.take i).any Aw=true then(0,oZ)
  else xK e.W (bh e.i.op) (FW (a.take i) agF)
def lY(r:Nat->Nat)(s:Sp):Nat->Nat:=if 1<=s.rd/\s.rd<=31/\s.halt=0 then hL r s.rd.toNat s.value else r
def iJ(s:Sp):Option Pt:=if s.store=false\/s.halt≠0\/(s.size≠1/\s.size≠2/\s.size≠4)then none else some ⟨s.W,oF s.value s.size.toNat⟩
def iQ(c:Ca)(q:List bp)(m:ByteArray)(agY:Nat)(left:Int):Ca×List bp×Bool:=
 if gG c=false then(c,q,false)
 else if(bK c (ao agY)).2.isSome=true then(tO c (ao agY),q,false)
 else match qZ c (ao agY) (Ga (jZ q m) (ao agY)) false with
  |(d,a,b)=>if b=true/\a.f=true/\a.data.size≠0 then(d,Bi q 4 a.S left a.data,true)else(d,q,false)
def sL(agF:List Pt)(c:Ca):List Pt×Ca×Bool:=
 match agF with
 |[]=>(agF,c,false)
 |p::l=>if(xL c p.W p.data).2=true then(l,(xL c p.W p.data).1,true)else(agF,c,false)
def jE(c:Co)(b:Int)(agY:Nat)(a:ByteArray):Co:={c with U:=Bi c.U b agY (lX c.Q c.asked) a,asked:=wrap64 (c.asked+1)}
def tA(c:Co)(first:Bool):Bool:=if first=true then decide ((yH c.U:Int)<c.Q.m)else decide ((yH c.U:Int)<c.Q.m-1)
def oK(c:Co)(agY:Nat):Co:=
 match iQ c.data c.U c.mem agY (lX c.Q c.asked)with
 |(d,q,asked)=>{c with data:=d,U:=q,asked:=if asked=true then wrap64 (c.asked+1)else c.asked}
def Xr(c:Co):ByteArray:=jz c.V c.data c.U c.mem
def oL(c:Co)(e:ai):ByteArray:=if kZ ((Xr c).size:Int) e.W (bh e.i.op:Nat)=true then Cv (Xr c) e.W (bh e.i.op)else oZ
def wO(c:Co)(agY:Nat)(e:ai):ai:=if e.is=2/\ao e.W=agY then uM {e with Z8:=true} (oL c e)else e
def ID(c:Co)(x:bp):Co:=
 if x.kind=1 then {c with Z:=c.Z.map (wO c x.S)}
 else if x.kind=2 then {c with u:=(qZ c.u x.S oZ false).1}
 else if x.kind=3 then oK c x.S
 else if x.kind=4 then {c with mem:=rP c.mem [⟨x.S,x.data⟩]}
 else c
def lM(c:Co):Co:=
 match eH c.U with
 |(q,x,ok)=>if ok=true then ID {c with U:=q} x else {c with U:=q}
def gm(r:Nat->Nat)(a:List ai)(i:Nat):List ai:=
 match a[i]? with
 |some e=>if aj e.i.op=4 then(match lK a r i e.i.A with|some b=>a.set i (uF e b)|none=>a)else a
 |none=>a
def cN(r:Nat->Nat)(a:List ai):Nat->List ai
 |0=>a
 |k+1=>gm r (cN r a k) k
def b5(c:Co):List ai:=cN c.r (c.Z.map bn) c.Z.length
def kK(c:Co):Co:=
 if c.halt≠0 then c
 else match yD (b5 c)with
  |some i=>{c with Z:=DY (b5 c) i,J:=(match(b5 c)[i]? with|some e=>e.next|none=>0),L:=[],stop:=false}
  |none=>{c with Z:=b5 c}
def tM(c:Co)(s:Sp):Co:={c with N:=c.N++[s],halt:=s.halt,Z:=[],L:=[],stop:=true}
def vG(c:Co)(e:ai)(s:Sp):Co:=if aj e.i.op=3 then oK c s.W else c
def fZ(c:Co)(s:Sp):Co:={c with N:=c.N++[s],V:=(match iJ s with|some p=>c.V++[p]|none=>c.V)}
def ez(c:Co)(e:ai)(s:Sp)(l:List ai):Co:=
 {vG (fZ c s) e s with r:=lY c.r s,K:=fM c.K s.M s.next e.i,Z:=l}
def bx:Nat->Co->Co
 |0,c=>c
 | n+1,c=>
  if c.halt≠0 then c
  else match c.Z with
   |[]=>c
   |e::l=>
    if e.is≠3 then c
    else if(cA e).halt≠0 then tM c (cA e)
    else if(cA e).store=true/\(c.V.length:Int)>=c.Q.V then c
    else bx n (ez c e (cA e) l)
def ei(c:Co):Co:=bx c.Q.o.toNat c
def dg(c:Co)(i:Nat):Bool:=
 match c.Z[i]? with
 |none=>false
 |some e=>
  if e.is≠0 then false
  else if aj e.i.op=3 then e.known||((lK c.Z c.r i e.i.y).isSome&&Pr c.Q.mode c.Z i)
  else if aj e.i.op=4 then !e.known&&(lK c.Z c.r i e.i.y).isSome&&Pr c.Q.mode c.Z i
  else(mI c.Z c.r i).2.2&&Pr c.Q.mode c.Z i
def Kt(c:Co)(agY:Nat):Bool:=(bK c.data agY).2.isSome||c.Z.any λe=>e.Z8&&decide (ao e.W=agY)
def fh(c:Co)(i:Nat)(e:ai):Co:={c with Z:=c.Z.set i e}
def oE(c:Co)(i:Nat):Co:=
 match c.Z[i]? with
 |none=>c
 |some e=>
  if e.known=false then c
  else if(lL c.Z c.V i).1=1 then fh c i (uM e (lL c.Z c.V i).2)
  else if(lL c.Z c.V i).1≠2 then c
  else if Kt c (ao e.W)=true then fh c i (uM e (oL c e))
  else if Ec c.U (ao e.W) 1=true then fh c i {e with is:=2}
  else if tA c (vC c.Z i)=true/\Ec c.U (ao e.W) 3=false then fh (jE c 1 (ao e.W) oZ) i {e with is:=2}
  else c
def iS(c:Co)(i:Nat):Co:=
 match c.Z[i]? with
 |none=>c
 |some e=>
  if aj e.i.op=4 then fh c i (yC e c.mem.size (mI c.Z c.r i).1)
  else if aj e.i.op=3 then oE (fh c i (yC e c.mem.size (mI c.Z c.r i).1)) i
  else fh c i (rJ e (mI c.Z c.r i).1 (mI c.Z c.r i).2.1)
def IE(e:ai):Bool:=decide (aj e.i.op=2)&&decide (e.is=1)
def Fi(c:Co):List Int:=c.Z.map λe=>(aj e.i.op:Int)
def Kv(c:Co):List Bool:=(List.range c.Z.length).map (dg c)
def gY(c:Co):Co:=if c.halt≠0 then c else(kj c.Q.o (c.Z.any IE) (Fi c) (Kv c)).foldl iS c
def cl:Nat->Co->Co
 |0,c=>c
 | n+1,c=>
  if(c.Z.length:Int)>=c.Q.Z then c
  else match c.L with
   |[]=>c
   |f::l=>cl n {c with Z:=c.Z++[qB c.next f c.prog],next:=wrap64 (c.next+1),L:=l}
def lP(c:Co):Co:=if c.halt≠0 then c else cl c.Q.o.toNat c
def dM(c:Co)(w:Nat):Co×Nat:=
 if dq w=0\/aj (be w).op≠5 then(c,b_ c.J)
 else if c.Q.tables=true then(c,xC c.K c.J (be w))
 else({c with Z1:=wrap64 (c.Z1+1)},yG c.Q c.Z1 c.J)
def LU(c:Co)(n:Nat):Co:={c with L:=c.L++[⟨c.J,n⟩],J:=n}
def ch:Nat->Co->Co
 |0,c=>c
 | n+1,c=>
  if c.stop=true\/(c.L.length:Int)>=c.Q.queue then c
  else if(es c.prog c.J).isSome=false then {c with L:=c.L++[⟨c.J,b_ c.J⟩],stop:=true}
  else if(bK c.u (ao c.J)).2.isSome=false then
   (if Ec c.U (ao c.J) 2=false/\tA c false=true then jE c 2 (ao c.J) oZ else c)
  else
   ch n (LU (dM {c with u:=tO c.u (ao c.J)} (a8 c.prog c.J)).1 (dM {c with u:=tO c.u (ao c.J)} (a8 c.prog c.J)).2)
def eN(c:Co):Co:=if c.halt≠0 then c else ch c.Q.o.toNat c
def al(c:Co):Co:={c with V:=(sL c.V c.data).1,data:=(sL c.V c.data).2.1}
def c5(c:Co):Co:=
 match c.V with
 |[]=>c
 |p::_=>if Ec c.U (ao p.W) 3=false/\tA c true=true then jE c 3 (ao p.W) oZ else c
def pE(c:Co):Co:=
 match cR c.data with
 |some w=>if w.data.size≠0 then {jE c 4 w.S w.data with data:=wB c.data w.S}else c
 |none=>c
def cj(c:Co):Co:=if c.V≠[]\/c.halt=0 then c else pE c
def tY(c:Co):Co:=
 match c.V with
 |[]=>cj (al c)
 |_::_=>if(sL c.V c.data).2.2=true then cj (al c)else cj (c5 (al c))
def Ax(c:Ca)(f:Cf):Bool:=gG c&&decide ((c.O.length:Int)=f.O)&&decide (c.ways=f.ways)
def jF(c:Co):Bool:=
 wA c.Q&&decide (c.prog.length<=64)&&(c.mem.toList==(jB c.mem).toList)&&Ff c.Z&&decide ((c.Z.length:Int)<=c.Q.Z)&&(c.Z.all λe=>decide (e.no<c.next))&&Ax c.data c.Q&&Ax c.u c.Q&&sM c.K&&decide ((c.L.length:Int)<=c.Q.queue)&&decide ((c.V.length:Int)<=c.Q.V)&&c.V.all λp=>kZ c.mem.size p.W p.data.size
def g6(c:Co):Co:=tY (eN (lP (gY (ei (kK (lM {c with Z3:=wrap64 (c.Z3+1)}))))))
def uG(c:Co):Co:=if jF c=true then g6 c else c
def bz(c:Co):Nat->Co
 |0=>c
 |n+1=>uG (bz c n)
end Go.Proofs.YtiaekocjeinkjaaGreatDoor
