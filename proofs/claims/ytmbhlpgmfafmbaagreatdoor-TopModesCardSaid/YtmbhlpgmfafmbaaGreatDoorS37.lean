/- Lemmas. -/
import Derived.Test.YtmbhlpgmfafmbaaGreatDoorS1
import Derived.Test.YtmbhlpgmfafmbaaGreatDoorS34
import Derived.Test.YtmbhlpgmfafmbaaGreatDoorS35
import Derived.Test.YtmbhlpgmfafmbaaGreatDoorS36
set_option linter.all false
namespace Go.Proofs.YtmbhlpgmfafmbaaGreatDoor
set_option maxRecDepth 100000
set_option maxHeartbeats 1000000
open Go Go.RowKit
def xk(prog:List Nat):(Bj prog).take (min (Bj prog).length 64)=Bj prog:=aN (by unfold Bj;rw[aM];omega)
theorem nS(prog:List Nat)(s:St):∀k,cr prog (gE prog s).1 k=cr prog s (k+1)
 |0=>rfl
 |k+1=>by show(gE prog (cr prog (gE prog s).1 k)).1=_;rw[nS prog s k];rfl
theorem oy{prog:List Nat}:∀{s t:St} {l:List Sp},ir prog s l t->l=(fc prog s l.length).map Prod.snd∧cv prog l.length s=l.length
 |s,t,[],_=>⟨rfl,rfl⟩
 | s,t,x::l,⟨a,b,c⟩=>by
  obtain⟨d,e⟩:=oy c;constructor
  ·show x::l=((List.range (l.length+1)).map _).map _;rw[List.range_succ_eq_map,jC,jC,List.map_map,List.map_map];refine List.cons_eq_cons.2 ⟨b,?_⟩;refine(d.trans (by unfold fc;rw[List.map_map])).trans (iB λk _=>?_);show(gE prog (cr prog (gE prog s).1 k)).2=(gE prog (cr prog s (k+1))).2;rw[nS]
  ·show(if s.halt=0 then cv prog l.length (gE prog s).1+1 else 0)=_;rw[aa a,e];rfl
theorem la{X:Co}{m:ByteArray}(c:∀k,k<=3000->ip X k)(a:X.mc)(h:Iv X.prog X (PL m))(b:X.N=[]):∀k,k<=3000->∃t,ir X.prog (PL m) (uN X k).N t∧Iv X.prog (uN X k) t∧(uN X k).N.length<=k*X.U.u.toNat
 |0,_=>⟨_,by rw[show(uN X 0).N=[]from b];rfl,h,by rw[show(uN X 0).N=[]from b];exact aE _⟩
 |k+1,o=>by
  obtain⟨t,i,j,n⟩:=la c a h b k ad;obtain⟨l,u,d,e,f,g⟩:=Iv.run c h a k ad t j;refine⟨u,by rw[d];exact tg i f,g,?_⟩;rw[d,aU,Nat.succ_mul];have:(uN X k).U=X.U:=(c k ad).bd.U;rw[this]at e;omega
def gF(f:a2->Bool):List a2->Nat
 |[]=>0
 |x::l=>(if f x=true then x.left.toNat else 0)+gF f l
def b_(x:a2):Bool:=decide (x.kind≠4)
def cw(x:a2):Bool:=decide (x.kind=4)
def du(agY:Nat)(k:Int)(x:a2):Bool:=decide (x.R=agY)&&decide (x.kind=k)
def dt(agY:Nat)(k:Int):List a2->Nat
 |[]=>0
 |x::l=>(if b_ x=true then x.left.toNat else 0)+(if du agY k x=true then 0 else dt agY k l)
def dk(L:Nat):List a2->Nat
 |[]=>L
 |x::l=>if b_ x=true then x.left.toNat else dk L l
def cz(q:List a2):Nat:=(q.filter λx=>decide (x.kind=3)).length
def eo(L:Nat)(q:List a2):Prop:=∀x∈q,1<=x.left∧x.left<=(L:Int)
def rl(q:List a2)(agY:Nat)(k:Int):bf q agY k=q.any (du agY k):=rfl
def km(f:a2->Bool)(a b:List a2):gF f (a++b)=gF f a+gF f b:=by
 induction a with
 |nil=>simp[gF]
 |cons x l ih=>simp only[nV,gF,ih];omega
def mw(a b:List a2):yH (a++b)=yH a+yH b:=by simp[yH]
def n'(a b:List a2):cz (a++b)=cz a+cz b:=by simp[cz]
def ku(x:a2)(l:List a2):yH (x::l)=(if b_ x=true then 1 else 0)+yH l:=by
 unfold yH b_;rw[List.filter_cons];split<;>simp<;>omega
def nC(x:a2)(l:List a2):cz (x::l)=(if x.kind=3 then 1 else 0)+cz l:=by
 unfold cz;rw[List.filter_cons];by_cases h:x.kind=3<;>simp[h]<;>omega
def HT{L:Nat}{q:List a2}(h:eo L q):gF b_ q<=yH q*L:=by
 induction q with
 |nil=>simp[gF,yH]
 |cons x l ih=>
  have b:=h x b1;have:=ih λy a=>h y (bY _ a);rw[ku];unfold gF;split
  ·rw[cG];omega
  ·rw[bJ,bJ];exact this
def kg(agY:Nat)(k:Int)(q:List a2):dt agY k q<=gF b_ q:=by
 induction q with
 |nil=>exact aC _
 |cons x l ih=>unfold dt gF;split<;>split<;>omega
def oo{agY:Nat}{k:Int}{q:List a2}(h:bf q agY k=true)(p:List a2):dt agY k (q++p)=dt agY k q:=by
 induction q with
 |nil=>cases h
 |cons x l ih=>
  rw[rl,List.any_cons]at h;rw[nV];unfold dt;by_cases a:du agY k x=true
  ·rw[aa a,aa a]
  ·rw[dZ a,dZ a,ih (by rw[Bool.eq_false_iff.2 a]at h;exact h)]
def u4{L:Nat}{agY:Nat}{k:Int}(e:k≠4){q:List a2}(b:eo L q)(h:bf q agY k=true):1<=dt agY k q:=by
 induction q with
 |nil=>cases h
 | cons x l ih=>
  rw[rl,List.any_cons]at h;have d:=b x b1;unfold dt;by_cases a:du agY k x=true
  ·have:b_ x=true:=by unfold du at a;unfold b_;simp at a⊢;omega
   rw[aa this];omega
  ·have:=ih (λy c=>b y (bY _ c)) (by rw[Bool.eq_false_iff.2 a]at h;exact h);rw[dZ a];omega
def j5(q p:List a2)(agY:Nat)(k:Int):bf (q++p) agY k=(bf q agY k||bf p agY k):=by
 simp[bf]
def q'{L:Nat}{q p:List a2}(h:0<yH q):dk L (q++p)=dk L q:=by
 induction q with
 |nil=>cases h
 |cons x l ih=>
  rw[ku]at h;rw[nV];unfold dk;split
  ·rfl
  ·rename_i a;exact ih (by rw[dZ a]at h;omega)
def l9{L:Nat}{q:List a2}(a:eo L q):dk L q<=L:=by
 induction q with
 |nil=>exact aC _
 |cons x l ih=>
  have c:=a x b1;unfold dk;split
  ·omega
  ·exact ih λy b=>a y (bY _ b)
def xl{L:Nat}{q:List a2}(h:yH q=0):dk L q=L:=by
 induction q with
 |nil=>rfl
 |cons x l ih=>
  rw[ku]at h;unfold dk;split
  ·rename_i a;rw[aa a]at h;omega
  ·exact ih ad
def nF{L:Nat}{q p:List a2}(h:eo L q)(a:eo L p):eo L (q++p):=λx b=>(cp.1 b).elim (h x) (a x)
def p5{L:Nat}{q:List a2}(h:eo L q)(k:Int)(agY:Nat){left:Int}(b:1<=left∧left<=L)(d:ByteArray):eo L (Bi q k agY left d):=
 nF h λx a=>by rw[uJ]at a;subst a;show 1<=max left 1∧max left 1<=(L:Int);omega
def qj{x:Int}(h:0<=x)(a:x<=100):wrap64 x=x:=by unfold wrap64;omega
inductive nh(q:List a2):List a2×a2×Bool->Prop
 |none (h:q=[]) (x:a2):nh q ([],x,false)
 |go (x:a2) (r:List a2) (h:q=x::r) (h1:1<x.left) (y:a2):nh q ({x with left:=x.left-1}::r,y,false)
 |done (x:a2) (r:List a2) (h:q=x::r) (h1:x.left=1):nh q (r,{x with left:=0},true)
def vv{L:Nat}(c:L<=8){q:List a2}(b:eo L q):nh q (eH q):=by
 unfold eH
 cases q with
 |nil=>exact .none rfl _
 | cons x r=>
  have h:=b x b1;have e:wrap64 (x.left-1)=x.left-1:=qj ad ad;simp only[e];split
  ·exact .go x r rfl ad _
  ·have a:x.left-1=0:=oT;rw[a];exact .done x r rfl ad
def ie(e:ai):Prop:=am e.i.op=3∧e.is=0
instance (e:ai):Decidable (ie e):=inferInstanceAs (Decidable (_∧_))
def e8:List ai->Nat
 |[]=>0
 |e::l=>(if ie e then 0 else 1)+(if LT e=true then e8 l else 0)
structure fo(e e':ai):Prop where
 r: ¬ie e-> ¬ie e'
 s:LT e=true->LT e'=true
theorem fo.refl(e:ai):fo e e:=⟨id,id⟩
theorem fo.trans{a b c:ai}(h:fo a b)(k:fo b c):fo a c:=⟨λx=>k.r (h.r x),λx=>k.s (h.s x)⟩
def dd:List ai->List ai->Prop
 |[],_=>True
 |_::_,[]=>False
 |e::l,a::b=>fo e a∧(LT e=true->dd l b)
theorem dd.refl:∀a,dd a a
 |[]=>trivial
 |e::l=>⟨.refl e,λ_=>.refl l⟩
theorem dd.trans:∀{a b c:List ai},dd a b->dd b c->dd a c
 |[],_,_,_,_=>trivial
 |_::_,[],_,h,_=>h.elim
 |_::_,_::_,[],_,h=>h.elim
 |_::_,_::_,_::_,h,k=>⟨h.1.trans k.1,λz=>(h.2 z).trans (k.2 (h.1.s z))⟩
theorem dd.YJ:∀(a b:List ai),dd a (a++b)
 |[],_=>trivial
 |e::l,b=>⟨.refl e,λ_=>dd.YJ l b⟩
theorem dd.of:∀{a b:List ai},(∀(k:Nat) e,a[k]?=some e->(∀x∈a.take k,LT x=true)->∃c,b[k]?=some c∧fo e c)->dd a b
 |[],_,_=>trivial
 |e::l,[],h=>by obtain⟨_,h,_⟩:=h 0 e rfl (λ_ h=>by cases h);cases h
 |e::l,c::j,h=>by
  obtain⟨x,d,f⟩:=h 0 e rfl (λ_ h=>by cases h);injection d with d;subst d;refine⟨f,λz=>dd.of λk y i g=>?_⟩;exact h (k+1) y i (λw hw=>by rcases dh.1 hw with rfl|hw;exact z;exact g w hw)
theorem kr:∀{a b:List ai},dd a b->e8 a<=e8 b
 |[],_,_=>aE _
 |_::_,[],h=>h.elim
 | e::l,c::f,h=>by
  unfold e8;have d:(if ie e then 0 else 1)<=(if ie c then 0 else 1):=by
   by_cases z:ie e
   ·rw[aa z];omega
   ·rw[dZ z,dZ (h.1.r z)];exact aC _
  by_cases z:LT e=true
  ·rw[aa z,aa (h.1.s z)];have:=kr (h.2 z);omega
  ·rw[dZ z];omega
theorem vh:∀a:List ai,e8 a<=a.length
 |[]=>aC _
 |e::l=>by unfold e8;have:=vh l;rw[bN];split<;>split<;>omega
theorem v0:∀{a:List ai} {i:Nat} {e b:ai},a[i]?=some e->(∀x∈a.take i,LT x=true)->ie e-> ¬ie b->(LT e=true->LT b=true)->e8 a+1<=e8 (a.set i b)
 |[],_,_,_,h,_,_,_,_=>by cases h
 |x::l,0,e,b,h,_,c,d,f=>by
  injection h with h;subst h;show(if ie x then 0 else 1)+_+1<=(if ie b then 0 else 1)+_;rw[aa c,dZ d];by_cases z:LT x=true
  ·rw[aa z,aa (f z)];omega
  ·rw[dZ z];omega
 |x::l,i+1,e,b,h,g,c,d,f=>by
  have z:LT x=true:=g x b1;have:=v0 (a:=l) (i:=i) h (λy j=>g y (bY _ j)) c d f;show(if ie x then 0 else 1)+(if LT x=true then e8 l else 0)+1<=(if ie x then 0 else 1)+(if LT x=true then e8 (l.set i b)else 0);rw[aa z,aa z];omega
theorem dd.set{a:List ai}{i:Nat}{e c:ai}(b:a[i]?=some e)(h:fo e c):dd a (a.set i c):=by
 refine dd.of λk x d _=>?_;by_cases f:i=k
 ·subst f;rw[d]at b;injection b with b;subst b;exact⟨c,aZ (Em.1 d).1,h⟩
 exact⟨x,by rw[kX f];exact d,.refl x⟩
theorem dd.map{f:ai->ai}(h:∀e,fo e (f e))(a:List ai):dd a (a.map f):=
 dd.of λk x b _=>⟨f x,by rw[aX,b];rfl,h x⟩
def HW{agI:List ai}{i:Nat}(h:vC agI i=true):∀x∈agI.take i,LT x=true:=by
 unfold vC Cq at h;rw[aP,aY,aY]at h;intro x g;obtain⟨k,b⟩:=List.getElem?_of_mem g;rw[cU]at b;split at b
 ·rename_i f;have c:k<List.findIdx (λe=> !LT e) agI:=ei f h.2;have d:=List.not_of_lt_findIdx c;have a:agI[k]?=some x:=b;rw[aA (ei c List.findIdx_le_length)]at a;injection a with a;rw[a]at d;simpa using d
 cases b
def v8{e d:ai}(f:d.i=e.i)(g:d.halt=e.halt)(i:e.known=true->d.known=true)(h:LT e=true):LT d=true:=by
 unfold LT at h⊢;rw[f,g];split at h
 ·cases h
 split at h
 ·cases h
 split at h
 ·rename_i a b c;rw[dZ a,dZ b,aa c];exact i h
 rename_i a b c;rw[dZ a,dZ b,dZ c]
theorem fo.of{e a:ai}(b:a.i=e.i)(c:a.halt=e.halt)(d:e.known=true->a.known=true)(f:e.is≠0->a.is≠0):fo e a:=
 ⟨λh k=>h ⟨b ▸ k.1,er λz=>f z k.2⟩,v8 b c d⟩
def um(e:ai):fo e (a0 e):=by
 unfold a0;split
 ·exact .refl e
 rename_i h;split
 ·exact .of rfl rfl (λz=>by show(if _ then true else e.known)=true;split;rfl;exact z) (λ_=>by show(3:Int)≠0;decide)
 exact .of rfl rfl id id
def oI(e:ai)(s:ByteArray):fo e (uM e s):=by
 unfold uM;split
 ·exact .refl e
 exact .of rfl rfl id (λ_=>by show(1:Int)≠0;decide)
def xS(e:ai)(b:Nat):fo e (uF e b):=by
 unfold uF;split
 ·exact .refl e
 exact .of rfl rfl id (λ_=>by show(3:Int)≠0;decide)
def r0(e:ai)(n:Int)(a:Nat):fo e (yC e n a):=by
 unfold yC;split
 ·exact .refl e
 rename_i h;split
 ·exact .of rfl rfl (λ_=>rfl) id
 refine⟨λ_ k=>absurd k.2 (by show(3:Int)≠0;decide),λz=>?_⟩;unfold LT at z;split at z
 ·cases z
 split at z
 ·cases z
 split at z
 ·exact absurd (.inr (.inr z)) h
 rename_i c d b;exact absurd (.inl ⟨λk=>b (.inl k),λk=>b (.inr (.inl k))⟩) h
def G_{e:ai}(f:am e.i.op=5->e.known=true->e.is=3)(a b:Nat):fo e (rJ e a b):=by
 unfold rJ;split
 ·exact .refl e
 rename_i h;have c:(1:Int)≠0:=dT;split
 ·exact .of rfl rfl id (λ_=>c)
 split
 ·exact .of rfl rfl id (λ_=>c)
 split
 ·split
  ·exact .of rfl rfl id (λ_=>c)
  rename_i d _;refine⟨λ_ k=>absurd k.2 c,λz=>?_⟩;unfold LT at z;split at z
  ·cases z
  split at z
  ·cases z
  split at z
  ·exact absurd (f d z) (λq=>h (.inl (by rw[q];decide)))
  rename_i q;exact absurd (.inr (.inr d)) q
 exact .of rfl rfl id (λ_=>c)
def v'{e:ai}:fo e {e with is:=2}:=.of rfl rfl id (λ_=>by show(2:Int)≠0;decide)
def x'(c:Co)(agY:Nat)(e:ai):fo e (wO c agY e):=by
 unfold wO;split
 ·exact fo.trans (b:={e with Z3:=true}) (.of rfl rfl id id) (oI {e with Z3:=true} _)
 exact .refl e
theorem t_{r:Nat->Nat}{l:List ai}:∀n,dd l (bq r l n)
 |0=>.refl l
 | n+1=>by
  refine dd.trans (b:=bq r l n) (t_ n) ?_;show dd _ (et r (bq r l n) n);unfold et;split
  ·rename_i e a;split
   ·split
    ·exact .set a (xS _ _)
    ·exact .refl _
   ·exact .refl _
  ·exact .refl _
def AI(c:Co):dd c.Z (bp c):=(dd.map um c.Z).trans (t_ _)
def ig(d:Ca):Prop:=∀w,b7 d w->0<w.data.size
def lc{c:Ca}(h:bT c){agY:Nat}{w:Wy}(b:b7 c w)(e:w.R=ab agY):(bK c agY).2.isSome=true:=by
 cases a:(bK c agY).2.isSome with
 |true=>rfl
 |false=>exact absurd e (px h a b)
def fI(a:Nat):ab (ab a)=ab a:=by unfold ab;omega
def vk(q:List a2)(m:ByteArray):(jZ q m).size=m.size:=by unfold jZ;rw[iY]
def ry{d:Ca}{q:List a2}{m:ByteArray}{agY:Nat}(left:Int)(b:bT d)(k:m.size%16=0)(s:ab agY+16<=m.size)(e:ig d):
  ig (iQ d q m agY left).1∧∃w,b7 (iQ d q m agY left).1 w∧w.R=ab agY:=by
 have p:=(gl.1 b).1;unfold iQ;rw[dZ (by rw[p];decide)];by_cases a:(bK d (ab agY)).2.isSome=true
 ·rw[aa a];obtain⟨w,_,n,o⟩:=ll b a;exact⟨λw c=>e w ((nj b _).1 c),w,(nj b _).2 n,o.trans (fI _)⟩
 rw[dZ a];have a:=Bool.eq_false_iff.2 a;have i:(dC (Ga (jZ q m) (ab agY))).size=16:=(u6 (i:=ab agY) (by rw[vk];exact k) (by rw[vk];omega) rfl).1;have g:=o7 b a (Ga (jZ q m) (ab agY)) false;generalize qZ d (ab agY) (Ga (jZ q m) (ab agY)) false=z at g;obtain⟨f,l,r⟩:=z;have j:ig f∧∃w,b7 f w∧w.R=ab agY:=by
  rcases g with ⟨_,h⟩|⟨_,_,h⟩
  ·refine⟨λw c=>?_,_,(h _).2 (.inl rfl),fI _⟩;rcases(h w).1 c with rfl|q
   ·show 0<(dC _).size;rw[i];decide
   exact e w q
  refine⟨λw c=>?_,_,(h _).2 (.inl rfl),fI _⟩;rcases(h w).1 c with rfl|q
  ·show 0<(dC _).size;rw[i];decide
  exact e w q.1
 simp only;split<;>exact j
def v6{d:Ca}(b:bT d)(g:ig d){p:Pt}{n:Nat}(hp:kZ n p.V p.data.size=true){w:Wy}(j:b7 d w)(e:w.R=ab p.V):(xL d p.V p.data).2=true:=by
 have a:=lc b j e;obtain⟨x,c,f,_⟩:=ll b a;rw[At p.data a rfl c];have k:=g x f;have l:p.data.size+p.V%16<=16:=by
  unfold kZ at hp;simp only[aP,dE,aY]at hp;have i:p.data.size=1∨p.data.size=2∨p.data.size=4:=oT;have h:p.V%p.data.size=0:=oH hp;rcases i with q|q|q<;>rw[q]at h⊢ <;>omega
 rw[dZ ad]
def tl{d:Ca}(f:bT d)(e:ig d){a:Nat}{b:ByteArray}(h:(xL d a b).2=true):ig (xL d a b).1:=by
 obtain⟨v,k,_,j,i,c⟩:=wK f h;intro w g;rcases(c w).1 g with rfl|q
 ·show 0<(Fk v.data (a%16) b).size;unfold Fk;rw[kH,kH,dA,dA];omega
 exact e w q.1
structure SE(y x:ai):Prop where
 i:x.i=y.i
 V:x.V=y.V
 is:x.is=y.is∨x.is=3
 left:x.left=y.left
 halt:x.halt=y.halt
 known:x.known=y.known
 no:am y.i.op≠4->x=y
theorem SE.refl(y:ai):SE y y:=⟨rfl,rfl,.inl rfl,rfl,rfl,rfl,λ_=>rfl⟩
theorem SE.trans{a b c:ai}(h:SE a b)(k:SE b c):SE a c:=
 ⟨k.i.trans h.i,k.V.trans h.V,k.is.elim (λz=>h.is.imp (z.trans ·) (z.trans ·)) .inr,k.left.trans h.left,k.halt.trans h.halt,k.known.trans h.known,λz=>by have e:=h.no z;subst e;exact k.no z⟩
def u7(e:ai)(b:Nat)(a:am e.i.op=4):SE e (uF e b):=by
 unfold uF;split
 ·exact .refl e
 exact⟨rfl,rfl,.inr rfl,rfl,rfl,rfl,λz=>absurd a z⟩
theorem gT{r:Nat->Nat}{l:List ai}:∀{n k:Nat} {x:ai},(bq r l n)[k]?=some x->∃y,l[k]?=some y∧SE y x
 |0,_,x,h=>⟨x,h,.refl x⟩
 | n +1,k,x,h=>by
  have h:(et r (bq r l n) n)[k]?=some x:=h;unfold et at h;split at h
  ·rename_i e a;split at h
   ·rename_i f;split at h
    ·by_cases b:n=k
     ·subst b;rw[aZ (Em.1 a).1]at h;injection h with h;subst h;obtain⟨y,c,d⟩:=gT a;exact⟨y,c,d.trans (u7 e _ f)⟩
     ·rw[kX b]at h;exact gT h
    ·exact gT h
   ·exact gT h
  ·exact gT h
def pa{agI:List ai}{r:Nat->Nat}{a:Int}(h:0<=a∧a<32):(lK agI r 0 a).isSome=true:=by
 unfold lK gX;split
 ·rfl
 split
 ·omega
 have:(if a<1∨a>31 then none else hv agI a (min 0 agI.length))=none:=by
  split
  ·rfl
  rw[Nat.zero_min];rfl
 rw[this];rfl
theorem v3{r:Nat->Nat}{e:ai}{l:List ai}:∀n,∃x a,bq r (e::l) (n+1)=x::a∧SE e x∧(am e.i.op=4->e.known=true->e.is=0->0<=e.i.o∧e.i.o<32->x.is=3)
 | 0=>by
  show ∃x a,et r (e::l) 0=x::a∧_;unfold et;rw[cP];simp only;split
  ·rename_i d;split
   ·refine⟨_,_,rfl,u7 e _ d,λ_ f g _=>?_⟩;unfold uF;rw[dZ (by rw[d,f,g];decide)]
   ·rename_i f;refine⟨e,l,rfl,.refl e,λ_ _ _ z=>?_⟩;have:=pa (agI:=e::l) (r:=r) z;rw[f]at this;cases this
  ·rename_i d
   exact⟨e,l,rfl,.refl e,λz=>absurd z d⟩
 | n+1=>by
  obtain⟨x,a,h,b,c⟩:=v3 (r:=r) (e:=e) (l:=l) n;show ∃x a,et r (bq r (e::l) (n+1)) (n+1)=x::a∧_;rw[h];unfold et;split
  ·split
   ·split
    ·exact⟨x,a.set n _,rfl,b,c⟩
    ·exact⟨x,a,rfl,b,c⟩
   ·exact⟨x,a,rfl,b,c⟩
  ·exact⟨x,a,rfl,b,c⟩
def rj{c:Co}{x:ai}(h:x∈(kK c).Z):(c.halt≠0∧x∈c.Z)∨∃y∈bp c,∃g,x={y with M:=g}:=by
 unfold kK at h;split at h
 ·rename_i b;exact .inl ⟨b,h⟩
 refine .inr ?_;split at h
 ·rename_i i d;have h:x∈c3 (bp c) i:=h;unfold c3 at h;split at h
  ·rename_i e a;rcases cp.1 h with h|h
   ·exact⟨x,cQ h,x.M,rfl⟩
   rw[uJ]at h;exact⟨e,aB a,_,h⟩
  exact⟨x,h,x.M,rfl⟩
 exact⟨x,h,x.M,rfl⟩
def wh{c:Co}{x:ai}(h:x∈bp c):∃y∈c.Z,SE (a0 y) x:=by
 obtain⟨k,e⟩:=List.getElem?_of_mem h;obtain⟨y,a,d⟩:=gT (show(bq c.r (c.Z.map a0) c.Z.length)[k]?=some x from e);rw[aX]at a
 cases b:c.Z[k]? with
 |none=>rw[b]at a;cases a
 |some z=>rw[b]at a;injection a with a;subst a;exact⟨z,aB b,d⟩
def he(e:ai):Prop:=e.is=1->1<=e.left∧e.left<=34
def z4{e:ai}(h:he e):he (a0 e):=by
 unfold a0;split
 ·exact h
 rename_i a;have a:e.is=1:=ej.1 a;have:=h a;have b:wrap64 (e.left-1)=e.left-1:=qj ad ad;rw[b];split
 ·intro z;exact absurd z (by show(3:Int)≠1;decide)
 intro _;show 1<=e.left-1∧e.left-1<=34;omega
def wj{e:ai}(h:he e)(b:(a0 e).is=1):e.is=1∧(a0 e).left=e.left-1:=by
 unfold a0 at b⊢;split at b
 ·rename_i a;exact absurd b a
 rename_i a;have a:e.is=1:=ej.1 a;have:=h a;have d:wrap64 (e.left-1)=e.left-1:=qj ad ad;rw[dZ ad];rw[d]at b⊢;split at b
 ·exact absurd b (by show(3:Int)≠1;decide)
 rename_i c;rw[dZ c];exact⟨a,rfl⟩
def z_{e:ai}(h:(a0 e).is=2):a0 e=e:=by
 unfold a0 at h⊢;split
 ·rfl
 rename_i a;rw[dZ a]at h;have a:e.is=1:=ej.1 a;split at h
 ·exact absurd h (by show(3:Int)≠2;decide)
 have h:e.is=2:=h;omega
def bl:List ai->Nat
 |[]=>0
 |e::l=>max (if IE e=true then e.left.toNat else 0) (bl l)
theorem ly:∀{l:List ai} {e:ai},e∈l->IE e=true->e.left.toNat<=bl l
 |x::l,e,h,a=>by
  unfold bl;rcases dh.1 h with rfl|h
  ·rw[aa a];omega
  ·have:=ly h a;omega
theorem mb{n:Nat}:∀{l:List ai},(∀e∈l,IE e=true->e.left.toNat<=n)->bl l<=n
 |[],_=>aE _
 |x::l,h=>by
  unfold bl;have d:=mb λe c=>h e (bY _ c);have a:=h x b1;split
  ·rename_i b;have:=a b;omega
  ·omega
def qv{c:Co}(j:∀e∈c.Z,he e){x:ai}(h:x∈(kK c).Z):he x∧∃y∈c.Z,x.V=y.V∧x.i=y.i∧(x.is=2->y.is=2)∧(IE x=true->(c.halt≠0∧x=y)∨IE y=true∧x.left=y.left-1):=by
 rcases rj h with ⟨m,h⟩|⟨z,n,g,rfl⟩
 ·exact⟨j x h,x,h,rfl,rfl,id,λ_=>.inl ⟨m,rfl⟩⟩
 obtain⟨y,l,d⟩:=wh n;have i:(a0 y).V=y.V∧(a0 y).i=y.i:=by unfold a0;split;exact⟨rfl,rfl⟩;split<;>exact⟨rfl,rfl⟩
 refine⟨λf=>?_,y,l,d.V.trans i.1,d.i.trans i.2,λq=>?_,λq=>?_⟩
 ·have f:z.is=1:=f;rcases d.is with q|q
  ·rw[show({z with M:=g}:ai).left=z.left from rfl,d.left];exact z4 (j y l) (q ▸ f)
  omega
 ·have q:z.is=2:=q;rcases d.is with k|k
  ·have:=z_ (k ▸ q:(a0 y).is=2);rw[this]at k;omega
  omega
 have q:IE z=true:=q;unfold IE at q;simp only[aP,aY]at q;rcases d.is with k|k
 ·obtain⟨a,b⟩:=wj (j y l) (k ▸ q.2);refine .inr ⟨?_,d.left.trans b⟩;unfold IE;rw[d.i,i.2]at q;simp[q.1,a]
 omega
def ED{c:Co}(m:∀e∈c.Z,he e)(l:c.halt=0)(h:(kK c).Z.any IE=true):bl (kK c).Z+1<=bl c.Z:=by
 have b:∀x∈(kK c).Z,IE x=true->x.left.toNat+1<=bl c.Z:=λx d a=>by
  obtain⟨i,y,n,_,_,_,j⟩:=qv m d;rcases j a with ⟨z,_⟩|⟨g,o⟩
  ·exact absurd l z
  have:=ly n g;have f:x.is=1:=by unfold IE at a;simp at a;exact a.2
  have:=i f;omega
 obtain⟨x,d,a⟩:=Mv.1 h;have f:=b x d a;have:=mb (n:=bl c.Z-1) (l:=(kK c).Z) λe k q=>by have:=b e k q;omega
 omega
structure LI(L:Nat)(c:Co):Prop where
 J:∀k,1<=lX c.U k∧lX c.U k<=(L:Int)
 b:eo L c.Y
 two:∀e∈c.Z,e.is=2->bf c.Y (ab e.V) 1=true
 one:∀e∈c.Z,he e
 ld:∀e∈c.Z,am e.i.op=3->e.is≠0->e.halt=0->e.known=true
 w:NW c.Z
 st:c.halt=0->c.stop=true->∃f,(c.Z.map (·.K)++c.O.map (·.K)).getLast?=some f∧(ez c.prog f).isSome=false
 d:ig c.data
 l:∀x∈c.Y,x.kind=3->ab x.R+16<=c.mem.size
def wm{q p:List a2}{agY:Nat}{k:Int}(h:bf q agY k=true):bf (q++p) agY k=true:=by rw[j5,h];rfl
theorem LI.ZI{L:Nat}{c:Co}(h:LI L c)(r:bT c.data)(m:c.mem.size%16=0){agY:Nat}(t:ab agY+16<=c.mem.size):LI L (oK c agY)∧∃w,b7 (oK c agY).data w∧w.R=ab agY:=by
 have g:=ry (q:=c.Y) (lX c.U c.asked) r m t h.d;obtain⟨i,_,b,j,_,_,k⟩:=ji c agY;have y:(oK c agY).data=(iQ c.data c.Y c.mem agY (lX c.U c.asked)).1:=rfl;have n:∃p,(oK c agY).Y=c.Y++p∧eo L p∧∀x∈p,x.kind=4:=by
  rcases ox c agY with ⟨q,_⟩|⟨l,d,q,_⟩
  ·exact⟨[],by rw[q,dY],(λx a=>by cases a),(λx a=>by cases a)⟩
  refine⟨_,q,λx a=>?_,λx a=>?_⟩
  ·rw[uJ]at a;subst a;have:=h.J c.asked;show 1<=max _ _∧max _ _<=(L:Int);omega
  rw[uJ]at a;subst a;rfl
 obtain⟨p,f,u,v⟩:=n;refine⟨⟨by rw[j];exact h.J,by rw[f];exact nF h.b u,?_,by rw[b];exact h.one,by rw[b];exact h.ld,by rw[b];exact h.w,?_,g.1,?_⟩,g.2⟩
 ·rw[b,f];exact λe o z=>wm (h.two e o z)
 ·rw[b,k];exact h.st
 rw[f,i];intro x a s;rcases cp.1 a with z|z
 ·exact h.l x z s
 have:=v x z;omega
def lb(c:Co)(agY:Nat)(e:ai):(wO c agY e).i=e.i∧(wO c agY e).known=e.known∧(wO c agY e).next=e.next∧(wO c agY e).M=e.M∧(wO c agY e).K=e.K∧(wO c agY e).V=e.V∧(wO c agY e).halt=e.halt:=by
 unfold wO;split
 ·unfold uM;split<;>exact⟨rfl,rfl,rfl,rfl,rfl,rfl,rfl⟩
 exact⟨rfl,rfl,rfl,rfl,rfl,rfl,rfl⟩
def qn{c:Co}{agY:Nat}{e:ai}(a:e.is=2->am e.i.op=3∧e.known=true):(wO c agY e).is=e.is∧(wO c agY e).left=e.left∧ ¬(e.is=2∧ab e.V=agY)∨e.is=2∧ab e.V=agY∧(wO c agY e).is=1∧(wO c agY e).left=1:=by
 unfold wO;split
 ·rename_i h;obtain⟨b,d⟩:=a h.1;refine .inr ⟨h.1,h.2,?_⟩;unfold uM;rw[dZ (by simp[b,d,h.1])];exact⟨rfl,rfl⟩
 rename_i h;exact .inl ⟨rfl,rfl,h⟩
def AT{e a:ai}(b:a.i=e.i)(c:a.known=e.known)(d:a.next=e.next)(f:a.M=e.M):Nj a=Nj e:=by unfold Nj;rw[b,c,d,f]
theorem LI.q{L:Nat}{c:Co}(h:LI L c){q:List a2}(a:eo L q)(d:∀e∈c.Z,e.is=2->bf q (ab e.V) 1=true)(b:∀x∈q,x.kind=3->ab x.R+16<=c.mem.size):LI L {c with Y:=q}:=
 ⟨h.J,a,d,h.one,h.ld,h.w,h.st,h.d,b⟩
def wa{L:Nat}{x:a2}{r:List a2}(h:eo L (x::r)):eo L r:=λy a=>h y (bY _ a)
def m_(x:a2)(r:List a2)(agY:Nat)(k:Int):bf (x::r) agY k=(du agY k x||bf r agY k):=rfl
theorem LI.ZE{L:Nat}(H:L<=8){c:Co}(h:LI L c)(v:c.mc)(F:∀e∈c.Z,e.is=2->am e.i.op=3∧e.known=true):LI L (lM c):=by
 have B:=vv H h.b;unfold lM;generalize eH c.Y=t at B
 cases B with
 |none i x=>
  show LI L {c with Y:=[]}
  exact h.q (λy m=>by cases m) (λe d z=>by have:=h.two e d z;rw[i]at this;exact this) (λy m=>by cases m)
 | go x r i E y=>
  show LI L {c with Y:={x with left:=x.left-1}::r};have l:=h.b;rw[i]at l;have M:=l x b1;refine h.q (λz hz=>?_) (λe d z=>?_) (λz hz j=>?_)
  ·rcases dh.1 hz with rfl|hz
   ·show 1<=x.left-1∧x.left-1<=(L:Int);omega
   ·exact l z (bY _ hz)
  ·have:=h.two e d z;rw[i]at this;exact this
  ·rcases dh.1 hz with rfl|hz
   ·exact h.l x (by rw[i];exact b1) j
   ·exact h.l z (by rw[i];exact bY _ hz) j
 | done x r i E=>
  show LI L (ID {c with Y:=r} {x with left:=0});have l:=h.b;rw[i]at l;have C:∀y∈r,y.kind=3->ab y.R+16<=c.mem.size:=λy m=>h.l y (by rw[i];exact bY _ m);have D:∀e∈c.Z,e.is=2-> ¬(x.kind=1∧ab e.V=x.R)->bf r (ab e.V) 1=true:=λe d z n=>by
   have:=h.two e d z;rw[i,m_]at this;rcases(dE _ _).mp this with k|k
   ·unfold du at k;simp only[aP,aY]at k;exact absurd ⟨k.2,k.1.symm⟩ n
   ·exact k
  unfold ID;split
  ·rename_i j;have j:x.kind=1:=j;have p:∀e∈c.Z,((wO {c with Y:=r} x.R e).is=2->e.is=2∧ ¬ab e.V=x.R)∧(he e->he (wO {c with Y:=r} x.R e))∧(e.is=0->(wO {c with Y:=r} x.R e).is=0):=λe d=>by
    rcases qn (c:={c with Y:=r}) (agY:=x.R) (F e d)with ⟨a,b,n⟩|⟨a,b,u,o⟩
    ·exact⟨λz=>⟨a ▸ z,λw=>n ⟨a ▸ z,w⟩⟩,λz w=>by rw[b];exact z (a ▸ w),λz=>a.trans z⟩
    ·exact⟨λz=>by omega,λ_ _=>by rw[o];decide,λz=>by omega⟩
   refine⟨h.J,wa l,?_,?_,?_,?_,?_,h.d,C⟩
   ·intro A g z;obtain⟨e,d,rfl⟩:=pG.1 g;obtain⟨u,o⟩:=(p e d).1 z;rw[(lb _ _ e).2.2.2.2.2.1];exact D e d u λq=>o q.2
   ·intro A g;obtain⟨e,d,rfl⟩:=pG.1 g;exact(p e d).2.1 (h.one e d)
   ·intro A g u o K;obtain⟨e,d,rfl⟩:=pG.1 g;have s:=lb {c with Y:=r} x.R e;rw[s.2.1];exact h.ld e d (s.1 ▸ u) (λq=>o ((p e d).2.2 q)) (s.2.2.2.2.2.2 ▸ K)
   ·intro A g;obtain⟨e,d,rfl⟩:=pG.1 g;have s:=lb {c with Y:=r} x.R e;rw[AT s.1 s.2.1 s.2.2.1 s.2.2.2.1];exact h.w e d
   ·intro I J;have:((c.Z.map (wO {c with Y:=r} x.R)).map (·.K))=c.Z.map (·.K):=by
     rw[List.map_map];exact iB λe _=>(lb _ _ e).2.2.2.2.1
    show ∃f,((c.Z.map (wO {c with Y:=r} x.R)).map (·.K)++_).getLast?=some f∧_;rw[this];exact h.st I J
  ·rename_i j;have j:x.kind≠1:=j;have h':LI L {c with Y:=r}:=h.q (wa l) (λe d z=>D e d z λq=>j q.1) C;split
   ·exact⟨h'.J,h'.b,h'.two,h'.one,h'.ld,h'.w,h'.st,h'.d,h'.l⟩
   split
   ·rename_i G;exact(h'.ZI v.g v.al (h.l x (by rw[i];exact b1) G)).1
   split
   ·exact⟨h'.J,h'.b,h'.two,h'.one,h'.ld,h'.w,h'.st,h'.d,λy m k=>by
     show _<=(rP c.mem _).size;rw[iY];exact h'.l y m k⟩
   ·exact h'
def j9(e:ai):(a0 e).K=e.K∧(a0 e).i=e.i∧(a0 e).halt=e.halt∧(a0 e).V=e.V∧(e.known=true->(a0 e).known=true)∧(e.is=0->(a0 e).is=0)∧(am e.i.op≠5->(a0 e).known=e.known)∧(a0 e).M=e.M∧(a0 e).next=e.next:=by
 unfold a0;split
 ·exact⟨rfl,rfl,rfl,rfl,id,id,λ_=>rfl,rfl,rfl⟩
 rename_i h;split
 ·exact⟨rfl,rfl,rfl,rfl,λz=>by show(if _ then true else e.known)=true;split;rfl;exact z,λz=>by omega,λz=>by show(if _ then true else e.known)=_;rw[dZ λq=>z q.1],rfl,rfl⟩
 exact⟨rfl,rfl,rfl,rfl,id,λz=>by omega,λ_=>rfl,rfl,rfl⟩
def zc(e:ai)(b:Nat):(uF e b).K=e.K:=by unfold uF;split<;>rfl
theorem m3{r:Nat->Nat}{l:List ai}:∀n,(bq r l n).map (·.K)=l.map (·.K)
 |0=>rfl
 | n +1=>by
  show(et r (bq r l n) n).map (·.K)=_;unfold et;split
  ·rename_i e c;split
   ·split
    ·rw[List.map_set,zc, <-m3 (r:=r) (l:=l) n];obtain⟨a,b⟩:=Em.1 c
     conv=>rhs;rw[<- @List.set_getElem_self _ ((bq r l n).map (·.K)) n (by rw[aH];exact a)]
     rw[List.getElem_map,b]
    ·exact m3 n
   ·exact m3 n
  ·exact m3 n
def JP(c:Co):(bp c).map (·.K)=c.Z.map (·.K):=by
 unfold bp;rw[m3,List.map_map];exact iB λe _=>(j9 e).1
def pd(c:Co):(kK c).Y=c.Y∧(kK c).U=c.U∧(kK c).data=c.data∧(kK c).mem=c.mem∧(kK c).halt=c.halt∧(kK c).prog=c.prog∧(kK c).y=c.y∧(kK c).W=c.W∧(kK c).r=c.r:=by
 unfold kK;(repeat' split)<;>exact⟨rfl,rfl,rfl,rfl,rfl,rfl,rfl,rfl,rfl⟩
theorem LI.ZD{L:Nat}{c:Co}(h:LI L c)(C:NW (kK c).Z):LI L (kK c):=by
 obtain⟨k,p,r,t,u,E, -⟩:=pd c;refine⟨by rw[p];exact h.J,by rw[k];exact h.b,λe b z=>?_,λe b=>(qv h.one b).1,λe b a i j=>?_,C,λB d=>?_,by rw[r];exact h.d,by rw[k,t];exact h.l⟩
 ·obtain⟨_,y,m,n,_,o,_⟩:=qv h.one b;rw[k,n];exact h.two y m (o z)
 ·rcases rj b with ⟨_,q⟩|⟨z,D,g,rfl⟩
  ·exact h.ld e q a i j
  obtain⟨y,m,s⟩:=wh D;obtain⟨F,v,w,G,x,A,H,_⟩:=j9 y;have a:am z.i.op=3:=a;have l:=s.no (by rw[<-s.i,a];decide);rw[l]at a;have i:z.is≠0:=i;have j:z.halt=0:=j;rw[l]at i j;show z.known=true;rw[l];exact x (h.ld y m (v ▸ a) (λq=>i (A q)) (w ▸ j))
 unfold kK at d⊢;split at d
 ·rename_i q;rw[aa q];exact absurd (u ▸ B) q
 rename_i q;rw[dZ q];split at d
 ·cases d
 rename_i I;show ∃f,((bp c).map (·.K)++c.O.map (·.K)).getLast?=some f∧_;rw[JP];exact h.st (ej.1 q) d
def IH{d:Type}{a b:List d}{x z:d}(h:(x::a++b).getLast?=some z)(e:a++b≠[]):(a++b).getLast?=some z:=by
 cases c:a++b with
 |nil=>exact absurd c e
 |cons y l=>rw[nV,c]at h;exact h
def B8{prog:List Nat}{T:St}{e:ai}(h:db prog T e)(a:(ez prog e.K).isSome=false):(cA e).halt≠0:=by
 have hp: ¬ga prog e.K:=λz=>by rw[z.1]at a;cases a
 have b:=(h.Zv hp).1;rw[h.told (.inr b)];unfold ek gE;rw[aa rfl,dZ (by show ¬(ez prog e.K).isSome=true;rw[a];decide)];exact(dT:(1:Int)≠0)
theorem LI.pop{L:Nat}{c:Co}(h:LI L c){e:ai}{l:List ai}(d:c.Z=e::l){prog:List Nat}(hp:c.prog=prog){T:St}(i:db prog T e)(m:(cA e).halt=0)(r:Nat->Nat)(g:Gu):LI L {c with Z:=l,r:=r,M:=g}:=by
 have b:∀x∈l,x∈c.Z:=λx a=>by rw[d];exact bY _ a
 refine⟨h.J,h.b,λx a=>h.two x (b x a),λx a=>h.one x (b x a),λx a=>h.ld x (b x a),λx a=>h.w x (b x a),λj k=>?_,h.d,h.l⟩;obtain⟨f,f1,f2⟩:=h.st j k;refine⟨f,?_,f2⟩;rw[d,jC]at f1;refine IH f1 λq=>?_;rw[nV,q]at f1;injection f1 with f1;have f1:e.K=f:=f1;exact B8 i (by rw[<-hp,f1];exact f2) m
def vf{e:ai}:(cA e).halt=e.halt:=by
 unfold cA;by_cases h:e.halt≠0
 ·rw[aa h]
 rw[dZ h];have:e.halt=0:=ej.1 h;rw[this]
 (repeat' split)<;>rfl
def r3{e:ai}(h:e.halt=0)(k:am e.i.op=3):(cA e).V=e.V:=by
 unfold cA;rw[dZ ad,dZ ad,aa k]
def qc{n a k:Nat}(b:n%16=0)(h:kZ n a k=true):ab a+16<=n:=by
 unfold kZ at h;simp only[aP,aY]at h;unfold ab;omega
theorem LI.Y5{L:Nat}{prog:List Nat}:∀(n:Nat) {c:Co} {s:St},LI L c->Iv prog c s->c.mc->(∀e∈c.Z,e.ok)->(∀e∈c.Z,e.known=true->am e.i.op=3∨am e.i.op=4->kZ c.mem.size e.V (bP e.i.op)=true)->LI L (eC n c)
 |0,_,_,h,_,_,_,_=>h
 | n + 1,c,s,h,hI,j,A,w=>by
  have C:=h.w;unfold eC;split
  ·exact h
  ·rename_i q;have q:c.halt=0:=ej.1 q;split
   ·exact h
   ·rename_i e l g;split
    ·exact h
    ·rename_i p;have p:e.is=3:=ej.1 p;have i:e∈c.Z:=by rw[g];exact b1
     split
     ·rename_i f;exact⟨h.J,h.b,(λx d=>by cases d),(λx d=>by cases d),(λx d=>by cases d),(λx d=>by cases d),λz=>absurd z f,h.d,h.l⟩
     ·rename_i f;have f:(cA e).halt=0:=ej.1 f;split
      ·exact h
      ·have v:db prog s e:=by have:=hI.ri.ok;rw[g]at this;exact this.1
       have m:e.halt=0:=vf ▸ f;have t:LI L (fZ c (cA e)):=⟨h.J,h.b,h.two,h.one,h.ld,h.w,h.st,h.d,h.l⟩;have o:(fZ c (cA e)).mc:=ea j rfl rfl rfl;have B:LI L (vG (fZ c (cA e)) e (cA e)):=by
        unfold vG;split
        ·rename_i r;have y:=h.ld e i r ad m;exact(t.ZI o.g o.al (by rw[r3 m r];exact qc j.al (w e i y (.inl r)))).1
        ·exact t
       obtain⟨D,E⟩:=(hI.Zi C j g (A e i) p q).2.2.2 f;have k:(vG (fZ c (cA e)) e (cA e)).prog=c.prog∧(vG (fZ c (cA e)) e (cA e)).Z=c.Z∧(vG (fZ c (cA e)) e (cA e)).mem=c.mem:=by
        unfold vG;split
        ·exact⟨(ji _ _).2.2.2.2.2.2,(ji _ _).2.2.1,(ji _ _).1⟩
        ·exact⟨rfl,rfl,rfl⟩
       have u:=B.pop (k.2.1.trans g) (k.1.trans hI.pr) v f (lY c.r (cA e)) (fM c.M (cA e).K (cA e).next e.i);refine LI.Y5 n (c:=vZ c e (cA e) l) u D E (λx d=>A x (by rw[g];exact bY _ d)) λx d a b=>?_;rw[show(vZ c e (cA e) l).mem=c.mem from k.2.2];exact w x (by rw[g];exact bY _ d) a b
structure SR(L:Nat)(c d:Co):Prop where
 U:d.U=c.U
 data:d.data=c.data
 y:d.y=c.y
 W:d.W=c.W
 Yr:d.Yr=c.Yr
 O:d.O=c.O
 stop:d.stop=c.stop
 mem:d.mem=c.mem
 prog:d.prog=c.prog
 halt:d.halt=c.halt
 r:d.r=c.r
 Y:∃p,d.Y=c.Y++p∧eo L p∧∀x∈p,x.kind=1
 Z:dd c.Z d.Z
 ZG:(yH c.Y:Int)<c.U.C->(yH d.Y:Int)>=c.U.C->e8 c.Z+1<=e8 d.Z
theorem SR.refl(L:Nat)(c:Co):SR L c c:=⟨rfl,rfl,rfl,rfl,rfl,rfl,rfl,rfl,rfl,rfl,rfl,⟨[],(dY _).symm,(λx d=>by cases d),(λx d=>by cases d)⟩,.refl _,λa b=>by omega⟩
theorem SR.trans{L:Nat}{a b c:Co}(h:SR L a b)(k:SR L b c):SR L a c:=by
 obtain⟨p,e,f,g⟩:=h.Y;obtain⟨q,i,j,l⟩:=k.Y;refine⟨k.U.trans h.U,k.data.trans h.data,k.y.trans h.y,k.W.trans h.W,k.Yr.trans h.Yr,k.O.trans h.O,k.stop.trans h.stop,k.mem.trans h.mem,k.prog.trans h.prog,k.halt.trans h.halt,k.r.trans h.r,⟨p++q,by rw[i,e,eD],nF f j,λx d=>(cp.1 d).elim (g x) (l x)⟩,h.Z.trans k.Z,λx y=>?_⟩;have m:=kr h.Z;have n:=kr k.Z;by_cases z:(yH b.Y:Int)>=a.U.C
 ·have:=h.ZG x z;omega
 have:=k.ZG (by rw[h.U];omega) (by rw[h.U];exact y);omega
def k'{L:Nat}{c:Co}{j:Nat}{e f:ai}(g:c.Z[j]?=some e)(h:fo e f):SR L c (bt c j f):=
 ⟨rfl,rfl,rfl,rfl,rfl,rfl,rfl,rfl,rfl,rfl,rfl,⟨[],(dY _).symm,(λx d=>by cases d),(λx d=>by cases d)⟩,.set g h,λa b=>by have b:(yH c.Y:Int)>=c.U.C:=b;omega⟩
def H2{L:Nat}{c:Co}(h:LI L c){j:Nat}{e:ai}(f:c.Z[j]?=some e)(o:am e.i.op=3)(k:e.known=true->e.is=0):SR L c (oE c j):=by
 unfold oE;rw[f];simp only;split
 ·exact .refl L c
 ·rename_i g;have g:e.known=true:=sU g;have k:=k g;split
  ·exact k' f (oI _ _)
  split
  ·exact .refl L c
  split
  ·exact k' f (oI _ _)
  split
  ·exact k' f v'
  split
  ·rename_i p;have m:(bt (jE c 1 (ab e.V) oZ) j {e with is:=2}).Y=c.Y++[⟨1,ab e.V,max (lX c.U c.asked) 1,oZ⟩]:=rfl;have n:=h.J c.asked;refine⟨rfl,rfl,rfl,rfl,rfl,rfl,rfl,rfl,rfl,rfl,rfl,⟨_,m,λx i=>?_,λx i=>?_⟩,.set f v',λa b=>?_⟩
   ·rw[uJ]at i;subst i;show 1<=max _ _∧max _ _<=(L:Int);omega
   ·rw[uJ]at i;subst i;rfl
   ·show e8 c.Z+1<=e8 (c.Z.set j _);have n:vC c.Z j=true:=by
     rw[m,mw]at b
     cases l:vC c.Z j with
     |true=>rfl
     |false=>
      have d:=p.1;unfold tA at d;rw[l,dZ dT]at d;have d:=a7 d;rw[show yH [(⟨1,ab e.V,max (lX c.U c.asked) 1,oZ⟩:a2)]=1 from rfl]at b;omega
    exact v0 f (HW n) ⟨o,k⟩ (λz=>absurd z.2 (by show(2:Int)≠0;decide)) (v8 rfl rfl id)
  ·exact .refl L c
def D3{agI:List ai}{r:Nat->Nat}{j:Nat}{e:ai}(a:agI[j]?=some e):mI agI r j=((lK agI r j e.i.j).getD 0,(lK agI r j e.i.o).getD 0,(lK agI r j e.i.j).isSome&&(lK agI r j e.i.o).isSome):=by unfold mI;rw[a]
def yt{e:ai}{n:Int}{a:Nat}(c:e.is=0)(q:(yC e n a).known=true):(yC e n a).is=0:=by
 unfold yC at q⊢;split at q
 ·rename_i b;rw[aa b];exact c
 rename_i b;rw[dZ b];split at q
 ·rename_i d;rw[aa d];exact c
 exact absurd (.inr (.inr q)) b
def nm(e:ai)(n:Int)(a:Nat):(yC e n a).i=e.i:=by unfold yC;(repeat' split)<;>rfl
structure Wt(e:ai):Prop where
 zero:e.is=0
 Yu:am e.i.op=5->e.known=false
theorem LI.setE{L:Nat}{c:Co}(h:LI L c){j:Nat}{e d:ai}(o:c.Z[j]?=some e)(i:d.is=2->bf c.Y (ab d.V) 1=true)(k:he d)(l:am d.i.op=3->d.is≠0->d.halt=0->d.known=true)(m:Nj d=false)(n:d.K=e.K):LI L (bt c j d):=by
 have g:∀x∈c.Z.set j d,x∈c.Z∨x=d:=λx f=>List.mem_or_eq_of_mem_set f;refine⟨h.J,h.b,λx f z=>?_,λx f=>?_,λx f=>?_,λx f=>?_,λp r=>?_,h.d,h.l⟩
 ·rcases g x f with q|rfl
  ·exact h.two x q z
  exact i z
 ·rcases g x f with q|rfl
  ·exact h.one x q
  exact k
 ·rcases g x f with q|rfl
  ·exact h.ld x q
  exact l
 ·rcases g x f with q|rfl
  ·exact h.w x q
  exact m
 have:((Go.Proofs.YtmbhlpgmfafmbaaGreatDoor.bt c j d).Z.map (·.K))=c.Z.map (·.K):=by
  show(c.Z.set j d).map (·.K)=_;rw[List.map_set,n];obtain⟨a,b⟩:=Em.1 o
  conv=>rhs;rw[<- @List.set_getElem_self _ (c.Z.map (·.K)) j (by rw[aH];exact a)]
  rw[List.getElem_map,b]
 rw[this];exact h.st p r
theorem LI.ask{L:Nat}{c:Co}(h:LI L c)(k:Int)(agY:Nat)(b:k=3->ab agY+16<=c.mem.size)(d:ByteArray):LI L (jE c k agY d):=by
 have f:=h.J c.asked;refine⟨h.J,p5 h.b k agY f d,λe a z=>wm (h.two e a z),h.one,h.ld,h.w,h.st,h.d,λx hx z=>?_⟩;rcases cp.1 hx with hx|hx
 ·exact h.l x hx z
 rw[uJ]at hx;subst hx;exact b z
def FX(e:ai)(s:ByteArray)(h:he e):he (uM e s):=by
 unfold uM;split
 ·exact h
 intro _;exact⟨by show(1:Int)<=1;decide,by show(1:Int)<=34;decide⟩
theorem LI.load{L:Nat}{c:Co}(h:LI L c){j:Nat}{e:ai}(i:c.Z[j]?=some e)(n:am e.i.op=3):LI L (oE c j):=by
 have k:=aB i;have m:∀l:ai,l.i=e.i->Nj l=false:=λl q=>by unfold Nj;rw[q,n];rfl
 have g:∀s,LI L (Go.Proofs.YtmbhlpgmfafmbaaGreatDoor.bt c j (uM e s)):=λs=>by
  have t2:(uM e s).is=2->e.is=2∧uM e s=e:=λz=>by
   unfold uM at z⊢;split at z
   ·rename_i q;rw[aa q];exact⟨z,rfl⟩
   ·exact absurd z (by show(1:Int)≠2;decide)
  refine h.setE i (λz=>?_) (FX e s (h.one e k)) (λa b d=>?_) (m _ ?_) ?_
  ·obtain⟨r,t⟩:=t2 z;rw[t];exact h.two e k r
  ·unfold uM at b d⊢;split at b
   ·rename_i q;rw[aa q]at d⊢;exact h.ld e k n b d
   ·rename_i q;rw[dZ q];show e.known=true
    cases z:e.known with
    |true=>rfl
    |false=>exact absurd (.inr (.inl z)) q
  ·unfold uM;split<;>rfl
  ·unfold uM;split<;>rfl
 unfold oE;rw[i];simp only;split
 ·exact h
 rename_i f;have f:e.known=true:=sU f;have o:he {e with is:=2}:=λz=>absurd z (by show(2:Int)≠1;decide);split
 ·exact g _
 split
 ·exact h
 split
 ·exact g _
 split
 ·rename_i p;exact h.setE i (λ_=>p) o (λ_ _ _=>f) (m _ rfl) rfl
 split
 ·refine(h.ask 1 (ab e.V) (λz=>absurd z dT) oZ).setE i (λ_=>?_) o (λ_ _ _=>f) (m _ rfl) rfl;show bf (c.Y++_) (ab e.V) 1=true;rw[j5,dE];right;unfold bf;simp
 ·exact h
def yv{a:Int}(h:am a=2):42<=a∧a<=45:=by unfold am at h;(repeat' split at h)<;>omega
def uz{e:ai}(l:e.is=0)(m:am e.i.op=5->e.known=false){a b:Nat}(r:a<=4294967295)(s:b<=4294967295):
  (rJ e a b).i=e.i∧(rJ e a b).K=e.K∧(rJ e a b).is≠2∧he (rJ e a b)∧Nj (rJ e a b)=false∧(am e.i.op≠3->am e.i.op≠4->(rJ e a b).is=1∧(rJ e a b).left<=34)∧(am e.i.op≠3->am e.i.op≠4->am e.i.op≠2->(rJ e a b).left<=3)∧(am e.i.op=3->rJ e a b=e):=by
 have d:∀c:ai,c.i=e.i->c.known=e.known->Nj c=false:=λc n o=>by
  unfold Nj;rw[n,o];by_cases k:am e.i.op=5
  ·rw[m k,Bool.and_false];rfl
  rw[sW k];rfl
 have f:(1:Int)≠2:=dT;unfold rJ;split
 ·rename_i h;refine⟨rfl,rfl,oT,λz=>by omega,d _ rfl rfl,λa b=>?_,λa b=>?_,λ_=>rfl⟩
  all_goals
   rcases h with h|h|h
   ·exact absurd l h
   ·exact absurd h a
   exact absurd h b
 rename_i h;have g:∀c:ai,am e.i.op=3->c=e:=λc z=>absurd (.inr (.inl z)) h;have i:(1:Int)<=1∧(1:Int)<=34:=dT;split
 ·exact⟨rfl,rfl,f,λ_=>(by decide:(1:Int)<=3∧(3:Int)<=34),d _ rfl rfl,λ_ _=>⟨rfl,by show(3:Int)<=34;decide⟩,λ_ _ _=>by show(3:Int)<=3;decide,g _⟩
 split
 ·rename_i j;obtain⟨p,q⟩:=yv j;have t:=Di e.i.op a b ad ad p q;exact⟨rfl,rfl,f,λ_=>by show 1<=((e6 e.i.op a b:Nat):Int)∧((e6 e.i.op a b:Nat):Int)<=(34:Int);omega,d _ rfl rfl,λ_ _=>⟨rfl,by show((e6 e.i.op a b:Nat):Int)<=34;omega⟩,λ_ _ z=>absurd j z,g _⟩
 split
 ·split
  all_goals (exact⟨rfl,rfl,f,λ_=>i,d _ rfl rfl,λ_ _=>⟨rfl,i.2⟩,λ_ _ _=>by show(1:Int)<=3;decide,g _⟩)
 exact⟨rfl,rfl,f,λ_=>i,d _ rfl rfl,λ_ _=>⟨rfl,i.2⟩,λ_ _ _=>by show(1:Int)<=3;decide,g _⟩
def p_{e:ai}(n:Int)(a:Nat)(b:e.is=0)(c:am e.i.op=3∨am e.i.op=4):
  (yC e n a).K=e.K∧(yC e n a).is≠2∧he (yC e n a)∧Nj (yC e n a)=false∧((yC e n a).is≠0->(yC e n a).halt≠0∧(yC e n a).is=3)∧((yC e n a).is=0->(yC e n a).known=true):=by
 have d:Nj (yC e n a)=false:=by
  unfold Nj;rw[nm,sW (by rcases c with k|k<;>rw[k]<;>decide)];rfl
 refine⟨?_,?_,?_,d,?_,?_⟩
 ·unfold yC;(repeat' split)<;>rfl
 ·unfold yC;(repeat' split)<;>first|(show e.is≠2;omega)|(show(3:Int)≠2;decide)
 ·intro z;unfold yC at z;(repeat' split at z)<;>first|omega|(exact absurd z (by show(3:Int)≠1;decide))|(have z:e.is=1:=z;omega)
 ·unfold yC;split
  ·intro z;exact absurd b z
  split
  ·intro z;exact absurd b z
  intro _;refine⟨?_,rfl⟩;show(if am e.i.op=4 then(5:Int)else 4)≠0;split<;>decide
 unfold yC;split
 ·rename_i h;intro _;rcases h with h|h|h
  ·rcases c with k|k
   ·exact absurd k h.1
   exact absurd k h.2
  ·exact absurd b h
  exact h
 split
 ·intro _;rfl
 intro z;exact absurd z (by show(3:Int)≠0;decide)
def wz{L:Nat}{prog:List Nat}{c:Co}{s:St}{n:Nat}(h:LI L c)(hI:Iv prog c s)(o:c.E n){j:Nat}(A:Rd c.Z c.r j):LI L (iS c j)∧SR L c (iS c j):=by
 unfold iS;split
 ·exact⟨h,.refl L c⟩
 ·rename_i e b;obtain⟨l,G,r4,H⟩:=A e b;have y:=ic hI.ri.ok b;have m:am e.i.op=5->e.known=false:=λk=>by
   cases z:e.known with
   |false=>rfl
   |true=>have:=(y.Ze k z).1;omega
  obtain⟨w,x⟩:=Cj o.ok.Z7 o.ok.r j;have f:∀a,(am e.i.op=3∨am e.i.op=4)->LI L (bt c j (yC e c.mem.size a)):=λa d=>by
   obtain⟨p,r,t,u,v,E⟩:=p_ c.mem.size a l d;exact h.setE b (λz=>absurd z r) t (λ_ C D=>absurd D (v C).1) u p
  split
  ·rename_i d;exact⟨f _ (.inr d),k' b (r0 _ _ _)⟩
  split
  ·rename_i d;have hA:=f (mI c.Z c.r j).1 (.inl d);have g:(bt c j (yC e c.mem.size (mI c.Z c.r j).1)).Z[j]?=some (yC e c.mem.size (mI c.Z c.r j).1):=aZ (Em.1 b).1;have i:am (yC e c.mem.size (mI c.Z c.r j).1).i.op=3:=by rw[nm];exact d
   exact⟨hA.load g i,(k' b (r0 _ _ _)).trans (H2 hA g i λq=>yt l q)⟩
  ·obtain⟨s1,ap,s3,c6,dq,b',dn,I⟩:=uz l m w x;rename_i F B;refine⟨h.setE b (λz=>absurd z s3) c6 (λk _ _=>?_) dq ap,k' b (G_ (λk z=>by rw[m k]at z;cases z) _ _)⟩;rw[s1]at k;exact absurd k B
theorem m7{L:Nat}{prog:List Nat}{s:St}:∀(p:List Nat) {c:Co} {n:Nat},LI L c->Iv prog c s->c.mc->c.E n->n+p.length<=890000->p.Nodup->(∀i∈p,Rd c.Z c.r i)->LI L (p.foldl iS c)∧SR L c (p.foldl iS c)∧∀i,i ∉ p->(p.foldl iS c).Z[i]?=c.Z[i]?
 |[],c,_,h,_,_,_,_,_,_=>⟨h,.refl L c,λ_ _=>rfl⟩
 | j::p,c,n,h,hI,r,o,x,g,f=>by
  obtain⟨t,u,E,v,k⟩:=hI.start r (f j b1);obtain⟨y,A⟩:=wz h hI o (f j b1);rw[List.nodup_cons]at g;rw[bN]at x;obtain⟨B,C,D⟩:=m7 p y t u (yY o ad j).1 ad g.2 λi a=>by
   have b:=f i (bY _ a);rw[v];rcases k with ⟨_,q⟩|⟨e,w,m,q,d,l⟩
   ·rw[q];exact b
   ·rw[q];exact mf m d l (λz=>g.1 (by rw[z];exact a)) b
  refine⟨B,A.trans C,λi a=>?_⟩;show(p.foldl iS (iS c j)).Z[i]?=_;rw[dh,not_or]at a;rw[D i a.2];rcases k with ⟨_,q⟩|⟨e,w,m,q,d,l⟩
  ·rw[q]
  ·rw[q,kX (λz=>a.1 z.symm)]
def ma{c:Co}:∀i∈g9 c.U.u (c.Z.any IE) (Fi c) (Kv c),Rd c.Z c.r i:=by
 obtain⟨d,f⟩:=nz (agN:=c.U.u) (busy:=c.Z.any IE) (kinds:=Fi c) (can:=Kv c) (Kv c).length;refine λi e=>v4 ?_;obtain⟨a,b⟩:=d i e;unfold Kv at a b;rw[aH,fV]at a;rw[aR,aX,eZ a]at b;exact b
def pk{c:Co}{n:Nat}(a:c.E n):(g9 c.U.u (c.Z.any IE) (Fi c) (Kv c)).length<=1000:=by
 have:=Fv (agN:=c.U.u) (busy:=c.Z.any IE) (kinds:=Fi c) (can:=Kv c) (Kv c).length;have b:(Kv c).length=c.Z.length:=by unfold Kv;rw[aH,fV]
 have:=a.Z;unfold g9;omega
def ny{c:Co}:(g9 c.U.u (c.Z.any IE) (Fi c) (Kv c)).Nodup:=(nz (agN:=c.U.u) (busy:=c.Z.any IE) (kinds:=Fi c) (can:=Kv c) (Kv c).length).2
theorem LI.Zo{L:Nat}{prog:List Nat}{c:Co}{s:St}{n:Nat}(h:LI L c)(hI:Iv prog c s)(e:c.mc)(d:c.E n)(f:n+1000<=890000):LI L (gY c)∧SR L c (gY c):=by
 unfold gY;split
 ·exact⟨h,.refl L c⟩
 have g:=pk d;obtain⟨a,b,_⟩:=m7 _ h hI e d ad ny ma;exact⟨a,b⟩
theorem sm{agN:Int}{busy:Bool}{kinds:List Int}{can:List Bool}{r:List Nat}{k:Nat}(h:∃t,(kA agN busy kinds can k).out=r++t):∀j,∃t,(kA agN busy kinds can (k+j)).out=r++t
 |0=>h
 |j+1=>by
  obtain⟨t,a⟩:=sm h j;show ∃t,(IW agN kinds (kA agN busy kinds can (k+j)) (k+j) _).out=_;unfold IW;split
  ·exact⟨t,a⟩
  split
  ·exact⟨t,a⟩
  split
  ·exact⟨t,a⟩
  ·exact⟨t++[k+j],by show _++_=_;rw[a,eD]⟩
def w_{agN:Int}{busy:Bool}{kinds:List Int}{can:List Bool}(d:1<=agN)(a:can.getD 0 false=true)(c:0<can.length)(hb:busy=false∨Cx kinds 0≠2):∃t,g9 agN busy kinds can=0::t:=by
 unfold g9;obtain⟨m,b⟩:∃m,can.length=1+m:=⟨can.length-1,oT⟩;rw[b];refine sm (r:=[0]) (k:=1) ⟨[],?_⟩ m;show(IW agN kinds ⟨[],busy,false⟩ 0 (can.getD 0 false)).out=_;unfold IW;rw[dZ (by show ¬agN<=((0:Nat):Int);omega),a,dZ dT,dZ]
 ·rfl
 unfold RF;rcases hb with hb|hb
 ·simp[hb]
 have:rM (Cx kinds 0)≠1:=by unfold rM;rw[dZ hb];split<;>decide
 simp[this]
theorem o9{agN:Int}{kinds:List Int}{can:List Bool}:∀n,(∀i∈(kA agN true kinds can n).out,Cx kinds i≠2)∧(kA agN true kinds can n).t1=true
 |0=>⟨(λi h=>by cases h),rfl⟩
 | n+1=>by
  obtain⟨b,a⟩:=o9 (agN:=agN) (kinds:=kinds) (can:=can) n;unfold kA IW;split
  ·exact⟨b,a⟩
  split
  ·exact⟨b,a⟩
  split
  ·exact⟨b,a⟩
  ·rename_i c;refine⟨λi hi=>?_,by show((kA agN true kinds can n).t1||_)=true;rw[a];rfl⟩;rcases cp.1 hi with hi|hi
   ·exact b i hi
   ·rw[uJ]at hi;subst hi;intro z;apply c;unfold RF;rw[z,a];rfl
theorem u9{prog:List Nat}{s:St}:∀(p:List Nat) {c:Co},Iv prog c s->c.mc->p.Nodup->(∀i∈p,Rd c.Z c.r i)->(∀i∈p,∀e,c.Z[i]?=some e->am e.i.op≠2)->∀x∈(p.foldl iS c).Z,IE x=true->x∈c.Z
 |[],c,_,_,_,_,_,x,o,_=>o
 | j::p,c,hI,w,g,v,u,x,o,d=>by
  obtain⟨y,A,C,B,m⟩:=hI.start w (v j b1);rw[List.nodup_cons]at g;have:=u9 p y A g.2 (λi f=>by
   have k:=v i (bY _ f);rw[B];rcases m with ⟨_,q⟩|⟨e,r,b,q,a,n⟩
   ·rw[q];exact k
   ·rw[q];exact mf b a n (λz=>g.1 (by rw[z];exact f)) k) (λi f e b=>by
   have h:=u i (bY _ f);rcases m with ⟨_,q⟩|⟨t,r,l,q,a,n⟩
   ·rw[q]at b;exact h e b
   ·rw[q,kX (λz=>g.1 (by rw[z];exact f))]at b;exact h e b) x o d
  rcases m with ⟨_,q⟩|⟨t,r,l,q,a,n⟩
  ·rw[q]at this;exact this
  ·rw[q]at this;rcases List.mem_or_eq_of_mem_set this with z|rfl
   ·exact z
   ·unfold IE at d;rw[a]at d;simp only[aP,aY]at d;exact absurd d.1 (u j b1 t l)
def J_(a:Int)(f:Ft)(prog:List Nat):(qB a f prog).K=f.K∧(qB a f prog).known=false∧((qB a f prog).is=0∨(qB a f prog).is=3∧(qB a f prog).halt≠0):=by
 unfold qB;split
 ·exact⟨rfl,rfl,.inr ⟨rfl,by show(1:Int)≠0;decide⟩⟩
 split
 ·exact⟨rfl,rfl,.inr ⟨rfl,by show(2:Int)≠0;decide⟩⟩
 split
 ·exact⟨rfl,rfl,.inr ⟨rfl,by show(6:Int)≠0;decide⟩⟩
 split
 ·exact⟨rfl,rfl,.inr ⟨rfl,by show(7:Int)≠0;decide⟩⟩
 exact⟨rfl,rfl,.inl rfl⟩
structure MR(L:Nat)(c d:Co):Prop where
 U:d.U=c.U
 data:d.data=c.data
 W:d.W=c.W
 mem:d.mem=c.mem
 prog:d.prog=c.prog
 halt:d.halt=c.halt
 Y:∃p,d.Y=c.Y++p∧eo L p∧∀x∈p,x.kind=1∨x.kind=2
 Z:dd c.Z d.Z
 ZG:(yH c.Y:Int)<c.U.C->(yH d.Y:Int)>=c.U.C->e8 c.Z+1<=e8 d.Z
theorem MR.trans{L:Nat}{a b c:Co}(h:MR L a b)(k:MR L b c):MR L a c:=by
 obtain⟨p,e,f,g⟩:=h.Y;obtain⟨q,i,j,l⟩:=k.Y;refine⟨k.U.trans h.U,k.data.trans h.data,k.W.trans h.W,k.mem.trans h.mem,k.prog.trans h.prog,k.halt.trans h.halt,⟨p++q,by rw[i,e,eD],nF f j,λx d=>(cp.1 d).elim (g x) (l x)⟩,h.Z.trans k.Z,λx y=>?_⟩;have m:=kr h.Z;have n:=kr k.Z;by_cases z:(yH b.Y:Int)>=a.U.C
 ·have:=h.ZG x z;omega
 have:=k.ZG (by rw[h.U];omega) (by rw[h.U];exact y);omega
theorem SR.mr{L:Nat}{c d:Co}(h:SR L c d):MR L c d:=by
 obtain⟨p,b,e,f⟩:=h.Y;exact⟨h.U,h.data,h.W,h.mem,h.prog,h.halt,⟨p,b,e,λx a=>.inl (f x a)⟩,h.Z,h.ZG⟩
theorem MR.still{L:Nat}{c d:Co}(g:d.U=c.U)(h:d.data=c.data)(i:d.W=c.W)(j:d.mem=c.mem)(k:d.prog=c.prog)(l:d.halt=c.halt)(f:d.Y=c.Y)(m:dd c.Z d.Z):MR L c d:=
 ⟨g,h,i,j,k,l,⟨[],by rw[f,dY],(λx e=>by cases e),(λx e=>by cases e)⟩,m,λa b=>by rw[f]at b;omega⟩
theorem MR.refl(L:Nat)(c:Co):MR L c c:=.still rfl rfl rfl rfl rfl rfl rfl (.refl _)
theorem LI.Y6{L:Nat}:∀(n:Nat) {c:Co},LI L c->LI L (kV n c)∧MR L c (kV n c)∧(kV n c).Yr=c.Yr∧(kV n c).stop=c.stop∧(kV n c).y=c.y∧(∀x∈(kV n c).Z,IE x=true->x∈c.Z)∧(kV n c).Y=c.Y∧∃t,(kV n c).Z=c.Z++t
 |0,c,h=>⟨h,.refl L c,rfl,rfl,rfl,λ_ e _=>e,rfl,[],(dY _).symm⟩
 | n +1,c,h=>by
  unfold kV;split
  ·exact⟨h,.refl L c,rfl,rfl,rfl,λ_ e _=>e,rfl,[],(dY _).symm⟩
  split
  ·exact⟨h,.refl L c,rfl,rfl,rfl,λ_ e _=>e,rfl,[],(dY _).symm⟩
  ·rename_i f l B;obtain⟨v,w,y⟩:=J_ c.next f c.prog;have g:∀x∈c.Z++[qB c.next f c.prog],x∈c.Z∨x=qB c.next f c.prog:=λx e=>(cp.1 e).imp id λz=>uJ.1 z;have A:LI L {c with Z:=c.Z++[qB c.next f c.prog],next:=wrap64 (c.next+1),O:=l}:=by
    refine⟨h.J,h.b,λx e z=>?_,λx e=>?_,λx e a b d=>?_,λx e=>?_,λC D=>?_,h.d,h.l⟩
    ·rcases g x e with q|rfl
     ·exact h.two x q z
     ·omega
    ·rcases g x e with q|rfl
     ·exact h.one x q
     ·intro z;omega
    ·rcases g x e with q|rfl
     ·exact h.ld x q a b d
     ·rcases y with q|q
      ·exact absurd q b
      ·exact absurd d q.2
    ·rcases g x e with q|rfl
     ·exact h.w x q
     ·unfold Nj;rw[w,Bool.and_false];rfl
    ·have:=h.st C D;rw[B]at this;show ∃z,((c.Z++[qB c.next f c.prog]).map (·.K)++l.map (·.K)).getLast?=some z∧_;rw[dH,eD];show ∃z,(c.Z.map (·.K)++((qB c.next f c.prog).K::l.map (·.K))).getLast?=some z∧_;rw[v];exact this
   obtain⟨j,k,m,o,p,r,u,t,s⟩:=LI.Y6 n A;refine⟨j,MR.trans (b:={c with Z:=c.Z++[qB c.next f c.prog],next:=wrap64 (c.next+1),O:=l}) (.still rfl rfl rfl rfl rfl rfl rfl (dd.YJ _ _)) k,m,o,p,λx e i=>?_,u,[qB c.next f c.prog]++t,?_⟩
   ·rcases g x (r x e i)with q|rfl
    ·exact q
    ·unfold IE at i;simp only[aP,aY]at i;omega
   ·rw[s];show(c.Z++[_])++t=_;rw[eD]
def IT{n:Nat}{c:Co}(b:0<n)(e:c.Z=[])(g:2<=c.U.Z)(a:c.O≠[]):(kV n c).Z≠[]:=by
 cases n with
 |zero=>cases b
 | succ n=>
  unfold kV;rw[dZ (by rw[e];show ¬((0:Nat):Int)>=c.U.Z;omega)];split
  ·rename_i h;exact absurd h a
  ·rename_i f l i;have:∀(n:Nat) (d:Co),d.Z≠[]->(kV n d).Z≠[]:=λn=>by
    induction n with
    |zero=>exact λ_ h=>h
    |succ n ih=>
     intro d h;unfold kV;split
     ·exact h
     split
     ·exact h
     ·exact ih _ (by simp)
   exact this n _ (by simp)
def qf{c:Co}{b:Bool}(h:tA c b=true):(yH c.Y:Int)<c.U.C∧(b=false->(yH c.Y:Int)<c.U.C-1):=by
 unfold tA at h;split at h
 ·rename_i q;have:=a7 h;exact⟨this,λz=>by rw[z]at q;cases q⟩
 have:=a7 h;exact⟨oT,λ_=>this⟩
theorem LI.same{L:Nat}{c d:Co}(h:LI L c)(e:d.U=c.U)(b:d.Y=c.Y)(a:d.Z=c.Z)(g:d.data=c.data)(i:d.mem=c.mem)(j:d.halt=0->d.stop=true->∃f,(d.Z.map (·.K)++d.O.map (·.K)).getLast?=some f∧(ez d.prog f).isSome=false):LI L d:=
 ⟨by rw[e];exact h.J,by rw[b];exact h.b,by rw[b,a];exact h.two,by rw[a];exact h.one,by rw[a];exact h.ld,by rw[a];exact h.w,j,by rw[g];exact h.d,by rw[b,i];exact h.l⟩
def xy{L:Nat}{c:Co}(h:LI L c)(f:tA c false=true)(agY:Nat):MR L c (jE c 2 agY oZ):=by
 have g:=h.J c.asked;have e:(jE c 2 agY oZ).Y=c.Y++[⟨2,agY,max (lX c.U c.asked) 1,oZ⟩]:=rfl;refine⟨rfl,rfl,rfl,rfl,rfl,rfl,⟨_,e,λx d=>?_,λx d=>?_⟩,.refl _,λa b=>?_⟩
 ·rw[uJ]at d;subst d;show 1<=max _ _∧max _ _<=(L:Int);omega
 ·rw[uJ]at d;subst d;exact .inr rfl
 rw[e,mw,show yH [(⟨2,agY,max (lX c.U c.asked) 1,oZ⟩:a2)]=1 from rfl]at b;have:=(qf f).2 rfl;omega
def q2(c:Co)(w:Nat):(dM c w).1.U=c.U∧(dM c w).1.Y=c.Y∧(dM c w).1.Z=c.Z∧(dM c w).1.data=c.data∧(dM c w).1.mem=c.mem∧(dM c w).1.W=c.W∧(dM c w).1.prog=c.prog∧(dM c w).1.halt=c.halt∧(dM c w).1.stop=c.stop∧(dM c w).1.O=c.O:=by
 unfold dM;(repeat' split)<;>exact⟨rfl,rfl,rfl,rfl,rfl,rfl,rfl,rfl,rfl,rfl⟩
theorem LI.Zb{L:Nat}:∀(n:Nat) {c:Co},LI L c->LI L (eL n c)∧MR L c (eL n c)∧(eL n c).Z=c.Z∧(c.O≠[]->(eL n c).O≠[])
 |0,c,h=>⟨h,.refl L c,rfl,id⟩
 | n+1,c,h=>by
  unfold eL;split
  ·exact⟨h,.refl L c,rfl,id⟩
  rename_i s;split
  ·rename_i u;refine⟨h.same rfl rfl rfl rfl rfl λ_ _=>⟨c.Yr,?_,u⟩,.still rfl rfl rfl rfl rfl rfl rfl (.refl _),rfl,λ_=>by simp⟩;show(c.Z.map (·.K)++(c.O++[(⟨c.Yr,bz c.Yr⟩:Ft)]).map (·.K)).getLast?=_;rw[dH, <-eD];exact List.getLast?_concat
  split
  ·split
   ·rename_i q;exact⟨h.ask 2 _ (λz=>absurd z dT) _,xy h q.2 _,rfl,id⟩
   ·exact⟨h,.refl L c,rfl,id⟩
  ·obtain⟨b,d,a,e,f,i,j,k,l,g⟩:=q2 {c with y:=tO c.y (ab c.Yr)} (bg c.prog c.Yr);generalize dM {c with y:=tO c.y (ab c.Yr)} (bg c.prog c.Yr)=z at b d a e f i j k l g⊢;have t:LI L (LU z.1 z.2):=h.same b d a e f λ_ v=>absurd (.inl (l ▸ v)) s;obtain⟨m,o,p,r⟩:=LI.Zb n t;exact⟨m,MR.trans (b:=LU z.1 z.2) (.still b e i f j k d (by show dd c.Z z.1.Z;rw[a];exact .refl _)) o,p.trans a,λ_=>r (by show z.1.O++_≠[];simp)⟩
def IA{L n:Nat}{c:Co}(h:LI L c)(p:0<n)(a:c.O=[])(k:c.stop=false)(s:1<=c.U.queue):(eL n c).O≠[]∨((bK c.y (ab c.Yr)).2.isSome=false∧(eL n c).O=[]∧(eL n c).Yr=c.Yr∧(eL n c).Y=if bf c.Y (ab c.Yr) 2=false∧tA c false=true then c.Y++[⟨2,ab c.Yr,max (lX c.U c.asked) 1,oZ⟩]else c.Y):=by
 cases n with
 |zero=>cases p
 | succ n=>
  unfold eL;rw[dZ (by rw[k,a];show ¬(false=true∨((0:Nat):Int)>=c.U.queue);simp;omega)];split
  ·exact .inl (by show c.O++_≠[];simp)
  split
  ·rename_i r;refine .inr ⟨r,?_⟩;split
   ·exact⟨a,rfl,rfl⟩
   ·exact⟨a,rfl,rfl⟩
  ·obtain⟨b,e,f,g,i,l,m,o,j,d⟩:=q2 {c with y:=tO c.y (ab c.Yr)} (bg c.prog c.Yr);generalize dM {c with y:=tO c.y (ab c.Yr)} (bg c.prog c.Yr)=z at b e f g i l m o j d⊢;refine .inl ((LI.Zb n (c:=LU z.1 z.2) (h.same b e f g i λ_ q=>?_)).2.2.2 (by show z.1.O++_≠[];simp));have q:z.1.stop=true:=q;rw[j]at q;have q:c.stop=true:=q;rw[k]at q;cases q
def FT{d:Ca}(c:bT d)(b:ig d)(agY:Nat):ig (wB d agY):=λw e=>by
 rcases(sT c w).1 e with ⟨u,a,_,rfl⟩|⟨a,_⟩
 ·exact b u a
 exact b w a
theorem LI.Zl{L:Nat}{c:Co}(h:LI L c)(f:bT c.data)(n:c.mem.size%16=0)(o:∀p∈c.W,kZ c.mem.size p.V p.data.size=true):LI L (tY c):=by
 have b:LI L (aW c)∧bT (aW c).data:=by
  have:ig (sL c.W c.data).2.1∧bT (sL c.W c.data).2.1:=by
   unfold sL;split
   ·exact⟨h.d,f⟩
   split
   ·rename_i q;exact⟨tl f h.d q,f.write _ _⟩
   exact⟨h.d,f⟩
  exact⟨⟨h.J,h.b,h.two,h.one,h.ld,h.w,h.st,this.1,h.l⟩,this.2⟩
 have i:∀d:Co,LI L d->bT d.data->LI L (nP d):=λd g f=>by
  unfold nP;split
  ·exact g
  unfold pE;split
  ·split
   ·have e:=g.ask 4 (by assumption:Wy).R (λz=>absurd z dT) (by assumption:Wy).data;exact⟨e.J,e.b,e.two,e.one,e.ld,e.w,e.st,FT f g.d _,e.l⟩
   exact g
  exact g
 unfold tY;split
 ·exact i _ b.1 b.2
 rename_i p l hp;split
 ·exact i _ b.1 b.2
 refine i _ ?_ ?_
 ·unfold tW;split
  ·exact b.1
  rename_i m r k;split
  ·refine b.1.ask 3 _ (λ_=>?_) _;rw[fI];refine qc n (o m ?_);have:∀x∈(aW c).W,x∈c.W:=λx a=>by
    have a:x∈(sL c.W c.data).1:=a;unfold sL at a;split at a
    ·exact a
    rename_i j;rw[j];split at a
    ·exact bY _ a
    have a:x∈c.W:=a;rw[j]at a;exact a
   exact this m (by rw[k];exact b1)
  exact b.1
 unfold tW;(repeat' split)<;>exact b.2
def HM(L s:Nat):Nat:=s*L+L+70
def g_(L s:Nat)(c:Co)(e:ai):Nat:=
 if e.is=3 then 0 else if e.is=1 then e.left.toNat else if e.is=2 then dt (ab e.V) 1 c.Y
 else if am e.i.op=3 then
  (if c.W=[]∧e.known=true then
   (if bf c.Y (ab e.V) 1=true then s*L+1 else if bf c.Y (ab e.V) 3=true then 1+dt (ab e.V) 3 c.Y else s*L+1+dk L c.Y)
  else s*L+L+2)
 else if am e.i.op=4 then(if e.known=true then 1 else 2)
 else if am e.i.op=2 then 35+bl c.Z
 else 4
def e_(L s:Nat)(c:Co):Nat:=
 match c.Z with
 |e::_=>g_ L s c e
 | []=>match c.O with
  |_::_=>HM L s+1
  |[]=>if c.W≠[]then HM L s+3+2*(s*L)
   else if bf c.Y (ab c.Yr) 2=true then HM L s+2+dt (ab c.Yr) 2 c.Y
   else HM L s+3+s*L+gF b_ c.Y
def j7(L s:Nat)(a:List Pt)(q:List a2):Nat:=
 match a with
 |[]=>0
 |p::l=>l.length*(s*L+2*L+1)+(if bf q (ab p.V) 3=true then dt (ab p.V) 3 q else s*L+L+dk L q+1)
def h5(L s:Nat)(c:Co):Nat:=gF cw c.Y+L*cz c.Y+L*(8-e8 c.Z)+j7 L s c.W c.Y
def g5(L s:Nat)(c:Co):Nat:=h5 L s c+e_ L s c
def v1{L s:Nat}{q:List a2}(b:eo L q)(e:gF b_ q<=s*L)(a:List Pt):j7 L s a q<=a.length*(s*L+2*L+1):=by
 unfold j7;split
 ·exact aE _
 rename_i p l;have c:=l9 b;have d:=kg (ab p.V) 3 q;rw[bN,cG];split<;>omega
def xz{L s:Nat}{q:List a2}(a:eo L q)(b:gF b_ q<=s*L)(p:Pt)(l:List Pt):j7 L s l q<=l.length*(s*L+2*L+1):=v1 a b l
def jd{L s:Nat}{q:List a2}(a:eo L q)(h:yH q<=s):gF b_ q<=s*L:=aL (HT a) (eF L h)
def qr{p:List a2}{f:a2->Bool}(h:∀x∈p,f x=false):gF f p=0:=by
 induction p with
 |nil=>rfl
 |cons x l ih=>unfold gF;rw[dZ (by rw[h x b1];decide),ih λy a=>h y (bY _ a)]
def rh{p:List a2}{agY:Nat}{k:Int}(h:∀x∈p,x.kind≠k):bf p agY k=false:=by
 unfold bf;rw[List.any_eq_false];intro x a;simp[h x a]
def oz{p:List a2}(h:∀x∈p,x.kind≠3):cz p=0:=by
 unfold cz;rw[List.length_eq_zero_iff,List.filter_eq_nil_iff];intro x a;simp[h x a]
def El{p:List a2}(h:∀x∈p,x.kind=4):yH p=0:=by
 unfold yH;rw[List.length_eq_zero_iff,List.filter_eq_nil_iff];intro x a;simp[h x a]
def l8(c:Co):(lM c).W=c.W∧(lM c).U=c.U∧(lM c).Yr=c.Yr∧(lM c).O=c.O∧(lM c).stop=c.stop∧(lM c).halt=c.halt∧(lM c).r=c.r∧(lM c).prog=c.prog∧(lM c).mem.size=c.mem.size:=by
 unfold lM ID;generalize eH c.Y=t;obtain⟨q,x,ok⟩:=t;simp only
 (repeat' split)<;>first|exact⟨rfl,rfl,rfl,rfl,rfl,rfl,rfl,rfl,rfl⟩|(unfold oK;exact⟨rfl,rfl,rfl,rfl,rfl,rfl,rfl,rfl,rfl⟩)|exact⟨rfl,rfl,rfl,rfl,rfl,rfl,rfl,rfl,iY _ _⟩
inductive i7(L:Nat)(c d:Co):Prop
 |none (h:c.Y=[]) (h1:d.Y=[]) (s:d.Z=c.Z∧d.y=c.y∧d.data=c.data)
 |write (w:gF cw d.Y+1<=gF cw c.Y) (r:gF b_ d.Y=gF b_ c.Y) (d3:cz d.Y=cz c.Y) (n:yH d.Y=yH c.Y) (f:dk L d.Y=dk L c.Y) (p:∀agY k,k≠4->dt agY k d.Y=dt agY k c.Y∧bf d.Y agY k=bf c.Y agY k) (s:d.Z=c.Z∧d.y=c.y∧d.data=c.data)
 |read (w:gF cw d.Y=gF cw c.Y) (r:gF b_ d.Y+1=gF b_ c.Y) (d3:cz d.Y=cz c.Y) (n:yH d.Y=yH c.Y) (n0:0<yH c.Y) (f:dk L d.Y+1=dk L c.Y) (p:∀agY k,dt agY k d.Y+1=dt agY k c.Y∧bf d.Y agY k=bf c.Y agY k) (s:d.Z=c.Z∧d.y=c.y∧d.data=c.data)
 | done (x:a2) (k4:x.kind≠4) (w:gF cw d.Y+L*cz d.Y<=gF cw c.Y+L*cz c.Y) (r:gF b_ d.Y+1=gF b_ c.Y) (n:yH d.Y+1=yH c.Y) (f:dk L c.Y=1)
   (p:∀agY k,k≠4->du agY k x=false->bf d.Y agY k=bf c.Y agY k∧(bf c.Y agY k=true->dt agY k d.Y+1=dt agY k c.Y)) (z:∀agY k,du agY k x=true->bf c.Y agY k=true)
   (one:x.kind=1->∃e,d.Z=c.Z.map (wO e x.R)) (agI:x.kind≠1->d.Z=c.Z) (agO:x.kind=2->d.y=(qZ c.y x.R oZ false).1) (words2:x.kind≠2->d.y=c.y) (three:x.kind=3->∃w,b7 d.data w∧w.R=ab x.R)
theorem i7.Y8{L:Nat}{c d:Co}(h:i7 L c d):d.Z=c.Z∨∃x e,(∀agY,x.R=agY->du agY 1 x=true)∧d.Z=c.Z.map (wO e x.R):=by
 cases h with
 |none _ _ s=>exact .inl s.1
 |write _ _ _ _ _ _ s=>exact .inl s.1
 |read _ _ _ _ _ _ _ s=>exact .inl s.1
 | done x _ _ _ _ _ _ _ one agI=>
  by_cases k:x.kind=1
  ·obtain⟨e,a⟩:=one k;exact .inr ⟨x,e,λl q=>by unfold du;simp[q,k],a⟩
  ·exact .inl (agI k)
theorem i7.Y9{L:Nat}{c d:Co}(h:i7 L c d)(agY:Nat){k:Int}(i:k≠4):bf d.Y agY k=bf c.Y agY k∨bf c.Y agY k=true∧(k=2->∃x,du agY 2 x=true∧d.y=(qZ c.y x.R oZ false).1)∧(k=3->∃w,b7 d.data w∧w.R=ab agY):=by
 cases h with
 |none a b=>rw[a,b];exact .inl rfl
 |write _ _ _ _ _ p=>exact .inl (p _ k i).2
 |read _ _ _ _ _ _ p=>exact .inl (p _ k).2
 | done v _ _ _ _ _ p z _ _ g _ f=>
  cases e:du agY k v with
  |false=>exact .inl (p _ k i e).1
  |true=>
   refine .inr ⟨z _ _ e,λq=>⟨v,q ▸ e,g ?_⟩,λq=>?_⟩<;>(unfold du at e;simp only[aP,aY]at e)
   ·exact e.2.trans q
   ·rw[<-e.1];exact f (e.2.trans q)
def vr{agY:Nat}{k:Int}{x:a2}(a:k≠4)(h:b_ x=false):du agY k x=false:=by
 unfold b_ at h;unfold du;have:x.kind=4:=sU h;simp[this];intro _ z;exact a z.symm
def m0(x:a2):cw x= !b_ x:=by unfold cw b_;by_cases h:x.kind=4<;>simp[h]
def qp{L:Nat}(M:L<=8){c:Co}(h:LI L c)(v:c.mc):i7 L c (lM c):=by
 have B:=vv M h.b;unfold lM;generalize eH c.Y=t at B
 cases B with
 |none b x=>
  exact .none b (show([]:List a2)=[]from rfl) ⟨rfl,rfl,rfl⟩
 | go x r b K y=>
  have i:∀agY k,du agY k {x with left:=x.left-1}=du agY k x:=λ_ _=>rfl;have D:b_ {x with left:=x.left-1}=b_ x:=rfl;have p:cw {x with left:=x.left-1}=cw x:=rfl;by_cases a:b_ x=true
  ·have g:cw x=false:=by rw[m0,a];rfl
   refine .read ?_ ?_ ?_ ?_ ?_ ?_ (λagY k=>⟨?_,by rw[b];rfl⟩) ⟨rfl,rfl,rfl⟩<;>rw[b]<;>simp[gF,dk,dt,nC,ku,D,p,i,a,g]<;>omega
  ·have a:b_ x=false:=sU a;have g:cw x=true:=by rw[m0,a];rfl
   have E: ¬b_ x=true:=by rw[a];decide
   refine .write ?_ ?_ ?_ ?_ ?_ (λagY k m=>⟨?_,by rw[b];rfl⟩) ⟨rfl,rfl,rfl⟩<;>rw[b]<;>simp[gF,dk,dt,nC,ku,D,p,i,a,g];omega
 | done x r b K=>
  show i7 L c (ID {c with Y:=r} {x with left:=0});by_cases a:b_ x=true
  ·have g:cw x=false:=by rw[m0,a];rfl
   have s:x.kind≠4:=by unfold b_ at a;simpa using a
   have j:∀d:Co,(∃w,d.Y=r++w∧(∀y∈w,y.kind=4)∧gF cw w<=(if x.kind=3 then L else 0))->(x.kind=1->∃e,d.Z=c.Z.map (wO e x.R))->(x.kind≠1->d.Z=c.Z)->(x.kind=2->d.y=(qZ c.y x.R oZ false).1)->(x.kind≠2->d.y=c.y)->(x.kind=3->∃w,b7 d.data w∧w.R=ab x.R)->i7 L c d:=λd ⟨w,d1,d2,d3⟩ F G H I J=>by
    have P:gF b_ w=0:=qr λy f=>by unfold b_;rw[d2 y f];rfl
    have Q:cz w=0:=oz λy f=>by rw[d2 y f];decide
    have wr:yH w=0:=El d2;have O:x.left.toNat=1:=oT;refine .done x s ?_ ?_ ?_ ?_ ?_ ?_ F G H I J
    ·rw[b,d1,km,n',Q,nC];show _<=(if cw x=true then x.left.toNat else 0)+gF cw r+_;rw[g];split at d3
     ·rename_i z;rw[aa z];have e:L*(1+cz r)=L+L*cz r:=by rw[Nat.mul_add,iD]
      rw[e];simp only[iU,cS,eE];omega
     ·rename_i z;rw[dZ z];simp only[iU,bJ,cS,eE];omega
    ·rw[b,d1,km,P];show _=(if b_ x=true then x.left.toNat else 0)+gF b_ r;rw[aa a];omega
    ·rw[b,d1,mw,wr,ku,aa a];omega
    ·rw[b];unfold dk;rw[aa a];exact O
    ·intro agY k m i;have p:bf w agY k=false:=rh λy f=>by rw[d2 y f];exact λz=>m z.symm
     have e:bf c.Y agY k=bf r agY k:=by rw[b,m_,i];rfl
     refine⟨by rw[d1,j5,p,Bool.or_false,e],λz=>?_⟩;rw[e]at z;rw[d1,oo z,b];show _=(if b_ x=true then x.left.toNat else 0)+(if du agY k x=true then 0 else dt agY k r);rw[aa a,i];simp only[cS,eE];omega
    ·intro agY k i;rw[b,m_,i];rfl
   have nil:∃w,r=r++w∧(∀y∈w,(y:a2).kind=4)∧gF cw w<=(if x.kind=3 then L else 0):=⟨[],(dY _).symm,(λy f=>by cases f),aE _⟩;unfold ID;split
   ·rename_i z;have z:x.kind=1:=z;exact j _ nil (λ_=>⟨_,rfl⟩) (λq=>absurd z q) (λq=>by omega) (λ_=>rfl) (λq=>by omega)
   rename_i n;have n:x.kind≠1:=n;split
   ·rename_i z;have z:x.kind=2:=z;exact j _ nil (λq=>absurd q n) (λ_=>rfl) (λ_=>rfl) (λq=>absurd z q) (λq=>by omega)
   rename_i u;have u:x.kind≠2:=u;split
   ·rename_i z;have z:x.kind=3:=z;have o:=h.l x (by rw[b];exact b1) z;have N:=ry (q:=r) (lX c.U c.asked) v.g v.al o h.d;have C:=ji {c with Y:=r} x.R;refine j _ ?_ (λq=>absurd q n) (λ_=>C.2.2.1) (λq=>absurd q u) (λ_=>C.2.2.2.2.1) (λ_=>N.2);rcases ox {c with Y:=r} x.R with ⟨q,_⟩|⟨l,d,q,_⟩
    ·exact⟨[],by rw[dY];exact q,(λy f=>by cases f),aE _⟩
    ·have R:=h.J c.asked;refine⟨_,q,λy f=>by rw[uJ]at f;subst f;rfl,?_⟩;rw[aa z];show(if cw _=true then(max (lX c.U c.asked) 1).toNat else 0)+0<=L;split<;>omega
   rename_i A;have A:x.kind≠3:=A;exact j _ nil (λq=>absurd q n) (λ_=>rfl) (λq=>absurd q u) (λ_=>rfl) (λq=>absurd q A)
  ·have a:b_ x=false:=sU a;have g:cw x=true:=by rw[m0,a];rfl
   have E: ¬b_ x=true:=by rw[a];decide
   have s:x.kind=4:=by unfold b_ at a;simpa using a
   unfold ID;rw[dZ (by show ¬x.kind=1;omega),dZ (by show ¬x.kind=2;omega),dZ (by show ¬x.kind=3;omega),aa s];refine .write ?_ ?_ ?_ ?_ ?_ (λagY k m=>⟨?_,by rw[b,m_,vr m a];rfl⟩) ⟨rfl,rfl,rfl⟩<;>rw[b]<;>simp[gF,dk,dt,nC,ku,a,g,s]
   ·omega
   ·intro z;rw[vr m a]at z;cases z
def tv{e:Co}(g:e.halt=0):(tY e).Z=e.Z∧(tY e).O=e.O∧(tY e).Yr=e.Yr∧(tY e).halt=e.halt∧(tY e).U=e.U∧
    ((e.W=[]∧(tY e).W=[]∧(tY e).Y=e.Y)∨∃p l,e.W=p::l∧
      (((xL e.data p.V p.data).2=true∧(tY e).W=l∧(tY e).Y=e.Y)∨
       ((xL e.data p.V p.data).2=false∧(tY e).W=p::l∧(tY e).Y=if bf e.Y (ab p.V) 3=false∧tA e true=true then e.Y++[⟨3,ab p.V,max (lX e.U e.asked) 1,oZ⟩]else e.Y))):=by
  have f:∀d:Co,d.halt=0->nP d=d:=λd k=>aa (.inr k);unfold tY;split
  · rename_i a
    rw[f (aW e) g];refine⟨rfl,rfl,rfl,rfl,rfl,.inl ⟨a,?_,rfl⟩⟩;show(sL e.W e.data).1=[];rw[a];rfl
  rename_i p l a;have b:sL e.W e.data=if(xL e.data p.V p.data).2=true then(l,(xL e.data p.V p.data).1,true)else(e.W,e.data,false):=by rw[a];rfl
  by_cases c:(xL e.data p.V p.data).2=true
  · rw[aa c]at b
    rw[aa (by rw[b]),f (aW e) g];refine⟨rfl,rfl,rfl,rfl,rfl,.inr ⟨p,l,a,.inl ⟨c,?_,rfl⟩⟩⟩;show(sL e.W e.data).1=l;rw[b]
  rw[dZ c]at b;rw[dZ (by rw[b];simp)];have i:aW e=e:=by unfold aW;rw[b]
  rw[i];have j:tW e=if bf e.Y (ab p.V) 3=false∧tA e true=true then jE e 3 (ab p.V) oZ else e:=by unfold tW;rw[a]
  rw[j];split
  · rename_i h
    rw[f (jE e 3 (ab p.V) oZ) g];exact⟨rfl,rfl,rfl,rfl,rfl,.inr ⟨p,l,a,.inr ⟨sU c,a,(aa h).symm⟩⟩⟩
  rename_i h;rw[f e g];exact⟨rfl,rfl,rfl,rfl,rfl,.inr ⟨p,l,a,.inr ⟨sU c,a,(dZ h).symm⟩⟩⟩
def D2{L:Nat}(b:1<=L){q:List a2}(a:eo L q):1<=dk L q:=by
 induction q with
 |nil=>exact b
 |cons x l ih=>
  have h:=a x b1;unfold dk;split
  ·omega
  ·exact ih λy c=>a y (bY _ c)
def xj{L a b:Nat}(h:a<=b):L*(8-b)<=L*(8-a):=Nat.mul_le_mul_left L ad
def HV{L a b:Nat}(h:a+1<=b)(c:b<=8):L*(8-b)+L<=L*(8-a):=by
 have:L*(8-b)+L=L*(8-b+1):=by rw[Nat.mul_add,iD]
 rw[this];exact Nat.mul_le_mul_left L ad
structure uc(L:Nat)(c d e:Co):Prop where
 W:e.W=c.W
 data:e.data=d.data
 U:e.U=c.U
 halt:e.halt=0
 Y:∃p,e.Y=d.Y++p∧eo L p∧∀x∈p,x.kind=1∨x.kind=2
 st:e8 c.Z<=e8 e.Z
 ZG:(yH d.Y:Int)<c.U.C->(yH e.Y:Int)>=c.U.C->e8 c.Z+1<=e8 e.Z
 YF:e8 e.Z<=8
def ym{L s:Nat}{c d e:Co}(h:LI L c)(C:LI L e)(I:i7 L c d)(i:uc L c d e)(h1:1<=L)(hs:c.U.C=(s:Int))(ap:2<=s)(aA:yH c.Y<=s)(ar:yH e.Y<=s)(hg:bT e.data)(hp:∀p∈c.W,kZ e.mem.size p.V p.data.size=true):
  h5 L s (tY e)<=h5 L s c∧(c.W≠[]->h5 L s (tY e)+1<=h5 L s c)∧(gF cw d.Y+1<=gF cw c.Y->cz d.Y=cz c.Y->h5 L s (tY e)+1<=h5 L s c):=by
 obtain⟨p,t,m2,U⟩:=i.Y;obtain⟨r1,_,_,_,_,hD⟩:=tv i.halt;have p4:gF cw p=0:=qr λx j=>by unfold cw;rcases U x j with k|k<;>rw[k]<;>rfl
 have p3:cz p=0:=oz λx j=>by rcases U x j with k|k<;>rw[k]<;>decide
 have ph:∀agY,bf p agY 3=false:=λagY=>rh λx j=>by rcases U x j with k|k<;>rw[k]<;>decide
 have E:gF cw e.Y=gF cw d.Y:=by rw[t,km,p4];rfl
 have D:cz e.Y=cz d.Y:=by rw[t,n',p3];rfl
 have hw:gF cw d.Y+L*cz d.Y<=gF cw c.Y+L*cz c.Y:=by
  cases I with
  |none a b=>rw[a,b];exact aC _
  |write w r d3=>rw[d3];omega
  |read w r d3=>rw[d3,w];exact aC _
  |done x k4 w=>exact w
 have aB:=xj (L:=L) i.st;have au:=jd C.b ar;unfold h5;rw[r1];rcases hD with ⟨Q,R,a3⟩|⟨q,l,Q,R⟩
 ·
  have H:c.W=[]:=i.W ▸ Q;rw[R,a3,H,E,D];refine⟨?_,λz=>absurd rfl z,λz1 Z=>?_⟩
  ·show _+j7 L s [] _<=_+j7 L s [] _;show _+0<=_+0;omega
  ·show _+0+1<=_+0;rw[Z];omega
 ·have H:c.W=q::l:=i.W ▸ Q;have ak:j7 L s (q::l) c.Y=l.length*(s*L+2*L+1)+(if bf c.Y (ab q.V) 3=true then dt (ab q.V) 3 c.Y else s*L+L+dk L c.Y+1):=rfl;have aw:1<=(if bf c.Y (ab q.V) 3=true then dt (ab q.V) 3 c.Y else s*L+L+dk L c.Y+1):=by
   split
   ·rename_i z;exact u4 dT h.b z
   ·omega
  have S:∀{A B:Nat},A+1<=B->A<=B∧(c.W≠[]->A+1<=B)∧(gF cw d.Y+1<=gF cw c.Y->cz d.Y=cz c.Y->A+1<=B):=λz=>⟨aL (fF _) z,λ_=>z,λ_ _=>z⟩;refine S ?_;rw[H,ak];rcases R with ⟨V,W,m⟩|⟨V,W,m⟩
  ·have:=xz C.b au q l;rw[W,m,E,D];omega
  ·
   have u:bf e.Y (ab q.V) 3=bf d.Y (ab q.V) 3:=by rw[t,j5,ph,Bool.or_false]
   have al:∀O,j7 L s (q::l) O=l.length*(s*L+2*L+1)+(if bf O (ab q.V) 3=true then dt (ab q.V) 3 O else s*L+L+dk L O+1):=λ_=>rfl;rw[W,al];have P:∀w,b7 e.data w->w.R=ab q.V->False:=λw z1 Z=>by
    have:=v6 hg C.d (hp q (by rw[H];exact b1)) z1 Z;rw[this]at V;cases V
   by_cases g:bf d.Y (ab q.V) 3=true
   ·
    rw[m,dZ (λz=>by rw[u,g]at z;exact absurd z.1 dT),u,aa g,t,oo g, <-t,E,D]
    cases I with
    |none a b=>rw[b]at g;cases g
    |write w r d3 n f p=>
     obtain⟨N,F⟩:=p (ab q.V) 3 dT
     rw[<-F,aa g,N,d3];omega
    |read w r d3 n n0 f p=>
     obtain⟨N,F⟩:=p (ab q.V) 3
     rw[<-F,aa g,d3,w];omega
    | done x k4 w r n f p z one agI ag G v=>
     cases j:du (ab q.V) 3 x with
     |true=>
      unfold du at j;simp only[aP,aY]at j;obtain⟨y,X,Y⟩:=v j.2
      exact(P y (by rw[i.data];exact X) (by rw[Y,j.1,fI])).elim
     |false=>
      obtain⟨N,F⟩:=p (ab q.V) 3 dT j;have J:=N ▸ g;have:=F J;rw[aa J];omega
   ·have g:bf d.Y (ab q.V) 3=false:=sU g;have J:bf c.Y (ab q.V) 3=false:=by
     rcases I.Y9 (ab q.V) (k:=3) dT with z|⟨_,_,z⟩
     ·exact z ▸ g
     ·obtain⟨y,X,Y⟩:=z rfl;exact(P y (by rw[i.data];exact X) (Y.trans (fI _))).elim
    rw[dZ (show ¬bf c.Y (ab q.V) 3=true by rw[J];decide)];have am:=l9 C.b;have ay:=l9 h.b;by_cases K:bf e.Y (ab q.V) 3=false∧tA e true=true
    ·
     rw[aa K]at m;have M:=(qf K.2).1;rw[i.U,hs]at M;have ai:eo L (tY e).Y:=by rw[m];exact p5 C.b 3 _ (C.J _) _
     have aq:yH (tY e).Y<=s:=by
      rw[m,mw,show yH [(⟨3,ab q.V,max (lX e.U e.asked) 1,oZ⟩:a2)]=1 from rfl];omega
     have ao:bf (tY e).Y (ab q.V) 3=true:=by
      rw[m,j5,dE];right;unfold bf;simp
     have az:=aL (kg (ab q.V) 3 (tY e).Y) (jd ai aq);have h3:cz (tY e).Y=cz d.Y+1:=by rw[m,n',D];rfl
     have h4:gF cw (tY e).Y=gF cw d.Y:=by rw[m,km,E];rfl
     have T:L*(cz d.Y+1)=L*cz d.Y+L:=by rw[Nat.mul_add,iD]
     have ax:1<=dk L c.Y:=D2 h1 h.b;rw[aa ao,h3,h4,T];omega
    ·
     rw[dZ K]at m;have av:s<=yH e.Y:=by
      have:tA e true=false:=by
       cases z:tA e true with
       |false=>rfl
       |true=>exact absurd ⟨u.trans g,z⟩ K
      unfold tA at this;rw[aa rfl]at this;have:=aF this;rw[i.U,hs]at this;omega
     rw[m,u,dZ (by rw[g];decide),E,D];have o:yH d.Y<s->L*(8-e8 e.Z)+L<=L*(8-e8 c.Z):=λz=>HV (i.ZG ad ad) i.YF
     cases I with
     |none a b=>
      have:=o (by rw[b];show 0<s;omega);have f0:dk L c.Y=L:=by rw[a];rfl
      rw[a,b]at *
      rw[f0];omega
     | write w r d3 n f p=>
      have an:dk L e.Y<=dk L c.Y:=by
       by_cases z:0<yH d.Y
       ·rw[t,q' z,f];exact aC _
       ·rw[xl (q:=c.Y) ad];exact am
      rw[d3];omega
     |read w r d3 n n0 f p=>
      have an:dk L e.Y+1=dk L c.Y:=by rw[t,q' ad];exact f
      rw[d3,w];omega
     |done x k4 w r n f p z one agI ag G v=>
      have:=o ad;rw[f];omega
def xq{mode:Int}(d:mode=0∨mode=1∨mode=2){e:ai}{l:List ai}:Pr mode (e::l) 0=true:=by
 unfold Pr;rw[cP];simp only;split
 ·rfl
 split
 ·rfl
 rename_i b;split
 ·rw[rC];intro a _;unfold IC gX;have:(if a<1∨a>31 then none else hv (e::l) a (min 0 (e::l).length))=none:=by
   split
   ·rfl
   rw[Nat.zero_min];rfl
  rw[this];rfl
 rename_i c;rw[aa ad];unfold vC;simp
def C9{prog:List Nat}{T:St}{e:ai}(h:db prog T e)(a:e.is≠3):(0<=e.i.j∧e.i.j<32)∧(0<=e.i.o∧e.i.o<32):=by
 by_cases hp:ga prog e.K
 ·have:=IK (bg prog e.K);rw[h.ins hp];exact⟨⟨this.2.2.1,this.2.2.2.1⟩,⟨this.2.2.2.2.1,this.2.2.2.2.2.1⟩⟩
 exact absurd (h.Zv hp).1 a
def vj{c:Co}{e:ai}{l:List ai}(i:c.Z=e::l)(h:c.U.mode=0∨c.U.mode=1∨c.U.mode=2)(m:e.is=0)(d:0<=e.i.j∧e.i.j<32)(f:0<=e.i.o∧e.i.o<32)(g:am e.i.op=4->e.known=false):DN c 0=true:=by
 unfold DN;rw[i,cP];simp only;have a:=xq (mode:=c.U.mode) h (e:=e) (l:=l);have b:=pa (agI:=e::l) (r:=c.r) d;have j:=pa (agI:=e::l) (r:=c.r) f;rw[dZ ad];split
 ·rw[b,a];simp
 split
 ·rename_i k;rw[g k,b,a];rfl
 rw[a,D3 (e:=e) (by rfl),b,j];rfl
def E3{c:Co}{e:ai}{l:List ai}(b:c.Z=e::l)(a:DN c 0=true):(Kv c).getD 0 false=true∧0<(Kv c).length∧Cx (Fi c) 0=am e.i.op:=by
 unfold Kv Fi Cx;rw[b];refine⟨?_,by simp,rfl⟩;rw[bN,List.range_succ_eq_map];exact a
theorem u5{agN:Int}{busy:Bool}{kinds:List Int}{can:List Bool}:∀n,(∀i∈(kA agN busy kinds can n).out,rM (Cx kinds i)=2->(kA agN busy kinds can n).t2=true)∧(∀i∈(kA agN busy kinds can n).out,∀j∈(kA agN busy kinds can n).out,rM (Cx kinds i)=2->rM (Cx kinds j)=2->i=j)
 |0=>⟨(λi h=>by cases h),(λi h=>by cases h)⟩
 | n +1=>by
  obtain⟨a,b⟩:=u5 (agN:=agN) (busy:=busy) (kinds:=kinds) (can:=can) n;unfold kA IW;split
  ·exact⟨a,b⟩
  split
  ·exact⟨a,b⟩
  split
  ·exact⟨a,b⟩
  ·rename_i f;have e:rM (Cx kinds n)=2->(kA agN busy kinds can n).t2=false:=λz=>by
    cases q:(kA agN busy kinds can n).t2 with
    |false=>rfl
    |true=>exact absurd (by unfold RF;rw[z,q];rfl) f
   refine⟨λi hi z=>?_,λi hi j hj c d=>?_⟩
   ·show((kA agN busy kinds can n).t2||_)=true;rcases cp.1 hi with hi|hi
    ·rw[a i hi z];rfl
    ·rw[uJ]at hi;subst hi;rw[z];simp
   ·rcases cp.1 hi with hi|hi<;>rcases cp.1 hj with hj|hj
    ·exact b i hi j hj c d
    ·rw[uJ]at hj;subst hj;have:=a i hi c;rw[e d]at this;cases this
    ·rw[uJ]at hi;subst hi;have:=a j hj d;rw[e c]at this;cases this
    ·rw[uJ]at hi hj;rw[hi,hj]
def H5{c:Co}{j:Nat}(h:∀e,c.Z[j]?=some e->am e.i.op≠3):(iS c j).Y=c.Y:=by
 unfold iS;split
 ·rfl
 rename_i e a;split
 ·rfl
 split
 ·rename_i k;exact absurd k (h e a)
 rfl
theorem vp{prog:List Nat}{s:St}:∀(p:List Nat) {c:Co},Iv prog c s->c.mc->p.Nodup->(∀i∈p,Rd c.Z c.r i)->(∀i∈p,∀e,c.Z[i]?=some e->am e.i.op≠3)->(p.foldl iS c).Y=c.Y
 |[],_,_,_,_,_,_=>rfl
 | j::p,c,hI,o,d,n,m=>by
  obtain⟨r,t,x,u,k⟩:=hI.start o (n j b1);rw[List.nodup_cons]at d;show(p.foldl iS (iS c j)).Y=_;rw[vp p r t d.2 (λi b=>by
   have g:=n i (bY _ b);rw[u];rcases k with ⟨_,q⟩|⟨e,v,a,q,h,l⟩
   ·rw[q];exact g
   ·rw[q];exact mf a h l (λz=>d.1 (by rw[z];exact b)) g) (λi b e a=>by
   have f:=m i (bY _ b);rcases k with ⟨_,q⟩|⟨y,v,w,q,h,l⟩
   ·rw[q]at a;exact f e a
   ·rw[q,kX (λz=>d.1 (by rw[z];exact b))]at a;exact f e a)]
  exact H5 (m j b1)
def DY{L:Nat}{prog:List Nat}{c:Co}{s:St}{n:Nat}(h:LI L c)(hI:Iv prog c s)(I:c.mc)(u:c.E n)(hb:n+1001<=890000)(hh:c.halt=0){e:ai}{l:List ai}(T:c.Z=e::l)(U:1<=c.U.u)(S:DN c 0=true)(E:c.Z.any IE=false∨am e.i.op≠2):
  (gY c).Z[0]?=(iS c 0).Z[0]? ∧∃p,(gY c).Y=(iS c 0).Y++p∧eo L p∧(∀x∈p,x.kind=1)∧(am e.i.op=3->p=[]):=by
 obtain⟨O,c2,B⟩:=E3 T S;obtain⟨t,J⟩:=w_ (busy:=c.Z.any IE) U O c2 (by rw[B];exact E.imp id λz=>by omega);have H:=pk u;have a:=ny (c:=c);have d:=ma (c:=c);have r:gY c=(g9 c.U.u (c.Z.any IE) (Fi c) (Kv c)).foldl iS c:=dZ ad;rw[J]at H a d r;rw[List.nodup_cons]at a;rw[bN]at H;obtain⟨w,y,a3,N,A⟩:=hI.start I (d 0 b1);obtain⟨V,l2⟩:=wz h hI u (d 0 b1);have g:∀i∈t,Rd (iS c 0).Z (iS c 0).r i:=λi f=>by
  have j:=d i (bY _ f);rw[N];rcases A with ⟨_,q⟩|⟨e,P,F,q,o,D⟩
  ·rw[q];exact j
  rw[q];exact mf F o D (λz=>a.1 (by rw[z];exact f)) j
 obtain⟨r1,Z,r3⟩:=m7 t V w y (yY u ad 0).1 ad a.2 g;rw[r];show(t.foldl iS (iS c 0)).Z[0]?=_∧∃p,(t.foldl iS (iS c 0)).Y=_∧_;refine⟨r3 0 a.1,?_⟩;by_cases M:am e.i.op=3
 ·refine⟨[],?_,(λx v=>by cases v),(λx v=>by cases v),λ_=>rfl⟩;rw[dY];refine vp t w y a.2 g λi f C b k=>?_;have Q:rM (Cx (Fi c) 0)=2:=by rw[B,M];rfl
  have m:0≠i:=λz=>a.1 (by rw[z];exact f);have G:c.Z[i]?=some C:=by
   rcases A with ⟨_,q⟩|⟨e,P,F,q,o,D⟩
   ·rw[q]at b;exact b
   rw[q,kX m]at b;exact b
  have R:rM (Cx (Fi c) i)=2:=by
   unfold Cx Fi;rw[aR,aX,G];show rM ((am C.i.op:Nat):Int)=2;rw[k];rfl
  have:=(u5 (agN:=c.U.u) (busy:=c.Z.any IE) (kinds:=Fi c) (can:=Kv c) (Kv c).length).2;have K:(kA c.U.u (c.Z.any IE) (Fi c) (Kv c) (Kv c).length).out=0::t:=J;rw[K]at this;exact m (this 0 b1 i (bY _ f) Q R)
 obtain⟨p,W,X,Y⟩:=Z.Y;exact⟨p,W,X,Y,λz=>absurd z M⟩
def HS{L:Nat}{prog:List Nat}{c:Co}{s:St}{n:Nat}(h:LI L c)(hI:Iv prog c s)(g:c.mc)(f:c.E n)(j:n+1001<=890000){e:ai}{l:List ai}(i:c.Z=e::l)(a:e.is≠0∨(c.Z.any IE=true∧am e.i.op=2)):(gY c).Z[0]?=some e:=by
 have b:c.Z[0]?=some e:=by rw[i];rfl
 unfold gY;split
 ·exact b
 have m:=pk f;rw[(m7 _ h hI g f ad ny ma).2.2 0 λd=>?_,b];rcases a with a|⟨a,k⟩
 ·exact a (ma 0 d e b).1
 rw[a]at d;have:=(o9 (agN:=c.U.u) (kinds:=Fi c) (can:=Kv c) (Kv c).length).1 0 d;apply this;unfold Cx Fi;rw[i];show((am e.i.op:Nat):Int)=2;rw[k];rfl
def FD{c:Co}{a:ai}{l:List ai}(j:c.Z=a::l)(m:c.halt=0):∃x g d,(kK c).Z={x with M:=g}::d∧SE (a0 a) x∧(am a.i.op=4->(a0 a).known=true->(a0 a).is=0->0<=a.i.o∧a.i.o<32->x.is=3):=by
 obtain⟨x,d,h,e,b⟩:=v3 (r:=c.r) (e:=a0 a) (l:=l.map a0) l.length;have f:bp c=x::d:=by unfold bp;rw[j];exact h
 rw[(j9 a).2.1]at b;unfold kK;rw[dZ ad];split
 ·rename_i i n;show ∃y g k,c3 (bp c) i=_∧_;rw[f];unfold c3
  cases i with
  |zero=>exact⟨x,x.next,[],rfl,e,b⟩
  |succ i=>
   rw[dL];split
   ·exact⟨x,x.M,_,rfl,e,b⟩
   ·exact⟨x,x.M,d,rfl,e,b⟩
 ·exact⟨x,x.M,d,f,e,b⟩
def F1{c:Co}(a:bT c.data){agY:Nat}{w:Wy}(b:b7 c.data w)(e:w.R=ab agY):Kt c agY=true:=by
 unfold Kt;rw[lc a b e];rfl
def K2{c:Ca}(d:bT c){agY:Nat}(i:agY<=4294967295):(bK (qZ c agY oZ false).1 (ab agY)).2.isSome=true:=by
 have a:bT (qZ c agY oZ false).1:=d.put i _ _;by_cases b:(bK c agY).2.isSome=true
 ·have e:(qZ c agY oZ false).1=tO c agY:=by
   rw[Cn b,Dw b];show rK c _ (jp _ _)=_;congr 1
   cases eY (pF c (bK c agY).1) ((bK c agY).2.getD 0)with
   |nil=>rfl
   |cons w l=>show _::l=w::l;congr 1;show({w with data:=_,Z':=_}:Wy)=w;rw[aa dT,Bool.or_false]
  obtain⟨w,_,f,g⟩:=ll d b;exact lc a (w:=w) (by rw[e];exact(nj d _).2 f) (by rw[g,fI])
 ·rcases o7 d (sU b) oZ false with ⟨_,h⟩|⟨_,_,h⟩
  ·exact lc a ((h _).2 (.inl rfl)) (by rw[fI])
  ·exact lc a ((h _).2 (.inl rfl)) (by rw[fI])
structure j4(L s:Nat)(prog:List Nat)(T:St)(n:Nat)(c:Co):Prop where
 L1:1<=L
 L8:L<=8
 hs:c.U.C=(s:Int)
 s2:2<=s
 li:LI L c
 mc:c.mc
 ok:c.E n
 nb:n+2000<=890000
 iv:Iv prog c T
 hh:c.halt=0
 sr:∀p∈c.W,kZ c.mem.size p.V p.data.size=true
 rd:yH c.Y<=s
 Z:c.Z.length<=8
theorem j4.two{L s:Nat}{prog:List Nat}{T:St}{n:Nat}{c:Co}(h:j4 L s prog T n c):∀e∈c.Z,e.is=2->am e.i.op=3∧e.known=true:=λe a z=>by
 obtain⟨k,b⟩:=List.getElem?_of_mem a;exact(ic h.iv.ri.ok b).Y z
structure Wk(L s:Nat)(prog:List Nat)(T:St)(n:Nat)(c w:Co):Prop where
 li:LI L w
 mc:w.mc
 ok:w.E (n+1)
 iv:Iv prog w T
 hh:w.halt=0
 tk:i7 L c (lM c)
 Y:w.Y=(lM c).Y
 data:w.data=(lM c).data
 W:w.W=c.W
 U:w.U=c.U
 y:w.y=(lM c).y
 mem:w.mem.size=c.mem.size
 Yv:dd c.Z w.Z
 rd:yH w.Y<=s
theorem j4.ZD{L s:Nat}{prog:List Nat}{T:St}{n:Nat}{c:Co}(h:j4 L s prog T n c):Wk L s prog T n c (kK (lM c)):=by
 have C:=h.li.ZE h.L8 h.mc h.two;have kD:=lf h.mc h.ok.ok.Z_;have B:=h.iv.ZE h.mc h.ok.ok.Z_;have Q:=LH h.ok (oH h.nb);obtain⟨P,nw⟩:=B.ZD;have tk:=qp h.L8 h.li h.mc;obtain⟨t1,t2,t3,t4,t5,t6,t7,t8,t9⟩:=l8 c;obtain⟨D,U,F,G,V,b6,W,X,b9⟩:=pd (lM c);have O:yH (lM c).Y<=s:=by
  have:=h.rd
  cases tk with
  |none a b=>rw[b];exact aE _
  |write w r d3 n=>omega
  |read w r d3 n=>omega
  |done x k4 w r n=>omega
 have t:dd c.Z (lM c).Z:=by
  rcases tk.Y8 with q|⟨x,e,_,q⟩
  ·rw[q];exact .refl _
  ·rw[q];exact dd.map (x' e x.R) _
 refine⟨C.ZD nw,ea kD.mc F D G,LJ Q,P,(V.trans t6).trans h.hh,tk,D,F,X.trans t1,U.trans t2,W,by rw[G];exact t9,t.trans ?_,by rw[D];exact O⟩;have hN:NW (lM c).Z:=C.w;have hv:=AI (lM c);unfold kK;split
 ·exact .refl _
 split
 ·rename_i i J;show dd _ (c3 (bp (lM c)) i);unfold yD at J;obtain⟨K,d,_⟩:=List.findIdx?_eq_some_iff_getElem.1 J;have p:(bp (lM c))[i]?=some (bp (lM c))[i]:=aA K;generalize (bp (lM c))[i]=e at p d;have E:c3 (bp (lM c)) i=(bp (lM c)).take i++[{e with M:=e.next}]:=by unfold c3;rw[p]
  obtain⟨y,g,S⟩:=gT (show(bq (lM c).r ((lM c).Z.map a0) (lM c).Z.length)[i]?=some e from p);rw[aX]at g
  cases l:(lM c).Z[i]? with
  |none=>rw[l]at g;cases g
  | some z=>
   rw[l]at g;injection g with g;subst g;have M:am e.i.op=5∧e.known=true∧e.next≠e.M:=by
    unfold Nj at d;simp only[aP,aY]at d;exact⟨d.1.1,d.1.2,d.2⟩
   have H:=j9 z;have m:am z.i.op=5:=by rw[<-H.2.1, <-S.i];exact M.1
   have ee:=S.no (by rw[H.2.1,m];decide);have A:LT z=false:=by
    cases q:z.known with
    |true=>
     have I:=ic B.ri.ok l;have h3:=(I.Ze m q).1;have Y:a0 z=z:=by unfold a0;rw[aa ad]
     have:=hN z (aB l)
     rw[ee,Y]at d;rw[d]at this;cases this
    |false=>
     unfold LT;split
     ·rfl
     split
     ·rfl
     rw[aa (.inr (.inr m))];exact q
   refine dd.of λk x hx hs=>?_;have ab:k<=i:=by
    rcases ew i k with q|q
    ·have:z∈(lM c).Z.take k:=aB (i:=i) (by rw[cU,aa q];exact l);rw[hs z this]at A;cases A
    ·exact q
   rw[E];obtain⟨f,o,R⟩:∃f,(bp (lM c))[k]?=some f∧fo x f:=by
    have j:k<(bp (lM c)).length:=oT;refine⟨_,aA j,?_⟩;generalize hq:(bp (lM c))[k]=f;have N:(bp (lM c))[k]?=some f:=by rw[aA j,hq]
    obtain⟨y,u,v⟩:=gT (show(bq (lM c).r ((lM c).Z.map a0) (lM c).Z.length)[k]?=some f from N);rw[aX,hx]at u;injection u with u;subst u;exact(um x).trans (.of v.i v.halt (λw=>v.known.trans w) (λw=>v.is.elim (λz=>z ▸ w) (λz=>by omega)))
   rcases ew k i with q|q
   ·exact⟨f,by rw[cF (by rw[aM];omega),cU,aa q];exact o,R⟩
   ·have Z:k=i:=oT;subst Z;rw[p]at o;injection o with o;subst o;refine⟨{e with M:=e.next},by rw[bM (by rw[aM];omega),aM,(oT:k-min k (bp (lM c)).length=0)];rfl,R.trans (.of rfl rfl id id)⟩
 ·exact hv
def u2{L:Nat}{c:Co}(h:LI L c):bl c.Z<=34:=mb λe b a=>by
 have:e.is=1:=by unfold IE at a;simp only[aP,aY]at a;exact a.2
 have:=h.one e b this;omega
def u_{L s:Nat}{f:Co}{e:ai}(a:eo L f.Y)(c:yH f.Y<=s)(b:he e)(g:bl f.Z<=34):g_ L s f e<=HM L s:=by
 have d:=jd a c;have hp:=λagY k=>aL (kg agY k f.Y) d;have h:=l9 a;have i:=hp (ab e.V) 1;have j:=hp (ab e.V) 3;unfold g_ HM;split
 ·omega
 split
 ·rename_i z;have:=b z;omega
 split
 ·omega
 split
 ·split
  ·split
   ·omega
   split<;>omega
  omega
 split
 ·split<;>omega
 split<;>omega
structure Tl(L s:Nat)(w e4 e5 e6 f:Co):Prop where
 Yt:LI L e4
 sr:SR L w e4
 YG:LI L e6
 mr:MR L w e6
 b5:e5.Y=e4.Y
 w5:e5.y=w.y
 f5:e5.Yr=w.Yr
 t5:e5.stop=w.stop
 r5:∃t,e5.Z=e4.Z++t
 r6:e6.Z=e5.Z
 z5:∀x∈e5.Z,IE x=true->x∈e4.Z
 rf:f.Z=e6.Z
 ff:f.O=e6.O
 fe:f.Yr=e6.Yr
 fb:eo L f.Y
 fr:yH f.Y<=s
 Y:∃p,f.Y=e6.Y++p
 fs:(w.W=[]->f.W=[]∧f.Y=e6.Y)∧(f.W≠[]->w.W≠[])∧(f.W=[]->w.W≠[]->f.Y=e6.Y)
 q5:e5=kV w.U.u.toNat e4
 q6:e6=eL w.U.u.toNat e5
 c5:e5.U=w.U
 Yz:e4.O=w.O
 YC:e4.Z.length=w.Z.length
 q4:e4=gY w
 Yw:LI L e5
def C7{L s:Nat}{prog:List Nat}{T:St}{n:Nat}{c w:Co}(h:j4 L s prog T n c)(d:Wk L s prog T n c w)(i:yH (eN (lP (gY w))).Y<=s):Tl L s w (gY w) (lP (gY w)) (eN (lP (gY w))) (tY (eN (lP (gY w)))):=by
 obtain⟨v,b⟩:=d.li.Zo d.iv d.mc d.ok (oH h.nb);have E:(gY w).halt=0:=b.halt.trans d.hh;have x:lP (gY w)=kV w.U.u.toNat (gY w):=by
  show(if(gY w).halt≠0 then _ else _)=_;rw[dZ ad,b.U]
 obtain⟨q,j,f5,t5,C,D,t,A⟩:=v.Y6 w.U.u.toNat;rw[<-x]at q j f5 t5 C D t A;have F:(lP (gY w)).halt=0:=j.halt.trans E;have y:eN (lP (gY w))=eL w.U.u.toNat (lP (gY w)):=by
  show(if(lP (gY w)).halt≠0 then _ else _)=_;rw[dZ ad,j.U,b.U]
 obtain⟨e,r,B,_⟩:=q.Zb w.U.u.toNat;rw[<-y]at e r B;have k:=(b.mr.trans j).trans r;have G:(eN (lP (gY w))).halt=0:=r.halt.trans F;obtain⟨d1,d2,d3,d4,d5,d6⟩:=tv G;have u:(eN (lP (gY w))).U.C=(s:Int):=by rw[k.U,d.U];exact h.hs
 have f:eo L (tY (eN (lP (gY w)))).Y∧yH (tY (eN (lP (gY w)))).Y<=s∧(∃p,(tY (eN (lP (gY w)))).Y=(eN (lP (gY w))).Y++p)∧((w.W=[]->(tY (eN (lP (gY w)))).W=[]∧(tY (eN (lP (gY w)))).Y=(eN (lP (gY w))).Y)∧((tY (eN (lP (gY w)))).W≠[]->w.W≠[])∧((tY (eN (lP (gY w)))).W=[]->w.W≠[]->(tY (eN (lP (gY w)))).Y=(eN (lP (gY w))).Y)):=by
  have nil:∃p,(eN (lP (gY w))).Y=(eN (lP (gY w))).Y++p:=⟨[],(dY _).symm⟩;rcases d6 with ⟨a,m,o⟩|⟨p,l,a,⟨m,o,g⟩|⟨m,o,g⟩⟩
  ·rw[o];have a:w.W=[]:=k.W ▸ a;exact⟨e.b,i,nil,λ_=>⟨m,rfl⟩,λz=>absurd m z,λ_ _=>rfl⟩
  ·rw[g];have a:w.W=p::l:=k.W ▸ a;exact⟨e.b,i,nil,(λz=>by rw[a]at z;cases z),(λ_=>by rw[a];simp),λ_ _=>rfl⟩
  have a:w.W=p::l:=k.W ▸ a;refine⟨?_,?_,?_,(λz=>by rw[a]at z;cases z),(λ_=>by rw[a];simp),(λz=>by rw[o]at z;cases z)⟩
  ·rw[g];split
   ·exact p5 e.b 3 _ (e.J _) _
   exact e.b
  ·rw[g];split
   ·rename_i H;have:=(qf H.2).1;rw[mw,show yH [(⟨3,ab p.V,max (lX (eN (lP (gY w))).U (eN (lP (gY w))).asked) 1,oZ⟩:a2)]=1 from rfl];omega
   exact i
  rw[g];split
  ·exact⟨_,rfl⟩
  exact nil
 exact⟨v,b,e,k,t,C.trans b.y,f5.trans b.Yr,t5.trans b.stop,A,B,D,d1,d2,d3,f.1,f.2.1,f.2.2.1,f.2.2.2,x,y,j.U.trans b.U,b.O,(nO d.ok (oH h.nb)).1,rfl,q⟩
abbrev Nx(L:Nat)(c d f:Co)(A B:Nat):Prop:=A<=B∧(c.W=[]->A+1<=B∨(gF cw d.Y+1<=gF cw c.Y∧cz d.Y=cz c.Y))
def fu{L:Nat}{c d f:Co}{A B:Nat}(h:A+1<=B):Nx L c d f A B:=⟨aL (fF _) h,λ_=>.inl h⟩
def zx{c:Co}(h:c.Z=[]):gY c=c:=by
 unfold gY;split
 ·rfl
 have:Kv c=[]:=by unfold Kv;rw[h];rfl
 rw[this];rfl
def yj{L s:Nat}{prog:List Nat}{T:St}{n:Nat}{c w v H V f:Co}(h:j4 L s prog T n c)(hw:w=kK (lM c))(D:Wk L s prog T n c w)(d:Tl L s w v H V f)(I:c.Z=[]):Nx L c (lM c) f (e_ L s f) (e_ L s c):=by
 have ak:=pD D.ok.cf;obtain⟨t1,t2,t3,t4,t5,t6,t7,t8,t9⟩:=l8 c;have E:(lM c).Z=[]:=by
  rcases D.tk.Y8 with q|⟨_,_,_,q⟩<;>rw[q,I];rfl
 have F:w=lM c:=by rw[hw];exact Ka E
 have O:v.Z=[]:=List.length_eq_zero_iff.1 (by rw[d.YC,F,E];rfl);have Q:0<w.U.u.toNat:=oT;have N:v.O=c.O:=d.Yz.trans (by rw[F];exact t4);by_cases t:c.O=[]
 ·
  have K:H=v:=by
   rw[d.q5];exact Ap (.inr (by rw[N,t];rfl))
  have P:f.Z=[]:=by rw[d.rf,d.r6,K,O]
  have Z:c.stop=false:=by
   cases q:c.stop with
   |false=>rfl
   |true=>
    obtain⟨z,z1,_⟩:=h.li.st h.hh q;rw[I,t]at z1;cases z1
  have B:e_ L s c=if c.W≠[]then HM L s+3+2*(s*L)else if bf c.Y (ab c.Yr) 2=true then HM L s+2+dt (ab c.Yr) 2 c.Y else HM L s+3+s*L+gF b_ c.Y:=by
   unfold e_;rw[I,t]
  have U:v=lM c:=by rw[d.q4,F];exact zx E
  have y:H=lM c:=K.trans U;have m:=IA d.Yw Q (by rw[y];exact t4.trans t) (by rw[y];exact t5.trans Z) (by rw[d.c5];omega);rw[<-d.q6,y,t3]at m;have Y:(lM c).U.C=(s:Int):=by rw[t2];exact h.hs
  have S:w.W=c.W:=D.W;have ag:=jd d.fb d.fr;have ai:=jd h.li.b h.rd;have an:=aL (kg (ab c.Yr) 2 f.Y) ag;have am:=aL (kg (ab c.Yr) 2 c.Y) ai;rw[B];rcases m with m|⟨f1,f2,f3,f4⟩
  ·
   have C:e_ L s f=HM L s+1:=by
    unfold e_;rw[P]
    cases i:f.O with
    |nil=>rw[d.ff]at i;exact absurd i m
    |cons _ _=>rfl
   rw[C];refine fu ?_;split
   ·omega
   split<;>omega
  ·have C:e_ L s f=if f.W≠[]then HM L s+3+2*(s*L)else if bf f.Y (ab c.Yr) 2=true then HM L s+2+dt (ab c.Yr) 2 f.Y else HM L s+3+s*L+gF b_ f.Y:=by
    unfold e_;rw[P,d.ff,f2,d.fe,f3]
   rw[C];by_cases k:c.W=[]
   ·
    obtain⟨g1,A⟩:=d.fs.1 (S.trans k);rw[dZ (show ¬f.W≠[] by rw[g1];simp),dZ (show ¬c.W≠[] by rw[k];simp)];rw[f4]at A;have M:∀x:a2,du (ab c.Yr) 2 x=true->(x.kind=2->(lM c).y=(qZ c.y x.R oZ false).1)->False:=λx j u=>by
     unfold du at j;simp only[aP,aY]at j;have hl:x.R<=4294967295:=by rw[j.1];exact dV h.ok.ok.Yr
     have:=K2 (gl.2 ⟨h.ok.y,h.ok.ok.y⟩) hl;rw[<-u j.2,j.1,fI]at this;rw[this]at f1;cases f1
    by_cases o:bf (lM c).Y (ab c.Yr) 2=false∧tA (lM c) false=true
    ·
     rw[aa o]at A;have hh:bf f.Y (ab c.Yr) 2=true:=by rw[A,j5,dE];right;unfold bf;simp
     rw[aa hh];refine fu ?_;split
     ·rename_i R;exfalso;have W:=o.1;rcases D.tk.Y9 (ab c.Yr) (k:=2) dT with q|⟨_,q,_⟩
      ·rw[q,R]at W;cases W
      ·obtain⟨x,x1,x2⟩:=q rfl;exact M x x1 λ_=>x2
     ·omega
    ·rw[dZ o]at A;rw[A]
     cases D.tk with
     |none a b=>
      exfalso;apply o;rw[b];refine⟨rfl,?_⟩;unfold tA;rw[dZ dT,b,Y];have:=h.s2
      exact jP (by show((0:Nat):Int)<_;omega)
     |write w r d3 n f p=>
      obtain⟨J,G⟩:=p (ab c.Yr) 2 dT;refine⟨?_,λ_=>.inr ⟨w,d3⟩⟩
      rw[G,J,r];exact aC _
     |read w r d3 n n0 f p=>
      obtain⟨J,G⟩:=p (ab c.Yr) 2;refine fu ?_;rw[G]
      split<;>omega
     | done x k4 w r n f p z one agI u al bb=>
      cases j:du (ab c.Yr) 2 x with
      |true=>exact(M x j u).elim
      |false=>
       obtain⟨J,G⟩:=p (ab c.Yr) 2 dT j;refine fu ?_;rw[J];split
       ·rename_i R;have:=G R;omega
       ·omega
   ·rw[aa (show c.W≠[]from k)];refine⟨?_,λz=>absurd z k⟩;split
    ·exact aC _
    split<;>omega
 ·
  have X:H.Z≠[]:=by
   rw[d.q5];exact IT Q O (by rw[d.sr.U];omega) (by rw[N];exact t)
  have B:e_ L s c=HM L s+1:=by
   unfold e_;rw[I]
   cases i:c.O with
   |nil=>exact absurd i t
   |cons _ _=>rfl
  rw[B];refine fu ?_
  cases i:f.Z with
  |nil=>rw[d.rf,d.r6]at i;exact absurd i X
  |cons g l=>
   have e:e_ L s f=g_ L s f g:=by unfold e_;rw[i]
   rw[e];have hg:g∈V.Z:=by rw[<-d.rf,i];exact b1
   have:=u_ (s:=s) d.fb d.fr (d.YG.one g hg) (by rw[d.rf];exact u2 d.YG);omega
theorem vm:∀(n:Nat) (c:Co),∃p,(eL n c).Y=c.Y++p∧∀x∈p,x.kind=2
 |0,c=>⟨[],(dY _).symm,(λx a=>by cases a)⟩
 | n+1,c=>by
  have nil:∃p,c.Y=c.Y++p∧∀x∈p,(x:a2).kind=2:=⟨[],(dY _).symm,(λx a=>by cases a)⟩;unfold eL;split
  ·exact nil
  split
  ·exact nil
  split
  ·split
   ·exact⟨_,rfl,λx a=>by rw[uJ]at a;subst a;rfl⟩
   ·exact nil
  ·obtain⟨p,b,d⟩:=vm n (LU (dM {c with y:=tO c.y (ab c.Yr)} (bg c.prog c.Yr)).1 (dM {c with y:=tO c.y (ab c.Yr)} (bg c.prog c.Yr)).2);refine⟨p,b.trans ?_,d⟩;show(dM {c with y:=tO c.y (ab c.Yr)} (bg c.prog c.Yr)).1.Y++p=_;rw[(q2 _ _).2.1]
def oG{w:Co}{b:ai}{l:List ai}(h:w.Z=b::l):iS w 0=if am b.i.op=4 then bt w 0 (yC b w.mem.size (mI w.Z w.r 0).1)else if am b.i.op=3 then oE (bt w 0 (yC b w.mem.size (mI w.Z w.r 0).1)) 0 else bt w 0 (rJ b (mI w.Z w.r 0).1 (mI w.Z w.r 0).2.1):=by
 unfold iS;rw[h];rfl
def rB{w:Co}{b y:ai}{l:List ai}(h:w.Z=b::l):(bt w 0 y).Z=y::l:=by show w.Z.set 0 y=_;rw[h];rfl
def wg{L s:Nat}{f:Co}{g:ai}{t:List ai}(h:f.Z=g::t):e_ L s f=g_ L s f g:=by unfold e_;rw[h]
def pt{e:Co}{agY:Nat}{a:ai}(h: ¬(a.is=2∧ab a.V=agY)):wO e agY a=a:=dZ h
def lj{L s:Nat}{f:Co}{g:ai}(h:g.is=3):g_ L s f g=0:=aa h
def lF{L s:Nat}{f:Co}{g:ai}(h:g.is=1):g_ L s f g=g.left.toNat:=by unfold g_;rw[dZ ad,aa h]
def pl{L s:Nat}{f:Co}{g:ai}(h:g.is=2):g_ L s f g=dt (ab g.V) 1 f.Y:=by unfold g_;rw[dZ ad,dZ ad,aa h]
def lz{L s:Nat}{f:Co}{g:ai}(h:g.is=0):g_ L s f g=if am g.i.op=3 then
  (if f.W=[]∧g.known=true then
   (if bf f.Y (ab g.V) 1=true then s*L+1 else if bf f.Y (ab g.V) 3=true then 1+dt (ab g.V) 3 f.Y else s*L+1+dk L f.Y)
  else s*L+L+2)
 else if am g.i.op=4 then(if g.known=true then 1 else 2)
 else if am g.i.op=2 then 35+bl f.Z
 else 4:=by unfold g_;rw[dZ ad,dZ ad,dZ ad]
def F6{e:ai}{n:Int}{a:Nat}(b:e.is=0)(h:(yC e n a).is≠0):(yC e n a).known=false:=by
 unfold yC at h⊢;split at h
 ·exact absurd b h
 ·rename_i q;rw[dZ q];split at h
  ·exact absurd b h
  ·rename_i c;rw[dZ c];show e.known=false
   cases z:e.known with
   |false=>rfl
   |true=>exact absurd (.inr (.inr z)) q
def H'{e:ai}{n:Int}{a:Nat}(h:e.known=true):yC e n a=e:=aa (.inr (.inr h))
def F2{y:ai}{l:List ai}(k:am y.i.op=3):(lL (y::l) [] 0).1=2:=by
 unfold lL;rw[cP];show(if am y.i.op≠3 then _ else _:Int×ByteArray).1=2;rw[dZ ad];rfl
def z2{y:ai}(k:am y.i.op=3)(b:y.known=true)(a:y.is=0)(s:ByteArray):(uM y s).is=1∧(uM y s).left=1:=by
 unfold uM;rw[dZ (by simp[k,b,a])];exact⟨rfl,rfl⟩
def A7{L s:Nat}{prog:List Nat}{T:St}{n:Nat}{c w e4 e5 e6 f:Co}(h:j4 L s prog T n c)(hw:w=kK (lM c))(A:Wk L s prog T n c w)(B:Tl L s w e4 e5 e6 f){a:ai}{l:List ai}(hr:c.Z=a::l)
  (bj:∀b bF,w.Z=b::bF->b.is=3->c.W≠[]∧am b.i.op=4):Nx L c (lM c) f (e_ L s f) (e_ L s c):=by
 have bH:=pD A.ok.cf;have ax:w.U.mode=0∨w.U.mode=1∨w.U.mode=2:=oT;obtain⟨t1,t2,t3,t4,t5,t6,t7,t8,t9⟩:=l8 c;have aw:a∈c.Z:=by rw[hr];exact b1
 have ao:db prog T a:=by have:=h.iv.ri.ok;rw[hr]at this;exact this.1
 have bg:=h.li.one a aw;rw[wg hr];obtain⟨j,l1,hD,aI,aJ⟩:∃j l1,(lM c).Z=j::l1∧(a.is≠2->j=a)∧(j=a∨∃x,du (ab a.V) 1 x=true∧j.is=1∧j.left=1∧j.i=a.i):=by
  have bo:(lM c).Z=c.Z->∃j l1,(lM c).Z=j::l1∧(a.is≠2->j=a)∧(j=a∨∃x,du (ab a.V) 1 x=true∧j.is=1∧j.left=1∧j.i=a.i):=λq=>⟨a,l,q.trans hr,λ_=>rfl,.inl rfl⟩;rcases A.tk.Y8 with q|⟨x,e,c',q⟩
  ·exact bo q
  ·refine⟨wO e x.R a,_,by rw[q,hr];rfl,λq=>pt λz=>q z.1,?_⟩;rcases qn (c:=e) (agY:=x.R) (h.two a aw)with ⟨_,_,z⟩|⟨u,W,cs,c5⟩
   ·exact .inl (pt z)
   ·exact .inr ⟨x,c' _ W.symm,cs,c5,(lb _ _ _).1⟩
 obtain⟨x,H,l',o,D,a_⟩:=FD hD (t6.trans h.hh);rw[<-hw]at o;have an:0<e4.Z.length:=by rw[B.YC,o];simp
 obtain⟨g,F⟩:∃g,e4.Z[0]?=some g:=⟨_,aA an⟩;obtain⟨tt,bv⟩:∃bF,f.Z=g::bF:=by
  obtain⟨bF,ht⟩:=B.r5;rw[B.rf,B.r6,ht]
  cases C:e4.Z with
  |nil=>rw[C]at an;cases an
  |cons y da=>rw[C]at F;injection F with F;subst F;exact⟨da++bF,rfl⟩
 rw[wg bv];rw[B.q4]at F;have N:∀b:ai,w.Z=b::l'->(b.is≠0∨(w.Z.any IE=true∧am b.i.op=2))->g=b:=λb M q=>by
  have:=HS A.li A.iv A.mc A.ok (oH h.nb) M q;rw[this]at F;injection F with F;exact F.symm
 have al:∀b:ai,w.Z=b::l'->DN w 0=true->(w.Z.any IE=false∨am b.i.op≠2)->(iS w 0).Z[0]?=some g∧∃p,e4.Y=(iS w 0).Y++p∧eo L p∧(∀x∈p,x.kind=1)∧(am b.i.op=3->p=[]):=λb M U Y=>by
  have:=DY A.li A.iv A.mc A.ok (oH h.nb) A.hh M ad U Y;rw[F]at this;rw[B.q4];exact⟨this.1.symm,this.2⟩
 have bn:=jd B.fb B.fr;have aT:=λagY k=>aL (kg agY k f.Y) bn;have bI:=l9 B.fb;obtain⟨P,hP⟩:∃P,f.Y=(lM c).Y++P:=by
  obtain⟨p,p1⟩:=B.Y;obtain⟨q,U,_⟩:=B.mr.Y;exact⟨q++p,by rw[p1,U,A.Y,eD]⟩
 have bx:am x.i.op=am j.i.op:=by rw[D.i,(j9 j).2.1]
 have a':∀k,am j.i.op=k->am ({x with M:=H}:ai).i.op=k:=λk q=>bx.trans q;rcases ao.st with h0|h1|h2|h3
 ·
  have e1:=aI ad;subst e1;have eg:a0 j=j:=by unfold a0;rw[aa ad]
  rw[eg]at D a_;obtain⟨bc,aQ⟩:=C9 ao ad;have bC:am j.i.op=5->j.known=false:=λk=>by
   cases z:j.known with
   |false=>rfl
   |true=>have:=(ao.Ze k z).1;omega
  obtain⟨v1,v2⟩:=Cj A.ok.ok.Z7 A.ok.ok.r 0;rw[lz h0];by_cases J:am j.i.op=4
  ·
   rw[dZ ad,aa J];have done:x.is=3->g_ L s f g=0:=λq=>lj (by rw[N _ o (.inl (by show x.is≠0;omega))];exact q)
   cases hk:j.known with
   |true=>
    rw[aa rfl,done (a_ J hk h0 aQ)]
    exact fu (aC _)
   | false=>
    rw[dZ dT];refine fu ?_;rcases D.is with q|q
    ·have au:({x with M:=H}:ai).is=0:=q.trans h0;have hc:=vj o ax au (by rw[show({x with M:=H}:ai).i=j.i from D.i];exact bc) (by rw[show({x with M:=H}:ai).i=j.i from D.i];exact aQ) (λ_=>D.known.trans hk);have aZ:am ({x with M:=H}:ai).i.op=4:=a' 4 J;obtain⟨m,_⟩:=al _ o hc (.inr ad);rw[oG o,aa aZ,rB o,cP]at m;injection m with m;obtain⟨_,_,_,_,a5,a6⟩:=p_ (e:={x with M:=H}) w.mem.size (mI w.Z w.r 0).1 au (.inr aZ);rw[m]at a5 a6;by_cases gz:g.is=0
     ·have gk:am g.i.op=4:=by rw[<-m,nm];exact aZ
      rw[lz gz,dZ ad,aa gk,aa (a6 gz)];omega
     ·rw[lj (a5 gz).2];omega
    ·rw[done q];omega
  have O:=D.no J;subst O;have au:({x with M:=H}:ai).is=0:=h0;have hc:=vj o ax au bc aQ (λq=>absurd q J);by_cases I:am x.i.op=3
  ·
   obtain⟨m,P4,X,_,_,g3⟩:=al _ o hc (.inr (by show am x.i.op≠2;omega));have br:P4=[]:=g3 I;subst br;rw[dY]at X;rw[oG o,dZ J,aa I]at m X;obtain⟨_,_,_,_,a5,a6⟩:=p_ (e:={x with M:=H}) w.mem.size (mI w.Z w.r 0).1 h0 (.inl I);have aD:=F6 (e:={x with M:=H}) (n:=w.mem.size) (a:=(mI w.Z w.r 0).1) h0;have ar:=H' (e:={x with M:=H}) (n:=w.mem.size) (a:=(mI w.Z w.r 0).1);have bq:=nm {x with M:=H} w.mem.size (mI w.Z w.r 0).1;generalize yC {x with M:=H} w.mem.size (mI w.Z w.r 0).1=y at m X a5 a6 aD ar bq;have az:am y.i.op=3:=by rw[bq];exact I
   have K:(bt w 0 y).Z=y::l':=rB o;have bO:2<=s*L:=cJ h.s2 h.L1;have ap:w.W=c.W:=A.W;rw[aa I];have bG:2<=(if c.W=[]∧x.known=true then(if bf c.Y (ab x.V) 1=true then s*L+1 else if bf c.Y (ab x.V) 3=true then 1+dt (ab x.V) 3 c.Y else s*L+1+dk L c.Y)else s*L+L+2):=by
    split
    ·split
     ·omega
     split
     ·rename_i z;have:=u4 dT h.li.b z;omega
     ·omega
    ·omega
   by_cases hy:y.is=0
   ·have aS:=a6 hy;have hl:oE (bt w 0 y) 0=if(lL (bt w 0 y).Z (bt w 0 y).W 0).1=1 then bt (bt w 0 y) 0 (uM y (lL (bt w 0 y).Z (bt w 0 y).W 0).2)
      else if(lL (bt w 0 y).Z (bt w 0 y).W 0).1≠2 then bt w 0 y
      else if Kt (bt w 0 y) (ab y.V)=true then bt (bt w 0 y) 0 (uM y (oL (bt w 0 y) y))
      else if bf (bt w 0 y).Y (ab y.V) 1=true then bt (bt w 0 y) 0 {y with is:=2}
      else if tA (bt w 0 y) (vC (bt w 0 y).Z 0)=true∧bf (bt w 0 y).Y (ab y.V) 3=false then bt (jE (bt w 0 y) 1 (ab y.V) oZ) 0 {y with is:=2}
      else bt w 0 y:=by
     unfold oE;rw[K,cP];show(if y.known=false then _ else _)=_;rw[dZ (by rw[aS];decide)]
    rw[hl]at m X;have bm:c.W=[]->(lL (bt w 0 y).Z (bt w 0 y).W 0).1=2:=λz=>by
     rw[K,show(bt w 0 y).W=[]from ap.trans z];exact F2 az
    have a7:∀b,(bt (bt w 0 y) 0 (uM y b)).Z[0]?=some g->g_ L s f g=1:=λb q=>by
     rw[rB K,cP]at q;injection q with q;obtain⟨u,W⟩:=z2 az aS hy b;rw[q]at u W;rw[lF u,W];rfl
    have aB:∀d:Co,(bt d 0 {y with is:=2}).Z[0]?=some g->d.Z=y::l'->g_ L s f g<=s*L:=λd q Y=>by
     rw[rB Y,cP]at q;injection q with q;rw[pl (by rw[<-q])];exact aT _ _
    split at m
    ·rw[a7 _ m];exact fu ad
    rename_i n1;rw[dZ n1]at X;split at m
    ·
     rename_i n2;have E:c.W≠[]:=λz=>n2 (bm z);rw[dZ (show ¬(c.W=[]∧x.known=true)from λz=>E z.1)];rw[K,cP]at m;injection m with m;subst m;refine⟨?_,λz=>absurd z E⟩;rw[lz hy,aa az];have:=aT (ab y.V) 3;split
     ·split
      ·omega
      split<;>omega
     ·omega
    rename_i n2;rw[dZ n2]at X;split at m
    ·rw[a7 _ m];exact fu ad
    rename_i ay;rw[dZ ay]at X;have Z:(bt w 0 y).Y=(lM c).Y:=A.Y;have bi:∀v,b7 (lM c).data v->v.R=ab y.V->False:=λv u W=>by
     refine ay (F1 (c:=bt w 0 y) (w:=v) A.mc.g ?_ (W.trans (fI _).symm));show b7 w.data v;rw[A.data];exact u
    have aN:bf (lM c).Y (ab y.V) 3=bf c.Y (ab y.V) 3:=by
     rcases A.tk.Y9 (ab y.V) (k:=3) dT with q|⟨_,_,q⟩
     ·exact q
     ·obtain⟨bp,u1,u2⟩:=q rfl;exact(bi bp u1 (u2.trans (fI _))).elim
    have a3:x.known=true->y.V=x.V:=λz=>by rw[ar z]
    split at m
    ·
     rename_i C;rw[Z]at C;have:=aB _ m K;refine fu ?_;split
     ·rename_i z;rw[a3 z.2]at C;split
      ·omega
      split
      ·rename_i u W;exfalso;apply u;rcases A.tk.Y9 (ab x.V) (k:=1) dT with q|⟨q,_⟩
       ·rw[<-q];exact C
       ·exact q
      ·omega
     ·omega
    rename_i R;rw[dZ R]at X;rw[Z]at R;split at m
    ·
     rename_i C;have:=aB _ m K;refine fu ?_;split
     ·rename_i z;split
      ·omega
      split
      ·rename_i W;exfalso;have h3:=C.2;rw[Z]at h3;rw[<-a3 z.2]at W;rw[aN,W]at h3;cases h3
      ·omega
     ·omega
    ·
     rename_i C;rw[dZ C]at X;rw[K,cP]at m;injection m with m;subst m;rw[lz hy,aa az];have bK:=aT (ab y.V) 3;by_cases aO:f.W=[]∧y.known=true
     rotate_left
     ·rw[dZ aO];have E:c.W≠[]:=by rw[<-ap];exact B.fs.2.1 λz=>aO ⟨z,aS⟩
      rw[dZ (show ¬(c.W=[]∧x.known=true)from λz=>E z.1)];exact⟨aC _,λz=>absurd z E⟩
     rw[aa aO];by_cases E:c.W=[]
     rotate_left
     ·rw[dZ (show ¬(c.W=[]∧x.known=true)from λz=>E z.1)];refine⟨?_,λz=>absurd z E⟩;split
      ·omega
      split<;>omega
     obtain⟨Q,aK,bs⟩:∃Q,f.Y=(lM c).Y++Q∧∀z∈Q,z.kind=2:=by
      obtain⟨Q,U,Y⟩:=vm w.U.u.toNat e5;rw[<-B.q6]at U;exact⟨Q,by rw[(B.fs.1 (ap.trans E)).2,U,B.b5,X,Z],Y⟩
     have a8:∀k:Int,k≠2->bf f.Y (ab y.V) k=bf (lM c).Y (ab y.V) k:=λk hk=>by
      rw[aK,j5,rh (p:=Q) (λz hz=>by rw[bs z hz];exact λq=>hk q.symm),Bool.or_false]
     rw[a8 1 dT,dZ R,a8 3 dT];have a4:bf (lM c).Y (ab y.V) 3=false->s<=yH (lM c).Y:=λz=>by
      have:tA (bt w 0 y) (vC (bt w 0 y).Z 0)=false:=by
       cases q:tA (bt w 0 y) (vC (bt w 0 y).Z 0)with
       |false=>rfl
       |true=>exact absurd ⟨q,by rw[Z];exact z⟩ C
      have hv:vC (bt w 0 y).Z 0=true:=by unfold vC;simp
      unfold tA at this;rw[hv,aa rfl]at this;have:=aF this;rw[Z]at this;have hs:(bt w 0 y).U.C=(s:Int):=by show w.U.C=_;rw[A.U];exact h.hs
      omega
     have bu:0<yH (lM c).Y->dk L f.Y=dk L (lM c).Y:=λz=>by rw[aK,q' z]
     have bM:=h.s2;have aW:=h.rd;have bP:=jd h.li.b h.rd;by_cases a2:x.known=true
     rotate_left
     ·rw[dZ (show ¬(c.W=[]∧x.known=true)from λz=>a2 z.2)];refine fu ?_;split<;>omega
     rw[aa (show c.W=[]∧x.known=true from⟨E,a2⟩), <-a3 a2]
     cases ak:bf (lM c).Y (ab y.V) 3 with
     | true=>
      have ag:=aN ▸ ak;rw[aa rfl,show dt (ab y.V) 3 f.Y=dt (ab y.V) 3 (lM c).Y by rw[aK,oo ak]];have bL:=kg (ab y.V) 3 (lM c).Y
      cases A.tk with
      |none _ b _=>rw[b]at ak;cases ak
      |write w r d3 n f p _=>
       refine⟨?_,λ_=>.inr ⟨w,d3⟩⟩
       rw[dZ (by rw[<-(p _ 1 dT).2];exact R),aa ag,(p _ 3 dT).1];exact aC _
      |read w r d3 n n0 f p _=>
       refine fu ?_
       rw[dZ (by rw[<-(p _ 1).2];exact R),aa ag];have:=(p (ab y.V) 3).1;omega
      | done v J w r n f p z one agI c0 bd bb=>
       refine fu ?_;split
       ·omega
       ·cases S:du (ab y.V) 3 v with
        |false=>have:=(p _ 3 dT S).2 ag;omega
        |true=>
         unfold du at S;simp only[aP,aY]at S;obtain⟨bp,u1,u2⟩:=bb S.2
         exact(bi bp u1 (by rw[u2,S.1,fI])).elim
     | false=>
      have aV:=a4 ak;have ag:=aN ▸ ak;rw[dZ dT,bu ad]
      cases A.tk with
      |none _ b _=>rw[b]at aV;have aV:s<=0:=aV;omega
      |write w r d3 n f p _=>
       refine⟨?_,λ_=>.inr ⟨w,d3⟩⟩
       rw[dZ (by rw[<-(p _ 1 dT).2];exact R),dZ (by rw[ag];decide),f];exact aC _
      |read w r d3 n n0 f p _=>
       refine fu ?_
       rw[dZ (by rw[<-(p _ 1).2];exact R),dZ (by rw[ag];decide)];omega
      |done v J w r n f p z one agI c0 bd bb=>omega
   ·
    have bE:=aD hy;have hl:oE (bt w 0 y) 0=bt w 0 y:=by
     unfold oE;rw[K,cP];show(if y.known=false then _ else _)=_;rw[aa bE]
    rw[hl,K,cP]at m;injection m with m;rw[lj (by rw[<-m];exact(a5 hy).2)];exact fu ad
  rw[dZ I,dZ J];have V:(w.Z.any IE=false∨am ({x with M:=H}:ai).i.op≠2)->g.is=1∧g.left<=34∧(am x.i.op≠2->g.left<=3):=λq=>by
   obtain⟨m,_⟩:=al _ o hc q;rw[oG o,dZ J,dZ I,rB o,cP]at m;injection m with m;obtain⟨_,_,_,_,_,b',dn,_⟩:=uz (e:={x with M:=H}) h0 bC v1 v2;rw[m]at b' dn;exact⟨(b' I J).1,(b' I J).2,λz=>dn I J z⟩
  by_cases k2:am x.i.op=2
  ·rw [aa k2]
   cases t:w.Z.any IE with
   |false=>
    obtain⟨U,Y,_⟩:=V (.inl t);refine fu ?_
    rw[lF U];omega
   | true=>
    have G:=N _ o (.inr ⟨t,k2⟩);refine fu ?_;rw[G,lz (g:={x with M:=H}) h0,dZ (show ¬am x.i.op=3 from I),dZ (show ¬am x.i.op=4 from J),aa (show am x.i.op=2 from k2)];have bQ:bl w.Z+1<=bl (lM c).Z:=by
     rw[hw]at t⊢;exact ED (h.li.ZE h.L8 h.mc h.two).one (t6.trans h.hh) t
    have b2:bl (lM c).Z<=bl c.Z:=mb λe he M=>by
     rcases A.tk.Y8 with q|⟨y,cl,_,q⟩
     ·rw[q]at he;exact ly he M
     ·rw[q]at he;obtain⟨bp,hu,rfl⟩:=pG.1 he;have:wO cl y.R bp=bp:=by
       refine pt λq=>?_;have:=(h.two bp hu q.1).1;unfold IE at M;rw[(lb _ _ _).1,this]at M;cases M
      rw[this]at M⊢;exact ly hu M
    have b3:bl f.Z<=bl w.Z:=mb λe he M=>by
     rw[B.rf,B.r6]at he;have av:=B.z5 e he M;rw[B.q4]at av;unfold gY at av;rw[dZ (oH A.hh),t]at av;have bz:=(o9 (agN:=w.U.u) (kinds:=Fi w) (can:=Kv w) (Kv w).length).1;have bh:=ny (c:=w);have aW:=ma (c:=w);rw[t]at bh aW;refine ly (u9 _ A.iv A.mc bh aW (λi hi y hy z=>?_) e av M) M;refine bz i hi ?_;unfold Cx Fi;rw[aR,aX,hy];show((am y.i.op:Nat):Int)=2;rw[z];rfl
    omega
  ·rw[dZ k2];obtain⟨U,_,Y⟩:=V (.inr k2);refine fu ?_;rw[lF U];have:=Y k2;omega
 ·
  have e1:=aI ad;subst e1;have bw:am j.i.op≠4:=λz=>ao.Zq z h1;have O:=D.no (by rw[(j9 j).2.1];exact bw);have bJ:=bg h1;have be:(a0 j).is=3∨(a0 j).is=1:=by
   unfold a0;rw[dZ ad];split
   ·exact .inl rfl
   ·exact .inr h1
  have G:=N _ o (.inl (by show x.is≠0;rw[O];rcases be with q|q<;>omega));rw[lF h1];refine fu ?_;rcases be with q|q
  ·rw[lj (by rw[G];show x.is=3;rw[O];exact q)];omega
  ·rw[lF (by rw[G];show x.is=1;rw[O];exact q),G];show x.left.toNat+1<=_;rw[O,(wj bg q).2];omega
 ·
  obtain⟨I,kn⟩:=ao.Y h2;have C:=h.li.two a aw h2;rw[pl h2];have aq:j=a->bf (lM c).Y (ab a.V) 1=true->g_ L s f g=dt (ab a.V) 1 (lM c).Y:=λe bB=>by
   subst e;have O:=D.no (by rw[(j9 j).2.1,I];decide);have eg:a0 j=j:=by unfold a0;rw[aa ad]
   rw[eg]at O;have G:=N _ o (.inl (by show x.is≠0;rw[O];omega));rw[pl (by rw[G];show x.is=2;rw[O];exact h2),G];show dt (ab x.V) 1 f.Y=_;rw[O,hP,oo bB]
  have aE:∀y,du (ab a.V) 1 y=true->j.is=1->j.left=1->j.i=a.i->False:=λy _ U Y q3=>by
   have O:=D.no (by rw[(j9 j).2.1,q3,I];decide);have:(a0 j).is=3:=by
    unfold a0;rw[dZ ad,Y,show wrap64 (1-1)=0 from by unfold wrap64;rfl,aa dT]
   have:=(bj _ _ o (by show x.is=3;rw[O];exact this)).2;rw[a' 3 (by rw[q3];exact I)]at this;cases this
  cases A.tk with
  |none b _ _=>rw[b]at C;cases C
  |write w r d3 n f p s=>
   obtain⟨p1,p2⟩:=p (ab a.V) 1 dT;refine⟨?_,λ_=>.inr ⟨w,d3⟩⟩;rcases aJ with e|⟨y,b4,b5,cf,ch⟩
   ·rw[aq e (p2.trans C),p1];exact aC _
   ·exact(aE y b4 b5 cf ch).elim
  |read w r d3 n n0 f p s=>
   obtain⟨p1,p2⟩:=p (ab a.V) 1;refine fu ?_;rcases aJ with e|⟨y,b4,b5,cf,ch⟩
   ·rw[aq e (p2.trans C)];omega
   ·exact(aE y b4 b5 cf ch).elim
  | done y J w r n f p z one agI=>
   refine fu ?_;rcases aJ with e|⟨y,b4,b5,cf,ch⟩
   ·cases S:du (ab a.V) 1 y with
    |true=>
     exfalso;unfold du at S;simp only[aP,aY]at S;obtain⟨cl,ba⟩:=one S.2;have:j=wO cl y.R a:=by rw[hr,hD]at ba;injection ba
     rcases qn (c:=cl) (agY:=y.R) (h.two a aw)with ⟨_,_,z⟩|⟨u,W,cs,c5⟩
     ·exact z ⟨h2,S.1.symm⟩
     ·rw[<-this]at cs;rw[e]at cs;omega
    |false=>
     obtain⟨p1,p2⟩:=p (ab a.V) 1 dT S;rw[aq e (p1.trans C)];have:=p2 C;omega
   ·exact(aE y b4 b5 cf ch).elim
 ·
  have e1:=aI ad;subst e1;have eg:a0 j=j:=by unfold a0;rw[aa ad]
  have bk:x.is=3:=by rcases D.is with q|q;rw[q,eg];exact h3;exact q
  have G:=N _ o (.inl (by show x.is≠0;omega));rw[lj h3,lj (by rw[G];exact bk)];exact⟨aC _,λz=>absurd z (bj _ _ o bk).1⟩
def wD(L:Nat)(q:List a2):Nat:=gF cw q+L*cz q
def lw(L:Nat)(a b:List a2):wD L (a++b)=wD L a+wD L b:=by unfold wD;rw[km,n',Nat.mul_add];omega
def Jl{L:Nat}{p:List a2}(h:∀x∈p,x.kind=1∨x.kind=2):wD L p=0:=by
 unfold wD;rw[qr λx a=>by unfold cw;rcases h x a with k|k<;>rw[k]<;>rfl,oz λx a=>by rcases h x a with k|k<;>rw[k]<;>decide,Nat.mul_zero]
def x7{L:Nat}{c:Co}(h:LI L c)(agY:Nat):wD L (oK c agY).Y<=wD L c.Y+L:=by
 rcases ox c agY with ⟨q,_⟩|⟨l,d,q,_⟩
 ·rw[q];omega
 have a:=h.J c.asked;rw[q];unfold Bi;rw[lw];have:wD L [(⟨4,l,max (lX c.U c.asked) 1,d⟩:a2)]=(max (lX c.U c.asked) 1).toNat:=by unfold wD gF gF cw cz;simp
 rw[this];omega
def I3{L:Nat}{c:Co}(h:∀k,1<=lX c.U k∧lX c.U k<=(L:Int)):wD L (tY c).Y<=wD L c.Y+L:=by
 have e:∀(k:Int) (agY:Nat) (d:ByteArray),k=3∨k=4->wD L (c.Y++[⟨k,agY,max (lX c.U c.asked) 1,d⟩])<=wD L c.Y+L:=λk agY d g=>by
  have m:=h c.asked;rw[lw];have:wD L [(⟨k,agY,max (lX c.U c.asked) 1,d⟩:a2)]<=L:=by
   unfold wD gF gF cw cz;rcases g with rfl|rfl
   ·simp
   simp;omega
  omega
 have a:∀d:Co,d.Y=c.Y->d.U=c.U->d.asked=c.asked->wD L (nP d).Y<=wD L c.Y+L:=λd b i j=>by
  unfold nP;split
  ·rw[b];omega
  unfold pE;split
  ·split
   ·rename_i w _ _;show wD L (d.Y++[⟨4,w.R,max (lX d.U d.asked) 1,w.data⟩])<=_;rw[b,i,j];exact e 4 _ _ (.inr rfl)
   rw[b];omega
  rw[b];omega
 unfold tY;split
 ·exact a _ rfl rfl rfl
 split
 ·exact a _ rfl rfl rfl
 unfold tW;split
 ·exact a _ rfl rfl rfl
 rename_i p l hp;have f:∀d:Co,d.W=p::l->nP d=d:=λd q=>aa (.inl (by rw[q];simp));split
 ·rw[f (jE (aW c) 3 (ab p.V) oZ) hp];exact e 3 _ _ (.inl rfl)
 exact a _ rfl rfl rfl
def ru{L:Nat}{c d:Co}(h:i7 L c d):wD L d.Y<=wD L c.Y:=by
 unfold wD
 cases h with
 |none a b=>rw[a,b];exact aC _
 |write w r d3=>rw[d3];omega
 |read w r d3=>rw[d3,w];exact aC _
 |done x e w=>exact w
theorem ug:∀(n:Nat) (c:Co),c.halt=0->(eC n c=c∧(0<n->∀b t,c.Z=b::t->b.is=3->(cA b).halt=0∧(cA b).store=true∧(c.W.length:Int)>=c.U.W))∨c.N.length+1<=(eC n c).N.length
 |0,c,_=>.inl ⟨rfl,λz=>absurd z (iI 0)⟩
 | n + 1,c,j=>by
  unfold eC;rw[dZ ad];split
  ·rename_i h;exact .inl ⟨rfl,λ_ b t q=>by rw[h]at q;cases q⟩
  ·rename_i e l f;split
   ·rename_i i;exact .inl ⟨rfl,λ_ b t q z=>by rw[f]at q;injection q with q;subst q;exact absurd z i⟩
   ·split
    ·exact .inr (by show _<=(c.N++[_]).length;simp)
    ·rename_i k;split
     ·rename_i q;exact .inl ⟨rfl,λ_ b t a z=>by rw[f]at a;injection a with a;subst a;exact⟨ej.1 k,q.1,q.2⟩⟩
     ·right;have d:(vZ c e (cA e) l).N=c.N++[cA e]:=by
       show(vG _ _ _).N=_;unfold vG oK;(repeat' split)<;>rfl
      have g:(vZ c e (cA e) l).halt=0:=by
       show(vG _ _ _).halt=_;unfold vG oK;(repeat' split)<;>exact j
      rcases ug n (vZ c e (cA e) l) g with ⟨q,_⟩|q
      ·rw[q,d];simp
      ·rw[d]at q;simp at q;omega
theorem uh{L:Nat}{prog:List Nat}:∀(n:Nat) {c:Co} {s:St},LI L c->Iv prog c s->c.mc->(∀e∈c.Z,e.ok)->(∀e∈c.Z,e.known=true->am e.i.op=3∨am e.i.op=4->kZ c.mem.size e.V (bP e.i.op)=true)->wD L (eC n c).Y<=wD L c.Y+n*L
 |0,_,_,_,_,_,_,_=>by rw[Nat.zero_mul];exact aC _
 | n + 1,c,s,h,hI,g,A,y=>by
  unfold eC;split
  ·omega
  ·rename_i q;have q:c.halt=0:=ej.1 q;split
   ·omega
   ·rename_i e l d;split
    ·omega
    ·rename_i p;have p:e.is=3:=ej.1 p;have f:e∈c.Z:=by rw[d];exact b1
     split
     ·show wD L c.Y<=_;omega
     ·rename_i j;have j:(cA e).halt=0:=ej.1 j;split
      ·omega
      ·have w:db prog s e:=by have:=hI.ri.ok;rw[d]at this;exact this.1
       have k:e.halt=0:=vf ▸ j;have o:LI L (fZ c (cA e)):=⟨h.J,h.b,h.two,h.one,h.ld,h.w,h.st,h.d,h.l⟩;have m:(fZ c (cA e)).mc:=ea g rfl rfl rfl;have u:LI L (vG (fZ c (cA e)) e (cA e))∧wD L (vG (fZ c (cA e)) e (cA e)).Y<=wD L c.Y+L:=by
        unfold vG;split
        ·rename_i t;have z:=h.ld e f t ad k;exact⟨(o.ZI m.g m.al (by rw[r3 k t];exact qc g.al (y e f z (.inl t)))).1,x7 o _⟩
        ·exact⟨o,by show wD L c.Y<=_;omega⟩
       obtain⟨B,C⟩:=(hI.Zi h.w g d (A e f) p q).2.2.2 j;have i:(vG (fZ c (cA e)) e (cA e)).prog=c.prog∧(vG (fZ c (cA e)) e (cA e)).Z=c.Z∧(vG (fZ c (cA e)) e (cA e)).mem=c.mem:=by
        unfold vG;split
        ·exact⟨(ji _ _).2.2.2.2.2.2,(ji _ _).2.2.1,(ji _ _).1⟩
        ·exact⟨rfl,rfl,rfl⟩
       have v:=u.1.pop (i.2.1.trans d) (i.1.trans hI.pr) w j (lY c.r (cA e)) (fM c.M (cA e).K (cA e).next e.i);have:=uh n (c:=vZ c e (cA e) l) v B C (λx r=>A x (by rw[d];exact bY _ r)) λx r a b=>by
        rw[show(vZ c e (cA e) l).mem=c.mem from i.2.2];exact y x (by rw[d];exact bY _ r) a b
       have D:wD L (vZ c e (cA e) l).Y<=wD L c.Y+L:=u.2;rw[cG];omega
def AX{L s:Nat}{c:Co}(h:LI L c)(a:yH c.Y<=s):e_ L s c<=HM L s+3+2*(s*L):=by
 have d:=jd h.b a;have hp:=aL (kg (ab c.Yr) 2 c.Y) d;unfold e_;split
 ·rename_i e l b;have:=u_ (s:=s) h.b a (h.one e (by rw[b];exact b1)) (u2 h);omega
 split
 ·omega
 split
 ·omega
 split<;>omega
def ky(L s S:Nat):Nat:=3*L+8*L+S*(s*L+2*L+1)+(HM L s+3+2*(s*L))
def xh{L s S:Nat}{c:Co}(h:LI L c)(a:yH c.Y<=s)(b:c.W.length<=S):g5 L s c+3*L<=wD L c.Y+ky L s S:=by
 have d:=AX h a;have e:=v1 (s:=s) h.b (jd h.b a) c.W;have f:L*(8-e8 c.Z)<=L*8:=Nat.mul_le_mul_left L ad;have g:c.W.length*(s*L+2*L+1)<=S*(s*L+2*L+1):=eF _ b;unfold g5 h5 ky wD;omega
def Av(c:Co):(tY c).halt=c.halt:=by
 have a:∀d:Co,(nP d).halt=d.halt:=λd=>by
  unfold nP pE;(repeat' split)<;>rfl
 unfold tY;split
 ·exact(a _).trans rfl
 split
 ·exact(a _).trans rfl
 refine(a _).trans ?_;unfold tW;(repeat' split)<;>rfl
def su{L s S B:Nat}{prog:List Nat}{T:St}{n:Nat}{q:Int}{f:Cf}{c:Co}(P:1<=L)(D:L<=8)(hs:f.C=(s:Int))(hS:f.W=(S:Int))(h0:0<=f.Z∧0<=f.queue)(li:LI L c)(hm:c.E n)(hb:n+3000<=890000)(iv:Iv prog c T)(ag:c.mc)(w:Bd f c.N.length c)(o:b6 q c)(aq:ky L s S+1<=B):
  LI L (c8 c)∧wD L (c8 c).Y<=wD L c.Y+4*L∧MR L (s3 c) (b' c)∧(c.halt=0->(c8 c).halt≠0∨g5 L s (c8 c)+1+B*c.N.length<=g5 L s c+B*(c8 c).N.length):=by
 have i:=Ql hm ad;have i0:Iv prog (s0 c) T:=iv.same rfl rfl rfl rfl rfl rfl rfl rfl iv.ri;have H:(s0 c).mc:=ea ag rfl rfl rfl;have J:LI L (s0 c):=li.same rfl rfl rfl rfl rfl li.st;have hY:∀e∈(s0 c).Z,e.is=2->am e.i.op=3∧e.known=true:=λe Z z=>by
  obtain⟨k,i⟩:=List.getElem?_of_mem Z;exact(ic i0.ri.ok i).Y z
 have l1:LI L (s1 c):=J.ZE D H hY;have m1:(s1 c).mc:=(lf H i.k0.ok.Z_).mc;have i1:Iv prog (s1 c) T:=i0.ZE H i.k0.ok.Z_;obtain⟨G,w2⟩:Iv prog (ap c) T∧NW (ap c).Z:=i1.ZD;have l2:LI L (ap c):=l1.ZD w2;obtain⟨b1,b2,b3,b4,b5,aA,b7,b8,b9⟩:=pd (s1 c);have N:(ap c).mc:=ea m1 b3 b1 b4;have A:Bd f c.N.length (s0 c):=⟨w.U,w.Z,w.Z5,w.Z9,w.rd,w.ret⟩;have r:Bd f c.N.length (ap c):=sf (uf A) h0.2;obtain⟨b,Y,ar,R⟩:=od h0 (ap c).U.u.toNat _ _ r;have C:=pD i.k2.cf;obtain⟨t1,t2,t3,t4,t5,t6,t7,t8,t9⟩:=l8 (s0 c);have V:∀e∈(ap c).Z,e.known=true->am e.i.op=3∨am e.i.op=4->kZ (ap c).mem.size e.V (bP e.i.op)=true:=λe Z a k=>by
  obtain⟨j,hj⟩:=List.getElem?_of_mem Z;have:=((ic G.ri.ok hj).Zy a k).2;rw[jq, <-G.mem,show(Xr (ap c)).size=(ap c).mem.size from MU ..]at this;exact this
 have l3:LI L (s3 c):=l2.Y5 (ap c).U.u.toNat G N i.k2.ok.Z7 V;obtain⟨l,T3,e1,e2,I,i3⟩:=G.Y5 (ap c).U.u.toNat w2 N i.k2.ok.Z7;have m3:(s3 c).mc:=m' _ _ i.k2.ok.Z7 N;have i3:Iv prog (s3 c) T3:=i3;obtain⟨K,ao⟩:=l3.Zo i3 m3 i.k3 ad;have K:LI L (c6 c):=K;have al:∀p∈c.W,kZ c.mem.size p.V p.data.size=true:=o.sp;have l5:LI L (dq c)∧MR L (c6 c) (dq c):=by
  show LI L (lP (c6 c))∧MR L (c6 c) (lP (c6 c));unfold lP;split
  ·exact⟨K,.refl L _⟩
  ·have:=K.Y6 (c6 c).U.u.toNat;exact⟨this.1,this.2.1⟩
 have M:LI L (b' c)∧MR L (dq c) (b' c):=by
  show LI L (eN (dq c))∧MR L (dq c) (eN (dq c));unfold eN;split
  ·exact⟨l5.1,.refl L _⟩
  ·have:=l5.1.Zb (dq c).U.u.toNat;exact⟨this.1,this.2.1⟩
 have g:MR L (s3 c) (b' c):=(ao.mr.trans l5.2).trans M.2;have m6:bT (b' c).data∧(b' c).mem.size%16=0:=by rw[g.data,g.mem];exact⟨m3.g,m3.al⟩
 have Q:∀p∈(b' c).W,kZ (b' c).mem.size p.V p.data.size=true:=by
  have ab:b6 q (s0 c):=⟨o.ro,o.lo,o.nx,o.da,o.wo,o.sp,o.pg⟩;have:=(oa (ap c).U.u.toNat _ (tz (ua ab))).sp;rw[g.W,g.mem];exact this
 have l7:LI L (c8 c):=M.1.Zl m6.1 m6.2 Q;have w1:wD L (s1 c).Y<=wD L c.Y:=ru (c:=s0 c) (d:=s1 c) (qp D J H);have ay:wD L (ap c).Y=wD L (s1 c).Y:=by show wD L (kK (s1 c)).Y=_;rw[b1]
 have w3:wD L (s3 c).Y<=wD L (ap c).Y+(ap c).U.u.toNat*L:=uh _ l2 G N i.k2.ok.Z7 V;have az:(ap c).U.u.toNat*L<=2*L:=eF L ad;have w6:wD L (b' c).Y=wD L (s3 c).Y:=by
  obtain⟨p,O,_,p3⟩:=g.Y;rw[O,lw,Jl p3];rfl
 have w7:wD L (c8 c).Y<=wD L (b' c).Y+L:=I3 M.1.J;refine⟨l7,oT,g,λhh=>?_⟩;have U:(ap c).halt=0:=by show(kK (s1 c)).halt=0;rw[b5];exact t6.trans hh
 have x:Bd f b (b' c):=rp (u0 (ue R));have F:Bd f b (c8 c):=tj x;have W:(s0 c).U.C=(s:Int):=by show c.U.C=_;rw[w.U];exact hs
 have v:∀{d:Co} {a:Nat},Bd f a d->yH d.Y<=s:=λ{d a} z=>by have:=z.rd;rw[hs]at this;omega
 have an:∀{d:Co} {a:Nat},Bd f a d->d.W.length<=S:=λ{d a} z=>by have:=z.Z9;rw[hS]at this;omega
 rw[F.ret];rcases ug (ap c).U.u.toNat (ap c) U with ⟨r1,r2⟩|r1
 ·
  right;have I:s3 c=ap c:=r1;have u:j4 L s prog T n (s0 c):=⟨P,D,W,by have:=C;have:=r.U;rw[this]at C;omega,J,H,i.k0,oT,i0,hh,al,v A,by
   have:=A.Z;have:=r.U;rw[this]at C;omega⟩
  have h:Wk L s prog T n (s0 c) (ap c):=u.ZD;have m:=C7 u h (by have:=v x;rw[show b' c=eN (lP (gY (ap c))) by show eN (lP (gY (s3 c)))=_;rw[I]]at this;exact this);have hF:c8 c=tY (eN (lP (gY (ap c)))):=by show tY (eN (lP (gY (s3 c))))=_;rw[I]
  have h6:b' c=eN (lP (gY (ap c))):=by show eN (lP (gY (s3 c)))=_;rw[I]
  have E:uc L (s0 c) (lM (s0 c)) (b' c):=by
   rw[h6];have hm:=kr h.Yv;refine⟨m.mr.W.trans h.W,m.mr.data.trans h.data,m.mr.U.trans h.U,m.mr.halt.trans U,?_,aL hm (kr m.mr.Z),λa b=>?_,?_⟩
   ·obtain⟨p,O,p2,p3⟩:=m.mr.Y;exact⟨p,by rw[O,h.Y],p2,p3⟩
   ·have:=m.mr.ZG (by rw[h.Y,h.U];exact a) (by rw[h.U];exact b);omega
   ·have:=vh (eN (lP (gY (ap c)))).Z;rw[<-h6]at this⊢;have h8:=x.Z;have:=r.U;rw[this]at C;omega
  obtain⟨d1,d2,d3⟩:=ym J M.1 h.tk E P W u.s2 (v A) (v x) m6.1 (by
   intro p hp;have:(b' c).W=(s0 c).W:=E.W;exact Q p (by rw[this];exact hp))
  have aa:tY (b' c)=c8 c:=rfl;rw[aa]at d1 d2 d3;have ai:∀b t,(ap c).Z=b::t->b.is=3->(s0 c).W≠[]∧am b.i.op=4:=λb t q z=>by
   obtain⟨z1,z2,z3⟩:=r2 ad b t q z;obtain⟨_,k,_⟩:=rq z1;refine⟨λy=>?_,k z2⟩;rw[h.W,y]at z3;have z3:((0:Nat):Int)>=(ap c).U.W:=z3;omega
  have X:Nx L (s0 c) (lM (s0 c)) (c8 c) (e_ L s (c8 c)) (e_ L s (s0 c)):=by
   rw[hF]
   cases hq:(s0 c).Z with
   |nil=>exact yj u rfl h m hq
   |cons a l=>exact A7 u rfl h m hq ai
  have au:g5 L s (c8 c)+1<=g5 L s c:=by
   show h5 L s (c8 c)+e_ L s (c8 c)+1<=h5 L s (s0 c)+e_ L s (s0 c);by_cases z:(s0 c).W=[]
   ·rcases X.2 z with y|⟨bb,bd⟩
    ·omega
    ·have:=d3 bb bd;have:=X.1;omega
   ·have:=d2 z;have:=X.1;omega
  have:B*c.N.length<=B*b:=Nat.mul_le_mul_left B Y;omega
 ·
  by_cases hz:(c8 c).halt=0
  ·right;have ak:c.N.length+1<=b:=by
    have x1:(ap c).N.length=c.N.length:=r.ret;have x2:(eC (ap c).U.u.toNat (ap c)).N.length=b:=R.ret;omega
   have h3:(s3 c).halt=0∧(b' c).halt=0:=by
    have av:(b' c).halt=(s3 c).halt:=g.halt;have aw:(c8 c).halt=(b' c).halt:=Av _;omega
   have O:=xh l7 (v F) (an F);have ax:wD L c.Y<=g5 L s c:=by unfold g5 h5 wD;omega
   have:B*(c.N.length+1)<=B*b:=Nat.mul_le_mul_left B ak;rw[Nat.mul_add,iD]at this;omega
  ·exact .inl hz
def dl(l:List Int):Int:=l.foldl (λm n=>if n>m then n else m) 1
theorem pu:∀(l:List Int) (a:Int),a<=l.foldl (λm n=>if n>m then n else m) a∧(∀x∈l,x<=l.foldl (λm n=>if n>m then n else m) a)∧∀b,a<=b->(∀x∈l,x<=b)->l.foldl (λm n=>if n>m then n else m) a<=b
 |[],a=>⟨iF _,(λx c=>by cases c),λ_ h _=>h⟩
 | y::l,a=>by
  obtain⟨d,f,g⟩:=pu l (if y>a then y else a);have e:a<=(if y>a then y else a)∧y<=(if y>a then y else a):=by split<;>omega
  refine⟨Int.le_trans e.1 d,λx c=>?_,λb i c=>g b ?_ λx q=>c x (bY _ q)⟩
  ·rcases dh.1 c with rfl|q
   ·exact Int.le_trans e.2 d
   ·exact f x q
  ·have:=c y b1;split<;>omega
def e9(f:Cf):Int:=60+(f.C+f.W+f.Q*f.ways+4)*(dl f.J+1)*(f.W+3)
def F4(c:Cf):(bZ (bZ c)).J=(bZ c).J:=by
 show(((c.J.take 64).map λn=>bV n 1 8).take 64).map (λn=>bV n 1 8)=(c.J.take 64).map λn=>bV n 1 8;rw[<-eO,List.take_take,List.map_map];refine iB λx _=>?_;show bV (bV x 1 8) 1 8=bV x 1 8;unfold bV;(repeat' split)<;>omega
def NS(x lo a:Int)(h:lo<=a):lo<=bV x lo a∧bV x lo a<=a:=by unfold bV;(repeat' split)<;>omega
def ot(c:Cf):1<=dl (bZ c).J∧dl (bZ c).J<=8:=by
 obtain⟨a,_,b⟩:=pu (bZ c).J 1;refine⟨a,b 8 dT λx d=>?_⟩;obtain⟨y,_,rfl⟩:=pG.1 d;exact(NS y 1 8 dT).2
def x8(c:Cf)(k:Int):1<=lX (bZ c) k∧lX (bZ c) k<=((dl (bZ c).J).toNat:Int):=by
 have e:=ot c;unfold lX;rw[F4];have d:∀j,1<=(bZ c).J.getD j 1∧(bZ c).J.getD j 1<=((dl (bZ c).J).toNat:Int):=λj=>by
  rw[aR]
  cases h:(bZ c).J[j]? with
  |none=>show 1<=(1:Int)∧(1:Int)<=_;omega
  |some x=>
   have b:=aB h;have a:=(pu (bZ c).J 1).2.1 x b;have a:x<=dl (bZ c).J:=a;obtain⟨y,_,rfl⟩:=pG.1 b;have:=NS y 1 8 dT;show 1<=bV y 1 8∧bV y 1 8<=_;omega
 split
 ·omega
 ·exact d _
def rk(s S L:Nat):Bool:= !(decide (2<=s)&&decide (1<=S)&&decide (1<=L))||(decide (ky L s S+1<=60+(s+S+1+4)*(L+1)*(S+3))&&decide (2*(s*L)+9*L+73+1<=60+(s+S+1+4)*(L+1)*(S+3))&&decide (2*(s*L)+9*L+73<=241))
def yb:((List.range 7).all λs=>(List.range 5).all λS=>(List.range 9).all λL=>rk s S L)=true:=by decide+kernel
def z3(s:Nat)(a:s<7)(S:Nat)(b:S<5)(L:Nat)(c:L<9)(d:2<=s)(e:1<=S)(f:1<=L):ky L s S+1<=60+(s+S+1+4)*(L+1)*(S+3)∧2*(s*L)+9*L+73+1<=60+(s+S+1+4)*(L+1)*(S+3)∧2*(s*L)+9*L+73<=241:=by
 have h:=rC.1 (rC.1 (rC.1 yb s (lI.2 a)) S (lI.2 b)) L (lI.2 c);unfold rk at h;rw[jP d,jP e,jP f]at h;simp only[Bool.and_true,aj,jD,aP,aY]at h;exact⟨h.1.1,h.1.2,h.2⟩
def yi(c:Cf){s S L:Nat}(e:(bZ c).C=s)(d:(bZ c).W=S)(o:L=(dl (bZ c).J).toNat):ky L s S+1<=(e9 (bZ c)).toNat∧2*(s*L)+9*L+73+1<=(e9 (bZ c)).toNat∧2*(s*L)+9*L+73<=241:=by
 have p:=ot c;have k:=NS c.C 2 6 dT;have l:=NS c.W 1 4 dT;have m:=NS c.ways 1 2 dT;have n:=NS c.Q 1 4 dT;have h:(bZ c).C=bV c.C 2 6:=rfl;have i:(bZ c).W=bV c.W 1 4:=rfl;have j:(bZ c).ways=bV c.ways 1 2:=rfl;have a:(bZ c).Q=if bV c.Q 1 4=3 then 2 else bV c.Q 1 4:=rfl
 have b:1<=(bZ c).Q:=by rw[a];split<;>omega
 obtain⟨d1,d2,d3⟩:=z3 s ad S ad L ad ad ad ad;have g:((60+(s+S+1+4)*(L+1)*(S+3):Nat):Int)<=e9 (bZ c):=by
  obtain⟨w,f⟩:∃w:Nat,(bZ c).Q*(bZ c).ways=(w:Int)∧1<=w:=by
   have:1<=(bZ c).Q*(bZ c).ways:=by
    have:=Int.mul_le_mul b (oT:1<=(bZ c).ways) dT ad;simpa using this
   exact⟨((bZ c).Q*(bZ c).ways).toNat,oT,oT⟩
  unfold e9;rw[e,d,f.1,(oT:dl (bZ c).J=(L:Int))];have:(60+(s+S+1+4)*(L+1)*(S+3))<=(60+(s+S+w+4)*(L+1)*(S+3)):=
   oQ (eF _ (eF _ ad)) _
  exact_mod_cast this
 omega
theorem LI.new(b:Cf)(prog:List Nat)(m:ByteArray):LI (dl (bZ b).J).toNat (fX b prog m):=by
 have c:∀w, ¬b7 (fX b prog m).data w:=λw e=>by
  obtain⟨s,d,h⟩:=List.mem_flatten.1 e;have:s=[]:=by
   have d:s∈List.replicate _ []:=d;exact(List.mem_replicate.1 d).2
  subst this;cases h
 exact⟨x8 b,(λx a=>by cases a),(λx a=>by cases a),(λx a=>by cases a),(λx a=>by cases a),(λx a=>by cases a),(λ_ h=>by cases h),(λw e=>absurd e (c w)),(λx a=>by cases a)⟩
def w4(a:Cf)(prog:List Nat)(m:ByteArray)(L s:Nat):g5 L s (fX a prog m)=2*(s*L)+9*L+73:=by
 have b:h5 L s (fX a prog m)=L*8:=by show 0+L*0+L*8+0=L*8;omega
 have c:e_ L s (fX a prog m)=HM L s+3+s*L:=rfl;unfold g5 HM at *;rw[b,c];omega
structure A9(L s B:Nat)(X:Co)(k:Nat):Prop where
 li:LI L (uN X k)
 mr:k=0∨MR L (s3 (uN X (k-1))) (b' (uN X (k-1)))
 go:(uN X k).halt≠0∨g5 L s (uN X k)+k<=g5 L s X+B*(uN X k).N.length
theorem si{L s S B:Nat}{X:Co}{m:ByteArray}(f:1<=L)(i:L<=8)(o:X.U.C=(s:Int))(n:X.U.W=(S:Int))(l:0<=X.U.Z∧0<=X.U.queue)(a:ky L s S+1<=B)(c:∀k,k<=3000->ip X k)(b:X.mc)(hI:Iv X.prog X (PL m))(j:X.N=[])(r:LI L X):∀k,k<=3000->A9 L s B X k
 |0,_=>⟨r,.inl rfl,.inr (by show g5 L s X+0<=_;omega)⟩
 | k+1,y=>by
  have h:=si f i o n l a c b hI j r k ad;have g:=c k ad;have v:=EL g.ok ad g.rt;obtain⟨t,_,w,_⟩:=la c b hI j k ad;have e:uN X (k+1)=c8 (uN X k):=(show uG (uN X k)=_ from aa g.rt);obtain⟨p,_,x,u⟩:=su f i o n l h.li v ad w (kp c b k ad) g.bd g.rc a;rw[<-e]at p u;refine⟨p,.inr x,?_⟩;by_cases d:(uN X k).halt=0
  ·rcases u d with q|q
   ·exact .inl q
   ·rcases h.go with z|z
    ·exact absurd d z
    ·exact .inr ad
  ·have:(c8 (uN X k)).halt=(uN X k).halt:=(sb d).halt;exact .inl (by rw[e,this];exact d)
end Go.Proofs.YtmbhlpgmfafmbaaGreatDoor
