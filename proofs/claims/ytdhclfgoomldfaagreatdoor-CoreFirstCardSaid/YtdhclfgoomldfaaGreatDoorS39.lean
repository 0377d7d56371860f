/- Lemmas. -/
import Derived.Test.YtdhclfgoomldfaaGreatDoorS1
import Derived.Test.YtdhclfgoomldfaaGreatDoorS36
import Derived.Test.YtdhclfgoomldfaaGreatDoorS37
import Derived.Test.YtdhclfgoomldfaaGreatDoorS38
set_option linter.all false
namespace Go.Proofs.YtdhclfgoomldfaaGreatDoor
set_option maxRecDepth 100000
set_option maxHeartbeats 1000000
open Go Go.RowKit
def ED(prog:List Nat):(Bj prog).take (min (Bj prog).length 64)=Bj prog:=aN (by unfold Bj;rw[aM];omega)
theorem oo(prog:List Nat)(s:St):∀k,js prog (gE prog s).1 k=js prog s (k+1)
 |0=>rfl
 |k+1=>by show(gE prog (js prog (gE prog s).1 k)).1=_;rw[oo prog s k];rfl
theorem v2{prog:List Nat}:∀{s t:St} {l:List Sp},iz prog s l t->l=(x4 prog s l.length).map Prod.snd∧i7 prog l.length s=l.length
 |s,t,[],_=>⟨rfl,rfl⟩
 | s,t,x::l,⟨a,b,c⟩=>by
  obtain⟨d,e⟩:=v2 c;constructor
  ·show x::l=((List.range (l.length+1)).map _).map _;rw[List.range_succ_eq_map,jC,jC,List.map_map,List.map_map];refine List.cons_eq_cons.2 ⟨b,?_⟩;refine(d.trans (by unfold x4;rw[List.map_map])).trans (iB λk _=>?_);show(gE prog (js prog (gE prog s).1 k)).2=(gE prog (js prog s (k+1))).2;rw[oo]
  ·show(if s.halt=0 then i7 prog l.length (gE prog s).1+1 else 0)=_;rw[aa a,e];rfl
theorem mv{X:Co}{m:ByteArray}(c:∀k,k<=3000->jb X k)(a:X.mc)(h:Iv X.prog X (PL m))(b:X.O=[]):∀k,k<=3000->∃t,iz X.prog (PL m) (uN X k).O t∧Iv X.prog (uN X k) t∧(uN X k).O.length<=k*X.U.k.toNat
 |0,_=>⟨_,by rw[show(uN X 0).O=[]from b];rfl,h,by rw[show(uN X 0).O=[]from b];exact aE _⟩
 |k+1,o=>by
  obtain⟨t,i,j,n⟩:=mv c a h b k ad;obtain⟨l,u,d,e,f,g⟩:=Iv.run c h a k ad t j;refine⟨u,by rw[d];exact vv i f,g,?_⟩;rw[d,aU,Nat.succ_mul];have:(uN X k).U=X.U:=(c k ad).bd.U;rw[this]at e;omega
def cj(f:a5->Bool):List a5->Nat
 |[]=>0
 |x::l=>(if f x=true then x.left.toNat else 0)+cj f l
def c_(x:a5):Bool:=decide (x.kind≠4)
def dg(x:a5):Bool:=decide (x.kind=4)
def en(agY:Nat)(k:Int)(x:a5):Bool:=decide (x.R=agY)&&decide (x.kind=k)
def d'(agY:Nat)(k:Int):List a5->Nat
 |[]=>0
 |x::l=>(if c_ x=true then x.left.toNat else 0)+(if en agY k x=true then 0 else d' agY k l)
def dz(L:Nat):List a5->Nat
 |[]=>L
 |x::l=>if c_ x=true then x.left.toNat else dz L l
def dm(q:List a5):Nat:=(q.filter λx=>decide (x.kind=3)).length
def ey(L:Nat)(q:List a5):Prop:=∀x∈q,1<=x.left∧x.left<=(L:Int)
def w0(q:List a5)(agY:Nat)(k:Int):bn q agY k=q.any (en agY k):=rfl
def nf(f:a5->Bool)(a b:List a5):cj f (a++b)=cj f a+cj f b:=by
 induction a with
 |nil=>simp[cj]
 |cons x l ih=>simp only[nV,cj,ih];omega
def nc(a b:List a5):yH (a++b)=yH a+yH b:=by simp[yH]
def pb(a b:List a5):dm (a++b)=dm a+dm b:=by simp[dm]
def lj(x:a5)(l:List a5):yH (x::l)=(if c_ x=true then 1 else 0)+yH l:=by
 unfold yH c_;rw[List.filter_cons];split<;>simp<;>omega
def o_(x:a5)(l:List a5):dm (x::l)=(if x.kind=3 then 1 else 0)+dm l:=by
 unfold dm;rw[List.filter_cons];by_cases h:x.kind=3<;>simp[h]<;>omega
def OT{L:Nat}{q:List a5}(h:ey L q):cj c_ q<=yH q*L:=by
 induction q with
 |nil=>simp[cj,yH]
 |cons x l ih=>
  have b:=h x b9;have:=ih λy a=>h y (bY _ a);rw[lj];unfold cj;split
  ·rw[cG];omega
  ·rw[bJ,bJ];exact this
def kw(agY:Nat)(k:Int)(q:List a5):d' agY k q<=cj c_ q:=by
 induction q with
 |nil=>exact aC _
 |cons x l ih=>unfold d' cj;split<;>split<;>omega
def pd{agY:Nat}{k:Int}{q:List a5}(h:bn q agY k=true)(p:List a5):d' agY k (q++p)=d' agY k q:=by
 induction q with
 |nil=>cases h
 |cons x l ih=>
  rw[w0,List.any_cons]at h;rw[nV];unfold d';by_cases a:en agY k x=true
  ·rw[aa a,aa a]
  ·rw[dZ a,dZ a,ih (by rw[Bool.eq_false_iff.2 a]at h;exact h)]
def xi{L:Nat}{agY:Nat}{k:Int}(e:k≠4){q:List a5}(b:ey L q)(h:bn q agY k=true):1<=d' agY k q:=by
 induction q with
 |nil=>cases h
 | cons x l ih=>
  rw[w0,List.any_cons]at h;have d:=b x b9;unfold d';by_cases a:en agY k x=true
  ·have:c_ x=true:=by unfold en at a;unfold c_;simp at a⊢;omega
   rw[aa this];omega
  ·have:=ih (λy c=>b y (bY _ c)) (by rw[Bool.eq_false_iff.2 a]at h;exact h);rw[dZ a];omega
def ln(q p:List a5)(agY:Nat)(k:Int):bn (q++p) agY k=(bn q agY k||bn p agY k):=by
 simp[bn]
def r9{L:Nat}{q p:List a5}(h:0<yH q):dz L (q++p)=dz L q:=by
 induction q with
 |nil=>cases h
 |cons x l ih=>
  rw[lj]at h;rw[nV];unfold dz;split
  ·rfl
  ·rename_i a;exact ih (by rw[dZ a]at h;omega)
def nl{L:Nat}{q:List a5}(a:ey L q):dz L q<=L:=by
 induction q with
 |nil=>exact aC _
 |cons x l ih=>
  have c:=a x b9;unfold dz;split
  ·omega
  ·exact ih λy b=>a y (bY _ b)
def O0{L:Nat}{q:List a5}(h:yH q=0):dz L q=L:=by
 induction q with
 |nil=>rfl
 |cons x l ih=>
  rw[lj]at h;unfold dz;split
  ·rename_i a;rw[aa a]at h;omega
  ·exact ih ad
def pe{L:Nat}{q p:List a5}(h:ey L q)(a:ey L p):ey L (q++p):=λx b=>(cx.1 b).elim (h x) (a x)
def rv{L:Nat}{q:List a5}(h:ey L q)(k:Int)(agY:Nat){left:Int}(b:1<=left∧left<=L)(d:ByteArray):ey L (Bi q k agY left d):=
 pe h λx a=>by rw[uJ]at a;subst a;show 1<=max left 1∧max left 1<=(L:Int);omega
def ru{x:Int}(h:0<=x)(a:x<=100):wrap64 x=x:=by unfold wrap64;omega
inductive oa(q:List a5):List a5×a5×Bool->Prop
 |none (h:q=[]) (x:a5):oa q ([],x,false)
 |go (x:a5) (r:List a5) (h:q=x::r) (h1:1<x.left) (y:a5):oa q ({x with left:=x.left-1}::r,y,false)
 |done (x:a5) (r:List a5) (h:q=x::r) (h1:x.left=1):oa q (r,{x with left:=0},true)
def xj{L:Nat}(c:L<=8){q:List a5}(b:ey L q):oa q (eH q):=by
 unfold eH
 cases q with
 |nil=>exact .none rfl _
 | cons x r=>
  have h:=b x b9;have e:wrap64 (x.left-1)=x.left-1:=ru ad ad;simp only[e];split
  ·exact .go x r rfl ad _
  ·have a:x.left-1=0:=oT;rw[a];exact .done x r rfl ad
def i5(e:ai):Prop:=ak e.i.op=3∧e.is=0
instance (e:ai):Decidable (i5 e):=inferInstanceAs (Decidable (_∧_))
def fi:List ai->Nat
 |[]=>0
 |e::l=>(if i5 e then 0 else 1)+(if LT e=true then fi l else 0)
structure f_(e e':ai):Prop where
 r: ¬i5 e-> ¬i5 e'
 s:LT e=true->LT e'=true
theorem f_.refl(e:ai):f_ e e:=⟨id,id⟩
theorem f_.trans{a b c:ai}(h:f_ a b)(k:f_ b c):f_ a c:=⟨λx=>k.r (h.r x),λx=>k.s (h.s x)⟩
def dv:List ai->List ai->Prop
 |[],_=>True
 |_::_,[]=>False
 |e::l,a::b=>f_ e a∧(LT e=true->dv l b)
theorem dv.refl:∀a,dv a a
 |[]=>trivial
 |e::l=>⟨.refl e,λ_=>.refl l⟩
theorem dv.trans:∀{a b c:List ai},dv a b->dv b c->dv a c
 |[],_,_,_,_=>trivial
 |_::_,[],_,h,_=>h.elim
 |_::_,_::_,[],_,h=>h.elim
 |_::_,_::_,_::_,h,k=>⟨h.1.trans k.1,λz=>(h.2 z).trans (k.2 (h.1.s z))⟩
theorem dv.YN:∀(a b:List ai),dv a (a++b)
 |[],_=>trivial
 |e::l,b=>⟨.refl e,λ_=>dv.YN l b⟩
theorem dv.of:∀{a b:List ai},(∀(k:Nat) e,a[k]?=some e->(∀x∈a.take k,LT x=true)->∃bb,b[k]?=some bb∧f_ e bb)->dv a b
 |[],_,_=>trivial
 |e::l,[],h=>by obtain⟨_,h,_⟩:=h 0 e rfl (λ_ h=>by cases h);cases h
 |e::l,bb::b4,h=>by
  obtain⟨x,c,d⟩:=h 0 e rfl (λ_ h=>by cases h);injection c with c;subst c;refine⟨d,λz=>dv.of λk y g f=>?_⟩;exact h (k+1) y g (λw hw=>by rcases dk.1 hw with rfl|hw;exact z;exact f w hw)
theorem lp:∀{a b:List ai},dv a b->fi a<=fi b
 |[],_,_=>aE _
 |_::_,[],h=>h.elim
 | e::l,c::f,h=>by
  unfold fi;have d:(if i5 e then 0 else 1)<=(if i5 c then 0 else 1):=by
   by_cases z:i5 e
   ·rw[aa z];omega
   ·rw[dZ z,dZ (h.1.r z)];exact aC _
  by_cases z:LT e=true
  ·rw[aa z,aa (h.1.s z)];have:=lp (h.2 z);omega
  ·rw[dZ z];omega
theorem xo:∀a:List ai,fi a<=a.length
 |[]=>aC _
 |e::l=>by unfold fi;have:=xo l;rw[bN];split<;>split<;>omega
theorem xp:∀{a:List ai} {i:Nat} {e b:ai},a[i]?=some e->(∀x∈a.take i,LT x=true)->i5 e-> ¬i5 b->(LT e=true->LT b=true)->fi a+1<=fi (a.set i b)
 |[],_,_,_,h,_,_,_,_=>by cases h
 |x::l,0,e,b,h,_,c,d,f=>by
  injection h with h;subst h;show(if i5 x then 0 else 1)+_+1<=(if i5 b then 0 else 1)+_;rw[aa c,dZ d];by_cases z:LT x=true
  ·rw[aa z,aa (f z)];omega
  ·rw[dZ z];omega
 |x::l,i+1,e,b,h,g,c,d,f=>by
  have z:LT x=true:=g x b9;have:=xp (a:=l) (i:=i) h (λy j=>g y (bY _ j)) c d f;show(if i5 x then 0 else 1)+(if LT x=true then fi l else 0)+1<=(if i5 x then 0 else 1)+(if LT x=true then fi (l.set i b)else 0);rw[aa z,aa z];omega
theorem dv.set{a:List ai}{i:Nat}{e c:ai}(b:a[i]?=some e)(h:f_ e c):dv a (a.set i c):=by
 refine dv.of λk x d _=>?_;by_cases f:i=k
 ·subst f;rw[d]at b;injection b with b;subst b;exact⟨c,aZ (Em.1 d).1,h⟩
 exact⟨x,by rw[kX f];exact d,.refl x⟩
theorem dv.map{f:ai->ai}(h:∀e,f_ e (f e))(a:List ai):dv a (a.map f):=
 dv.of λk x b _=>⟨f x,by rw[aX,b];rfl,h x⟩
def L3{agI:List ai}{i:Nat}(h:vC agI i=true):∀x∈agI.take i,LT x=true:=by
 unfold vC Cq at h;rw[aP,aY,aY]at h;intro x g;obtain⟨k,b⟩:=List.getElem?_of_mem g;rw[cU]at b;split at b
 ·rename_i f;have c:k<List.findIdx (λe=> !LT e) agI:=ep f h.2;have d:=List.not_of_lt_findIdx c;have a:agI[k]?=some x:=b;rw[aA (ep c List.findIdx_le_length)]at a;injection a with a;rw[a]at d;simpa using d
 cases b
def xk{e d:ai}(f:d.i=e.i)(g:d.halt=e.halt)(i:e.known=true->d.known=true)(h:LT e=true):LT d=true:=by
 unfold LT at h⊢;rw[f,g];split at h
 ·cases h
 split at h
 ·cases h
 split at h
 ·rename_i a b c;rw[dZ a,dZ b,aa c];exact i h
 rename_i a b c;rw[dZ a,dZ b,dZ c]
theorem f_.of{e a:ai}(b:a.i=e.i)(c:a.halt=e.halt)(d:e.known=true->a.known=true)(f:e.is≠0->a.is≠0):f_ e a:=
 ⟨λh k=>h ⟨b ▸ k.1,er λz=>f z k.2⟩,xk b c d⟩
def xq(e:ai):f_ e (a0 e):=by
 unfold a0;split
 ·exact .refl e
 rename_i h;split
 ·exact .of rfl rfl (λz=>by show(if _ then true else e.known)=true;split;rfl;exact z) (λ_=>by show(3:Int)≠0;decide)
 exact .of rfl rfl id id
def rx(e:ai)(s:ByteArray):f_ e (uM e s):=by
 unfold uM;split
 ·exact .refl e
 exact .of rfl rfl id (λ_=>by show(1:Int)≠0;decide)
def Mm(e:ai)(b:Nat):f_ e (uF e b):=by
 unfold uF;split
 ·exact .refl e
 exact .of rfl rfl id (λ_=>by show(3:Int)≠0;decide)
def w8(e:ai)(n:Int)(a:Nat):f_ e (yC e n a):=by
 unfold yC;split
 ·exact .refl e
 rename_i h;split
 ·exact .of rfl rfl (λ_=>rfl) id
 refine⟨λ_ k=>absurd k.2 (by show(3:Int)≠0;decide),λz=>?_⟩;unfold LT at z;split at z
 ·cases z
 split at z
 ·cases z
 split at z
 ·exact absurd (.inr (.inr z)) h
 rename_i c d b;exact absurd (.inl ⟨λk=>b (.inl k),λk=>b (.inr (.inl k))⟩) h
def Mn{e:ai}(f:ak e.i.op=5->e.known=true->e.is=3)(a b:Nat):f_ e (rJ e a b):=by
 unfold rJ;split
 ·exact .refl e
 rename_i h;have c:(1:Int)≠0:=dT;split
 ·exact .of rfl rfl id (λ_=>c)
 split
 ·exact .of rfl rfl id (λ_=>c)
 split
 ·split
  ·exact .of rfl rfl id (λ_=>c)
  rename_i d _;refine⟨λ_ k=>absurd k.2 c,λz=>?_⟩;unfold LT at z;split at z
  ·cases z
  split at z
  ·cases z
  split at z
  ·exact absurd (f d z) (λq=>h (.inl (by rw[q];decide)))
  rename_i q;exact absurd (.inr (.inr d)) q
 exact .of rfl rfl id (λ_=>c)
def xl{e:ai}:f_ e {e with is:=2}:=.of rfl rfl id (λ_=>by show(2:Int)≠0;decide)
def L_(c:Co)(agY:Nat)(e:ai):f_ e (wO c agY e):=by
 unfold wO;split
 ·exact f_.trans (b:={e with Z4:=true}) (.of rfl rfl id id) (rx {e with Z4:=true} _)
 exact .refl e
theorem wn{r:Nat->Nat}{l:List ai}:∀n,dv l (bt r l n)
 |0=>.refl l
 | n+1=>by
  refine dv.trans (b:=bt r l n) (wn n) ?_;show dv _ (e6 r (bt r l n) n);unfold e6;split
  ·rename_i e a;split
   ·split
    ·exact .set a (Mm _ _)
    ·exact .refl _
   ·exact .refl _
  ·exact .refl _
def Ky(c:Co):dv c.Z (br c):=(dv.map xq c.Z).trans (wn _)
def j5(d:Ca):Prop:=∀w,ck d w->0<w.data.size
def nm{c:Ca}(h:cd c){agY:Nat}{w:Wy}(b:ck c w)(e:w.R=ab agY):(bK c agY).2.isSome=true:=by
 cases a:(bK c agY).2.isSome with
 |true=>rfl
 |false=>exact absurd e (qt h a b)
def i4(a:Nat):ab (ab a)=ab a:=by unfold ab;omega
def wz(q:List a5)(m:ByteArray):(jZ q m).size=m.size:=by unfold jZ;rw[iY]
def wK{d:Ca}{q:List a5}{m:ByteArray}{agY:Nat}(left:Int)(b:cd d)(k:m.size%16=0)(s:ab agY+16<=m.size)(e:j5 d):
  j5 (iQ d q m agY left).1∧∃w,ck (iQ d q m agY left).1 w∧w.R=ab agY:=by
 have p:=(hK.1 b).1;unfold iQ;rw[dZ (by rw[p];decide)];by_cases a:(bK d (ab agY)).2.isSome=true
 ·rw[aa a];obtain⟨w,_,n,o⟩:=mu b a;exact⟨λw c=>e w ((ou b _).1 c),w,(ou b _).2 n,o.trans (i4 _)⟩
 rw[dZ a];have a:=Bool.eq_false_iff.2 a;have i:(dC (Ga (jZ q m) (ab agY))).size=16:=(we (i:=ab agY) (by rw[wz];exact k) (by rw[wz];omega) rfl).1;have g:=si b a (Ga (jZ q m) (ab agY)) false;generalize qZ d (ab agY) (Ga (jZ q m) (ab agY)) false=z at g;obtain⟨f,l,r⟩:=z;have j:j5 f∧∃w,ck f w∧w.R=ab agY:=by
  rcases g with ⟨_,h⟩|⟨_,_,h⟩
  ·refine⟨λw c=>?_,_,(h _).2 (.inl rfl),i4 _⟩;rcases(h w).1 c with rfl|q
   ·show 0<(dC _).size;rw[i];decide
   exact e w q
  refine⟨λw c=>?_,_,(h _).2 (.inl rfl),i4 _⟩;rcases(h w).1 c with rfl|q
  ·show 0<(dC _).size;rw[i];decide
  exact e w q.1
 simp only;split<;>exact j
def J'{d:Ca}(b:cd d)(g:j5 d){p:Pt}{n:Nat}(hp:kZ n p.V p.data.size=true){w:Wy}(j:ck d w)(e:w.R=ab p.V):(xL d p.V p.data).2=true:=by
 have a:=nm b j e;obtain⟨x,c,f,_⟩:=mu b a;rw[At p.data a rfl c];have k:=g x f;have l:p.data.size+p.V%16<=16:=by
  unfold kZ at hp;simp only[aP,dE,aY]at hp;have i:p.data.size=1∨p.data.size=2∨p.data.size=4:=oT;have h:p.V%p.data.size=0:=oH hp;rcases i with q|q|q<;>rw[q]at h⊢ <;>omega
 rw[dZ ad]
def L4{d:Ca}(f:cd d)(e:j5 d){a:Nat}{b:ByteArray}(h:(xL d a b).2=true):j5 (xL d a b).1:=by
 obtain⟨v,k,_,j,i,c⟩:=vx f h;intro w g;rcases(c w).1 g with rfl|q
 ·show 0<(Fk v.data (a%16) b).size;unfold Fk;rw[kH,kH,dA,dA];omega
 exact e w q.1
structure SE(y x:ai):Prop where
 i:x.i=y.i
 V:x.V=y.V
 is:x.is=y.is∨x.is=3
 left:x.left=y.left
 halt:x.halt=y.halt
 known:x.known=y.known
 no:ak y.i.op≠4->x=y
theorem SE.refl(y:ai):SE y y:=⟨rfl,rfl,.inl rfl,rfl,rfl,rfl,λ_=>rfl⟩
theorem SE.trans{a b c:ai}(h:SE a b)(k:SE b c):SE a c:=
 ⟨k.i.trans h.i,k.V.trans h.V,k.is.elim (λz=>h.is.imp (z.trans ·) (z.trans ·)) .inr,k.left.trans h.left,k.halt.trans h.halt,k.known.trans h.known,λz=>by have e:=h.no z;subst e;exact k.no z⟩
def w9(e:ai)(b:Nat)(a:ak e.i.op=4):SE e (uF e b):=by
 unfold uF;split
 ·exact .refl e
 exact⟨rfl,rfl,.inr rfl,rfl,rfl,rfl,λz=>absurd a z⟩
theorem ku{r:Nat->Nat}{l:List ai}:∀{n k:Nat} {x:ai},(bt r l n)[k]?=some x->∃y,l[k]?=some y∧SE y x
 |0,_,x,h=>⟨x,h,.refl x⟩
 | n +1,k,x,h=>by
  have h:(e6 r (bt r l n) n)[k]?=some x:=h;unfold e6 at h;split at h
  ·rename_i e a;split at h
   ·rename_i f;split at h
    ·by_cases b:n=k
     ·subst b;rw[aZ (Em.1 a).1]at h;injection h with h;subst h;obtain⟨y,c,d⟩:=ku a;exact⟨y,c,d.trans (w9 e _ f)⟩
     ·rw[kX b]at h;exact ku h
    ·exact ku h
   ·exact ku h
  ·exact ku h
def rr{agI:List ai}{r:Nat->Nat}{a:Int}(h:0<=a∧a<32):(lK agI r 0 a).isSome=true:=by
 unfold lK gX;split
 ·rfl
 split
 ·omega
 have:(if a<1∨a>31 then none else h8 agI a (min 0 agI.length))=none:=by
  split
  ·rfl
  rw[Nat.zero_min];rfl
 rw[this];rfl
theorem ws{r:Nat->Nat}{e:ai}{l:List ai}:∀n,∃x a,bt r (e::l) (n+1)=x::a∧SE e x∧(ak e.i.op=4->e.known=true->e.is=0->0<=e.i.x∧e.i.x<32->x.is=3)
 | 0=>by
  show ∃x a,e6 r (e::l) 0=x::a∧_;unfold e6;rw[cP];simp only;split
  ·rename_i d;split
   ·refine⟨_,_,rfl,w9 e _ d,λ_ f g _=>?_⟩;unfold uF;rw[dZ (by rw[d,f,g];decide)]
   ·rename_i f;refine⟨e,l,rfl,.refl e,λ_ _ _ z=>?_⟩;have:=rr (agI:=e::l) (r:=r) z;rw[f]at this;cases this
  ·rename_i d
   exact⟨e,l,rfl,.refl e,λz=>absurd z d⟩
 | n+1=>by
  obtain⟨x,a,h,b,c⟩:=ws (r:=r) (e:=e) (l:=l) n;show ∃x a,e6 r (bt r (e::l) (n+1)) (n+1)=x::a∧_;rw[h];unfold e6;split
  ·split
   ·split
    ·exact⟨x,a.set n _,rfl,b,c⟩
    ·exact⟨x,a,rfl,b,c⟩
   ·exact⟨x,a,rfl,b,c⟩
  ·exact⟨x,a,rfl,b,c⟩
def x3{c:Co}{x:ai}(h:x∈(kK c).Z):(c.halt≠0∧x∈c.Z)∨∃y∈br c,∃g,x={y with N:=g}:=by
 unfold kK at h;split at h
 ·rename_i b;exact .inl ⟨b,h⟩
 refine .inr ?_;split at h
 ·rename_i i d;have h:x∈dl (br c) i:=h;unfold dl at h;split at h
  ·rename_i e a;rcases cx.1 h with h|h
   ·exact⟨x,cQ h,x.N,rfl⟩
   rw[uJ]at h;exact⟨e,aB a,_,h⟩
  exact⟨x,h,x.N,rfl⟩
 exact⟨x,h,x.N,rfl⟩
def wq{c:Co}{x:ai}(h:x∈br c):∃y∈c.Z,SE (a0 y) x:=by
 obtain⟨k,e⟩:=List.getElem?_of_mem h;obtain⟨y,a,d⟩:=ku (show(bt c.r (c.Z.map a0) c.Z.length)[k]?=some x from e);rw[aX]at a
 cases b:c.Z[k]? with
 |none=>rw[b]at a;cases a
 |some z=>rw[b]at a;injection a with a;subst a;exact⟨z,aB b,d⟩
def hY(e:ai):Prop:=e.is=1->1<=e.left∧e.left<=34
def O1{e:ai}(h:hY e):hY (a0 e):=by
 unfold a0;split
 ·exact h
 rename_i a;have a:e.is=1:=b'.1 a;have:=h a;have b:wrap64 (e.left-1)=e.left-1:=ru ad ad;rw[b];split
 ·intro z;exact absurd z (by show(3:Int)≠1;decide)
 intro _;show 1<=e.left-1∧e.left-1<=34;omega
def xm{e:ai}(h:hY e)(b:(a0 e).is=1):e.is=1∧(a0 e).left=e.left-1:=by
 unfold a0 at b⊢;split at b
 ·rename_i a;exact absurd b a
 rename_i a;have a:e.is=1:=b'.1 a;have:=h a;have d:wrap64 (e.left-1)=e.left-1:=ru ad ad;rw[dZ ad];rw[d]at b⊢;split at b
 ·exact absurd b (by show(3:Int)≠1;decide)
 rename_i c;rw[dZ c];exact⟨a,rfl⟩
def NU{e:ai}(h:(a0 e).is=2):a0 e=e:=by
 unfold a0 at h⊢;split
 ·rfl
 rename_i a;rw[dZ a]at h;have a:e.is=1:=b'.1 a;split at h
 ·exact absurd h (by show(3:Int)≠2;decide)
 have h:e.is=2:=h;omega
def bl:List ai->Nat
 |[]=>0
 |e::l=>max (if IE e=true then e.left.toNat else 0) (bl l)
theorem nj:∀{l:List ai} {e:ai},e∈l->IE e=true->e.left.toNat<=bl l
 |x::l,e,h,a=>by
  unfold bl;rcases dk.1 h with rfl|h
  ·rw[aa a];omega
  ·have:=nj h a;omega
theorem np{n:Nat}:∀{l:List ai},(∀e∈l,IE e=true->e.left.toNat<=n)->bl l<=n
 |[],_=>aE _
 |x::l,h=>by
  unfold bl;have d:=np λe c=>h e (bY _ c);have a:=h x b9;split
  ·rename_i b;have:=a b;omega
  ·omega
def ry{c:Co}(j:∀e∈c.Z,hY e){x:ai}(h:x∈(kK c).Z):hY x∧∃y∈c.Z,x.V=y.V∧x.i=y.i∧(x.is=2->y.is=2)∧(IE x=true->(c.halt≠0∧x=y)∨IE y=true∧x.left=y.left-1):=by
 rcases x3 h with ⟨m,h⟩|⟨z,n,g,rfl⟩
 ·exact⟨j x h,x,h,rfl,rfl,id,λ_=>.inl ⟨m,rfl⟩⟩
 obtain⟨y,l,d⟩:=wq n;have i:(a0 y).V=y.V∧(a0 y).i=y.i:=by unfold a0;split;exact⟨rfl,rfl⟩;split<;>exact⟨rfl,rfl⟩
 refine⟨λf=>?_,y,l,d.V.trans i.1,d.i.trans i.2,λq=>?_,λq=>?_⟩
 ·have f:z.is=1:=f;rcases d.is with q|q
  ·rw[show({z with N:=g}:ai).left=z.left from rfl,d.left];exact O1 (j y l) (q ▸ f)
  omega
 ·have q:z.is=2:=q;rcases d.is with k|k
  ·have:=NU (k ▸ q:(a0 y).is=2);rw[this]at k;omega
  omega
 have q:IE z=true:=q;unfold IE at q;simp only[aP,aY]at q;rcases d.is with k|k
 ·obtain⟨a,b⟩:=xm (j y l) (k ▸ q.2);refine .inr ⟨?_,d.left.trans b⟩;unfold IE;rw[d.i,i.2]at q;simp[q.1,a]
 omega
def L'{c:Co}(m:∀e∈c.Z,hY e)(l:c.halt=0)(h:(kK c).Z.any IE=true):bl (kK c).Z+1<=bl c.Z:=by
 have b:∀x∈(kK c).Z,IE x=true->x.left.toNat+1<=bl c.Z:=λx d a=>by
  obtain⟨i,y,n,_,_,_,j⟩:=ry m d;rcases j a with ⟨z,_⟩|⟨g,o⟩
  ·exact absurd l z
  have:=nj n g;have f:x.is=1:=by unfold IE at a;simp at a;exact a.2
  have:=i f;omega
 obtain⟨x,d,a⟩:=Mv.1 h;have f:=b x d a;have:=np (n:=bl c.Z-1) (l:=(kK c).Z) λe k q=>by have:=b e k q;omega
 omega
structure LI(L:Nat)(c:Co):Prop where
 y:∀k,1<=lX c.U k∧lX c.U k<=(L:Int)
 b:ey L c.Y
 two:∀e∈c.Z,e.is=2->bn c.Y (ab e.V) 1=true
 one:∀e∈c.Z,hY e
 ld:∀e∈c.Z,ak e.i.op=3->e.is≠0->e.halt=0->e.known=true
 w:NW c.Z
 st:c.halt=0->c.stop=true->∃f,(c.Z.map (·.K)++c.Q.map (·.K)).getLast?=some f∧(ek c.prog f).isSome=false
 d:j5 c.data
 l:∀x∈c.Y,x.kind=3->ab x.R+16<=c.mem.size
def w_{q p:List a5}{agY:Nat}{k:Int}(h:bn q agY k=true):bn (q++p) agY k=true:=by rw[ln,h];rfl
theorem LI.ZJ{L:Nat}{c:Co}(h:LI L c)(r:cd c.data)(m:c.mem.size%16=0){agY:Nat}(t:ab agY+16<=c.mem.size):LI L (oK c agY)∧∃w,ck (oK c agY).data w∧w.R=ab agY:=by
 have g:=wK (q:=c.Y) (lX c.U c.asked) r m t h.d;obtain⟨i,_,b,j,_,_,k⟩:=j0 c agY;have y:(oK c agY).data=(iQ c.data c.Y c.mem agY (lX c.U c.asked)).1:=rfl;have n:∃p,(oK c agY).Y=c.Y++p∧ey L p∧∀x∈p,x.kind=4:=by
  rcases pk c agY with ⟨q,_⟩|⟨l,d,q,_⟩
  ·exact⟨[],by rw[q,dY],(λx a=>by cases a),(λx a=>by cases a)⟩
  refine⟨_,q,λx a=>?_,λx a=>?_⟩
  ·rw[uJ]at a;subst a;have:=h.y c.asked;show 1<=max _ _∧max _ _<=(L:Int);omega
  rw[uJ]at a;subst a;rfl
 obtain⟨p,f,u,v⟩:=n;refine⟨⟨by rw[j];exact h.y,by rw[f];exact pe h.b u,?_,by rw[b];exact h.one,by rw[b];exact h.ld,by rw[b];exact h.w,?_,g.1,?_⟩,g.2⟩
 ·rw[b,f];exact λe o z=>w_ (h.two e o z)
 ·rw[b,k];exact h.st
 rw[f,i];intro x a s;rcases cx.1 a with z|z
 ·exact h.l x z s
 have:=v x z;omega
def l0(c:Co)(agY:Nat)(e:ai):(wO c agY e).i=e.i∧(wO c agY e).known=e.known∧(wO c agY e).next=e.next∧(wO c agY e).N=e.N∧(wO c agY e).K=e.K∧(wO c agY e).V=e.V∧(wO c agY e).halt=e.halt:=by
 unfold wO;split
 ·unfold uM;split<;>exact⟨rfl,rfl,rfl,rfl,rfl,rfl,rfl⟩
 exact⟨rfl,rfl,rfl,rfl,rfl,rfl,rfl⟩
def sf{c:Co}{agY:Nat}{e:ai}(a:e.is=2->ak e.i.op=3∧e.known=true):(wO c agY e).is=e.is∧(wO c agY e).left=e.left∧ ¬(e.is=2∧ab e.V=agY)∨e.is=2∧ab e.V=agY∧(wO c agY e).is=1∧(wO c agY e).left=1:=by
 unfold wO;split
 ·rename_i h;obtain⟨b,d⟩:=a h.1;refine .inr ⟨h.1,h.2,?_⟩;unfold uM;rw[dZ (by simp[b,d,h.1])];exact⟨rfl,rfl⟩
 rename_i h;exact .inl ⟨rfl,rfl,h⟩
def Mk{e a:ai}(b:a.i=e.i)(c:a.known=e.known)(d:a.next=e.next)(f:a.N=e.N):Nj a=Nj e:=by unfold Nj;rw[b,c,d,f]
theorem LI.q{L:Nat}{c:Co}(h:LI L c){q:List a5}(a:ey L q)(d:∀e∈c.Z,e.is=2->bn q (ab e.V) 1=true)(b:∀x∈q,x.kind=3->ab x.R+16<=c.mem.size):LI L {c with Y:=q}:=
 ⟨h.y,a,d,h.one,h.ld,h.w,h.st,h.d,b⟩
def xa{L:Nat}{x:a5}{r:List a5}(h:ey L (x::r)):ey L r:=λy a=>h y (bY _ a)
def o'(x:a5)(r:List a5)(agY:Nat)(k:Int):bn (x::r) agY k=(en agY k x||bn r agY k):=rfl
theorem LI.ZL{L:Nat}(D:L<=8){c:Co}(h:LI L c)(o:c.mc)(B:∀e∈c.Z,e.is=2->ak e.i.op=3∧e.known=true):LI L (lM c):=by
 have u:=xj D h.b;unfold lM;generalize eH c.Y=t at u
 cases u with
 |none hq x=>
  show LI L {c with Y:=[]}
  exact h.q (λy l=>by cases l) (λe d z=>by have:=h.two e d z;rw[hq]at this;exact this) (λy l=>by cases l)
 | go x r hq h1 y=>
  show LI L {c with Y:={x with left:=x.left-1}::r};have j:=h.b;rw[hq]at j;have H:=j x b9;refine h.q (λz hz=>?_) (λe d z=>?_) (λz hz i=>?_)
  ·rcases dk.1 hz with rfl|hz
   ·show 1<=x.left-1∧x.left-1<=(L:Int);omega
   ·exact j z (bY _ hz)
  ·have:=h.two e d z;rw[hq]at this;exact this
  ·rcases dk.1 hz with rfl|hz
   ·exact h.l x (by rw[hq];exact b9) i
   ·exact h.l z (by rw[hq];exact bY _ hz) i
 | done x r hq h1=>
  show LI L (ID {c with Y:=r} {x with left:=0});have j:=h.b;rw[hq]at j;have v:∀y∈r,y.kind=3->ab y.R+16<=c.mem.size:=λy l=>h.l y (by rw[hq];exact bY _ l);have A:∀e∈c.Z,e.is=2-> ¬(x.kind=1∧ab e.V=x.R)->bn r (ab e.V) 1=true:=λe d z n=>by
   have:=h.two e d z;rw[hq,o']at this;rcases(dE _ _).mp this with k|k
   ·unfold en at k;simp only[aP,aY]at k;exact absurd ⟨k.2,k.1.symm⟩ n
   ·exact k
  unfold ID;split
  ·rename_i i;have i:x.kind=1:=i;have m:∀e∈c.Z,((wO {c with Y:=r} x.R e).is=2->e.is=2∧ ¬ab e.V=x.R)∧(hY e->hY (wO {c with Y:=r} x.R e))∧(e.is=0->(wO {c with Y:=r} x.R e).is=0):=λe d=>by
    rcases sf (c:={c with Y:=r}) (agY:=x.R) (B e d)with ⟨a,b,n⟩|⟨a,b,b4,bb⟩
    ·exact⟨λz=>⟨a ▸ z,λw=>n ⟨a ▸ z,w⟩⟩,λz w=>by rw[b];exact z (a ▸ w),λz=>a.trans z⟩
    ·exact⟨λz=>by omega,λ_ _=>by rw[bb];decide,λz=>by omega⟩
   refine⟨h.y,xa j,?_,?_,?_,?_,?_,h.d,v⟩
   ·intro p g z;obtain⟨e,d,rfl⟩:=pG.1 g;obtain⟨b4,bb⟩:=(m e d).1 z;rw[(l0 _ _ e).2.2.2.2.2.1];exact A e d b4 λq=>bb q.2
   ·intro p g;obtain⟨e,d,rfl⟩:=pG.1 g;exact(m e d).2.1 (h.one e d)
   ·intro p g b4 bb G;obtain⟨e,d,rfl⟩:=pG.1 g;have s:=l0 {c with Y:=r} x.R e;rw[s.2.1];exact h.ld e d (s.1 ▸ b4) (λq=>bb ((m e d).2.2 q)) (s.2.2.2.2.2.2 ▸ G)
   ·intro p g;obtain⟨e,d,rfl⟩:=pG.1 g;have s:=l0 {c with Y:=r} x.R e;rw[Mk s.1 s.2.1 s.2.2.1 s.2.2.2.1];exact h.w e d
   ·intro E F;have:((c.Z.map (wO {c with Y:=r} x.R)).map (·.K))=c.Z.map (·.K):=by
     rw[List.map_map];exact iB λe _=>(l0 _ _ e).2.2.2.2.1
    show ∃f,((c.Z.map (wO {c with Y:=r} x.R)).map (·.K)++_).getLast?=some f∧_;rw[this];exact h.st E F
  ·rename_i i;have i:x.kind≠1:=i;have h':LI L {c with Y:=r}:=h.q (xa j) (λe d z=>A e d z λq=>i q.1) v;split
   ·exact⟨h'.y,h'.b,h'.two,h'.one,h'.ld,h'.w,h'.st,h'.d,h'.l⟩
   split
   ·rename_i C;exact(h'.ZJ o.g o.al (h.l x (by rw[hq];exact b9) C)).1
   split
   ·exact⟨h'.y,h'.b,h'.two,h'.one,h'.ld,h'.w,h'.st,h'.d,λy l k=>by
     show _<=(rP c.mem _).size;rw[iY];exact h'.l y l k⟩
   ·exact h'
def kx(e:ai):(a0 e).K=e.K∧(a0 e).i=e.i∧(a0 e).halt=e.halt∧(a0 e).V=e.V∧(e.known=true->(a0 e).known=true)∧(e.is=0->(a0 e).is=0)∧(ak e.i.op≠5->(a0 e).known=e.known)∧(a0 e).N=e.N∧(a0 e).next=e.next:=by
 unfold a0;split
 ·exact⟨rfl,rfl,rfl,rfl,id,id,λ_=>rfl,rfl,rfl⟩
 rename_i h;split
 ·exact⟨rfl,rfl,rfl,rfl,λz=>by show(if _ then true else e.known)=true;split;rfl;exact z,λz=>by omega,λz=>by show(if _ then true else e.known)=_;rw[dZ λq=>z q.1],rfl,rfl⟩
 exact⟨rfl,rfl,rfl,rfl,id,λz=>by omega,λ_=>rfl,rfl,rfl⟩
def Mo(e:ai)(b:Nat):(uF e b).K=e.K:=by unfold uF;split<;>rfl
theorem m'{r:Nat->Nat}{l:List ai}:∀n,(bt r l n).map (·.K)=l.map (·.K)
 |0=>rfl
 | n +1=>by
  show(e6 r (bt r l n) n).map (·.K)=_;unfold e6;split
  ·rename_i e c;split
   ·split
    ·rw[List.map_set,Mo, <-m' (r:=r) (l:=l) n];obtain⟨a,b⟩:=Em.1 c
     conv=>rhs;rw[<- @List.set_getElem_self _ ((bt r l n).map (·.K)) n (by rw[aH];exact a)]
     rw[List.getElem_map,b]
    ·exact m' n
   ·exact m' n
  ·exact m' n
def M0(c:Co):(br c).map (·.K)=c.Z.map (·.K):=by
 unfold br;rw[m',List.map_map];exact iB λe _=>(kx e).1
def nd(c:Co):(kK c).Y=c.Y∧(kK c).U=c.U∧(kK c).data=c.data∧(kK c).mem=c.mem∧(kK c).halt=c.halt∧(kK c).prog=c.prog∧(kK c).C=c.C∧(kK c).W=c.W∧(kK c).r=c.r:=by
 unfold kK;(repeat' split)<;>exact⟨rfl,rfl,rfl,rfl,rfl,rfl,rfl,rfl,rfl⟩
theorem LI.ZN{L:Nat}{c:Co}(h:LI L c)(C:NW (kK c).Z):LI L (kK c):=by
 obtain⟨k,p,r,t,u,D, -⟩:=nd c;refine⟨by rw[p];exact h.y,by rw[k];exact h.b,λe b bb=>?_,λe b=>(ry h.one b).1,λe b a i j=>?_,C,λB d=>?_,by rw[r];exact h.d,by rw[k,t];exact h.l⟩
 ·obtain⟨_,y,m,n,_,o,_⟩:=ry h.one b;rw[k,n];exact h.two y m (o bb)
 ·rcases x3 b with ⟨_,q⟩|⟨bb,hz,g,rfl⟩
  ·exact h.ld e q a i j
  obtain⟨y,m,s⟩:=wq hz;obtain⟨E,v,w,F,x,A,G,_⟩:=kx y;have a:ak bb.i.op=3:=a;have l:=s.no (by rw[<-s.i,a];decide);rw[l]at a;have i:bb.is≠0:=i;have j:bb.halt=0:=j;rw[l]at i j;show bb.known=true;rw[l];exact x (h.ld y m (v ▸ a) (λq=>i (A q)) (w ▸ j))
 unfold kK at d⊢;split at d
 ·rename_i q;rw[aa q];exact absurd (u ▸ B) q
 rename_i q;rw[dZ q];split at d
 ·cases d
 rename_i H;show ∃f,((br c).map (·.K)++c.Q.map (·.K)).getLast?=some f∧_;rw[M0];exact h.st (b'.1 q) d
def O2{d:Type}{a b:List d}{x z:d}(h:(x::a++b).getLast?=some z)(e:a++b≠[]):(a++b).getLast?=some z:=by
 cases c:a++b with
 |nil=>exact absurd c e
 |cons y l=>rw[nV,c]at h;exact h
def N1{prog:List Nat}{T:St}{e:ai}(h:dn prog T e)(a:(ek prog e.K).isSome=false):(cA e).halt≠0:=by
 have hp: ¬gy prog e.K:=λz=>by rw[z.1]at a;cases a
 have b:=(h.Zx hp).1;rw[h.told (.inr b)];unfold ew gE;rw[aa rfl,dZ (by show ¬(ek prog e.K).isSome=true;rw[a];decide)];exact(dT:(1:Int)≠0)
theorem LI.pop{L:Nat}{c:Co}(h:LI L c){e:ai}{l:List ai}(d:c.Z=e::l){prog:List Nat}(hp:c.prog=prog){T:St}(i:dn prog T e)(m:(cA e).halt=0)(r:Nat->Nat)(g:Gu):LI L {c with Z:=l,r:=r,N:=g}:=by
 have b:∀x∈l,x∈c.Z:=λx a=>by rw[d];exact bY _ a
 refine⟨h.y,h.b,λx a=>h.two x (b x a),λx a=>h.one x (b x a),λx a=>h.ld x (b x a),λx a=>h.w x (b x a),λj k=>?_,h.d,h.l⟩;obtain⟨f,f1,f2⟩:=h.st j k;refine⟨f,?_,f2⟩;rw[d,jC]at f1;refine O2 f1 λq=>?_;rw[nV,q]at f1;injection f1 with f1;have f1:e.K=f:=f1;exact N1 i (by rw[<-hp,f1];exact f2) m
def w2{e:ai}:(cA e).halt=e.halt:=by
 unfold cA;by_cases h:e.halt≠0
 ·rw[aa h]
 rw[dZ h];have:e.halt=0:=b'.1 h;rw[this]
 (repeat' split)<;>rfl
def w3{e:ai}(h:e.halt=0)(k:ak e.i.op=3):(cA e).V=e.V:=by
 unfold cA;rw[dZ ad,dZ ad,aa k]
def r7{n a k:Nat}(b:n%16=0)(h:kZ n a k=true):ab a+16<=n:=by
 unfold kZ at h;simp only[aP,aY]at h;unfold ab;omega
theorem LI.Y5{L:Nat}{prog:List Nat}:∀(n:Nat) {c:Co} {s:St},LI L c->Iv prog c s->c.mc->(∀e∈c.Z,e.ok)->(∀e∈c.Z,e.known=true->ak e.i.op=3∨ak e.i.op=4->kZ c.mem.size e.V (a' e.i.op)=true)->LI L (eC n c)
 |0,_,_,h,_,_,_,_=>h
 | n + 1,c,s,h,hI,bb,ho,hk=>by
  have y:=h.w;unfold eC;split
  ·exact h
  ·rename_i p;have p:c.halt=0:=b'.1 p;split
   ·exact h
   ·rename_i e l g;split
    ·exact h
    ·rename_i o;have o:e.is=3:=b'.1 o;have i:e∈c.Z:=by rw[g];exact b9
     split
     ·rename_i f;exact⟨h.y,h.b,(λx d=>by cases d),(λx d=>by cases d),(λx d=>by cases d),(λx d=>by cases d),λz=>absurd z f,h.d,h.l⟩
     ·rename_i f;have f:(cA e).halt=0:=b'.1 f;split
      ·exact h
      ·have u:dn prog s e:=by have:=hI.ri.ok;rw[g]at this;exact this.1
       have k:e.halt=0:=w2 ▸ f;have r:LI L (fZ c (cA e)):=⟨h.y,h.b,h.two,h.one,h.ld,h.w,h.st,h.d,h.l⟩;have m:(fZ c (cA e)).mc:=ef bb rfl rfl rfl;have w:LI L (vG (fZ c (cA e)) e (cA e)):=by
        unfold vG;split
        ·rename_i q;have v:=h.ld e i q ad k;exact(r.ZJ m.g m.al (by rw[w3 k q];exact r7 bb.al (hk e i v (.inl q)))).1
        ·exact r
       obtain⟨A,B⟩:=(hI.Zp y bb g (ho e i) o p).2.2.2 f;have j:(vG (fZ c (cA e)) e (cA e)).prog=c.prog∧(vG (fZ c (cA e)) e (cA e)).Z=c.Z∧(vG (fZ c (cA e)) e (cA e)).mem=c.mem:=by
        unfold vG;split
        ·exact⟨(j0 _ _).2.2.2.2.2.2,(j0 _ _).2.2.1,(j0 _ _).1⟩
        ·exact⟨rfl,rfl,rfl⟩
       have t:=w.pop (j.2.1.trans g) (j.1.trans hI.pr) u f (lY c.r (cA e)) (fM c.N (cA e).K (cA e).next e.i);refine LI.Y5 n (c:=vZ c e (cA e) l) t A B (λx d=>ho x (by rw[g];exact bY _ d)) λx d a b=>?_;rw[show(vZ c e (cA e) l).mem=c.mem from j.2.2];exact hk x (by rw[g];exact bY _ d) a b
structure SR(L:Nat)(c d:Co):Prop where
 U:d.U=c.U
 data:d.data=c.data
 C:d.C=c.C
 W:d.W=c.W
 M:d.M=c.M
 Q:d.Q=c.Q
 stop:d.stop=c.stop
 mem:d.mem=c.mem
 prog:d.prog=c.prog
 halt:d.halt=c.halt
 r:d.r=c.r
 Y:∃p,d.Y=c.Y++p∧ey L p∧∀x∈p,x.kind=1
 Z:dv c.Z d.Z
 ZH:(yH c.Y:Int)<c.U.o->(yH d.Y:Int)>=c.U.o->fi c.Z+1<=fi d.Z
theorem SR.refl(L:Nat)(c:Co):SR L c c:=⟨rfl,rfl,rfl,rfl,rfl,rfl,rfl,rfl,rfl,rfl,rfl,⟨[],(dY _).symm,(λx d=>by cases d),(λx d=>by cases d)⟩,.refl _,λa b=>by omega⟩
theorem SR.trans{L:Nat}{a b c:Co}(h:SR L a b)(k:SR L b c):SR L a c:=by
 obtain⟨p,e,f,g⟩:=h.Y;obtain⟨q,i,j,l⟩:=k.Y;refine⟨k.U.trans h.U,k.data.trans h.data,k.C.trans h.C,k.W.trans h.W,k.M.trans h.M,k.Q.trans h.Q,k.stop.trans h.stop,k.mem.trans h.mem,k.prog.trans h.prog,k.halt.trans h.halt,k.r.trans h.r,⟨p++q,by rw[i,e,eD],pe f j,λx d=>(cx.1 d).elim (g x) (l x)⟩,h.Z.trans k.Z,λx y=>?_⟩;have m:=lp h.Z;have n:=lp k.Z;by_cases z:(yH b.Y:Int)>=a.U.o
 ·have:=h.ZH x z;omega
 have:=k.ZH (by rw[h.U];omega) (by rw[h.U];exact y);omega
def l2{L:Nat}{c:Co}{j:Nat}{e f:ai}(g:c.Z[j]?=some e)(h:f_ e f):SR L c (b0 c j f):=
 ⟨rfl,rfl,rfl,rfl,rfl,rfl,rfl,rfl,rfl,rfl,rfl,⟨[],(dY _).symm,(λx d=>by cases d),(λx d=>by cases d)⟩,.set g h,λa b=>by have b:(yH c.Y:Int)>=c.U.o:=b;omega⟩
def O3{L:Nat}{c:Co}(h:LI L c){j:Nat}{e:ai}(f:c.Z[j]?=some e)(o:ak e.i.op=3)(k:e.known=true->e.is=0):SR L c (oE c j):=by
 unfold oE;rw[f];simp only;split
 ·exact .refl L c
 ·rename_i g;have g:e.known=true:=sU g;have k:=k g;split
  ·exact l2 f (rx _ _)
  split
  ·exact .refl L c
  split
  ·exact l2 f (rx _ _)
  split
  ·exact l2 f xl
  split
  ·rename_i p;have m:(b0 (jE c 1 (ab e.V) oZ) j {e with is:=2}).Y=c.Y++[⟨1,ab e.V,max (lX c.U c.asked) 1,oZ⟩]:=rfl;have n:=h.y c.asked;refine⟨rfl,rfl,rfl,rfl,rfl,rfl,rfl,rfl,rfl,rfl,rfl,⟨_,m,λx i=>?_,λx i=>?_⟩,.set f xl,λa b=>?_⟩
   ·rw[uJ]at i;subst i;show 1<=max _ _∧max _ _<=(L:Int);omega
   ·rw[uJ]at i;subst i;rfl
   ·show fi c.Z+1<=fi (c.Z.set j _);have n:vC c.Z j=true:=by
     rw[m,nc]at b
     cases l:vC c.Z j with
     |true=>rfl
     |false=>
      have d:=p.1;unfold tA at d;rw[l,dZ dT]at d;have d:=bj d;rw[show yH [(⟨1,ab e.V,max (lX c.U c.asked) 1,oZ⟩:a5)]=1 from rfl]at b;omega
    exact xp f (L3 n) ⟨o,k⟩ (λz=>absurd z.2 (by show(2:Int)≠0;decide)) (xk rfl rfl id)
  ·exact .refl L c
def O4{agI:List ai}{r:Nat->Nat}{j:Nat}{e:ai}(a:agI[j]?=some e):mI agI r j=((lK agI r j e.i.m).getD 0,(lK agI r j e.i.x).getD 0,(lK agI r j e.i.m).isSome&&(lK agI r j e.i.x).isSome):=by unfold mI;rw[a]
def KK{e:ai}{n:Int}{a:Nat}(c:e.is=0)(q:(yC e n a).known=true):(yC e n a).is=0:=by
 unfold yC at q⊢;split at q
 ·rename_i b;rw[aa b];exact c
 rename_i b;rw[dZ b];split at q
 ·rename_i d;rw[aa d];exact c
 exact absurd (.inr (.inr q)) b
def ph(e:ai)(n:Int)(a:Nat):(yC e n a).i=e.i:=by unfold yC;(repeat' split)<;>rfl
structure Wt(e:ai):Prop where
 zero:e.is=0
 Yv:ak e.i.op=5->e.known=false
theorem LI.setE{L:Nat}{c:Co}(h:LI L c){j:Nat}{e d:ai}(o:c.Z[j]?=some e)(i:d.is=2->bn c.Y (ab d.V) 1=true)(k:hY d)(l:ak d.i.op=3->d.is≠0->d.halt=0->d.known=true)(m:Nj d=false)(n:d.K=e.K):LI L (b0 c j d):=by
 have g:∀x∈c.Z.set j d,x∈c.Z∨x=d:=λx f=>List.mem_or_eq_of_mem_set f;refine⟨h.y,h.b,λx f z=>?_,λx f=>?_,λx f=>?_,λx f=>?_,λp r=>?_,h.d,h.l⟩
 ·rcases g x f with q|rfl
  ·exact h.two x q z
  exact i z
 ·rcases g x f with q|rfl
  ·exact h.one x q
  exact k
 ·rcases g x f with q|rfl
  ·exact h.ld x q
  exact l
 ·rcases g x f with q|rfl
  ·exact h.w x q
  exact m
 have:((Go.Proofs.YtdhclfgoomldfaaGreatDoor.b0 c j d).Z.map (·.K))=c.Z.map (·.K):=by
  show(c.Z.set j d).map (·.K)=_;rw[List.map_set,n];obtain⟨a,b⟩:=Em.1 o
  conv=>rhs;rw[<- @List.set_getElem_self _ (c.Z.map (·.K)) j (by rw[aH];exact a)]
  rw[List.getElem_map,b]
 rw[this];exact h.st p r
theorem LI.ask{L:Nat}{c:Co}(h:LI L c)(k:Int)(agY:Nat)(b:k=3->ab agY+16<=c.mem.size)(d:ByteArray):LI L (jE c k agY d):=by
 have f:=h.y c.asked;refine⟨h.y,rv h.b k agY f d,λe a z=>w_ (h.two e a z),h.one,h.ld,h.w,h.st,h.d,λx hx z=>?_⟩;rcases cx.1 hx with hx|hx
 ·exact h.l x hx z
 rw[uJ]at hx;subst hx;exact b z
def P7(e:ai)(s:ByteArray)(h:hY e):hY (uM e s):=by
 unfold uM;split
 ·exact h
 intro _;exact⟨by show(1:Int)<=1;decide,by show(1:Int)<=34;decide⟩
theorem LI.load{L:Nat}{c:Co}(h:LI L c){j:Nat}{e:ai}(i:c.Z[j]?=some e)(n:ak e.i.op=3):LI L (oE c j):=by
 have k:=aB i;have m:∀l:ai,l.i=e.i->Nj l=false:=λl q=>by unfold Nj;rw[q,n];rfl
 have g:∀s,LI L (Go.Proofs.YtdhclfgoomldfaaGreatDoor.b0 c j (uM e s)):=λs=>by
  have t2:(uM e s).is=2->e.is=2∧uM e s=e:=λz=>by
   unfold uM at z⊢;split at z
   ·rename_i q;rw[aa q];exact⟨z,rfl⟩
   ·exact absurd z (by show(1:Int)≠2;decide)
  refine h.setE i (λz=>?_) (P7 e s (h.one e k)) (λa b d=>?_) (m _ ?_) ?_
  ·obtain⟨r,t⟩:=t2 z;rw[t];exact h.two e k r
  ·unfold uM at b d⊢;split at b
   ·rename_i q;rw[aa q]at d⊢;exact h.ld e k n b d
   ·rename_i q;rw[dZ q];show e.known=true
    cases z:e.known with
    |true=>rfl
    |false=>exact absurd (.inr (.inl z)) q
  ·unfold uM;split<;>rfl
  ·unfold uM;split<;>rfl
 unfold oE;rw[i];simp only;split
 ·exact h
 rename_i f;have f:e.known=true:=sU f;have o:hY {e with is:=2}:=λz=>absurd z (by show(2:Int)≠1;decide);split
 ·exact g _
 split
 ·exact h
 split
 ·exact g _
 split
 ·rename_i p;exact h.setE i (λ_=>p) o (λ_ _ _=>f) (m _ rfl) rfl
 split
 ·refine(h.ask 1 (ab e.V) (λz=>absurd z dT) oZ).setE i (λ_=>?_) o (λ_ _ _=>f) (m _ rfl) rfl;show bn (c.Y++_) (ab e.V) 1=true;rw[ln,dE];right;unfold bn;simp
 ·exact h
def N2{a:Int}(h:ak a=2):42<=a∧a<=45:=by unfold ak at h;(repeat' split at h)<;>omega
def w4{e:ai}(l:e.is=0)(m:ak e.i.op=5->e.known=false){a b:Nat}(r:a<=4294967295)(s:b<=4294967295):
  (rJ e a b).i=e.i∧(rJ e a b).K=e.K∧(rJ e a b).is≠2∧hY (rJ e a b)∧Nj (rJ e a b)=false∧(ak e.i.op≠3->ak e.i.op≠4->(rJ e a b).is=1∧(rJ e a b).left<=34)∧(ak e.i.op≠3->ak e.i.op≠4->ak e.i.op≠2->(rJ e a b).left<=3)∧(ak e.i.op=3->rJ e a b=e):=by
 have d:∀c:ai,c.i=e.i->c.known=e.known->Nj c=false:=λc n o=>by
  unfold Nj;rw[n,o];by_cases k:ak e.i.op=5
  ·rw[m k,Bool.and_false];rfl
  rw[sW k];rfl
 have f:(1:Int)≠2:=dT;unfold rJ;split
 ·rename_i h;refine⟨rfl,rfl,oT,λz=>by omega,d _ rfl rfl,λa b=>?_,λa b=>?_,λ_=>rfl⟩
  all_goals
   rcases h with h|h|h
   ·exact absurd l h
   ·exact absurd h a
   exact absurd h b
 rename_i h;have g:∀c:ai,ak e.i.op=3->c=e:=λc z=>absurd (.inr (.inl z)) h;have i:(1:Int)<=1∧(1:Int)<=34:=dT;split
 ·exact⟨rfl,rfl,f,λ_=>(by decide:(1:Int)<=3∧(3:Int)<=34),d _ rfl rfl,λ_ _=>⟨rfl,by show(3:Int)<=34;decide⟩,λ_ _ _=>by show(3:Int)<=3;decide,g _⟩
 split
 ·rename_i j;obtain⟨p,q⟩:=N2 j;have t:=Kx e.i.op a b ad ad p q;exact⟨rfl,rfl,f,λ_=>by show 1<=((eu e.i.op a b:Nat):Int)∧((eu e.i.op a b:Nat):Int)<=(34:Int);omega,d _ rfl rfl,λ_ _=>⟨rfl,by show((eu e.i.op a b:Nat):Int)<=34;omega⟩,λ_ _ z=>absurd j z,g _⟩
 split
 ·split
  all_goals (exact⟨rfl,rfl,f,λ_=>i,d _ rfl rfl,λ_ _=>⟨rfl,i.2⟩,λ_ _ _=>by show(1:Int)<=3;decide,g _⟩)
 exact⟨rfl,rfl,f,λ_=>i,d _ rfl rfl,λ_ _=>⟨rfl,i.2⟩,λ_ _ _=>by show(1:Int)<=3;decide,g _⟩
def rz{e:ai}(n:Int)(a:Nat)(b:e.is=0)(c:ak e.i.op=3∨ak e.i.op=4):
  (yC e n a).K=e.K∧(yC e n a).is≠2∧hY (yC e n a)∧Nj (yC e n a)=false∧((yC e n a).is≠0->(yC e n a).halt≠0∧(yC e n a).is=3)∧((yC e n a).is=0->(yC e n a).known=true):=by
 have d:Nj (yC e n a)=false:=by
  unfold Nj;rw[ph,sW (by rcases c with k|k<;>rw[k]<;>decide)];rfl
 refine⟨?_,?_,?_,d,?_,?_⟩
 ·unfold yC;(repeat' split)<;>rfl
 ·unfold yC;(repeat' split)<;>first|(show e.is≠2;omega)|(show(3:Int)≠2;decide)
 ·intro z;unfold yC at z;(repeat' split at z)<;>first|omega|(exact absurd z (by show(3:Int)≠1;decide))|(have z:e.is=1:=z;omega)
 ·unfold yC;split
  ·intro z;exact absurd b z
  split
  ·intro z;exact absurd b z
  intro _;refine⟨?_,rfl⟩;show(if ak e.i.op=4 then(5:Int)else 4)≠0;split<;>decide
 unfold yC;split
 ·rename_i h;intro _;rcases h with h|h|h
  ·rcases c with k|k
   ·exact absurd k h.1
   exact absurd k h.2
  ·exact absurd b h
  exact h
 split
 ·intro _;rfl
 intro z;exact absurd z (by show(3:Int)≠0;decide)
def wu{L:Nat}{prog:List Nat}{c:Co}{s:St}{n:Nat}(h:LI L c)(hI:Iv prog c s)(o:c.I n){j:Nat}(A:Rd c.Z c.r j):LI L (iS c j)∧SR L c (iS c j):=by
 unfold iS;split
 ·exact⟨h,.refl L c⟩
 ·rename_i e b;obtain⟨l,G,r4,H⟩:=A e b;have y:=jf hI.ri.ok b;have m:ak e.i.op=5->e.known=false:=λk=>by
   cases z:e.known with
   |false=>rfl
   |true=>have:=(y.Zf k z).1;omega
  obtain⟨w,x⟩:=Cj o.ok.Z8 o.ok.r j;have f:∀a,(ak e.i.op=3∨ak e.i.op=4)->LI L (b0 c j (yC e c.mem.size a)):=λa d=>by
   obtain⟨p,r,t,u,v,E⟩:=rz c.mem.size a l d;exact h.setE b (λz=>absurd z r) t (λ_ C D=>absurd D (v C).1) u p
  split
  ·rename_i d;exact⟨f _ (.inr d),l2 b (w8 _ _ _)⟩
  split
  ·rename_i d;have hA:=f (mI c.Z c.r j).1 (.inl d);have g:(b0 c j (yC e c.mem.size (mI c.Z c.r j).1)).Z[j]?=some (yC e c.mem.size (mI c.Z c.r j).1):=aZ (Em.1 b).1;have i:ak (yC e c.mem.size (mI c.Z c.r j).1).i.op=3:=by rw[ph];exact d
   exact⟨hA.load g i,(l2 b (w8 _ _ _)).trans (O3 hA g i λq=>KK l q)⟩
  ·obtain⟨s1,aq,s3,dj,ea,cq,eb,I⟩:=w4 l m w x;rename_i F B;refine⟨h.setE b (λz=>absurd z s3) dj (λk _ _=>?_) ea aq,l2 b (Mn (λk z=>by rw[m k]at z;cases z) _ _)⟩;rw[s1]at k;exact absurd k B
theorem o9{L:Nat}{prog:List Nat}{s:St}:∀(p:List Nat) {c:Co} {n:Nat},LI L c->Iv prog c s->c.mc->c.I n->n+p.length<=890000->p.Nodup->(∀i∈p,Rd c.Z c.r i)->LI L (p.foldl iS c)∧SR L c (p.foldl iS c)∧∀i,i ∉ p->(p.foldl iS c).Z[i]?=c.Z[i]?
 |[],c,_,h,_,_,_,_,_,_=>⟨h,.refl L c,λ_ _=>rfl⟩
 | j::p,c,n,h,hI,r,o,x,g,f=>by
  obtain⟨t,u,E,v,k⟩:=hI.start r (f j b9);obtain⟨y,A⟩:=wu h hI o (f j b9);rw[List.nodup_cons]at g;rw[bN]at x;obtain⟨B,C,D⟩:=o9 p y t u (yY o ad j).1 ad g.2 λi a=>by
   have b:=f i (bY _ a);rw[v];rcases k with ⟨_,q⟩|⟨e,w,m,q,d,l⟩
   ·rw[q];exact b
   ·rw[q];exact my m d l (λz=>g.1 (by rw[z];exact a)) b
  refine⟨B,A.trans C,λi a=>?_⟩;show(p.foldl iS (iS c j)).Z[i]?=_;rw[dk,not_or]at a;rw[D i a.2];rcases k with ⟨_,q⟩|⟨e,w,m,q,d,l⟩
  ·rw[q]
  ·rw[q,kX (λz=>a.1 z.symm)]
def ng{c:Co}:∀i∈h9 c.U.k (c.Z.any IE) (Fi c) (Kv c),Rd c.Z c.r i:=by
 obtain⟨d,f⟩:=oq (agN:=c.U.k) (busy:=c.Z.any IE) (kinds:=Fi c) (can:=Kv c) (Kv c).length;refine λi e=>wc ?_;obtain⟨a,b⟩:=d i e;unfold Kv at a b;rw[aH,fV]at a;rw[aR,aX,eZ a]at b;exact b
def rk{c:Co}{n:Nat}(a:c.I n):(h9 c.U.k (c.Z.any IE) (Fi c) (Kv c)).length<=1000:=by
 have:=Fv (agN:=c.U.k) (busy:=c.Z.any IE) (kinds:=Fi c) (can:=Kv c) (Kv c).length;have b:(Kv c).length=c.Z.length:=by unfold Kv;rw[aH,fV]
 have:=a.Z;unfold h9;omega
def o7{c:Co}:(h9 c.U.k (c.Z.any IE) (Fi c) (Kv c)).Nodup:=(oq (agN:=c.U.k) (busy:=c.Z.any IE) (kinds:=Fi c) (can:=Kv c) (Kv c).length).2
theorem LI.Zo{L:Nat}{prog:List Nat}{c:Co}{s:St}{n:Nat}(h:LI L c)(hI:Iv prog c s)(e:c.mc)(d:c.I n)(f:n+1000<=890000):LI L (gY c)∧SR L c (gY c):=by
 unfold gY;split
 ·exact⟨h,.refl L c⟩
 have g:=rk d;obtain⟨a,b,_⟩:=o9 _ h hI e d ad o7 ng;exact⟨a,b⟩
theorem wv{agN:Int}{busy:Bool}{kinds:List Int}{can:List Bool}{r:List Nat}{k:Nat}(h:∃t,(kA agN busy kinds can k).out=r++t):∀j,∃t,(kA agN busy kinds can (k+j)).out=r++t
 |0=>h
 |j+1=>by
  obtain⟨t,a⟩:=wv h j;show ∃t,(IW agN kinds (kA agN busy kinds can (k+j)) (k+j) _).out=_;unfold IW;split
  ·exact⟨t,a⟩
  split
  ·exact⟨t,a⟩
  split
  ·exact⟨t,a⟩
  ·exact⟨t++[k+j],by show _++_=_;rw[a,eD]⟩
def KW{agN:Int}{busy:Bool}{kinds:List Int}{can:List Bool}(d:1<=agN)(a:can.getD 0 false=true)(c:0<can.length)(hb:busy=false∨Cx kinds 0≠2):∃t,h9 agN busy kinds can=0::t:=by
 unfold h9;obtain⟨m,b⟩:∃m,can.length=1+m:=⟨can.length-1,oT⟩;rw[b];refine wv (r:=[0]) (k:=1) ⟨[],?_⟩ m;show(IW agN kinds ⟨[],busy,false⟩ 0 (can.getD 0 false)).out=_;unfold IW;rw[dZ (by show ¬agN<=((0:Nat):Int);omega),a,dZ dT,dZ]
 ·rfl
 unfold RF;rcases hb with hb|hb
 ·simp[hb]
 have:rM (Cx kinds 0)≠1:=by unfold rM;rw[dZ hb];split<;>decide
 simp[this]
theorem rl{agN:Int}{kinds:List Int}{can:List Bool}:∀n,(∀i∈(kA agN true kinds can n).out,Cx kinds i≠2)∧(kA agN true kinds can n).t1=true
 |0=>⟨(λi h=>by cases h),rfl⟩
 | n+1=>by
  obtain⟨b,a⟩:=rl (agN:=agN) (kinds:=kinds) (can:=can) n;unfold kA IW;split
  ·exact⟨b,a⟩
  split
  ·exact⟨b,a⟩
  split
  ·exact⟨b,a⟩
  ·rename_i c;refine⟨λi hi=>?_,by show((kA agN true kinds can n).t1||_)=true;rw[a];rfl⟩;rcases cx.1 hi with hi|hi
   ·exact b i hi
   ·rw[uJ]at hi;subst hi;intro z;apply c;unfold RF;rw[z,a];rfl
theorem xb{prog:List Nat}{s:St}:∀(p:List Nat) {c:Co},Iv prog c s->c.mc->p.Nodup->(∀i∈p,Rd c.Z c.r i)->(∀i∈p,∀e,c.Z[i]?=some e->ak e.i.op≠2)->∀x∈(p.foldl iS c).Z,IE x=true->x∈c.Z
 |[],c,_,_,_,_,_,x,o,_=>o
 | j::p,c,hI,w,g,v,u,x,o,d=>by
  obtain⟨y,A,C,B,m⟩:=hI.start w (v j b9);rw[List.nodup_cons]at g;have:=xb p y A g.2 (λi f=>by
   have k:=v i (bY _ f);rw[B];rcases m with ⟨_,q⟩|⟨e,r,b,q,a,n⟩
   ·rw[q];exact k
   ·rw[q];exact my b a n (λz=>g.1 (by rw[z];exact f)) k) (λi f e b=>by
   have h:=u i (bY _ f);rcases m with ⟨_,q⟩|⟨t,r,l,q,a,n⟩
   ·rw[q]at b;exact h e b
   ·rw[q,kX (λz=>g.1 (by rw[z];exact f))]at b;exact h e b) x o d
  rcases m with ⟨_,q⟩|⟨t,r,l,q,a,n⟩
  ·rw[q]at this;exact this
  ·rw[q]at this;rcases List.mem_or_eq_of_mem_set this with z|rfl
   ·exact z
   ·unfold IE at d;rw[a]at d;simp only[aP,aY]at d;exact absurd d.1 (u j b9 t l)
def K5(a:Int)(f:Ft)(prog:List Nat):(qB a f prog).K=f.K∧(qB a f prog).known=false∧((qB a f prog).is=0∨(qB a f prog).is=3∧(qB a f prog).halt≠0):=by
 unfold qB;split
 ·exact⟨rfl,rfl,.inr ⟨rfl,by show(1:Int)≠0;decide⟩⟩
 split
 ·exact⟨rfl,rfl,.inr ⟨rfl,by show(2:Int)≠0;decide⟩⟩
 split
 ·exact⟨rfl,rfl,.inr ⟨rfl,by show(6:Int)≠0;decide⟩⟩
 split
 ·exact⟨rfl,rfl,.inr ⟨rfl,by show(7:Int)≠0;decide⟩⟩
 exact⟨rfl,rfl,.inl rfl⟩
structure MR(L:Nat)(c d:Co):Prop where
 U:d.U=c.U
 data:d.data=c.data
 W:d.W=c.W
 mem:d.mem=c.mem
 prog:d.prog=c.prog
 halt:d.halt=c.halt
 Y:∃p,d.Y=c.Y++p∧ey L p∧∀x∈p,x.kind=1∨x.kind=2
 Z:dv c.Z d.Z
 ZH:(yH c.Y:Int)<c.U.o->(yH d.Y:Int)>=c.U.o->fi c.Z+1<=fi d.Z
theorem MR.trans{L:Nat}{a b c:Co}(h:MR L a b)(k:MR L b c):MR L a c:=by
 obtain⟨p,e,f,g⟩:=h.Y;obtain⟨q,i,j,l⟩:=k.Y;refine⟨k.U.trans h.U,k.data.trans h.data,k.W.trans h.W,k.mem.trans h.mem,k.prog.trans h.prog,k.halt.trans h.halt,⟨p++q,by rw[i,e,eD],pe f j,λx d=>(cx.1 d).elim (g x) (l x)⟩,h.Z.trans k.Z,λx y=>?_⟩;have m:=lp h.Z;have n:=lp k.Z;by_cases z:(yH b.Y:Int)>=a.U.o
 ·have:=h.ZH x z;omega
 have:=k.ZH (by rw[h.U];omega) (by rw[h.U];exact y);omega
theorem SR.mr{L:Nat}{c d:Co}(h:SR L c d):MR L c d:=by
 obtain⟨p,b,e,f⟩:=h.Y;exact⟨h.U,h.data,h.W,h.mem,h.prog,h.halt,⟨p,b,e,λx a=>.inl (f x a)⟩,h.Z,h.ZH⟩
theorem MR.still{L:Nat}{c d:Co}(g:d.U=c.U)(h:d.data=c.data)(i:d.W=c.W)(j:d.mem=c.mem)(k:d.prog=c.prog)(l:d.halt=c.halt)(f:d.Y=c.Y)(m:dv c.Z d.Z):MR L c d:=
 ⟨g,h,i,j,k,l,⟨[],by rw[f,dY],(λx e=>by cases e),(λx e=>by cases e)⟩,m,λa b=>by rw[f]at b;omega⟩
theorem MR.refl(L:Nat)(c:Co):MR L c c:=.still rfl rfl rfl rfl rfl rfl rfl (.refl _)
theorem LI.Y6{L:Nat}:∀(n:Nat) {c:Co},LI L c->LI L (kV n c)∧MR L c (kV n c)∧(kV n c).M=c.M∧(kV n c).stop=c.stop∧(kV n c).C=c.C∧(∀x∈(kV n c).Z,IE x=true->x∈c.Z)∧(kV n c).Y=c.Y∧∃t,(kV n c).Z=c.Z++t
 |0,c,h=>⟨h,.refl L c,rfl,rfl,rfl,λ_ e _=>e,rfl,[],(dY _).symm⟩
 | n +1,c,h=>by
  unfold kV;split
  ·exact⟨h,.refl L c,rfl,rfl,rfl,λ_ e _=>e,rfl,[],(dY _).symm⟩
  split
  ·exact⟨h,.refl L c,rfl,rfl,rfl,λ_ e _=>e,rfl,[],(dY _).symm⟩
  ·rename_i f l B;obtain⟨v,w,y⟩:=K5 c.next f c.prog;have g:∀x∈c.Z++[qB c.next f c.prog],x∈c.Z∨x=qB c.next f c.prog:=λx e=>(cx.1 e).imp id λz=>uJ.1 z;have A:LI L {c with Z:=c.Z++[qB c.next f c.prog],next:=wrap64 (c.next+1),Q:=l}:=by
    refine⟨h.y,h.b,λx e z=>?_,λx e=>?_,λx e a b d=>?_,λx e=>?_,λC D=>?_,h.d,h.l⟩
    ·rcases g x e with q|rfl
     ·exact h.two x q z
     ·omega
    ·rcases g x e with q|rfl
     ·exact h.one x q
     ·intro z;omega
    ·rcases g x e with q|rfl
     ·exact h.ld x q a b d
     ·rcases y with q|q
      ·exact absurd q b
      ·exact absurd d q.2
    ·rcases g x e with q|rfl
     ·exact h.w x q
     ·unfold Nj;rw[w,Bool.and_false];rfl
    ·have:=h.st C D;rw[B]at this;show ∃z,((c.Z++[qB c.next f c.prog]).map (·.K)++l.map (·.K)).getLast?=some z∧_;rw[dH,eD];show ∃z,(c.Z.map (·.K)++((qB c.next f c.prog).K::l.map (·.K))).getLast?=some z∧_;rw[v];exact this
   obtain⟨j,k,m,o,p,r,u,t,s⟩:=LI.Y6 n A;refine⟨j,MR.trans (b:={c with Z:=c.Z++[qB c.next f c.prog],next:=wrap64 (c.next+1),Q:=l}) (.still rfl rfl rfl rfl rfl rfl rfl (dv.YN _ _)) k,m,o,p,λx e i=>?_,u,[qB c.next f c.prog]++t,?_⟩
   ·rcases g x (r x e i)with q|rfl
    ·exact q
    ·unfold IE at i;simp only[aP,aY]at i;omega
   ·rw[s];show(c.Z++[_])++t=_;rw[eD]
def KX{n:Nat}{c:Co}(b:0<n)(e:c.Z=[])(g:2<=c.U.Z)(a:c.Q≠[]):(kV n c).Z≠[]:=by
 cases n with
 |zero=>cases b
 | succ n=>
  unfold kV;rw[dZ (by rw[e];show ¬((0:Nat):Int)>=c.U.Z;omega)];split
  ·rename_i h;exact absurd h a
  ·rename_i f l i;have:∀(n:Nat) (d:Co),d.Z≠[]->(kV n d).Z≠[]:=λn=>by
    induction n with
    |zero=>exact λ_ h=>h
    |succ n ih=>
     intro d h;unfold kV;split
     ·exact h
     split
     ·exact h
     ·exact ih _ (by simp)
   exact this n _ (by simp)
def rR{c:Co}{b:Bool}(h:tA c b=true):(yH c.Y:Int)<c.U.o∧(b=false->(yH c.Y:Int)<c.U.o-1):=by
 unfold tA at h;split at h
 ·rename_i q;have:=bj h;exact⟨this,λz=>by rw[z]at q;cases q⟩
 have:=bj h;exact⟨oT,λ_=>this⟩
theorem LI.same{L:Nat}{c d:Co}(h:LI L c)(e:d.U=c.U)(b:d.Y=c.Y)(a:d.Z=c.Z)(g:d.data=c.data)(i:d.mem=c.mem)(j:d.halt=0->d.stop=true->∃f,(d.Z.map (·.K)++d.Q.map (·.K)).getLast?=some f∧(ek d.prog f).isSome=false):LI L d:=
 ⟨by rw[e];exact h.y,by rw[b];exact h.b,by rw[b,a];exact h.two,by rw[a];exact h.one,by rw[a];exact h.ld,by rw[a];exact h.w,j,by rw[g];exact h.d,by rw[b,i];exact h.l⟩
def NV{L:Nat}{c:Co}(h:LI L c)(f:tA c false=true)(agY:Nat):MR L c (jE c 2 agY oZ):=by
 have g:=h.y c.asked;have e:(jE c 2 agY oZ).Y=c.Y++[⟨2,agY,max (lX c.U c.asked) 1,oZ⟩]:=rfl;refine⟨rfl,rfl,rfl,rfl,rfl,rfl,⟨_,e,λx d=>?_,λx d=>?_⟩,.refl _,λa b=>?_⟩
 ·rw[uJ]at d;subst d;show 1<=max _ _∧max _ _<=(L:Int);omega
 ·rw[uJ]at d;subst d;exact .inr rfl
 rw[e,nc,show yH [(⟨2,agY,max (lX c.U c.asked) 1,oZ⟩:a5)]=1 from rfl]at b;have:=(rR f).2 rfl;omega
def rm(c:Co)(w:Nat):(dM c w).1.U=c.U∧(dM c w).1.Y=c.Y∧(dM c w).1.Z=c.Z∧(dM c w).1.data=c.data∧(dM c w).1.mem=c.mem∧(dM c w).1.W=c.W∧(dM c w).1.prog=c.prog∧(dM c w).1.halt=c.halt∧(dM c w).1.stop=c.stop∧(dM c w).1.Q=c.Q:=by
 unfold dM;(repeat' split)<;>exact⟨rfl,rfl,rfl,rfl,rfl,rfl,rfl,rfl,rfl,rfl⟩
theorem LI.Zc{L:Nat}:∀(n:Nat) {c:Co},LI L c->LI L (eL n c)∧MR L c (eL n c)∧(eL n c).Z=c.Z∧(c.Q≠[]->(eL n c).Q≠[])
 |0,c,h=>⟨h,.refl L c,rfl,id⟩
 | n+1,c,h=>by
  unfold eL;split
  ·exact⟨h,.refl L c,rfl,id⟩
  rename_i s;split
  ·rename_i u;refine⟨h.same rfl rfl rfl rfl rfl λ_ _=>⟨c.M,?_,u⟩,.still rfl rfl rfl rfl rfl rfl rfl (.refl _),rfl,λ_=>by simp⟩;show(c.Z.map (·.K)++(c.Q++[(⟨c.M,b8 c.M⟩:Ft)]).map (·.K)).getLast?=_;rw[dH, <-eD];exact List.getLast?_concat
  split
  ·split
   ·rename_i q;exact⟨h.ask 2 _ (λz=>absurd z dT) _,NV h q.2 _,rfl,id⟩
   ·exact⟨h,.refl L c,rfl,id⟩
  ·obtain⟨b,d,a,e,f,i,j,k,l,g⟩:=rm {c with C:=tO c.C (ab c.M)} (bf c.prog c.M);generalize dM {c with C:=tO c.C (ab c.M)} (bf c.prog c.M)=z at b d a e f i j k l g⊢;have t:LI L (LU z.1 z.2):=h.same b d a e f λ_ v=>absurd (.inl (l ▸ v)) s;obtain⟨m,o,p,r⟩:=LI.Zc n t;exact⟨m,MR.trans (b:=LU z.1 z.2) (.still b e i f j k d (by show dv c.Z z.1.Z;rw[a];exact .refl _)) o,p.trans a,λ_=>r (by show z.1.Q++_≠[];simp)⟩
def K6{L n:Nat}{c:Co}(h:LI L c)(p:0<n)(a:c.Q=[])(k:c.stop=false)(s:1<=c.U.queue):(eL n c).Q≠[]∨((bK c.C (ab c.M)).2.isSome=false∧(eL n c).Q=[]∧(eL n c).M=c.M∧(eL n c).Y=if bn c.Y (ab c.M) 2=false∧tA c false=true then c.Y++[⟨2,ab c.M,max (lX c.U c.asked) 1,oZ⟩]else c.Y):=by
 cases n with
 |zero=>cases p
 | succ n=>
  unfold eL;rw[dZ (by rw[k,a];show ¬(false=true∨((0:Nat):Int)>=c.U.queue);simp;omega)];split
  ·exact .inl (by show c.Q++_≠[];simp)
  split
  ·rename_i r;refine .inr ⟨r,?_⟩;split
   ·exact⟨a,rfl,rfl⟩
   ·exact⟨a,rfl,rfl⟩
  ·obtain⟨b,e,f,g,i,l,m,o,j,d⟩:=rm {c with C:=tO c.C (ab c.M)} (bf c.prog c.M);generalize dM {c with C:=tO c.C (ab c.M)} (bf c.prog c.M)=z at b e f g i l m o j d⊢;refine .inl ((LI.Zc n (c:=LU z.1 z.2) (h.same b e f g i λ_ q=>?_)).2.2.2 (by show z.1.Q++_≠[];simp));have q:z.1.stop=true:=q;rw[j]at q;have q:c.stop=true:=q;rw[k]at q;cases q
def KY{d:Ca}(c:cd d)(b:j5 d)(agY:Nat):j5 (wB d agY):=λw e=>by
 rcases(vy c w).1 e with ⟨u,a,_,rfl⟩|⟨a,_⟩
 ·exact b u a
 exact b w a
theorem LI.ZA{L:Nat}{c:Co}(h:LI L c)(f:cd c.data)(n:c.mem.size%16=0)(o:∀p∈c.W,kZ c.mem.size p.V p.data.size=true):LI L (tY c):=by
 have b:LI L (aW c)∧cd (aW c).data:=by
  have:j5 (sL c.W c.data).2.1∧cd (sL c.W c.data).2.1:=by
   unfold sL;split
   ·exact⟨h.d,f⟩
   split
   ·rename_i q;exact⟨L4 f h.d q,f.write _ _⟩
   exact⟨h.d,f⟩
  exact⟨⟨h.y,h.b,h.two,h.one,h.ld,h.w,h.st,this.1,h.l⟩,this.2⟩
 have i:∀d:Co,LI L d->cd d.data->LI L (nP d):=λd g f=>by
  unfold nP;split
  ·exact g
  unfold pE;split
  ·split
   ·have e:=g.ask 4 (by assumption:Wy).R (λz=>absurd z dT) (by assumption:Wy).data;exact⟨e.y,e.b,e.two,e.one,e.ld,e.w,e.st,KY f g.d _,e.l⟩
   exact g
  exact g
 unfold tY;split
 ·exact i _ b.1 b.2
 rename_i p l hp;split
 ·exact i _ b.1 b.2
 refine i _ ?_ ?_
 ·unfold tW;split
  ·exact b.1
  rename_i m r k;split
  ·refine b.1.ask 3 _ (λ_=>?_) _;rw[i4];refine r7 n (o m ?_);have:∀x∈(aW c).W,x∈c.W:=λx a=>by
    have a:x∈(sL c.W c.data).1:=a;unfold sL at a;split at a
    ·exact a
    rename_i j;rw[j];split at a
    ·exact bY _ a
    have a:x∈c.W:=a;rw[j]at a;exact a
   exact this m (by rw[k];exact b9)
  exact b.1
 unfold tW;(repeat' split)<;>exact b.2
def HM(L s:Nat):Nat:=s*L+L+70
def h6(L s:Nat)(c:Co)(e:ai):Nat:=
 if e.is=3 then 0 else if e.is=1 then e.left.toNat else if e.is=2 then d' (ab e.V) 1 c.Y
 else if ak e.i.op=3 then
  (if c.W=[]∧e.known=true then
   (if bn c.Y (ab e.V) 1=true then s*L+1 else if bn c.Y (ab e.V) 3=true then 1+d' (ab e.V) 3 c.Y else s*L+1+dz L c.Y)
  else s*L+L+2)
 else if ak e.i.op=4 then(if e.known=true then 1 else 2)
 else if ak e.i.op=2 then 35+bl c.Z
 else 4
def fm(L s:Nat)(c:Co):Nat:=
 match c.Z with
 |e::_=>h6 L s c e
 | []=>match c.Q with
  |_::_=>HM L s+1
  |[]=>if c.W≠[]then HM L s+3+2*(s*L)
   else if bn c.Y (ab c.M) 2=true then HM L s+2+d' (ab c.M) 2 c.Y
   else HM L s+3+s*L+cj c_ c.Y
def kD(L s:Nat)(st:List Pt)(q:List a5):Nat:=
 match st with
 |[]=>0
 |p::l=>l.length*(s*L+2*L+1)+(if bn q (ab p.V) 3=true then d' (ab p.V) 3 q else s*L+L+dz L q+1)
def i6(L s:Nat)(c:Co):Nat:=cj dg c.Y+L*dm c.Y+L*(8-fi c.Z)+kD L s c.W c.Y
def ip(L s:Nat)(c:Co):Nat:=i6 L s c+fm L s c
def xc{L s:Nat}{q:List a5}(a:ey L q)(d:cj c_ q<=s*L)(st:List Pt):kD L s st q<=st.length*(s*L+2*L+1):=by
 unfold kD;split
 ·exact aE _
 rename_i p l;have b:=nl a;have c:=kw (ab p.V) 3 q;rw[bN,cG];split<;>omega
def N3{L s:Nat}{q:List a5}(a:ey L q)(b:cj c_ q<=s*L)(p:Pt)(l:List Pt):kD L s l q<=l.length*(s*L+2*L+1):=xc a b l
def ki{L s:Nat}{q:List a5}(a:ey L q)(h:yH q<=s):cj c_ q<=s*L:=aL (OT a) (eF L h)
def rp{p:List a5}{f:a5->Bool}(h:∀x∈p,f x=false):cj f p=0:=by
 induction p with
 |nil=>rfl
 |cons x l ih=>unfold cj;rw[dZ (by rw[h x b9];decide),ih λy a=>h y (bY _ a)]
def rT{p:List a5}{agY:Nat}{k:Int}(h:∀x∈p,x.kind≠k):bn p agY k=false:=by
 unfold bn;rw[List.any_eq_false];intro x a;simp[h x a]
def r0{p:List a5}(h:∀x∈p,x.kind≠3):dm p=0:=by
 unfold dm;rw[List.length_eq_zero_iff,List.filter_eq_nil_iff];intro x a;simp[h x a]
def K0{p:List a5}(h:∀x∈p,x.kind=4):yH p=0:=by
 unfold yH;rw[List.length_eq_zero_iff,List.filter_eq_nil_iff];intro x a;simp[h x a]
def pa(c:Co):(lM c).W=c.W∧(lM c).U=c.U∧(lM c).M=c.M∧(lM c).Q=c.Q∧(lM c).stop=c.stop∧(lM c).halt=c.halt∧(lM c).r=c.r∧(lM c).prog=c.prog∧(lM c).mem.size=c.mem.size:=by
 unfold lM ID;generalize eH c.Y=t;obtain⟨q,x,ok⟩:=t;simp only
 (repeat' split)<;>first|exact⟨rfl,rfl,rfl,rfl,rfl,rfl,rfl,rfl,rfl⟩|(unfold oK;exact⟨rfl,rfl,rfl,rfl,rfl,rfl,rfl,rfl,rfl⟩)|exact⟨rfl,rfl,rfl,rfl,rfl,rfl,rfl,rfl,iY _ _⟩
inductive jz(L:Nat)(c d:Co):Prop
 |none (h:c.Y=[]) (h1:d.Y=[]) (s:d.Z=c.Z∧d.C=c.C∧d.data=c.data)
 |write (w:cj dg d.Y+1<=cj dg c.Y) (r:cj c_ d.Y=cj c_ c.Y) (d3:dm d.Y=dm c.Y) (n:yH d.Y=yH c.Y) (f:dz L d.Y=dz L c.Y) (p:∀agY k,k≠4->d' agY k d.Y=d' agY k c.Y∧bn d.Y agY k=bn c.Y agY k) (s:d.Z=c.Z∧d.C=c.C∧d.data=c.data)
 |read (w:cj dg d.Y=cj dg c.Y) (r:cj c_ d.Y+1=cj c_ c.Y) (d3:dm d.Y=dm c.Y) (n:yH d.Y=yH c.Y) (n0:0<yH c.Y) (f:dz L d.Y+1=dz L c.Y) (p:∀agY k,d' agY k d.Y+1=d' agY k c.Y∧bn d.Y agY k=bn c.Y agY k) (s:d.Z=c.Z∧d.C=c.C∧d.data=c.data)
 | done (x:a5) (k4:x.kind≠4) (w:cj dg d.Y+L*dm d.Y<=cj dg c.Y+L*dm c.Y) (r:cj c_ d.Y+1=cj c_ c.Y) (n:yH d.Y+1=yH c.Y) (f:dz L c.Y=1)
   (p:∀agY k,k≠4->en agY k x=false->bn d.Y agY k=bn c.Y agY k∧(bn c.Y agY k=true->d' agY k d.Y+1=d' agY k c.Y)) (z:∀agY k,en agY k x=true->bn c.Y agY k=true)
   (one:x.kind=1->∃e,d.Z=c.Z.map (wO e x.R)) (agI:x.kind≠1->d.Z=c.Z) (agO:x.kind=2->d.C=(qZ c.C x.R oZ false).1) (words2:x.kind≠2->d.C=c.C) (three:x.kind=3->∃w,ck d.data w∧w.R=ab x.R)
theorem jz.Y8{L:Nat}{c d:Co}(h:jz L c d):d.Z=c.Z∨∃x e,(∀agY,x.R=agY->en agY 1 x=true)∧d.Z=c.Z.map (wO e x.R):=by
 cases h with
 |none _ _ s=>exact .inl s.1
 |write _ _ _ _ _ _ s=>exact .inl s.1
 |read _ _ _ _ _ _ _ s=>exact .inl s.1
 | done x _ _ _ _ _ _ _ one agI=>
  by_cases k:x.kind=1
  ·obtain⟨e,a⟩:=one k;exact .inr ⟨x,e,λl q=>by unfold en;simp[q,k],a⟩
  ·exact .inl (agI k)
theorem jz.Y_{L:Nat}{c d:Co}(h:jz L c d)(agY:Nat){k:Int}(f:k≠4):bn d.Y agY k=bn c.Y agY k∨bn c.Y agY k=true∧(k=2->∃x,en agY 2 x=true∧d.C=(qZ c.C x.R oZ false).1)∧(k=3->∃w,ck d.data w∧w.R=ab agY):=by
 cases h with
 |none a b=>rw[a,b];exact .inl rfl
 |write _ _ _ _ _ p=>exact .inl (p _ k f).2
 |read _ _ _ _ _ _ p=>exact .inl (p _ k).2
 | done v _ _ _ _ _ p cs _ _ b4 _ bb=>
  cases e:en agY k v with
  |false=>exact .inl (p _ k f e).1
  |true=>
   refine .inr ⟨cs _ _ e,λq=>⟨v,q ▸ e,b4 ?_⟩,λq=>?_⟩<;>(unfold en at e;simp only[aP,aY]at e)
   ·exact e.2.trans q
   ·rw[<-e.1];exact bb (e.2.trans q)
def xr{agY:Nat}{k:Int}{x:a5}(a:k≠4)(h:c_ x=false):en agY k x=false:=by
 unfold c_ at h;unfold en;have:x.kind=4:=sU h;simp[this];intro _ z;exact a z.symm
def pj(x:a5):dg x= !c_ x:=by unfold dg c_;by_cases h:x.kind=4<;>simp[h]
def xd{L:Nat}(M:L<=8){c:Co}(h:LI L c)(v:c.mc):jz L c (lM c):=by
 have B:=xj M h.b;unfold lM;generalize eH c.Y=t at B
 cases B with
 |none b x=>
  exact .none b (show([]:List a5)=[]from rfl) ⟨rfl,rfl,rfl⟩
 | go x r b K y=>
  have i:∀agY k,en agY k {x with left:=x.left-1}=en agY k x:=λ_ _=>rfl;have D:c_ {x with left:=x.left-1}=c_ x:=rfl;have p:dg {x with left:=x.left-1}=dg x:=rfl;by_cases a:c_ x=true
  ·have g:dg x=false:=by rw[pj,a];rfl
   refine .read ?_ ?_ ?_ ?_ ?_ ?_ (λagY k=>⟨?_,by rw[b];rfl⟩) ⟨rfl,rfl,rfl⟩<;>rw[b]<;>simp[cj,dz,d',o_,lj,D,p,i,a,g]<;>omega
  ·have a:c_ x=false:=sU a;have g:dg x=true:=by rw[pj,a];rfl
   have E: ¬c_ x=true:=by rw[a];decide
   refine .write ?_ ?_ ?_ ?_ ?_ (λagY k m=>⟨?_,by rw[b];rfl⟩) ⟨rfl,rfl,rfl⟩<;>rw[b]<;>simp[cj,dz,d',o_,lj,D,p,i,a,g];omega
 | done x r b K=>
  show jz L c (ID {c with Y:=r} {x with left:=0});by_cases a:c_ x=true
  ·have g:dg x=false:=by rw[pj,a];rfl
   have s:x.kind≠4:=by unfold c_ at a;simpa using a
   have j:∀d:Co,(∃w,d.Y=r++w∧(∀y∈w,y.kind=4)∧cj dg w<=(if x.kind=3 then L else 0))->(x.kind=1->∃e,d.Z=c.Z.map (wO e x.R))->(x.kind≠1->d.Z=c.Z)->(x.kind=2->d.C=(qZ c.C x.R oZ false).1)->(x.kind≠2->d.C=c.C)->(x.kind=3->∃w,ck d.data w∧w.R=ab x.R)->jz L c d:=λd ⟨w,d1,d2,d3⟩ F G H I J=>by
    have P:cj c_ w=0:=rp λy f=>by unfold c_;rw[d2 y f];rfl
    have Q:dm w=0:=r0 λy f=>by rw[d2 y f];decide
    have wr:yH w=0:=K0 d2;have O:x.left.toNat=1:=oT;refine .done x s ?_ ?_ ?_ ?_ ?_ ?_ F G H I J
    ·rw[b,d1,nf,pb,Q,o_];show _<=(if dg x=true then x.left.toNat else 0)+cj dg r+_;rw[g];split at d3
     ·rename_i z;rw[aa z];have e:L*(1+dm r)=L+L*dm r:=by rw[Nat.mul_add,iD]
      rw[e];simp only[iU,cS,eE];omega
     ·rename_i z;rw[dZ z];simp only[iU,bJ,cS,eE];omega
    ·rw[b,d1,nf,P];show _=(if c_ x=true then x.left.toNat else 0)+cj c_ r;rw[aa a];omega
    ·rw[b,d1,nc,wr,lj,aa a];omega
    ·rw[b];unfold dz;rw[aa a];exact O
    ·intro agY k m i;have p:bn w agY k=false:=rT λy f=>by rw[d2 y f];exact λz=>m z.symm
     have e:bn c.Y agY k=bn r agY k:=by rw[b,o',i];rfl
     refine⟨by rw[d1,ln,p,Bool.or_false,e],λz=>?_⟩;rw[e]at z;rw[d1,pd z,b];show _=(if c_ x=true then x.left.toNat else 0)+(if en agY k x=true then 0 else d' agY k r);rw[aa a,i];simp only[cS,eE];omega
    ·intro agY k i;rw[b,o',i];rfl
   have nil:∃w,r=r++w∧(∀y∈w,(y:a5).kind=4)∧cj dg w<=(if x.kind=3 then L else 0):=⟨[],(dY _).symm,(λy f=>by cases f),aE _⟩;unfold ID;split
   ·rename_i z;have z:x.kind=1:=z;exact j _ nil (λ_=>⟨_,rfl⟩) (λq=>absurd z q) (λq=>by omega) (λ_=>rfl) (λq=>by omega)
   rename_i n;have n:x.kind≠1:=n;split
   ·rename_i z;have z:x.kind=2:=z;exact j _ nil (λq=>absurd q n) (λ_=>rfl) (λ_=>rfl) (λq=>absurd z q) (λq=>by omega)
   rename_i u;have u:x.kind≠2:=u;split
   ·rename_i z;have z:x.kind=3:=z;have o:=h.l x (by rw[b];exact b9) z;have N:=wK (q:=r) (lX c.U c.asked) v.g v.al o h.d;have C:=j0 {c with Y:=r} x.R;refine j _ ?_ (λq=>absurd q n) (λ_=>C.2.2.1) (λq=>absurd q u) (λ_=>C.2.2.2.2.1) (λ_=>N.2);rcases pk {c with Y:=r} x.R with ⟨q,_⟩|⟨l,d,q,_⟩
    ·exact⟨[],by rw[dY];exact q,(λy f=>by cases f),aE _⟩
    ·have R:=h.y c.asked;refine⟨_,q,λy f=>by rw[uJ]at f;subst f;rfl,?_⟩;rw[aa z];show(if dg _=true then(max (lX c.U c.asked) 1).toNat else 0)+0<=L;split<;>omega
   rename_i A;have A:x.kind≠3:=A;exact j _ nil (λq=>absurd q n) (λ_=>rfl) (λq=>absurd q u) (λ_=>rfl) (λq=>absurd q A)
  ·have a:c_ x=false:=sU a;have g:dg x=true:=by rw[pj,a];rfl
   have E: ¬c_ x=true:=by rw[a];decide
   have s:x.kind=4:=by unfold c_ at a;simpa using a
   unfold ID;rw[dZ (by show ¬x.kind=1;omega),dZ (by show ¬x.kind=2;omega),dZ (by show ¬x.kind=3;omega),aa s];refine .write ?_ ?_ ?_ ?_ ?_ (λagY k m=>⟨?_,by rw[b,o',xr m a];rfl⟩) ⟨rfl,rfl,rfl⟩<;>rw[b]<;>simp[cj,dz,d',o_,lj,a,g,s]
   ·omega
   ·intro z;rw[xr m a]at z;cases z
def ww{e:Co}(g:e.halt=0):(tY e).Z=e.Z∧(tY e).Q=e.Q∧(tY e).M=e.M∧(tY e).halt=e.halt∧(tY e).U=e.U∧
    ((e.W=[]∧(tY e).W=[]∧(tY e).Y=e.Y)∨∃p l,e.W=p::l∧
      (((xL e.data p.V p.data).2=true∧(tY e).W=l∧(tY e).Y=e.Y)∨
       ((xL e.data p.V p.data).2=false∧(tY e).W=p::l∧(tY e).Y=if bn e.Y (ab p.V) 3=false∧tA e true=true then e.Y++[⟨3,ab p.V,max (lX e.U e.asked) 1,oZ⟩]else e.Y))):=by
  have f:∀d:Co,d.halt=0->nP d=d:=λd k=>aa (.inr k);unfold tY;split
  · rename_i a
    rw[f (aW e) g];refine⟨rfl,rfl,rfl,rfl,rfl,.inl ⟨a,?_,rfl⟩⟩;show(sL e.W e.data).1=[];rw[a];rfl
  rename_i p l a;have b:sL e.W e.data=if(xL e.data p.V p.data).2=true then(l,(xL e.data p.V p.data).1,true)else(e.W,e.data,false):=by rw[a];rfl
  by_cases c:(xL e.data p.V p.data).2=true
  · rw[aa c]at b
    rw[aa (by rw[b]),f (aW e) g];refine⟨rfl,rfl,rfl,rfl,rfl,.inr ⟨p,l,a,.inl ⟨c,?_,rfl⟩⟩⟩;show(sL e.W e.data).1=l;rw[b]
  rw[dZ c]at b;rw[dZ (by rw[b];simp)];have i:aW e=e:=by unfold aW;rw[b]
  rw[i];have j:tW e=if bn e.Y (ab p.V) 3=false∧tA e true=true then jE e 3 (ab p.V) oZ else e:=by unfold tW;rw[a]
  rw[j];split
  · rename_i h
    rw[f (jE e 3 (ab p.V) oZ) g];exact⟨rfl,rfl,rfl,rfl,rfl,.inr ⟨p,l,a,.inr ⟨sU c,a,(aa h).symm⟩⟩⟩
  rename_i h;rw[f e g];exact⟨rfl,rfl,rfl,rfl,rfl,.inr ⟨p,l,a,.inr ⟨sU c,a,(dZ h).symm⟩⟩⟩
def N0{L:Nat}(b:1<=L){q:List a5}(a:ey L q):1<=dz L q:=by
 induction q with
 |nil=>exact b
 |cons x l ih=>
  have h:=a x b9;unfold dz;split
  ·omega
  ·exact ih λy c=>a y (bY _ c)
def M1{L a b:Nat}(h:a<=b):L*(8-b)<=L*(8-a):=Nat.mul_le_mul_left L ad
def M2{L a b:Nat}(h:a+1<=b)(c:b<=8):L*(8-b)+L<=L*(8-a):=by
 have:L*(8-b)+L=L*(8-b+1):=by rw[Nat.mul_add,iD]
 rw[this];exact Nat.mul_le_mul_left L ad
structure sm(L:Nat)(c d e:Co):Prop where
 W:e.W=c.W
 data:e.data=d.data
 U:e.U=c.U
 halt:e.halt=0
 Y:∃p,e.Y=d.Y++p∧ey L p∧∀x∈p,x.kind=1∨x.kind=2
 st:fi c.Z<=fi e.Z
 ZH:(yH d.Y:Int)<c.U.o->(yH e.Y:Int)>=c.U.o->fi c.Z+1<=fi e.Z
 YI:fi e.Z<=8
def K1{L s:Nat}{c d e:Co}(h:LI L c)(C:LI L e)(I:jz L c d)(i:sm L c d e)(h1:1<=L)(hs:c.U.o=(s:Int))(aq:2<=s)(az:yH c.Y<=s)(ap:yH e.Y<=s)(hg:cd e.data)(hp:∀p∈c.W,kZ e.mem.size p.V p.data.size=true):
  i6 L s (tY e)<=i6 L s c∧(c.W≠[]->i6 L s (tY e)+1<=i6 L s c)∧(cj dg d.Y+1<=cj dg c.Y->dm d.Y=dm c.Y->i6 L s (tY e)+1<=i6 L s c):=by
 obtain⟨p,t,m2,U⟩:=i.Y;obtain⟨r1,_,_,_,_,hD⟩:=ww i.halt;have p4:cj dg p=0:=rp λx j=>by unfold dg;rcases U x j with k|k<;>rw[k]<;>rfl
 have p3:dm p=0:=r0 λx j=>by rcases U x j with k|k<;>rw[k]<;>decide
 have ph:∀agY,bn p agY 3=false:=λagY=>rT λx j=>by rcases U x j with k|k<;>rw[k]<;>decide
 have E:cj dg e.Y=cj dg d.Y:=by rw[t,nf,p4];rfl
 have D:dm e.Y=dm d.Y:=by rw[t,pb,p3];rfl
 have hw:cj dg d.Y+L*dm d.Y<=cj dg c.Y+L*dm c.Y:=by
  cases I with
  |none a b=>rw[a,b];exact aC _
  |write w r d3=>rw[d3];omega
  |read w r d3=>rw[d3,w];exact aC _
  |done x k4 w=>exact w
 have aA:=M1 (L:=L) i.st;have ar:=ki C.b ap;unfold i6;rw[r1];rcases hD with ⟨Q,R,a3⟩|⟨q,l,Q,R⟩
 ·
  have H:c.W=[]:=i.W ▸ Q;rw[R,a3,H,E,D];refine⟨?_,λz=>absurd rfl z,λz1 Z=>?_⟩
  ·show _+kD L s [] _<=_+kD L s [] _;show _+0<=_+0;omega
  ·show _+0+1<=_+0;rw[Z];omega
 ·have H:c.W=q::l:=i.W ▸ Q;have aj:kD L s (q::l) c.Y=l.length*(s*L+2*L+1)+(if bn c.Y (ab q.V) 3=true then d' (ab q.V) 3 c.Y else s*L+L+dz L c.Y+1):=rfl;have av:1<=(if bn c.Y (ab q.V) 3=true then d' (ab q.V) 3 c.Y else s*L+L+dz L c.Y+1):=by
   split
   ·rename_i z;exact xi dT h.b z
   ·omega
  have S:∀{A B:Nat},A+1<=B->A<=B∧(c.W≠[]->A+1<=B)∧(cj dg d.Y+1<=cj dg c.Y->dm d.Y=dm c.Y->A+1<=B):=λz=>⟨aL (fF _) z,λ_=>z,λ_ _=>z⟩;refine S ?_;rw[H,aj];rcases R with ⟨V,W,m⟩|⟨V,W,m⟩
  ·have:=N3 C.b ar q l;rw[W,m,E,D];omega
  ·
   have u:bn e.Y (ab q.V) 3=bn d.Y (ab q.V) 3:=by rw[t,ln,ph,Bool.or_false]
   have ak:∀O,kD L s (q::l) O=l.length*(s*L+2*L+1)+(if bn O (ab q.V) 3=true then d' (ab q.V) 3 O else s*L+L+dz L O+1):=λ_=>rfl;rw[W,ak];have P:∀w,ck e.data w->w.R=ab q.V->False:=λw z1 Z=>by
    have:=J' hg C.d (hp q (by rw[H];exact b9)) z1 Z;rw[this]at V;cases V
   by_cases g:bn d.Y (ab q.V) 3=true
   ·
    rw[m,dZ (λz=>by rw[u,g]at z;exact absurd z.1 dT),u,aa g,t,pd g, <-t,E,D]
    cases I with
    |none a b=>rw[b]at g;cases g
    |write w r d3 n f p=>
     obtain⟨N,F⟩:=p (ab q.V) 3 dT
     rw[<-F,aa g,N,d3];omega
    |read w r d3 n n0 f p=>
     obtain⟨N,F⟩:=p (ab q.V) 3
     rw[<-F,aa g,d3,w];omega
    | done x k4 w r n f p z one agI ag G v=>
     cases j:en (ab q.V) 3 x with
     |true=>
      unfold en at j;simp only[aP,aY]at j;obtain⟨y,X,Y⟩:=v j.2
      exact(P y (by rw[i.data];exact X) (by rw[Y,j.1,i4])).elim
     |false=>
      obtain⟨N,F⟩:=p (ab q.V) 3 dT j;have J:=N ▸ g;have:=F J;rw[aa J];omega
   ·have g:bn d.Y (ab q.V) 3=false:=sU g;have J:bn c.Y (ab q.V) 3=false:=by
     rcases I.Y_ (ab q.V) (k:=3) dT with z|⟨_,_,z⟩
     ·exact z ▸ g
     ·obtain⟨y,X,Y⟩:=z rfl;exact(P y (by rw[i.data];exact X) (Y.trans (i4 _))).elim
    rw[dZ (show ¬bn c.Y (ab q.V) 3=true by rw[J];decide)];have al:=nl C.b;have ax:=nl h.b;by_cases K:bn e.Y (ab q.V) 3=false∧tA e true=true
    ·
     rw[aa K]at m;have M:=(rR K.2).1;rw[i.U,hs]at M;have ai:ey L (tY e).Y:=by rw[m];exact rv C.b 3 _ (C.y _) _
     have ao:yH (tY e).Y<=s:=by
      rw[m,nc,show yH [(⟨3,ab q.V,max (lX e.U e.asked) 1,oZ⟩:a5)]=1 from rfl];omega
     have an:bn (tY e).Y (ab q.V) 3=true:=by
      rw[m,ln,dE];right;unfold bn;simp
     have ay:=aL (kw (ab q.V) 3 (tY e).Y) (ki ai ao);have h3:dm (tY e).Y=dm d.Y+1:=by rw[m,pb,D];rfl
     have h4:cj dg (tY e).Y=cj dg d.Y:=by rw[m,nf,E];rfl
     have T:L*(dm d.Y+1)=L*dm d.Y+L:=by rw[Nat.mul_add,iD]
     have aw:1<=dz L c.Y:=N0 h1 h.b;rw[aa an,h3,h4,T];omega
    ·
     rw[dZ K]at m;have au:s<=yH e.Y:=by
      have:tA e true=false:=by
       cases z:tA e true with
       |false=>rfl
       |true=>exact absurd ⟨u.trans g,z⟩ K
      unfold tA at this;rw[aa rfl]at this;have:=aF this;rw[i.U,hs]at this;omega
     rw[m,u,dZ (by rw[g];decide),E,D];have o:yH d.Y<s->L*(8-fi e.Z)+L<=L*(8-fi c.Z):=λz=>M2 (i.ZH ad ad) i.YI
     cases I with
     |none a b=>
      have:=o (by rw[b];show 0<s;omega);have f0:dz L c.Y=L:=by rw[a];rfl
      rw[a,b]at *
      rw[f0];omega
     | write w r d3 n f p=>
      have am:dz L e.Y<=dz L c.Y:=by
       by_cases z:0<yH d.Y
       ·rw[t,r9 z,f];exact aC _
       ·rw[O0 (q:=c.Y) ad];exact al
      rw[d3];omega
     |read w r d3 n n0 f p=>
      have am:dz L e.Y+1=dz L c.Y:=by rw[t,r9 ad];exact f
      rw[d3,w];omega
     |done x k4 w r n f p z one agI ag G v=>
      have:=o ad;rw[f];omega
def N4{mode:Int}(d:mode=0∨mode=1∨mode=2){e:ai}{l:List ai}:Pr mode (e::l) 0=true:=by
 unfold Pr;rw[cP];simp only;split
 ·rfl
 split
 ·rfl
 rename_i b;split
 ·rw[rC];intro a _;unfold IC gX;have:(if a<1∨a>31 then none else h8 (e::l) a (min 0 (e::l).length))=none:=by
   split
   ·rfl
   rw[Nat.zero_min];rfl
  rw[this];rfl
 rename_i c;rw[aa ad];unfold vC;simp
def M'{prog:List Nat}{T:St}{e:ai}(h:dn prog T e)(a:e.is≠3):(0<=e.i.m∧e.i.m<32)∧(0<=e.i.x∧e.i.x<32):=by
 by_cases hp:gy prog e.K
 ·have:=IK (bf prog e.K);rw[h.ins hp];exact⟨⟨this.2.2.1,this.2.2.2.1⟩,⟨this.2.2.2.2.1,this.2.2.2.2.2.1⟩⟩
 exact absurd (h.Zx hp).1 a
def xe{c:Co}{e:ai}{l:List ai}(i:c.Z=e::l)(h:c.U.mode=0∨c.U.mode=1∨c.U.mode=2)(m:e.is=0)(d:0<=e.i.m∧e.i.m<32)(f:0<=e.i.x∧e.i.x<32)(g:ak e.i.op=4->e.known=false):DN c 0=true:=by
 unfold DN;rw[i,cP];simp only;have a:=N4 (mode:=c.U.mode) h (e:=e) (l:=l);have b:=rr (agI:=e::l) (r:=c.r) d;have j:=rr (agI:=e::l) (r:=c.r) f;rw[dZ ad];split
 ·rw[b,a];simp
 split
 ·rename_i k;rw[g k,b,a];rfl
 rw[a,O4 (e:=e) (by rfl),b,j];rfl
def M3{c:Co}{e:ai}{l:List ai}(b:c.Z=e::l)(a:DN c 0=true):(Kv c).getD 0 false=true∧0<(Kv c).length∧Cx (Fi c) 0=ak e.i.op:=by
 unfold Kv Fi Cx;rw[b];refine⟨?_,by simp,rfl⟩;rw[bN,List.range_succ_eq_map];exact a
theorem xf{agN:Int}{busy:Bool}{kinds:List Int}{can:List Bool}:∀n,(∀i∈(kA agN busy kinds can n).out,rM (Cx kinds i)=2->(kA agN busy kinds can n).t2=true)∧(∀i∈(kA agN busy kinds can n).out,∀j∈(kA agN busy kinds can n).out,rM (Cx kinds i)=2->rM (Cx kinds j)=2->i=j)
 |0=>⟨(λi h=>by cases h),(λi h=>by cases h)⟩
 | n +1=>by
  obtain⟨a,b⟩:=xf (agN:=agN) (busy:=busy) (kinds:=kinds) (can:=can) n;unfold kA IW;split
  ·exact⟨a,b⟩
  split
  ·exact⟨a,b⟩
  split
  ·exact⟨a,b⟩
  ·rename_i f;have e:rM (Cx kinds n)=2->(kA agN busy kinds can n).t2=false:=λz=>by
    cases q:(kA agN busy kinds can n).t2 with
    |false=>rfl
    |true=>exact absurd (by unfold RF;rw[z,q];rfl) f
   refine⟨λi hi z=>?_,λi hi j hj c d=>?_⟩
   ·show((kA agN busy kinds can n).t2||_)=true;rcases cx.1 hi with hi|hi
    ·rw[a i hi z];rfl
    ·rw[uJ]at hi;subst hi;rw[z];simp
   ·rcases cx.1 hi with hi|hi<;>rcases cx.1 hj with hj|hj
    ·exact b i hi j hj c d
    ·rw[uJ]at hj;subst hj;have:=a i hi c;rw[e d]at this;cases this
    ·rw[uJ]at hi;subst hi;have:=a j hj d;rw[e c]at this;cases this
    ·rw[uJ]at hi hj;rw[hi,hj]
def M4{c:Co}{j:Nat}(h:∀e,c.Z[j]?=some e->ak e.i.op≠3):(iS c j).Y=c.Y:=by
 unfold iS;split
 ·rfl
 rename_i e a;split
 ·rfl
 split
 ·rename_i k;exact absurd k (h e a)
 rfl
theorem xn{prog:List Nat}{s:St}:∀(p:List Nat) {c:Co},Iv prog c s->c.mc->p.Nodup->(∀i∈p,Rd c.Z c.r i)->(∀i∈p,∀e,c.Z[i]?=some e->ak e.i.op≠3)->(p.foldl iS c).Y=c.Y
 |[],_,_,_,_,_,_=>rfl
 | j::p,c,hI,o,d,n,m=>by
  obtain⟨r,t,x,u,k⟩:=hI.start o (n j b9);rw[List.nodup_cons]at d;show(p.foldl iS (iS c j)).Y=_;rw[xn p r t d.2 (λi b=>by
   have g:=n i (bY _ b);rw[u];rcases k with ⟨_,q⟩|⟨e,v,a,q,h,l⟩
   ·rw[q];exact g
   ·rw[q];exact my a h l (λz=>d.1 (by rw[z];exact b)) g) (λi b e a=>by
   have f:=m i (bY _ b);rcases k with ⟨_,q⟩|⟨y,v,w,q,h,l⟩
   ·rw[q]at a;exact f e a
   ·rw[q,kX (λz=>d.1 (by rw[z];exact b))]at a;exact f e a)]
  exact M4 (m j b9)
def K7{L:Nat}{prog:List Nat}{c:Co}{s:St}{n:Nat}(h:LI L c)(hI:Iv prog c s)(I:c.mc)(u:c.I n)(hb:n+1001<=890000)(hh:c.halt=0){e:ai}{l:List ai}(T:c.Z=e::l)(U:1<=c.U.k)(S:DN c 0=true)(E:c.Z.any IE=false∨ak e.i.op≠2):
  (gY c).Z[0]?=(iS c 0).Z[0]? ∧∃p,(gY c).Y=(iS c 0).Y++p∧ey L p∧(∀x∈p,x.kind=1)∧(ak e.i.op=3->p=[]):=by
 obtain⟨O,c2,B⟩:=M3 T S;obtain⟨t,J⟩:=KW (busy:=c.Z.any IE) U O c2 (by rw[B];exact E.imp id λz=>by omega);have H:=rk u;have a:=o7 (c:=c);have d:=ng (c:=c);have r:gY c=(h9 c.U.k (c.Z.any IE) (Fi c) (Kv c)).foldl iS c:=dZ ad;rw[J]at H a d r;rw[List.nodup_cons]at a;rw[bN]at H;obtain⟨w,y,a3,N,A⟩:=hI.start I (d 0 b9);obtain⟨V,l2⟩:=wu h hI u (d 0 b9);have g:∀i∈t,Rd (iS c 0).Z (iS c 0).r i:=λi f=>by
  have j:=d i (bY _ f);rw[N];rcases A with ⟨_,q⟩|⟨e,P,F,q,o,D⟩
  ·rw[q];exact j
  rw[q];exact my F o D (λz=>a.1 (by rw[z];exact f)) j
 obtain⟨r1,Z,r3⟩:=o9 t V w y (yY u ad 0).1 ad a.2 g;rw[r];show(t.foldl iS (iS c 0)).Z[0]?=_∧∃p,(t.foldl iS (iS c 0)).Y=_∧_;refine⟨r3 0 a.1,?_⟩;by_cases M:ak e.i.op=3
 ·refine⟨[],?_,(λx v=>by cases v),(λx v=>by cases v),λ_=>rfl⟩;rw[dY];refine xn t w y a.2 g λi f C b k=>?_;have Q:rM (Cx (Fi c) 0)=2:=by rw[B,M];rfl
  have m:0≠i:=λz=>a.1 (by rw[z];exact f);have G:c.Z[i]?=some C:=by
   rcases A with ⟨_,q⟩|⟨e,P,F,q,o,D⟩
   ·rw[q]at b;exact b
   rw[q,kX m]at b;exact b
  have R:rM (Cx (Fi c) i)=2:=by
   unfold Cx Fi;rw[aR,aX,G];show rM ((ak C.i.op:Nat):Int)=2;rw[k];rfl
  have:=(xf (agN:=c.U.k) (busy:=c.Z.any IE) (kinds:=Fi c) (can:=Kv c) (Kv c).length).2;have K:(kA c.U.k (c.Z.any IE) (Fi c) (Kv c) (Kv c).length).out=0::t:=J;rw[K]at this;exact m (this 0 b9 i (bY _ f) Q R)
 obtain⟨p,W,X,Y⟩:=Z.Y;exact⟨p,W,X,Y,λz=>absurd z M⟩
def K8{L:Nat}{prog:List Nat}{c:Co}{s:St}{n:Nat}(h:LI L c)(hI:Iv prog c s)(g:c.mc)(f:c.I n)(j:n+1001<=890000){e:ai}{l:List ai}(i:c.Z=e::l)(a:e.is≠0∨(c.Z.any IE=true∧ak e.i.op=2)):(gY c).Z[0]?=some e:=by
 have b:c.Z[0]?=some e:=by rw[i];rfl
 unfold gY;split
 ·exact b
 have m:=rk f;rw[(o9 _ h hI g f ad o7 ng).2.2 0 λd=>?_,b];rcases a with a|⟨a,k⟩
 ·exact a (ng 0 d e b).1
 rw[a]at d;have:=(rl (agN:=c.U.k) (kinds:=Fi c) (can:=Kv c) (Kv c).length).1 0 d;apply this;unfold Cx Fi;rw[i];show((ak e.i.op:Nat):Int)=2;rw[k];rfl
def K9{c:Co}{a:ai}{l:List ai}(j:c.Z=a::l)(m:c.halt=0):∃x g d,(kK c).Z={x with N:=g}::d∧SE (a0 a) x∧(ak a.i.op=4->(a0 a).known=true->(a0 a).is=0->0<=a.i.x∧a.i.x<32->x.is=3):=by
 obtain⟨x,d,h,e,b⟩:=ws (r:=c.r) (e:=a0 a) (l:=l.map a0) l.length;have f:br c=x::d:=by unfold br;rw[j];exact h
 rw[(kx a).2.1]at b;unfold kK;rw[dZ ad];split
 ·rename_i i n;show ∃y g k,dl (br c) i=_∧_;rw[f];unfold dl
  cases i with
  |zero=>exact⟨x,x.next,[],rfl,e,b⟩
  |succ i=>
   rw[dL];split
   ·exact⟨x,x.N,_,rfl,e,b⟩
   ·exact⟨x,x.N,d,rfl,e,b⟩
 ·exact⟨x,x.N,d,f,e,b⟩
def N5{c:Co}(a:cd c.data){agY:Nat}{w:Wy}(b:ck c.data w)(e:w.R=ab agY):Kt c agY=true:=by
 unfold Kt;rw[nm a b e];rfl
def M5{c:Ca}(d:cd c){agY:Nat}(i:agY<=4294967295):(bK (qZ c agY oZ false).1 (ab agY)).2.isSome=true:=by
 have a:cd (qZ c agY oZ false).1:=d.put i _ _;by_cases b:(bK c agY).2.isSome=true
 ·have e:(qZ c agY oZ false).1=tO c agY:=by
   rw[Cn b,Dw b];show rK c _ (kR _ _)=_;congr 1
   cases eY (pF c (bK c agY).1) ((bK c agY).2.getD 0)with
   |nil=>rfl
   |cons w l=>show _::l=w::l;congr 1;show({w with data:=_,Z':=_}:Wy)=w;rw[aa dT,Bool.or_false]
  obtain⟨w,_,f,g⟩:=mu d b;exact nm a (w:=w) (by rw[e];exact(ou d _).2 f) (by rw[g,i4])
 ·rcases si d (sU b) oZ false with ⟨_,h⟩|⟨_,_,h⟩
  ·exact nm a ((h _).2 (.inl rfl)) (by rw[i4])
  ·exact nm a ((h _).2 (.inl rfl)) (by rw[i4])
structure ko(L s:Nat)(prog:List Nat)(T:St)(n:Nat)(c:Co):Prop where
 L1:1<=L
 L8:L<=8
 hs:c.U.o=(s:Int)
 s2:2<=s
 li:LI L c
 mc:c.mc
 ok:c.I n
 nb:n+2000<=890000
 iv:Iv prog c T
 hh:c.halt=0
 sr:∀p∈c.W,kZ c.mem.size p.V p.data.size=true
 rd:yH c.Y<=s
 Z:c.Z.length<=8
theorem ko.two{L s:Nat}{prog:List Nat}{T:St}{n:Nat}{c:Co}(h:ko L s prog T n c):∀e∈c.Z,e.is=2->ak e.i.op=3∧e.known=true:=λe a z=>by
 obtain⟨k,b⟩:=List.getElem?_of_mem a;exact(jf h.iv.ri.ok b).Y z
structure Wk(L s:Nat)(prog:List Nat)(T:St)(n:Nat)(c w:Co):Prop where
 li:LI L w
 mc:w.mc
 ok:w.I (n+1)
 iv:Iv prog w T
 hh:w.halt=0
 tk:jz L c (lM c)
 Y:w.Y=(lM c).Y
 data:w.data=(lM c).data
 W:w.W=c.W
 U:w.U=c.U
 C:w.C=(lM c).C
 mem:w.mem.size=c.mem.size
 Yw:dv c.Z w.Z
 rd:yH w.Y<=s
theorem ko.ZN{L s:Nat}{prog:List Nat}{T:St}{n:Nat}{c:Co}(h:ko L s prog T n c):Wk L s prog T n c (kK (lM c)):=by
 have C:=h.li.ZL h.L8 h.mc h.two;have kD:=lW h.mc h.ok.ok.a;have B:=h.iv.ZL h.mc h.ok.ok.a;have Q:=LH h.ok (oH h.nb);obtain⟨P,nw⟩:=B.ZN;have tk:=xd h.L8 h.li h.mc;obtain⟨t1,t2,t3,t4,t5,t6,t7,t8,t9⟩:=pa c;obtain⟨D,U,F,G,V,b6,W,X,b9⟩:=nd (lM c);have O:yH (lM c).Y<=s:=by
  have:=h.rd
  cases tk with
  |none a b=>rw[b];exact aE _
  |write w r d3 n=>omega
  |read w r d3 n=>omega
  |done x cs w r n=>omega
 have t:dv c.Z (lM c).Z:=by
  rcases tk.Y8 with q|⟨x,e,_,q⟩
  ·rw[q];exact .refl _
  ·rw[q];exact dv.map (L_ e x.R) _
 refine⟨C.ZN nw,ef kD.mc F D G,LJ Q,P,(V.trans t6).trans h.hh,tk,D,F,X.trans t1,U.trans t2,W,by rw[G];exact t9,t.trans ?_,by rw[D];exact O⟩;have hN:NW (lM c).Z:=C.w;have hv:=Ky (lM c);unfold kK;split
 ·exact .refl _
 split
 ·rename_i i J;show dv _ (dl (br (lM c)) i);unfold yD at J;obtain⟨K,d,_⟩:=List.findIdx?_eq_some_iff_getElem.1 J;have p:(br (lM c))[i]?=some (br (lM c))[i]:=aA K;generalize (br (lM c))[i]=e at p d;have E:dl (br (lM c)) i=(br (lM c)).take i++[{e with N:=e.next}]:=by unfold dl;rw[p]
  obtain⟨y,g,S⟩:=ku (show(bt (lM c).r ((lM c).Z.map a0) (lM c).Z.length)[i]?=some e from p);rw[aX]at g
  cases l:(lM c).Z[i]? with
  |none=>rw[l]at g;cases g
  | some bb=>
   rw[l]at g;injection g with g;subst g;have M:ak e.i.op=5∧e.known=true∧e.next≠e.N:=by
    unfold Nj at d;simp only[aP,aY]at d;exact⟨d.1.1,d.1.2,d.2⟩
   have H:=kx bb;have m:ak bb.i.op=5:=by rw[<-H.2.1, <-S.i];exact M.1
   have ee:=S.no (by rw[H.2.1,m];decide);have A:LT bb=false:=by
    cases q:bb.known with
    |true=>
     have I:=jf B.ri.ok l;have h3:=(I.Zf m q).1;have Y:a0 bb=bb:=by unfold a0;rw[aa ad]
     have:=hN bb (aB l)
     rw[ee,Y]at d;rw[d]at this;cases this
    |false=>
     unfold LT;split
     ·rfl
     split
     ·rfl
     rw[aa (.inr (.inr m))];exact q
   refine dv.of λk x hx hs=>?_;have ab:k<=i:=by
    rcases fk i k with q|q
    ·have:bb∈(lM c).Z.take k:=aB (i:=i) (by rw[cU,aa q];exact l);rw[hs bb this]at A;cases A
    ·exact q
   rw[E];obtain⟨f,o,R⟩:∃f,(br (lM c))[k]?=some f∧f_ x f:=by
    have j:k<(br (lM c)).length:=oT;refine⟨_,aA j,?_⟩;generalize hq:(br (lM c))[k]=f;have N:(br (lM c))[k]?=some f:=by rw[aA j,hq]
    obtain⟨y,u,v⟩:=ku (show(bt (lM c).r ((lM c).Z.map a0) (lM c).Z.length)[k]?=some f from N);rw[aX,hx]at u;injection u with u;subst u;exact(xq x).trans (.of v.i v.halt (λw=>v.known.trans w) (λw=>v.is.elim (λbb=>bb ▸ w) (λbb=>by omega)))
   rcases fk k i with q|q
   ·exact⟨f,by rw[cF (by rw[aM];omega),cU,aa q];exact o,R⟩
   ·have Z:k=i:=oT;subst Z;rw[p]at o;injection o with o;subst o;refine⟨{e with N:=e.next},by rw[bM (by rw[aM];omega),aM,(oT:k-min k (br (lM c)).length=0)];rfl,R.trans (.of rfl rfl id id)⟩
 ·exact hv
def xv{L:Nat}{c:Co}(h:LI L c):bl c.Z<=34:=np λe b a=>by
 have:e.is=1:=by unfold IE at a;simp only[aP,aY]at a;exact a.2
 have:=h.one e b this;omega
def xt{L s:Nat}{f:Co}{e:ai}(a:ey L f.Y)(c:yH f.Y<=s)(b:hY e)(g:bl f.Z<=34):h6 L s f e<=HM L s:=by
 have d:=ki a c;have hp:=λagY k=>aL (kw agY k f.Y) d;have h:=nl a;have i:=hp (ab e.V) 1;have j:=hp (ab e.V) 3;unfold h6 HM;split
 ·omega
 split
 ·rename_i z;have:=b z;omega
 split
 ·omega
 split
 ·split
  ·split
   ·omega
   split<;>omega
  omega
 split
 ·split<;>omega
 split<;>omega
structure Tl(L s:Nat)(w e4 e5 e6 f:Co):Prop where
 Yt:LI L e4
 sr:SR L w e4
 YK:LI L e6
 mr:MR L w e6
 b5:e5.Y=e4.Y
 w5:e5.C=w.C
 f5:e5.M=w.M
 t5:e5.stop=w.stop
 r5:∃t,e5.Z=e4.Z++t
 r6:e6.Z=e5.Z
 z5:∀x∈e5.Z,IE x=true->x∈e4.Z
 rf:f.Z=e6.Z
 ff:f.Q=e6.Q
 fe:f.M=e6.M
 fb:ey L f.Y
 fr:yH f.Y<=s
 Y:∃p,f.Y=e6.Y++p
 fs:(w.W=[]->f.W=[]∧f.Y=e6.Y)∧(f.W≠[]->w.W≠[])∧(f.W=[]->w.W≠[]->f.Y=e6.Y)
 q5:e5=kV w.U.k.toNat e4
 q6:e6=eL w.U.k.toNat e5
 c5:e5.U=w.U
 YD:e4.Q=w.Q
 YF:e4.Z.length=w.Z.length
 q4:e4=gY w
 YA:LI L e5
def N6{L s:Nat}{prog:List Nat}{T:St}{n:Nat}{c w:Co}(h:ko L s prog T n c)(d:Wk L s prog T n c w)(i:yH (eN (lP (gY w))).Y<=s):Tl L s w (gY w) (lP (gY w)) (eN (lP (gY w))) (tY (eN (lP (gY w)))):=by
 obtain⟨v,b⟩:=d.li.Zo d.iv d.mc d.ok (oH h.nb);have E:(gY w).halt=0:=b.halt.trans d.hh;have x:lP (gY w)=kV w.U.k.toNat (gY w):=by
  show(if(gY w).halt≠0 then _ else _)=_;rw[dZ ad,b.U]
 obtain⟨q,j,f5,t5,C,D,t,A⟩:=v.Y6 w.U.k.toNat;rw[<-x]at q j f5 t5 C D t A;have F:(lP (gY w)).halt=0:=j.halt.trans E;have y:eN (lP (gY w))=eL w.U.k.toNat (lP (gY w)):=by
  show(if(lP (gY w)).halt≠0 then _ else _)=_;rw[dZ ad,j.U,b.U]
 obtain⟨e,r,B,_⟩:=q.Zc w.U.k.toNat;rw[<-y]at e r B;have k:=(b.mr.trans j).trans r;have G:(eN (lP (gY w))).halt=0:=r.halt.trans F;obtain⟨d1,d2,d3,d4,d5,d6⟩:=ww G;have u:(eN (lP (gY w))).U.o=(s:Int):=by rw[k.U,d.U];exact h.hs
 have f:ey L (tY (eN (lP (gY w)))).Y∧yH (tY (eN (lP (gY w)))).Y<=s∧(∃p,(tY (eN (lP (gY w)))).Y=(eN (lP (gY w))).Y++p)∧((w.W=[]->(tY (eN (lP (gY w)))).W=[]∧(tY (eN (lP (gY w)))).Y=(eN (lP (gY w))).Y)∧((tY (eN (lP (gY w)))).W≠[]->w.W≠[])∧((tY (eN (lP (gY w)))).W=[]->w.W≠[]->(tY (eN (lP (gY w)))).Y=(eN (lP (gY w))).Y)):=by
  have nil:∃p,(eN (lP (gY w))).Y=(eN (lP (gY w))).Y++p:=⟨[],(dY _).symm⟩;rcases d6 with ⟨a,m,o⟩|⟨p,l,a,⟨m,o,g⟩|⟨m,o,g⟩⟩
  ·rw[o];have a:w.W=[]:=k.W ▸ a;exact⟨e.b,i,nil,λ_=>⟨m,rfl⟩,λz=>absurd m z,λ_ _=>rfl⟩
  ·rw[g];have a:w.W=p::l:=k.W ▸ a;exact⟨e.b,i,nil,(λz=>by rw[a]at z;cases z),(λ_=>by rw[a];simp),λ_ _=>rfl⟩
  have a:w.W=p::l:=k.W ▸ a;refine⟨?_,?_,?_,(λz=>by rw[a]at z;cases z),(λ_=>by rw[a];simp),(λz=>by rw[o]at z;cases z)⟩
  ·rw[g];split
   ·exact rv e.b 3 _ (e.y _) _
   exact e.b
  ·rw[g];split
   ·rename_i H;have:=(rR H.2).1;rw[nc,show yH [(⟨3,ab p.V,max (lX (eN (lP (gY w))).U (eN (lP (gY w))).asked) 1,oZ⟩:a5)]=1 from rfl];omega
   exact i
  rw[g];split
  ·exact⟨_,rfl⟩
  exact nil
 exact⟨v,b,e,k,t,C.trans b.C,f5.trans b.M,t5.trans b.stop,A,B,D,d1,d2,d3,f.1,f.2.1,f.2.2.1,f.2.2.2,x,y,j.U.trans b.U,b.Q,(nO d.ok (oH h.nb)).1,rfl,q⟩
abbrev Nx(L:Nat)(c d f:Co)(A B:Nat):Prop:=A<=B∧(c.W=[]->A+1<=B∨(cj dg d.Y+1<=cj dg c.Y∧dm d.Y=dm c.Y))
def gc{L:Nat}{c d f:Co}{A B:Nat}(h:A+1<=B):Nx L c d f A B:=⟨aL (fF _) h,λ_=>.inl h⟩
def K2{c:Co}(h:c.Z=[]):gY c=c:=by
 unfold gY;split
 ·rfl
 have:Kv c=[]:=by unfold Kv;rw[h];rfl
 rw[this];rfl
def K_{L s:Nat}{prog:List Nat}{T:St}{n:Nat}{c w v H V f:Co}(h:ko L s prog T n c)(hw:w=kK (lM c))(D:Wk L s prog T n c w)(d:Tl L s w v H V f)(I:c.Z=[]):Nx L c (lM c) f (fm L s f) (fm L s c):=by
 have aj:=pD D.ok.cf;obtain⟨t1,t2,t3,t4,t5,t6,t7,t8,t9⟩:=pa c;have E:(lM c).Z=[]:=by
  rcases D.tk.Y8 with q|⟨_,_,_,q⟩<;>rw[q,I];rfl
 have F:w=lM c:=by rw[hw];exact Ka E
 have O:v.Z=[]:=List.length_eq_zero_iff.1 (by rw[d.YF,F,E];rfl);have Q:0<w.U.k.toNat:=oT;have N:v.Q=c.Q:=d.YD.trans (by rw[F];exact t4);by_cases t:c.Q=[]
 ·
  have K:H=v:=by
   rw[d.q5];exact Ap (.inr (by rw[N,t];rfl))
  have P:f.Z=[]:=by rw[d.rf,d.r6,K,O]
  have Z:c.stop=false:=by
   cases q:c.stop with
   |false=>rfl
   |true=>
    obtain⟨z,z1,_⟩:=h.li.st h.hh q;rw[I,t]at z1;cases z1
  have B:fm L s c=if c.W≠[]then HM L s+3+2*(s*L)else if bn c.Y (ab c.M) 2=true then HM L s+2+d' (ab c.M) 2 c.Y else HM L s+3+s*L+cj c_ c.Y:=by
   unfold fm;rw[I,t]
  have U:v=lM c:=by rw[d.q4,F];exact K2 E
  have y:H=lM c:=K.trans U;have m:=K6 d.YA Q (by rw[y];exact t4.trans t) (by rw[y];exact t5.trans Z) (by rw[d.c5];omega);rw[<-d.q6,y,t3]at m;have Y:(lM c).U.o=(s:Int):=by rw[t2];exact h.hs
  have S:w.W=c.W:=D.W;have ag:=ki d.fb d.fr;have ai:=ki h.li.b h.rd;have am:=aL (kw (ab c.M) 2 f.Y) ag;have ak:=aL (kw (ab c.M) 2 c.Y) ai;rw[B];rcases m with m|⟨f1,f2,f3,f4⟩
  ·
   have C:fm L s f=HM L s+1:=by
    unfold fm;rw[P]
    cases i:f.Q with
    |nil=>rw[d.ff]at i;exact absurd i m
    |cons _ _=>rfl
   rw[C];refine gc ?_;split
   ·omega
   split<;>omega
  ·have C:fm L s f=if f.W≠[]then HM L s+3+2*(s*L)else if bn f.Y (ab c.M) 2=true then HM L s+2+d' (ab c.M) 2 f.Y else HM L s+3+s*L+cj c_ f.Y:=by
    unfold fm;rw[P,d.ff,f2,d.fe,f3]
   rw[C];by_cases k:c.W=[]
   ·
    obtain⟨g1,A⟩:=d.fs.1 (S.trans k);rw[dZ (show ¬f.W≠[] by rw[g1];simp),dZ (show ¬c.W≠[] by rw[k];simp)];rw[f4]at A;have M:∀x:a5,en (ab c.M) 2 x=true->(x.kind=2->(lM c).C=(qZ c.C x.R oZ false).1)->False:=λx j u=>by
     unfold en at j;simp only[aP,aY]at j;have hl:x.R<=4294967295:=by rw[j.1];exact dV h.ok.ok.M
     have:=M5 (hK.2 ⟨h.ok.C,h.ok.ok.C⟩) hl;rw[<-u j.2,j.1,i4]at this;rw[this]at f1;cases f1
    by_cases o:bn (lM c).Y (ab c.M) 2=false∧tA (lM c) false=true
    ·
     rw[aa o]at A;have hh:bn f.Y (ab c.M) 2=true:=by rw[A,ln,dE];right;unfold bn;simp
     rw[aa hh];refine gc ?_;split
     ·rename_i R;exfalso;have W:=o.1;rcases D.tk.Y_ (ab c.M) (k:=2) dT with q|⟨_,q,_⟩
      ·rw[q,R]at W;cases W
      ·obtain⟨x,x1,x2⟩:=q rfl;exact M x x1 λ_=>x2
     ·omega
    ·rw[dZ o]at A;rw[A]
     cases D.tk with
     |none a b=>
      exfalso;apply o;rw[b];refine⟨rfl,?_⟩;unfold tA;rw[dZ dT,b,Y];have:=h.s2
      exact jP (by show((0:Nat):Int)<_;omega)
     |write w r d3 n f p=>
      obtain⟨J,G⟩:=p (ab c.M) 2 dT;refine⟨?_,λ_=>.inr ⟨w,d3⟩⟩
      rw[G,J,r];exact aC _
     |read w r d3 n n0 f p=>
      obtain⟨J,G⟩:=p (ab c.M) 2;refine gc ?_;rw[G]
      split<;>omega
     | done x k4 w r n f p z one agI u al bb=>
      cases j:en (ab c.M) 2 x with
      |true=>exact(M x j u).elim
      |false=>
       obtain⟨J,G⟩:=p (ab c.M) 2 dT j;refine gc ?_;rw[J];split
       ·rename_i R;have:=G R;omega
       ·omega
   ·rw[aa (show c.W≠[]from k)];refine⟨?_,λz=>absurd z k⟩;split
    ·exact aC _
    split<;>omega
 ·
  have X:H.Z≠[]:=by
   rw[d.q5];exact KX Q O (by rw[d.sr.U];omega) (by rw[N];exact t)
  have B:fm L s c=HM L s+1:=by
   unfold fm;rw[I]
   cases i:c.Q with
   |nil=>exact absurd i t
   |cons _ _=>rfl
  rw[B];refine gc ?_
  cases i:f.Z with
  |nil=>rw[d.rf,d.r6]at i;exact absurd i X
  |cons g l=>
   have e:fm L s f=h6 L s f g:=by unfold fm;rw[i]
   rw[e];have hg:g∈V.Z:=by rw[<-d.rf,i];exact b9
   have:=xt (s:=s) d.fb d.fr (d.YK.one g hg) (by rw[d.rf];exact xv d.YK);omega
theorem wk:∀(n:Nat) (c:Co),∃p,(eL n c).Y=c.Y++p∧∀x∈p,x.kind=2
 |0,c=>⟨[],(dY _).symm,(λx a=>by cases a)⟩
 | n+1,c=>by
  have nil:∃p,c.Y=c.Y++p∧∀x∈p,(x:a5).kind=2:=⟨[],(dY _).symm,(λx a=>by cases a)⟩;unfold eL;split
  ·exact nil
  split
  ·exact nil
  split
  ·split
   ·exact⟨_,rfl,λx a=>by rw[uJ]at a;subst a;rfl⟩
   ·exact nil
  ·obtain⟨p,b,d⟩:=wk n (LU (dM {c with C:=tO c.C (ab c.M)} (bf c.prog c.M)).1 (dM {c with C:=tO c.C (ab c.M)} (bf c.prog c.M)).2);refine⟨p,b.trans ?_,d⟩;show(dM {c with C:=tO c.C (ab c.M)} (bf c.prog c.M)).1.Y++p=_;rw[(rm _ _).2.1]
def rq{w:Co}{b:ai}{l:List ai}(h:w.Z=b::l):iS w 0=if ak b.i.op=4 then b0 w 0 (yC b w.mem.size (mI w.Z w.r 0).1)else if ak b.i.op=3 then oE (b0 w 0 (yC b w.mem.size (mI w.Z w.r 0).1)) 0 else b0 w 0 (rJ b (mI w.Z w.r 0).1 (mI w.Z w.r 0).2.1):=by
 unfold iS;rw[h];rfl
def nh{w:Co}{b y:ai}{l:List ai}(h:w.Z=b::l):(b0 w 0 y).Z=y::l:=by show w.Z.set 0 y=_;rw[h];rfl
def xg{L s:Nat}{f:Co}{g:ai}{t:List ai}(h:f.Z=g::t):fm L s f=h6 L s f g:=by unfold fm;rw[h]
def r2{e:Co}{agY:Nat}{a:ai}(h: ¬(a.is=2∧ab a.V=agY)):wO e agY a=a:=dZ h
def l1{L s:Nat}{f:Co}{g:ai}(h:g.is=3):h6 L s f g=0:=aa h
def ni{L s:Nat}{f:Co}{g:ai}(h:g.is=1):h6 L s f g=g.left.toNat:=by unfold h6;rw[dZ ad,aa h]
def r_{L s:Nat}{f:Co}{g:ai}(h:g.is=2):h6 L s f g=d' (ab g.V) 1 f.Y:=by unfold h6;rw[dZ ad,dZ ad,aa h]
def na{L s:Nat}{f:Co}{g:ai}(h:g.is=0):h6 L s f g=if ak g.i.op=3 then
  (if f.W=[]∧g.known=true then
   (if bn f.Y (ab g.V) 1=true then s*L+1 else if bn f.Y (ab g.V) 3=true then 1+d' (ab g.V) 3 f.Y else s*L+1+dz L f.Y)
  else s*L+L+2)
 else if ak g.i.op=4 then(if g.known=true then 1 else 2)
 else if ak g.i.op=2 then 35+bl f.Z
 else 4:=by unfold h6;rw[dZ ad,dZ ad,dZ ad]
def N7{e:ai}{n:Int}{a:Nat}(b:e.is=0)(h:(yC e n a).is≠0):(yC e n a).known=false:=by
 unfold yC at h⊢;split at h
 ·exact absurd b h
 ·rename_i q;rw[dZ q];split at h
  ·exact absurd b h
  ·rename_i c;rw[dZ c];show e.known=false
   cases z:e.known with
   |false=>rfl
   |true=>exact absurd (.inr (.inr z)) q
def M6{e:ai}{n:Int}{a:Nat}(h:e.known=true):yC e n a=e:=aa (.inr (.inr h))
def K'{y:ai}{l:List ai}(k:ak y.i.op=3):(lL (y::l) [] 0).1=2:=by
 unfold lL;rw[cP];show(if ak y.i.op≠3 then _ else _:Int×ByteArray).1=2;rw[dZ ad];rfl
def Nl{y:ai}(k:ak y.i.op=3)(b:y.known=true)(a:y.is=0)(s:ByteArray):(uM y s).is=1∧(uM y s).left=1:=by
 unfold uM;rw[dZ (by simp[k,b,a])];exact⟨rfl,rfl⟩
def K3{L s:Nat}{prog:List Nat}{T:St}{n:Nat}{c w e4 e5 e6 f:Co}(h:ko L s prog T n c)(hw:w=kK (lM c))(A:Wk L s prog T n c w)(B:Tl L s w e4 e5 e6 f){a:ai}{l:List ai}(hr:c.Z=a::l)
  (bi:∀b bE,w.Z=b::bE->b.is=3->c.W≠[]∧ak b.i.op=4):Nx L c (lM c) f (fm L s f) (fm L s c):=by
 have bG:=pD A.ok.cf;have aw:w.U.mode=0∨w.U.mode=1∨w.U.mode=2:=oT;obtain⟨t1,t2,t3,t4,t5,t6,t7,t8,t9⟩:=pa c;have av:a∈c.Z:=by rw[hr];exact b9
 have an:dn prog T a:=by have:=h.iv.ri.ok;rw[hr]at this;exact this.1
 have bf:=h.li.one a av;rw[xg hr];obtain⟨j,a4,hD,aE,aI⟩:∃j a4,(lM c).Z=j::a4∧(a.is≠2->j=a)∧(j=a∨∃x,en (ab a.V) 1 x=true∧j.is=1∧j.left=1∧j.i=a.i):=by
  have bo:(lM c).Z=c.Z->∃j a4,(lM c).Z=j::a4∧(a.is≠2->j=a)∧(j=a∨∃x,en (ab a.V) 1 x=true∧j.is=1∧j.left=1∧j.i=a.i):=λq=>⟨a,l,q.trans hr,λ_=>rfl,.inl rfl⟩;rcases A.tk.Y8 with q|⟨x,e,c',q⟩
  ·exact bo q
  ·refine⟨wO e x.R a,_,by rw[q,hr];rfl,λq=>r2 λz=>q z.1,?_⟩;rcases sf (c:=e) (agY:=x.R) (h.two a av)with ⟨_,_,z⟩|⟨bb,W,cs,c5⟩
   ·exact .inl (r2 z)
   ·exact .inr ⟨x,c' _ W.symm,cs,c5,(l0 _ _ _).1⟩
 obtain⟨x,H,l',o,D,a_⟩:=K9 hD (t6.trans h.hh);rw[<-hw]at o;have am:0<e4.Z.length:=by rw[B.YF,o];simp
 obtain⟨g,F⟩:∃g,e4.Z[0]?=some g:=⟨_,aA am⟩;obtain⟨tt,bt⟩:∃bE,f.Z=g::bE:=by
  obtain⟨bE,ht⟩:=B.r5;rw[B.rf,B.r6,ht]
  cases C:e4.Z with
  |nil=>rw[C]at am;cases am
  |cons y da=>rw[C]at F;injection F with F;subst F;exact⟨da++bE,rfl⟩
 rw[xg bt];rw[B.q4]at F;have N:∀b:ai,w.Z=b::l'->(b.is≠0∨(w.Z.any IE=true∧ak b.i.op=2))->g=b:=λb M q=>by
  have:=K8 A.li A.iv A.mc A.ok (oH h.nb) M q;rw[this]at F;injection F with F;exact F.symm
 have al:∀b:ai,w.Z=b::l'->DN w 0=true->(w.Z.any IE=false∨ak b.i.op≠2)->(iS w 0).Z[0]?=some g∧∃p,e4.Y=(iS w 0).Y++p∧ey L p∧(∀x∈p,x.kind=1)∧(ak b.i.op=3->p=[]):=λb M U Y=>by
  have:=K7 A.li A.iv A.mc A.ok (oH h.nb) A.hh M ad U Y;rw[F]at this;rw[B.q4];exact⟨this.1.symm,this.2⟩
 have bm:=ki B.fb B.fr;have aS:=λagY k=>aL (kw agY k f.Y) bm;have bH:=nl B.fb;obtain⟨P,hP⟩:∃P,f.Y=(lM c).Y++P:=by
  obtain⟨p,p1⟩:=B.Y;obtain⟨q,U,_⟩:=B.mr.Y;exact⟨q++p,by rw[p1,U,A.Y,eD]⟩
 have bw:ak x.i.op=ak j.i.op:=by rw[D.i,(kx j).2.1]
 have a':∀k,ak j.i.op=k->ak ({x with N:=H}:ai).i.op=k:=λk q=>bw.trans q;rcases an.st with h0|h1|h2|h3
 ·
  have e1:=aE ad;subst e1;have eg:a0 j=j:=by unfold a0;rw[aa ad]
  rw[eg]at D a_;obtain⟨bc,aO⟩:=M' an ad;have bB:ak j.i.op=5->j.known=false:=λk=>by
   cases z:j.known with
   |false=>rfl
   |true=>have:=(an.Zf k z).1;omega
  obtain⟨v1,v2⟩:=Cj A.ok.ok.Z8 A.ok.ok.r 0;rw[na h0];by_cases J:ak j.i.op=4
  ·
   rw[dZ ad,aa J];have done:x.is=3->h6 L s f g=0:=λq=>l1 (by rw[N _ o (.inl (by show x.is≠0;omega))];exact q)
   cases hk:j.known with
   |true=>
    rw[aa rfl,done (a_ J hk h0 aO)]
    exact gc (aC _)
   | false=>
    rw[dZ dT];refine gc ?_;rcases D.is with q|q
    ·have ar:({x with N:=H}:ai).is=0:=q.trans h0;have hc:=xe o aw ar (by rw[show({x with N:=H}:ai).i=j.i from D.i];exact bc) (by rw[show({x with N:=H}:ai).i=j.i from D.i];exact aO) (λ_=>D.known.trans hk);have aW:ak ({x with N:=H}:ai).i.op=4:=a' 4 J;obtain⟨m,_⟩:=al _ o hc (.inr ad);rw[rq o,aa aW,nh o,cP]at m;injection m with m;obtain⟨_,_,_,_,a5,a6⟩:=rz (e:={x with N:=H}) w.mem.size (mI w.Z w.r 0).1 ar (.inr aW);rw[m]at a5 a6;by_cases gz:g.is=0
     ·have gk:ak g.i.op=4:=by rw[<-m,ph];exact aW
      rw[na gz,dZ ad,aa gk,aa (a6 gz)];omega
     ·rw[l1 (a5 gz).2];omega
    ·rw[done q];omega
  have O:=D.no J;subst O;have ar:({x with N:=H}:ai).is=0:=h0;have hc:=xe o aw ar bc aO (λq=>absurd q J);by_cases I:ak x.i.op=3
  ·
   obtain⟨m,P4,X,_,_,g3⟩:=al _ o hc (.inr (by show ak x.i.op≠2;omega));have bq:P4=[]:=g3 I;subst bq;rw[dY]at X;rw[rq o,dZ J,aa I]at m X;obtain⟨_,_,_,_,a5,a6⟩:=rz (e:={x with N:=H}) w.mem.size (mI w.Z w.r 0).1 h0 (.inl I);have aB:=N7 (e:={x with N:=H}) (n:=w.mem.size) (a:=(mI w.Z w.r 0).1) h0;have aq:=M6 (e:={x with N:=H}) (n:=w.mem.size) (a:=(mI w.Z w.r 0).1);have bp:=ph {x with N:=H} w.mem.size (mI w.Z w.r 0).1;generalize yC {x with N:=H} w.mem.size (mI w.Z w.r 0).1=y at m X a5 a6 aB aq bp;have ay:ak y.i.op=3:=by rw[bp];exact I
   have K:(b0 w 0 y).Z=y::l':=nh o;have bM:2<=s*L:=cJ h.s2 h.L1;have ao:w.W=c.W:=A.W;rw[aa I];have bF:2<=(if c.W=[]∧x.known=true then(if bn c.Y (ab x.V) 1=true then s*L+1 else if bn c.Y (ab x.V) 3=true then 1+d' (ab x.V) 3 c.Y else s*L+1+dz L c.Y)else s*L+L+2):=by
    split
    ·split
     ·omega
     split
     ·rename_i z;have:=xi dT h.li.b z;omega
     ·omega
    ·omega
   by_cases hy:y.is=0
   ·have aQ:=a6 hy;have hl:oE (b0 w 0 y) 0=if(lL (b0 w 0 y).Z (b0 w 0 y).W 0).1=1 then b0 (b0 w 0 y) 0 (uM y (lL (b0 w 0 y).Z (b0 w 0 y).W 0).2)
      else if(lL (b0 w 0 y).Z (b0 w 0 y).W 0).1≠2 then b0 w 0 y
      else if Kt (b0 w 0 y) (ab y.V)=true then b0 (b0 w 0 y) 0 (uM y (oL (b0 w 0 y) y))
      else if bn (b0 w 0 y).Y (ab y.V) 1=true then b0 (b0 w 0 y) 0 {y with is:=2}
      else if tA (b0 w 0 y) (vC (b0 w 0 y).Z 0)=true∧bn (b0 w 0 y).Y (ab y.V) 3=false then b0 (jE (b0 w 0 y) 1 (ab y.V) oZ) 0 {y with is:=2}
      else b0 w 0 y:=by
     unfold oE;rw[K,cP];show(if y.known=false then _ else _)=_;rw[dZ (by rw[aQ];decide)]
    rw[hl]at m X;have bk:c.W=[]->(lL (b0 w 0 y).Z (b0 w 0 y).W 0).1=2:=λz=>by
     rw[K,show(b0 w 0 y).W=[]from ao.trans z];exact K' ay
    have a7:∀b,(b0 (b0 w 0 y) 0 (uM y b)).Z[0]?=some g->h6 L s f g=1:=λb q=>by
     rw[nh K,cP]at q;injection q with q;obtain⟨bb,W⟩:=Nl ay aQ hy b;rw[q]at bb W;rw[ni bb,W];rfl
    have az:∀d:Co,(b0 d 0 {y with is:=2}).Z[0]?=some g->d.Z=y::l'->h6 L s f g<=s*L:=λd q Y=>by
     rw[nh Y,cP]at q;injection q with q;rw[r_ (by rw[<-q])];exact aS _ _
    split at m
    ·rw[a7 _ m];exact gc ad
    rename_i n1;rw[dZ n1]at X;split at m
    ·
     rename_i n2;have E:c.W≠[]:=λz=>n2 (bk z);rw[dZ (show ¬(c.W=[]∧x.known=true)from λz=>E z.1)];rw[K,cP]at m;injection m with m;subst m;refine⟨?_,λz=>absurd z E⟩;rw[na hy,aa ay];have:=aS (ab y.V) 3;split
     ·split
      ·omega
      split<;>omega
     ·omega
    rename_i n2;rw[dZ n2]at X;split at m
    ·rw[a7 _ m];exact gc ad
    rename_i ax;rw[dZ ax]at X;have Z:(b0 w 0 y).Y=(lM c).Y:=A.Y;have bh:∀v,ck (lM c).data v->v.R=ab y.V->False:=λv bb W=>by
     refine ax (N5 (c:=b0 w 0 y) (w:=v) A.mc.g ?_ (W.trans (i4 _).symm));show ck w.data v;rw[A.data];exact bb
    have aK:bn (lM c).Y (ab y.V) 3=bn c.Y (ab y.V) 3:=by
     rcases A.tk.Y_ (ab y.V) (k:=3) dT with q|⟨_,_,q⟩
     ·exact q
     ·obtain⟨u,u1,u2⟩:=q rfl;exact(bh u u1 (u2.trans (i4 _))).elim
    have a2:x.known=true->y.V=x.V:=λz=>by rw[aq z]
    split at m
    ·
     rename_i C;rw[Z]at C;have:=az _ m K;refine gc ?_;split
     ·rename_i z;rw[a2 z.2]at C;split
      ·omega
      split
      ·rename_i bb W;exfalso;apply bb;rcases A.tk.Y_ (ab x.V) (k:=1) dT with q|⟨q,_⟩
       ·rw[<-q];exact C
       ·exact q
      ·omega
     ·omega
    rename_i R;rw[dZ R]at X;rw[Z]at R;split at m
    ·
     rename_i C;have:=az _ m K;refine gc ?_;split
     ·rename_i z;split
      ·omega
      split
      ·rename_i W;exfalso;have h3:=C.2;rw[Z]at h3;rw[<-a2 z.2]at W;rw[aK,W]at h3;cases h3
      ·omega
     ·omega
    ·
     rename_i C;rw[dZ C]at X;rw[K,cP]at m;injection m with m;subst m;rw[na hy,aa ay];have bJ:=aS (ab y.V) 3;by_cases aN:f.W=[]∧y.known=true
     rotate_left
     ·rw[dZ aN];have E:c.W≠[]:=by rw[<-ao];exact B.fs.2.1 λz=>aN ⟨z,aQ⟩
      rw[dZ (show ¬(c.W=[]∧x.known=true)from λz=>E z.1)];exact⟨aC _,λz=>absurd z E⟩
     rw[aa aN];by_cases E:c.W=[]
     rotate_left
     ·rw[dZ (show ¬(c.W=[]∧x.known=true)from λz=>E z.1)];refine⟨?_,λz=>absurd z E⟩;split
      ·omega
      split<;>omega
     obtain⟨Q,aJ,br⟩:∃Q,f.Y=(lM c).Y++Q∧∀z∈Q,z.kind=2:=by
      obtain⟨Q,U,Y⟩:=wk w.U.k.toNat e5;rw[<-B.q6]at U;exact⟨Q,by rw[(B.fs.1 (ao.trans E)).2,U,B.b5,X,Z],Y⟩
     have a8:∀k:Int,k≠2->bn f.Y (ab y.V) k=bn (lM c).Y (ab y.V) k:=λk hk=>by
      rw[aJ,ln,rT (p:=Q) (λz hz=>by rw[br z hz];exact λq=>hk q.symm),Bool.or_false]
     rw[a8 1 dT,dZ R,a8 3 dT];have a3:bn (lM c).Y (ab y.V) 3=false->s<=yH (lM c).Y:=λz=>by
      have:tA (b0 w 0 y) (vC (b0 w 0 y).Z 0)=false:=by
       cases q:tA (b0 w 0 y) (vC (b0 w 0 y).Z 0)with
       |false=>rfl
       |true=>exact absurd ⟨q,by rw[Z];exact z⟩ C
      have hv:vC (b0 w 0 y).Z 0=true:=by unfold vC;simp
      unfold tA at this;rw[hv,aa rfl]at this;have:=aF this;rw[Z]at this;have hs:(b0 w 0 y).U.o=(s:Int):=by show w.U.o=_;rw[A.U];exact h.hs
      omega
     have bs:0<yH (lM c).Y->dz L f.Y=dz L (lM c).Y:=λz=>by rw[aJ,r9 z]
     have bL:=h.s2;have aV:=h.rd;have bO:=ki h.li.b h.rd;by_cases aZ:x.known=true
     rotate_left
     ·rw[dZ (show ¬(c.W=[]∧x.known=true)from λz=>aZ z.2)];refine gc ?_;split<;>omega
     rw[aa (show c.W=[]∧x.known=true from⟨E,aZ⟩), <-a2 aZ]
     cases aj:bn (lM c).Y (ab y.V) 3 with
     | true=>
      have ag:=aK ▸ aj;rw[aa rfl,show d' (ab y.V) 3 f.Y=d' (ab y.V) 3 (lM c).Y by rw[aJ,pd aj]];have bK:=kw (ab y.V) 3 (lM c).Y
      cases A.tk with
      |none _ b _=>rw[b]at aj;cases aj
      |write w r d3 n f p _=>
       refine⟨?_,λ_=>.inr ⟨w,d3⟩⟩
       rw[dZ (by rw[<-(p _ 1 dT).2];exact R),aa ag,(p _ 3 dT).1];exact aC _
      |read w r d3 n n0 f p _=>
       refine gc ?_
       rw[dZ (by rw[<-(p _ 1).2];exact R),aa ag];have:=(p (ab y.V) 3).1;omega
      | done v J w r n f p z one agI c0 bu bd=>
       refine gc ?_;split
       ·omega
       ·cases S:en (ab y.V) 3 v with
        |false=>have:=(p _ 3 dT S).2 ag;omega
        |true=>
         unfold en at S;simp only[aP,aY]at S;obtain⟨u,u1,u2⟩:=bd S.2
         exact(bh u u1 (by rw[u2,S.1,i4])).elim
     | false=>
      have aT:=a3 aj;have ag:=aK ▸ aj;rw[dZ dT,bs ad]
      cases A.tk with
      |none _ b _=>rw[b]at aT;have aT:s<=0:=aT;omega
      |write w r d3 n f p _=>
       refine⟨?_,λ_=>.inr ⟨w,d3⟩⟩
       rw[dZ (by rw[<-(p _ 1 dT).2];exact R),dZ (by rw[ag];decide),f];exact aC _
      |read w r d3 n n0 f p _=>
       refine gc ?_
       rw[dZ (by rw[<-(p _ 1).2];exact R),dZ (by rw[ag];decide)];omega
      |done v J w r n f p z one agI c0 bu bd=>omega
   ·
    have bC:=aB hy;have hl:oE (b0 w 0 y) 0=b0 w 0 y:=by
     unfold oE;rw[K,cP];show(if y.known=false then _ else _)=_;rw[aa bC]
    rw[hl,K,cP]at m;injection m with m;rw[l1 (by rw[<-m];exact(a5 hy).2)];exact gc ad
  rw[dZ I,dZ J];have V:(w.Z.any IE=false∨ak ({x with N:=H}:ai).i.op≠2)->g.is=1∧g.left<=34∧(ak x.i.op≠2->g.left<=3):=λq=>by
   obtain⟨m,_⟩:=al _ o hc q;rw[rq o,dZ J,dZ I,nh o,cP]at m;injection m with m;obtain⟨_,_,_,_,_,cq,eb,_⟩:=w4 (e:={x with N:=H}) h0 bB v1 v2;rw[m]at cq eb;exact⟨(cq I J).1,(cq I J).2,λz=>eb I J z⟩
  by_cases k2:ak x.i.op=2
  ·rw [aa k2]
   cases t:w.Z.any IE with
   |false=>
    obtain⟨U,Y,_⟩:=V (.inl t);refine gc ?_
    rw[ni U];omega
   | true=>
    have G:=N _ o (.inr ⟨t,k2⟩);refine gc ?_;rw[G,na (g:={x with N:=H}) h0,dZ (show ¬ak x.i.op=3 from I),dZ (show ¬ak x.i.op=4 from J),aa (show ak x.i.op=2 from k2)];have b1:bl w.Z+1<=bl (lM c).Z:=by
     rw[hw]at t⊢;exact L' (h.li.ZL h.L8 h.mc h.two).one (t6.trans h.hh) t
    have b2:bl (lM c).Z<=bl c.Z:=np λe he M=>by
     rcases A.tk.Y8 with q|⟨y,cl,_,q⟩
     ·rw[q]at he;exact nj he M
     ·rw[q]at he;obtain⟨u,hu,rfl⟩:=pG.1 he;have:wO cl y.R u=u:=by
       refine r2 λq=>?_;have:=(h.two u hu q.1).1;unfold IE at M;rw[(l0 _ _ _).1,this]at M;cases M
      rw[this]at M⊢;exact nj hu M
    have b3:bl f.Z<=bl w.Z:=np λe he M=>by
     rw[B.rf,B.r6]at he;have au:=B.z5 e he M;rw[B.q4]at au;unfold gY at au;rw[dZ (oH A.hh),t]at au;have bx:=(rl (agN:=w.U.k) (kinds:=Fi w) (can:=Kv w) (Kv w).length).1;have bg:=o7 (c:=w);have aV:=ng (c:=w);rw[t]at bg aV;refine nj (xb _ A.iv A.mc bg aV (λi hi y hy z=>?_) e au M) M;refine bx i hi ?_;unfold Cx Fi;rw[aR,aX,hy];show((ak y.i.op:Nat):Int)=2;rw[z];rfl
    omega
  ·rw[dZ k2];obtain⟨U,_,Y⟩:=V (.inr k2);refine gc ?_;rw[ni U];have:=Y k2;omega
 ·
  have e1:=aE ad;subst e1;have bv:ak j.i.op≠4:=λz=>an.Zs z h1;have O:=D.no (by rw[(kx j).2.1];exact bv);have bI:=bf h1;have be:(a0 j).is=3∨(a0 j).is=1:=by
   unfold a0;rw[dZ ad];split
   ·exact .inl rfl
   ·exact .inr h1
  have G:=N _ o (.inl (by show x.is≠0;rw[O];rcases be with q|q<;>omega));rw[ni h1];refine gc ?_;rcases be with q|q
  ·rw[l1 (by rw[G];show x.is=3;rw[O];exact q)];omega
  ·rw[ni (by rw[G];show x.is=1;rw[O];exact q),G];show x.left.toNat+1<=_;rw[O,(xm bf q).2];omega
 ·
  obtain⟨I,kn⟩:=an.Y h2;have C:=h.li.two a av h2;rw[r_ h2];have ap:j=a->bn (lM c).Y (ab a.V) 1=true->h6 L s f g=d' (ab a.V) 1 (lM c).Y:=λe bz=>by
   subst e;have O:=D.no (by rw[(kx j).2.1,I];decide);have eg:a0 j=j:=by unfold a0;rw[aa ad]
   rw[eg]at O;have G:=N _ o (.inl (by show x.is≠0;rw[O];omega));rw[r_ (by rw[G];show x.is=2;rw[O];exact h2),G];show d' (ab x.V) 1 f.Y=_;rw[O,hP,pd bz]
  have aD:∀y,en (ab a.V) 1 y=true->j.is=1->j.left=1->j.i=a.i->False:=λy _ U Y q3=>by
   have O:=D.no (by rw[(kx j).2.1,q3,I];decide);have:(a0 j).is=3:=by
    unfold a0;rw[dZ ad,Y,show wrap64 (1-1)=0 from by unfold wrap64;rfl,aa dT]
   have:=(bi _ _ o (by show x.is=3;rw[O];exact this)).2;rw[a' 3 (by rw[q3];exact I)]at this;cases this
  cases A.tk with
  |none b _ _=>rw[b]at C;cases C
  |write w r d3 n f p s=>
   obtain⟨p1,p2⟩:=p (ab a.V) 1 dT;refine⟨?_,λ_=>.inr ⟨w,d3⟩⟩;rcases aI with e|⟨y,b4,b5,cf,ch⟩
   ·rw[ap e (p2.trans C),p1];exact aC _
   ·exact(aD y b4 b5 cf ch).elim
  |read w r d3 n n0 f p s=>
   obtain⟨p1,p2⟩:=p (ab a.V) 1;refine gc ?_;rcases aI with e|⟨y,b4,b5,cf,ch⟩
   ·rw[ap e (p2.trans C)];omega
   ·exact(aD y b4 b5 cf ch).elim
  | done y J w r n f p z one agI=>
   refine gc ?_;rcases aI with e|⟨y,b4,b5,cf,ch⟩
   ·cases S:en (ab a.V) 1 y with
    |true=>
     exfalso;unfold en at S;simp only[aP,aY]at S;obtain⟨cl,ba⟩:=one S.2;have:j=wO cl y.R a:=by rw[hr,hD]at ba;injection ba
     rcases sf (c:=cl) (agY:=y.R) (h.two a av)with ⟨_,_,z⟩|⟨bb,W,cs,c5⟩
     ·exact z ⟨h2,S.1.symm⟩
     ·rw[<-this]at cs;rw[e]at cs;omega
    |false=>
     obtain⟨p1,p2⟩:=p (ab a.V) 1 dT S;rw[ap e (p1.trans C)];have:=p2 C;omega
   ·exact(aD y b4 b5 cf ch).elim
 ·
  have e1:=aE ad;subst e1;have eg:a0 j=j:=by unfold a0;rw[aa ad]
  have bj:x.is=3:=by rcases D.is with q|q;rw[q,eg];exact h3;exact q
  have G:=N _ o (.inl (by show x.is≠0;omega));rw[l1 h3,l1 (by rw[G];exact bj)];exact⟨aC _,λz=>absurd z (bi _ _ o bj).1⟩
def wD(L:Nat)(q:List a5):Nat:=cj dg q+L*dm q
def r'(L:Nat)(a b:List a5):wD L (a++b)=wD L a+wD L b:=by unfold wD;rw[nf,pb,Nat.mul_add];omega
def N8{L:Nat}{p:List a5}(h:∀x∈p,x.kind=1∨x.kind=2):wD L p=0:=by
 unfold wD;rw[rp λx a=>by unfold dg;rcases h x a with k|k<;>rw[k]<;>rfl,r0 λx a=>by rcases h x a with k|k<;>rw[k]<;>decide,Nat.mul_zero]
def N9{L:Nat}{c:Co}(h:LI L c)(agY:Nat):wD L (oK c agY).Y<=wD L c.Y+L:=by
 rcases pk c agY with ⟨q,_⟩|⟨l,d,q,_⟩
 ·rw[q];omega
 have a:=h.y c.asked;rw[q];unfold Bi;rw[r'];have:wD L [(⟨4,l,max (lX c.U c.asked) 1,d⟩:a5)]=(max (lX c.U c.asked) 1).toNat:=by unfold wD cj cj dg dm;simp
 rw[this];omega
def M7{L:Nat}{c:Co}(h:∀k,1<=lX c.U k∧lX c.U k<=(L:Int)):wD L (tY c).Y<=wD L c.Y+L:=by
 have e:∀(k:Int) (agY:Nat) (d:ByteArray),k=3∨k=4->wD L (c.Y++[⟨k,agY,max (lX c.U c.asked) 1,d⟩])<=wD L c.Y+L:=λk agY d g=>by
  have m:=h c.asked;rw[r'];have:wD L [(⟨k,agY,max (lX c.U c.asked) 1,d⟩:a5)]<=L:=by
   unfold wD cj cj dg dm;rcases g with rfl|rfl
   ·simp
   simp;omega
  omega
 have a:∀d:Co,d.Y=c.Y->d.U=c.U->d.asked=c.asked->wD L (nP d).Y<=wD L c.Y+L:=λd b i j=>by
  unfold nP;split
  ·rw[b];omega
  unfold pE;split
  ·split
   ·rename_i w _ _;show wD L (d.Y++[⟨4,w.R,max (lX d.U d.asked) 1,w.data⟩])<=_;rw[b,i,j];exact e 4 _ _ (.inr rfl)
   rw[b];omega
  rw[b];omega
 unfold tY;split
 ·exact a _ rfl rfl rfl
 split
 ·exact a _ rfl rfl rfl
 unfold tW;split
 ·exact a _ rfl rfl rfl
 rename_i p l hp;have f:∀d:Co,d.W=p::l->nP d=d:=λd q=>aa (.inl (by rw[q];simp));split
 ·rw[f (jE (aW c) 3 (ab p.V) oZ) hp];exact e 3 _ _ (.inl rfl)
 exact a _ rfl rfl rfl
def Nm{L:Nat}{c d:Co}(h:jz L c d):wD L d.Y<=wD L c.Y:=by
 unfold wD
 cases h with
 |none a b=>rw[a,b];exact aC _
 |write w r d3=>rw[d3];omega
 |read w r d3=>rw[d3,w];exact aC _
 |done x e w=>exact w
theorem x1:∀(n:Nat) (c:Co),c.halt=0->(eC n c=c∧(0<n->∀b t,c.Z=b::t->b.is=3->(cA b).halt=0∧(cA b).store=true∧(c.W.length:Int)>=c.U.W))∨c.O.length+1<=(eC n c).O.length
 |0,c,_=>.inl ⟨rfl,λz=>absurd z (iI 0)⟩
 | n + 1,c,j=>by
  unfold eC;rw[dZ ad];split
  ·rename_i h;exact .inl ⟨rfl,λ_ b t q=>by rw[h]at q;cases q⟩
  ·rename_i e l f;split
   ·rename_i i;exact .inl ⟨rfl,λ_ b t q z=>by rw[f]at q;injection q with q;subst q;exact absurd z i⟩
   ·split
    ·exact .inr (by show _<=(c.O++[_]).length;simp)
    ·rename_i k;split
     ·rename_i q;exact .inl ⟨rfl,λ_ b t a z=>by rw[f]at a;injection a with a;subst a;exact⟨b'.1 k,q.1,q.2⟩⟩
     ·right;have d:(vZ c e (cA e) l).O=c.O++[cA e]:=by
       show(vG _ _ _).O=_;unfold vG oK;(repeat' split)<;>rfl
      have g:(vZ c e (cA e) l).halt=0:=by
       show(vG _ _ _).halt=_;unfold vG oK;(repeat' split)<;>exact j
      rcases x1 n (vZ c e (cA e) l) g with ⟨q,_⟩|q
      ·rw[q,d];simp
      ·rw[d]at q;simp at q;omega
theorem xu{L:Nat}{prog:List Nat}:∀(n:Nat) {c:Co} {s:St},LI L c->Iv prog c s->c.mc->(∀e∈c.Z,e.ok)->(∀e∈c.Z,e.known=true->ak e.i.op=3∨ak e.i.op=4->kZ c.mem.size e.V (a' e.i.op)=true)->wD L (eC n c).Y<=wD L c.Y+n*L
 |0,_,_,_,_,_,_,_=>by rw[Nat.zero_mul];exact aC _
 | n + 1,c,s,h,hI,g,A,y=>by
  unfold eC;split
  ·omega
  ·rename_i q;have q:c.halt=0:=b'.1 q;split
   ·omega
   ·rename_i e l d;split
    ·omega
    ·rename_i p;have p:e.is=3:=b'.1 p;have f:e∈c.Z:=by rw[d];exact b9
     split
     ·show wD L c.Y<=_;omega
     ·rename_i j;have j:(cA e).halt=0:=b'.1 j;split
      ·omega
      ·have w:dn prog s e:=by have:=hI.ri.ok;rw[d]at this;exact this.1
       have k:e.halt=0:=w2 ▸ j;have o:LI L (fZ c (cA e)):=⟨h.y,h.b,h.two,h.one,h.ld,h.w,h.st,h.d,h.l⟩;have m:(fZ c (cA e)).mc:=ef g rfl rfl rfl;have u:LI L (vG (fZ c (cA e)) e (cA e))∧wD L (vG (fZ c (cA e)) e (cA e)).Y<=wD L c.Y+L:=by
        unfold vG;split
        ·rename_i t;have z:=h.ld e f t ad k;exact⟨(o.ZJ m.g m.al (by rw[w3 k t];exact r7 g.al (y e f z (.inl t)))).1,N9 o _⟩
        ·exact⟨o,by show wD L c.Y<=_;omega⟩
       obtain⟨B,C⟩:=(hI.Zp h.w g d (A e f) p q).2.2.2 j;have i:(vG (fZ c (cA e)) e (cA e)).prog=c.prog∧(vG (fZ c (cA e)) e (cA e)).Z=c.Z∧(vG (fZ c (cA e)) e (cA e)).mem=c.mem:=by
        unfold vG;split
        ·exact⟨(j0 _ _).2.2.2.2.2.2,(j0 _ _).2.2.1,(j0 _ _).1⟩
        ·exact⟨rfl,rfl,rfl⟩
       have v:=u.1.pop (i.2.1.trans d) (i.1.trans hI.pr) w j (lY c.r (cA e)) (fM c.N (cA e).K (cA e).next e.i);have:=xu n (c:=vZ c e (cA e) l) v B C (λx r=>A x (by rw[d];exact bY _ r)) λx r a b=>by
        rw[show(vZ c e (cA e) l).mem=c.mem from i.2.2];exact y x (by rw[d];exact bY _ r) a b
       have D:wD L (vZ c e (cA e) l).Y<=wD L c.Y+L:=u.2;rw[cG];omega
def M8{L s:Nat}{c:Co}(h:LI L c)(a:yH c.Y<=s):fm L s c<=HM L s+3+2*(s*L):=by
 have d:=ki h.b a;have hp:=aL (kw (ab c.M) 2 c.Y) d;unfold fm;split
 ·rename_i e l b;have:=xt (s:=s) h.b a (h.one e (by rw[b];exact b9)) (xv h);omega
 split
 ·omega
 split
 ·omega
 split<;>omega
def lm(L s S:Nat):Nat:=3*L+8*L+S*(s*L+2*L+1)+(HM L s+3+2*(s*L))
def O5{L s S:Nat}{c:Co}(h:LI L c)(a:yH c.Y<=s)(b:c.W.length<=S):ip L s c+3*L<=wD L c.Y+lm L s S:=by
 have d:=M8 h a;have e:=xc (s:=s) h.b (ki h.b a) c.W;have f:L*(8-fi c.Z)<=L*8:=Nat.mul_le_mul_left L ad;have g:c.W.length*(s*L+2*L+1)<=S*(s*L+2*L+1):=eF _ b;unfold ip i6 lm wD;omega
def Li(c:Co):(tY c).halt=c.halt:=by
 have a:∀d:Co,(nP d).halt=d.halt:=λd=>by
  unfold nP pE;(repeat' split)<;>rfl
 unfold tY;split
 ·exact(a _).trans rfl
 split
 ·exact(a _).trans rfl
 refine(a _).trans ?_;unfold tW;(repeat' split)<;>rfl
def M9{L s S B:Nat}{prog:List Nat}{T:St}{n:Nat}{q:Int}{f:Cf}{c:Co}(P:1<=L)(D:L<=8)(hs:f.o=(s:Int))(hS:f.W=(S:Int))(h0:0<=f.Z∧0<=f.queue)(li:LI L c)(hm:c.I n)(hb:n+3000<=890000)(iv:Iv prog c T)(ag:c.mc)(w:Bd f c.O.length c)(o:ce q c)(ao:lm L s S+1<=B):
  LI L (ed c)∧wD L (ed c).Y<=wD L c.Y+4*L∧MR L (s3 c) (cq c)∧(c.halt=0->(ed c).halt≠0∨ip L s (ed c)+1+B*c.O.length<=ip L s c+B*(ed c).O.length):=by
 have i:=Ql hm ad;have i0:Iv prog (s0 c) T:=iv.same rfl rfl rfl rfl rfl rfl rfl rfl iv.ri;have H:(s0 c).mc:=ef ag rfl rfl rfl;have J:LI L (s0 c):=li.same rfl rfl rfl rfl rfl li.st;have ja:∀e∈(s0 c).Z,e.is=2->ak e.i.op=3∧e.known=true:=λe Z z=>by
  obtain⟨k,i⟩:=List.getElem?_of_mem Z;exact(jf i0.ri.ok i).Y z
 have l1:LI L (s1 c):=J.ZL D H ja;have m1:(s1 c).mc:=(lW H i.k0.ok.a).mc;have i1:Iv prog (s1 c) T:=i0.ZL H i.k0.ok.a;obtain⟨G,w2⟩:Iv prog (aq c) T∧NW (aq c).Z:=i1.ZN;have l2:LI L (aq c):=l1.ZN w2;obtain⟨b1,b2,b3,b4,b5,b6,b7,b8,b9⟩:=nd (s1 c);have N:(aq c).mc:=ef m1 b3 b1 b4;have A:Bd f c.O.length (s0 c):=⟨w.U,w.Z,w.Z6,w.Z_,w.rd,w.ret⟩;have r:Bd f c.O.length (aq c):=wa (v' A) h0.2;obtain⟨b,Y,ap,R⟩:=o5 h0 (aq c).U.k.toNat _ _ r;have C:=pD i.k2.cf;obtain⟨t1,t2,t3,t4,t5,t6,t7,t8,t9⟩:=pa (s0 c);have V:∀e∈(aq c).Z,e.known=true->ak e.i.op=3∨ak e.i.op=4->kZ (aq c).mem.size e.V (a' e.i.op)=true:=λe Z a k=>by
  obtain⟨j,hj⟩:=List.getElem?_of_mem Z;have:=((jf G.ri.ok hj).ZB a k).2;rw[kh, <-G.mem,show(Xr (aq c)).size=(aq c).mem.size from MU ..]at this;exact this
 have l3:LI L (s3 c):=l2.Y5 (aq c).U.k.toNat G N i.k2.ok.Z8 V;obtain⟨l,T3,e1,e2,I,i3⟩:=G.Y5 (aq c).U.k.toNat w2 N i.k2.ok.Z8;have m3:(s3 c).mc:=oI _ _ i.k2.ok.Z8 N;have i3:Iv prog (s3 c) T3:=i3;obtain⟨K,an⟩:=l3.Zo i3 m3 i.k3 ad;have K:LI L (dj c):=K;have al:∀p∈c.W,kZ c.mem.size p.V p.data.size=true:=o.sp;have l5:LI L (ea c)∧MR L (dj c) (ea c):=by
  show LI L (lP (dj c))∧MR L (dj c) (lP (dj c));unfold lP;split
  ·exact⟨K,.refl L _⟩
  ·have:=K.Y6 (dj c).U.k.toNat;exact⟨this.1,this.2.1⟩
 have M:LI L (cq c)∧MR L (ea c) (cq c):=by
  show LI L (eN (ea c))∧MR L (ea c) (eN (ea c));unfold eN;split
  ·exact⟨l5.1,.refl L _⟩
  ·have:=l5.1.Zc (ea c).U.k.toNat;exact⟨this.1,this.2.1⟩
 have g:MR L (s3 c) (cq c):=(an.mr.trans l5.2).trans M.2;have m6:cd (cq c).data∧(cq c).mem.size%16=0:=by rw[g.data,g.mem];exact⟨m3.g,m3.al⟩
 have Q:∀p∈(cq c).W,kZ (cq c).mem.size p.V p.data.size=true:=by
  have ab:ce q (s0 c):=⟨o.ro,o.lo,o.nx,o.da,o.wo,o.sp,o.pg⟩;have:=(o4 (aq c).U.k.toNat _ (v_ (v9 ab))).sp;rw[g.W,g.mem];exact this
 have l7:LI L (ed c):=M.1.ZA m6.1 m6.2 Q;have w1:wD L (s1 c).Y<=wD L c.Y:=Nm (c:=s0 c) (d:=s1 c) (xd D J H);have ax:wD L (aq c).Y=wD L (s1 c).Y:=by show wD L (kK (s1 c)).Y=_;rw[b1]
 have w3:wD L (s3 c).Y<=wD L (aq c).Y+(aq c).U.k.toNat*L:=xu _ l2 G N i.k2.ok.Z8 V;have ay:(aq c).U.k.toNat*L<=2*L:=eF L ad;have w6:wD L (cq c).Y=wD L (s3 c).Y:=by
  obtain⟨p,O,_,p3⟩:=g.Y;rw[O,r',N8 p3];rfl
 have w7:wD L (ed c).Y<=wD L (cq c).Y+L:=M7 M.1.y;refine⟨l7,oT,g,λhh=>?_⟩;have U:(aq c).halt=0:=by show(kK (s1 c)).halt=0;rw[b5];exact t6.trans hh
 have x:Bd f b (cq c):=vt (v0 (vD R));have F:Bd f b (ed c):=v1 x;have W:(s0 c).U.o=(s:Int):=by show c.U.o=_;rw[w.U];exact hs
 have v:∀{d:Co} {a:Nat},Bd f a d->yH d.Y<=s:=λ{d a} z=>by have:=z.rd;rw[hs]at this;omega
 have am:∀{d:Co} {a:Nat},Bd f a d->d.W.length<=S:=λ{d a} z=>by have:=z.Z_;rw[hS]at this;omega
 rw[F.ret];rcases x1 (aq c).U.k.toNat (aq c) U with ⟨r1,r2⟩|r1
 ·
  right;have I:s3 c=aq c:=r1;have u:ko L s prog T n (s0 c):=⟨P,D,W,by have:=C;have:=r.U;rw[this]at C;omega,J,H,i.k0,oT,i0,hh,al,v A,by
   have:=A.Z;have:=r.U;rw[this]at C;omega⟩
  have h:Wk L s prog T n (s0 c) (aq c):=u.ZN;have m:=N6 u h (by have:=v x;rw[show cq c=eN (lP (gY (aq c))) by show eN (lP (gY (s3 c)))=_;rw[I]]at this;exact this);have hF:ed c=tY (eN (lP (gY (aq c)))):=by show tY (eN (lP (gY (s3 c))))=_;rw[I]
  have h6:cq c=eN (lP (gY (aq c))):=by show eN (lP (gY (s3 c)))=_;rw[I]
  have E:sm L (s0 c) (lM (s0 c)) (cq c):=by
   rw[h6];have hm:=lp h.Yw;refine⟨m.mr.W.trans h.W,m.mr.data.trans h.data,m.mr.U.trans h.U,m.mr.halt.trans U,?_,aL hm (lp m.mr.Z),λa b=>?_,?_⟩
   ·obtain⟨p,O,p2,p3⟩:=m.mr.Y;exact⟨p,by rw[O,h.Y],p2,p3⟩
   ·have:=m.mr.ZH (by rw[h.Y,h.U];exact a) (by rw[h.U];exact b);omega
   ·have:=xo (eN (lP (gY (aq c)))).Z;rw[<-h6]at this⊢;have h8:=x.Z;have:=r.U;rw[this]at C;omega
  obtain⟨d1,d2,d3⟩:=K1 J M.1 h.tk E P W u.s2 (v A) (v x) m6.1 (by
   intro p hp;have:(cq c).W=(s0 c).W:=E.W;exact Q p (by rw[this];exact hp))
  have aa:tY (cq c)=ed c:=rfl;rw[aa]at d1 d2 d3;have ai:∀b t,(aq c).Z=b::t->b.is=3->(s0 c).W≠[]∧ak b.i.op=4:=λb t q z=>by
   obtain⟨z1,z2,z3⟩:=r2 ad b t q z;obtain⟨_,k,_⟩:=vw z1;refine⟨λy=>?_,k z2⟩;rw[h.W,y]at z3;have z3:((0:Nat):Int)>=(aq c).U.W:=z3;omega
  have X:Nx L (s0 c) (lM (s0 c)) (ed c) (fm L s (ed c)) (fm L s (s0 c)):=by
   rw[hF]
   cases hq:(s0 c).Z with
   |nil=>exact K_ u rfl h m hq
   |cons a l=>exact K3 u rfl h m hq ai
  have ar:ip L s (ed c)+1<=ip L s c:=by
   show i6 L s (ed c)+fm L s (ed c)+1<=i6 L s (s0 c)+fm L s (s0 c);by_cases z:(s0 c).W=[]
   ·rcases X.2 z with y|⟨bb,bd⟩
    ·omega
    ·have:=d3 bb bd;have:=X.1;omega
   ·have:=d2 z;have:=X.1;omega
  have:B*c.O.length<=B*b:=Nat.mul_le_mul_left B Y;omega
 ·
  by_cases hz:(ed c).halt=0
  ·right;have aj:c.O.length+1<=b:=by
    have az:(aq c).O.length=c.O.length:=r.ret;have x2:(eC (aq c).U.k.toNat (aq c)).O.length=b:=R.ret;omega
   have h3:(s3 c).halt=0∧(cq c).halt=0:=by
    have au:(cq c).halt=(s3 c).halt:=g.halt;have av:(ed c).halt=(cq c).halt:=Li _;omega
   have O:=O5 l7 (v F) (am F);have aw:wD L c.Y<=ip L s c:=by unfold ip i6 wD;omega
   have:B*(c.O.length+1)<=B*b:=Nat.mul_le_mul_left B aj;rw[Nat.mul_add,iD]at this;omega
  ·exact .inl hz
def j4(l:List Int):Int:=l.foldl (λm n=>if n>m then n else m) 1
theorem rn:∀(l:List Int) (a:Int),a<=l.foldl (λm n=>if n>m then n else m) a∧(∀x∈l,x<=l.foldl (λm n=>if n>m then n else m) a)∧∀b,a<=b->(∀x∈l,x<=b)->l.foldl (λm n=>if n>m then n else m) a<=b
 |[],a=>⟨iF _,(λx c=>by cases c),λ_ h _=>h⟩
 | y::l,a=>by
  obtain⟨d,f,g⟩:=rn l (if y>a then y else a);have e:a<=(if y>a then y else a)∧y<=(if y>a then y else a):=by split<;>omega
  refine⟨Int.le_trans e.1 d,λx c=>?_,λb i c=>g b ?_ λx q=>c x (bY _ q)⟩
  ·rcases dk.1 c with rfl|q
   ·exact Int.le_trans e.2 d
   ·exact f x q
  ·have:=c y b9;split<;>omega
def l3(f:Cf):Int:=60+(f.o+f.W+f.L*f.ways+4)*(j4 f.y+1)*(f.W+3)
def M_(c:Cf):(bZ (bZ c)).y=(bZ c).y:=by
 show(((c.y.take 64).map λn=>bV n 1 8).take 64).map (λn=>bV n 1 8)=(c.y.take 64).map λn=>bV n 1 8;rw[<-eO,List.take_take,List.map_map];refine iB λx _=>?_;show bV (bV x 1 8) 1 8=bV x 1 8;unfold bV;(repeat' split)<;>omega
def NS(x lo a:Int)(h:lo<=a):lo<=bV x lo a∧bV x lo a<=a:=by unfold bV;(repeat' split)<;>omega
def o8(c:Cf):1<=j4 (bZ c).y∧j4 (bZ c).y<=8:=by
 obtain⟨a,_,b⟩:=rn (bZ c).y 1;refine⟨a,b 8 dT λx d=>?_⟩;obtain⟨y,_,rfl⟩:=pG.1 d;exact(NS y 1 8 dT).2
def O6(c:Cf)(k:Int):1<=lX (bZ c) k∧lX (bZ c) k<=((j4 (bZ c).y).toNat:Int):=by
 have e:=o8 c;unfold lX;rw[M_];have d:∀j,1<=(bZ c).y.getD j 1∧(bZ c).y.getD j 1<=((j4 (bZ c).y).toNat:Int):=λj=>by
  rw[aR]
  cases h:(bZ c).y[j]? with
  |none=>show 1<=(1:Int)∧(1:Int)<=_;omega
  |some x=>
   have b:=aB h;have a:=(rn (bZ c).y 1).2.1 x b;have a:x<=j4 (bZ c).y:=a;obtain⟨y,_,rfl⟩:=pG.1 b;have:=NS y 1 8 dT;show 1<=bV y 1 8∧bV y 1 8<=_;omega
 split
 ·omega
 ·exact d _
def xw(s S L:Nat):Bool:= !(decide (2<=s)&&decide (1<=S)&&decide (1<=L))||(decide (lm L s S+1<=60+(s+S+1+4)*(L+1)*(S+3))&&decide (2*(s*L)+9*L+73+1<=60+(s+S+1+4)*(L+1)*(S+3))&&decide (2*(s*L)+9*L+73<=241))
def Nn:((List.range 7).all λs=>(List.range 5).all λS=>(List.range 9).all λL=>xw s S L)=true:=by decide+kernel
def No(s:Nat)(a:s<7)(S:Nat)(b:S<5)(L:Nat)(c:L<9)(d:2<=s)(e:1<=S)(f:1<=L):lm L s S+1<=60+(s+S+1+4)*(L+1)*(S+3)∧2*(s*L)+9*L+73+1<=60+(s+S+1+4)*(L+1)*(S+3)∧2*(s*L)+9*L+73<=241:=by
 have h:=rC.1 (rC.1 (rC.1 Nn s (lI.2 a)) S (lI.2 b)) L (lI.2 c);unfold xw at h;rw[jP d,jP e,jP f]at h;simp only[Bool.and_true,mD,jD,aP,aY]at h;exact⟨h.1.1,h.1.2,h.2⟩
def wx(c:Cf){s S L:Nat}(e:(bZ c).o=s)(d:(bZ c).W=S)(o:L=(j4 (bZ c).y).toNat):lm L s S+1<=(l3 (bZ c)).toNat∧2*(s*L)+9*L+73+1<=(l3 (bZ c)).toNat∧2*(s*L)+9*L+73<=241:=by
 have p:=o8 c;have k:=NS c.o 2 6 dT;have l:=NS c.W 1 4 dT;have m:=NS c.ways 1 2 dT;have n:=NS c.L 1 4 dT;have h:(bZ c).o=bV c.o 2 6:=rfl;have i:(bZ c).W=bV c.W 1 4:=rfl;have j:(bZ c).ways=bV c.ways 1 2:=rfl;have a:(bZ c).L=if bV c.L 1 4=3 then 2 else bV c.L 1 4:=rfl
 have b:1<=(bZ c).L:=by rw[a];split<;>omega
 obtain⟨d1,d2,d3⟩:=No s ad S ad L ad ad ad ad;have g:((60+(s+S+1+4)*(L+1)*(S+3):Nat):Int)<=l3 (bZ c):=by
  obtain⟨w,f⟩:∃w:Nat,(bZ c).L*(bZ c).ways=(w:Int)∧1<=w:=by
   have:1<=(bZ c).L*(bZ c).ways:=by
    have:=Int.mul_le_mul b (oT:1<=(bZ c).ways) dT ad;simpa using this
   exact⟨((bZ c).L*(bZ c).ways).toNat,oT,oT⟩
  unfold l3;rw[e,d,f.1,(oT:j4 (bZ c).y=(L:Int))];have:(60+(s+S+1+4)*(L+1)*(S+3))<=(60+(s+S+w+4)*(L+1)*(S+3)):=
   oQ (eF _ (eF _ ad)) _
  exact_mod_cast this
 omega
theorem LI.new(b:Cf)(prog:List Nat)(m:ByteArray):LI (j4 (bZ b).y).toNat (fX b prog m):=by
 have c:∀w, ¬ck (fX b prog m).data w:=λw e=>by
  obtain⟨s,d,h⟩:=List.mem_flatten.1 e;have:s=[]:=by
   have d:s∈List.replicate _ []:=d;exact(List.mem_replicate.1 d).2
  subst this;cases h
 exact⟨O6 b,(λx a=>by cases a),(λx a=>by cases a),(λx a=>by cases a),(λx a=>by cases a),(λx a=>by cases a),(λ_ h=>by cases h),(λw e=>absurd e (c w)),(λx a=>by cases a)⟩
def NR(a:Cf)(prog:List Nat)(m:ByteArray)(L s:Nat):ip L s (fX a prog m)=2*(s*L)+9*L+73:=by
 have b:i6 L s (fX a prog m)=L*8:=by show 0+L*0+L*8+0=L*8;omega
 have c:fm L s (fX a prog m)=HM L s+3+s*L:=rfl;unfold ip HM at *;rw[b,c];omega
structure x5(L s B:Nat)(X:Co)(k:Nat):Prop where
 li:LI L (uN X k)
 mr:k=0∨MR L (s3 (uN X (k-1))) (cq (uN X (k-1)))
 go:(uN X k).halt≠0∨ip L s (uN X k)+k<=ip L s X+B*(uN X k).O.length
theorem r3{L s S B:Nat}{X:Co}{m:ByteArray}(f:1<=L)(i:L<=8)(o:X.U.o=(s:Int))(n:X.U.W=(S:Int))(l:0<=X.U.Z∧0<=X.U.queue)(a:lm L s S+1<=B)(c:∀k,k<=3000->jb X k)(b:X.mc)(hI:Iv X.prog X (PL m))(j:X.O=[])(r:LI L X):∀k,k<=3000->x5 L s B X k
 |0,_=>⟨r,.inl rfl,.inr (by show ip L s X+0<=_;omega)⟩
 | k+1,x=>by
  have h:=r3 f i o n l a c b hI j r k ad;have g:=c k ad;have u:=EL g.ok ad g.rt;obtain⟨t,_,v,_⟩:=mv c b hI j k ad;have e:uN X (k+1)=ed (uN X k):=(show uG (uN X k)=_ from aa g.rt);obtain⟨p,_,w,st⟩:=M9 f i o n l h.li u ad v (ov c b k ad) g.bd g.rc a;rw[<-e]at p st;refine⟨p,.inr w,?_⟩;by_cases d:(uN X k).halt=0
  ·rcases st d with q|q
   ·exact .inl q
   ·rcases h.go with z|z
    ·exact absurd d z
    ·exact .inr ad
  ·have:(ed (uN X k)).halt=(uN X k).halt:=(L6 d).halt;exact .inl (by rw[e,this];exact d)
theorem xh{prog:List Nat}:∀{s t:St} {l:List Sp},iz prog s l t->t.halt≠0->∀n,i7 prog n s<=l.length
 |s,t,[],h,a,n=>by
  have h:t=s:=h;subst h
  cases n with
  |zero=>exact aC _
  |succ n=>unfold i7;rw[dZ a];exact aC _
 |s,t,x::l,⟨b,_,c⟩,a,n=>by
  cases n with
  |zero=>exact aE _
  |succ n=>unfold i7;rw[aa b,bN];have:=xh c a n;omega
def O8{a:Cf}{prog:List Nat}{m:ByteArray}{X:Co}(b:X=fX a prog m)(q:0<=X.U.Z∧0<=X.U.queue)(h:∀k,k<=3000->jb X k)(c:X.mc)(hI:Iv X.prog X (PL m))(k:Nat)(l:k<=3000):
  ((uN X k).halt≠0->∀n,i7 X.prog n (PL m)<=(uN X k).O.length)∧((uN X k).halt=0->k/(l3 (bZ a)).toNat<=(uN X k).O.length∧(300<=k->1<=(uN X k).O.length)):=by
 have d:X.O=[]:=by rw[b];rfl
 refine⟨λe n=>?_,λe=>?_⟩
 ·obtain⟨t,f,g,_⟩:=mv h c hI d k l;exact xh f (by rw[<-g.halt];exact e) n
 have f:=NS a.o 2 6 dT;have g:=NS a.W 1 4 dT;have w:=o8 a;obtain⟨s,o⟩:∃s:Nat,(bZ a).o=s:=⟨(bV a.o 2 6).toNat,by show bV a.o 2 6=_;omega⟩;obtain⟨S,i⟩:∃S:Nat,(bZ a).W=S:=⟨(bV a.W 1 4).toNat,by show bV a.W 1 4=_;omega⟩;obtain⟨p,r,u⟩:=wx a o i rfl;have j:X.U=bZ a:=by rw[b];rfl
 have:=(r3 ad ad (j ▸ o) (j ▸ i) q p h c hI d (b ▸ LI.new a prog m) k l).go.resolve_left λz=>z e;rw[show ip (j4 (bZ a).y).toNat s X=_ from b ▸ NR a prog m _ s]at this;refine⟨?_,λv=>?_⟩
 ·rw[<-Nat.lt_succ_iff];refine fO ?_;show k<(l3 (bZ a)).toNat*((uN X k).O.length+1);rw[Nat.mul_add,iD];omega
 rcases kg (uN X k).O.length with z|z
 ·rw[z,Nat.mul_zero]at this;omega
 exact z
end Go.Proofs.YtdhclfgoomldfaaGreatDoor
