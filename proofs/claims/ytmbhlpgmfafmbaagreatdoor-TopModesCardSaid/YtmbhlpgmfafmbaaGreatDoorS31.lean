/- Lemmas. -/
import Derived.RangeFuncNested
import Derived.RangeFuncLeaves
import Derived.TacticsIn
import Derived.OrdersIn
import Derived.Scope
import Derived.Test.YtmbhlpgmfafmbaaGreatDoorS1
import Derived.Test.YtmbhlpgmfafmbaaGreatDoorS24
import Derived.Test.YtmbhlpgmfafmbaaGreatDoorS28
import Derived.Test.YtmbhlpgmfafmbaaGreatDoorS29
import Derived.Test.YtmbhlpgmfafmbaaGreatDoorS30
set_option linter.all false
namespace Go.Proofs.YtmbhlpgmfafmbaaGreatDoor
open Go.RowKit
def RK(h:AH):AV->AV
 | .ptr s c=>match h s with|some (.box a)=>.dp a.length c (rO h a)|_=>.any
 |x=>vR h x
def KI(h:AH):List AV->List AV
 |[]=>[]
 |x::xs=>RK h x::KI h xs
def RL(h:AH):AV->Prop
 | .ptr s _=>match h s with|some (.box a)=>eW (rO h a)=true∧jV h a|_=>True
 |x=>jU h x
def XN(h:AH):List AV->Prop
 |[]=>True
 |x::xs=>RL h x∧XN h xs
theorem KJ(h:AH):∀(l:List AV),(KI h l).length=l.length
 |[]=>rfl
 |_::l=>a1 (· +1) (KJ h l)
theorem KL(h:AH):∀(l:List AV) (i:Nat) (x:AV),(KI h l)[i]?=some x->∃y,l[i]?=some y∧x=RK h y
 |[],i,x,a=>by simp[KI]at a
 |y::l,0,x,a=>by simp[KI]at a;exact⟨y,rfl,a.symm⟩
 |y::l,i+1,x,a=>by simp[KI]at a;exact KL h l i x a
theorem KM(h:AH):∀(l:List AV),XN h l->∀(i:Nat) y,l[i]?=some y->RL h y
 |[],_,i,y,a=>by simp at a
 |x::l,b,0,y,a=>by simp at a;subst a;exact b.1
 |x::l,b,i+1,y,a=>KM h l b.2 i y (sU a)
theorem Az(h:AH):∀(l:List AV),(rO h l).length=l.length
 |[]=>by simp[rO]
 |_::l=>by simp[rO,Az h l]
theorem KN(h:AH):∀(l:List AV) (i:Nat) (x:AV),(rO h l)[i]?=some x->∃y,l[i]?=some y∧x=vR h y
 |[],i,x,a=>by simp[rO]at a
 |y::l,0,x,a=>by simp[rO]at a;exact⟨y,rfl,a.symm⟩
 |y::l,i+1,x,a=>by simp[rO]at a;exact KN h l i x a
theorem Fw(h:AH):∀(l:List AV),jV h l->∀(i:Nat) y,l[i]?=some y->jU h y
 |[],_,i,y,a=>by simp at a
 |x::l,b,0,y,a=>by simp[jV]at b;simp at a;subst a;exact b.1
 |x::l,b,i+1,y,a=>by simp[jV]at b;exact Fw h l b.2 i y (sU a)
section
variable {S:Nat->Prop}{w:World}{β:Bt}{h:AH}{B:Nat}
def RM(H:ca B S w β h){a}{v}(z:aq S w β a v)(o:RL h a):aq (λb=>b<w.heap.size) w β (RK h a) v:=by
 have r:∀b,(S b∨(B<=b∧b<w.heap.size))->b<w.heap.size:=λb q=>q.elim (H.lt b) (·.2);by_cases hp:∃s c,a=.ptr s c
 ·obtain⟨s,c,rfl⟩:=hp
  cases z with
  |ptr _ _ l x=>
  simp[RK];simp[RL]at o
  cases A:h s with
  |none=>exact .any _
  | some blk=>
   cases blk with
   |arr rows rs=>exact .any _
   |row e=>exact .any _
   | box e=>
    simp[A]at o⊢;let⟨g,k,U,T,D,E,X,Y,Z,M⟩:=H.own s _ A;obtain rfl:g=l:=by rw[x]at D;exact(ft D).symm
    have p:∀(j:Nat) a,(rO h e)[j]?=some a->k[g.base+j]?=some (k.getD (g.base+j) undef)∧(k.getD (g.base+j) undef).oneCell'=true∧aq (λb=>b<w.heap.size) w ce a (k.getD (g.base+j) undef):=by
     intro j a i;obtain⟨b,q,rfl⟩:=KN h e j a i;let⟨u,G,O,R⟩:=M j b q;have L:k.getD (g.base+j) undef=u:=by rw[aK,G];rfl
     rw[L];exact⟨G,O,mB ((BO H R (Fw h e o.2 j b q)).mono r (b9.refl _ _) (ME.refl _)) (fW _ o.1 j _ i) _⟩
    refine .dp e.length c _ g.f g.base (λj=>if j<e.length then k.getD (g.base+j) undef else .bool false) (Az h e) (fJ E) (λj a i=>?_) (λj=>?_) λj a i=>?_
    ·have f:j<e.length:=by rw[<-Az h e];exact(Em.1 i).1
     rw[aa f,gP E];exact(p j a i).1
    ·show(if j<e.length then k.getD (g.base+j) undef else .bool false).oneCell'=true;by_cases f:j<e.length
     ·rw[aa f];exact(p j _ (aA (by rw[Az];exact f))).2.1
     ·rw[dZ f];rfl
    ·have f:j<e.length:=by rw[<-Az h e];exact(Em.1 i).1
     rw[aa f];exact(p j a i).2.2
 ·have I:RK h a=vR h a:=by cases a<;>first|rfl|exact absurd ⟨_,_,rfl⟩ hp
  have K:RL h a=jU h a:=by cases a<;>first|rfl|exact absurd ⟨_,_,rfl⟩ hp
  rw[I];rw[K]at o;exact(BO H z o).mono r (b9.refl _ _) (ME.refl _)
end
theorem pM.Zs{C}{f}{args}{h}{s}{r}(T:bI C f (KI h args) r)(D:eW (KI h args)=true)(G:XN h args)(E:CQ r=true):pM C.P C.G f args h s (λx h'=>x=r∧h'=h):=by
 let⟨hm,o⟩:=T;refine⟨hm,λB S w β vs H X U c=>?_⟩;refine(o (λb=>b<w.heap.size) w vs (λ_ h=>h) (λg k Z=>(U g k Z).mono H.lt (b9.refl _ _) (ME.refl _)) ⟨by rw[KJ];exact c.1,λi y u p q=>?_⟩).mono ?_
 ·obtain⟨z,K,rfl⟩:=KL h args i y p;exact mB (RM H (c.2 i z u K q) (KM h args G i z K)) (fW _ D i _ p) _
 rintro e w' ⟨v,Y,j,hr⟩;have A:b9 S w w':=b9.ZN (λb a=>j.block b a) H.lt;refine⟨v,S,β,r,h,a9,Y,MD hr E,⟨λs' blk I=>?_,H.inj,λb a=>ei (H.lt b a) j.size,aL H.ZQ j.size⟩,⟨λ_ h=>h,A,j.mono H.ZQ,ME.refl _,λ_ _ hx=>.inl hx,λb a=>.inl a,λb a _=>j.block b a⟩⟩;let⟨l,M,O,R,k1,L,k3,k4,k5,k6⟩:=H.own s' blk I;exact⟨l,M,O,R,k1,(j.block _ (fJ L)).trans L,k3,k4,k5,k6.mono (λ_ h=>h) A (ME.refl _)⟩
def ib(a:Nat->Nat)(K:AH)(s ap:Nat):List (Nat×bj)->Prop
 |[]=>True
 |(i,b)::l=>(Nat.blt (a i) ap=true∧Nat.blt i s=true∧qM s b=true∧K (a i)=some (DI a b))∧ib a K s ap l
theorem ib.get{c:Nat->Nat}{K:AH}{s ap:Nat}:∀{l:List (Nat×bj)},ib c K s ap l->∀x blk,ao l x=some blk->c x<ap∧x<s∧qM s blk=true∧K (c x)=some (DI c blk)
 |[],_,x,blk,h=>by cases h
 | (i,b)::l,a,x,blk,h=>by
  simp[ao]at h
  cases e:Nat.beq i x with
  |true=>
   rw[e]at h;injection h with h;subst h;rw[<-aO e]
   exact⟨aJ a.1.1,aJ a.1.2.1,a.1.2.2.1,a.1.2.2.2⟩
  |false=>rw[e]at h;exact ib.get a.2 x blk h
def UQ(a:Nat->Nat):Nat->Bool
 |0=>true
 |k+1=>(List.range k).all (λj=> !Nat.beq (a j) (a k))&&UQ a k
theorem NG{a:Nat->Nat}:∀{s:Nat},UQ a s=true->∀x y,x<s->y<s->a x=a y->x=y
 |0,_,x,_,b,_,_=>absurd b (dG _)
 | k+1,h,x,y,b,c,e=>by
  simp[UQ,aP,rC,lI,qI]at h;rcases ew x k with h1|h1<;>rcases ew y k with h2|h2
  ·exact NG h.2 x y h1 h2 e
  ·have:y=k:=oT;subst this;have:=h.1 x h1;rw[e]at this;simp at this
  ·have:x=k:=oT;subst this;have:=h.1 y h2;rw[e]at this;simp at this
  ·omega
theorem pM.ZC{P}{G}{f}{args}{L}{s}{bm}(H:pM P G f args (ao L) s bm)(e)(K)(ap)(j:gn (ao L) s=true)(p:ib e K s ap L)(v:UQ e s=true)(u:mS s args=true)
  (b) (i:∀r h',bm r h'->∃o,b (uW (Gg e s ap) r) o∧∀y blk,o y=some blk->(∃x g,h' x=some g∧y=Gg e s ap x∧blk=DI (Gg e s ap) g)∨(K y=some blk∧∀x,x<s->e x≠y)):pM P G f (Bg e args) K ap b:=
 H.frame e K ap j (λx k=>by
  cases q:ao L x with
  |none=>exact absurd q k
  |some blk=>exact(p.get x blk q).2.1) (λx blk k=>let ⟨a,_,c,d⟩:=p.get x blk k;⟨a,c,d⟩) (NG v) u b i
mutual
theorem KO{s:Nat}{σ j:Nat->Nat}(h:∀x,x<s->σ x=j x):∀(a:AV),mR s a=true->uW σ a=uW j a
 | .ptr x c,e=>by simp[uW];rw[h x (by simpa [mR]using e)]
 | .x x r c,e=>by simp[uW];rw[h x (by simpa [mR]using e)]
 | .S x lo n c,e=>by simp[uW];rw[h x (by simpa [mR]using e)]
 | .agg i,e=>by simp[uW];rw[wF h i (by simpa [mR]using e)]
 | .A i,e=>by simp[uW];rw[wF h i (by simpa [mR]using e)]
 | .F f a b,e=>by
  simp[mR]at e;split at e
  ·rename_i k;simp only[uW];rw[wF h a k,wF h b e]
  ·cases e
 | .ZZ g x,e=>by simp[uW];rw[KO h x (by simpa [mR]using e)]
 | .v _,_| .X _ _ _,_| .dp _ _ _,_| .any,_=>by simp[uW]
theorem wF{s:Nat}{σ e:Nat->Nat}(h:∀x,x<s->σ x=e x):∀(a:List AV),mS s a=true->Bg σ a=Bg e a
 |[],_=>by simp[Bg]
 |c::a,b=>by
  simp[mS]at b;split at b
  ·rename_i f;simp only[Bg];rw[KO h c f,wF h a b]
  ·cases b
end
def yL(b)(s ap)(blk)(e:qM s blk=true):DI (Gg b s ap) blk=DI b blk:=by
 have c:∀x,x<s->Gg b s ap x=b x:=λx c=>rL b ad
 cases blk with
 |box a=>simp[DI];rw[wF c a e]
 |arr rows rs=>rfl
 |row a=>simp[DI];rw[wF c a e]
theorem pM.Y_{P}{G}{f}{args}{L}{s}{r}(H:pM P G f args (ao L) s (λx h'=>x=r∧h'=ao L))(b)(K)(ap)(c:gn (ao L) s=true)(k:ib b K s ap L)(v:UQ b s=true)(u:mS s args=true)(z:eP r=true):pM P G f (Bg b args) K ap (λx h'=>x=r∧h'=K):=by
 refine H.ZC b K ap c k v u _ λA h' q=>?_;obtain⟨rfl,rfl⟩:=q;refine⟨K,⟨nf _ _ z,rfl⟩,λy blk i=>?_⟩;by_cases p:∃x,x<s∧b x=y
 ·obtain⟨x,g,rfl⟩:=p;let⟨a,j⟩:=DQ.1 (uH c x g);have o:=k.get x a j;rw[o.2.2.2]at i;injection i with i;refine .inl ⟨x,a,j,(rL b ad).symm,?_⟩;rw[<-i];exact(yL b s ap a o.2.2.1).symm
 exact .inr ⟨i,λx g e=>p ⟨x,g,e⟩⟩
structure jw(F:Fence)(P:Program):Prop where
 fn:∀f,F.fn f
 YI:F.depth=none
 calls:∀{f args w R} (m:Nat),Calls P f args w R->CallsIn F m P f args w R
 rows:∀{r args w R} (m:Nat),Rows P r args w R->RowsIn F m P r args w R
def Fy{n:Nat}{P:Program}{row:String}{args:Array Value}{w:World}{R:Value->World->Prop}(h:Rows P row args w R):RowsIn Fence.wide n P row args w R:=
 λc a _=>let ⟨v,b,r,s⟩:=h c a;⟨v,b,r,stepsIn_wide.2 s⟩
def Eg(P:Program):jw Fence.wide P:=⟨λ_=>trivial,rfl,λ_ h=>callsIn_wide.2 h,λ_ h=>Fy h⟩
def KR(P:Program)(l:Nat):jw (Fence.wide.inRound l) P:=⟨λ_=>trivial,rfl,λ_ h=>CallsIn.inRound l (callsIn_wide.2 h),λm h=>(Fy (n:=m) h:_)⟩
def gg(kp:Nat->Bool)(a b:Act):Prop:=∀i,kp i=true->b.tmps.getD i undef=a.tmps.getD i undef
theorem gg.refl(kp:Nat->Bool)(a:Act):gg kp a a:=λ_ _=>rfl
theorem gg.trans{kp}{a b c}(h:gg kp a b)(k:gg kp b c):gg kp a c:=λi e=>(k i e).trans (h i e)
def RO(o:Oper):Bool:=match o.op with| .defer _=>false|_=>true
def KS(kp:Nat->Bool)(o:Oper):Bool:=match o.dst with|some d=> !kp d|none=>true
def KT(kp:Nat->Bool)(l:List Oper):Bool:=l.all λo=>RO o&&KS kp o
def NL{kp}{o}(b:KS kp o=true)(a)(f)(v):gg kp a ({a with defers:=f}.put o.dst v):=by
 intro i j;unfold KS at b
 cases g:o.dst with
 |none=>rfl
 |some k=>
  rw[g]at b;have c:i≠k:=λe=>by subst e;simp[j]at b
  simp[Act.put,aK,cY (Ne.symm c)]
section
variable {F:Fence}{m:Nat}{P:Program}{ops:Array Oper}{Q Q':Exit->Act->World->Prop}{kp:Nat->Bool}
def XQ(i:jw F P){o}(b:RO o=true)(u: ¬LetsOut Q)(q:∀c a w,Q (.panic c) a w->Q' (.panic c) a w){a}{w}{K}(h:o.wp P a w K Q):
  o.wpIn F m P a w (λp k=>K p k∧∃v A,p={a with defers:=A}.put o.dst v) Q':=by
 unfold Oper.wpIn;refine⟨λf _=>i.fn f,?_⟩;rw[Oper.semAt_eq _ _ _ (λc D=>by unfold RO at b;rw[D]at b;cases b)];unfold Oper.wp at h;generalize (execOp a.eval o).run P w=r at h;have j:F.depth.isSome=true->1<=m:=λb=>by rw[i.YI]at b;cases b
 cases r with
 | ok n k=>
  cases n with
  |value v=>exact⟨h,v,a.defers,rfl⟩
  |skip=>exact⟨h,undef,a.defers,rfl⟩
  |defer d=>exact⟨h,undef,d::a.defers,rfl⟩
  |enter f args=>
   refine⟨j,i.calls _ (Calls.mono h λe z g=>?_)⟩
   cases e with
   |returned v=>exact⟨g,v,a.defers,rfl⟩
   |panicked c=>exact q _ _ _ g
   |outgrown=>exact absurd g u
  |row r args=>exact⟨j,i.rows _ (Rows.mono h λv z g=>⟨g,v,a.defers,rfl⟩)⟩
  |_=>exact h.elim
 |halt x k=>cases x<;>first|exact q _ _ _ h|exact h.elim
def Mh(p:jw F P){o}(A:RO o=true)(r:KS kp o=true)(i: ¬LetsOut Q)(z:∀c a w,Q (.panic c) a w->Q' (.panic c) a w){a}{w}{K j}
  (h:if Region.wanted o (yielded ops a.tmps)then o.wp P a w K Q∨(o.asks P a w∧LetsOut Q)else K (a.put o.dst undef) w) (q:∀b g,K b g->gg kp a b->j b g):
  if Region.wanted o (yielded ops a.tmps)then o.wpIn F m P a w j Q' else(∀f,o.about P w a.eval=some f->F.fn f)∧j (a.put o.dst undef) w:=by
 split
 ·rename_i k;simp[k,fD]at h;rcases h with h|⟨_,h⟩
  ·exact Oper.wpIn_mono (λb g ⟨x,v,u,e⟩=>q b g x (by rw[e];exact NL r a u v)) (XQ p A i z h)
  exact absurd h i
 rename_i k;simp[k]at h;exact⟨λf _=>p.fn f,q _ _ h (NL r a a.defers undef)⟩
def ou(kp:Nat->Bool)(a0:Act)(Q:Exit->Act->World->Prop):Exit->Act->World->Prop:=λe a w=>Q e a w∧(e=.normal->gg kp a0 a)
def Jc(a:KT kp ops.toList=true){i:Nat}{o}(b:ops[i]?=some o):RO o=true∧KS kp o=true:=by
 have:=rC.1 a o (aB (by rw[bQ];exact b));simpa using this
theorem Jd(g:jw F P)(j:KT kp ops.toList=true)(b: ¬LetsOut Q){a0:Act}:∀(l:List Nat) (a:Act) (w:World),wpOps P ops Q l a w->gg kp a0 a->wpOpsIn F m P ops (ou kp a0 Q) l a w
 |[],a,w,h,f=>⟨h,λ_=>f⟩
 | i::l,a,w,h,f=>by
  simp[wpOps]at h;simp[wpOpsIn]
  cases k:ops[i]? with
  |none=>rw[k]at h;exact Jd g j b l a w h f
  |some o=>
   rw[k]at h;let⟨r,u⟩:=Jc j k;exact Mh (ops:=ops) g r u b (λc a w q=>⟨q,λe=>by cases e⟩) h λp z v x=>Jd g j b l p z v (f.trans x)
theorem CA(k:jw F P)(p:KT kp ops.toList=true)(g: ¬LetsOut Q){a0:Act}:∀(fuel:Nat) (b:Array Bool) (a:Act) (w:World),wpAny P .any ops Q fuel b a w->gg kp a0 a->wpAnyIn F m P .any ops (ou kp a0 Q) fuel b a w
 |0,b,a,w,h,j=>⟨h.1,h.2,λ_=>j⟩
 | fuel+1,b,a,w,h,j=>by
  refine⟨λE=>⟨h.1 E,λ_=>j⟩,λi z=>?_⟩;have f:=h.2 i z;unfold wpOp at f;unfold wpOpIn
  cases r:ops[i]? with
  |none=>rw[r]at f;exact CA k p g fuel _ a w f j
  |some o=>
   rw[r]at f;let⟨v,x⟩:=Jc p r;exact Mh (ops:=ops) k v x g (λc a w q=>⟨q,λe=>by cases e⟩) f λu G A D=>CA k p g fuel _ u G A (j.trans D)
end
def oO(N:Nat)(kp:Nat->Bool):Code->Bool
 | .region _ ops _=>vK N ops.toList&&KT kp ops.toList
 | .seq a b=>oO N kp a&&oO N kp b
 | .cond _ a b=>oO N kp a&&oO N kp b
 | .block _ b=>oO N kp b
 | .loop _=>false
 |_=>true
section
variable {F:Fence}{m:Nat}{C:az}{V:Inv C.fr}{w0:World}{S0:Nat->Prop}{N:Nat}{kp:Nat->Bool}{a0:Act}
def s8(C:az)(V:Inv C.fr)(w0:World)(S0:Nat->Prop)(N:Nat)(kp:Nat->Bool)(a0:Act)(Q:cg->ay->Prop)(e:Exit)(a:Act)(w:World):Prop:=∃c b S β,e=Gq c∧Q c b∧bn C V w0 S0 N (· <b.n) b.t b.h a w S β∧gg kp a0 a
def BI(T:jw F C.P)(O:b0 C):∀(c:Code),oO N kp c=true->∀(j:ay) (Q:cg->ay->Prop),eA C (bI C) c j Q->∀(a:Act) (w:World) (S:Nat->Prop) (β:Bt),bn C V w0 S0 N (· <j.n) j.t j.h a w S β->gg kp a0 a->
  c.wpIn F m C.P (s8 C V w0 S0 N kp a0 Q) a w:=by
 intro c
 induction c with
 |skip=>intro _ j Q hq a w S β M r;exact wpIn_skip ⟨.normal,j,S,β,rfl,hq,M,r⟩
 |label l=>intro _ j Q hq a w S β M r;exact wpIn_label ⟨.normal,j,S,β,rfl,hq,M,r⟩
 |exit id=>intro _ j Q hq a w S β M r;exact wpIn_exit ⟨.exit id,j,S,β,rfl,hq,M,r⟩
 |ret=>intro _ j Q hq a w S β M r;exact wpIn_ret ⟨.ret,j,S,β,rfl,hq,M,r⟩
 | region id ops dr=>
  intro o j Q hq a w S β M r;simp[oO,aP]at o;let⟨t,h,n⟩:=j;simp[eA]at hq;let⟨H,R⟩:∃H:Exit->Act->World->Prop,H=λe a w=>e=.normal∧∃j S β,Q .normal j∧bn C V w0 S0 N (· <j.n) j.t j.h a w S β:=⟨_,rfl⟩;have K: ¬LetsOut H:=by rintro⟨a,w,h⟩;rw[R]at h;cases h.1
  have Y:∀e a w,ou kp a0 H e a w->s8 C V w0 S0 N kp a0 Q e a w:=by
   rintro e a w ⟨k,q⟩;rw[R]at k;obtain⟨rfl,j,S,β,u,L⟩:=k;exact⟨.normal,j,S,β,rfl,u,L,q rfl⟩
  have X:∀f v z p g,Q .normal f->bn C V w0 S0 N (· <f.n) f.t f.h v z p g->H .normal v z:=λf v z p g k q=>by rw[R];exact⟨rfl,f,p,g,k,q⟩
  cases dr with
  |false=>
   simp[pW]at hq;have:=Ev (Q:=H) (K:=Q .normal) O (ops:=ops) rfl o.1 ops.toList 0 t h a w S β rfl hq M X;rw[show List.range' 0 ops.toList.length=List.range ops.size by rw[nZ,cV]]at this
   exact wpIn_mono (wpIn_region (Jd T o.2 K _ a w this r)) Y
  | true=>
   simp[kL]at hq;refine wpIn_mono (wpIn_region_any O.mixed (Q:=ou kp a0 H) ?_) Y
   cases U:FN ops.toList with
   |true=>
    rw[U]at hq;rcases hq with hq|⟨_,hq⟩
    rotate_left
    ·exact CA T o.2 K _ _ _ _ (Es (C:=C.Z0) (V:=V) O.Z0 (λ_ _ _ _ _ h=>h) o.1 hq (bn.Z0 M) (λf v z p g D A=>X f v z p g D (bn.ZF A))) r
    have A:=M.drawn (w.drawn+1)
    exact CA T o.2 K _ _ _ _ (CL (C:=C.Z0) (V:=V) O.Z0 (λ_ _ _ _ _ h=>h) o.1 (λf v z p g D A=>X f v z p g D (bn.ZF A)) ops.size _ t h a _ S β (by simp) hq ⟨A.T,A.H,A.B,λy l hy=>.inl (A.Z2 y l hy),A.df,A.a,A.G,A.nw,A.iv⟩) r
   |false=>
   rw[U]at hq;have hd:JO ops.toList=true:=by simp[FN,dP,mJ]at U;exact U.2
   exact CA T o.2 K _ _ _ _ (Gw (C:=C.Z0) (V:=V) O.Z0 (λ_ _ _ _ _ h=>h) o.1 hd hq (bn.Z0 M) (λf v z p g D A=>X f v z p g D (bn.ZF A))) r
 | seq x y E G=>
  intro o j Q hq a w S β M r;simp[oO,aP]at o;simp[eA]at hq;rcases hq with hq|hq|hq
  ·refine wpIn_seq (wpIn_mono (E o.1 j _ hq a w S β M r) ?_);rintro e v z ⟨I,f,p,g,rfl,k,q,u⟩
   cases I with
   |normal=>exact G o.2 f Q k v z p g q u
   |exit i=>exact⟨.exit i,f,p,g,rfl,k,q,u⟩
   |ret=>exact⟨.ret,f,p,g,rfl,k,q,u⟩
  ·refine wpIn_seq (wpIn_mono (E o.1 j _ hq a w S β M r) ?_);rintro e v z ⟨I,f,p,g,rfl,k,q,u⟩
   cases I with
   |normal=>
    let⟨Z,ag,al⟩:=k;let⟨S2,L⟩:=nK ag q
    exact G o.2 Z Q al v z S2 g L u
   |exit i=>exact⟨.exit i,f,p,g,rfl,k,q,u⟩
   |ret=>exact⟨.ret,f,p,g,rfl,k,q,u⟩
  ·refine wpIn_seq (wpIn_mono (E o.1 j _ hq a w S β M r) ?_);rintro e v z ⟨I,f,p,g,rfl,k,q,u⟩
   cases I with
   |normal=>
    let⟨Z,ag,bb,σ,bd,hf,al⟩:=k;let⟨S2,L⟩:=nK ag q
    exact G o.2 bb Q al v z S2 _ (pK bd hf L) u
   |exit i=>exact⟨.exit i,f,p,g,rfl,k,q,u⟩
   |ret=>exact⟨.ret,f,p,g,rfl,k,q,u⟩
 | cond c x y E G=>
  intro o j Q hq a w S β M r;simp[oO,aP]at o;simp[eA]at hq;split at hq
  ·rename_i b hb;let⟨k,q⟩:=hq;have hv:=sY M c;rw[hb]at hv;refine wpIn_cond_split (lV hv) (λab=>E o.1 j Q (k ab) a w S β M r) (λhf=>G o.2 j Q (q hf) a w S β M r)
  ·exact hq.elim
 | block id b ih=>
  intro o j Q hq a w S β M r;simp[oO]at o;simp[eA]at hq;refine wpIn_block (wpIn_mono (ih o j _ hq a w S β M r) ?_);rintro e v z ⟨I,f,p,g,rfl,k,q,u⟩
  cases I with
  |normal=>exact⟨.normal,f,p,g,rfl,k,q,u⟩
  |ret=>exact⟨.ret,f,p,g,rfl,k,q,u⟩
  | exit i=>
   show Exit.inBlock id _ (.exit i) v z;simp only at k;simp[Exit.inBlock];by_cases hi:i=id
   ·subst hi;rw[aa rfl];rw[show Nat.beq i i=true from nG i]at k;exact⟨.normal,f,p,g,rfl,k,q,u⟩
   ·rw[dZ hi];have:Nat.beq i id=false:=by rw[<-eJ];exact λe=>hi (aO e)
    rw[this]at k
    exact⟨.exit i,f,p,g,rfl,k,q,u⟩
 |loop b ih=>intro o;simp[oO]at o
 |_=>intro _ j Q hq;exact hq.elim
theorem BJ(T:jw F C.P)(R:b0 C)(Y:ko C){ops:Array Oper}{b:List Oper}(k:ops.toList=b)(H:vK N b=true)(X:KT kp b=true){K:ay->Prop}{Q:Exit->Act->World->Prop}{n:Nat}(post:List Nat):∀(rest:List Oper) (j:Nat) (t:Nat->AV) (h:AH) (a:Act) (w:World) (S:Nat->Prop) (β:Bt),(∃q,b.drop j=rest++q)->jS C (bI C) b rest j ⟨t,h,n⟩ K->bn C V w0 S0 N (· <n+j) t h a w S β->gg kp a0 a->
  (∀z p u r g,K z->bn C V w0 S0 N (· <z.n) z.t z.h p u r g->gg kp a0 p->wpOpsIn F m C.P ops Q post p u)->wpOpsIn F m C.P ops Q (List.range' j rest.length++post) a w
 |[],j,t,h,a,w,S,β,_,L,M,O,G=>G ⟨t,h,n+j⟩ a w S β L M O
 | o::rest,j,t,h,a,w,S,β,⟨q,v⟩,L,M,O,G=>by
  let⟨x,h',Z,h2⟩:=(nu L).resolve_right (λ⟨_,f,args,bm,_,hh,_⟩=>Y _ _ _ _ _ hh);have U:b[j]?=some o:=by
   have:(b.drop j)[0]?=some o:=by rw[v];rfl
   simpa using this
  have D:ops[j]?=some o:=by rw[<-U, <-k,bQ]
  have I:o∈b:=aB U;have hs:β (n+j)=none:=by
   cases hq:β (n+j)with
   |none=>rfl
   |some l=>have:=M.Z2 _ _ hq;omega
  let⟨ag,al⟩:=Jc (ops:=ops) (kp:=kp) (by rw[k];exact X) D;rw[bN,nX,nV];simp[wpOpsIn,D];let⟨E,A⟩:∃E:Exit->Act->World->Prop,E=λ_ _ _=>False:=⟨_,rfl⟩;refine Mh (ops:=ops) (Q:=E) T ag al (by rintro⟨a,w,h⟩;rw[A]at h;exact h) (λc a w h=>by rw[A]at h;exact h.elim)
   (xQ (K:=λp u=>∃r g,bn C V w0 S0 N (λy=>y<n+j∨y=n+j) (Aa t o.dst x) h' p u r g) R M hs k Z (wU H I) (λi aa d _ hd=>BP H i d hd) λp u r g e=>⟨r,g,e⟩) ?_
  rintro p u ⟨r,g,e⟩ hm;refine BJ T R Y k H X post rest (j+1) _ h' p u r g ⟨q,?_⟩ h2 ?_ (O.trans hm) G
  ·rw[<-lH,v];rfl
  ·exact⟨e.T,e.H,e.B,λy l hy=>(e.Z2 y l hy).elim (λ(h:y<n+j)=>(oT:y<n+(j+1))) (λ(h:y=n+j)=>(oT:y<n+(j+1))),e.df,e.a,e.G,e.nw,e.iv⟩
end
structure dg(K:Nat->Prop)(w w':World):Prop where
 os:w'.os=w.os
 tape:w'.tape=w.tape
 output:w'.output=w.output
 size:w.heap.size<=w'.heap.size
 block:∀b,b<w.heap.size->K b->w'.heap[b]?=w.heap[b]?
theorem dg.refl(K:Nat->Prop)(w:World):dg K w w:=⟨rfl,rfl,rfl,aC _,λ_ _ _=>rfl⟩
theorem dg.trans{K}{a b c}(h:dg K a b)(k:dg K b c):dg K a c:=
 ⟨k.os.trans h.os,k.tape.trans h.tape,k.output.trans h.output,aL h.size k.size,λx f e=>(k.block x (ei f h.size) e).trans (h.block x f e)⟩
theorem dg.mono{K c}{a b}(h:dg K a b)(g:∀x,x<a.heap.size->c x->K x):dg c a b:=⟨h.os,h.tape,h.output,h.size,λx e f=>h.block x e (g x e f)⟩
theorem dg.Zm{K}{n}{a b}(h:Below n a b)(c:∀x,K x->x<n):dg K a b:=⟨h.os,h.tape,h.output,h.size,λx _ e=>h.block x (c x e)⟩
def Jb{F}{m}{P}{ops}{Q}{i}{rest}{o}{a}{w}(c:ops[i]?=some o)(b:o.guard=none)(h:o.wpIn F m P a w (wpOpsIn F m P ops Q rest) Q):wpOpsIn F m P ops Q (i::rest) a w:=by
 have:Region.wanted o (yielded ops a.tmps)=true:=by simp[Region.wanted,b]
 simp[wpOpsIn,c,this,fD];exact h
def Mg{F}{m l}{P}(q:jw F P){o:Oper}{f}{args}{p}{x}{a}{w}{K}{Q}{R:Bool->World->Prop}
  (v:o.op=.call {callee:=.value f,args:=args,argTypes:=p}) (H:a.eval f=.func (.yield l) #[] #[]) (E:args.map a.eval=x) (j:YieldAt F m P l x w λe g=>∃b,e=.returned (.bool b)∧R b g)
  (A:∀b g,R b g->K (a.put o.dst (.bool b)) g):o.wpIn F (m+1) P a w K Q:=by
 let⟨z,k,assign,i,j,D⟩:=j;unfold Oper.wpIn;refine⟨λf _=>q.fn f,?_⟩;rw[Oper.semAt_eq _ _ _ (λc r=>by rw[v]at r;cases r)];have G:(execOp a.eval o).run P w=.ok (.round l z k assign i) w:=by
  rw[<-j];simp[execOp,v,resolve,Deferred.ofValue,H,E];simp[invoke]
 rw[G,Oper.uponIn_round];refine⟨λu=>(by rw[q.YI]at u;cases u),D.mono ?_⟩;rintro e g ⟨b,rfl,I⟩;exact A b g I
def sc{α:Type}(P:Program)(g:Nat)(lb:Array Value)(encs:α->Array Value)(xs:List α)(R:Nat->Prop)(w:World):Prop:=
 ∀ (l:Nat) (J:Bool->(Nat->Prop)->List α->World->Prop) (C0:Nat->Prop) (W:World),
  dg R w W->(∀b,R b-> ¬C0 b)->
  (∀s C pre A B,J s C pre A->dg (λb=>b<W.heap.size∨C b) A B->J s C pre B)->
  (∀s C pre A,J s C pre A->∀b,C b->b<A.heap.size)->
  (∀C pre x A,J false C pre A->pre++[x] <+: xs->YieldAt Fence.wide 1 P l (encs x) A λe B=>∃b,e=.returned (.bool b)∧
   ∃a,J (!b) a (pre++[x]) B∧dg (λb=> ¬C b) A B∧(∀b,a b->C b∨A.heap.size<=b))->
  J false C0 [] W->
  Calls P g (#[.func (.yield l) #[] #[]]++lb) W λe c=>(∃v,e=.returned v)∧((∃C,J false C xs c)∨∃C pre,pre <+: xs∧J true C pre c)
def Fx{α:Type}{P:Program}{g:Operand}{ps:Array Tmp}{assign body:Code}{Q:Exit->Act->World->Prop}{a:Act}{w:World}
  {gf:Nat} {lb:Array Value} (hg:a.eval g=.func (.func gf) #[] lb) (eg:∀args w,(callFunc gf args).run P w=.ok (.enter gf args) w)
  {encs:α->Array Value} {xs:List α} {R:Nat->Prop} {w0:World} (hseq:sc P gf lb encs xs R w0) (hR:dg R w0 w) (hRlt:∀b,R b->b<w0.heap.size) (hps:∀x,(encs x).size=ps.size)
  (I Ix:(Nat->Prop)->List α->World->Prop) (IA:(Nat->Prop)->List α->α->Act->World->Prop) (C0:Nat->Prop) (hC0:∀b,C0 b->b<w.heap.size) (hCR:∀b,R b-> ¬C0 b)
  (hI:∀C pre A B,I C pre A->dg (λb=>b<w.heap.size∨C b) A B->I C pre B)
  (hIx:∀C pre A B,Ix C pre A->dg (λb=>b<w.heap.size∨C b) A B->Ix C pre B)
  (hIA:∀C pre x a A B,IA C pre x a A->dg (λb=>b<w.heap.size∨C b) A B->IA C pre x a B)
  (hlt:∀C pre A,I C pre A->∀b,C b->b<A.heap.size) (hltx:∀C pre A,Ix C pre A->∀b,C b->b<A.heap.size)
  (h0:I C0 [] w)
  (hassign:∀(l:Nat) (C:Nat->Prop) (pre:List α) (x:α) (A:World),I C pre A->pre++[x] <+: xs->w.heap.size<=A.heap.size->
   assign.wpIn (Fence.wide.inRound l) 1 P (Exit.then (λa1 B=>∃C',IA C' pre x a1 B∧dg (λb=> ¬C b) A B∧(∀b,C' b->C b∨A.heap.size<=b)) (λ_ _ _=>False))
    {tmps:=(ps.zip (encs x)).foldl (λt (p,v)=>t.setIfInBounds p v) a.tmps,defers:=[]} A)
  (hbody:∀(l:Nat) (C:Nat->Prop) (pre:List α) (x:α) (a1:Act) (A:World),IA C pre x a1 A->pre++[x] <+: xs->w.heap.size<=A.heap.size->
   body.wpIn (Fence.wide.inRound l) 1 P (λe _ B=>∃C',dg (λb=> ¬C b) A B∧(∀b,C' b->C b∨A.heap.size<=b)∧((e=.normal∧I C' (pre++[x]) B)∨(e=.ret∧Ix C' (pre++[x]) B))) a1 A)
  (hdone:∀(D:Nat) (C:Nat->Prop) (W:World),w.heap.size<=D->I C xs W-> ¬C D->W.heap[D]?=some (.deferred (some []))->Q .normal {a with defers:={target:=.collected D,args:= #[]}::a.defers} W)
  (hstop:∀(D:Nat) (C:Nat->Prop) (pre:List α) (W:World),w.heap.size<=D->pre <+: xs->Ix C pre W-> ¬C D->W.heap[D]?=some (.deferred (some []))->Q .ret {a with defers:={target:=.collected D,args:= #[]}::a.defers} W):
  (Code.rangeFunc g ps assign body).wp P Q a w:=by
 refine(wpIn_wide (n:=3)).1 (wpIn_rangeFunc ?_);intro fn hfn;let⟨rec,hrec⟩:∃rec:LoopState->Option Code->Loop,rec=λst pe=>{state:=st,pending:=pe,fn,tmps:=a.tmps,params:=ps,assign,body,defers:=w.heap.size}:=⟨_,rfl⟩;let⟨W1,hW1⟩:∃W1,(w.alloc (.deferred (some []))).alloc (.loop (rec .ready none))=W1:=⟨_,rfl⟩;have hs1:W1.heap.size=w.heap.size+2:=by rw[<-hW1];simp
 have hL1:W1.heap[w.heap.size+1]?=some (.loop (rec .ready none)):=by
  rw[<-hW1];have:=World.alloc_heap_new (w.alloc (.deferred (some []))) (.loop (rec .ready none));rwa [World.size_alloc]at this
 have hK1:W1.heap[w.heap.size]?=some (.deferred (some [])):=by
  rw[<-hW1];exact(Below.heap_alloc _ _ _ (by simp)).trans (World.alloc_heap_new w _)
 have hb1:Below w.heap.size w W1:=by
  rw[<-hW1];exact((Below.refl _ w).alloc (aC _) _).alloc (by simp) _
 have hput:∀(K:Nat->Prop) (A:World) (o:Obj), ¬K (w.heap.size+1)->dg K A (A.putObj (w.heap.size+1) o):=λK A o hk=>
  ⟨rfl,rfl,rfl,by simp,λb _ hb=>World.putObj_heap_other (λe=>hk (e ▸ hb))⟩
 refine⟨w.heap.size+1,[{target:=.collected w.heap.size,args:= #[]}],W1,{target:=.fn (.func gf) lb,args:= #[.func (.yield (w.heap.size+1)) #[] #[]]},W1,gf,
  #[.func (.yield (w.heap.size+1)) #[] #[]]++lb,W1,?_,?_,?_,?_,λ_=>by omega,?_⟩
 ·rw[<-hW1,hrec];exact run_enterLoop_outer _ _ _ _ _
 ·simp[resolve,hg];simp[go_sem]
 ·intro f' _;trivial
 ·simp[invoke,go_sem,eg]
 refine callsIn_wide.2 ((hseq (w.heap.size+1)
  (λs CC pre A=>∃C,(bif s then Ix else I) C pre A∧(∀b,CC b↔C b∨b=w.heap.size+1)∧(∀b,C b->b<w.heap.size∨w.heap.size+1<b)∧A.heap[w.heap.size+1]?=some (.loop (bif s then rec .done (some .ret)else rec .ready none))∧A.heap[w.heap.size]?=some (.deferred (some [])))
  (λb=>C0 b∨b=w.heap.size+1) W1 ?_ ?_ ?_ ?_ ?_ ?_).mono ?_)
 ·exact hR.trans (dg.Zm hb1 λx hx=>ei (hRlt x hx) hR.size)
 ·rintro b hb (h|h)
  ·exact hCR b hb h
  have:=hRlt b hb;have:=hR.size;omega
 ·rintro s CC pre A B ⟨C,hi,hc,hcl,hl,hk⟩ hs;have l1:=(DP.1 hl).1;refine⟨C,?_,hc,hcl,(hs.block _ l1 (.inl oT)).trans hl,(hs.block _ ((DP.1 hk).1) (.inl oT)).trans hk⟩;have hs':dg (λb=>b<w.heap.size∨C b) A B:=hs.mono λx _ hx=>hx.elim (λh=>.inl oT) (λh=>.inr ((hc x).2 (.inl h)));cases s
  ·exact hI C pre A B hi hs'
  exact hIx C pre A B hi hs'
 ·rintro s CC pre A ⟨C,hi,hc,hcl,hl,hk⟩ b hb;rcases(hc b).1 hb with h|h
  ·cases s
   ·exact hlt C pre A hi b h
   exact hltx C pre A hi b h
  rw[h];exact(DP.1 hl).1
 ·rintro CC pre x A ⟨C,hi,hc,hcl,hl,hk⟩ hpre;have l1:=(DP.1 hl).1;have hnr: ¬C (w.heap.size+1):=λh=>by have:=hcl _ h;omega
  have hnd: ¬C (w.heap.size):=λh=>by have:=hcl _ h;omega
  have hy:=run_yield (P:=P) (args:=encs x) hl (by rw[hrec];exact hps x);rw[hrec]at hy;refine⟨fn,_,assign,body,hy,roundIn_of_wpIn trivial (wpIn_mono (hassign _ C pre x A hi hpre oT) ?_)⟩;intro e a1 B hB;cases e<;>try exact hB.elim
  let⟨C',hia,hsB,hgrow⟩:=hB;have hlB:B.heap[w.heap.size+1]?=some (.loop (rec .ready none)):=(hsB.block _ l1 hnr).trans hl;have hkB:B.heap[w.heap.size]?=some (.deferred (some [])):=(hsB.block _ oT hnd).trans hk;have hnr': ¬C' (w.heap.size+1):=λh=>(hgrow _ h).elim hnr (λh=>by omega);have hnd': ¬C' (w.heap.size):=λh=>(hgrow _ h).elim hnd (λh=>by omega);have lB:=(DP.1 hlB).1;refine⟨_,run_beginRound hlB (by rw[hrec]),?_⟩;have hl2:(B.putObj (w.heap.size+1) (.loop {rec .ready none with state:=.busy})).heap[w.heap.size+1]?=some (.loop {rec .ready none with state:=.busy}):=World.putObj_heap_same lB;have hk2:(B.putObj (w.heap.size+1) (.loop {rec .ready none with state:=.busy})).heap[w.heap.size]?=some (.deferred (some [])):=(World.putObj_heap_other oT).trans hkB;apply wpIn_mono (hbody _ C' pre x a1 _ (hIA C' pre x a1 B _ hia (hput (λb=>b<w.heap.size∨C' b) B (.loop {rec .ready none with state:=.busy}) (by rintro(h|h);omega;exact hnr' h))) hpre (by simp;omega));rintro e a3 W3 ⟨C3,hs3,hg3,hi3⟩;have hl3:W3.heap[w.heap.size+1]?=some (.loop {rec .ready none with state:=.busy}):=(hs3.block _ (by simp;omega) hnr').trans hl2;have hk3:W3.heap[w.heap.size]?=some (.deferred (some [])):=(hs3.block _ (by simp;omega) hnd').trans hk2;have l3:=(DP.1 hl3).1;have hnr3: ¬C3 (w.heap.size+1):=λh=>(hg3 _ h).elim hnr' (λh=>by simp at h;omega);have hcl3:∀b,C3 b->b<w.heap.size∨w.heap.size+1<b:=by
   intro b hb;rcases hg3 b hb with h|h
   ·rcases hgrow b h with h|h
    ·exact hcl b h
    right;omega
   simp at h;right;omega
  have hcat:∀o,dg (λb=> ¬CC b) A (W3.putObj (w.heap.size+1) o):=λo=>by
   have q1:dg (λb=> ¬CC b) A B:=hsB.mono λb _ hb h=>hb ((hc b).2 (.inl h));have q2:dg (λb=> ¬CC b) B (B.putObj (w.heap.size+1) (.loop {rec .ready none with state:=.busy})):=hput _ _ _ (λh=>h ((hc _).2 (.inr rfl)));have q4:dg (λb=> ¬CC b) W3 _:=hput (λb=> ¬CC b) W3 o (λh=>h ((hc _).2 (.inr rfl)));refine dg.trans ?_ q4;have q3:∀b,b<A.heap.size-> ¬CC b->W3.heap[b]?=A.heap[b]? :=λb hb hcc=>by
    have nC: ¬C b:=λh=>hcc ((hc b).2 (.inl h));have nC': ¬C' b:=λh=>(hgrow b h).elim nC (λh=>by omega);rw[hs3.block b (by simp;exact ei hb hsB.size) nC',q2.block b (ei hb hsB.size) hcc,q1.block b hb hcc]
   exact⟨hs3.os.trans hsB.os,hs3.tape.trans hsB.tape,hs3.output.trans hsB.output,aL hsB.size (by have:=hs3.size;simpa using this),q3⟩
  have grow:∀b,(C3 b∨b=w.heap.size+1)->CC b∨A.heap.size<=b:=by
   rintro b (h|h)
   ·rcases hg3 b h with h|h
    ·exact(hgrow b h).imp (λh=>(hc b).2 (.inl h)) id
    exact .inr (aL hsB.size (sU h))
   exact .inl ((hc b).2 (.inr h))
  rcases hi3 with ⟨rfl,hi3⟩|⟨rfl,hi3⟩
  all_goals
   first|(have hr:=run_endRound (P:=P) (none:Option Code) hl3;refine⟨_,_,hr,true,rfl,λb=>C3 b∨b=w.heap.size+1,⟨C3,?_,λb=>Iff.rfl,hcl3,?_,?_⟩,hcat _,grow⟩)|(have hr:=run_endRound (P:=P) (some Code.ret) hl3;refine⟨_,_,hr,false,rfl,λb=>C3 b∨b=w.heap.size+1,⟨C3,?_,λb=>Iff.rfl,hcl3,?_,?_⟩,hcat _,grow⟩)
   ·first|(exact hI C3 _ W3 _ hi3 (hput _ W3 _ (by rintro(h|h);omega;exact hnr3 h)))|(exact hIx C3 _ W3 _ hi3 (hput _ W3 _ (by rintro(h|h);omega;exact hnr3 h)))
   ·rw[World.putObj_heap_same l3,hrec];rfl
   exact(World.putObj_heap_other oT).trans hk3
 ·refine⟨C0,hI C0 [] w W1 h0 (dg.Zm hb1 λx hx=>hx.elim id (hC0 x)),λb=>Iff.rfl,λb hb=>.inl (hC0 b hb),hL1,hK1⟩
 rintro e W2 ⟨⟨v,rfl⟩,⟨CC,C,hi,hc,hcl,hl,hk⟩|⟨CC,pre,hpre,C,hi,hc,hcl,hl,hk⟩⟩
 all_goals
  have hnr: ¬C (w.heap.size+1):=λh=>by have:=hcl _ h;omega
  have hnd: ¬C (w.heap.size):=λh=>by have:=hcl _ h;omega
  first|(refine⟨none,_,by have:=run_endLoop (P:=P) hl (by rw[hrec];simp);rw[hrec]at this;exact this,?_⟩;exact hdone w.heap.size C _ (aC _) (hI C xs W2 _ hi (hput _ W2 _ (by rintro(h|h);omega;exact hnr h))) hnd ((World.putObj_heap_other oT).trans hk))|(refine⟨some .ret,_,by have:=run_endLoop (P:=P) hl (by rw[hrec];simp);rw[hrec]at this;exact this,wpIn_ret ?_⟩;exact hstop w.heap.size C pre _ (aC _) hpre (hIx C pre W2 _ hi (hput _ W2 _ (by rintro(h|h);omega;exact hnr h))) hnd ((World.putObj_heap_other oT).trans hk))
def kq{S S':Nat->Prop}{w w':World}{β:Bt}{x:AV}{v:Value}(X:aq S w β x v)(M:∀b,S b->S' b)(hS:∀b,S b->w'.heap[b]?=w.heap[b]?):
  (∀s l E e L,β s=some l->w.heap[l.f]?=some (Obj.cells E e L)->∃G:Array Value,w'.heap[l.f]?=some (.cells G e L)∧G.size=E.size)->aq S' w' β x v:=by
 induction X with
 |v x=>intro _;exact .v x
 |agg E K r k h ih=>intro p;exact .agg E K r k λi a u k q=>ih i a u k q p
 |A E K r h ih=>intro p;exact .A E K r λi a u k q=>ih i a u k q p
 |X rs rows D A c b o u R U H I hA Y k X ih=>
  intro _;refine .X rs rows D A c b o u R U H I (λh=>⟨(hA h).1,M _ (hA h).2⟩) (λi row j a k q=>?_) k λi row j a k q=>ih i row j a k q nofun;rw[uC (hS b (hA (bL (aE i) (Em.1 k).1)).2)]
  exact Y i row j a k q
 |dp rs z row b o u I p Y k X ih=>
  intro _
  exact .dp rs z row b o u I (M _ p) (λj a k=>by rw[uC (hS b p)];exact Y j a k) k λj a k=>ih j a k nofun
 |ptr s z l r=>intro p;exact .ptr s z l r
 |x s row z l r=>intro p;exact .x s row z l r
 |S s lo len D l A c r R U H hA E e L p Z=>
  intro aa;let⟨G,k,q⟩:=aa _ _ _ _ _ r p
  exact .S s lo len D l A c r R U H hA G e L k (by rw[q];exact Z)
 |F f first O K us r h ag h' ih al=>intro p;exact .F f first O K us r (λi a u k q=>ih i a u k q p) ag λi a u k q=>al i a u k q p
 |ZP g a x T h ih=>intro p;exact .ZP g a x T (ih p)
 |ZM g a T=>intro _;exact .ZM g a T
 |any x=>intro _;exact .any x
def NJ{β:Bt}{w f:World}(h:∀s l o,β s=some l->w.heap[l.f]?=some o->f.heap[l.f]?=some o):
  ∀s l a e c,β s=some l->w.heap[l.f]?=some (Obj.cells a e c)->∃b:Array Value,f.heap[l.f]?=some (.cells b e c)∧b.size=a.size:=λs l a e c g i=>⟨a,h s l _ g i,rfl⟩
section
variable {C:az}{V V':Inv C.fr}{w0:World}{S0:Nat->Prop}{N:Nat}
theorem bn.move{D}{t}{h}{a}{w c}{S}{β}(M:bn C V w0 S0 N D t h a w S β)(E:∀b,S b->c.heap[b]?=w.heap[b]?)
  (k:∀s l o,β s=some l->w.heap[l.f]?=some o->c.heap[l.f]?=some o) (p:c.os=w.os) (q:c.tape=w.tape) (r:c.output=w.output) (A:w.heap.size<=c.heap.size) (K:∀b,b<w0.heap.size->c.heap[b]?=w.heap[b]?) (O:V'.p S c β):
  bn C V' w0 S0 N D t h a c S β:=by
 refine⟨λi=>kq (M.T i) (λ_ h=>h) E (NJ k),⟨λs blk U=>?_,M.H.inj,λb k=>ei (M.H.lt b k) A,aL M.H.ZQ A⟩,⟨p.trans M.B.os,q.trans M.B.tape,r.trans M.B.output,aL M.B.size A,λb k=>(K b k).trans (M.B.block b k)⟩,M.Z2,M.df,M.a,λg f R=>kq (M.G g f R) (λ_ h=>h) E nofun,M.nw,O⟩;let⟨l,H,e,I,G,X,Y,Z,k5,x⟩:=M.H.own s blk U;refine⟨l,H,e,I,G,k _ _ _ G X,Y,Z,k5,?_⟩;have go:∀a v,aq S w β a v->aq S c β a v:=λa v T=>kq T (λ_ h=>h) E (NJ k)
 cases blk with
 |box f=>exact λj a p=>let ⟨u,q,z,r⟩:=x j a p;⟨u,q,z,go _ _ r⟩
 |arr rows rs=>exact⟨x.1,x.2.1,λi row j a p q=>let ⟨u,r,L,z⟩:=x.2.2 i row j a p q;⟨u,r,L,kq z (λ_ h=>h) E nofun⟩⟩
 |row f=>exact⟨x.1,λj a p=>let ⟨u,q,z,r⟩:=x.2 j a p;⟨u,q,z,go _ _ r⟩⟩
theorem bn.inv{D}{t}{h}{a}{w}{S}{β}(M:bn C V w0 S0 N D t h a w S β)(b:V'.p S w β):bn C V' w0 S0 N D t h a w S β:=⟨M.T,M.H,M.B,M.Z2,M.df,M.a,M.G,M.nw,b⟩
end
def Ba(S:Nat->Prop)(w:World)(β:Bt)(s:Nat):kv S w β s S w β:=
 ⟨λ_ h=>h,b9.refl _ _,aC _,λ_ _ _ h=>h,λx l h=>.inl ⟨x,l,h,rfl⟩,λ_ h=>.inl h,λ_ _ _=>rfl⟩
def RN{α:Type}(C:az)(g:FuncId)(a:List AV)(encs:α->Array Value)(xs:List α):Prop:=
 ∀(R:Nat->Prop) (w:World) (c:List Value),(∀b,R b->b<w.heap.size)->je C R w->bs R w ce a c->sc C.P g c.toArray encs xs R w
def mg(t:Nat->AV):List Nat->List AV->Nat->AV
 |p::a,x::xs=>mg (an t p x) a xs
 |_,_=>t
def VU(m n:Nat)(t:Nat->AV)(h:AH)(e:Prop)(K:cg->ay->Prop):cg->ay->Prop
 | .normal,c=>e∧gm c λa=>∃σ,dj m σ n=true∧cu a ⟨λ_=>.any,h,n⟩ σ
 | .ret,c=>gm c λa=>∃h' b σ,dj m σ b=true∧gn h' b=true∧cu a ⟨λ_=>.any,h',b⟩ σ∧K .ret ⟨t,h',b⟩
 | .exit _,_=>False
inductive nt(C:az)(st:ay)(g:Operand)(ps:List Nat)(asg body:Code)(K:cg->ay->Prop):Prop
 | mk (α:Type) (gf:FuncId) (caps:List AV) (g3:α->List AV) (encs:α->Array Value) (xs:List α) (NX:α->Prop) (m:Nat) (H:List α->AH) (nn:List α->Nat)
   (hg:bh C st.t g=.F gf [] caps) (hcl:eW caps=true) (hfn:∃ fn,C.P.funcs[gf]?=some fn∧fn.body.isSome=true∧(fn.name== "runtime.NumGoroutine")=false)
   (hit:RN C gf caps encs xs) (henc:∀x S w β,bs S w β (g3 x) (encs x).toList) (hps:∀x,(g3 x).length=ps.length)
   (h0:H []=st.h) (n0:nn []=st.n) (hfull:∀pre,gn (H pre) (nn pre)=true) (ht:cu st ⟨st.t,λ_=>none,m⟩ (λs=>s))
   (round:∀pre x,pre++[x] <+: xs->(∀y,y∈pre->NX y)->eA (C.at m) (bI (C.at m)) asg ⟨mg st.t ps (g3 x),H pre,nn pre⟩ (λe st1=>e=.normal∧eA (C.at m) (bI (C.at m)) body st1 (VU m (nn (pre++[x])) st.t (H (pre++[x])) (NX x) K)))
   (done:(∀y,y∈xs->NX y)->K .normal ⟨st.t,H xs,nn xs⟩):nt C st g ps asg body K
theorem NK{S:Nat->Prop}{w:World}{β:Bt}:∀(b:List Nat) (xs:List AV) (e:List Value) (t:Nat->AV) (c:Array Value),xs.length=e.length->b.length=xs.length->(∀p∈b,p<c.size)->
  (∀i,aq S w β (t i) (c.getD i undef))->(∀(i:Nat) a u,xs[i]?=some a->e[i]?=some u->aq S w β a u)->
  ∀i,aq S w β (mg t b xs i) (((b.zip e).foldl (λt (p,v)=>t.setIfInBounds p v) c).getD i undef)
 |[],xs,e,t,c,_,_,_,f,_=>f
 |p::b,[],e,t,c,g,j,_,f,_=>by simp at j
 |p::b,x::xs,[],t,c,g,j,_,f,_=>by simp at g
 | p::b,x::xs,v::e,t,c,g,j,hp,f,r=>by
  show ∀i,aq S w β (mg (an t p x) b xs i) (((b.zip e).foldl (λt (p,v)=>t.setIfInBounds p v) (c.setIfInBounds p v)).getD i undef);refine NK b xs e _ _ (sU g) (sU j) (λq z=>by rw[iV];exact hp q (bY _ z)) (λi=>?_) (λi a u A D=>r (i+1) a u (sU A) (sU D));by_cases k:i=p
  ·subst k;have o:=hp i b1;rw[dB,aK,cZ o];exact r 0 x v rfl rfl
  ·rw[cI _ _ k,aK,cY (Ne.symm k), <-aK];exact f i
theorem Bq:∀(a:List Nat) (c:List Value) (b:Array Value),((a.zip c).foldl (λt (p,v)=>t.setIfInBounds p v) b).size=b.size
 |[],_,_=>rfl
 |_::_,[],_=>rfl
 |p::a,v::c,b=>by
  show((a.zip c).foldl (λt (p,v)=>t.setIfInBounds p v) (b.setIfInBounds p v)).size=_;rw[Bq a c,iV]
def KP(a:Array Nat)(c:Array Value)(b:Array Value):(a.zip c).foldl (λt (p,v)=>t.setIfInBounds p v) b=(a.toList.zip c.toList).foldl (λt (p,v)=>t.setIfInBounds p v) b:=by
 rw[<-Array.foldl_toList,Array.toList_zip]
def IS:Option Nat->List Deferred
 |none=>[]
 |some D=>[{target:=.collected D,args:= #[]}]
@[reducible] def az.wd(C:az)(d:Option Nat):az:={C with df:=IS d}
def XP(d:Option Nat)(w0:World)(S:Nat->Prop)(β:Bt)(w:World):Prop:=
 ∀D,d=some D->w.heap[D]?=some (.deferred (some []))∧ ¬g7 β D∧ ¬S D∧w0.heap.size<=D
def pj(C:az)(w0:World)(S0:Nat->Prop)(N:Nat)(Q:Option Nat->cg->ay->Prop)(e:Exit)(a:Act)(w:World):Prop:=
 ∃d c b S β,e=Gq c∧Q d c b∧bn (C.wd d) (Inv.any C.fr) w0 S0 N (· <b.n) b.t b.h a w S β∧XP d w0 S β w
theorem KQ{P:Program}{f:FuncId}{a:Func}(b:P.funcs[f]?=some a)(e:a.body.isSome=true)(c:(a.name== "runtime.NumGoroutine")=false) (args:Array Value) (w:World):(callFunc f args).run P w=.ok (.enter f args) w:=by
 simp only[callFunc,Sem.run_bind,program,Sem.run,Result.andThen_ok,b];have:a.body.isNone=false:=by cases g:a.body<;>simp_all
 simp[c,this]
section
variable {C:az}{w0:World}{S0:Nat->Prop}{N:Nat}{Q:Option Nat->cg->ay->Prop}
def Me(hC:b0 C)(ar:∀n,b0 (C.at n))(ai:C.df=[]){O:ay}{g:Operand}{ps:Array Nat}{ab Z:Code}(hp:ps.toList.all (λp=>Nat.blt p N)=true)(aA:oO N (λ_=>false) ab=true)(aB:oO N (λ_=>false) Z=true)
  (aI:nt C O g ps.toList ab Z (λe ao=>∀D,Q (some D) e ao)) {a:Act} {w:World} {S:Nat->Prop} {β:Bt} (M:bn C (Inv.any C.fr) w0 S0 N (· <O.n) O.t O.h a w S β):
  (Code.rangeFunc g ps ab Z).wp C.P (pj C w0 S0 N Q) a w:=by
 let⟨α,gf,c',g3,encs,xs,NX,m,b4,nn,hg,ex,⟨fn,f1,f2,f3⟩,e0,cf,c5,em,eq,bb,ht,round,done⟩:=aI;have am:=sY M g;rw[hg]at am;have au:∀{A:World} {j:Nat->Prop} {f:Bt} {t:Nat->AV} {h:AH} {n:Nat} {a:Act},gn h n=true->bn (C.at m) (Inv.any m) w0 S0 N (· <n) t h a A j f->∀x l,f x=some l->x<n∧w0.heap.size<=l.f∧l.f<A.heap.size∧ ¬j l.f:=λhf X x l hx=>by
  have hn:=X.Z2 x l hx;let⟨blk,di⟩:=DQ.1 (uH hf x hn);let⟨e1,cs,e,fr,z,E,G,T,k5,k6⟩:=X.H.own x blk di;rw[hx]at z;cases z;exact⟨hn,T,fJ E,k5⟩
 have M0:bn (C.at m) (Inv.any m) w0 S0 N (· <nn []) O.t (b4 []) a w S β:=by
  rw[em,eq];exact⟨M.T,M.H,M.B,M.Z2,M.df,M.a,M.G,M.nw,trivial⟩
 have an:=au (bb []) M0;generalize az:a.eval g=gv at am
 cases am with
 |F _ _ _ vs us K I h3 h4=>
 have aD:vs= #[]:=Array.eq_empty_of_size_eq_zero K.symm;subst aD;have ap:bs S w ce c' us.toList:=by
  refine⟨by rw[h3];simp,λi x aK p q=>?_⟩;have:=h4 i x aK p (by rw[<-bQ];exact q);exact mB this (fW _ ex i x p) ce
 have aw:=e0 S w us.toList M.H.lt M.G ap
 let C1:(Nat->Prop)->List α->World->Prop:=λCC pre A=>(∀y,y∈pre->NX y)∧∃j f,bn (C.at m) (Inv.any m) w0 S0 N (· <nn pre) O.t (b4 pre) a A j f∧(∀b,j b->b<w.heap.size∨CC b)∧(∀b,g7 f b->CC b)∧(∀b,CC b->b<A.heap.size)
 let C2:(Nat->Prop)->List α->World->Prop:=λCC pre A=>∃j h' H f,(∀D,Q (some D) .ret ⟨O.t,h',H⟩)∧bn (C.at m) (Inv.any m) w0 S0 N (· <H) O.t h' a A j f∧(∀b,j b->b<w.heap.size∨CC b)∧(∀b,g7 f b->CC b)∧(∀b,CC b->b<A.heap.size)
 let C3:(Nat->Prop)->List α->α->Act->World->Prop:=λCC pre x a1 B=>∃L U k A j f,(∀y,y∈pre->NX y)∧eA (C.at m) (bI (C.at m)) Z L (VU m (nn (pre++[x])) O.t (b4 (pre++[x])) (NX x) (λe ao=>∀D,Q (some D) e ao))∧
  bn (C.at m) (Inv.any m) w0 S0 N (· <L.n) L.t L.h a1 B U k∧(∀b,U b->b<w.heap.size∨CC b)∧(∀b,g7 f b->CC b)∧(∀b,g7 k b->CC b)∧
  (∀x l,x<m->f x=some l->k x=some l)∧
  bn (C.at m) (Inv.any m) w0 S0 N (· <nn pre) O.t (b4 pre) a A j f∧(∀b,j b->U b)∧(∀b,j b->B.heap[b]?=A.heap[b]?)∧
  (∀s l cs e fr,f s=some l->A.heap[l.f]?=some (Obj.cells cs e fr)->∃u:Array Value,B.heap[l.f]?=some (.cells u e fr)∧u.size=cs.size)∧w.heap.size<=B.heap.size
 have av:w0.heap.size<=w.heap.size:=M.B.size;have mv:∀{CC:Nat->Prop} {A B:World} {D:Nat->Prop} {t:Nat->AV} {h:AH} {a:Act} {j:Nat->Prop} {k:Bt},bn (C.at m) (Inv.any m) w0 S0 N D t h a A j k->(∀b,j b->b<w.heap.size∨CC b)->(∀b,g7 k b->b<w.heap.size∨CC b)->w.heap.size<=A.heap.size->dg (λb=>b<w.heap.size∨CC b) A B->
   bn (C.at m) (Inv.any m) w0 S0 N D t h a B j k:=λX z E G r=>
  X.move (λb c=>r.block b (X.H.lt b c) (z b c)) (λs l aN al b5=>(r.block _ (fJ b5) (E _ ⟨s,l,al,rfl⟩)).trans b5) r.os r.tape r.output r.size (λb c=>r.block b oT (.inl oT)) trivial
 refine Fx (gf:=gf) (lb:=us) az (KQ f1 f2 f3) (sU aw) (dg.refl _ _) M.H.lt (λx=>by rw[<-cV, <-cV, <-c5 x];exact((cf x S w β).1).symm)
  (λCC pre A=>C1 CC pre A∧w.heap.size<=A.heap.size) (λCC pre A=>C2 CC pre A∧w.heap.size<=A.heap.size) C3 (g7 β) (λb ⟨x,l,al,b5⟩=>by have:=(an x l al).2.2.1;omega) (λb c ⟨x,l,al,b5⟩=>by have:=(an x l al).2.2.2;rw[b5]at this;exact this c)
  ?_ ?_ ?_ ?_ ?_ ?_ ?_ ?_ ?_ ?_
 ·rintro CC pre A B ⟨⟨hN,j,f,X,z,E,G⟩,T⟩ r;exact⟨⟨hN,j,f,mv X z (λb c=>.inr (E b c)) T r,z,E,λb c=>ei (G b c) r.size⟩,aL T r.size⟩
 ·rintro CC pre A B ⟨⟨j,h',H,f,q,X,z,E,G⟩,T⟩ r;exact⟨⟨j,h',H,f,q,mv X z (λb c=>.inr (E b c)) T r,z,E,λb c=>ei (G b c) r.size⟩,aL T r.size⟩
 ·rintro CC pre x a1 B B' ⟨L,U,k,A,j,f,hN,q,X,z,E,G,k5,XA,k6,k7,k8,k9⟩ r;refine⟨L,U,k,A,j,f,hN,q,mv X z (λb c=>.inr (G b c)) k9 r,z,E,G,k5,XA,k6,λb c=>(r.block b (X.H.lt b (k6 b c)) (z b (k6 b c))).trans (k7 b c),λs l cs e fr K I=>?_,aL k9 r.size⟩;let⟨u,c0,da⟩:=k8 s l cs e fr K I;exact⟨u,(r.block _ (fJ c0) (.inr (E _ ⟨s,l,K,rfl⟩))).trans c0,da⟩
 ·rintro CC pre A ⟨⟨hN,j,f,X,z,E,G⟩,T⟩ b c;exact G b c
 ·rintro CC pre A ⟨⟨j,h',H,f,q,X,z,E,G⟩,T⟩ b c;exact G b c
 ·refine⟨⟨nofun,S,β,M0,λb c=>.inl (M.H.lt b c),λb c=>c,λb ⟨x,l,al,b5⟩=>by have:=(an x l al).2.2.1;omega⟩,aC _⟩
 ·
  rintro l CC pre x A ⟨⟨hN,j,f,X,z,E,G⟩,T⟩ aa _;have X0:bn (C.at m) (Gf j A f m) w0 S0 N (· <nn pre) (mg O.t ps.toList (g3 x)) (b4 pre) {tmps:=(ps.zip (encs x)).foldl (λt (p,v)=>t.setIfInBounds p v) a.tmps,defers:=[]} A j f:=by
   refine⟨λi=>?_,X.H,X.B,X.Z2,ai.symm,?_,X.G,X.nw,Ba _ _ _ _⟩
   ·rw[KP];have he:=cf x j A f;exact NK _ _ _ _ _ he.1 (c5 x).symm (λp hq=>by rw[X.a];exact aJ (rC.1 hp p hq)) X.T he.2 i
   ·show((ps.zip (encs x)).foldl (λt (p,v)=>t.setIfInBounds p v) a.tmps).size=N;rw[KP,Bq];exact X.a
  apply wpIn_mono (BI (C:=C.at m) (a0:={tmps:=(ps.zip (encs x)).foldl (λt (p,v)=>t.setIfInBounds p v) a.tmps,defers:=[]}) (KR C.P l) (ar m) ab aA ⟨_,b4 pre,nn pre⟩ _ (round pre x aa hN) _ A j f X0 (gg.refl _ _));rintro e a1 B ⟨e',L,U,k,rfl,⟨rfl,c⟩,X1, -⟩;have P:kv j A f m U B k:=X1.iv;refine⟨λb=>CC b∨g7 k b∨(A.heap.size<=b∧b<B.heap.size),⟨L,U,k,A,j,f,hN,c,X1.inv trivial,λb c=>?_,λb c=>.inl (E b c),λb c=>.inr (.inl c),λy l K I=>P.Zr y l K I,X,P.hS,λb c=>P.hE.ZH b c,λs l cs e fr K I=>P.hE.shape _ _ _ _ I,aL T P.a⟩,
   ⟨X1.B.os.trans X.B.os.symm,X1.B.tape.trans X.B.tape.symm,X1.B.output.trans X.B.output.symm,P.a,λb c hn=>P.still b c λh=>hn (E b h)⟩,λb c=>?_⟩
  ·rcases P.nw b c with h|h|h
   ·exact(z b h).imp id .inl
   ·exact .inr (.inr (.inr ⟨h,X1.H.lt b c⟩))
   ·exact .inr (.inl (E b h))
  ·rcases c with h|⟨y,l,K,I⟩|h
   ·exact .inl h
   ·rcases P.own y l K with h|h
    ·exact .inl (E b (I ▸ h))
    ·exact .inr (I ▸ h)
   ·exact .inr h.1
 ·
  rintro l CC pre x a1 A1 ⟨L,U,k,A,j,f,hN,q,X,z,E,G,k5,XA,k6,k7,k8,k9⟩ aa _;apply wpIn_mono (BI (C:=C.at m) (V:=Gf U A1 k m) (a0:=a1) (KR C.P l) (ar m) Z aB L _ q a1 A1 U k (X.inv (Ba _ _ _ _)) (gg.refl _ _));rintro e a2 B ⟨e',aE,S2,aF,rfl,hq,X2, -⟩;have aq:∀(h':AH) (H:Nat),gn h' H=true->(gm aE λbd=>∃σ,dj m σ H=true∧cu bd ⟨λ_=>.any,h',H⟩ σ)->∃S3 o,bn (C.at m) (Inv.any m) w0 S0 N (· <H) O.t h' a B S3 o∧(∀b,S3 b->b<w.heap.size∨(b<B.heap.size∧(CC b∨A1.heap.size<=b)))∧(∀b,g7 o b->b<B.heap.size∧(CC b∨A1.heap.size<=b))∧dg (λb=> ¬CC b) A1 B:=by
   rintro h' H hf ⟨bd,ch,σ,hk,ag⟩;let⟨S3,X3⟩:=nK ch X2;have X4:=pK ag hk X3;have P:kv U A1 k m S3 B _:=X4.iv;have Y:bn (C.at m) (Inv.any m) w0 S0 N (· <H) O.t h' a B S3 (λs=>if s<H then aF (σ s)else none):=by
    refine⟨λi=>?_,X4.H,X4.B,X4.Z2,ai.symm ▸ XA.df,XA.a,X4.G,X4.nw,trivial⟩;rcases ht.t i with h|⟨h,c⟩
    ·rw[show O.t i=.any from h];exact .any _
    ·have I:=XA.T i;rw[h]at I;have h4:=kq (Bv (n:=m) _ _ _ (aC _) c I) (λb c=>P.hS b (k6 b c)) (λb c=>(P.hE.ZH b (k6 b c)).trans (k7 b c)) λs l cs e fr K I=>by
      split at K
      ·let⟨u,h3,h4⟩:=k8 s l cs e fr K I;let⟨ds,c0,da⟩:=P.hE.shape _ _ _ _ h3;exact⟨ds,c0,da.trans h4⟩
      ·cases K
     refine h4.mono (λ_ h=>h) (b9.refl _ _) λs l r=>?_;dsimp only at r;split at r
     ·rename_i hm;exact P.Zr s l hm (k5 s l hm r)
     ·cases r
   refine⟨S3,_,Y,λb c=>?_,λb ⟨y,l,K,I⟩=>⟨oH ((au hf Y y l K).2.2.1),?_⟩,⟨X4.B.os.trans X.B.os.symm,X4.B.tape.trans X.B.tape.symm,X4.B.output.trans X.B.output.symm,P.a,λb c hn=>P.still b c λh=>hn (G b h)⟩⟩
   ·rcases P.nw b c with h|h|h
    ·exact(z b h).imp id λh=>⟨Y.H.lt b c,.inl h⟩
    ·exact .inr ⟨Y.H.lt b c,.inr h⟩
    ·exact .inr ⟨Y.H.lt b c,.inl (G b h)⟩
   ·rcases P.own y l K with h|h
    ·exact .inl (G b (I ▸ h))
    ·exact .inr (I ▸ h)
  cases e' with
  |exit i=>exact hq.elim
  |normal=>
   let⟨ev,hq⟩:=hq;let⟨S3,o,Y,dp,dr,cl⟩:=aq _ _ (bb _) hq;have ax:∀y,y∈pre++[x]->NX y:=λy hy=>(cp.1 hy).elim (hN y) λh=>uJ.1 h ▸ ev
   exact⟨λb=>b<B.heap.size∧(CC b∨A1.heap.size<=b),cl,λb c=>c.2,.inl ⟨rfl,⟨ax,S3,o,Y,dp,dr,λb c=>c.1⟩,aL k9 cl.size⟩⟩
  |ret=>
   let⟨bd,ch,h',H,σ,hk,hf,ag,df⟩:=hq;let⟨S3,o,Y,dp,dr,cl⟩:=aq h' H hf ⟨bd,ch,σ,hk,ag⟩;exact⟨λb=>b<B.heap.size∧(CC b∨A1.heap.size<=b),cl,λb c=>c.2,.inr ⟨rfl,⟨S3,h',H,o,df,Y,dp,dr,λb c=>c.1⟩,aL k9 cl.size⟩⟩
 ·rintro D CC W hD ⟨⟨hN,j,f,X,z,E,G⟩,T⟩ R ag;refine⟨some D,.normal,_,j,f,rfl,done hN D,⟨X.T,X.H,X.B,X.Z2,?_,X.a,X.G,X.nw,trivial⟩,λD' ak=>?_⟩
  ·show _::a.defers=_;rw[show a.defers=[]from X.df.trans ai];rfl
  ·cases ak;exact⟨ag,λh=>R (E _ h),λh=>(z _ h).elim (λh=>by omega) R,aL av hD⟩
 ·rintro D CC pre W hD aa ⟨⟨j,h',H,f,df,X,z,E,G⟩,T⟩ R ag;refine⟨some D,.ret,⟨O.t,h',H⟩,j,f,rfl,df D,⟨X.T,X.H,X.B,X.Z2,?_,X.a,X.G,X.nw,trivial⟩,λD' ak=>?_⟩
  ·show _::a.defers=_;rw[show a.defers=[]from X.df.trans ai];rfl
  ·cases ak;exact⟨ag,λh=>R (E _ h),λh=>(z _ h).elim (λh=>by omega) R,aL av hD⟩
def wI(N:Nat):Code->Bool
 | .seq a b=>wI N a&&wI N b
 | .cond _ a b=>wI N a&&wI N b
 | .block _ b=>wI N b
 | .scope b=>wI N b
 | .rangeFunc _ e a b=>e.toList.all (λp=>Nat.blt p N)&&(oO N (λ_=>false) a&&oO N (λ_=>false) b)
 |c=>rU N c
def wJ(C:az):Code->Option Nat->ay->(Option Nat->cg->ay->Prop)->Prop
 | .seq a b,d,f,Q=>wJ C a d f (λk e j=>match e with| .normal=>wJ C b k j Q|e=>Q k e j)
 | .cond c x y,d,f,Q=>match bh C f.t c with| .v (.bool b)=>m8 b (wJ C x d f Q) (wJ C y d f Q)|_=>False
 | .block id b,d,f,Q=>wJ C b d f (λk e j=>match e with| .exit i=>(match Nat.beq i id with|true=>Q k .normal j|false=>Q k (.exit i) j)|e=>Q k e j)
 | .scope b,d,f,Q=>wJ C b d f Q
 | .rangeFunc g q a b,d,f,Q=>d=none∧gm f λp=>∃o σ,cu p o σ∧dj C.fr σ o.n=true∧nt C o g q.toList a b (λe j=>∀D,Q (some D) e j)
 |c,d,f,Q=>eA (C.wd d) (bI (C.wd d)) c f (Q d)
def Mf(hC:∀d,b0 (C.wd d))(ab:∀n,b0 (C.at n))(O:C.df=[]):∀(c:Code),wI N c=true->∀(d:Option Nat) (f:ay) (Q:Option Nat->cg->ay->Prop),wJ C c d f Q->
  ∀(a:Act) (w:World) (S:Nat->Prop) (β:Bt),bn (C.wd d) (Inv.any C.fr) w0 S0 N (· <f.n) f.t f.h a w S β->XP d w0 S β w->c.wp C.P (pj C w0 S0 N Q) a w:=by
 have R:∀(c:Code),rU N c=true->∀(d:Option Nat) (f:ay) (Q:Option Nat->cg->ay->Prop),eA (C.wd d) (bI (C.wd d)) c f (Q d)->
  ∀(a:Act) (w:World) (S:Nat->Prop) (β:Bt),bn (C.wd d) (Inv.any C.fr) w0 S0 N (· <f.n) f.t f.h a w S β->XP d w0 S β w->c.wp C.P (pj C w0 S0 N Q) a w:=by
  intro c o d f Q p a w S β M v;apply wp_mono (CM (C:=C.wd d) (V:=Gf S w β C.fr) (hC d) c o f _ p a w S β (M.inv (Ba _ _ _ _)));rintro e L K ⟨G,k,q,j,rfl,r,Z⟩;have P:kv S w β C.fr q K j:=Z.iv;refine⟨d,G,k,q,j,rfl,r,Z.inv trivial,λD hD=>?_⟩;let⟨k1,Y,k3,k4⟩:=v D hD;have ai:=fJ k1;refine⟨(P.still D ai Y).trans k1,λ⟨x,l,bb,al⟩=>?_,λh=>?_,k4⟩
  ·rcases P.own x l bb with h|h
   ·exact Y (al ▸ h)
   ·rw[al]at h;omega
  ·rcases P.nw D h with h|h|h
   ·exact k3 h
   ·omega
   ·exact Y h
 intro c
 induction c with
 |seq x y H I=>
  intro o d f Q p a w S β M v;simp[wI,aP]at o;refine wp_seq (wp_mono (H o.1 d f _ p a w S β M v) ?_);rintro e L K ⟨u,G,k,q,j,rfl,r,z,E⟩
  cases G with
  |normal=>exact I o.2 u k Q r L K q j z E
  |exit i=>exact⟨u,.exit i,k,q,j,rfl,r,z,E⟩
  |ret=>exact⟨u,.ret,k,q,j,rfl,r,z,E⟩
 | cond c x y H I=>
  intro o d f Q p a w S β M v;simp[wI,aP]at o;simp[wJ]at p;split at p
  ·rename_i b hb;let⟨r,z⟩:=p;have hv:=sY M c;rw[show bh (C.wd d) f.t c=bh C f.t c from rfl,hb]at hv;exact wp_cond_split (lV hv) (λht=>H o.1 d f Q (r ht) a w S β M v) (λU=>I o.2 d f Q (z U) a w S β M v)
  ·exact p.elim
 | block id b ih=>
  intro o d f Q p a w S β M v;refine wp_block (wp_mono (ih o d f _ p a w S β M v) ?_);rintro e L K ⟨u,G,k,q,j,rfl,r,z,E⟩
  cases G with
  |normal=>exact⟨u,.normal,k,q,j,rfl,r,z,E⟩
  |ret=>exact⟨u,.ret,k,q,j,rfl,r,z,E⟩
  | exit i=>
   show Exit.inBlock id _ (.exit i) L K;simp only at r;simp[Exit.inBlock];by_cases X:i=id
   ·subst X;rw[aa rfl];rw[show Nat.beq i i=true from nG i]at r;exact⟨u,.normal,k,q,j,rfl,r,z,E⟩
   ·rw[dZ X];have:Nat.beq i id=false:=by rw[<-eJ];exact λe=>X (aO e)
    rw[this]at r
    exact⟨u,.exit i,k,q,j,rfl,r,z,E⟩
 |scope b ih=>
  intro o d f Q p a w S β M v;refine wp_scope_straight (wp_mono (ih o d f _ p a w S β M v) ?_);rintro e L K ⟨u,G,k,q,j,rfl,h⟩
  cases G with
  |normal=>exact⟨u,.normal,k,q,j,rfl,h⟩
  |ret=>exact⟨u,.ret,k,q,j,rfl,h⟩
  |exit i=>exact⟨u,.exit i,k,q,j,rfl,h⟩
 |rangeFunc g bd x y H I=>
  intro o d f Q p a w S β M v;simp only[wI,aP]at o;obtain⟨rfl,ak,ag,am,σ,hW,U,hR⟩:=p;let⟨S2,M2⟩:=nK ag M;have A:=pK (C:=C.wd none) hW U M2;have T:=hC none
  exact Me (C:=C) ⟨T.ty,T.mixed,T.hH⟩ ab O o.1 o.2.1 o.2.2 hR ⟨A.T,A.H,A.B,A.Z2,A.df.trans O.symm,A.a,A.G,A.nw,trivial⟩
 |_=>intro o d f Q p;exact R _ o d f Q p
theorem bI.Zj(hC:∀ d,b0 (C.wd d))(o:∀ n,b0 (C.at n)){f:FuncId}{c:Func}{z:Code}{args:List AV}{r:AV}(hf:C.P.funcs[f]?=some c)(j:c.body=some z)(ag:(c.name== "runtime.NumGoroutine")=false)
  (hN:wI c.ntmps z=true) (L:Nat.ble args.length c.ntmps=true) (hw:wJ C z none ⟨fg args,λ_=>none,0⟩ (λd=>Fin (C.wd d) c r)) (aa:C.df=[]:=by rfl):bI C f args r:=by
 refine⟨⟨c,hf,by rw[j];rfl,ag⟩,λS w A hS hG I=>?_⟩;have L:=aJ L;refine callsIn_wide.1 (callsIn_of_wp_marks (n:=3) hf j trivial ((wpIn_wide (n:=3)).2 ?_));have M0:bn (C.wd none) (Inv.any C.fr) w S c.ntmps (· <(0:Nat)) (fg args) (λ_=>none) {tmps:=A.toArray++Array.replicate (c.ntmps-A.toArray.size) undef,defers:=[]} w S ce:=by
  have hl:A.length=args.length:=I.1.symm;refine⟨λi=>?_,⟨λs blk h=>(by cases h),λs s' l l' h=>absurd rfl h,hS,aC _⟩,Below.refl _ _,λx l h=>(by cases h),rfl,by simp;omega,hG,λ_ h=>.inl h,trivial⟩;rw[lC]
  cases ha:args[i]? with
  |none=>exact .any _
  | some x=>
   have hi:i<A.length:=by rw[hl];exact(Em.1 ha).1
   have hv:A[i]?=some A[i]:=aA hi;have:(A.toArray++Array.replicate (c.ntmps-A.toArray.size) undef).getD i undef=A[i]:=by
    rw[aK,dS (sU hi),eM,hv];rfl
   rw[this];exact I.2 i x _ ha hv
 apply wp_mono (Mf (C:=C) hC o aa z hN none ⟨fg args,λ_=>none,0⟩ _ hw _ w S ce M0 nofun);rintro e O E ⟨d,e',K,Z,T,rfl,H,M,U⟩;have R:ST (C.wd d) c r K->∀G:World,bn (C.wd d) (Inv.any C.fr) w S c.ntmps (· <K.n) K.t K.h O G Z T->∃v,(results c O.tmps).run C.P G=.ok v G∧∃v',Ending.returned v=.returned v'∧Below w.heap.size w G∧aq (λb=>S b∨(w.heap.size<=b∧b<G.heap.size)) G ce r v':=by
  rintro⟨rs,h1,h2,h3,h4⟩ G M;let⟨t,h,n⟩:=K;let⟨k,al,g⟩:=JA (hC d) M _ rs h1;refine⟨_,yO _ k al c rfl,_,rfl,M.B,?_⟩;have Y:aq Z G T (Dp rs) (if h:k.toArray.size=1 then k.toArray[0]else .tuple k.toArray):=by
   match rs,k,g with
   |[],k,g=>
    have:k=[]:=gp g.1.symm;subst this
    exact .A [] #[] rfl λi a u p=>by simp at p
   |[x],k,g=>
    match k,g with
    |[u],g=>simpa [Dp]using g.2 0 x u rfl rfl
    |[],g=>exact absurd g.1 (by simp)
    |_::_::_,g=>exact absurd g.1 (by simp)
   | x::y::bb,k,g=>
    have ab: ¬k.toArray.size=1:=by
     have:=g.1;simp at this⊢;omega
    rw[dif_neg ab];exact .A _ _ (sU g.1) λi a u p q=>g.2 i a u p (sU q)
  have U:=BO M.H Y h2;exact h4 _ _ _<|(mB U h3 ce).mono (λb j=>j.elim (λj=>(M.nw b j).imp id λh=>⟨h,M.H.lt b j⟩) .inr) (b9.refl _ _) (ME.refl _)
 have go:ST (C.wd d) c r K->LeavesInM Fence.wide 3 C.P c O.tmps (λe E=>∃v,e=.returned v∧Below w.heap.size w E∧aq (λb=>S b∨(w.heap.size<=b∧b<E.heap.size)) E ce r v) O.defers .returning E:=by
  intro hr;rw[M.df]
  cases d with
  |none=>exact R hr E M
  |some D=>
   let⟨k1,k2,k3,k4⟩:=U D rfl;refine⟨by simp,.inl ⟨D,_,rfl,run_takeDeferred k1,R hr _ ?_⟩⟩;have X:∀b,b≠D->(E.putObj D (.deferred none)).heap[b]?=E.heap[b]? :=λb j=>World.putObj_heap_other j;exact M.move (λb j=>X b λe=>k3 (e ▸ j)) (λs l ai q1 q2=>(X _ λe=>k2 ⟨s,l,q1,e⟩).trans q2) rfl rfl rfl (by simp) (λb j=>X b oT) trivial
 cases e' with
 |normal=>exact go H
 |ret=>exact go H
 |exit i=>exact H.elim
end
section
variable {α:Type}
inductive tf(C:az)(y:Value)(encs:α->Array Value)(xs:List α)(ops:List Oper)(st:ay)(pre:List α)(K:ay->List α->Bool->Prop):Prop
 | mk (k:Nat) (o:Oper) (f:Operand) (args:Array Operand) (ats:Array TypeId) (rest:List Oper) (hd:ops.drop k=o::rest) (ho:o.op=.call {callee:=.value f,args:=args,argTypes:=ats}) (hg:o.guard=none)
   (hr:jS C.Z0 (bI C.Z0) ops (ops.take k) 0 st λst1=>∃x vs stw σ,cu st1 stw σ∧dj C.fr σ stw.n=true∧gn stw.h stw.n=true∧Nat.ble stw.n st.n=true∧bh C stw.t f=.v y∧Ju (args.toList.map (bh C stw.t))=some vs∧encs x=vs.toArray∧pre++[x] <+: xs∧
    ∀b:Bool,jS C.Z0 (bI C.Z0) ops rest (k+1) ⟨Aa stw.t o.dst (.v (.bool b)),stw.h,st.n⟩ (λst2=>K st2 (pre++[x]) (!b))):tf C y encs xs ops st pre K
inductive rm(fr:Nat)(body:ay->List α->(cg->ay->List α->Bool->Prop)->Prop)(st:ay)(pre:List α)(Q:cg->ay->List α->Bool->Prop):Prop
 | mk (κ:Type) (S:κ->ay) (pr:κ->List α) (G:κ->Prop) (μ:κ->Nat) (k0:κ) (σ:Nat->Nat) (hw:cu st (S k0) σ) (hf:dj fr σ (S k0).n=true) (hp:pr k0=pre) (h0:G k0)
   (round:∀k,G k->body (S k) (pr k) (λe st' p' s'=>match e with| .normal=>s'=false∧∃k' σ',cu st' (S k') σ'∧dj fr σ' (S k').n=true∧pr k'=p'∧G k'∧μ k'<μ k|e=>Q e st' p' s')):rm fr body st pre Q
def fq(C:az)(y:Value)(encs:α->Array Value)(xs:List α):Code->ay->List α->Bool->(cg->ay->List α->Bool->Prop)->Prop
 | .seq a b,g,pre,s,Q=>fq C y encs xs a g pre s (λe f j k=>match e with| .normal=>fq C y encs xs b f j k Q|e=>Q e f j k)
 | .cond c a b,g,pre,s,Q=>match bh C g.t c with| .v (.bool t)=>m8 t (fq C y encs xs a g pre s Q) (fq C y encs xs b g pre s Q)|_=>False
 | .block id b,g,pre,s,Q=>fq C y encs xs b g pre s (λe f j k=>match e with| .exit i=>(match Nat.beq i id with|true=>Q .normal f j k|false=>Q (.exit i) f j k)|e=>Q e f j k)
 | .loop b,g,pre,s,Q=>s=false∧rm C.fr (λg p Q=>fq C y encs xs b g p false Q) g pre Q
 | .region id ops dr,g,pre,s,Q=>eA C (bI C) (.region id ops dr) g (λe f=>Q e f pre s)∨(dr=false∧s=false∧tf C y encs xs ops.toList g pre (λf j k=>Q .normal f j k))
 |c,g,pre,s,Q=>eA C (bI C) c g (λe f=>Q e f pre s)
def wG(N:Nat):Code->Bool
 | .seq a b=>wG N a&&wG N b
 | .cond _ a b=>wG N a&&wG N b
 | .block _ b=>wG N b
 | .loop b=>wG N b
 |c=>oO N (λ_=>false) c
end
def Pf{F}{n}{P}{Q}{a}{w}{c}(I:Nat->Act->World->Prop)(m)(u:I m a w)
  (round:∀m a w,I m a w->c.wpIn F n P (Exit.then (λk p=>∃b,b<m∧I b k p) Q) a w):(Code.loop c).wpIn F n P Q a w:=by
 classical
 have i:∀(n:Nat) (a:Act) (w:World),(∃m,m<=n∧I m a w)->∃m,I m a w∧∀b,I b a w->m<=b:=by
  intro n
  induction n with
  |zero=>rintro a w ⟨m,o,f⟩;exact⟨m,f,λb _=>by omega⟩
  |succ n ih=>
   rintro a w ⟨m,o,f⟩;by_cases r:∃b,b<=n∧I b a w
   ·exact ih a w r
   ·exact⟨m,f,λb h'=>Nat.le_of_not_lt λh=>r ⟨b,oT,h'⟩⟩
 have q:∀a w,(∃m,I m a w)->∃m,I m a w∧∀b,I b a w->m<=b:=λa w ⟨m,h⟩=>i m a w ⟨m,aC _,h⟩
 let g:Act->World->Nat:=λa w=>if h:∃m,I m a w then Classical.choose (q a w h)else 0
 have j:∀a w,(∃m,I m a w)->I (g a w) a w∧∀b,I b a w->g a w<=b:=λa w h=>by
  have e:g a w=Classical.choose _:=dif_pos h;rw[e];exact nE (q a w h)
 refine wpIn_loop (λa w=>∃m,I m a w) g ⟨m,u⟩ λa w h=>wpIn_mono (round (g a w) a w (j a w h).1) ?_;intro e k p h';cases e<;>try exact h'
 let⟨b,o,f⟩:=h';exact⟨⟨b,f⟩,bL ((j k p ⟨b,f⟩).2 b f) o⟩
section
variable {α:Type}{C:az}{J:Bool->(Nat->Prop)->List α->World->Prop}{W:World}{xs:List α}{encs:α->Array Value}{N l:Nat}
def i'(C:az)(J:Bool->(Nat->Prop)->List α->World->Prop)(W:World)(xs:List α)(N:Nat)(c:ay)(pre:List α)(s:Bool)(a:Act)(A:World):Prop:=
 ∃CC S β,J s CC pre A∧pre <+: xs∧W.heap.size<=A.heap.size∧bn C (Inv.any C.fr) {W with heap:= #[]} (λ_=>True) N (· <c.n) c.t c.h a A S β∧(∀b,S b-> ¬CC b)∧(∀b,g7 β b-> ¬CC b∧W.heap.size<=b)
theorem i'.step(z:∀s C pre A B,J s C pre A->dg (λb=>b<W.heap.size∨C b) A B->J s C pre B)(g:∀s C pre A,J s C pre A->∀b,C b->b<A.heap.size)
  {CC} {pre} {s} {w0} {S0} {D} {t} {h} {a} {A c} {S p} {β i} {V}
  (j:J s CC pre A) (hp:pre <+: xs) (r:W.heap.size<=A.heap.size) (G:∀b,S b-> ¬CC b) (f:∀b,g7 β b-> ¬CC b∧W.heap.size<=b) (M:bn C V w0 S0 N D t h a A S β) (P:kv S A β C.fr p c i) (k:c.os=A.os∧c.tape=A.tape∧c.output=A.output):
  J s CC pre c∧W.heap.size<=c.heap.size∧(∀b,p b-> ¬CC b)∧(∀b,g7 i b-> ¬CC b∧W.heap.size<=b):=by
 refine⟨z s CC pre A c j ⟨k.1,k.2.1,k.2.2,P.a,λb o E=>P.still b o λq=>E.elim (λh=>by have:=(f b q).2;omega) (f b q).1⟩,aL r P.a,λb o e=>?_,λb ⟨x,l,u,v⟩=>?_⟩
 ·rcases P.nw b o with h|h|h
  ·exact G b h e
  ·have:=g s CC pre A j b e;omega
  exact(f b h).1 e
 subst v;rcases P.own x l u with h|h
 ·exact f _ h
 exact⟨λe=>by have:=g s CC pre A j _ e;omega,aL r h⟩
def ut(C:az)(J:Bool->(Nat->Prop)->List α->World->Prop)(W:World)(xs:List α)(N:Nat)(Q:cg->ay->List α->Bool->Prop)(e:Exit)(a:Act)(A:World):Prop:=∃b c pre s,e=Gq b∧Q b c pre s∧i' C J W xs N c pre s a A
def Mc(hC:b0 C)(hJ:∀s C pre A B,J s C pre A->dg (λb=>b<W.heap.size∨C b) A B->J s C pre B)(am:∀s C pre A,J s C pre A->∀b,C b->b<A.heap.size)
  (hY:∀CC pre x A,J false CC pre A->pre++[x] <+: xs->YieldAt Fence.wide 1 C.P l (encs x) A λe B=>∃b,e=.returned (.bool b)∧∃C',J (!b) C' (pre++[x]) B∧dg (λb=> ¬CC b) A B∧(∀b,C' b->CC b∨A.heap.size<=b)):
  ∀c,wG N c=true->∀D pre s Q,fq C (.func (.yield l) #[] #[]) encs xs c D pre s Q->∀a A,i' C J W xs N D pre s a A->c.wpIn Fence.wide 2 C.P (ut C J W xs N Q) a A:=by
 have ab:∀(c:Code),oO N (λ_=>false) c=true->∀(D:ay) (pre:List α) (s:Bool) (Q:cg->ay->List α->Bool->Prop),eA C (bI C) c D (λe r=>Q e r pre s)->∀(a:Act) (A:World),i' C J W xs N D pre s a A->c.wpIn Fence.wide 2 C.P (ut C J W xs N Q) a A:=by
  rintro c v D pre s Q E a A ⟨CC,S,β,j,hp,hs,M,k1,k2⟩;apply wpIn_mono (BI (V:=Gf S A β C.fr) (Eg C.P) hC c v D _ E a A S β (M.inv (Ba _ _ _ _)) (gg.refl _ _));rintro e a' A' ⟨e',r,S',aS,rfl,g,M', -⟩;let⟨ag,al,b5,G⟩:=i'.step hJ am j hp hs k1 k2 M M'.iv ⟨M'.B.os.trans M.B.os.symm,M'.B.tape.trans M.B.tape.symm,M'.B.output.trans M.B.output.symm⟩;exact⟨e',r,pre,s,rfl,g,CC,S',aS,ag,hp,al,M'.inv trivial,b5,G⟩
 intro c
 induction c with
 |seq x y bb bd=>
  intro v D pre s Q E a A M;simp[wG,aP]at v;refine wpIn_seq (wpIn_mono (bb v.1 D pre s _ E a A M) ?_);rintro e a' w' ⟨e',r,T,U,rfl,g,K⟩
  cases e' with
  |normal=>exact bd v.2 r T U Q g a' w' K
  |exit i=>exact⟨.exit i,r,T,U,rfl,g,K⟩
  |ret=>exact⟨.ret,r,T,U,rfl,g,K⟩
 | cond c x y bb bd=>
  intro v D pre s Q E a A M;simp[wG,aP]at v;simp[fq]at E;split at E
  ·rename_i b L;let⟨g,K⟩:=E;have Y:=M;let⟨CC,S,β,j,hp,hs,O,k1,k2⟩:=Y;have hv:=sY O c;rw[L]at hv;exact wpIn_cond_split (lV hv) (λht=>bb v.1 D pre s Q (g ht) a A M) (λhf=>bd v.2 D pre s Q (K hf) a A M)
  ·exact E.elim
 | block id b ih=>
  intro v D pre s Q E a A M;refine wpIn_block (wpIn_mono (ih v D pre s _ E a A M) ?_);rintro e a' w' ⟨e',r,T,U,rfl,g,K⟩
  cases e' with
  |normal=>exact⟨.normal,r,T,U,rfl,g,K⟩
  |ret=>exact⟨.ret,r,T,U,rfl,g,K⟩
  | exit i=>
   show Exit.inBlock id _ (.exit i) a' w';simp only at g;simp[Exit.inBlock];by_cases hi:i=id
   ·subst hi;rw[aa rfl];rw[show Nat.beq i i=true from nG i]at g;exact⟨.normal,r,T,U,rfl,g,K⟩
   ·rw[dZ hi];have:Nat.beq i id=false:=by rw[<-eJ];exact λe=>hi (aO e)
    rw[this]at g
    exact⟨.exit i,r,T,U,rfl,g,K⟩
 | loop b ih=>
  intro v D pre s Q E a A M;obtain⟨rfl,hL⟩:=E;obtain⟨κ,S,pr,aZ,μ,k0,σ,hw,hf,rfl,h0,round⟩:=hL;have aq:∀{D r:ay} {σ:Nat->Nat} {p:List α} {a:Act} {A:World},cu D r σ->dj C.fr σ r.n=true->i' C J W xs N D p false a A->i' C J W xs N r p false a A:=by
   rintro D r σ p a A hw hf ⟨CC,S,β,j,hp,hs,O,k1,k2⟩;refine⟨CC,S,_,j,hp,hs,pK hw hf O,k1,λb ⟨x,l,g,K⟩=>?_⟩;simp only at g;split at g
   ·exact k2 b ⟨_,l,g,K⟩
   ·cases g
  apply Pf (λm a A=>∃k,μ k=m∧aZ k∧i' C J W xs N (S k) (pr k) false a A) (μ k0) ⟨k0,rfl,h0,aq hw hf M⟩;rintro m a A ⟨k,rfl,hG,M⟩;apply wpIn_mono (ih v _ _ _ _ (round k hG) a A M);rintro e a' w' ⟨e',r,T,U,rfl,g,K⟩
  cases e' with
  |normal=>
   obtain⟨rfl,k',aW,ag,al,rfl,G,g5⟩:=g
   exact⟨μ k',g5,k',rfl,G,aq ag al K⟩
  |exit i=>exact⟨.exit i,r,T,U,rfl,g,K⟩
  |ret=>exact⟨.ret,r,T,U,rfl,g,K⟩
 | region id ops dr=>
  intro v D pre s Q E a A M;rcases E with E|⟨rfl,rfl,E⟩
  ·exact ab _ v D pre s Q E a A M
  let⟨k,o,f,args,cl,rest,hd,ho,hg,hr⟩:=E;let⟨CC,S,β,j,hp,hs,M,k1,k2⟩:=M;let⟨t,h,n⟩:=D;simp[wG,oO,aP]at v;have ak:ops.toList[k]?=some o:=by
   have:(ops.toList.drop k)[0]?=some o:=by rw[hd];rfl
   simpa using this
  have aF:ops[k]?=some o:=by rw[<-ak,bQ]
  have ai:k<ops.toList.length:=(Em.1 ak).1;have aK:ops.size=k+(1+rest.length):=by
   have:=a1 List.length hd;simp at this;simp at ai;omega
  have av:ops.toList.drop (k+1)=rest++[]:=by rw[<-lH,hd];simp
  have aN:(ops.toList.take k).length=k:=by simp at ai⊢;omega
  have ap:List.range ops.size=List.range' 0 (ops.toList.take k).length++(k::(List.range' (k+1) rest.length++[])):=by
   rw[nZ,aK,aN,dY, <-List.range'_append_1,bJ,gJ 1,nX]
  apply wpIn_region;rw[ap];apply BJ (C:=C.Z0) (V:=Gf S A β C.fr) (kp:=λ_=>false) (a0:=a) (Eg C.P) hC.Z0 (λ_ _ _ _ _ h=>h) rfl v.1 v.2 _ (ops.toList.take k) 0 t h a A S β ⟨ops.toList.drop k,by simp⟩ hr ((M.inv (Ba _ _ _ _)).Z0) (gg.refl _ _);rintro aV u A1 Z ax ⟨x,vs,I,σ,hW,aE,au,an,hf,aQ,az,ao,L⟩ Y -;let⟨ag,al,b5,G⟩:=i'.step hJ am j hp hs k1 k2 M Y.iv ⟨Y.B.os.trans M.B.os.symm,Y.B.tape.trans M.B.tape.symm,Y.B.output.trans M.B.output.symm⟩;have O:=pK (C:=C.Z0) hW aE Y;have aD:=uH au;have an:=aJ an;have g5:∀b,g7 (λs=>if s<I.n then ax (σ s)else none) b-> ¬CC b∧W.heap.size<=b∧b<A1.heap.size:=by
   rintro b ⟨y,l,g,K⟩;subst K;let⟨blk,ch⟩:=DQ.1 (aD y (O.Z2 y l g));let⟨c0,cs,e,fr,b4,cf, _⟩:=O.H.own y blk ch;simp only at g b4;rw[g]at b4;cases b4;split at g
   ·exact⟨(G _ ⟨_,l,g,rfl⟩).1,(G _ ⟨_,l,g,rfl⟩).2,fJ cf⟩
   ·cases g
  generalize (λs=>if s<I.n then ax (σ s)else none)=X at O g5;have aC:u.eval f=.func (.yield l) #[] #[]:=by
   have:=sY O f;rw[show bh C.Z0 I.t f=bh C I.t f from rfl,hf]at this;exact lV this
  have ar:args.map u.eval=encs x:=by
   rw[az];have aI:bs Z A1 X (args.toList.map (bh C.Z0 I.t)) (args.toList.map u.eval):=⟨by simp,λi y a3 p q=>by
    rw[aX]at p q
    cases hi:args.toList[i]? with
    |none=>rw[hi]at p;cases p
    |some c5=>rw[hi]at p q;cases p;cases q;exact sY O c5⟩
   have:=Lj (show Ju (args.toList.map (bh C.Z0 I.t))=some vs from aQ) aI;rw[<-this];apply Array.ext';simp
  have aA:=hY CC pre x A1 ag ao;refine Jb aF hg (Mg (Eg C.P) ho aC ar aA ?_);rintro b B ⟨C',j',H,z⟩;have R:bn C.Z0 (Gf Z B X C.fr) {W with heap:= #[]} (λ_=>True) N (· <I.n) I.t I.h u B Z X:=
   (O.inv (V':=Inv.any C.Z0.fr) trivial).move (λb L=>H.block b (O.H.lt b L) (b5 b L)) (λs l o b4 cf=>(H.block _ (fJ cf) (g5 _ ⟨s,l,b4,rfl⟩).1).trans cf) H.os H.tape H.output H.size (λb L=>absurd L (dG _)) (Ba _ _ _ _)
  have aw:=wU v.1 (aB ak);have M3:bn C.Z0 (Gf Z B X C.fr) {W with heap:= #[]} (λ_=>True) N (· <n+(k+1)) (Aa I.t o.dst (.v (.bool b))) I.h (u.put o.dst (.bool b)) B Z X:=by
   refine⟨PK u R.T (.v _) (λk v=>by rw[R.a];exact aw k v),R.H,R.B,λy l hy=>(by have:y<I.n:=R.Z2 y l hy;simp only at an;omega),?_,?_,R.G,R.nw,R.iv⟩
   ·cases o.dst<;>exact R.df
   ·cases o.dst with
    |none=>exact R.a
    |some k=>simp[Act.put,iV];exact R.a
  apply BJ (C:=C.Z0) (V:=Gf Z B X C.fr) (kp:=λ_=>false) (a0:=u.put o.dst (.bool b)) (Eg C.P) hC.Z0 (λ_ _ _ _ _ h=>h) rfl v.1 v.2 [] rest (k+1) _ _ _ B Z X ⟨[],av⟩ (L b) M3 (gg.refl _ _);rintro aR a2 A2 S2 aT hK M4 -;let⟨f1,f2,f3,f4⟩:=i'.step (CC:=C') hJ am j' ao (aL al H.size) (λb L hc=>(z b hc).elim (b5 b L) (λh=>by have:=O.H.lt b L;omega)) (λb L=>⟨λhc=>(z b hc).elim (g5 b L).1 (λh=>by have:=(g5 b L).2.2;omega),(g5 b L).2.1⟩) M3.ZF M4.iv ⟨M4.B.os.trans M3.B.os.symm,M4.B.tape.trans M3.B.tape.symm,M4.B.output.trans M3.B.output.symm⟩
  exact⟨.normal,aR,_,_,rfl,hK,C',S2,aT,f1,ao,f2,M4.ZF.inv trivial,f3,f4⟩
 |_=>intro v D pre s Q E;exact ab _ v D pre s Q E
end
theorem RN.intro{α}{C}(hC:b0 C){g}{f}{c}{a}{encs}{xs:List α}(hf:C.P.funcs[g]?=some f)(k:f.body=some c)(L:f.results.toList=[])
  (hN:wG f.ntmps c=true) (q:Nat.ble (a.length+1) f.ntmps=true)
  (hw:∀y,fq C y encs xs c ⟨fg (.v y::a),λ_=>none,0⟩ [] false (λe _ pre s=>match e with| .exit _=>False|_=>s=false->pre=xs)) (G:C.df=[]:=by rfl):RN C g a encs xs:=by
 intro R w o p hG H l J C0 W E K hJ I hY h0;have q:=aJ q;have u:∀b,R b->W.heap[b]?=w.heap[b]? :=λb k=>E.block b (p b k) k;refine callsIn_wide.1 (callsIn_of_wp_marks (n:=2) hf k trivial ?_);have X:o.length=a.length:=H.1.symm;have Z:i' C J W xs f.ntmps ⟨fg (.v (.func (.yield l) #[] #[])::a),λ_=>none,0⟩ [] false {tmps:=(#[Value.func (.yield l) #[] #[]]++o.toArray)++Array.replicate (f.ntmps-(#[Value.func (.yield l) #[] #[]]++o.toArray).size) undef,defers:=[]} W:=by
  refine⟨C0,R,ce,h0,List.nil_prefix,aC _,⟨λi=>?_,⟨λs blk h=>(by cases h),λs s' l l' h=>absurd rfl h,λb k=>ei (p b k) E.size,aE _⟩,⟨rfl,rfl,rfl,aE _,λb k=>by simp at k⟩,λx l h=>(by cases h),G.symm,?_,λg z hg=>kq (hG g z hg) (λ_ h=>h) u nofun,λ_ _=>.inl trivial,trivial⟩,K,λb ⟨x,l,h1,_⟩=>by cases h1⟩
  ·show aq R W ce (fg (.v (.func (.yield l) #[] #[])::a) i) (Array.getD _ i undef);rw[lC,aK]
   cases i with
   |zero=>
    rw[dS (by simp),dS (by simp)]
    exact .v _
   | succ i=>
    rw[dL]
    cases U:a[i]? with
    |none=>exact .any _
    |some x=>
     have hi:i<o.length:=by rw[X];exact(Em.1 U).1
     have Y:o[i]?=some o[i]:=aA hi;rw[dS (by simp;omega),Array.getElem?_append_right (by simp)];simp[kP,bN,cX,kB,eM,Y,gI];exact kq (H.2 i x _ U Y) (λ_ h=>h) u nofun
  ·simp;omega
 apply wpIn_mono (Mc hC hJ I hY c hN _ _ _ _ (hw _) _ W Z);rintro e T A ⟨e',st,pre,s,rfl,r,CC,S,β,j,hp,hs,M,k1,k2⟩;have D:(s=false->pre=xs)->LeavesInM Fence.wide 2 C.P f T.tmps (λe O=>(∃v,e=.returned v)∧((∃C,J false C xs O)∨∃C pre,pre <+: xs∧J true C pre O)) T.defers .returning A:=by
  intro r;rw[M.df,G];refine⟨_,yO [] [] rfl f L,⟨_,rfl⟩,?_⟩
  cases s with
  |false=>obtain rfl:=r rfl;exact .inl ⟨CC,j⟩
  |true=>exact .inr ⟨CC,pre,hp,j⟩
 cases e' with
 |normal=>exact D r
 |ret=>exact D r
 |exit i=>exact r.elim
theorem b0.wd{C}(h:b0 C)(d):b0 (C.wd d):=⟨h.ty,h.mixed,h.hH⟩
def VS:Code->Bool
 | .seq _ _=>false
 | .cond _ _ _=>false
 | .block _ _=>false
 | .scope _=>false
 | .loop _=>false
 | .rangeFunc _ _ _ _=>false
 |_=>true
section
variable {C:az}{d:Option Nat}{Q:Option Nat->cg->ay->Prop}{t:Nat->AV}{h:AH}{n:Nat}
def uO{a b:Code}{g:ay}(k:wJ C a d g (λf e c=>match e with| .normal=>wJ C b f c Q|e=>Q f e c)):wJ C (.seq a b) d g Q:=k
def VT{c}{a b}{v}(e:bh C t c=.v (.bool v))(f:v=true->wJ C a d ⟨t,h,n⟩ Q)(g:v=false->wJ C b d ⟨t,h,n⟩ Q):wJ C (.cond c a b) d ⟨t,h,n⟩ Q:=by
 simp[wJ,e];exact .mk f g
def Ja{id:Nat}{b:Code}{f:ay}(k:wJ C b d f (λc e a=>match e with| .exit i=>(match Nat.beq i id with|true=>Q c .normal a|false=>Q c (.exit i) a)|e=>Q c e a)):wJ C (.block id b) d f Q:=k
def XO{b:Code}{a:ay}(k:wJ C b d a Q):wJ C (.scope b) d a Q:=k
def tQ{c}{a}(b:VS c=true)(k:eA (C.wd d) (bI (C.wd d)) c a (Q d)):wJ C c d a Q:=by
 cases c<;>first|exact k|cases b
def x1{b:Code}{a:ay}(k:eA (C.wd d) (bI (C.wd d)) (.loop b) a (Q d)):wJ C (.loop b) d a Q:=k
def Md{g:Operand}{f:Array Tmp}{a b:Code}{i:ay}(k:gm i λo=>∃c σ,cu o c σ∧dj C.fr σ c.n=true∧nt C c g f.toList a b (λe j=>∀D,Q (some D) e j)):wJ C (.rangeFunc g f a b) none i Q:=⟨rfl,k⟩
end
def Gh{C:az}{R:FuncId->List AV->AV->Prop}{Q:cg->ay->Prop}{l:Nat}{a:ay}(k:Q .normal a):eA C R (.label l) a Q:=k
section
variable {α:Type}{C:az}{y:Value}{encs:α->Array Value}{xs pre:List α}{s:Bool}{Q:cg->ay->List α->Bool->Prop}{t:Nat->AV}{h:AH}{n:Nat}
def rQ{a b:Code}{i:ay}(k:fq C y encs xs a i pre s (λe c f g=>match e with| .normal=>fq C y encs xs b c f g Q|e=>Q e c f g)):fq C y encs xs (.seq a b) i pre s Q:=k
def Cz{c}{a b}{v}(e:bh C t c=.v (.bool v))(f:v=true->fq C y encs xs a ⟨t,h,n⟩ pre s Q)(g:v=false->fq C y encs xs b ⟨t,h,n⟩ pre s Q):fq C y encs xs (.cond c a b) ⟨t,h,n⟩ pre s Q:=by
 simp[fq,e];exact .mk f g
def AA{id:Nat}{b:Code}{g:ay}(k:fq C y encs xs b g pre s (λe a c f=>match e with| .exit i=>(match Nat.beq i id with|true=>Q .normal a c f|false=>Q (.exit i) a c f)|e=>Q e a c f)):fq C y encs xs (.block id b) g pre s Q:=k
def nU{c}{a}(f:VS c=true)(k:eA C (bI C) c a (λe b=>Q e b pre s)):fq C y encs xs c a pre s Q:=by
 cases c<;>first|exact Or.inl k|exact k|cases f
def NH{b:Code}{q:ay}{κ:Type}(S:κ->ay)(f:κ->List α)(G:κ->Prop)(j:κ->Nat)(c:κ)(σ:Nat->Nat)(v:cu q (S c) σ)(u:dj C.fr σ (S c).n=true)(hp:f c=pre)(r:G c)
  (round:∀k,G k->fq C y encs xs b (S k) (f k) false (λe g o p=>match e with| .normal=>p=false∧∃a i,cu g (S a) i∧dj C.fr i (S a).n=true∧f a=o∧G a∧j a<j k|e=>Q e g o p)):fq C y encs xs (.loop b) q pre false Q:=
 ⟨rfl,.mk κ S f G j c σ v u hp r round⟩
def NI{id}{ops}{l}{c}(r:ops.toList=l)(k){o}{f}{args}{e}{rest}(p:l.drop k=o::rest)(u:o.op=.call {callee:=.value f,args:=args,argTypes:=e})(q:o.guard=none)
  (v:jS C.Z0 (bI C.Z0) l (l.take k) 0 c λg=>∃x j a σ,cu g a σ∧dj C.fr σ a.n=true∧gn a.h a.n=true∧Nat.ble a.n c.n=true∧bh C a.t f=.v y∧Ju (args.toList.map (bh C a.t))=some j∧encs x=j.toArray∧pre++[x] <+: xs∧
    ∀b:Bool,jS C.Z0 (bI C.Z0) l rest (k+1) ⟨Aa a.t o.dst (.v (.bool b)),a.h,c.n⟩ (λi=>Q .normal i (pre++[x]) (!b))):fq C y encs xs (.region id ops false) c pre false Q:=by
 subst r;exact .inr ⟨rfl,rfl,.mk k o f args e rest p u q v⟩
end
open Go.Proofs.Tryz
set_option maxRecDepth 100000
set_option maxHeartbeats 4000000
def p7:AV->Value
 | .v x=>x
 |_=>undef
def I8(e:ai):Value:=.agg ((ak e).map p7).toArray
def td(x:Nat×ai):Array Value:= #[.int .i64 (x.1:Int),I8 x.2]
def gx(agI:List ai):Nat->List (Nat×ai)
 |0=>[]
 |n+1=>match agI[n]? with|some e=>(n,e)::gx agI n|none=>gx agI n
theorem Km{agI:List ai}:∀{n:Nat},n<=agI.length->(gx agI n).length=n
 |0,_=>rfl
 |n+1,h=>by
  have e:agI[n]?=some agI[n]:=aA h;simp[gx,e,bN,Km (mX h)]
theorem MY{agI:List ai}:∀{n k:Nat} {x:ai},n<=agI.length->0<k->k<=n->agI[k-1]?=some x->(gx agI n)[n-k]?=some (k-1,x)
 |0,k,x,_,b,c,_=>by omega
 | n+1,k,x,h,b,c,a=>by
  have e:agI[n]?=some agI[n]:=aA h;simp[gx,e];by_cases f:k=n+1
  ·subst f;rw[kB,e]at a;cases a;simp
  ·rw[(oT:n+1-k=(n-k)+1),dL];exact MY (mX h) b ad a
theorem Ar{agI:List ai}:∀{n:Nat} {x:Nat×ai},x∈gx agI n->x.1<n∧agI[x.1]?=some x.2
 |0,x,h=>by cases h
 | n+1,x,h=>by
  simp[gx]at h;split at h
  ·rename_i e a;rcases dh.1 h with rfl|h
   ·exact⟨Nat.lt_succ_self _,a⟩
   ·exact⟨mW (Ar h).1,(Ar h).2⟩
  ·exact⟨mW (Ar h).1,(Ar h).2⟩
def Io(agI:List ai)(n k:Nat):List (Nat×ai):=(gx agI n).take (n-k)
def GP{agI}{n k}{x}(c:n<=agI.length)(a:0<k)(b:k<=n)(e:agI[k-1]?=some x):Io agI n (k-1)=Io agI n k++[(k-1,x)]:=by
 unfold Io;rw[(oT:n-(k-1)=(n-k)+1),bW,MY c a b e];rfl
def QL{agI:List ai}{n k:Nat}:Io agI n k <+: gx agI n:=List.take_prefix _ _
def QM{agI:List ai}{n:Nat}(a:n<=agI.length):Io agI n 0=gx agI n:=by
 unfold Io;rw[Nat.sub_zero];exact aN (Nat.le_of_eq (Km a))
def LM{agI}{n}:Io agI n n=[]:=by
 unfold Io;rw[eK];rfl
def x4(agI)(e)(i)(D:agI.length<=1000)(q:∀x∈agI,x.ok)(A:i<=1000):RN C0 153 [.dp 1 0 ([vN i]),.dp 1 0 ([.X 17 (agI.map ak) e])] td (gx agI (min i agI.length)):=by
 apply RN.intro fw func153 rfl rfl (by kernel_rfl) rfl;intro y;refine rQ<|nU rfl<|a6<|oR 2 rfl<|rW _ rfl (cD ak agI)<|rW _ rfl (Bo i agI.length)<|oR 1 rfl<|rE 5<|AA<|NH (λk=>⟨be [(0,.v y),(1,.dp 1 0 ([vN i])),(2,.dp 1 0 ([.X 17 (agI.map ak) e])),(4,vN k)],ao [],5⟩) (λk=>Io agI (min i agI.length) k) (λk=>k<=min i agI.length) (λk=>k) (min i agI.length) (λs=>s) (au (λs=>s) wT trivial rfl) rfl (LM) (aC _) ?_;intro k j;have a:k<=1000:=by have:k<=min i agI.length:=j;omega
 refine rQ<|rQ<|nU rfl<|a6<|oR 1 rfl<|rW _ rfl (ar (gQ _ _))<|rE 7<|Cz (v:=decide (k>0)) rfl (λf=>?_) (λf=>?_)
 ·have b:=a7 f;refine nU rfl<|mF<|rQ<|AA<|rQ<|NI rfl 8 rfl rfl rfl<|oR 2 rfl ?_;have u:k-1<=1000:=aL (jT _ _) a;refine rW _ rfl (ax (DA ad a rfl))<|oR 2 rfl ?_;have v:k-1<=1000:=aL (jT _ _) a;refine rW _ rfl (ax (DA ad a rfl)) ?_;let⟨x,c⟩:=d7 agI (k-1);have r:=q x (aB c);refine h6 (ak x) (.dp 17 0 (ak x)) rfl rfl (iH c) rfl<|oR 1 rfl<|rE 15 ?_;refine⟨(k-1,x),_,⟨be [(0,.v y),(1,.dp 1 0 ([vN i])),(2,.dp 1 0 ([.X 17 (agI.map ak) e])),(4,vN k),(13,.v y),(15,vN (k-1)),(20,.agg (ak x))],ao [],0⟩,λs=>s,au _ wT trivial rfl,rfl,rfl,rfl,rfl,rfl,rfl,(by rw[<-GP (eX _ _) b j c];exact QL),λp=>?_⟩;refine oR 1 rfl<|rE 17<|Cz (v:= !p) rfl (λg=>?_) (λg=>?_)
  ·refine nU rfl<|FQ ?_;intro o;rw[g]at o;cases o
  refine nU rfl<|mF<|nU rfl<|a6<|oR 1 rfl ?_;have z:k-1<=1000:=aL (jT _ _) a;refine rW _ rfl (ax (DA ad a rfl))<|oR 1 rfl<|rE 20 ?_;refine⟨g,k-1,λs=>s,au _ wT trivial rfl,rfl,(GP (eX _ _) b j c),(oT:k-1<=min i agI.length),(oT:k-1<k)⟩
 have b:=aF f;refine nU rfl<|Bh ?_;intro _;obtain rfl:k=0:=oT;exact QM (eX _ _)
theorem Du{agI:List ai}{a:Int}:∀{n:Nat},n<=agI.length->(∀y,y∈gx agI n-> ¬wr y.2.i=a)->hv agI a n=none
 |0,_,_=>rfl
 |n+1,h,b=>by
  have e:agI[n]?=some agI[n]:=aA h;simp only[gx,e]at b;have c: ¬wr agI[n].i=a:=b (n,agI[n]) b1;simp[hv,LS,e];rw[dZ (sU c)];exact Du (mX h) λy f=>b y (bY _ f)
theorem Dv{agI:List ai}{a:Int}:∀{n:Nat} {pre:List (Nat×ai)} {x:Nat×ai},n<=agI.length->pre++[x] <+: gx agI n->(∀y,y∈pre-> ¬wr y.2.i=a)->wr x.2.i=a->hv agI a n=some x.1
 |0,pre,x,_,h,_,_=>by have:=h.length_le;simp[gx]at this
 | n+1,pre,x,f,h,c,g=>by
  have e:agI[n]?=some agI[n]:=aA f;simp[gx,e]at h;simp[hv,LS,e]
  cases pre with
  | nil=>
   obtain rfl:x=(n,agI[n]):=by
    let⟨t,b⟩:=h;exact(List.cons.inj b).1
   rw[aa (sU g)]
  |cons y l=>
   let⟨t,b⟩:=h;let⟨j,k⟩:=List.cons.inj b;subst j;have i: ¬wr agI[n].i=a:=c (n,agI[n]) b1;rw[dZ (sU i)];exact Dv (mX f) ⟨t,k⟩ (λy o=>c y (bY _ o)) g
def C6(agI:List ai)(a)(i)(c:agI.length<=1000)(e:∀x∈agI,x.ok)(b:i<=1000):bI C0 137 [.X 17 (agI.map ak) a,vN i] (.F 153 [] [.dp 1 0 [vN i],.dp 1 0 [.X 17 (agI.map ak) a]]):=by
 apply bx func137 rfl;apply zV (.F 153 [] [.ptr 1 0,.ptr 0 0]);exact dK rfl f_ rfl rfl
def QN(agI)(b)(i)(a)(u:agI.length<=1000)(o:∀x∈agI,x.ok)(r:i<=1000):bI C0 103 [.X 17 (agI.map ak) b,vN i,vI a] (vI (DM (gX agI i a))):=by
 refine bI.Zj (λd=>fw.wd d) (λn=>fw.at) func103 rfl rfl (by kernel_rfl) rfl<|uO<|tQ rfl<|a6<|c4 0 rfl rfl<|c4 1 rfl rfl<|rE 2<|uO<|uO<|tQ rfl<|a6<|oR 1 rfl<|rV (vB (decide (a<1))) rfl<|oR 1 rfl<|gN rfl<|a' rfl id rfl<|bO rfl rfl rfl (by simp)<|rE 8<|VT rfl (λg=>?_) (λg=>?_)
 ·refine uO<|tQ rfl<|a6<|a4 rfl<|rE 9<|tQ rfl<|FQ ?_;have f:(a<1∨a>31):=by have z:=g;simp[af]at z;grind
  have e:gX agI i a=none:=aa f;rw[e];exact fT rfl rfl
 refine tQ rfl<|mF<|uO<|uO<|tQ rfl<|a6<|oR 2 rfl<|ba rfl (C6 agI b i u o r)<|rE 11<|Ja<|Md (.mk _ (.refl _) ⟨⟨be [(5,.ptr 0 0),(6,.ptr 1 0),(17,.F 153 [] [.dp 1 0 ([vN i]),.dp 1 0 ([.X 17 (agI.map ak) b])])],ao [(0,.box [vI a]),(1,.box [vI 0])],2⟩,λs=>s,au _ wT wH rfl,rfl,?_⟩);refine .mk (Nat×ai) 153 [.dp 1 0 ([vN i]),.dp 1 0 ([.X 17 (agI.map ak) b])] (λx:Nat×ai=>[vN x.1,.agg (ak x.2)]) td (gx agI (min i agI.length)) (λx:Nat×ai=> ¬wr x.2.i=a) 2 (λ_=>ao [(0,.box [vI a]),(1,.box [vI 0])]) (λ_=>2) rfl rfl ⟨_,func153,rfl,rfl⟩ (x4 agI b i u o r) (λx S w β=>BL (show Ju [vN x.1,.agg (ak x.2)]=some _ from rfl)) (λ_=>rfl) rfl rfl (λ_=>rfl) (au (hp:=[]) (λs=>s) wT trivial rfl) ?_ ?_
 ·intro A x j q;have k:=Ar (j.subset (List.mem_append_right _ (uJ.2 rfl)));have E:x.1<=1000:=oH k.1;have G:=o x.2 (aB k.2);refine bk<|oR 1 rfl<|rE 3<|a6<|c4 3 rfl rfl<|a4 rfl<|rE 5 ?_;refine⟨rfl,?_⟩;refine kO<|bk<|oR 2 rfl<|ba rfl (Da x.2.i)<|oR 1 rfl<|rV (vB ((wr x.2.i)==a)) rfl<|rE 10<|aV rfl (λc=>?_) (λc=>?_)
  ·have p:=mT c;refine bk<|oR 1 rfl<|a4 rfl<|rE 12<|FQ<|.mk _ (.refl _) ⟨ao [(0,.box [vI a]),(1,.box [vN x.1])],2,λs=>s,rfl,rfl,au (l:=[]) (hp:=[(0,.box [vI a]),(1,.box [vN x.1])]) (λs=>s) trivial wH rfl,?_⟩;intro D;have f: ¬(a<1∨a>31):=by have z:=g;simp[af]at z;grind
   have e:gX agI i a=some x.1:=(dZ f).trans (Dv (eX _ _) j q (mT c));rw[e];exact fT rfl rfl
  have p:=nA c;exact mF<|⟨nA c,.mk _ (.refl _) ⟨λs=>s,rfl,au (l:=[]) (hp:=[(0,.box [vI a]),(1,.box [vI 0])]) (λs=>s) trivial wH rfl⟩⟩
 intro v D;refine uO<|tQ rfl<|a6<|a4 rfl<|rE 3<|tQ rfl<|FQ ?_;have f: ¬(a<1∨a>31):=by have z:=g;simp[af]at z;grind
 have e:gX agI i a=none:=(dZ f).trans (Du (eX _ _) v);rw[e];exact fT rfl rfl
theorem GO{agI:List ai}{a:Int}:∀{n k:Nat},hv agI a n=some k->k<n
 |0,k,h=>by cases h
 |n+1,k,h=>by
  simp[hv]at h;split at h
  ·injection h with h;omega
  ·have:=GO h;omega
def EY{agI}{i k}{a}(h:gX agI i a=some k):k<i∧k<agI.length:=by
 unfold gX at h;split at h
 ·cases h
 have:=GO h;omega
def MW{o}(h:DM o<0):o=none:=by cases o with|none=>rfl|some k=>exact absurd h (oT:¬((k:Int)<0))
def Im{o}(h: ¬DM o<0):∃k,o=some k:=by cases o with|none=>exact absurd dT h|some k=>exact⟨k,rfl⟩
def Kl(agI)(r)(A)(i)(a)(E:agI.length<=1000)(G:∀x∈agI,x.ok)(I:∀k,r k<=4294967295)(H:i<=1000):bI C0 61 [.X 17 (agI.map ak) A,.agg (Ks r),vN i,vI a] (.A [vU ((lK agI r i a).getD 0),vB (lK agI r i a).isSome]):=by
 refine bx func61 rfl<|cq _ (λg=>?_) (λg=>?_)
 ·have c:=mT g;have b:lK agI r i a=some 0:=by unfold lK;rw[aa c]
  exact fT rfl (by rw[b];rfl)
 have c:=nA g;refine zV (vB (decide (a<0)))<|a' rfl id rfl<|zN rfl (by simp)<|zB rfl (λo=>?_) (λo=>?_)
 ·have f:(a<0∨a>31):=by have z:=o;simp[af]at z;grind
  have b:lK agI r i a=none:=by unfold lK;rw[dZ c,aa f]
  exact fT rfl (by rw[b];rfl)
 have f: ¬(a<0∨a>31):=by have z:=o;simp[af]at z;grind
 refine zC (QN agI A (i) (a) E G ad)<|cq _ (λp=>?_) (λp=>?_)
 ·have D:=a7 p;have e:=MW D;refine nW (.ptr 0 (0+a.toNat*1)) rfl rfl ad<|zW _ (G3 r a.toNat ad) ?_;have b:lK agI r i a=some (r a.toNat):=by unfold lK;rw[dZ c,dZ f,e]
  exact fT rfl (by rw[b];rfl)
 let⟨j,e⟩:=Im (aF p);let⟨x,v⟩:∃x,agI[j]?=some x:=⟨_,aA (EY e).2⟩;refine FO (ak x) rfl rfl rfl (by rw[e];exact⟨aG _,iH v⟩) rfl<|qR 0 rfl<|zV (vB (x.is==3))<|gS rfl id<|a' rfl id rfl<|zN rfl (λh=>h)<|zB rfl (λq=>?_) (λq=>?_)
 ·have u:(x.is=3∧x.halt=0):=by have z:=q;simp[qA]at z;grind
  have b:lK agI r i a=some x.value:=by unfold lK;rw[dZ c,dZ f,e];simp only[v];exact aa u
  exact fT rfl (by rw[b];rfl)
 have u: ¬(x.is=3∧x.halt=0):=by have z:=q;simp[qA]at z;grind
 have b:lK agI r i a=none:=by unfold lK;rw[dZ c,dZ f,e];simp only[v];exact dZ u
 exact fT rfl (by rw[b];rfl)
def Ck{agI}{r}(c:∀x∈agI,x.ok)(f:∀k,r k<=4294967295)(i)(a):(lK agI r i a).getD 0<=4294967295:=by
 unfold lK;split
 ·exact aE _
 split
 ·exact aE _
 split
 ·exact f _
 split
 ·rename_i e b;split
  ·exact(c e (aB b)).value
  exact aE _
 exact aE _
def VK(agI)(r)(a)(i)(f:agI.length<=1000)(c:∀x∈agI,x.ok)(g:∀k,r k<=4294967295)(q:i<=1000):bI C0 109 [.X 17 (agI.map ak) a,.agg (Ks r),vN i] (.A [vU (mI agI r i).1,vU (mI agI r i).2.1,vB (mI agI r i).2.2]):=by
 refine bx func109 rfl<|zW _ (ar (b2 _ _))<|a' rfl id (cD ak agI)<|a' rfl cj (ar (kx _ _))<|zN rfl (by simp)<|zB rfl (λb=>?_) (λb=>?_)
 ·have j:(i>=agI.length):=by have z:=b;simp[af]at z;grind
  have o:agI[i]?=none:=bE ad;exact fT rfl (by rw[show mI agI r i=(0,0,false)from by unfold mI;rw[o]];rfl)
 have j: ¬(i>=agI.length):=by have z:=b;simp[af]at z;grind
 let⟨x,e⟩:=d7 agI i;have p:=c x (aB e);exact zX _ (.dp 17 0 (ak x)) rfl (iH e)<|zC (Fs x.i)<|zC (Kl agI r a (i) (x.i.j) f c g ad)<|zC (Kl agI r a (i) (x.i.o) f c g ad)<|zN rfl (λh=>h)<|fT rfl (by rw[show mI agI r i=((lK agI r i x.i.j).getD 0,(lK agI r i x.i.o).getD 0,(lK agI r i x.i.j).isSome&&(lK agI r i x.i.o).isSome)from by unfold mI;rw[e]];simp[<-qA];rfl)
def z8(e)(k:e.ok):bI C0 160 [.agg (ak e)] (vB (LT e)):=by
 refine bx func160 rfl<|cq _ (λa=>?_) (λa=>?_)
 ·replace a:=sP a;exact fT rfl (dR (by unfold LT;grind))
 refine zC (pS e.i)<|bu (ar (b8 _ _)) (λb=>?_) (λb=>?_)
 ·replace a:=sP a;replace b:=sP b;exact fT rfl (dR (by unfold LT;grind))
 refine bu (ar (b8 _ _)) (λc=>?_) (λc=>?_)
 ·refine zB rfl (λ_=>?_) (λi=>Bool.noConfusion (c.symm.trans i));replace a:=sP a;replace b:=sP b;replace c:=sP c;exact fT rfl (dR (by unfold LT;grind))
 refine bu (ar (b8 _ _)) (λf=>?_) (λf=>?_)
 ·refine zB rfl (λ_=>?_) (λj=>Bool.noConfusion (f.symm.trans j));replace a:=sP a;replace b:=sP b;replace c:=sP c;replace f:=sP f;exact fT rfl (dR (by unfold LT;grind))
 refine bu (ar (b8 _ _)) (λg=>?_) (λg=>?_)
 all_goals (replace a:=sP a;replace b:=sP b;replace c:=sP c;replace f:=sP f;replace g:=sP g;exact fT rfl (dR (by unfold LT;grind)))
def Xd{α:Type}{p:α->Bool}{l:List α}{k:Nat}{x:α}(a:l[k]?=some x)(hp:p x=true)(h:∀y∈l.take k,p y=false):l.findIdx p=k:=by
 have:=QP a hp h;rw[List.findIdx?_eq_some_iff_findIdx_eq]at this;exact this.2
def Xe{α}{p}{l:List α}{k}(a:l.length<=k)(h:∀y∈l.take k,p y=false):l.findIdx p=l.length:=by
 rw[aN a]at h;exact List.findIdx_eq_length.2 h
def QJ(agI)(c)(q:agI.length<=1000)(o:∀x∈agI,x.ok):bI C0 155 [.X 17 (agI.map ak) c] (vN (Cq agI)):=by
 refine dx func155 rfl<|zW _ (cD ak agI)<|dy (λk=>⟨be [(0,.X 17 _ c),(5,.X 17 _ c),(6,vN agI.length),(7,vN k)],ao [],4⟩) (λk=>k<=agI.length∧∀y∈agI.take k,(!LT y)=false) (λk=>agI.length-k) 0 (λs=>s) (au (λs=>s) wT trivial rfl) (⟨aE _,QQ⟩) ?_;intro k a;have p:k<=agI.length:=a.1;refine bu (ar (b2 _ _)) (λe=>?_) (λe=>?_)
 ·have g:=a7 e;let⟨x,b⟩:=d7 agI k;have i:=o x (aB b);refine zX _ (.dp 17 0 (ak x)) rfl (iH b)<|zC (z8 x i)<|zB rfl (λf=>?_) (λf=>?_)
  ·exact fT rfl (nd (by unfold Cq;rw[Xd b (sU f) a.2]))
  skip
  have j:k+1<=1000001:=aD oT (aC 1);refine zW _ (ax (bH j rfl)) ?_;refine⟨k+1,λs=>s,au _ wT trivial rfl,⟨oT,QO b (sU f) a.2⟩,c7⟩
 have g:=aF e;exact zW _ (cD ak agI)<|fT rfl (nd (by unfold Cq;rw[Xe ad a.2]))
def MX(agI)(a)(i)(b:agI.length<=1000)(c:∀x∈agI,x.ok)(f:i<=1000):bI C0 142 [.X 17 (agI.map ak) a,vN i] (vB (vC agI i)):=by
 exact bx func142 rfl<|zW _ (ar (kx _ _))<|a' rfl id (cD ak agI)<|a' rfl cj (ar (iT _ _))<|zN rfl (λh=>h)<|jQ rfl rfl rfl rfl (λh=>h) rfl rfl rfl (.inl rfl) rfl (λe=>QJ agI a b c)<|a' rfl cj (ar (iT _ _))<|zN rfl (λh=>h)<|fT rfl (dR (by unfold vC;rw[bB];simp[qA]))
theorem mH(agI:List ai):∀k,(eS agI k).length=k
 |0=>rfl
 |k+1=>by simp[eS,aU,mH agI k,bN,cX]
def Ub{agI}{k j}{x}{o}(a:o=some j)(b:(eS agI k)[j]?=some x):sZ (eS agI k) o=x:=by
 subst a;show(eS agI k).getD j _=x;rw[aR,b];rfl
def QK(agI)(c)(i k)(a)(o:agI.length<=1000)(p:∀x∈agI,x.ok)(u:i<=k)(v:k<=1000):pM C0.P C0.G 159 [vN i,vI a,.ptr 0 0,.ptr 1 0] (ao [(0,.box [.X 17 (agI.map ak) c]),(1,.box [.S 2 0 k false]),(2,.arr ((eS agI k).map a_) 1)]) 3 (λx h'=>x=vI (sZ (eS agI k) (gX agI i a))∧h'=ao [(0,.box [.X 17 (agI.map ak) c]),(1,.box [.S 2 0 k false]),(2,.arr ((eS agI k).map a_) 1)]):=by
 refine HCall.intro fw.at func159 rfl rfl (by kernel_rfl) rfl rfl<|qS 0 rfl<|zC (QN agI c (i) (a) o p ad)<|cq _ (λe=>?_) (λe=>?_)
 ·have f:=a7 e;let⟨j,b⟩:=Im (oT:¬DM (gX agI i a)<0);have q:=EY b;have r:=mH agI k;refine nW _ rfl ((show bv.Z8 _ (AV.x 2 (0+(DM (gX agI i a)).toNat) 0)=bv.Z8 _ (AV.x 2 (0+j) 0)from by rw[b];rfl)) (by(try rw[b]);exact⟨aG _,by show(j:Int)<(k:Int);omega⟩) ?_;let⟨x,g⟩:=d7 (eS agI k) j;refine zX _ (vI x) rfl (Jv (iH g))<|BH rfl a9 rfl (ah (λz=>z) (by rw[Ub b g];rfl) rfl wH rfl)
 have f:=aF e;refine BH rfl a9 rfl (ah (λz=>z) (by rw[MW (oT:DM (gX agI i a)<0)];rfl) rfl wH rfl)
def x0(a b:Int):(if b>a then b else a)=max a b:=oT
def EZ{p}{H}{s rs}{agI}{k}{x}(a:(eS agI k).length=k)(b:x=DB agI (eS agI k) k):
  bv.fx p (.S s 0 ((List.take k (List.drop 0 ((eS agI k).map a_))).length+[[AV.v (.int .i64 x)]].length) false) (an H s (some (.arr (List.take k (List.drop 0 ((eS agI k).map a_))++[[AV.v (.int .i64 x)]]) rs)))=.fx p (.S s 0 (k+1) false) (an H s (some (.arr ((eS agI (k+1)).map a_) rs))):=by
 rw[bS,aN (by rw[aH,a];exact aC _),aH,a];simp only[eS,dH,jC,List.map_nil, <-b];rfl
def Jq(agI)(c)(r:agI.length<=1000)(i:∀x∈agI,x.ok):bI C0 154 [.X 17 (agI.map ak) c] (.X 1 ((kf agI).map a_) false):=by
 refine dx func154 rfl<|zC (QJ agI c r i)<|rW _ rfl (cD ak agI)<|zF (rfl) (⟨dT,FG.2 ad,by show((agI.length:Nat):Int)<=1000000;omega⟩)<|zV (.F 159 [] [.ptr 0 0,.ptr 8 0])<|zW _ (cD ak agI)<|dy (λk=>⟨be [(2,.X 0 ([]) true),(3,vN (Cq agI)),(4,.ptr 8 0),(5,.F 159 [] [.ptr 0 0,.ptr 8 0]),(17,.X 17 (agI.map ak) c),(18,vN agI.length),(19,vN k)],ao [(0,.box [.X 17 (agI.map ak) c]),(7,.arr ((eS agI k).map a_) 1),(8,.box [.S 7 0 k false])],15⟩) (λk=>k<=agI.length) (λk=>agI.length-k) 0 (λs=>s) (au (λs=>s) wT wH rfl) (aE _) ?_;intro k G;have H:k<=agI.length:=G;have f:k<=1000:=oT;refine bu (ar (b2 _ _)) (λj=>?_) (λj=>?_)
 ·have u:=a7 j;let⟨x,g⟩:=d7 agI k;have I:=i x (aB g);refine zX (ak x) (.dp 17 0 (ak x)) rfl (iH g)<|ba rfl (pS x.i)<|bu (ar (ee _ _)) (λo=>?_) (λo=>?_)
  ·have b:=wM o;refine zC (Fs x.i)<|zH rfl ((QK agI c k k x.i.j r i (aC k) ad).Y_ (λz=>match z with|0=>0|1=>8|2=>7|z=>z) _ _ rfl ⟨d8,d8,d8,trivial⟩ rfl rfl rfl) ?_;rintro _ _ ⟨rfl,rfl⟩;apply fU _ rfl rfl rfl ((QK agI c k k x.i.o r i (aC k) ad).Y_ (λz=>match z with|0=>0|1=>8|2=>7|z=>z) _ _ rfl ⟨⟨rfl,rfl,rfl,rfl⟩,⟨rfl,rfl,rfl,rfl⟩,⟨rfl,rfl,rfl,rfl⟩,trivial⟩ rfl rfl rfl);rintro _ _ ⟨rfl,rfl⟩;refine zW (vI (if(sZ (eS agI k) (gX agI k x.i.o))>(sZ (eS agI k) (gX agI k x.i.j))then(sZ (eS agI k) (gX agI k x.i.o))else(sZ (eS agI k) (gX agI k x.i.j)))) rfl<|rV (.X 1 ([[vI (if(sZ (eS agI k) (gX agI k x.i.o))>(sZ (eS agI k) (gX agI k x.i.j))then(sZ (eS agI k) (gX agI k x.i.o))else(sZ (eS agI k) (gX agI k x.i.j)))]]) true) rfl ?_;have a:(if(sZ (eS agI k) (gX agI k x.i.o))>(sZ (eS agI k) (gX agI k x.i.j))then(sZ (eS agI k) (gX agI k x.i.o))else(sZ (eS agI k) (gX agI k x.i.j)))=DB agI (eS agI k) k:=by unfold DB;rw[g];exact(x0 _ _).trans (aa b).symm
   refine zF (EZ (mH agI k) a) (⟨by simp[aH,bN,cX,aM,bD,mH,jH];omega,by simp only[aH,mH];omega,trivial⟩) ?_;have A:k+1<=1001:=aD f (aC 1);refine zW _ (ax (bH A rfl)) ?_;refine⟨k+1,λz=>match z with|7=>48|z=>z,au _ wT wH rfl,oT,c7⟩
  have b:=wN o;refine bu (ar (gQ _ _)) (λp=>?_) (λp=>?_)
  ·have e:=a7 p;apply rV (.X 1 ([[vN k]]) true) rfl;have a:(k:Int)=DB agI (eS agI k) k:=by unfold DB;rw[g];dsimp only;rw[dZ (show ¬am x.i.op≠3 from λq=>q b),aa e]
   refine zF (EZ (mH agI k) a) (⟨by simp[aH,bN,cX,aM,bD,mH,jH];omega,by simp only[aH,mH];omega,trivial⟩) ?_;have D:k+1<=1001:=aD f (aC 1);refine zW _ (ax (bH D rfl)) ?_;refine⟨k+1,λz=>match z with|7=>35|z=>z,au _ wT wH rfl,oT,c7⟩
  have e:=aF p;apply rV (.X 1 ([[vI (-1)]]) true) rfl;have a:(-1)=DB agI (eS agI k) k:=by unfold DB;rw[g];dsimp only;rw[dZ (show ¬am x.i.op≠3 from λq=>q b),dZ e]
  refine zF (EZ (mH agI k) a) (⟨by simp[aH,bN,cX,aM,bD,mH,jH];omega,by simp only[aH,mH];omega,trivial⟩) ?_;have E:k+1<=1001:=aD f (aC 1);refine zW _ (ax (bH E rfl)) ?_;refine⟨k+1,λz=>match z with|7=>33|z=>z,au _ wT wH rfl,oT,c7⟩
 have u:=aF j;have v:k=agI.length:=oT;subst v;apply dK rfl (by show 0+agI.length<=((eS agI agI.length).map a_).length;rw[aH,mH];omega) rfl;show AV.X 1 (List.take agI.length (List.drop 0 ((eS agI agI.length).map a_))) false=_;rw[jW a_ (eS agI agI.length) (by rw[mH];exact aC _)];rfl
def Ej{agI}{i}{a}(c:decide (DM (gX agI i a)>=0)=true):0<=DM (gX agI i a)∧((kf agI).map a_)[(DM (gX agI i a)).toNat]?=some (a_ ((kf agI).getD (DM (gX agI i a)).toNat (-1))):=by
 have h:=a7 c;let⟨j,b⟩:=Im (oT:¬DM (gX agI i a)<0);refine⟨h,?_⟩;rw[b];have e:=(EY b).2;have f:(kf agI).length=agI.length:=mH agI agI.length;show((kf agI).map a_)[j]?=some (a_ ((kf agI).getD j (-1)));rw[aX,aR,aA ad];rfl
def Uc(agI)(i)(a):cE (decide (DM (gX agI i a)>=0)) (decide ((kf agI).getD (DM (gX agI i a)).toNat (-1)>=0)) false=IC agI i a:=by
 unfold IC
 cases h:gX agI i a with
 |none=>rfl
 |some j=>
  rw[show decide (DM (some j)>=0)=true from jP (aG _)];rfl
def Ud(agI)(b)(i)(a)(e:agI.length<=1000)(f:∀x∈agI,x.ok)(g:i<=1000):bI C0 140 [.X 17 (agI.map ak) b,vN i,vI a] (vB (IC agI i a)):=by
 exact bx func140 rfl<|zC (QN agI b (i) (a) e f ad)<|zV (vB (decide ((DM (gX agI (i) (a)))>=0)))<|zQ rfl (λh=>h) rfl (.inl rfl) (λc=>Jq agI b e f)<|DK _ rfl rfl rfl rfl cj rfl rfl (λc=>Ej c) rfl<|gS rfl id<|a' rfl id rfl<|zN rfl (λh=>h)<|fT rfl (dR (Uc agI i a))
def B_(e)(k:e.ok):bI C0 138 [.agg (ak e)] (vB (DC e)):=by
 refine bx func138 rfl<|zC (pS e.i)<|bu (ar (b8 _ _)) (λa=>?_) (λa=>?_)
 ·refine zB rfl (λ_=>?_) (λg=>Bool.noConfusion (a.symm.trans g));replace a:=sP a;exact fT rfl (dR (by unfold DC;rw[bB];simp[aY];grind))
 refine bu (ar (b8 _ _)) (λb=>?_) (λb=>?_)
 ·refine zB rfl (λ_=>?_) (λi=>Bool.noConfusion (b.symm.trans i));replace a:=sP a;replace b:=sP b;exact fT rfl (dR (by unfold DC;rw[bB];simp[aY];grind))
 refine bu (ar (b8 _ _)) (λc=>?_) (λc=>?_)
 ·refine zB rfl (λ_=>?_) (λj=>Bool.noConfusion (c.symm.trans j));replace a:=sP a;replace b:=sP b;replace c:=sP c;exact fT rfl (dR (by unfold DC;rw[bB];simp[aY];grind))
 refine bu (ar (b8 _ _)) (λf=>?_) (λf=>?_)
 all_goals (replace a:=sP a;replace b:=sP b;replace c:=sP c;replace f:=sP f;exact fT rfl (dR (by unfold DC;rw[bB];simp[aY];grind)))
def xn(e)(i:e.ok):bI C0 141 [.agg (ak e)] (.X 1 ((qD e).map a_) true):=by
 refine bx func141 rfl<|zC (Fs e.i)<|zC (pS e.i)<|zW (vB ((am e.i.op)==3)) (ar (b8 _ _))<|zB rfl (λa=>?_) (λa=>?_)
 ·have c:=mT a;refine zB rfl (λ_=>?_) (λg=>Bool.noConfusion (a.symm.trans g));apply zV _;exact fT rfl (by rw[show qD e=[e.i.j]from by unfold qD;exact aa ad];rfl)
 have c:=nA a;refine zW (vB ((am e.i.op)==4)) (ar (b8 _ _))<|zB rfl (λb=>?_) (λb=>?_)
 ·have f:=mT b;apply zV _;exact fT rfl (by rw[show qD e=[e.i.j]from by unfold qD;exact aa ad];rfl)
 have f:=nA b;apply zV _;exact fT rfl (by rw[show qD e=[e.i.j,e.i.o]from by unfold qD;exact dZ ad];rfl)
def Ue(e):(qD e).length<=2:=by unfold qD;split<;>simp
def Xf(agI)(b)(i)(a)(e:agI.length<=1000)(f:∀x∈agI,x.ok)(c:i<=1000):bI C0 139 [vI a,.dp 1 0 [.X 17 (agI.map ak) b],.dp 1 0 [vN i]] (vB (!IC agI i a)):=by
 apply bx func139 rfl;exact zC (Ud agI b i a e f c)<|fT rfl rfl
def zu(mode)(agI)(g)(i)(K:agI.length<=1000)(D:∀x∈agI,x.ok)(I:i<=1000):bI C0 108 [vI mode,.X 17 (agI.map ak) g,vN i] (vB (Pr mode agI i)):=by
 refine bx func108 rfl<|zW _ (ar (b2 _ _))<|a' rfl id (cD ak agI)<|a' rfl cj (ar (kx _ _))<|zN rfl (by simp)<|zB rfl (λo=>?_) (λo=>?_)
 ·have O:(i>=agI.length):=by have z:=o;simp[af]at z;grind
  have R:agI[i]?=none:=bE ad;exact fT rfl (dR (by unfold Pr;rw[R]))
 have O: ¬(i>=agI.length):=by have z:=o;simp[af]at z;grind
 let⟨x,b⟩:=d7 agI i;have j:=D x (aB b);refine zX (ak x) (.dp 17 0 (ak x)) rfl (iH b)<|zC (B_ x j)<|zB rfl (λe=>?_) (λe=>?_)
 ·exact fT rfl (dR (by unfold Pr;rw[b];dsimp only;rw[aa (sU e)]))
 refine zV (.F 139 [] [.ptr 0 0,.ptr 1 0])<|cq (mode==0) (λp=>?_) (λp=>?_)
 ·have a:=mT p;exact fT rfl (dR (by unfold Pr;rw[b];dsimp only;rw[dZ (sU e),aa a]))
 have a:=nA p;refine cq (mode==1) (λq=>?_) (λq=>?_)
 ·have c:=mT q;refine zX (ak x) (.dp 17 0 (ak x)) rfl (iH b)<|ba rfl (xn x j)<|zW _ (cD a_ (qD x))<|dy (λk=>⟨be [(4,.ptr 0 0),(5,.ptr 1 0),(17,vB (cE (decide (i<0)) true (decide (i>=agI.length)))),(23,vB (!(DC x))),(7,.F 139 [] [.ptr 0 0,.ptr 1 0]),(25,vI mode),(26,vB (mode==0)),(28,vB (mode==1)),(34,.X 1 ((qD x).map a_) true),(35,vN ((qD x).length)),(36,vN k)],ao [(0,.box [.X 17 (agI.map ak) g]),(1,.box [vN i])],31⟩) (λk=>k<=(qD x).length∧((qD x).take k).all (λL=> !IC agI i L)=true) (λk=>(qD x).length-k) 0 (λs=>s) (au (λs=>s) wT wH rfl) (⟨aE _,rfl⟩) ?_;intro k A;have T:k<=(qD x).length:=A.1;refine bu (ar (b2 _ _)) (λr=>?_) (λr=>?_)
  ·have G:=a7 r;let⟨E,f⟩:=d7 (qD x) k;refine zX (a_ E) (.dp 1 0 (a_ E)) rfl (iH f)<|zL rfl (.inr ⟨rfl,trivial,trivial,trivial,trivial⟩) (Xf agI g i E K D I)<|zB rfl (λu=>?_) (λu=>?_)
   ·have z:=u;exact fT rfl (dR (by unfold Pr;rw[b];dsimp only;rw[dZ (sU e),dZ a,aa c,Ir f (sU z)]))
   skip
   have M:k+1<=1000001:=aD (oH (Ue x)) (aC 1);refine zW _ (ax (bH M rfl)) ?_;refine⟨k+1,λs=>s,au _ wT wH rfl,⟨oT,DV f (sU u) A.2⟩,by show(qD x).length-(k+1)<(qD x).length-k;omega⟩
  have G:=aF r;exact fT rfl (dR (by unfold Pr;rw[b];dsimp only;rw[dZ (sU e),dZ a,aa c,DW ad A.2]))
 have c:=nA q;refine cq (mode==2) (λv=>?_) (λv=>?_)
 ·have H:=mT v;exact zC (MX agI g i K D I)<|fT rfl (dR (by unfold Pr;rw[b];dsimp only;rw[dZ (sU e),dZ a,dZ c,aa H]))
 exact fT rfl (dR (by unfold Pr;rw[b];dsimp only;rw[dZ (sU e),dZ a,dZ c,dZ (nA v)]))
abbrev RP(n:Nat):List AV:=[.v (.int .i64 (n:Int))]
theorem NM{α:Type}(f:α->Value):∀(l:List α),(l.flatMap λa=>[f a])=l.map f
 |[]=>rfl
 |a::l=>by rw[gW,NM f l];rfl
def KU{α:Type}{f:α->Value}{l:List α}{S:Nat->Prop}{w:World}{v:Value}{i:Bool}(e:TypeId)(G:∀b,S b->b<w.heap.size)(h:aq S w ce (.X 1 (l.map λa=>[AV.v (f a)]) i) v):Sl w.heap.size e 1 w v l.length (l.flatMap λa=>[f a]):=by
 cases h with
 |X _ _ _ A c b o u D H O R hA L T K=>
  rw[aH]at D;refine⟨A,c,by rw[aH],D,H,by rw[NM,aH,iD],λI=>?_⟩;let⟨q,r⟩:=hA (by rw[aH];exact I);refine⟨b,o,q,.inl (G b r),λj x E=>?_⟩;rw[NM,aX]at E;obtain⟨y,M,rfl⟩:=Gi.1 E;have g:(l.map λa=>[AV.v (f a)])[j]?=some [AV.v (f y)]:=by rw[aX,M];rfl
  have k:=L j _ 0 _ g rfl;have p:=K j _ 0 _ g rfl;rw[(oT:o+j*1+0=o+j)]at k;rw[k];generalize u j 0=z at p;cases p;rfl
def Pg{α:Type}{f:α->Value}(I:∀a,(f a).oneCell'=true){l:List α}{w:World}{v:Value}{q:Nat}{e:TypeId}(h:w.ownsRow q e 1 v l.length (l.flatMap λa=>[f a]))(S:Nat->Prop)(K:∀b,q<=b->b<w.heap.size->S b):aq S w ce (.X 1 (l.map λa=>[AV.v (f a)]) false) v:=by
 obtain⟨U,⟨rfl,H⟩|⟨g,D,r,rfl,L,E,O,M,T,G⟩⟩:=h
 ·have:l=[]:=gp H;subst this;exact .X 1 [] false none 0 0 0 (λ_ _=>.bool false) (aC _) (aE _) nofun nofun (λh=>absurd h (iI 0)) (λi row j a h=>by simp at h) (λ_ _=>rfl) λi row j a h=>by simp at h
 ·rw[NM,iD]at G;have o:∀(i:Nat) row (j:Nat) a,(l.map λa=>[AV.v (f a)])[i]?=some row->row[j]?=some a->∃x,l[i]?=some x∧j=0∧a=.v (f x)∧r[i]?=some (f x):=by
   intro i row j a c k;rw[aX]at c;obtain⟨x,A,rfl⟩:=Gi.1 c
   cases j with
   |zero=>
    injection k with k;refine⟨x,A,rfl,k.symm,?_⟩;have:(l.map f)[i]?=some (f x):=by rw[aX,A];rfl
    rw[<-G,cU]at this;split at this
    ·rwa[<-bQ]
    ·cases this
   |succ j=>simp at k
  have u:(l.map λa=>[AV.v (f a)]).length=l.length:=aH ..;rw[<-u];refine .X 1 _ false (some ⟨g,0,none⟩) D g 0 (λi j=>if i<l.length then r.getD i undef else .bool false) (by rw[u];exact O) M nofun (λrow R=>?_) (λ_=>⟨rfl,K g L (fJ E)⟩) (λi row j a c k=>?_) (λi j=>?_) λi row j a c k=>?_
  ·obtain⟨x,_,rfl⟩:=pG.1 R;rfl
  ·obtain⟨x,z,rfl,rfl,p⟩:=o i row j a c k;rw[aa (Em.1 z).1,gP E];rw[(oT:0+i*1+0=i),p,aK,p];rfl
  ·show(if i<l.length then r.getD i undef else .bool false).oneCell'=true;by_cases c:i<l.length
   ·rw[aa c];let⟨x,z,_,_,p⟩:=o i [AV.v (f l[i])] 0 (.v (f l[i])) (by rw[aX,aA c];rfl) rfl;rw[aK,p];exact I x
   ·rw[dZ c];rfl
  ·obtain⟨x,z,rfl,rfl,p⟩:=o i row j a c k;rw[aa (Em.1 z).1,aK,p];exact .v _
def s9(agN)(busy)(kinds)(can)(i c2)(E:kinds.length<=1000)(G:can.length<=1000):bI C0 70 [vI agN,vB busy,.X 1 (kinds.map a_) i,.X 1 (can.map hJ) c2] (.X 1 ((g9 agN busy kinds can).map RP) false):=by
 refine⟨⟨_,func70,rfl,rfl⟩,λS w D c H a=>?_⟩
 match D,a with
 |[z,A,f,g],a=>
  have j:=a.2 1 _ A rfl rfl;have k:=a.2 2 _ f rfl rfl;have o:=a.2 3 _ g rfl rfl;cases (a.2 0 _ z rfl rfl);cases j
  apply(UO agN busy kinds can w.heap.size kinds.length can.length f g w (KU _ c k) (KU _ c o) rfl rfl ad ad).mono;rintro e I ⟨v,u,x,r⟩
  exact⟨v,u,r,Pg (λ_=>rfl) x _ λb p q=>.inr ⟨p,q⟩⟩
 |[],a=>exact absurd a.1 (by simp)
 |[_],a=>exact absurd a.1 (by simp)
 |[_,_],a=>exact absurd a.1 (by simp)
 |[_,_,_],a=>exact absurd a.1 (by simp)
 |_::_::_::_::_::_,a=>exact absurd a.1 (by simp)
def Mi(q:List a2)(agY:Nat)(kinds:List Int):Bool:=q.any λx=>kinds.any λk=>decide (x.R=agY)&&decide (x.kind=k)
def UR(q:List a2):yH q<=q.length:=List.length_filter_le _ _
def Hb{q:List a2}{k}{x}(h:q[k]?=some x):yH (q.take (k+1))=yH (q.take k)+(if x.kind=4 then 0 else 1):=by
 unfold yH;rw[bW,h];by_cases e:x.kind=4<;>simp[mL,e]
def XR(q)(f)(u:q.length<=1000000)(j:∀x∈q,x.R<=4294967295):bI C0 116 [.X 4 (q.map b3) f] (vN (yH q)):=by
 refine bx func116 rfl<|zW _ (cD b3 q)<|dy (λk=>⟨be [(6,.X 4 _ f),(7,vN q.length),(3,vN (yH (q.take k))),(8,vN k)],ao [],5⟩) (λk=>k<=q.length) (λk=>q.length-k) 0 (λs=>s) (au (λs=>s) wT trivial rfl) (aE _) ?_;intro k r;have c:k<=1000000:=oT;have g:yH (q.take k)<=1000000:=by have:=UR (q.take k);rw[aM]at this;omega
 refine zW _ (ar (b2 _ _))<|zB rfl (λa=>?_) (λa=>?_)
 ·skip
  let⟨x,b⟩:∃x,q[k]?=some x:=⟨_,aA (a7 a)⟩;have p:=j x (aB b);refine zX _ (.dp 4 0 (b3 x)) rfl (iH b)<|cq _ (λe=>?_) (λe=>?_)
  ·skip
   have i:(yH _)+1<=1000001:=aD g (aC 1);refine zW _ (ax (bH i rfl)) ?_;refine zW _ (ax (bH (aD c (aC 1)) rfl)) ?_;refine⟨k+1,λs=>s,au _ ⟨a9,a9,⟨(a1 (λz:Nat=>AV.v (.int .i64 (z:Int))) (by rw[Hb b];have q:=e;simp at q;simp[q])),rfl⟩,a9,trivial⟩ trivial rfl,a7 a,oH (a7 a)⟩
  skip
  refine zW _ (ax (bH (aD c (aC 1)) rfl)) ?_;refine⟨k+1,λs=>s,au _ ⟨a9,a9,⟨(a1 (λz:Nat=>AV.v (.int .i64 (z:Int))) (by rw[Hb b];have q:=e;simp at q;simp[q])),rfl⟩,a9,trivial⟩ trivial rfl,a7 a,oH (a7 a)⟩
 have o:=aF a;exact fT rfl (nd (by rw[aN (oT:q.length<=k)]))
def Je{α}{f}{l:List α}{k}{x}(h:l[k]?=some x)(b:f x=false)(a:(l.take k).any f=false):(l.take (k+1)).any f=false:=by
 rw[bW,h];simp[List.any_append,b]at a⊢;exact a
def Jf{α:Type}{f:α->Bool}{l:List α}{k:Nat}{x:α}(h:l[k]?=some x)(a:f x=true):l.any f=true:=Mv.2 ⟨x,aB h,a⟩
def Mj{α}{f}{l:List α}{k}(h:l.length<=k)(a:(l.take k).any f=false):l.any f=false:=by rwa [aN h]at a
def RQ(q)(agY)(kinds)(g a)(H:q.length<=1000000)(G:∀x∈q,x.R<=4294967295)(v:agY<=4294967295)(E:kinds.length<=1000000):bI C0 74 [.X 4 (q.map b3) g,vU agY,.X 1 (kinds.map a_) a] (.v (.bool (Mi q agY kinds))):=by
 refine bx func74 rfl<|zW _ (cD b3 q)<|dy (λk=>⟨be [(1,vU agY),(2,.X 1 (kinds.map a_) a),(11,.X 4 (q.map b3) g),(12,vN q.length),(13,vN k)],ao [],4⟩) (λk=>k<=q.length∧(q.take k).any (λx:a2=>kinds.any λk=>decide (x.R=agY)&&decide (x.kind=k))=false) (λk=>q.length-k) 0 (λs=>s) (au (λs=>s) wT trivial rfl) (⟨aE _,rfl⟩) ?_;intro k p;refine bu (ar (b2 _ _)) (λb=>?_) (λb=>?_)
 ·skip
  let⟨x,r⟩:∃x,q[k]?=some x:=⟨_,aA (a7 b)⟩;refine zX (b3 x) (.dp 4 0 (b3 x)) rfl (iH r)<|zW _ (cD a_ kinds)<|dy (λj=>⟨be [(1,vU agY),(2,.X 1 (kinds.map a_) a),(8,.ptr 7 0),(11,.X 4 (q.map b3) g),(12,vN q.length),(13,vN k),(17,.X 1 (kinds.map a_) a),(18,vN kinds.length),(19,vN j)],ao [(7,.box [vI x.kind,vU x.R,vI x.left,.v (.string x.data)])],12⟩) (λj=>j<=kinds.length∧(kinds.take j).any (λk:Int=>decide (x.R=agY)&&decide (x.kind=k))=false) (λj=>kinds.length-j) 0 (λs=>s) (au (λs=>s) wT wH rfl) (⟨aE _,rfl⟩) ?_;intro j o;have u:j<=1000000:=oH o.1;refine bu (ar (b2 _ _)) (λc=>?_) (λc=>?_)
  ·skip
   let⟨f,e⟩:∃f,kinds[j]?=some f:=⟨_,aA (a7 c)⟩;refine zX (a_ f) (.dp 1 0 (a_ f)) rfl (iH e)<|zW _ (ar (b8 _ _))<|zG rfl id<|a' rfl cj rfl<|zN rfl (λh=>h)<|zB rfl (λi=>?_) (λi=>?_)
   ·exact fT rfl (a1 (λz=>AV.v (.bool z)) (Jf r (Jf e (by have z:=i;simpa [c2]using z))).symm)
   skip
   have A:j+1<=1000001:=aD u (aC 1);refine zW _ (ax (bH A rfl)) ?_;refine⟨j+1,λs=>s,au _ wT wH rfl,⟨a7 c,Je e (by have z:=i;simpa [c2]using z) o.2⟩,oH (a7 c)⟩
  have D:k+1<=1000001:=aD (oH p.1) (aC 1);refine zW _ (ax (bH D rfl)) ?_;refine⟨k+1,λs=>s,au _ wT trivial rfl,⟨a7 b,Je r (Mj (oH (aF c)) o.2) p.2⟩,oH (a7 b)⟩
 exact fT rfl (a1 (λz=>AV.v (.bool z)) (Mj (oH (aF b)) p.2).symm)
end Go.Proofs.YtmbhlpgmfafmbaaGreatDoor
