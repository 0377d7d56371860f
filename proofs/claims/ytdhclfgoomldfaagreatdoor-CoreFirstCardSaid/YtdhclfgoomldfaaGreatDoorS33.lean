/- Lemmas. -/
import Derived.RangeFuncNested
import Derived.RangeFuncLeaves
import Derived.TacticsIn
import Derived.OrdersIn
import Derived.Scope
import Derived.Test.YtdhclfgoomldfaaGreatDoorS1
import Derived.Test.YtdhclfgoomldfaaGreatDoorS24
import Derived.Test.YtdhclfgoomldfaaGreatDoorS30
import Derived.Test.YtdhclfgoomldfaaGreatDoorS31
import Derived.Test.YtdhclfgoomldfaaGreatDoorS32
set_option linter.all false
namespace Go.Proofs.YtdhclfgoomldfaaGreatDoor
open Go.RowKit
def RK(h:AH):AV->AV
 | .ptr s c=>match h s with|some (.box cells)=>.dp cells.length c (rO h cells)|_=>.any
 |x=>vR h x
def KI(h:AH):List AV->List AV
 |[]=>[]
 |x::xs=>RK h x::KI h xs
def RL(h:AH):AV->Prop
 | .ptr s _=>match h s with|some (.box cells)=>eW (rO h cells)=true∧jV h cells|_=>True
 |x=>jU h x
def XN(h:AH):List AV->Prop
 |[]=>True
 |x::xs=>RL h x∧XN h xs
theorem KJ(h:AH):∀(l:List AV),(KI h l).length=l.length
 |[]=>rfl
 |_::l=>az (· +1) (KJ h l)
theorem KL(h:AH):∀(l:List AV) (i:Nat) (x:AV),(KI h l)[i]?=some x->∃y,l[i]?=some y∧x=RK h y
 |[],i,x,a=>by simp[KI]at a
 |y::l,0,x,a=>by simp[KI]at a;exact⟨y,rfl,a.symm⟩
 |y::l,i+1,x,a=>by simp[KI]at a;exact KL h l i x a
theorem KM(h:AH):∀(l:List AV),XN h l->∀(i:Nat) y,l[i]?=some y->RL h y
 |[],_,i,y,a=>by simp at a
 |x::l,b,0,y,a=>by simp at a;subst a;exact b.1
 |x::l,b,i+1,y,a=>KM h l b.2 i y (sU a)
theorem Az(h:AH):∀(l:List AV),(rO h l).length=l.length
 |[]=>by simp[rO]
 |_::l=>by simp[rO,Az h l]
theorem KN(h:AH):∀(l:List AV) (i:Nat) (x:AV),(rO h l)[i]?=some x->∃y,l[i]?=some y∧x=vR h y
 |[],i,x,a=>by simp[rO]at a
 |y::l,0,x,a=>by simp[rO]at a;exact⟨y,rfl,a.symm⟩
 |y::l,i+1,x,a=>by simp[rO]at a;exact KN h l i x a
theorem Fw(h:AH):∀(l:List AV),jV h l->∀(i:Nat) y,l[i]?=some y->jU h y
 |[],_,i,y,a=>by simp at a
 |x::l,b,0,y,a=>by simp[jV]at b;simp at a;subst a;exact b.1
 |x::l,b,i+1,y,a=>by simp[jV]at b;exact Fw h l b.2 i y (sU a)
section
variable {S:Nat->Prop}{w:World}{β:Bt}{h:AH}{B:Nat}
def RM(H:ct B S w β h){a}{v}(x:au S w β a v)(k:RL h a):au (λb=>b<w.heap.size) w β (RK h a) v:=by
 have q:∀b,(S b∨(B<=b∧b<w.heap.size))->b<w.heap.size:=λb p=>p.elim (H.lt b) (·.2);by_cases hp:∃s c,a=.ptr s c
 ·obtain⟨s,c,rfl⟩:=hp
  cases x with
  |ptr _ _ l r=>
  simp[RK];simp[RL]at k
  cases z:h s with
  |none=>exact .any _
  | some blk=>
   cases blk with
   |arr rows rs=>exact .any _
   |row cells=>exact .any _
   | box cells=>
    simp[z]at k⊢;let⟨f,i,T,R,A,D,U,X,Y,L⟩:=H.own s _ z;obtain rfl:f=l:=by rw[r]at A;exact(ga A).symm
    have o:∀(j:Nat) a,(rO h cells)[j]?=some a->i[f.base+j]?=some (i.getD (f.base+j) undef)∧(i.getD (f.base+j) undef).oneCell'=true∧au (λb=>b<w.heap.size) w cw a (i.getD (f.base+j) undef):=by
     intro j a g;obtain⟨b,p,rfl⟩:=KN h cells j a g;let⟨u,E,M,O⟩:=L j b p;have K:i.getD (f.base+j) undef=u:=by rw[aK,E];rfl
     rw[K];exact⟨E,M,mB ((BO H O (Fw h cells k.2 j b p)).mono q (ci.refl _ _) (ME.refl _)) (fW _ k.1 j _ g) _⟩
    refine .dp cells.length c _ f.j f.base (λj=>if j<cells.length then i.getD (f.base+j) undef else .bool false) (Az h cells) (fJ D) (λj a g=>?_) (λj=>?_) λj a g=>?_
    ·have e:j<cells.length:=by rw[<-Az h cells];exact(Em.1 g).1
     rw[aa e,gP D];exact(o j a g).1
    ·show(if j<cells.length then i.getD (f.base+j) undef else .bool false).oneCell'=true;by_cases e:j<cells.length
     ·rw[aa e];exact(o j _ (aA (by rw[Az];exact e))).2.1
     ·rw[dZ e];rfl
    ·have e:j<cells.length:=by rw[<-Az h cells];exact(Em.1 g).1
     rw[aa e];exact(o j a g).2.2
 ·have G:RK h a=vR h a:=by cases a<;>first|rfl|exact absurd ⟨_,_,rfl⟩ hp
  have I:RL h a=jU h a:=by cases a<;>first|rfl|exact absurd ⟨_,_,rfl⟩ hp
  rw[G];rw[I]at k;exact(BO H x k).mono q (ci.refl _ _) (ME.refl _)
end
theorem pM.Zu{C}{f}{args}{h}{s}{r}(I:bI C f (KI h args) r)(o:eW (KI h args)=true)(D:XN h args)(A:CQ r=true):pM C.P C.G f args h s (λx h'=>x=r∧h'=h):=by
 let⟨hm,bb⟩:=I;refine⟨hm,λB S w β X H L K c=>?_⟩;refine(bb (λb=>b<w.heap.size) w X (λ_ h=>h) (λg cells O=>(K g cells O).mono H.lt (ci.refl _ _) (ME.refl _)) ⟨by rw[KJ];exact c.1,λi y u p q=>?_⟩).mono ?_
 ·obtain⟨z,G,rfl⟩:=KL h args i y p;exact mB (RM H (c.2 i z u G q) (KM h args D i z G)) (fW _ o i _ p) _
 rintro e w' ⟨v,M,j,R⟩;have k:ci S w w':=ci.ZQ (λb a=>j.block b a) H.lt;refine⟨v,S,β,r,h,a9,M,MD R A,⟨λU blk E=>?_,H.inj,λb a=>ep (H.lt b a) j.size,aL H.ZT j.size⟩,⟨λ_ h=>h,k,j.mono H.ZT,ME.refl _,λ_ _ T=>.inl T,λb a=>.inl a,λb a _=>j.block b a⟩⟩;let⟨l,cs,c0,c',dr,b4,ds,em,fz,gf⟩:=H.own U blk E;exact⟨l,cs,c0,c',dr,(j.block _ (fJ b4)).trans b4,ds,em,fz,gf.mono (λ_ h=>h) k (ME.refl _)⟩
def iy(ρ:Nat->Nat)(K:AH)(s aq:Nat):List (Nat×bh)->Prop
 |[]=>True
 |(i,b)::l=>(Nat.blt (ρ i) aq=true∧Nat.blt i s=true∧qM s b=true∧K (ρ i)=some (DI ρ b))∧iy ρ K s aq l
theorem iy.get{ρ:Nat->Nat}{K:AH}{s aq:Nat}:∀{l:List (Nat×bh)},iy ρ K s aq l->∀x blk,ap l x=some blk->ρ x<aq∧x<s∧qM s blk=true∧K (ρ x)=some (DI ρ blk)
 |[],_,x,blk,h=>by cases h
 | (i,b)::l,bb,x,blk,h=>by
  simp[ap]at h
  cases a:Nat.beq i x with
  |true=>
   rw[a]at h;injection h with h;subst h;rw[<-aO a]
   exact⟨aJ bb.1.1,aJ bb.1.2.1,bb.1.2.2.1,bb.1.2.2.2⟩
  |false=>rw[a]at h;exact iy.get bb.2 x blk h
def UQ(ρ:Nat->Nat):Nat->Bool
 |0=>true
 |k+1=>(List.range k).all (λj=> !Nat.beq (ρ j) (ρ k))&&UQ ρ k
theorem NG{ρ:Nat->Nat}:∀{s:Nat},UQ ρ s=true->∀x y,x<s->y<s->ρ x=ρ y->x=y
 |0,_,x,_,a,_,_=>absurd a (dG _)
 | k+1,h,x,y,a,b,e=>by
  simp[UQ,aP,rC,lI,qI]at h;rcases fk x k with h1|h1<;>rcases fk y k with h2|h2
  ·exact NG h.2 x y h1 h2 e
  ·have:y=k:=oT;subst this;have:=h.1 x h1;rw[e]at this;simp at this
  ·have:x=k:=oT;subst this;have:=h.1 y h2;rw[e]at this;simp at this
  ·omega
theorem pM.ZF{P}{G}{f}{args}{L}{s}{bo}(H:pM P G f args (ap L) s bo)(ρ)(K)(aq)(i:g4 (ap L) s=true)(o:iy ρ K s aq L)(u:UQ ρ s=true)(q:mS s args=true)
  (b) (g:∀r h',bo r h'->∃k,b (uW (Gg ρ s aq) r) k∧∀y blk,k y=some blk->(∃x e,h' x=some e∧y=Gg ρ s aq x∧blk=DI (Gg ρ s aq) e)∨(K y=some blk∧∀x,x<s->ρ x≠y)):pM P G f (Bg ρ args) K aq b:=
 H.frame ρ K aq i (λx j=>by
  cases p:ap L x with
  |none=>exact absurd p j
  |some blk=>exact(o.get x blk p).2.1) (λx blk j=>let ⟨a,_,c,d⟩:=o.get x blk j;⟨a,c,d⟩) (NG u) q b g
mutual
theorem KO{s:Nat}{σ j:Nat->Nat}(h:∀x,x<s->σ x=j x):∀(a:AV),mR s a=true->uW σ a=uW j a
 | .ptr x c,e=>by simp[uW];rw[h x (by simpa [mR]using e)]
 | .u x r c,e=>by simp[uW];rw[h x (by simpa [mR]using e)]
 | .S x lo n c,e=>by simp[uW];rw[h x (by simpa [mR]using e)]
 | .agg i,e=>by simp[uW];rw[wF h i (by simpa [mR]using e)]
 | .E i,e=>by simp[uW];rw[wF h i (by simpa [mR]using e)]
 | .F f a b,e=>by
  simp[mR]at e;split at e
  ·rename_i k;simp only[uW];rw[wF h a k,wF h b e]
  ·cases e
 | .Z0 g x,e=>by simp[uW];rw[KO h x (by simpa [mR]using e)]
 | .v _,_| .X _ _ _,_| .dp _ _ _,_| .any,_=>by simp[uW]
theorem wF{s:Nat}{σ e:Nat->Nat}(h:∀x,x<s->σ x=e x):∀(a:List AV),mS s a=true->Bg σ a=Bg e a
 |[],_=>by simp[Bg]
 |c::a,b=>by
  simp[mS]at b;split at b
  ·rename_i f;simp only[Bg];rw[KO h c f,wF h a b]
  ·cases b
end
def yL(ρ)(s aq)(blk)(b:qM s blk=true):DI (Gg ρ s aq) blk=DI ρ blk:=by
 have a:∀x,x<s->Gg ρ s aq x=ρ x:=λx a=>rL ρ ad
 cases blk with
 |box cells=>simp[DI];rw[wF a cells b]
 |arr rows rs=>rfl
 |row cells=>simp[DI];rw[wF a cells b]
theorem pM.Y'{P}{G}{f}{args}{L}{s}{r}(H:pM P G f args (ap L) s (λx h'=>x=r∧h'=ap L))(ρ)(K)(aq)(a:g4 (ap L) s=true)(g:iy ρ K s aq L)(p:UQ ρ s=true)(o:mS s args=true)(q:eP r=true):pM P G f (Bg ρ args) K aq (λx h'=>x=r∧h'=K):=by
 refine H.ZF ρ K aq a g p o _ λu h' k=>?_;obtain⟨rfl,rfl⟩:=k;refine⟨K,⟨ol _ _ q,rfl⟩,λy blk c=>?_⟩;by_cases j:∃x,x<s∧ρ x=y
 ·obtain⟨x,b,rfl⟩:=j;let⟨bb,b4⟩:=DQ.1 (uH a x b);have i:=g.get x bb b4;rw[i.2.2.2]at c;injection c with c;refine .inl ⟨x,bb,b4,(rL ρ ad).symm,?_⟩;rw[<-c];exact(yL ρ s aq bb i.2.2.1).symm
 exact .inr ⟨c,λx b e=>j ⟨x,b,e⟩⟩
structure j'(F:Fence)(P:Program):Prop where
 fn:∀f,F.fn f
 YM:F.depth=none
 calls:∀{f args w R} (m:Nat),Calls P f args w R->CallsIn F m P f args w R
 rows:∀{r args w R} (m:Nat),Rows P r args w R->RowsIn F m P r args w R
def Fy{n:Nat}{P:Program}{row:String}{args:Array Value}{w:World}{R:Value->World->Prop}(h:Rows P row args w R):RowsIn Fence.wide n P row args w R:=
 λc a _=>let ⟨v,w',r,s⟩:=h c a;⟨v,w',r,stepsIn_wide.2 s⟩
def Eg(P:Program):j' Fence.wide P:=⟨λ_=>trivial,rfl,λ_ h=>callsIn_wide.2 h,λ_ h=>Fy h⟩
def KR(P:Program)(l:Nat):j' (Fence.wide.inRound l) P:=⟨λ_=>trivial,rfl,λ_ h=>CallsIn.inRound l (callsIn_wide.2 h),λm h=>(Fy (n:=m) h:_)⟩
def g1(kp:Nat->Bool)(a b:Act):Prop:=∀i,kp i=true->b.tmps.getD i undef=a.tmps.getD i undef
theorem g1.refl(kp:Nat->Bool)(a:Act):g1 kp a a:=λ_ _=>rfl
theorem g1.trans{kp}{a b c}(h:g1 kp a b)(k:g1 kp b c):g1 kp a c:=λi e=>(k i e).trans (h i e)
def RO(o:Oper):Bool:=match o.op with| .defer _=>false|_=>true
def KS(kp:Nat->Bool)(o:Oper):Bool:=match o.dst with|some d=> !kp d|none=>true
def KT(kp:Nat->Bool)(l:List Oper):Bool:=l.all λo=>RO o&&KS kp o
def NL{kp}{o}(b:KS kp o=true)(a)(f)(v):g1 kp a ({a with defers:=f}.put o.dst v):=by
 intro i j;unfold KS at b
 cases g:o.dst with
 |none=>rfl
 |some k=>
  rw[g]at b;have c:i≠k:=λe=>by subst e;simp[j]at b
  simp[Act.put,aK,cY (Ne.symm c)]
section
variable {F:Fence}{m:Nat}{P:Program}{ops:Array Oper}{Q Q':Exit->Act->World->Prop}{kp:Nat->Bool}
def XQ(i:j' F P){o}(b:RO o=true)(q: ¬LetsOut Q)(p:∀c a w,Q (.panic c) a w->Q' (.panic c) a w){a}{w}{K}(h:o.wp P a w K Q):
  o.wpIn F m P a w (λk w'=>K k w'∧∃v z,k={a with defers:=z}.put o.dst v) Q':=by
 unfold Oper.wpIn;refine⟨λf _=>i.fn f,?_⟩;rw[Oper.semAt_eq _ _ _ (λc A=>by unfold RO at b;rw[A]at b;cases b)];unfold Oper.wp at h;generalize (execOp a.eval o).run P w=r at h;have j:F.depth.isSome=true->1<=m:=λb=>by rw[i.YM]at b;cases b
 cases r with
 | ok n w'=>
  cases n with
  |value v=>exact⟨h,v,a.defers,rfl⟩
  |skip=>exact⟨h,undef,a.defers,rfl⟩
  |defer d=>exact⟨h,undef,d::a.defers,rfl⟩
  |enter f args=>
   refine⟨j,i.calls _ (Calls.mono h λe u g=>?_)⟩
   cases e with
   |returned v=>exact⟨g,v,a.defers,rfl⟩
   |panicked c=>exact p _ _ _ g
   |outgrown=>exact absurd g q
  |row r args=>exact⟨j,i.rows _ (Rows.mono h λv u g=>⟨g,v,a.defers,rfl⟩)⟩
  |_=>exact h.elim
 |halt x w'=>cases x<;>first|exact p _ _ _ h|exact h.elim
def Mh(k:j' F P){o}(z:RO o=true)(q:KS kp o=true)(g: ¬LetsOut Q)(x:∀c a w,Q (.panic c) a w->Q' (.panic c) a w){a}{w}{K i}
  (h:if Region.wanted o (yielded ops a.tmps)then o.wp P a w K Q∨(o.asks P a w∧LetsOut Q)else K (a.put o.dst undef) w) (p:∀b w',K b w'->g1 kp a b->i b w'):
  if Region.wanted o (yielded ops a.tmps)then o.wpIn F m P a w i Q' else(∀f,o.about P w a.eval=some f->F.fn f)∧i (a.put o.dst undef) w:=by
 split
 ·rename_i j;simp[j,fD]at h;rcases h with h|⟨_,h⟩
  ·exact Oper.wpIn_mono (λb w' ⟨u,v,r,e⟩=>p b w' u (by rw[e];exact NL q a r v)) (XQ k z g x h)
  exact absurd h g
 rename_i j;simp[j]at h;exact⟨λf _=>k.fn f,p _ _ h (NL q a a.defers undef)⟩
def nT(kp:Nat->Bool)(a0:Act)(Q:Exit->Act->World->Prop):Exit->Act->World->Prop:=λe a w=>Q e a w∧(e=.normal->g1 kp a0 a)
def Jc(a:KT kp ops.toList=true){i:Nat}{o}(b:ops[i]?=some o):RO o=true∧KS kp o=true:=by
 have:=rC.1 a o (aB (by rw[bQ];exact b));simpa using this
theorem Jd(g:j' F P)(j:KT kp ops.toList=true)(b: ¬LetsOut Q){a0:Act}:∀(l:List Nat) (a:Act) (w:World),wpOps P ops Q l a w->g1 kp a0 a->wpOpsIn F m P ops (nT kp a0 Q) l a w
 |[],a,w,h,f=>⟨h,λ_=>f⟩
 | i::l,a,w,h,f=>by
  simp[wpOps]at h;simp[wpOpsIn]
  cases k:ops[i]? with
  |none=>rw[k]at h;exact Jd g j b l a w h f
  |some o=>
   rw[k]at h;let⟨r,u⟩:=Jc j k;exact Mh (ops:=ops) g r u b (λc a w q=>⟨q,λe=>by cases e⟩) h λp w' v x=>Jd g j b l p w' v (f.trans x)
theorem CA(k:j' F P)(p:KT kp ops.toList=true)(g: ¬LetsOut Q){a0:Act}:∀(fuel:Nat) (b:Array Bool) (a:Act) (w:World),wpAny P .any ops Q fuel b a w->g1 kp a0 a->wpAnyIn F m P .any ops (nT kp a0 Q) fuel b a w
 |0,b,a,w,h,j=>⟨h.1,h.2,λ_=>j⟩
 | fuel+1,b,a,w,h,j=>by
  refine⟨λE=>⟨h.1 E,λ_=>j⟩,λi z=>?_⟩;have f:=h.2 i z;unfold wpOp at f;unfold wpOpIn
  cases r:ops[i]? with
  |none=>rw[r]at f;exact CA k p g fuel _ a w f j
  |some o=>
   rw[r]at f;let⟨v,x⟩:=Jc p r;exact Mh (ops:=ops) k v x g (λc a w q=>⟨q,λe=>by cases e⟩) f λu w' A D=>CA k p g fuel _ u w' A (j.trans D)
end
def oO(N:Nat)(kp:Nat->Bool):Code->Bool
 | .region _ ops _=>vK N ops.toList&&KT kp ops.toList
 | .seq a b=>oO N kp a&&oO N kp b
 | .cond _ a b=>oO N kp a&&oO N kp b
 | .block _ b=>oO N kp b
 | .loop _=>false
 |_=>true
section
variable {F:Fence}{m:Nat}{C:a3}{V:Inv C.fr}{w0:World}{S0:Nat->Prop}{N:Nat}{kp:Nat->Bool}{a0:Act}
def ub(C:a3)(V:Inv C.fr)(w0:World)(S0:Nat->Prop)(N:Nat)(kp:Nat->Bool)(a0:Act)(Q:cv->a2->Prop)(e:Exit)(a:Act)(w:World):Prop:=∃b st S β,e=Gq b∧Q b st∧bp C V w0 S0 N (· <st.n) st.t st.h a w S β∧g1 kp a0 a
def BI(O:j' F C.P)(K:b6 C):∀(c:Code),oO N kp c=true->∀(st:a2) (Q:cv->a2->Prop),eA C (bI C) c st Q->∀(a:Act) (w:World) (S:Nat->Prop) (β:Bt),bp C V w0 S0 N (· <st.n) st.t st.h a w S β->g1 kp a0 a->
  c.wpIn F m C.P (ub C V w0 S0 N kp a0 Q) a w:=by
 intro c
 induction c with
 |skip=>intro _ st Q hq a w S β M q;exact wpIn_skip ⟨.normal,st,S,β,rfl,hq,M,q⟩
 |label l=>intro _ st Q hq a w S β M q;exact wpIn_label ⟨.normal,st,S,β,rfl,hq,M,q⟩
 |exit id=>intro _ st Q hq a w S β M q;exact wpIn_exit ⟨.exit id,st,S,β,rfl,hq,M,q⟩
 |ret=>intro _ st Q hq a w S β M q;exact wpIn_ret ⟨.ret,st,S,β,rfl,hq,M,q⟩
 | region id ops dr=>
  intro k st Q hq a w S β M q;simp[oO,aP]at k;let⟨t,h,n⟩:=st;simp[eA]at hq;let⟨E,L⟩:∃E:Exit->Act->World->Prop,E=λe a w=>e=.normal∧∃st S β,Q .normal st∧bp C V w0 S0 N (· <st.n) st.t st.h a w S β:=⟨_,rfl⟩;have H: ¬LetsOut E:=by rintro⟨a,w,h⟩;rw[L]at h;cases h.1
  have U:∀e a w,nT kp a0 E e a w->ub C V w0 S0 N kp a0 Q e a w:=by
   rintro e a w ⟨j,p⟩;rw[L]at j;obtain⟨rfl,st,S,β,r,I⟩:=j;exact⟨.normal,st,S,β,rfl,r,I,p rfl⟩
  have T:∀f u w' o g,Q .normal f->bp C V w0 S0 N (· <f.n) f.t f.h u w' o g->E .normal u w':=λf u w' o g j p=>by rw[L];exact⟨rfl,f,o,g,j,p⟩
  cases dr with
  |false=>
   simp[pW]at hq;have:=Ev (Q:=E) (K:=Q .normal) K (ops:=ops) rfl k.1 ops.toList 0 t h a w S β rfl hq M T;rw[show List.range' 0 ops.toList.length=List.range ops.size by rw[nZ,cV]]at this
   exact wpIn_mono (wpIn_region (Jd O k.2 H _ a w this q)) U
  | true=>
   simp[kL]at hq;refine wpIn_mono (wpIn_region_any K.mixed (Q:=nT kp a0 E) ?_) U
   cases R:FN ops.toList with
   |true=>
    rw[R]at hq;rcases hq with hq|⟨_,hq⟩
    rotate_left
    ·exact CA O k.2 H _ _ _ _ (Es (C:=C.Z1) (V:=V) K.Z1 (λ_ _ _ _ _ h=>h) k.1 hq (bp.Z1 M) (λf u w' o g z v=>T f u w' o g z (bp.ZG v))) q
    have v:=M.drawn (w.drawn+1)
    exact CA O k.2 H _ _ _ _ (CL (C:=C.Z1) (V:=V) K.Z1 (λ_ _ _ _ _ h=>h) k.1 (λf u w' o g z v=>T f u w' o g z (bp.ZG v)) ops.size _ t h a _ S β (by simp) hq ⟨v.T,v.H,v.B,λy l hy=>.inl (v.Z3 y l hy),v.df,v.f,v.G,v.nw,v.iv⟩) q
   |false=>
   rw[R]at hq;have hd:JO ops.toList=true:=by simp[FN,dP,mJ]at R;exact R.2
   exact CA O k.2 H _ _ _ _ (Gw (C:=C.Z1) (V:=V) K.Z1 (λ_ _ _ _ _ h=>h) k.1 hd hq (bp.Z1 M) (λf u w' o g z v=>T f u w' o g z (bp.ZG v))) q
 | seq x y A D=>
  intro k st Q hq a w S β M q;simp[oO,aP]at k;simp[eA]at hq;rcases hq with hq|hq|hq
  ·refine wpIn_seq (wpIn_mono (A k.1 st _ hq a w S β M q) ?_);rintro e u w' ⟨G,f,o,g,rfl,j,p,r⟩
   cases G with
   |normal=>exact D k.2 f Q j u w' o g p r
   |exit i=>exact⟨.exit i,f,o,g,rfl,j,p,r⟩
   |ret=>exact⟨.ret,f,o,g,rfl,j,p,r⟩
  ·refine wpIn_seq (wpIn_mono (A k.1 st _ hq a w S β M q) ?_);rintro e u w' ⟨G,f,o,g,rfl,j,p,r⟩
   cases G with
   |normal=>
    let⟨X,Z,ag⟩:=j;let⟨Y,I⟩:=nK Z p
    exact D k.2 X Q ag u w' Y g I r
   |exit i=>exact⟨.exit i,f,o,g,rfl,j,p,r⟩
   |ret=>exact⟨.ret,f,o,g,rfl,j,p,r⟩
  ·refine wpIn_seq (wpIn_mono (A k.1 st _ hq a w S β M q) ?_);rintro e u w' ⟨G,f,o,g,rfl,j,p,r⟩
   cases G with
   |normal=>
    let⟨X,Z,al,σ,bb,hf,ag⟩:=j;let⟨Y,I⟩:=nK Z p
    exact D k.2 al Q ag u w' Y _ (pK bb hf I) r
   |exit i=>exact⟨.exit i,f,o,g,rfl,j,p,r⟩
   |ret=>exact⟨.ret,f,o,g,rfl,j,p,r⟩
 | cond c x y A D=>
  intro k st Q hq a w S β M q;simp[oO,aP]at k;simp[eA]at hq;split at hq
  ·rename_i b hb;let⟨j,p⟩:=hq;have hv:=sY M c;rw[hb]at hv;refine wpIn_cond_split (lV hv) (λab=>A k.1 st Q (j ab) a w S β M q) (λhf=>D k.2 st Q (p hf) a w S β M q)
  ·exact hq.elim
 | block id b ih=>
  intro k st Q hq a w S β M q;simp[oO]at k;simp[eA]at hq;refine wpIn_block (wpIn_mono (ih k st _ hq a w S β M q) ?_);rintro e u w' ⟨G,f,o,g,rfl,j,p,r⟩
  cases G with
  |normal=>exact⟨.normal,f,o,g,rfl,j,p,r⟩
  |ret=>exact⟨.ret,f,o,g,rfl,j,p,r⟩
  | exit i=>
   show Exit.inBlock id _ (.exit i) u w';simp only at j;simp[Exit.inBlock];by_cases hi:i=id
   ·subst hi;rw[aa rfl];rw[show Nat.beq i i=true from nG i]at j;exact⟨.normal,f,o,g,rfl,j,p,r⟩
   ·rw[dZ hi];have:Nat.beq i id=false:=by rw[<-eJ];exact λe=>hi (aO e)
    rw[this]at j
    exact⟨.exit i,f,o,g,rfl,j,p,r⟩
 |loop b ih=>intro k;simp[oO]at k
 |_=>intro _ st Q hq;exact hq.elim
theorem BJ(O:j' F C.P)(L:b6 C)(U:k' C){ops:Array Oper}{b:List Oper}(k:ops.toList=b)(E:vK N b=true)(T:KT kp b=true){K:a2->Prop}{Q:Exit->Act->World->Prop}{n:Nat}(post:List Nat):∀(rest:List Oper) (j:Nat) (t:Nat->AV) (h:AH) (a:Act) (w:World) (S:Nat->Prop) (β:Bt),(∃q,b.drop j=rest++q)->jS C (bI C) b rest j ⟨t,h,n⟩ K->bp C V w0 S0 N (· <n+j) t h a w S β->g1 kp a0 a->
  (∀st p w' r g,K st->bp C V w0 S0 N (· <st.n) st.t st.h p w' r g->g1 kp a0 p->wpOpsIn F m C.P ops Q post p w')->wpOpsIn F m C.P ops Q (List.range' j rest.length++post) a w
 |[],j,t,h,a,w,S,β,_,H,M,I,D=>D ⟨t,h,n+j⟩ a w S β H M I
 | o::rest,j,t,h,a,w,S,β,⟨q,u⟩,H,M,I,D=>by
  let⟨x,h',X,Y⟩:=(pv H).resolve_right (λ⟨_,f,args,bo,_,hh,_⟩=>U _ _ _ _ _ hh);have R:b[j]?=some o:=by
   have:(b.drop j)[0]?=some o:=by rw[u];rfl
   simpa using this
  have z:ops[j]?=some o:=by rw[<-R, <-k,bQ]
  have G:o∈b:=aB R;have hs:β (n+j)=none:=by
   cases hq:β (n+j)with
   |none=>rfl
   |some l=>have:=M.Z3 _ _ hq;omega
  let⟨ag,al⟩:=Jc (ops:=ops) (kp:=kp) (by rw[k];exact T) z;rw[bN,nX,nV];simp[wpOpsIn,z];let⟨A,v⟩:∃A:Exit->Act->World->Prop,A=λ_ _ _=>False:=⟨_,rfl⟩;refine Mh (ops:=ops) (Q:=A) O ag al (by rintro⟨a,w,h⟩;rw[v]at h;exact h) (λc a w h=>by rw[v]at h;exact h.elim)
   (xQ (K:=λp w'=>∃r g,bp C V w0 S0 N (λy=>y<n+j∨y=n+j) (Aa t o.dst x) h' p w' r g) L M hs k X (wU E G) (λi aa d _ Z=>BP E i d Z) λp w' r g e=>⟨r,g,e⟩) ?_
  rintro p w' ⟨r,g,e⟩ hm;refine BJ O L U k E T post rest (j+1) _ h' p w' r g ⟨q,?_⟩ Y ?_ (I.trans hm) D
  ·rw[<-lH,u];rfl
  ·exact⟨e.T,e.H,e.B,λy l hy=>(e.Z3 y l hy).elim (λ(h:y<n+j)=>(oT:y<n+(j+1))) (λ(h:y=n+j)=>(oT:y<n+(j+1))),e.df,e.f,e.G,e.nw,e.iv⟩
end
structure du(K:Nat->Prop)(w w':World):Prop where
 os:w'.os=w.os
 tape:w'.tape=w.tape
 output:w'.output=w.output
 size:w.heap.size<=w'.heap.size
 block:∀b,b<w.heap.size->K b->w'.heap[b]?=w.heap[b]?
theorem du.refl(K:Nat->Prop)(w:World):du K w w:=⟨rfl,rfl,rfl,aC _,λ_ _ _=>rfl⟩
theorem du.trans{K}{a b c}(h:du K a b)(k:du K b c):du K a c:=
 ⟨k.os.trans h.os,k.tape.trans h.tape,k.output.trans h.output,aL h.size k.size,λx f e=>(k.block x (ep f h.size) e).trans (h.block x f e)⟩
theorem du.mono{K c}{a b}(h:du K a b)(g:∀x,x<a.heap.size->c x->K x):du c a b:=⟨h.os,h.tape,h.output,h.size,λx e f=>h.block x e (g x e f)⟩
theorem du.Zl{K}{n}{a b}(h:Below n a b)(c:∀x,K x->x<n):du K a b:=⟨h.os,h.tape,h.output,h.size,λx _ e=>h.block x (c x e)⟩
def Jb{F}{m}{P}{ops}{Q}{i}{rest}{o}{a}{w}(c:ops[i]?=some o)(b:o.guard=none)(h:o.wpIn F m P a w (wpOpsIn F m P ops Q rest) Q):wpOpsIn F m P ops Q (i::rest) a w:=by
 have:Region.wanted o (yielded ops a.tmps)=true:=by simp[Region.wanted,b]
 simp[wpOpsIn,c,this,fD];exact h
def Mg{F}{m l}{P}(p:j' F P){o:Oper}{f}{args}{k}{v}{a}{w}{K}{Q}{R:Bool->World->Prop}
  (u:o.op=.call {callee:=.value f,args:=args,argTypes:=k}) (G:a.eval f=.func (.yield l) #[] #[]) (D:args.map a.eval=v) (i:YieldAt F m P l v w λe w'=>∃b,e=.returned (.bool b)∧R b w')
  (z:∀b w',R b w'->K (a.put o.dst (.bool b)) w'):o.wpIn F (m+1) P a w K Q:=by
 let⟨x,j,assign,g,i,A⟩:=i;unfold Oper.wpIn;refine⟨λf _=>p.fn f,?_⟩;rw[Oper.semAt_eq _ _ _ (λc q=>by rw[u]at q;cases q)];have E:(execOp a.eval o).run P w=.ok (.round l x j assign g) w:=by
  rw[<-i];simp[execOp,u,resolve,Deferred.ofValue,G,D];simp[invoke]
 rw[E,Oper.uponIn_round];refine⟨λr=>(by rw[p.YM]at r;cases r),A.mono ?_⟩;rintro e w' ⟨b,rfl,H⟩;exact z b w' H
def te{α:Type}(P:Program)(g:Nat)(lb:Array Value)(encs:α->Array Value)(xs:List α)(R:Nat->Prop)(w:World):Prop:=
 ∀ (l:Nat) (J:Bool->(Nat->Prop)->List α->World->Prop) (C0:Nat->Prop) (W:World),
  du R w W->(∀b,R b-> ¬C0 b)->
  (∀s C pre A B,J s C pre A->du (λb=>b<W.heap.size∨C b) A B->J s C pre B)->
  (∀s C pre A,J s C pre A->∀b,C b->b<A.heap.size)->
  (∀C pre x A,J false C pre A->pre++[x] <+: xs->YieldAt Fence.wide 1 P l (encs x) A λe B=>∃b,e=.returned (.bool b)∧
   ∃a,J (!b) a (pre++[x]) B∧du (λb=> ¬C b) A B∧(∀b,a b->C b∨A.heap.size<=b))->
  J false C0 [] W->
  Calls P g (#[.func (.yield l) #[] #[]]++lb) W λe c=>(∃v,e=.returned v)∧((∃C,J false C xs c)∨∃C pre,pre <+: xs∧J true C pre c)
def Fx{α:Type}{P:Program}{g:Operand}{ps:Array Tmp}{assign body:Code}{Q:Exit->Act->World->Prop}{a:Act}{w:World}
  {gf:Nat} {lb:Array Value} (hg:a.eval g=.func (.func gf) #[] lb) (eg:∀args w,(callFunc gf args).run P w=.ok (.enter gf args) w)
  {encs:α->Array Value} {xs:List α} {R:Nat->Prop} {w0:World} (hseq:te P gf lb encs xs R w0) (hR:du R w0 w) (hRlt:∀b,R b->b<w0.heap.size) (hps:∀x,(encs x).size=ps.size)
  (I Ix:(Nat->Prop)->List α->World->Prop) (IA:(Nat->Prop)->List α->α->Act->World->Prop) (C0:Nat->Prop) (hC0:∀b,C0 b->b<w.heap.size) (hCR:∀b,R b-> ¬C0 b)
  (hI:∀C pre A B,I C pre A->du (λb=>b<w.heap.size∨C b) A B->I C pre B)
  (hIx:∀C pre A B,Ix C pre A->du (λb=>b<w.heap.size∨C b) A B->Ix C pre B)
  (hIA:∀C pre x a A B,IA C pre x a A->du (λb=>b<w.heap.size∨C b) A B->IA C pre x a B)
  (hlt:∀C pre A,I C pre A->∀b,C b->b<A.heap.size) (hltx:∀C pre A,Ix C pre A->∀b,C b->b<A.heap.size)
  (h0:I C0 [] w)
  (hassign:∀(l:Nat) (C:Nat->Prop) (pre:List α) (x:α) (A:World),I C pre A->pre++[x] <+: xs->w.heap.size<=A.heap.size->
   assign.wpIn (Fence.wide.inRound l) 1 P (Exit.then (λa1 B=>∃C',IA C' pre x a1 B∧du (λb=> ¬C b) A B∧(∀b,C' b->C b∨A.heap.size<=b)) (λ_ _ _=>False))
    {tmps:=(ps.zip (encs x)).foldl (λt (p,v)=>t.setIfInBounds p v) a.tmps,defers:=[]} A)
  (hbody:∀(l:Nat) (C:Nat->Prop) (pre:List α) (x:α) (a1:Act) (A:World),IA C pre x a1 A->pre++[x] <+: xs->w.heap.size<=A.heap.size->
   body.wpIn (Fence.wide.inRound l) 1 P (λe _ B=>∃C',du (λb=> ¬C b) A B∧(∀b,C' b->C b∨A.heap.size<=b)∧((e=.normal∧I C' (pre++[x]) B)∨(e=.ret∧Ix C' (pre++[x]) B))) a1 A)
  (hdone:∀(D:Nat) (C:Nat->Prop) (W:World),w.heap.size<=D->I C xs W-> ¬C D->W.heap[D]?=some (.deferred (some []))->Q .normal {a with defers:={target:=.collected D,args:= #[]}::a.defers} W)
  (hstop:∀(D:Nat) (C:Nat->Prop) (pre:List α) (W:World),w.heap.size<=D->pre <+: xs->Ix C pre W-> ¬C D->W.heap[D]?=some (.deferred (some []))->Q .ret {a with defers:={target:=.collected D,args:= #[]}::a.defers} W):
  (Code.rangeFunc g ps assign body).wp P Q a w:=by
 refine(wpIn_wide (n:=3)).1 (wpIn_rangeFunc ?_);intro fn hfn;let⟨rec,hrec⟩:∃rec:LoopState->Option Code->Loop,rec=λst pe=>{state:=st,pending:=pe,fn,tmps:=a.tmps,params:=ps,assign,body,defers:=w.heap.size}:=⟨_,rfl⟩;let⟨W1,hW1⟩:∃W1,(w.alloc (.deferred (some []))).alloc (.loop (rec .ready none))=W1:=⟨_,rfl⟩;have hs1:W1.heap.size=w.heap.size+2:=by rw[<-hW1];simp
 have hL1:W1.heap[w.heap.size+1]?=some (.loop (rec .ready none)):=by
  rw[<-hW1];have:=World.alloc_heap_new (w.alloc (.deferred (some []))) (.loop (rec .ready none));rwa [World.size_alloc]at this
 have hK1:W1.heap[w.heap.size]?=some (.deferred (some [])):=by
  rw[<-hW1];exact(Below.heap_alloc _ _ _ (by simp)).trans (World.alloc_heap_new w _)
 have hb1:Below w.heap.size w W1:=by
  rw[<-hW1];exact((Below.refl _ w).alloc (aC _) _).alloc (by simp) _
 have hput:∀(K:Nat->Prop) (A:World) (o:Obj), ¬K (w.heap.size+1)->du K A (A.putObj (w.heap.size+1) o):=λK A o hk=>
  ⟨rfl,rfl,rfl,by simp,λb _ hb=>World.putObj_heap_other (λe=>hk (e ▸ hb))⟩
 refine⟨w.heap.size+1,[{target:=.collected w.heap.size,args:= #[]}],W1,{target:=.fn (.func gf) lb,args:= #[.func (.yield (w.heap.size+1)) #[] #[]]},W1,gf,
  #[.func (.yield (w.heap.size+1)) #[] #[]]++lb,W1,?_,?_,?_,?_,λ_=>by omega,?_⟩
 ·rw[<-hW1,hrec];exact run_enterLoop_outer _ _ _ _ _
 ·simp[resolve,hg];simp[go_sem]
 ·intro f' _;trivial
 ·simp[invoke,go_sem,eg]
 refine callsIn_wide.2 ((hseq (w.heap.size+1)
  (λs CC pre A=>∃C,(bif s then Ix else I) C pre A∧(∀b,CC b↔C b∨b=w.heap.size+1)∧(∀b,C b->b<w.heap.size∨w.heap.size+1<b)∧A.heap[w.heap.size+1]?=some (.loop (bif s then rec .done (some .ret)else rec .ready none))∧A.heap[w.heap.size]?=some (.deferred (some [])))
  (λb=>C0 b∨b=w.heap.size+1) W1 ?_ ?_ ?_ ?_ ?_ ?_).mono ?_)
 ·exact hR.trans (du.Zl hb1 λx hx=>ep (hRlt x hx) hR.size)
 ·rintro b hb (h|h)
  ·exact hCR b hb h
  have:=hRlt b hb;have:=hR.size;omega
 ·rintro s CC pre A B ⟨C,hi,hc,hcl,hl,hk⟩ hs;have l1:=(DP.1 hl).1;refine⟨C,?_,hc,hcl,(hs.block _ l1 (.inl oT)).trans hl,(hs.block _ ((DP.1 hk).1) (.inl oT)).trans hk⟩;have hs':du (λb=>b<w.heap.size∨C b) A B:=hs.mono λx _ hx=>hx.elim (λh=>.inl oT) (λh=>.inr ((hc x).2 (.inl h)));cases s
  ·exact hI C pre A B hi hs'
  exact hIx C pre A B hi hs'
 ·rintro s CC pre A ⟨C,hi,hc,hcl,hl,hk⟩ b hb;rcases(hc b).1 hb with h|h
  ·cases s
   ·exact hlt C pre A hi b h
   exact hltx C pre A hi b h
  rw[h];exact(DP.1 hl).1
 ·rintro CC pre x A ⟨C,hi,hc,hcl,hl,hk⟩ hpre;have l1:=(DP.1 hl).1;have hnr: ¬C (w.heap.size+1):=λh=>by have:=hcl _ h;omega
  have hnd: ¬C (w.heap.size):=λh=>by have:=hcl _ h;omega
  have hy:=run_yield (P:=P) (args:=encs x) hl (by rw[hrec];exact hps x);rw[hrec]at hy;refine⟨fn,_,assign,body,hy,roundIn_of_wpIn trivial (wpIn_mono (hassign _ C pre x A hi hpre oT) ?_)⟩;intro e a1 B hB;cases e<;>try exact hB.elim
  let⟨C',hia,hsB,hgrow⟩:=hB;have hlB:B.heap[w.heap.size+1]?=some (.loop (rec .ready none)):=(hsB.block _ l1 hnr).trans hl;have hkB:B.heap[w.heap.size]?=some (.deferred (some [])):=(hsB.block _ oT hnd).trans hk;have hnr': ¬C' (w.heap.size+1):=λh=>(hgrow _ h).elim hnr (λh=>by omega);have hnd': ¬C' (w.heap.size):=λh=>(hgrow _ h).elim hnd (λh=>by omega);have lB:=(DP.1 hlB).1;refine⟨_,run_beginRound hlB (by rw[hrec]),?_⟩;have hl2:(B.putObj (w.heap.size+1) (.loop {rec .ready none with state:=.busy})).heap[w.heap.size+1]?=some (.loop {rec .ready none with state:=.busy}):=World.putObj_heap_same lB;have hk2:(B.putObj (w.heap.size+1) (.loop {rec .ready none with state:=.busy})).heap[w.heap.size]?=some (.deferred (some [])):=(World.putObj_heap_other oT).trans hkB;apply wpIn_mono (hbody _ C' pre x a1 _ (hIA C' pre x a1 B _ hia (hput (λb=>b<w.heap.size∨C' b) B (.loop {rec .ready none with state:=.busy}) (by rintro(h|h);omega;exact hnr' h))) hpre (by simp;omega));rintro e a3 W3 ⟨C3,hs3,hg3,hi3⟩;have hl3:W3.heap[w.heap.size+1]?=some (.loop {rec .ready none with state:=.busy}):=(hs3.block _ (by simp;omega) hnr').trans hl2;have hk3:W3.heap[w.heap.size]?=some (.deferred (some [])):=(hs3.block _ (by simp;omega) hnd').trans hk2;have l3:=(DP.1 hl3).1;have hnr3: ¬C3 (w.heap.size+1):=λh=>(hg3 _ h).elim hnr' (λh=>by simp at h;omega);have hcl3:∀b,C3 b->b<w.heap.size∨w.heap.size+1<b:=by
   intro b hb;rcases hg3 b hb with h|h
   ·rcases hgrow b h with h|h
    ·exact hcl b h
    right;omega
   simp at h;right;omega
  have hcat:∀o,du (λb=> ¬CC b) A (W3.putObj (w.heap.size+1) o):=λo=>by
   have q1:du (λb=> ¬CC b) A B:=hsB.mono λb _ hb h=>hb ((hc b).2 (.inl h));have q2:du (λb=> ¬CC b) B (B.putObj (w.heap.size+1) (.loop {rec .ready none with state:=.busy})):=hput _ _ _ (λh=>h ((hc _).2 (.inr rfl)));have q4:du (λb=> ¬CC b) W3 _:=hput (λb=> ¬CC b) W3 o (λh=>h ((hc _).2 (.inr rfl)));refine du.trans ?_ q4;have q3:∀b,b<A.heap.size-> ¬CC b->W3.heap[b]?=A.heap[b]? :=λb hb hcc=>by
    have nC: ¬C b:=λh=>hcc ((hc b).2 (.inl h));have nC': ¬C' b:=λh=>(hgrow b h).elim nC (λh=>by omega);rw[hs3.block b (by simp;exact ep hb hsB.size) nC',q2.block b (ep hb hsB.size) hcc,q1.block b hb hcc]
   exact⟨hs3.os.trans hsB.os,hs3.tape.trans hsB.tape,hs3.output.trans hsB.output,aL hsB.size (by have:=hs3.size;simpa using this),q3⟩
  have grow:∀b,(C3 b∨b=w.heap.size+1)->CC b∨A.heap.size<=b:=by
   rintro b (h|h)
   ·rcases hg3 b h with h|h
    ·exact(hgrow b h).imp (λh=>(hc b).2 (.inl h)) id
    exact .inr (aL hsB.size (sU h))
   exact .inl ((hc b).2 (.inr h))
  rcases hi3 with ⟨rfl,hi3⟩|⟨rfl,hi3⟩
  all_goals
   first|(have hr:=run_endRound (P:=P) (none:Option Code) hl3;refine⟨_,_,hr,true,rfl,λb=>C3 b∨b=w.heap.size+1,⟨C3,?_,λb=>Iff.rfl,hcl3,?_,?_⟩,hcat _,grow⟩)|(have hr:=run_endRound (P:=P) (some Code.ret) hl3;refine⟨_,_,hr,false,rfl,λb=>C3 b∨b=w.heap.size+1,⟨C3,?_,λb=>Iff.rfl,hcl3,?_,?_⟩,hcat _,grow⟩)
   ·first|(exact hI C3 _ W3 _ hi3 (hput _ W3 _ (by rintro(h|h);omega;exact hnr3 h)))|(exact hIx C3 _ W3 _ hi3 (hput _ W3 _ (by rintro(h|h);omega;exact hnr3 h)))
   ·rw[World.putObj_heap_same l3,hrec];rfl
   exact(World.putObj_heap_other oT).trans hk3
 ·refine⟨C0,hI C0 [] w W1 h0 (du.Zl hb1 λx hx=>hx.elim id (hC0 x)),λb=>Iff.rfl,λb hb=>.inl (hC0 b hb),hL1,hK1⟩
 rintro e W2 ⟨⟨v,rfl⟩,⟨CC,C,hi,hc,hcl,hl,hk⟩|⟨CC,pre,hpre,C,hi,hc,hcl,hl,hk⟩⟩
 all_goals
  have hnr: ¬C (w.heap.size+1):=λh=>by have:=hcl _ h;omega
  have hnd: ¬C (w.heap.size):=λh=>by have:=hcl _ h;omega
  first|(refine⟨none,_,by have:=run_endLoop (P:=P) hl (by rw[hrec];simp);rw[hrec]at this;exact this,?_⟩;exact hdone w.heap.size C _ (aC _) (hI C xs W2 _ hi (hput _ W2 _ (by rintro(h|h);omega;exact hnr h))) hnd ((World.putObj_heap_other oT).trans hk))|(refine⟨some .ret,_,by have:=run_endLoop (P:=P) hl (by rw[hrec];simp);rw[hrec]at this;exact this,wpIn_ret ?_⟩;exact hstop w.heap.size C pre _ (aC _) hpre (hIx C pre W2 _ hi (hput _ W2 _ (by rintro(h|h);omega;exact hnr h))) hnd ((World.putObj_heap_other oT).trans hk))
def lb{S S':Nat->Prop}{w w':World}{β:Bt}{x:AV}{v:Value}(X:au S w β x v)(M:∀b,S b->S' b)(hS:∀b,S b->w'.heap[b]?=w.heap[b]?):
  (∀s l E e L,β s=some l->w.heap[l.j]?=some (Obj.cells E e L)->∃G:Array Value,w'.heap[l.j]?=some (.cells G e L)∧G.size=E.size)->au S' w' β x v:=by
 induction X with
 |v x=>intro _;exact .v x
 |agg E K r k h ih=>intro p;exact .agg E K r k λi a u k q=>ih i a u k q p
 |E E K r h ih=>intro p;exact .E E K r λi a u k q=>ih i a u k q p
 |X rs rows D A c b o u R U H I hA Y k X ih=>
  intro _;refine .X rs rows D A c b o u R U H I (λh=>⟨(hA h).1,M _ (hA h).2⟩) (λi row j a k q=>?_) k λi row j a k q=>ih i row j a k q nofun;rw[uC (hS b (hA (bL (aE i) (Em.1 k).1)).2)]
  exact Y i row j a k q
 |dp rs z row b o u I p Y k X ih=>
  intro _
  exact .dp rs z row b o u I (M _ p) (λj a k=>by rw[uC (hS b p)];exact Y j a k) k λj a k=>ih j a k nofun
 |ptr s z l r=>intro p;exact .ptr s z l r
 |u s row z l r=>intro p;exact .u s row z l r
 |S s lo len D l A c r R U H hA E e L p Z=>
  intro aa;let⟨G,k,q⟩:=aa _ _ _ _ _ r p
  exact .S s lo len D l A c r R U H hA G e L k (by rw[q];exact Z)
 |F f first O K us r h ag h' ih al=>intro p;exact .F f first O K us r (λi a u k q=>ih i a u k q p) ag λi a u k q=>al i a u k q p
 |Zr g a x T h ih=>intro p;exact .Zr g a x T (ih p)
 |Zn g a T=>intro _;exact .Zn g a T
 |any x=>intro _;exact .any x
def NJ{β:Bt}{w w':World}(h:∀s l o,β s=some l->w.heap[l.j]?=some o->w'.heap[l.j]?=some o):
  ∀s l a e c,β s=some l->w.heap[l.j]?=some (Obj.cells a e c)->∃b:Array Value,w'.heap[l.j]?=some (.cells b e c)∧b.size=a.size:=λs l a e c f g=>⟨a,h s l _ f g,rfl⟩
section
variable {C:a3}{V V':Inv C.fr}{w0:World}{S0:Nat->Prop}{N:Nat}
theorem bp.move{D}{t}{h}{a}{w w'}{S}{β}(M:bp C V w0 S0 N D t h a w S β)(p:∀b,S b->w'.heap[b]?=w.heap[b]?)
  (c:∀s l o,β s=some l->w.heap[l.j]?=some o->w'.heap[l.j]?=some o) (f:w'.os=w.os) (h2:w'.tape=w.tape) (h3:w'.output=w.output) (k:w.heap.size<=w'.heap.size) (q:∀b,b<w0.heap.size->w'.heap[b]?=w.heap[b]?) (r:V'.p S w' β):
  bp C V' w0 S0 N D t h a w' S β:=by
 refine⟨λi=>lb (M.T i) (λ_ h=>h) p (NJ c),⟨λs blk A=>?_,M.H.inj,λb c=>ep (M.H.lt b c) k,aL M.H.ZT k⟩,⟨f.trans M.B.os,h2.trans M.B.tape,h3.trans M.B.output,aL M.B.size k,λb c=>(q b c).trans (M.B.block b c)⟩,M.Z3,M.df,M.f,λg cells x=>lb (M.G g cells x) (λ_ h=>h) p nofun,M.nw,r⟩;let⟨l,cs,e,c0,b4,dr,ds,em,fz,bb⟩:=M.H.own s blk A;refine⟨l,cs,e,c0,b4,c _ _ _ b4 dr,ds,em,fz,?_⟩;have go:∀a v,au S w β a v->au S w' β a v:=λa v z=>lb z (λ_ h=>h) p (NJ c)
 cases blk with
 |box cells=>exact λj a f=>let ⟨u,h2,h4,h3⟩:=bb j a f;⟨u,h2,h4,go _ _ h3⟩
 |arr rows rs=>exact⟨bb.1,bb.2.1,λi row j a f h2=>let ⟨u,h3,c',h4⟩:=bb.2.2 i row j a f h2;⟨u,h3,c',lb h4 (λ_ h=>h) p nofun⟩⟩
 |row cells=>exact⟨bb.1,λj a f=>let ⟨u,h2,h4,h3⟩:=bb.2 j a f;⟨u,h2,h4,go _ _ h3⟩⟩
theorem bp.inv{D}{t}{h}{a}{w}{S}{β}(M:bp C V w0 S0 N D t h a w S β)(b:V'.p S w β):bp C V' w0 S0 N D t h a w S β:=⟨M.T,M.H,M.B,M.Z3,M.df,M.f,M.G,M.nw,b⟩
end
def Ba(S:Nat->Prop)(w:World)(β:Bt)(s:Nat):k9 S w β s S w β:=
 ⟨λ_ h=>h,ci.refl _ _,aC _,λ_ _ _ h=>h,λx l h=>.inl ⟨x,l,h,rfl⟩,λ_ h=>.inl h,λ_ _ _=>rfl⟩
def RN{α:Type}(C:a3)(g:FuncId)(a:List AV)(encs:α->Array Value)(xs:List α):Prop:=
 ∀(R:Nat->Prop) (w:World) (c:List Value),(∀b,R b->b<w.heap.size)->jw C R w->b2 R w cw a c->te C.P g c.toArray encs xs R w
def mh(t:Nat->AV):List Nat->List AV->Nat->AV
 |p::a,x::xs=>mh (ao t p x) a xs
 |_,_=>t
def VU(m n:Nat)(t:Nat->AV)(h:AH)(b:Prop)(K:cv->a2->Prop):cv->a2->Prop
 | .normal,st=>b∧g2 st λa=>∃σ,d_ m σ n=true∧c1 a ⟨λ_=>.any,h,n⟩ σ
 | .ret,st=>g2 st λa=>∃h' n' σ,d_ m σ n'=true∧g4 h' n'=true∧c1 a ⟨λ_=>.any,h',n'⟩ σ∧K .ret ⟨t,h',n'⟩
 | .exit _,_=>False
inductive n_(C:a3)(st:a2)(g:Operand)(ps:List Nat)(asg body:Code)(K:cv->a2->Prop):Prop
 | mk (α:Type) (gf:FuncId) (caps:List AV) (h5:α->List AV) (encs:α->Array Value) (xs:List α) (NX:α->Prop) (m:Nat) (H:List α->AH) (nn:List α->Nat)
   (hg:ba C st.t g=.F gf [] caps) (hcl:eW caps=true) (hfn:∃ fn,C.P.funcs[gf]?=some fn∧fn.body.isSome=true∧(fn.name== "runtime.NumGoroutine")=false)
   (hit:RN C gf caps encs xs) (henc:∀x S w β,b2 S w β (h5 x) (encs x).toList) (hps:∀x,(h5 x).length=ps.length)
   (h0:H []=st.h) (n0:nn []=st.n) (hfull:∀pre,g4 (H pre) (nn pre)=true) (ht:c1 st ⟨st.t,λ_=>none,m⟩ (λs=>s))
   (round:∀pre x,pre++[x] <+: xs->(∀y,y∈pre->NX y)->eA (C.at m) (bI (C.at m)) asg ⟨mh st.t ps (h5 x),H pre,nn pre⟩ (λe st1=>e=.normal∧eA (C.at m) (bI (C.at m)) body st1 (VU m (nn (pre++[x])) st.t (H (pre++[x])) (NX x) K)))
   (done:(∀y,y∈xs->NX y)->K .normal ⟨st.t,H xs,nn xs⟩):n_ C st g ps asg body K
theorem NK{S:Nat->Prop}{w:World}{β:Bt}:∀(b:List Nat) (xs:List AV) (e:List Value) (t:Nat->AV) (c:Array Value),xs.length=e.length->b.length=xs.length->(∀p∈b,p<c.size)->
  (∀i,au S w β (t i) (c.getD i undef))->(∀(i:Nat) a u,xs[i]?=some a->e[i]?=some u->au S w β a u)->
  ∀i,au S w β (mh t b xs i) (((b.zip e).foldl (λt (p,v)=>t.setIfInBounds p v) c).getD i undef)
 |[],xs,e,t,c,_,_,_,f,_=>f
 |p::b,[],e,t,c,g,j,_,f,_=>by simp at j
 |p::b,x::xs,[],t,c,g,j,_,f,_=>by simp at g
 | p::b,x::xs,v::e,t,c,g,j,hp,f,r=>by
  show ∀i,au S w β (mh (ao t p x) b xs i) (((b.zip e).foldl (λt (p,v)=>t.setIfInBounds p v) (c.setIfInBounds p v)).getD i undef);refine NK b xs e _ _ (sU g) (sU j) (λq z=>by rw[iV];exact hp q (bY _ z)) (λi=>?_) (λi a u A D=>r (i+1) a u (sU A) (sU D));by_cases k:i=p
  ·subst k;have o:=hp i b9;rw[dB,aK,cZ o];exact r 0 x v rfl rfl
  ·rw[cI _ _ k,aK,cY (Ne.symm k), <-aK];exact f i
theorem Bq:∀(a:List Nat) (c:List Value) (b:Array Value),((a.zip c).foldl (λt (p,v)=>t.setIfInBounds p v) b).size=b.size
 |[],_,_=>rfl
 |_::_,[],_=>rfl
 |p::a,v::c,b=>by
  show((a.zip c).foldl (λt (p,v)=>t.setIfInBounds p v) (b.setIfInBounds p v)).size=_;rw[Bq a c,iV]
def KP(a:Array Nat)(c:Array Value)(b:Array Value):(a.zip c).foldl (λt (p,v)=>t.setIfInBounds p v) b=(a.toList.zip c.toList).foldl (λt (p,v)=>t.setIfInBounds p v) b:=by
 rw[<-Array.foldl_toList,Array.toList_zip]
def O_:Option Nat->List Deferred
 |none=>[]
 |some D=>[{target:=.collected D,args:= #[]}]
@[reducible] def a3.wd(C:a3)(d:Option Nat):a3:={C with df:=O_ d}
def XP(d:Option Nat)(w0:World)(S:Nat->Prop)(β:Bt)(w:World):Prop:=
 ∀D,d=some D->w.heap[D]?=some (.deferred (some []))∧ ¬hQ β D∧ ¬S D∧w0.heap.size<=D
def qd(C:a3)(w0:World)(S0:Nat->Prop)(N:Nat)(Q:Option Nat->cv->a2->Prop)(e:Exit)(a:Act)(w:World):Prop:=
 ∃d b st S β,e=Gq b∧Q d b st∧bp (C.wd d) (Inv.any C.fr) w0 S0 N (· <st.n) st.t st.h a w S β∧XP d w0 S β w
theorem KQ{P:Program}{f:FuncId}{a:Func}(b:P.funcs[f]?=some a)(e:a.body.isSome=true)(c:(a.name== "runtime.NumGoroutine")=false) (args:Array Value) (w:World):(callFunc f args).run P w=.ok (.enter f args) w:=by
 simp only[callFunc,Sem.run_bind,program,Sem.run,Result.andThen_ok,b];have:a.body.isNone=false:=by cases g:a.body<;>simp_all
 simp[c,this]
section
variable {C:a3}{w0:World}{S0:Nat->Prop}{N:Nat}{Q:Option Nat->cv->a2->Prop}
def Me(hC:b6 C)(au:∀n,b6 (C.at n))(aj:C.df=[]){st:a2}{g:Operand}{ps:Array Nat}{ai T:Code}(hp:ps.toList.all (λp=>Nat.blt p N)=true)(aA:oO N (λ_=>false) ai=true)(aB:oO N (λ_=>false) T=true)
  (R:n_ C st g ps.toList ai T (λe ap=>∀D,Q (some D) e ap)) {a:Act} {w:World} {S:Nat->Prop} {β:Bt} (M:bp C (Inv.any C.fr) w0 S0 N (· <st.n) st.t st.h a w S β):
  (Code.rangeFunc g ps ai T).wp C.P (qd C w0 S0 N Q) a w:=by
 let⟨α,gf,da,h5,encs,xs,NX,m,b5,nn,hg,e0,⟨fn,f1,f2,f3⟩,e1,ch,c',eq,ev,bu,ht,round,done⟩:=R;have am:=sY M g;rw[hg]at am;have av:∀{A:World} {j:Nat->Prop} {f:Bt} {t:Nat->AV} {h:AH} {n:Nat} {a:Act},g4 h n=true->bp (C.at m) (Inv.any m) w0 S0 N (· <n) t h a A j f->∀x l,f x=some l->x<n∧w0.heap.size<=l.j∧l.j<A.heap.size∧ ¬j l.j:=λhf X x l hx=>by
  have hn:=X.Z3 x l hx;let⟨blk,dp⟩:=DQ.1 (uH hf x hn);let⟨e2,cs,e,fr,z,E,G,L,k5,k6⟩:=X.H.own x blk dp;rw[hx]at z;cases z;exact⟨hn,L,fJ E,k5⟩
 have M0:bp (C.at m) (Inv.any m) w0 S0 N (· <nn []) st.t (b5 []) a w S β:=by
  rw[eq,ev];exact⟨M.T,M.H,M.B,M.Z3,M.df,M.f,M.G,M.nw,trivial⟩
 have an:=av (bu []) M0;generalize az:a.eval g=gv at am
 cases am with
 |F _ _ _ vs us I H h3 h4=>
 have aD:vs= #[]:=Array.eq_empty_of_size_eq_zero I.symm;subst aD;have aq:b2 S w cw da us.toList:=by
  refine⟨by rw[h3];simp,λi x u p q=>?_⟩;have:=h4 i x u p (by rw[<-bQ];exact q);exact mB this (fW _ e0 i x p) cw
 have ax:=e1 S w us.toList M.H.lt M.G aq
 let C1:(Nat->Prop)->List α->World->Prop:=λCC pre A=>(∀y,y∈pre->NX y)∧∃j f,bp (C.at m) (Inv.any m) w0 S0 N (· <nn pre) st.t (b5 pre) a A j f∧(∀b,j b->b<w.heap.size∨CC b)∧(∀b,hQ f b->CC b)∧(∀b,CC b->b<A.heap.size)
 let C2:(Nat->Prop)->List α->World->Prop:=λCC pre A=>∃j h' n' f,(∀D,Q (some D) .ret ⟨st.t,h',n'⟩)∧bp (C.at m) (Inv.any m) w0 S0 N (· <n') st.t h' a A j f∧(∀b,j b->b<w.heap.size∨CC b)∧(∀b,hQ f b->CC b)∧(∀b,CC b->b<A.heap.size)
 let C3:(Nat->Prop)->List α->α->Act->World->Prop:=λCC pre x a1 B=>∃K O k A j f,(∀y,y∈pre->NX y)∧eA (C.at m) (bI (C.at m)) T K (VU m (nn (pre++[x])) st.t (b5 (pre++[x])) (NX x) (λe ap=>∀D,Q (some D) e ap))∧
  bp (C.at m) (Inv.any m) w0 S0 N (· <K.n) K.t K.h a1 B O k∧(∀b,O b->b<w.heap.size∨CC b)∧(∀b,hQ f b->CC b)∧(∀b,hQ k b->CC b)∧
  (∀x l,x<m->f x=some l->k x=some l)∧
  bp (C.at m) (Inv.any m) w0 S0 N (· <nn pre) st.t (b5 pre) a A j f∧(∀b,j b->O b)∧(∀b,j b->B.heap[b]?=A.heap[b]?)∧
  (∀s l cs e fr,f s=some l->A.heap[l.j]?=some (Obj.cells cs e fr)->∃al:Array Value,B.heap[l.j]?=some (.cells al e fr)∧al.size=cs.size)∧w.heap.size<=B.heap.size
 have aw:w0.heap.size<=w.heap.size:=M.B.size;have mv:∀{CC:Nat->Prop} {A B:World} {D:Nat->Prop} {t:Nat->AV} {h:AH} {a:Act} {j:Nat->Prop} {k:Bt},bp (C.at m) (Inv.any m) w0 S0 N D t h a A j k->(∀b,j b->b<w.heap.size∨CC b)->(∀b,hQ k b->b<w.heap.size∨CC b)->w.heap.size<=A.heap.size->du (λb=>b<w.heap.size∨CC b) A B->
   bp (C.at m) (Inv.any m) w0 S0 N D t h a B j k:=λX z E G r=>
  X.move (λb c=>r.block b (X.H.lt b c) (z b c)) (λs l o bd cf=>(r.block _ (fJ cf) (E _ ⟨s,l,bd,rfl⟩)).trans cf) r.os r.tape r.output r.size (λb c=>r.block b oT (.inl oT)) trivial
 refine Fx (gf:=gf) (lb:=us) az (KQ f1 f2 f3) (sU ax) (du.refl _ _) M.H.lt (λx=>by rw[<-cV, <-cV, <-c' x];exact((ch x S w β).1).symm)
  (λCC pre A=>C1 CC pre A∧w.heap.size<=A.heap.size) (λCC pre A=>C2 CC pre A∧w.heap.size<=A.heap.size) C3 (hQ β) (λb ⟨x,l,bd,cf⟩=>by have:=(an x l bd).2.2.1;omega) (λb c ⟨x,l,bd,cf⟩=>by have:=(an x l bd).2.2.2;rw[cf]at this;exact this c)
  ?_ ?_ ?_ ?_ ?_ ?_ ?_ ?_ ?_ ?_
 ·rintro CC pre A B ⟨⟨U,j,f,X,z,E,G⟩,L⟩ r;exact⟨⟨U,j,f,mv X z (λb c=>.inr (E b c)) L r,z,E,λb c=>ep (G b c) r.size⟩,aL L r.size⟩
 ·rintro CC pre A B ⟨⟨j,h',n',f,q,X,z,E,G⟩,L⟩ r;exact⟨⟨j,h',n',f,q,mv X z (λb c=>.inr (E b c)) L r,z,E,λb c=>ep (G b c) r.size⟩,aL L r.size⟩
 ·rintro CC pre x a1 B B' ⟨K,O,k,A,j,f,U,q,X,z,E,G,k5,XA,k6,k7,k8,ao⟩ r;refine⟨K,O,k,A,j,f,U,q,mv X z (λb c=>.inr (G b c)) ao r,z,E,G,k5,XA,k6,λb c=>(r.block b (X.H.lt b (k6 b c)) (z b (k6 b c))).trans (k7 b c),λs l cs e fr I H=>?_,aL ao r.size⟩;let⟨al,c5,df⟩:=k8 s l cs e fr I H;exact⟨al,(r.block _ (fJ c5) (.inr (E _ ⟨s,l,I,rfl⟩))).trans c5,df⟩
 ·rintro CC pre A ⟨⟨U,j,f,X,z,E,G⟩,L⟩ b c;exact G b c
 ·rintro CC pre A ⟨⟨j,h',n',f,q,X,z,E,G⟩,L⟩ b c;exact G b c
 ·refine⟨⟨nofun,S,β,M0,λb c=>.inl (M.H.lt b c),λb c=>c,λb ⟨x,l,bd,cf⟩=>by have:=(an x l bd).2.2.1;omega⟩,aC _⟩
 ·
  rintro l CC pre x A ⟨⟨U,j,f,X,z,E,G⟩,L⟩ ab _;have X0:bp (C.at m) (Gf j A f m) w0 S0 N (· <nn pre) (mh st.t ps.toList (h5 x)) (b5 pre) {tmps:=(ps.zip (encs x)).foldl (λt (p,v)=>t.setIfInBounds p v) a.tmps,defers:=[]} A j f:=by
   refine⟨λi=>?_,X.H,X.B,X.Z3,aj.symm,?_,X.G,X.nw,Ba _ _ _ _⟩
   ·rw[KP];have he:=ch x j A f;exact NK _ _ _ _ _ he.1 (c' x).symm (λp hq=>by rw[X.f];exact aJ (rC.1 hp p hq)) X.T he.2 i
   ·show((ps.zip (encs x)).foldl (λt (p,v)=>t.setIfInBounds p v) a.tmps).size=N;rw[KP,Bq];exact X.f
  apply wpIn_mono (BI (C:=C.at m) (a0:={tmps:=(ps.zip (encs x)).foldl (λt (p,v)=>t.setIfInBounds p v) a.tmps,defers:=[]}) (KR C.P l) (au m) ai aA ⟨_,b5 pre,nn pre⟩ _ (round pre x ab U) _ A j f X0 (g1.refl _ _));rintro e a1 B ⟨e',K,O,k,rfl,⟨rfl,c⟩,X1, -⟩;have P:k9 j A f m O B k:=X1.iv;refine⟨λb=>CC b∨hQ k b∨(A.heap.size<=b∧b<B.heap.size),⟨K,O,k,A,j,f,U,c,X1.inv trivial,λb c=>?_,λb c=>.inl (E b c),λb c=>.inr (.inl c),λy l I H=>P.Zt y l I H,X,P.hS,λb c=>P.hE.ZI b c,λs l cs e fr I H=>P.hE.shape _ _ _ _ H,aL L P.f⟩,
   ⟨X1.B.os.trans X.B.os.symm,X1.B.tape.trans X.B.tape.symm,X1.B.output.trans X.B.output.symm,P.f,λb c hn=>P.still b c λh=>hn (E b h)⟩,λb c=>?_⟩
  ·rcases P.nw b c with h|h|h
   ·exact(z b h).imp id .inl
   ·exact .inr (.inr (.inr ⟨h,X1.H.lt b c⟩))
   ·exact .inr (.inl (E b h))
  ·rcases c with h|⟨y,l,I,H⟩|h
   ·exact .inl h
   ·rcases P.own y l I with h|h
    ·exact .inl (E b (H ▸ h))
    ·exact .inr (H ▸ h)
   ·exact .inr h.1
 ·
  rintro l CC pre x a1 A1 ⟨K,O,k,A,j,f,U,q,X,z,E,G,k5,XA,k6,k7,k8,ao⟩ ab _;apply wpIn_mono (BI (C:=C.at m) (V:=Gf O A1 k m) (a0:=a1) (KR C.P l) (au m) T aB K _ q a1 A1 O k (X.inv (Ba _ _ _ _)) (g1.refl _ _));rintro e aI B ⟨e',aE,S2,aF,rfl,hq,X2, -⟩;have ar:∀(h':AH) (n':Nat),g4 h' n'=true->(g2 aE λb4=>∃σ,d_ m σ n'=true∧c1 b4 ⟨λ_=>.any,h',n'⟩ σ)->∃Z ag,bp (C.at m) (Inv.any m) w0 S0 N (· <n') st.t h' a B Z ag∧(∀b,Z b->b<w.heap.size∨(b<B.heap.size∧(CC b∨A1.heap.size<=b)))∧(∀b,hQ ag b->b<B.heap.size∧(CC b∨A1.heap.size<=b))∧du (λb=> ¬CC b) A1 B:=by
   rintro h' n' hf ⟨b4,cl,σ,hk,bb⟩;let⟨Z,X3⟩:=nK cl X2;have X4:=pK bb hk X3;have P:k9 O A1 k m Z B _:=X4.iv;have Y:bp (C.at m) (Inv.any m) w0 S0 N (· <n') st.t h' a B Z (λs=>if s<n' then aF (σ s)else none):=by
    refine⟨λi=>?_,X4.H,X4.B,X4.Z3,aj.symm ▸ XA.df,XA.f,X4.G,X4.nw,trivial⟩;rcases ht.t i with h|⟨h,c⟩
    ·rw[show st.t i=.any from h];exact .any _
    ·have H:=XA.T i;rw[h]at H;have h4:=lb (Bv (n:=m) _ _ _ (aC _) c H) (λb c=>P.hS b (k6 b c)) (λb c=>(P.hE.ZI b (k6 b c)).trans (k7 b c)) λs l cs e fr I H=>by
      split at I
      ·let⟨al,h3,h4⟩:=k8 s l cs e fr I H;let⟨em,c5,df⟩:=P.hE.shape _ _ _ _ h3;exact⟨em,c5,df.trans h4⟩
      ·cases I
     refine h4.mono (λ_ h=>h) (ci.refl _ _) λs l r=>?_;dsimp only at r;split at r
     ·rename_i hm;exact P.Zt s l hm (k5 s l hm r)
     ·cases r
   refine⟨Z,_,Y,λb c=>?_,λb ⟨y,l,I,H⟩=>⟨oH ((av hf Y y l I).2.2.1),?_⟩,⟨X4.B.os.trans X.B.os.symm,X4.B.tape.trans X.B.tape.symm,X4.B.output.trans X.B.output.symm,P.f,λb c hn=>P.still b c λh=>hn (G b h)⟩⟩
   ·rcases P.nw b c with h|h|h
    ·exact(z b h).imp id λh=>⟨Y.H.lt b c,.inl h⟩
    ·exact .inr ⟨Y.H.lt b c,.inr h⟩
    ·exact .inr ⟨Y.H.lt b c,.inl (G b h)⟩
   ·rcases P.own y l I with h|h
    ·exact .inl (G b (H ▸ h))
    ·exact .inr (H ▸ h)
  cases e' with
  |exit i=>exact hq.elim
  |normal=>
   let⟨ex,hq⟩:=hq;let⟨Z,ag,Y,dr,ds,c0⟩:=ar _ _ (bu _) hq;have ay:∀y,y∈pre++[x]->NX y:=λy hy=>(cx.1 hy).elim (U y) λh=>uJ.1 h ▸ ex
   exact⟨λb=>b<B.heap.size∧(CC b∨A1.heap.size<=b),c0,λb c=>c.2,.inl ⟨rfl,⟨ay,Z,ag,Y,dr,ds,λb c=>c.1⟩,aL ao c0.size⟩⟩
  |ret=>
   let⟨b4,cl,h',n',σ,hk,hf,bb,di⟩:=hq;let⟨Z,ag,Y,dr,ds,c0⟩:=ar h' n' hf ⟨b4,cl,σ,hk,bb⟩;exact⟨λb=>b<B.heap.size∧(CC b∨A1.heap.size<=b),c0,λb c=>c.2,.inr ⟨rfl,⟨Z,h',n',ag,di,Y,dr,ds,λb c=>c.1⟩,aL ao c0.size⟩⟩
 ·rintro D CC W hD ⟨⟨U,j,f,X,z,E,G⟩,L⟩ aa bb;refine⟨some D,.normal,_,j,f,rfl,done U D,⟨X.T,X.H,X.B,X.Z3,?_,X.f,X.G,X.nw,trivial⟩,λD' ak=>?_⟩
  ·show _::a.defers=_;rw[show a.defers=[]from X.df.trans aj];rfl
  ·cases ak;exact⟨bb,λh=>aa (E _ h),λh=>(z _ h).elim (λh=>by omega) aa,aL aw hD⟩
 ·rintro D CC pre W hD ab ⟨⟨j,h',n',f,di,X,z,E,G⟩,L⟩ aa bb;refine⟨some D,.ret,⟨st.t,h',n'⟩,j,f,rfl,di D,⟨X.T,X.H,X.B,X.Z3,?_,X.f,X.G,X.nw,trivial⟩,λD' ak=>?_⟩
  ·show _::a.defers=_;rw[show a.defers=[]from X.df.trans aj];rfl
  ·cases ak;exact⟨bb,λh=>aa (E _ h),λh=>(z _ h).elim (λh=>by omega) aa,aL aw hD⟩
def wI(N:Nat):Code->Bool
 | .seq a b=>wI N a&&wI N b
 | .cond _ a b=>wI N a&&wI N b
 | .block _ b=>wI N b
 | .scope b=>wI N b
 | .rangeFunc _ e a b=>e.toList.all (λp=>Nat.blt p N)&&(oO N (λ_=>false) a&&oO N (λ_=>false) b)
 |c=>rU N c
def wJ(C:a3):Code->Option Nat->a2->(Option Nat->cv->a2->Prop)->Prop
 | .seq a b,d,st,Q=>wJ C a d st (λj e f=>match e with| .normal=>wJ C b j f Q|e=>Q j e f)
 | .cond c x y,d,st,Q=>match ba C st.t c with| .v (.bool b)=>nu b (wJ C x d st Q) (wJ C y d st Q)|_=>False
 | .block id b,d,st,Q=>wJ C b d st (λj e f=>match e with| .exit i=>(match Nat.beq i id with|true=>Q j .normal f|false=>Q j (.exit i) f)|e=>Q j e f)
 | .scope b,d,st,Q=>wJ C b d st Q
 | .rangeFunc g p a b,d,st,Q=>d=none∧g2 st λo=>∃k σ,c1 o k σ∧d_ C.fr σ k.n=true∧n_ C k g p.toList a b (λe f=>∀D,Q (some D) e f)
 |c,d,st,Q=>eA (C.wd d) (bI (C.wd d)) c st (Q d)
def Mf(X:∀d,b6 (C.wd d))(Y:∀n,b6 (C.at n))(K:C.df=[]):∀(c:Code),wI N c=true->∀(d:Option Nat) (st:a2) (Q:Option Nat->cv->a2->Prop),wJ C c d st Q->
  ∀(a:Act) (w:World) (S:Nat->Prop) (β:Bt),bp (C.wd d) (Inv.any C.fr) w0 S0 N (· <st.n) st.t st.h a w S β->XP d w0 S β w->c.wp C.P (qd C w0 S0 N Q) a w:=by
 have base:∀(c:Code),rU N c=true->∀(d:Option Nat) (st:a2) (Q:Option Nat->cv->a2->Prop),eA (C.wd d) (bI (C.wd d)) c st (Q d)->
  ∀(a:Act) (w:World) (S:Nat->Prop) (β:Bt),bp (C.wd d) (Inv.any C.fr) w0 S0 N (· <st.n) st.t st.h a w S β->XP d w0 S β w->c.wp C.P (qd C w0 S0 N Q) a w:=by
  intro c k d st Q o a w S β M u;apply wp_mono (CM (C:=C.wd d) (V:=Gf S w β C.fr) (X d) c k st _ o a w S β (M.inv (Ba _ _ _ _)));rintro e I w' ⟨E,j,p,f,rfl,q,U⟩;have P:k9 S w β C.fr p w' f:=U.iv;refine⟨d,E,j,p,f,rfl,q,U.inv trivial,λD hD=>?_⟩;let⟨k1,T,k3,k4⟩:=u D hD;have ab:=fJ k1;refine⟨(P.still D ab T).trans k1,λ⟨x,l,bb,ag⟩=>?_,λh=>?_,k4⟩
  ·rcases P.own x l bb with h|h
   ·exact T (ag ▸ h)
   ·rw[ag]at h;omega
  ·rcases P.nw D h with h|h|h
   ·exact k3 h
   ·omega
   ·exact T h
 intro c
 induction c with
 |seq x y G H=>
  intro k d st Q o a w S β M u;simp[wI,aP]at k;refine wp_seq (wp_mono (G k.1 d st _ o a w S β M u) ?_);rintro e I w' ⟨r,E,j,p,f,rfl,q,v,A⟩
  cases E with
  |normal=>exact H k.2 r j Q q I w' p f v A
  |exit i=>exact⟨r,.exit i,j,p,f,rfl,q,v,A⟩
  |ret=>exact⟨r,.ret,j,p,f,rfl,q,v,A⟩
 | cond c x y G H=>
  intro k d st Q o a w S β M u;simp[wI,aP]at k;simp[wJ]at o;split at o
  ·rename_i b hb;let⟨q,v⟩:=o;have hv:=sY M c;rw[show ba (C.wd d) st.t c=ba C st.t c from rfl,hb]at hv;exact wp_cond_split (lV hv) (λht=>G k.1 d st Q (q ht) a w S β M u) (λO=>H k.2 d st Q (v O) a w S β M u)
  ·exact o.elim
 | block id b ih=>
  intro k d st Q o a w S β M u;refine wp_block (wp_mono (ih k d st _ o a w S β M u) ?_);rintro e I w' ⟨r,E,j,p,f,rfl,q,v,A⟩
  cases E with
  |normal=>exact⟨r,.normal,j,p,f,rfl,q,v,A⟩
  |ret=>exact⟨r,.ret,j,p,f,rfl,q,v,A⟩
  | exit i=>
   show Exit.inBlock id _ (.exit i) I w';simp only at q;simp[Exit.inBlock];by_cases R:i=id
   ·subst R;rw[aa rfl];rw[show Nat.beq i i=true from nG i]at q;exact⟨r,.normal,j,p,f,rfl,q,v,A⟩
   ·rw[dZ R];have:Nat.beq i id=false:=by rw[<-eJ];exact λe=>R (aO e)
    rw[this]at q
    exact⟨r,.exit i,j,p,f,rfl,q,v,A⟩
 |scope b ih=>
  intro k d st Q o a w S β M u;refine wp_scope_straight (wp_mono (ih k d st _ o a w S β M u) ?_);rintro e I w' ⟨r,E,j,p,f,rfl,h⟩
  cases E with
  |normal=>exact⟨r,.normal,j,p,f,rfl,h⟩
  |ret=>exact⟨r,.ret,j,p,f,rfl,h⟩
  |exit i=>exact⟨r,.exit i,j,p,f,rfl,h⟩
 |rangeFunc g bd x y G H=>
  intro k d st Q o a w S β M u;simp only[wI,aP]at k;obtain⟨rfl,ai,Z,aj,σ,hW,O,hR⟩:=o;let⟨S2,al⟩:=nK Z M;have z:=pK (C:=C.wd none) hW O al;have L:=X none
  exact Me (C:=C) ⟨L.ty,L.mixed,L.hH⟩ Y K k.1 k.2.1 k.2.2 hR ⟨z.T,z.H,z.B,z.Z3,z.df.trans K.symm,z.f,z.G,z.nw,trivial⟩
 |_=>intro k d st Q o;exact base _ k d st Q o
theorem bI.Y9(U:∀ d,b6 (C.wd d))(X:∀ n,b6 (C.at n)){f:FuncId}{c:Func}{j:Code}{args:List AV}{r:AV}(hf:C.P.funcs[f]?=some c)(g:c.body=some j)(ab:(c.name== "runtime.NumGoroutine")=false)
  (hN:wI c.ntmps j=true) (G:Nat.ble args.length c.ntmps=true) (hw:wJ C j none ⟨fu args,λ_=>none,0⟩ (λd=>Fin (C.wd d) c r)) (Z:C.df=[]:=by rfl):bI C f args r:=by
 refine⟨⟨c,hf,by rw[g];rfl,ab⟩,λS w k hS hG E=>?_⟩;have G:=aJ G;refine callsIn_wide.1 (callsIn_of_wp_marks (n:=3) hf g trivial ((wpIn_wide (n:=3)).2 ?_));have M0:bp (C.wd none) (Inv.any C.fr) w S c.ntmps (· <(0:Nat)) (fu args) (λ_=>none) {tmps:=k.toArray++Array.replicate (c.ntmps-k.toArray.size) undef,defers:=[]} w S cw:=by
  have hl:k.length=args.length:=E.1.symm;refine⟨λi=>?_,⟨λs blk h=>(by cases h),λs s' l l' h=>absurd rfl h,hS,aC _⟩,Below.refl _ _,λx l h=>(by cases h),rfl,by simp;omega,hG,λ_ h=>.inl h,trivial⟩;rw[mj]
  cases Y:args[i]? with
  |none=>exact .any _
  | some x=>
   have hi:i<k.length:=by rw[hl];exact(Em.1 Y).1
   have hv:k[i]?=some k[i]:=aA hi;have:(k.toArray++Array.replicate (c.ntmps-k.toArray.size) undef).getD i undef=k[i]:=by
    rw[aK,dS (sU hi),eM,hv];rfl
   rw[this];exact E.2 i x _ Y hv
 apply wp_mono (Mf (C:=C) U X Z j hN none ⟨fu args,λ_=>none,0⟩ _ hw _ w S cw M0 nofun);rintro e H w' ⟨d,e',st,T,K,rfl,A,M,L⟩;have I:ST (C.wd d) c r st->∀z:World,bp (C.wd d) (Inv.any C.fr) w S c.ntmps (· <st.n) st.t st.h H z T K->∃v,(results c H.tmps).run C.P z=.ok v z∧∃v',Ending.returned v=.returned v'∧Below w.heap.size w z∧au (λb=>S b∨(w.heap.size<=b∧b<z.heap.size)) z cw r v':=by
  rintro⟨rs,h1,h2,h3,h4⟩ z M;let⟨t,h,n⟩:=st;let⟨us,cs,bb⟩:=JA (U d) M _ rs h1;refine⟨_,yO _ us cs c rfl,_,rfl,M.B,?_⟩;have R:au T z K (Dp rs) (if h:us.toArray.size=1 then us.toArray[0]else .tuple us.toArray):=by
   match rs,us,bb with
   |[],us,bb=>
    have:us=[]:=g3 bb.1.symm;subst this
    exact .E [] #[] rfl λi a u p=>by simp at p
   |[x],us,bb=>
    match us,bb with
    |[u],bb=>simpa [Dp]using bb.2 0 x u rfl rfl
    |[],bb=>exact absurd bb.1 (by simp)
    |_::_::_,bb=>exact absurd bb.1 (by simp)
   | x::y::em,us,bb=>
    have aa: ¬us.toArray.size=1:=by
     have:=bb.1;simp at this⊢;omega
    rw[dif_neg aa];exact .E _ _ (sU bb.1) λi a u p q=>bb.2 i a u p (sU q)
  have L:=BO M.H R h2;exact h4 _ _ _<|(mB L h3 cw).mono (λb g=>g.elim (λg=>(M.nw b g).imp id λh=>⟨h,M.H.lt b g⟩) .inr) (ci.refl _ _) (ME.refl _)
 have go:ST (C.wd d) c r st->LeavesInM Fence.wide 3 C.P c H.tmps (λe w'=>∃v,e=.returned v∧Below w.heap.size w w'∧au (λb=>S b∨(w.heap.size<=b∧b<w'.heap.size)) w' cw r v) H.defers .returning w':=by
  intro hr;rw[M.df]
  cases d with
  |none=>exact I hr w' M
  |some b4=>
   let⟨c0,c',dr,ds⟩:=L b4 rfl;refine⟨by simp,.inl ⟨b4,_,rfl,run_takeDeferred c0,I hr _ ?_⟩⟩;have O:∀b,b≠b4->(w'.putObj b4 (.deferred none)).heap[b]?=w'.heap[b]? :=λb g=>World.putObj_heap_other g;exact M.move (λb g=>O b λe=>dr (e ▸ g)) (λs l o q1 q2=>(O _ λe=>c' ⟨s,l,q1,e⟩).trans q2) rfl rfl rfl (by simp) (λb g=>O b oT) trivial
 cases e' with
 |normal=>exact go A
 |ret=>exact go A
 |exit i=>exact A.elim
end
section
variable {α:Type}
inductive sw(C:a3)(y:Value)(encs:α->Array Value)(xs:List α)(ops:List Oper)(st:a2)(pre:List α)(K:a2->List α->Bool->Prop):Prop
 | mk (k:Nat) (o:Oper) (f:Operand) (args:Array Operand) (ats:Array TypeId) (rest:List Oper) (hd:ops.drop k=o::rest) (ho:o.op=.call {callee:=.value f,args:=args,argTypes:=ats}) (hg:o.guard=none)
   (hr:jS C.Z1 (bI C.Z1) ops (ops.take k) 0 st λst1=>∃x vs stw σ,c1 st1 stw σ∧d_ C.fr σ stw.n=true∧g4 stw.h stw.n=true∧Nat.ble stw.n st.n=true∧ba C stw.t f=.v y∧Ju (args.toList.map (ba C stw.t))=some vs∧encs x=vs.toArray∧pre++[x] <+: xs∧
    ∀b:Bool,jS C.Z1 (bI C.Z1) ops rest (k+1) ⟨Aa stw.t o.dst (.v (.bool b)),stw.h,st.n⟩ (λst2=>K st2 (pre++[x]) (!b))):sw C y encs xs ops st pre K
inductive sk(fr:Nat)(body:a2->List α->(cv->a2->List α->Bool->Prop)->Prop)(st:a2)(pre:List α)(Q:cv->a2->List α->Bool->Prop):Prop
 | mk (κ:Type) (S:κ->a2) (pr:κ->List α) (G:κ->Prop) (μ:κ->Nat) (k0:κ) (σ:Nat->Nat) (hw:c1 st (S k0) σ) (hf:d_ fr σ (S k0).n=true) (hp:pr k0=pre) (h0:G k0)
   (round:∀k,G k->body (S k) (pr k) (λe st' p' s'=>match e with| .normal=>s'=false∧∃k' σ',c1 st' (S k') σ'∧d_ fr σ' (S k').n=true∧pr k'=p'∧G k'∧μ k'<μ k|e=>Q e st' p' s')):sk fr body st pre Q
def gg(C:a3)(y:Value)(encs:α->Array Value)(xs:List α):Code->a2->List α->Bool->(cv->a2->List α->Bool->Prop)->Prop
 | .seq a b,st,pre,s,Q=>gg C y encs xs a st pre s (λe f g j=>match e with| .normal=>gg C y encs xs b f g j Q|e=>Q e f g j)
 | .cond c a b,st,pre,s,Q=>match ba C st.t c with| .v (.bool t)=>nu t (gg C y encs xs a st pre s Q) (gg C y encs xs b st pre s Q)|_=>False
 | .block id b,st,pre,s,Q=>gg C y encs xs b st pre s (λe f g j=>match e with| .exit i=>(match Nat.beq i id with|true=>Q .normal f g j|false=>Q (.exit i) f g j)|e=>Q e f g j)
 | .loop b,st,pre,s,Q=>s=false∧sk C.fr (λst p Q=>gg C y encs xs b st p false Q) st pre Q
 | .region id ops dr,st,pre,s,Q=>eA C (bI C) (.region id ops dr) st (λe f=>Q e f pre s)∨(dr=false∧s=false∧sw C y encs xs ops.toList st pre (λf g j=>Q .normal f g j))
 |c,st,pre,s,Q=>eA C (bI C) c st (λe f=>Q e f pre s)
def wG(N:Nat):Code->Bool
 | .seq a b=>wG N a&&wG N b
 | .cond _ a b=>wG N a&&wG N b
 | .block _ b=>wG N b
 | .loop b=>wG N b
 |c=>oO N (λ_=>false) c
end
def Pf{F}{n}{P}{Q}{a}{w}{c}(I:Nat->Act->World->Prop)(m)(r:I m a w)
  (round:∀m a w,I m a w->c.wpIn F n P (Exit.then (λk w'=>∃b,b<m∧I b k w') Q) a w):(Code.loop c).wpIn F n P Q a w:=by
 classical
 have i:∀(n:Nat) (a:Act) (w:World),(∃m,m<=n∧I m a w)->∃m,I m a w∧∀b,I b a w->m<=b:=by
  intro n
  induction n with
  |zero=>rintro a w ⟨m,o,f⟩;exact⟨m,f,λb _=>by omega⟩
  |succ n ih=>
   rintro a w ⟨m,o,f⟩;by_cases q:∃b,b<=n∧I b a w
   ·exact ih a w q
   ·exact⟨m,f,λb h'=>Nat.le_of_not_lt λh=>q ⟨b,oT,h'⟩⟩
 have p:∀a w,(∃m,I m a w)->∃m,I m a w∧∀b,I b a w->m<=b:=λa w ⟨m,h⟩=>i m a w ⟨m,aC _,h⟩
 let g:Act->World->Nat:=λa w=>if h:∃m,I m a w then Classical.choose (p a w h)else 0
 have j:∀a w,(∃m,I m a w)->I (g a w) a w∧∀b,I b a w->g a w<=b:=λa w h=>by
  have e:g a w=Classical.choose _:=dif_pos h;rw[e];exact nE (p a w h)
 refine wpIn_loop (λa w=>∃m,I m a w) g ⟨m,r⟩ λa w h=>wpIn_mono (round (g a w) a w (j a w h).1) ?_;intro e k w' h';cases e<;>try exact h'
 let⟨b,o,f⟩:=h';exact⟨⟨b,f⟩,bL ((j k w' ⟨b,f⟩).2 b f) o⟩
section
variable {α:Type}{C:a3}{J:Bool->(Nat->Prop)->List α->World->Prop}{W:World}{xs:List α}{encs:α->Array Value}{N l:Nat}
def jl(C:a3)(J:Bool->(Nat->Prop)->List α->World->Prop)(W:World)(xs:List α)(N:Nat)(st:a2)(pre:List α)(s:Bool)(a:Act)(A:World):Prop:=
 ∃CC S β,J s CC pre A∧pre <+: xs∧W.heap.size<=A.heap.size∧bp C (Inv.any C.fr) {W with heap:= #[]} (λ_=>True) N (· <st.n) st.t st.h a A S β∧(∀b,S b-> ¬CC b)∧(∀b,hQ β b-> ¬CC b∧W.heap.size<=b)
theorem jl.step(u:∀s C pre A B,J s C pre A->du (λb=>b<W.heap.size∨C b) A B->J s C pre B)(g:∀s C pre A,J s C pre A->∀b,C b->b<A.heap.size)
  {CC} {pre} {s} {w0} {S0} {D} {t} {h} {a} {A c} {S p} {β i} {V}
  (j:J s CC pre A) (hp:pre <+: xs) (r:W.heap.size<=A.heap.size) (z:∀b,S b-> ¬CC b) (f:∀b,hQ β b-> ¬CC b∧W.heap.size<=b) (M:bp C V w0 S0 N D t h a A S β) (P:k9 S A β C.fr p c i) (k:c.os=A.os∧c.tape=A.tape∧c.output=A.output):
  J s CC pre c∧W.heap.size<=c.heap.size∧(∀b,p b-> ¬CC b)∧(∀b,hQ i b-> ¬CC b∧W.heap.size<=b):=by
 refine⟨u s CC pre A c j ⟨k.1,k.2.1,k.2.2,P.f,λb o v=>P.still b o λq=>v.elim (λh=>by have:=(f b q).2;omega) (f b q).1⟩,aL r P.f,λb o e=>?_,λb ⟨x,l,h1,h2⟩=>?_⟩
 ·rcases P.nw b o with h|h|h
  ·exact z b h e
  ·have:=g s CC pre A j b e;omega
  exact(f b h).1 e
 subst h2;rcases P.own x l h1 with h|h
 ·exact f _ h
 exact⟨λe=>by have:=g s CC pre A j _ e;omega,aL r h⟩
def ua(C:a3)(J:Bool->(Nat->Prop)->List α->World->Prop)(W:World)(xs:List α)(N:Nat)(Q:cv->a2->List α->Bool->Prop)(e:Exit)(a:Act)(A:World):Prop:=∃b st pre s,e=Gq b∧Q b st pre s∧jl C J W xs N st pre s a A
def Mc(hC:b6 C)(hJ:∀s C pre A B,J s C pre A->du (λb=>b<W.heap.size∨C b) A B->J s C pre B)(aj:∀s C pre A,J s C pre A->∀b,C b->b<A.heap.size)
  (hY:∀CC pre x A,J false CC pre A->pre++[x] <+: xs->YieldAt Fence.wide 1 C.P l (encs x) A λe B=>∃b,e=.returned (.bool b)∧∃C',J (!b) C' (pre++[x]) B∧du (λb=> ¬CC b) A B∧(∀b,C' b->CC b∨A.heap.size<=b)):
  ∀c,wG N c=true->∀st pre s Q,gg C (.func (.yield l) #[] #[]) encs xs c st pre s Q->∀a A,jl C J W xs N st pre s a A->c.wpIn Fence.wide 2 C.P (ua C J W xs N Q) a A:=by
 have base:∀(c:Code),oO N (λ_=>false) c=true->∀(st:a2) (pre:List α) (s:Bool) (Q:cv->a2->List α->Bool->Prop),eA C (bI C) c st (λe r=>Q e r pre s)->∀(a:Act) (A:World),jl C J W xs N st pre s a A->c.wpIn Fence.wide 2 C.P (ua C J W xs N Q) a A:=by
  rintro c v st pre s Q D a A ⟨CC,S,β,j,hp,hs,M,k1,k2⟩;apply wpIn_mono (BI (V:=Gf S A β C.fr) (Eg C.P) hC c v st _ D a A S β (M.inv (Ba _ _ _ _)) (g1.refl _ _));rintro e a' A' ⟨e',r,S',aQ,rfl,g,M', -⟩;let⟨ag,al,b4,G⟩:=jl.step hJ aj j hp hs k1 k2 M M'.iv ⟨M'.B.os.trans M.B.os.symm,M'.B.tape.trans M.B.tape.symm,M'.B.output.trans M.B.output.symm⟩;exact⟨e',r,pre,s,rfl,g,CC,S',aQ,ag,hp,al,M'.inv trivial,b4,G⟩
 intro c
 induction c with
 |seq x y bb bd=>
  intro v st pre s Q D a A M;simp[wG,aP]at v;refine wpIn_seq (wpIn_mono (bb v.1 st pre s _ D a A M) ?_);rintro e a' w' ⟨e',r,R,T,rfl,g,I⟩
  cases e' with
  |normal=>exact bd v.2 r R T Q g a' w' I
  |exit i=>exact⟨.exit i,r,R,T,rfl,g,I⟩
  |ret=>exact⟨.ret,r,R,T,rfl,g,I⟩
 | cond c x y bb bd=>
  intro v st pre s Q D a A M;simp[wG,aP]at v;simp[gg]at D;split at D
  ·rename_i b K;let⟨g,I⟩:=D;have X:=M;let⟨CC,S,β,j,hp,hs,L,k1,k2⟩:=X;have hv:=sY L c;rw[K]at hv;exact wpIn_cond_split (lV hv) (λht=>bb v.1 st pre s Q (g ht) a A M) (λhf=>bd v.2 st pre s Q (I hf) a A M)
  ·exact D.elim
 | block id b ih=>
  intro v st pre s Q D a A M;refine wpIn_block (wpIn_mono (ih v st pre s _ D a A M) ?_);rintro e a' w' ⟨e',r,R,T,rfl,g,I⟩
  cases e' with
  |normal=>exact⟨.normal,r,R,T,rfl,g,I⟩
  |ret=>exact⟨.ret,r,R,T,rfl,g,I⟩
  | exit i=>
   show Exit.inBlock id _ (.exit i) a' w';simp only at g;simp[Exit.inBlock];by_cases hi:i=id
   ·subst hi;rw[aa rfl];rw[show Nat.beq i i=true from nG i]at g;exact⟨.normal,r,R,T,rfl,g,I⟩
   ·rw[dZ hi];have:Nat.beq i id=false:=by rw[<-eJ];exact λe=>hi (aO e)
    rw[this]at g
    exact⟨.exit i,r,R,T,rfl,g,I⟩
 | loop b ih=>
  intro v st pre s Q D a A M;obtain⟨rfl,hL⟩:=D;obtain⟨κ,S,pr,aV,μ,k0,σ,hw,hf,rfl,h0,round⟩:=hL;have ao:∀{st r:a2} {σ:Nat->Nat} {p:List α} {a:Act} {A:World},c1 st r σ->d_ C.fr σ r.n=true->jl C J W xs N st p false a A->jl C J W xs N r p false a A:=by
   rintro st r σ p a A hw hf ⟨CC,S,β,j,hp,hs,L,k1,k2⟩;refine⟨CC,S,_,j,hp,hs,pK hw hf L,k1,λb ⟨x,l,g,I⟩=>?_⟩;simp only at g;split at g
   ·exact k2 b ⟨_,l,g,I⟩
   ·cases g
  apply Pf (λm a A=>∃k,μ k=m∧aV k∧jl C J W xs N (S k) (pr k) false a A) (μ k0) ⟨k0,rfl,h0,ao hw hf M⟩;rintro m a A ⟨k,rfl,hG,M⟩;apply wpIn_mono (ih v _ _ _ _ (round k hG) a A M);rintro e a' w' ⟨e',r,R,T,rfl,g,I⟩
  cases e' with
  |normal=>
   obtain⟨rfl,k',aT,ag,al,rfl,G,g5⟩:=g
   exact⟨μ k',g5,k',rfl,G,ao ag al I⟩
  |exit i=>exact⟨.exit i,r,R,T,rfl,g,I⟩
  |ret=>exact⟨.ret,r,R,T,rfl,g,I⟩
 | region id ops dr=>
  intro v st pre s Q D a A M;rcases D with D|⟨rfl,rfl,D⟩
  ·exact base _ v st pre s Q D a A M
  let⟨k,o,f,args,ch,rest,hd,ho,hg,hr⟩:=D;let⟨CC,S,β,j,hp,hs,M,k1,k2⟩:=M;let⟨t,h,n⟩:=st;simp[wG,oO,aP]at v;have ai:ops.toList[k]?=some o:=by
   have:(ops.toList.drop k)[0]?=some o:=by rw[hd];rfl
   simpa using this
  have aD:ops[k]?=some o:=by rw[<-ai,bQ]
  have ab:k<ops.toList.length:=(Em.1 ai).1;have aF:ops.size=k+(1+rest.length):=by
   have:=az List.length hd;simp at this;simp at ab;omega
  have ar:ops.toList.drop (k+1)=rest++[]:=by rw[<-lH,hd];simp
  have aI:(ops.toList.take k).length=k:=by simp at ab⊢;omega
  have an:List.range ops.size=List.range' 0 (ops.toList.take k).length++(k::(List.range' (k+1) rest.length++[])):=by
   rw[nZ,aF,aI,dY, <-List.range'_append_1,bJ,gJ 1,nX]
  apply wpIn_region;rw[an];apply BJ (C:=C.Z1) (V:=Gf S A β C.fr) (kp:=λ_=>false) (a0:=a) (Eg C.P) hC.Z1 (λ_ _ _ _ _ h=>h) rfl v.1 v.2 _ (ops.toList.take k) 0 t h a A S β ⟨ops.toList.drop k,by simp⟩ hr ((M.inv (Ba _ _ _ _)).Z1) (g1.refl _ _);rintro aS Z A1 Y av ⟨x,vs,H,σ,hW,aC,aq,ak,hf,aK,aw,am,K⟩ X -;let⟨ag,al,b4,G⟩:=jl.step hJ aj j hp hs k1 k2 M X.iv ⟨X.B.os.trans M.B.os.symm,X.B.tape.trans M.B.tape.symm,X.B.output.trans M.B.output.symm⟩;have L:=pK (C:=C.Z1) hW aC X;have aA:=uH aq;have ak:=aJ ak;have g5:∀b,hQ (λs=>if s<H.n then av (σ s)else none) b-> ¬CC b∧W.heap.size<=b∧b<A1.heap.size:=by
   rintro b ⟨y,l,g,I⟩;subst I;let⟨blk,cf⟩:=DQ.1 (aA y (L.Z3 y l g));let⟨cl,cs,e,fr,bu,b5, _⟩:=L.H.own y blk cf;simp only at g bu;rw[g]at bu;cases bu;split at g
   ·exact⟨(G _ ⟨_,l,g,rfl⟩).1,(G _ ⟨_,l,g,rfl⟩).2,fJ b5⟩
   ·cases g
  generalize (λs=>if s<H.n then av (σ s)else none)=U at L g5;have ay:Z.eval f=.func (.yield l) #[] #[]:=by
   have:=sY L f;rw[show ba C.Z1 H.t f=ba C H.t f from rfl,hf]at this;exact lV this
  have ap:args.map Z.eval=encs x:=by
   rw[aw];have aE:b2 Y A1 U (args.toList.map (ba C.Z1 H.t)) (args.toList.map Z.eval):=⟨by simp,λi y u p q=>by
    rw[aX]at p q
    cases hi:args.toList[i]? with
    |none=>rw[hi]at p;cases p
    |some c0=>rw[hi]at p q;cases p;cases q;exact sY L c0⟩
   have:=Lj (show Ju (args.toList.map (ba C.Z1 H.t))=some vs from aK) aE;rw[<-this];apply Array.ext';simp
  have ax:=hY CC pre x A1 ag am;refine Jb aD hg (Mg (Eg C.P) ho ay ap ax ?_);rintro b B ⟨C',j',E,z⟩;have O:bp C.Z1 (Gf Y B U C.fr) {W with heap:= #[]} (λ_=>True) N (· <H.n) H.t H.h Z B Y U:=
   (L.inv (V':=Inv.any C.Z1.fr) trivial).move (λb K=>E.block b (L.H.lt b K) (b4 b K)) (λs l o bu b5=>(E.block _ (fJ b5) (g5 _ ⟨s,l,bu,rfl⟩).1).trans b5) E.os E.tape E.output E.size (λb K=>absurd K (dG _)) (Ba _ _ _ _)
  have au:=wU v.1 (aB ai);have M3:bp C.Z1 (Gf Y B U C.fr) {W with heap:= #[]} (λ_=>True) N (· <n+(k+1)) (Aa H.t o.dst (.v (.bool b))) H.h (Z.put o.dst (.bool b)) B Y U:=by
   refine⟨PK Z O.T (.v _) (λk v=>by rw[O.f];exact au k v),O.H,O.B,λy l hy=>(by have:y<H.n:=O.Z3 y l hy;simp only at ak;omega),?_,?_,O.G,O.nw,O.iv⟩
   ·cases o.dst<;>exact O.df
   ·cases o.dst with
    |none=>exact O.f
    |some k=>simp[Act.put,iV];exact O.f
  apply BJ (C:=C.Z1) (V:=Gf Y B U C.fr) (kp:=λ_=>false) (a0:=Z.put o.dst (.bool b)) (Eg C.P) hC.Z1 (λ_ _ _ _ _ h=>h) rfl v.1 v.2 [] rest (k+1) _ _ _ B Y U ⟨[],ar⟩ (K b) M3 (g1.refl _ _);rintro aN aW A2 S2 aR hK M4 -;let⟨f1,f2,f3,f4⟩:=jl.step (CC:=C') hJ aj j' am (aL al E.size) (λb K hc=>(z b hc).elim (b4 b K) (λh=>by have:=L.H.lt b K;omega)) (λb K=>⟨λhc=>(z b hc).elim (g5 b K).1 (λh=>by have:=(g5 b K).2.2;omega),(g5 b K).2.1⟩) M3.ZG M4.iv ⟨M4.B.os.trans M3.B.os.symm,M4.B.tape.trans M3.B.tape.symm,M4.B.output.trans M3.B.output.symm⟩
  exact⟨.normal,aN,_,_,rfl,hK,C',S2,aR,f1,am,f2,M4.ZG.inv trivial,f3,f4⟩
 |_=>intro v st pre s Q D;exact base _ v st pre s Q D
end
theorem RN.intro{α}{C}(hC:b6 C){g}{f}{c}{a}{encs}{xs:List α}(hf:C.P.funcs[g]?=some f)(k:f.body=some c)(K:f.results.toList=[])
  (hN:wG f.ntmps c=true) (q:Nat.ble (a.length+1) f.ntmps=true)
  (hw:∀y,gg C y encs xs c ⟨fu (.v y::a),λ_=>none,0⟩ [] false (λe _ pre s=>match e with| .exit _=>False|_=>s=false->pre=xs)) (E:C.df=[]:=by rfl):RN C g a encs xs:=by
 intro R w o p hG G l J C0 W D I hJ H hY h0;have q:=aJ q;have u:∀b,R b->W.heap[b]?=w.heap[b]? :=λb k=>D.block b (p b k) k;refine callsIn_wide.1 (callsIn_of_wp_marks (n:=2) hf k trivial ?_);have U:o.length=a.length:=G.1.symm;have Y:jl C J W xs f.ntmps ⟨fu (.v (.func (.yield l) #[] #[])::a),λ_=>none,0⟩ [] false {tmps:=(#[Value.func (.yield l) #[] #[]]++o.toArray)++Array.replicate (f.ntmps-(#[Value.func (.yield l) #[] #[]]++o.toArray).size) undef,defers:=[]} W:=by
  refine⟨C0,R,cw,h0,List.nil_prefix,aC _,⟨λi=>?_,⟨λs blk h=>(by cases h),λs s' l l' h=>absurd rfl h,λb k=>ep (p b k) D.size,aE _⟩,⟨rfl,rfl,rfl,aE _,λb k=>by simp at k⟩,λx l h=>(by cases h),E.symm,?_,λg cells hg=>lb (hG g cells hg) (λ_ h=>h) u nofun,λ_ _=>.inl trivial,trivial⟩,I,λb ⟨x,l,h1,_⟩=>by cases h1⟩
  ·show au R W cw (fu (.v (.func (.yield l) #[] #[])::a) i) (Array.getD _ i undef);rw[mj,aK]
   cases i with
   |zero=>
    rw[dS (by simp),dS (by simp)]
    exact .v _
   | succ i=>
    rw[dL]
    cases T:a[i]? with
    |none=>exact .any _
    |some x=>
     have hi:i<o.length:=by rw[U];exact(Em.1 T).1
     have X:o[i]?=some o[i]:=aA hi;rw[dS (by simp;omega),Array.getElem?_append_right (by simp)];simp[kP,bN,cX,kB,eM,X,gI];exact lb (G.2 i x _ T X) (λ_ h=>h) u nofun
  ·simp;omega
 apply wpIn_mono (Mc hC hJ H hY c hN _ _ _ _ (hw _) _ W Y);rintro e O A ⟨Z,st,pre,s,rfl,r,CC,S,β,j,hp,hs,M,k1,k2⟩;have z:(s=false->pre=xs)->LeavesInM Fence.wide 2 C.P f O.tmps (λe L=>(∃v,e=.returned v)∧((∃C,J false C xs L)∨∃C pre,pre <+: xs∧J true C pre L)) O.defers .returning A:=by
  intro r;rw[M.df,E];refine⟨_,yO [] [] rfl f K,⟨_,rfl⟩,?_⟩
  cases s with
  |false=>obtain rfl:=r rfl;exact .inl ⟨CC,j⟩
  |true=>exact .inr ⟨CC,pre,hp,j⟩
 cases Z with
 |normal=>exact z r
 |ret=>exact z r
 |exit i=>exact r.elim
theorem b6.wd{C}(h:b6 C)(d):b6 (C.wd d):=⟨h.ty,h.mixed,h.hH⟩
def VS:Code->Bool
 | .seq _ _=>false
 | .cond _ _ _=>false
 | .block _ _=>false
 | .scope _=>false
 | .loop _=>false
 | .rangeFunc _ _ _ _=>false
 |_=>true
section
variable {C:a3}{d:Option Nat}{Q:Option Nat->cv->a2->Prop}{t:Nat->AV}{h:AH}{n:Nat}
def uO{a b:Code}{st:a2}(k:wJ C a d st (λf e c=>match e with| .normal=>wJ C b f c Q|e=>Q f e c)):wJ C (.seq a b) d st Q:=k
def VT{c}{a b}{v}(e:ba C t c=.v (.bool v))(f:v=true->wJ C a d ⟨t,h,n⟩ Q)(g:v=false->wJ C b d ⟨t,h,n⟩ Q):wJ C (.cond c a b) d ⟨t,h,n⟩ Q:=by
 simp[wJ,e];exact .mk f g
def Ja{id:Nat}{b:Code}{st:a2}(k:wJ C b d st (λc e a=>match e with| .exit i=>(match Nat.beq i id with|true=>Q c .normal a|false=>Q c (.exit i) a)|e=>Q c e a)):wJ C (.block id b) d st Q:=k
def XO{b:Code}{st:a2}(k:wJ C b d st Q):wJ C (.scope b) d st Q:=k
def tQ{c}{st}(a:VS c=true)(k:eA (C.wd d) (bI (C.wd d)) c st (Q d)):wJ C c d st Q:=by
 cases c<;>first|exact k|cases a
def zq{b:Code}{st:a2}(k:eA (C.wd d) (bI (C.wd d)) (.loop b) st (Q d)):wJ C (.loop b) d st Q:=k
def Md{g:Operand}{f:Array Tmp}{a b:Code}{st:a2}(k:g2 st λj=>∃c σ,c1 j c σ∧d_ C.fr σ c.n=true∧n_ C c g f.toList a b (λe i=>∀D,Q (some D) e i)):wJ C (.rangeFunc g f a b) none st Q:=⟨rfl,k⟩
end
def zr{C:a3}{R:FuncId->List AV->AV->Prop}{Q:cv->a2->Prop}{l:Nat}{st:a2}(k:Q .normal st):eA C R (.label l) st Q:=k
section
variable {α:Type}{C:a3}{y:Value}{encs:α->Array Value}{xs pre:List α}{s:Bool}{Q:cv->a2->List α->Bool->Prop}{t:Nat->AV}{h:AH}{n:Nat}
def rQ{a b:Code}{st:a2}(k:gg C y encs xs a st pre s (λe c f g=>match e with| .normal=>gg C y encs xs b c f g Q|e=>Q e c f g)):gg C y encs xs (.seq a b) st pre s Q:=k
def Cz{c}{a b}{v}(e:ba C t c=.v (.bool v))(f:v=true->gg C y encs xs a ⟨t,h,n⟩ pre s Q)(g:v=false->gg C y encs xs b ⟨t,h,n⟩ pre s Q):gg C y encs xs (.cond c a b) ⟨t,h,n⟩ pre s Q:=by
 simp[gg,e];exact .mk f g
def AA{id:Nat}{b:Code}{st:a2}(k:gg C y encs xs b st pre s (λe a c f=>match e with| .exit i=>(match Nat.beq i id with|true=>Q .normal a c f|false=>Q (.exit i) a c f)|e=>Q e a c f)):gg C y encs xs (.block id b) st pre s Q:=k
def nU{c}{st}(b:VS c=true)(k:eA C (bI C) c st (λe a=>Q e a pre s)):gg C y encs xs c st pre s Q:=by
 cases c<;>first|exact Or.inl k|exact k|cases b
def NH{b:Code}{st:a2}{κ:Type}(S:κ->a2)(f:κ->List α)(G:κ->Prop)(j:κ->Nat)(c:κ)(σ:Nat->Nat)(u:c1 st (S c) σ)(r:d_ C.fr σ (S c).n=true)(hp:f c=pre)(q:G c)
  (round:∀k,G k->gg C y encs xs b (S k) (f k) false (λe g o p=>match e with| .normal=>p=false∧∃a i,c1 g (S a) i∧d_ C.fr i (S a).n=true∧f a=o∧G a∧j a<j k|e=>Q e g o p)):gg C y encs xs (.loop b) st pre false Q:=
 ⟨rfl,.mk κ S f G j c σ u r hp q round⟩
def NI{id}{ops}{l}{st}(q:ops.toList=l)(k){o}{f}{args}{c}{rest}(j:l.drop k=o::rest)(r:o.op=.call {callee:=.value f,args:=args,argTypes:=c})(p:o.guard=none)
  (u:jS C.Z1 (bI C.Z1) l (l.take k) 0 st λe=>∃x i a σ,c1 e a σ∧d_ C.fr σ a.n=true∧g4 a.h a.n=true∧Nat.ble a.n st.n=true∧ba C a.t f=.v y∧Ju (args.toList.map (ba C a.t))=some i∧encs x=i.toArray∧pre++[x] <+: xs∧
    ∀b:Bool,jS C.Z1 (bI C.Z1) l rest (k+1) ⟨Aa a.t o.dst (.v (.bool b)),a.h,st.n⟩ (λg=>Q .normal g (pre++[x]) (!b))):gg C y encs xs (.region id ops false) st pre false Q:=by
 subst q;exact .inr ⟨rfl,rfl,.mk k o f args c rest j r p u⟩
end
open Go.Proofs.Tryz
set_option maxRecDepth 100000
set_option maxHeartbeats 4000000
def P_:AV->Value
 | .v x=>x
 |_=>undef
def CE(e:ai):Value:=.agg ((aj e).map P_).toArray
def sx(x:Nat×ai):Array Value:= #[.int .i64 (x.1:Int),CE x.2]
def g9(agI:List ai):Nat->List (Nat×ai)
 |0=>[]
 |n+1=>match agI[n]? with|some e=>(n,e)::g9 agI n|none=>g9 agI n
theorem Km{agI:List ai}:∀{n:Nat},n<=agI.length->(g9 agI n).length=n
 |0,_=>rfl
 |n+1,h=>by
  have e:agI[n]?=some agI[n]:=aA h;simp[g9,e,bN,Km (mX h)]
theorem MY{agI:List ai}:∀{n k:Nat} {x:ai},n<=agI.length->0<k->k<=n->agI[k-1]?=some x->(g9 agI n)[n-k]?=some (k-1,x)
 |0,k,x,_,b,c,_=>by omega
 | n+1,k,x,h,b,c,a=>by
  have e:agI[n]?=some agI[n]:=aA h;simp[g9,e];by_cases f:k=n+1
  ·subst f;rw[kB,e]at a;cases a;simp
  ·rw[(oT:n+1-k=(n-k)+1),dL];exact MY (mX h) b ad a
theorem Ar{agI:List ai}:∀{n:Nat} {x:Nat×ai},x∈g9 agI n->x.1<n∧agI[x.1]?=some x.2
 |0,x,h=>by cases h
 | n+1,x,h=>by
  simp[g9]at h;split at h
  ·rename_i e a;rcases dk.1 h with rfl|h
   ·exact⟨Nat.lt_succ_self _,a⟩
   ·exact⟨mW (Ar h).1,(Ar h).2⟩
  ·exact⟨mW (Ar h).1,(Ar h).2⟩
def Io(agI:List ai)(n k:Nat):List (Nat×ai):=(g9 agI n).take (n-k)
def GP{agI}{n k}{x}(c:n<=agI.length)(a:0<k)(b:k<=n)(e:agI[k-1]?=some x):Io agI n (k-1)=Io agI n k++[(k-1,x)]:=by
 unfold Io;rw[(oT:n-(k-1)=(n-k)+1),bW,MY c a b e];rfl
def QL{agI:List ai}{n k:Nat}:Io agI n k <+: g9 agI n:=List.take_prefix _ _
def QM{agI:List ai}{n:Nat}(a:n<=agI.length):Io agI n 0=g9 agI n:=by
 unfold Io;rw[Nat.sub_zero];exact aN (Nat.le_of_eq (Km a))
def LM{agI}{n}:Io agI n n=[]:=by
 unfold Io;rw[eK];rfl
def A2(agI)(e)(i)(D:agI.length<=1000)(q:∀x∈agI,x.ok)(A:i<=1000):RN C0 171 [.dp 1 0 ([vN i]),.dp 1 0 ([.X 17 (agI.map aj) e])] sx (g9 agI (min i agI.length)):=by
 apply RN.intro gq func171 rfl rfl (by kernel_rfl) rfl;intro y;refine rQ<|nU rfl<|a8<|oR 2 rfl<|rW _ rfl (cD aj agI)<|rW _ rfl (Bo i agI.length)<|oR 1 rfl<|rE 5<|AA<|NH (λk=>⟨be [(0,.v y),(1,.dp 1 0 ([vN i])),(2,.dp 1 0 ([.X 17 (agI.map aj) e])),(4,vN k)],ap [],5⟩) (λk=>Io agI (min i agI.length) k) (λk=>k<=min i agI.length) (λk=>k) (min i agI.length) (λs=>s) (av (λs=>s) wT trivial rfl) rfl (LM) (aC _) ?_;intro k j;have a:k<=1000:=by have:k<=min i agI.length:=j;omega
 refine rQ<|rQ<|nU rfl<|a8<|oR 1 rfl<|rW _ rfl (am (fw _ _))<|rE 7<|Cz (v:=decide (k>0)) rfl (λf=>?_) (λf=>?_)
 ·have b:=bj f;refine nU rfl<|mF<|rQ<|AA<|rQ<|NI rfl 8 rfl rfl rfl<|oR 2 rfl ?_;have u:k-1<=1000:=aL (jT _ _) a;refine rW _ rfl (ar (DA ad a rfl))<|oR 2 rfl ?_;have v:k-1<=1000:=aL (jT _ _) a;refine rW _ rfl (ar (DA ad a rfl)) ?_;let⟨x,c⟩:=d7 agI (k-1);have r:=q x (aB c);refine ji (aj x) (.dp 17 0 (aj x)) rfl rfl (iH c) rfl<|oR 1 rfl<|rE 15 ?_;refine⟨(k-1,x),_,⟨be [(0,.v y),(1,.dp 1 0 ([vN i])),(2,.dp 1 0 ([.X 17 (agI.map aj) e])),(4,vN k),(13,.v y),(15,vN (k-1)),(20,.agg (aj x))],ap [],0⟩,λs=>s,av _ wT trivial rfl,rfl,rfl,rfl,rfl,rfl,rfl,(by rw[<-GP (eX _ _) b j c];exact QL),λp=>?_⟩;refine oR 1 rfl<|rE 17<|Cz (v:= !p) rfl (λg=>?_) (λg=>?_)
  ·refine nU rfl<|FQ ?_;intro o;rw[g]at o;cases o
  refine nU rfl<|mF<|nU rfl<|a8<|oR 1 rfl ?_;have z:k-1<=1000:=aL (jT _ _) a;refine rW _ rfl (ar (DA ad a rfl))<|oR 1 rfl<|rE 20 ?_;refine⟨g,k-1,λs=>s,av _ wT trivial rfl,rfl,(GP (eX _ _) b j c),(oT:k-1<=min i agI.length),(oT:k-1<k)⟩
 have b:=aF f;refine nU rfl<|Bh ?_;intro _;obtain rfl:k=0:=oT;exact QM (eX _ _)
theorem Du{agI:List ai}{a:Int}:∀{n:Nat},n<=agI.length->(∀y,y∈g9 agI n-> ¬wr y.2.i=a)->h8 agI a n=none
 |0,_,_=>rfl
 |n+1,h,b=>by
  have e:agI[n]?=some agI[n]:=aA h;simp only[g9,e]at b;have c: ¬wr agI[n].i=a:=b (n,agI[n]) b9;simp[h8,LS,e];rw[dZ (sU c)];exact Du (mX h) λy f=>b y (bY _ f)
theorem Dv{agI:List ai}{a:Int}:∀{n:Nat} {pre:List (Nat×ai)} {x:Nat×ai},n<=agI.length->pre++[x] <+: g9 agI n->(∀y,y∈pre-> ¬wr y.2.i=a)->wr x.2.i=a->h8 agI a n=some x.1
 |0,pre,x,_,h,_,_=>by have:=h.length_le;simp[g9]at this
 | n+1,pre,x,f,h,c,g=>by
  have e:agI[n]?=some agI[n]:=aA f;simp[g9,e]at h;simp[h8,LS,e]
  cases pre with
  | nil=>
   obtain rfl:x=(n,agI[n]):=by
    let⟨t,b⟩:=h;exact(List.cons.inj b).1
   rw[aa (sU g)]
  |cons y l=>
   let⟨t,b⟩:=h;let⟨j,k⟩:=List.cons.inj b;subst j;have i: ¬wr agI[n].i=a:=c (n,agI[n]) b9;rw[dZ (sU i)];exact Dv (mX f) ⟨t,k⟩ (λy o=>c y (bY _ o)) g
def A3(agI:List ai)(a)(i)(c:agI.length<=1000)(e:∀x∈agI,x.ok)(b:i<=1000):bI C0 154 [.X 17 (agI.map aj) a,vN i] (.F 171 [] [.dp 1 0 [vN i],.dp 1 0 [.X 17 (agI.map aj) a]]):=by
 apply bk func154 rfl;apply zV (.F 171 [] [.ptr 1 0,.ptr 0 0]);exact dK rfl hD rfl rfl
def QN(agI)(b)(i)(a)(u:agI.length<=1000)(o:∀x∈agI,x.ok)(r:i<=1000):bI C0 126 [.X 17 (agI.map aj) b,vN i,vI a] (vI (DM (gX agI i a))):=by
 refine bI.Y9 (λd=>gq.wd d) (λn=>gq.at) func126 rfl rfl (by kernel_rfl) rfl<|uO<|tQ rfl<|a8<|e4 0 rfl rfl<|e4 1 rfl rfl<|rE 2<|uO<|uO<|tQ rfl<|a8<|oR 1 rfl<|rV (vB (decide (a<1))) rfl<|oR 1 rfl<|gN rfl<|ay rfl id rfl<|bO rfl rfl rfl (by simp)<|rE 8<|VT rfl (λg=>?_) (λg=>?_)
 ·refine uO<|tQ rfl<|a8<|a_ rfl<|rE 9<|tQ rfl<|FQ ?_;have f:(a<1∨a>31):=by have z:=g;simp[ae]at z;grind
  have e:gX agI i a=none:=aa f;rw[e];exact fT rfl rfl
 refine tQ rfl<|mF<|uO<|uO<|tQ rfl<|a8<|oR 2 rfl<|a1 rfl (A3 agI b i u o r)<|rE 11<|Ja<|Md (.mk _ (.refl _) ⟨⟨be [(5,.ptr 0 0),(6,.ptr 1 0),(17,.F 171 [] [.dp 1 0 ([vN i]),.dp 1 0 ([.X 17 (agI.map aj) b])])],ap [(0,.box [vI a]),(1,.box [vI 0])],2⟩,λs=>s,av _ wT wH rfl,rfl,?_⟩);refine .mk (Nat×ai) 171 [.dp 1 0 ([vN i]),.dp 1 0 ([.X 17 (agI.map aj) b])] (λx:Nat×ai=>[vN x.1,.agg (aj x.2)]) sx (g9 agI (min i agI.length)) (λx:Nat×ai=> ¬wr x.2.i=a) 2 (λ_=>ap [(0,.box [vI a]),(1,.box [vI 0])]) (λ_=>2) rfl rfl ⟨_,func171,rfl,rfl⟩ (A2 agI b i u o r) (λx S w β=>BL (show Ju [vN x.1,.agg (aj x.2)]=some _ from rfl)) (λ_=>rfl) rfl rfl (λ_=>rfl) (av (hp:=[]) (λs=>s) wT trivial rfl) ?_ ?_
 ·intro A x j q;have k:=Ar (j.subset (List.mem_append_right _ (uJ.2 rfl)));have E:x.1<=1000:=oH k.1;have G:=o x.2 (aB k.2);refine bq<|oR 1 rfl<|rE 3<|a8<|e4 3 rfl rfl<|a_ rfl<|rE 5 ?_;refine⟨rfl,?_⟩;refine kO<|bq<|oR 2 rfl<|a1 rfl (Da x.2.i)<|oR 1 rfl<|rV (vB ((wr x.2.i)==a)) rfl<|rE 10<|aV rfl (λc=>?_) (λc=>?_)
  ·have p:=mT c;refine bq<|oR 1 rfl<|a_ rfl<|rE 12<|FQ<|.mk _ (.refl _) ⟨ap [(0,.box [vI a]),(1,.box [vN x.1])],2,λs=>s,rfl,rfl,av (l:=[]) (hp:=[(0,.box [vI a]),(1,.box [vN x.1])]) (λs=>s) trivial wH rfl,?_⟩;intro D;have f: ¬(a<1∨a>31):=by have z:=g;simp[ae]at z;grind
   have e:gX agI i a=some x.1:=(dZ f).trans (Dv (eX _ _) j q (mT c));rw[e];exact fT rfl rfl
  have p:=nA c;exact mF<|⟨nA c,.mk _ (.refl _) ⟨λs=>s,rfl,av (l:=[]) (hp:=[(0,.box [vI a]),(1,.box [vI 0])]) (λs=>s) trivial wH rfl⟩⟩
 intro v D;refine uO<|tQ rfl<|a8<|a_ rfl<|rE 3<|tQ rfl<|FQ ?_;have f: ¬(a<1∨a>31):=by have z:=g;simp[ae]at z;grind
 have e:gX agI i a=none:=(dZ f).trans (Du (eX _ _) v);rw[e];exact fT rfl rfl
theorem GO{agI:List ai}{a:Int}:∀{n k:Nat},h8 agI a n=some k->k<n
 |0,k,h=>by cases h
 |n+1,k,h=>by
  simp[h8]at h;split at h
  ·injection h with h;omega
  ·have:=GO h;omega
def EY{agI}{i k}{a}(h:gX agI i a=some k):k<i∧k<agI.length:=by
 unfold gX at h;split at h
 ·cases h
 have:=GO h;omega
def MW{o}(h:DM o<0):o=none:=by cases o with|none=>rfl|some k=>exact absurd h (oT:¬((k:Int)<0))
def Im{o}(h: ¬DM o<0):∃k,o=some k:=by cases o with|none=>exact absurd dT h|some k=>exact⟨k,rfl⟩
def Kl(agI)(r)(A)(i)(a)(E:agI.length<=1000)(G:∀x∈agI,x.ok)(I:∀k,r k<=4294967295)(H:i<=1000):bI C0 80 [.X 17 (agI.map aj) A,.agg (Ks r),vN i,vI a] (.E [vU ((lK agI r i a).getD 0),vB (lK agI r i a).isSome]):=by
 refine bk func80 rfl<|cN _ (λg=>?_) (λg=>?_)
 ·have c:=mT g;have b:lK agI r i a=some 0:=by unfold lK;rw[aa c]
  exact fT rfl (by rw[b];rfl)
 have c:=nA g;refine zV (vB (decide (a<0)))<|ay rfl id rfl<|zN rfl (by simp)<|zB rfl (λo=>?_) (λo=>?_)
 ·have f:(a<0∨a>31):=by have z:=o;simp[ae]at z;grind
  have b:lK agI r i a=none:=by unfold lK;rw[dZ c,aa f]
  exact fT rfl (by rw[b];rfl)
 have f: ¬(a<0∨a>31):=by have z:=o;simp[ae]at z;grind
 refine zC (QN agI A (i) (a) E G ad)<|cN _ (λp=>?_) (λp=>?_)
 ·have D:=bj p;have e:=MW D;refine nW (.ptr 0 (0+a.toNat*1)) rfl rfl ad<|zW _ (P0 r a.toNat ad) ?_;have b:lK agI r i a=some (r a.toNat):=by unfold lK;rw[dZ c,dZ f,e]
  exact fT rfl (by rw[b];rfl)
 let⟨j,e⟩:=Im (aF p);let⟨x,v⟩:∃x,agI[j]?=some x:=⟨_,aA (EY e).2⟩;refine FO (aj x) rfl rfl rfl (by rw[e];exact⟨aG _,iH v⟩) rfl<|qR 0 rfl<|zV (vB (x.is==3))<|gS rfl id<|ay rfl id rfl<|zN rfl (λh=>h)<|zB rfl (λq=>?_) (λq=>?_)
 ·have u:(x.is=3∧x.halt=0):=by have z:=q;simp[qA]at z;grind
  have b:lK agI r i a=some x.value:=by unfold lK;rw[dZ c,dZ f,e];simp only[v];exact aa u
  exact fT rfl (by rw[b];rfl)
 have u: ¬(x.is=3∧x.halt=0):=by have z:=q;simp[qA]at z;grind
 have b:lK agI r i a=none:=by unfold lK;rw[dZ c,dZ f,e];simp only[v];exact dZ u
 exact fT rfl (by rw[b];rfl)
def Ck{agI}{r}(c:∀x∈agI,x.ok)(f:∀k,r k<=4294967295)(i)(a):(lK agI r i a).getD 0<=4294967295:=by
 unfold lK;split
 ·exact aE _
 split
 ·exact aE _
 split
 ·exact f _
 split
 ·rename_i e b;split
  ·exact(c e (aB b)).value
  exact aE _
 exact aE _
def VK(agI)(r)(a)(i)(f:agI.length<=1000)(c:∀x∈agI,x.ok)(g:∀k,r k<=4294967295)(q:i<=1000):bI C0 133 [.X 17 (agI.map aj) a,.agg (Ks r),vN i] (.E [vU (mI agI r i).1,vU (mI agI r i).2.1,vB (mI agI r i).2.2]):=by
 refine bk func133 rfl<|zW _ (am (bz _ _))<|ay rfl id (cD aj agI)<|ay rfl cn (am (i9 _ _))<|zN rfl (by simp)<|zB rfl (λb=>?_) (λb=>?_)
 ·have j:(i>=agI.length):=by have z:=b;simp[ae]at z;grind
  have o:agI[i]?=none:=bE ad;exact fT rfl (by rw[show mI agI r i=(0,0,false)from by unfold mI;rw[o]];rfl)
 have j: ¬(i>=agI.length):=by have z:=b;simp[ae]at z;grind
 let⟨x,e⟩:=d7 agI i;have p:=c x (aB e);exact zX _ (.dp 17 0 (aj x)) rfl (iH e)<|zC (Fs x.i)<|zC (Kl agI r a (i) (x.i.m) f c g ad)<|zC (Kl agI r a (i) (x.i.x) f c g ad)<|zN rfl (λh=>h)<|fT rfl (by rw[show mI agI r i=((lK agI r i x.i.m).getD 0,(lK agI r i x.i.x).getD 0,(lK agI r i x.i.m).isSome&&(lK agI r i x.i.x).isSome)from by unfold mI;rw[e]];simp[<-qA];rfl)
def A1(e)(k:e.ok):bI C0 188 [.agg (aj e)] (vB (LT e)):=by
 refine bk func188 rfl<|cN _ (λa=>?_) (λa=>?_)
 ·replace a:=sP a;exact fT rfl (dR (by unfold LT;grind))
 refine zC (pS e.i)<|b7 (am (a6 _ _)) (λb=>?_) (λb=>?_)
 ·replace a:=sP a;replace b:=sP b;exact fT rfl (dR (by unfold LT;grind))
 refine b7 (am (a6 _ _)) (λc=>?_) (λc=>?_)
 ·refine zB rfl (λ_=>?_) (λi=>Bool.noConfusion (c.symm.trans i));replace a:=sP a;replace b:=sP b;replace c:=sP c;exact fT rfl (dR (by unfold LT;grind))
 refine b7 (am (a6 _ _)) (λf=>?_) (λf=>?_)
 ·refine zB rfl (λ_=>?_) (λj=>Bool.noConfusion (f.symm.trans j));replace a:=sP a;replace b:=sP b;replace c:=sP c;replace f:=sP f;exact fT rfl (dR (by unfold LT;grind))
 refine b7 (am (a6 _ _)) (λg=>?_) (λg=>?_)
 all_goals (replace a:=sP a;replace b:=sP b;replace c:=sP c;replace f:=sP f;replace g:=sP g;exact fT rfl (dR (by unfold LT;grind)))
def Xd{α:Type}{p:α->Bool}{l:List α}{k:Nat}{x:α}(a:l[k]?=some x)(hp:p x=true)(h:∀y∈l.take k,p y=false):l.findIdx p=k:=by
 have:=QP a hp h;rw[List.findIdx?_eq_some_iff_findIdx_eq]at this;exact this.2
def Xe{α}{p}{l:List α}{k}(a:l.length<=k)(h:∀y∈l.take k,p y=false):l.findIdx p=l.length:=by
 rw[aN a]at h;exact List.findIdx_eq_length.2 h
def QJ(agI)(c)(q:agI.length<=1000)(o:∀x∈agI,x.ok):bI C0 173 [.X 17 (agI.map aj) c] (vN (Cq agI)):=by
 refine e_ func173 rfl<|zW _ (cD aj agI)<|eh (λk=>⟨be [(0,.X 17 _ c),(5,.X 17 _ c),(6,vN agI.length),(7,vN k)],ap [],4⟩) (λk=>k<=agI.length∧∀y∈agI.take k,(!LT y)=false) (λk=>agI.length-k) 0 (λs=>s) (av (λs=>s) wT trivial rfl) (⟨aE _,QQ⟩) ?_;intro k a;have p:k<=agI.length:=a.1;refine b7 (am (bz _ _)) (λe=>?_) (λe=>?_)
 ·have g:=bj e;let⟨x,b⟩:=d7 agI k;have i:=o x (aB b);refine zX _ (.dp 17 0 (aj x)) rfl (iH b)<|zC (A1 x i)<|zB rfl (λf=>?_) (λf=>?_)
  ·exact fT rfl (oe (by unfold Cq;rw[Xd b (sU f) a.2]))
  skip
  have j:k+1<=1000001:=aD oT (aC 1);refine zW _ (ar (bH j rfl)) ?_;refine⟨k+1,λs=>s,av _ wT trivial rfl,⟨oT,QO b (sU f) a.2⟩,c7⟩
 have g:=aF e;exact zW _ (cD aj agI)<|fT rfl (oe (by unfold Cq;rw[Xe ad a.2]))
def MX(agI)(a)(i)(b:agI.length<=1000)(c:∀x∈agI,x.ok)(f:i<=1000):bI C0 159 [.X 17 (agI.map aj) a,vN i] (vB (vC agI i)):=by
 exact bk func159 rfl<|zW _ (am (i9 _ _))<|ay rfl id (cD aj agI)<|ay rfl cn (am (jh _ _))<|zN rfl (λh=>h)<|jQ rfl rfl rfl rfl (λh=>h) rfl rfl rfl (.inl rfl) rfl (λe=>QJ agI a b c)<|ay rfl cn (am (jh _ _))<|zN rfl (λh=>h)<|fT rfl (dR (by unfold vC;rw[bB];simp[qA]))
theorem mH(agI:List ai):∀k,(eS agI k).length=k
 |0=>rfl
 |k+1=>by simp[eS,aU,mH agI k,bN,cX]
def Ub{agI}{k j}{x}{o}(a:o=some j)(b:(eS agI k)[j]?=some x):sZ (eS agI k) o=x:=by
 subst a;show(eS agI k).getD j _=x;rw[aR,b];rfl
def QK(agI)(c)(i k)(a)(o:agI.length<=1000)(p:∀x∈agI,x.ok)(u:i<=k)(v:k<=1000):pM C0.P C0.G 187 [vN i,vI a,.ptr 0 0,.ptr 1 0] (ap [(0,.box [.X 17 (agI.map aj) c]),(1,.box [.S 2 0 k false]),(2,.arr ((eS agI k).map b1) 1)]) 3 (λx h'=>x=vI (sZ (eS agI k) (gX agI i a))∧h'=ap [(0,.box [.X 17 (agI.map aj) c]),(1,.box [.S 2 0 k false]),(2,.arr ((eS agI k).map b1) 1)]):=by
 refine HCall.intro gq.at func187 rfl rfl (by kernel_rfl) rfl rfl<|qS 0 rfl<|zC (QN agI c (i) (a) o p ad)<|cN _ (λe=>?_) (λe=>?_)
 ·have f:=bj e;let⟨j,b⟩:=Im (oT:¬DM (gX agI i a)<0);have q:=EY b;have r:=mH agI k;refine nW _ rfl ((show bw.Z9 _ (AV.u 2 (0+(DM (gX agI i a)).toNat) 0)=bw.Z9 _ (AV.u 2 (0+j) 0)from by rw[b];rfl)) (by(try rw[b]);exact⟨aG _,by show(j:Int)<(k:Int);omega⟩) ?_;let⟨x,g⟩:=d7 (eS agI k) j;refine zX _ (vI x) rfl (Jv (iH g))<|BH rfl a9 rfl (ah (λz=>z) (by rw[Ub b g];rfl) rfl wH rfl)
 have f:=aF e;refine BH rfl a9 rfl (ah (λz=>z) (by rw[MW (oT:DM (gX agI i a)<0)];rfl) rfl wH rfl)
def ze(a b:Int):(if b>a then b else a)=max a b:=oT
def EZ{p}{H}{s rs}{agI}{k}{x}(a:(eS agI k).length=k)(b:x=DB agI (eS agI k) k):
  bw.fx p (.S s 0 ((List.take k (List.drop 0 ((eS agI k).map b1))).length+[[AV.v (.int .i64 x)]].length) false) (ao H s (some (.arr (List.take k (List.drop 0 ((eS agI k).map b1))++[[AV.v (.int .i64 x)]]) rs)))=.fx p (.S s 0 (k+1) false) (ao H s (some (.arr ((eS agI (k+1)).map b1) rs))):=by
 rw[bS,aN (by rw[aH,a];exact aC _),aH,a];simp only[eS,dH,jC,List.map_nil, <-b];rfl
def zf(agI)(c)(r:agI.length<=1000)(i:∀x∈agI,x.ok):bI C0 172 [.X 17 (agI.map aj) c] (.X 1 ((kr agI).map b1) false):=by
 refine e_ func172 rfl<|zC (QJ agI c r i)<|rW _ rfl (cD aj agI)<|zF (rfl) (⟨dT,FG.2 ad,by show((agI.length:Nat):Int)<=1000000;omega⟩)<|zV (.F 187 [] [.ptr 0 0,.ptr 8 0])<|zW _ (cD aj agI)<|eh (λk=>⟨be [(2,.X 0 ([]) true),(3,vN (Cq agI)),(4,.ptr 8 0),(5,.F 187 [] [.ptr 0 0,.ptr 8 0]),(17,.X 17 (agI.map aj) c),(18,vN agI.length),(19,vN k)],ap [(0,.box [.X 17 (agI.map aj) c]),(7,.arr ((eS agI k).map b1) 1),(8,.box [.S 7 0 k false])],15⟩) (λk=>k<=agI.length) (λk=>agI.length-k) 0 (λs=>s) (av (λs=>s) wT wH rfl) (aE _) ?_;intro k G;have H:k<=agI.length:=G;have f:k<=1000:=oT;refine b7 (am (bz _ _)) (λj=>?_) (λj=>?_)
 ·have u:=bj j;let⟨x,g⟩:=d7 agI k;have I:=i x (aB g);refine zX (aj x) (.dp 17 0 (aj x)) rfl (iH g)<|a1 rfl (pS x.i)<|b7 (am (db _ _)) (λo=>?_) (λo=>?_)
  ·have b:=wM o;refine zC (Fs x.i)<|zH rfl ((QK agI c k k x.i.m r i (aC k) ad).Y' (λz=>match z with|0=>0|1=>8|2=>7|z=>z) _ _ rfl ⟨d8,d8,d8,trivial⟩ rfl rfl rfl) ?_;rintro _ _ ⟨rfl,rfl⟩;apply fU _ rfl rfl rfl ((QK agI c k k x.i.x r i (aC k) ad).Y' (λz=>match z with|0=>0|1=>8|2=>7|z=>z) _ _ rfl ⟨⟨rfl,rfl,rfl,rfl⟩,⟨rfl,rfl,rfl,rfl⟩,⟨rfl,rfl,rfl,rfl⟩,trivial⟩ rfl rfl rfl);rintro _ _ ⟨rfl,rfl⟩;refine zW (vI (if(sZ (eS agI k) (gX agI k x.i.x))>(sZ (eS agI k) (gX agI k x.i.m))then(sZ (eS agI k) (gX agI k x.i.x))else(sZ (eS agI k) (gX agI k x.i.m)))) rfl<|rV (.X 1 ([[vI (if(sZ (eS agI k) (gX agI k x.i.x))>(sZ (eS agI k) (gX agI k x.i.m))then(sZ (eS agI k) (gX agI k x.i.x))else(sZ (eS agI k) (gX agI k x.i.m)))]]) true) rfl ?_;have a:(if(sZ (eS agI k) (gX agI k x.i.x))>(sZ (eS agI k) (gX agI k x.i.m))then(sZ (eS agI k) (gX agI k x.i.x))else(sZ (eS agI k) (gX agI k x.i.m)))=DB agI (eS agI k) k:=by unfold DB;rw[g];exact(ze _ _).trans (aa b).symm
   refine zF (EZ (mH agI k) a) (⟨by simp[aH,bN,cX,aM,bD,mH,jH];omega,by simp only[aH,mH];omega,trivial⟩) ?_;have A:k+1<=1001:=aD f (aC 1);refine zW _ (ar (bH A rfl)) ?_;refine⟨k+1,λz=>match z with|7=>48|z=>z,av _ wT wH rfl,oT,c7⟩
  have b:=wN o;refine b7 (am (fw _ _)) (λp=>?_) (λp=>?_)
  ·have e:=bj p;apply rV (.X 1 ([[vN k]]) true) rfl;have a:(k:Int)=DB agI (eS agI k) k:=by unfold DB;rw[g];dsimp only;rw[dZ (show ¬ak x.i.op≠3 from λq=>q b),aa e]
   refine zF (EZ (mH agI k) a) (⟨by simp[aH,bN,cX,aM,bD,mH,jH];omega,by simp only[aH,mH];omega,trivial⟩) ?_;have D:k+1<=1001:=aD f (aC 1);refine zW _ (ar (bH D rfl)) ?_;refine⟨k+1,λz=>match z with|7=>35|z=>z,av _ wT wH rfl,oT,c7⟩
  have e:=aF p;apply rV (.X 1 ([[vI (-1)]]) true) rfl;have a:(-1)=DB agI (eS agI k) k:=by unfold DB;rw[g];dsimp only;rw[dZ (show ¬ak x.i.op≠3 from λq=>q b),dZ e]
  refine zF (EZ (mH agI k) a) (⟨by simp[aH,bN,cX,aM,bD,mH,jH];omega,by simp only[aH,mH];omega,trivial⟩) ?_;have E:k+1<=1001:=aD f (aC 1);refine zW _ (ar (bH E rfl)) ?_;refine⟨k+1,λz=>match z with|7=>33|z=>z,av _ wT wH rfl,oT,c7⟩
 have u:=aF j;have v:k=agI.length:=oT;subst v;apply dK rfl (by show 0+agI.length<=((eS agI agI.length).map b1).length;rw[aH,mH];omega) rfl;show AV.X 1 (List.take agI.length (List.drop 0 ((eS agI agI.length).map b1))) false=_;rw[jW b1 (eS agI agI.length) (by rw[mH];exact aC _)];rfl
def zg{agI}{i}{a}(c:decide (DM (gX agI i a)>=0)=true):0<=DM (gX agI i a)∧((kr agI).map b1)[(DM (gX agI i a)).toNat]?=some (b1 ((kr agI).getD (DM (gX agI i a)).toNat (-1))):=by
 have h:=bj c;let⟨j,b⟩:=Im (oT:¬DM (gX agI i a)<0);refine⟨h,?_⟩;rw[b];have e:=(EY b).2;have f:(kr agI).length=agI.length:=mH agI agI.length;show((kr agI).map b1)[j]?=some (b1 ((kr agI).getD j (-1)));rw[aX,aR,aA ad];rfl
def Uc(agI)(i)(a):cE (decide (DM (gX agI i a)>=0)) (decide ((kr agI).getD (DM (gX agI i a)).toNat (-1)>=0)) false=IC agI i a:=by
 unfold IC
 cases h:gX agI i a with
 |none=>rfl
 |some j=>
  rw[show decide (DM (some j)>=0)=true from jP (aG _)];rfl
def Ud(agI)(b)(i)(a)(e:agI.length<=1000)(f:∀x∈agI,x.ok)(g:i<=1000):bI C0 157 [.X 17 (agI.map aj) b,vN i,vI a] (vB (IC agI i a)):=by
 exact bk func157 rfl<|zC (QN agI b (i) (a) e f ad)<|zV (vB (decide ((DM (gX agI (i) (a)))>=0)))<|zQ rfl (λh=>h) rfl (.inl rfl) (λc=>zf agI b e f)<|DK _ rfl rfl rfl rfl cn rfl rfl (λc=>zg c) rfl<|gS rfl id<|ay rfl id rfl<|zN rfl (λh=>h)<|fT rfl (dR (Uc agI i a))
def zh(e)(k:e.ok):bI C0 155 [.agg (aj e)] (vB (DC e)):=by
 refine bk func155 rfl<|zC (pS e.i)<|b7 (am (a6 _ _)) (λa=>?_) (λa=>?_)
 ·refine zB rfl (λ_=>?_) (λg=>Bool.noConfusion (a.symm.trans g));replace a:=sP a;exact fT rfl (dR (by unfold DC;rw[bB];simp[aY];grind))
 refine b7 (am (a6 _ _)) (λb=>?_) (λb=>?_)
 ·refine zB rfl (λ_=>?_) (λi=>Bool.noConfusion (b.symm.trans i));replace a:=sP a;replace b:=sP b;exact fT rfl (dR (by unfold DC;rw[bB];simp[aY];grind))
 refine b7 (am (a6 _ _)) (λc=>?_) (λc=>?_)
 ·refine zB rfl (λ_=>?_) (λj=>Bool.noConfusion (c.symm.trans j));replace a:=sP a;replace b:=sP b;replace c:=sP c;exact fT rfl (dR (by unfold DC;rw[bB];simp[aY];grind))
 refine b7 (am (a6 _ _)) (λf=>?_) (λf=>?_)
 all_goals (replace a:=sP a;replace b:=sP b;replace c:=sP c;replace f:=sP f;exact fT rfl (dR (by unfold DC;rw[bB];simp[aY];grind)))
def zi(e)(i:e.ok):bI C0 158 [.agg (aj e)] (.X 1 ((qD e).map b1) true):=by
 refine bk func158 rfl<|zC (Fs e.i)<|zC (pS e.i)<|zW (vB ((ak e.i.op)==3)) (am (a6 _ _))<|zB rfl (λa=>?_) (λa=>?_)
 ·have c:=mT a;refine zB rfl (λ_=>?_) (λg=>Bool.noConfusion (a.symm.trans g));apply zV _;exact fT rfl (by rw[show qD e=[e.i.m]from by unfold qD;exact aa ad];rfl)
 have c:=nA a;refine zW (vB ((ak e.i.op)==4)) (am (a6 _ _))<|zB rfl (λb=>?_) (λb=>?_)
 ·have f:=mT b;apply zV _;exact fT rfl (by rw[show qD e=[e.i.m]from by unfold qD;exact aa ad];rfl)
 have f:=nA b;apply zV _;exact fT rfl (by rw[show qD e=[e.i.m,e.i.x]from by unfold qD;exact dZ ad];rfl)
def Ue(e):(qD e).length<=2:=by unfold qD;split<;>simp
def Xf(agI)(b)(i)(a)(e:agI.length<=1000)(f:∀x∈agI,x.ok)(c:i<=1000):bI C0 156 [vI a,.dp 1 0 [.X 17 (agI.map aj) b],.dp 1 0 [vN i]] (vB (!IC agI i a)):=by
 apply bk func156 rfl;exact zC (Ud agI b i a e f c)<|fT rfl rfl
def CD(mode)(agI)(g)(i)(K:agI.length<=1000)(D:∀x∈agI,x.ok)(I:i<=1000):bI C0 132 [vI mode,.X 17 (agI.map aj) g,vN i] (vB (Pr mode agI i)):=by
 refine bk func132 rfl<|zW _ (am (bz _ _))<|ay rfl id (cD aj agI)<|ay rfl cn (am (i9 _ _))<|zN rfl (by simp)<|zB rfl (λo=>?_) (λo=>?_)
 ·have O:(i>=agI.length):=by have z:=o;simp[ae]at z;grind
  have R:agI[i]?=none:=bE ad;exact fT rfl (dR (by unfold Pr;rw[R]))
 have O: ¬(i>=agI.length):=by have z:=o;simp[ae]at z;grind
 let⟨x,b⟩:=d7 agI i;have j:=D x (aB b);refine zX (aj x) (.dp 17 0 (aj x)) rfl (iH b)<|zC (zh x j)<|zB rfl (λe=>?_) (λe=>?_)
 ·exact fT rfl (dR (by unfold Pr;rw[b];dsimp only;rw[aa (sU e)]))
 refine zV (.F 156 [] [.ptr 0 0,.ptr 1 0])<|cN (mode==0) (λp=>?_) (λp=>?_)
 ·have a:=mT p;exact fT rfl (dR (by unfold Pr;rw[b];dsimp only;rw[dZ (sU e),aa a]))
 have a:=nA p;refine cN (mode==1) (λq=>?_) (λq=>?_)
 ·have c:=mT q;refine zX (aj x) (.dp 17 0 (aj x)) rfl (iH b)<|a1 rfl (zi x j)<|zW _ (cD b1 (qD x))<|eh (λk=>⟨be [(4,.ptr 0 0),(5,.ptr 1 0),(17,vB (cE (decide (i<0)) true (decide (i>=agI.length)))),(23,vB (!(DC x))),(7,.F 156 [] [.ptr 0 0,.ptr 1 0]),(25,vI mode),(26,vB (mode==0)),(28,vB (mode==1)),(34,.X 1 ((qD x).map b1) true),(35,vN ((qD x).length)),(36,vN k)],ap [(0,.box [.X 17 (agI.map aj) g]),(1,.box [vN i])],31⟩) (λk=>k<=(qD x).length∧((qD x).take k).all (λL=> !IC agI i L)=true) (λk=>(qD x).length-k) 0 (λs=>s) (av (λs=>s) wT wH rfl) (⟨aE _,rfl⟩) ?_;intro k A;have T:k<=(qD x).length:=A.1;refine b7 (am (bz _ _)) (λr=>?_) (λr=>?_)
  ·have G:=bj r;let⟨E,f⟩:=d7 (qD x) k;refine zX (b1 E) (.dp 1 0 (b1 E)) rfl (iH f)<|zL rfl (.inr ⟨rfl,trivial,trivial,trivial,trivial⟩) (Xf agI g i E K D I)<|zB rfl (λu=>?_) (λu=>?_)
   ·have z:=u;exact fT rfl (dR (by unfold Pr;rw[b];dsimp only;rw[dZ (sU e),dZ a,aa c,Ir f (sU z)]))
   skip
   have M:k+1<=1000001:=aD (oH (Ue x)) (aC 1);refine zW _ (ar (bH M rfl)) ?_;refine⟨k+1,λs=>s,av _ wT wH rfl,⟨oT,DV f (sU u) A.2⟩,by show(qD x).length-(k+1)<(qD x).length-k;omega⟩
  have G:=aF r;exact fT rfl (dR (by unfold Pr;rw[b];dsimp only;rw[dZ (sU e),dZ a,aa c,DW ad A.2]))
 have c:=nA q;refine cN (mode==2) (λv=>?_) (λv=>?_)
 ·have H:=mT v;exact zC (MX agI g i K D I)<|fT rfl (dR (by unfold Pr;rw[b];dsimp only;rw[dZ (sU e),dZ a,dZ c,aa H]))
 exact fT rfl (dR (by unfold Pr;rw[b];dsimp only;rw[dZ (sU e),dZ a,dZ c,dZ (nA v)]))
abbrev RP(n:Nat):List AV:=[.v (.int .i64 (n:Int))]
theorem NM{α:Type}(f:α->Value):∀(l:List α),(l.flatMap λa=>[f a])=l.map f
 |[]=>rfl
 |a::l=>by rw[gW,NM f l];rfl
def KU{α:Type}{f:α->Value}{l:List α}{S:Nat->Prop}{w:World}{v:Value}{i:Bool}(e:TypeId)(G:∀b,S b->b<w.heap.size)(h:au S w cw (.X 1 (l.map λa=>[AV.v (f a)]) i) v):Sl w.heap.size e 1 w v l.length (l.flatMap λa=>[f a]):=by
 cases h with
 |X _ _ _ A c b o u D H O R hA L T K=>
  rw[aH]at D;refine⟨A,c,by rw[aH],D,H,by rw[NM,aH,iD],λI=>?_⟩;let⟨q,r⟩:=hA (by rw[aH];exact I);refine⟨b,o,q,.inl (G b r),λj x E=>?_⟩;rw[NM,aX]at E;obtain⟨y,M,rfl⟩:=Gi.1 E;have g:(l.map λa=>[AV.v (f a)])[j]?=some [AV.v (f y)]:=by rw[aX,M];rfl
  have k:=L j _ 0 _ g rfl;have p:=K j _ 0 _ g rfl;rw[(oT:o+j*1+0=o+j)]at k;rw[k];generalize u j 0=z at p;cases p;rfl
def Pg{α:Type}{f:α->Value}(H:∀a,(f a).oneCell'=true){l:List α}{w:World}{v:Value}{base:Nat}{e:TypeId}(h:w.ownsRow base e 1 v l.length (l.flatMap λa=>[f a]))(S:Nat->Prop)(I:∀b,base<=b->b<w.heap.size->S b):au S w cw (.X 1 (l.map λa=>[AV.v (f a)]) false) v:=by
 obtain⟨T,⟨rfl,G⟩|⟨g,A,q,rfl,K,D,M,L,R,E⟩⟩:=h
 ·have:l=[]:=g3 G;subst this;exact .X 1 [] false none 0 0 0 (λ_ _=>.bool false) (aC _) (aE _) nofun nofun (λh=>absurd h (iI 0)) (λi row j a h=>by simp at h) (λ_ _=>rfl) λi row j a h=>by simp at h
 ·rw[NM,iD]at E;have o:∀(i:Nat) row (j:Nat) a,(l.map λa=>[AV.v (f a)])[i]?=some row->row[j]?=some a->∃x,l[i]?=some x∧j=0∧a=.v (f x)∧q[i]?=some (f x):=by
   intro i row j a c k;rw[aX]at c;obtain⟨x,z,rfl⟩:=Gi.1 c
   cases j with
   |zero=>
    injection k with k;refine⟨x,z,rfl,k.symm,?_⟩;have:(l.map f)[i]?=some (f x):=by rw[aX,z];rfl
    rw[<-E,cU]at this;split at this
    ·rwa[<-bQ]
    ·cases this
   |succ j=>simp at k
  have r:(l.map λa=>[AV.v (f a)]).length=l.length:=aH ..;rw[<-r];refine .X 1 _ false (some ⟨g,0,none⟩) A g 0 (λi j=>if i<l.length then q.getD i undef else .bool false) (by rw[r];exact M) L nofun (λrow O=>?_) (λ_=>⟨rfl,I g K (fJ D)⟩) (λi row j a c k=>?_) (λi j=>?_) λi row j a c k=>?_
  ·obtain⟨x,_,rfl⟩:=pG.1 O;rfl
  ·obtain⟨x,u,rfl,rfl,p⟩:=o i row j a c k;rw[aa (Em.1 u).1,gP D];rw[(oT:0+i*1+0=i),p,aK,p];rfl
  ·show(if i<l.length then q.getD i undef else .bool false).oneCell'=true;by_cases c:i<l.length
   ·rw[aa c];let⟨x,u,_,_,p⟩:=o i [AV.v (f l[i])] 0 (.v (f l[i])) (by rw[aX,aA c];rfl) rfl;rw[aK,p];exact H x
   ·rw[dZ c];rfl
  ·obtain⟨x,u,rfl,rfl,p⟩:=o i row j a c k;rw[aa (Em.1 u).1,aK,p];exact .v _
def tf(agN)(busy)(kinds)(can)(i c2)(E:kinds.length<=1000)(G:can.length<=1000):bI C0 89 [vI agN,vB busy,.X 1 (kinds.map b1) i,.X 1 (can.map ib) c2] (.X 1 ((h9 agN busy kinds can).map RP) false):=by
 refine⟨⟨_,func89,rfl,rfl⟩,λS w D c H a=>?_⟩
 match D,a with
 |[z,A,f,g],a=>
  have j:=a.2 1 _ A rfl rfl;have k:=a.2 2 _ f rfl rfl;have o:=a.2 3 _ g rfl rfl;cases (a.2 0 _ z rfl rfl);cases j
  apply(UO agN busy kinds can w.heap.size kinds.length can.length f g w (KU _ c k) (KU _ c o) rfl rfl ad ad).mono;rintro e w' ⟨v,u,x,r⟩
  exact⟨v,u,r,Pg (λ_=>rfl) x _ λb p q=>.inr ⟨p,q⟩⟩
 |[],a=>exact absurd a.1 (by simp)
 |[_],a=>exact absurd a.1 (by simp)
 |[_,_],a=>exact absurd a.1 (by simp)
 |[_,_,_],a=>exact absurd a.1 (by simp)
 |_::_::_::_::_::_,a=>exact absurd a.1 (by simp)
def Mi(q:List a5)(agY:Nat)(kinds:List Int):Bool:=q.any λx=>kinds.any λk=>decide (x.R=agY)&&decide (x.kind=k)
def UR(q:List a5):yH q<=q.length:=List.length_filter_le _ _
def Hb{q:List a5}{k}{x}(h:q[k]?=some x):yH (q.take (k+1))=yH (q.take k)+(if x.kind=4 then 0 else 1):=by
 unfold yH;rw[bW,h];by_cases e:x.kind=4<;>simp[mL,e]
def XR(q)(f)(u:q.length<=1000000)(j:∀x∈q,x.R<=4294967295):bI C0 141 [.X 4 (q.map ca) f] (vN (yH q)):=by
 refine bk func141 rfl<|zW _ (cD ca q)<|eh (λk=>⟨be [(6,.X 4 _ f),(7,vN q.length),(3,vN (yH (q.take k))),(8,vN k)],ap [],5⟩) (λk=>k<=q.length) (λk=>q.length-k) 0 (λs=>s) (av (λs=>s) wT trivial rfl) (aE _) ?_;intro k r;have c:k<=1000000:=oT;have g:yH (q.take k)<=1000000:=by have:=UR (q.take k);rw[aM]at this;omega
 refine zW _ (am (bz _ _))<|zB rfl (λa=>?_) (λa=>?_)
 ·skip
  let⟨x,b⟩:∃x,q[k]?=some x:=⟨_,aA (bj a)⟩;have p:=j x (aB b);refine zX _ (.dp 4 0 (ca x)) rfl (iH b)<|cN _ (λe=>?_) (λe=>?_)
  ·skip
   have i:(yH _)+1<=1000001:=aD g (aC 1);refine zW _ (ar (bH i rfl)) ?_;refine zW _ (ar (bH (aD c (aC 1)) rfl)) ?_;refine⟨k+1,λs=>s,av _ ⟨a9,a9,⟨(az (λz:Nat=>AV.v (.int .i64 (z:Int))) (by rw[Hb b];have q:=e;simp at q;simp[q])),rfl⟩,a9,trivial⟩ trivial rfl,bj a,oH (bj a)⟩
  skip
  refine zW _ (ar (bH (aD c (aC 1)) rfl)) ?_;refine⟨k+1,λs=>s,av _ ⟨a9,a9,⟨(az (λz:Nat=>AV.v (.int .i64 (z:Int))) (by rw[Hb b];have q:=e;simp at q;simp[q])),rfl⟩,a9,trivial⟩ trivial rfl,bj a,oH (bj a)⟩
 have o:=aF a;exact fT rfl (oe (by rw[aN (oT:q.length<=k)]))
def Je{α}{f}{l:List α}{k}{x}(h:l[k]?=some x)(b:f x=false)(a:(l.take k).any f=false):(l.take (k+1)).any f=false:=by
 rw[bW,h];simp[List.any_append,b]at a⊢;exact a
def Jf{α:Type}{f:α->Bool}{l:List α}{k:Nat}{x:α}(h:l[k]?=some x)(a:f x=true):l.any f=true:=Mv.2 ⟨x,aB h,a⟩
def Mj{α}{f}{l:List α}{k}(h:l.length<=k)(a:(l.take k).any f=false):l.any f=false:=by rwa [aN h]at a
def RQ(q)(agY)(kinds)(g a)(H:q.length<=1000000)(G:∀x∈q,x.R<=4294967295)(v:agY<=4294967295)(E:kinds.length<=1000000):bI C0 94 [.X 4 (q.map ca) g,vU agY,.X 1 (kinds.map b1) a] (.v (.bool (Mi q agY kinds))):=by
 refine bk func94 rfl<|zW _ (cD ca q)<|eh (λk=>⟨be [(1,vU agY),(2,.X 1 (kinds.map b1) a),(11,.X 4 (q.map ca) g),(12,vN q.length),(13,vN k)],ap [],4⟩) (λk=>k<=q.length∧(q.take k).any (λx:a5=>kinds.any λk=>decide (x.R=agY)&&decide (x.kind=k))=false) (λk=>q.length-k) 0 (λs=>s) (av (λs=>s) wT trivial rfl) (⟨aE _,rfl⟩) ?_;intro k p;refine b7 (am (bz _ _)) (λb=>?_) (λb=>?_)
 ·skip
  let⟨x,r⟩:∃x,q[k]?=some x:=⟨_,aA (bj b)⟩;refine zX (ca x) (.dp 4 0 (ca x)) rfl (iH r)<|zW _ (cD b1 kinds)<|eh (λj=>⟨be [(1,vU agY),(2,.X 1 (kinds.map b1) a),(8,.ptr 7 0),(11,.X 4 (q.map ca) g),(12,vN q.length),(13,vN k),(17,.X 1 (kinds.map b1) a),(18,vN kinds.length),(19,vN j)],ap [(7,.box [vI x.kind,vU x.R,vI x.left,.v (.string x.data)])],12⟩) (λj=>j<=kinds.length∧(kinds.take j).any (λk:Int=>decide (x.R=agY)&&decide (x.kind=k))=false) (λj=>kinds.length-j) 0 (λs=>s) (av (λs=>s) wT wH rfl) (⟨aE _,rfl⟩) ?_;intro j o;have u:j<=1000000:=oH o.1;refine b7 (am (bz _ _)) (λc=>?_) (λc=>?_)
  ·skip
   let⟨f,e⟩:∃f,kinds[j]?=some f:=⟨_,aA (bj c)⟩;refine zX (b1 f) (.dp 1 0 (b1 f)) rfl (iH e)<|zW _ (am (a6 _ _))<|zG rfl id<|ay rfl cn rfl<|zN rfl (λh=>h)<|zB rfl (λi=>?_) (λi=>?_)
   ·exact fT rfl (az (λz=>AV.v (.bool z)) (Jf r (Jf e (by have z:=i;simpa [c2]using z))).symm)
   skip
   have A:j+1<=1000001:=aD u (aC 1);refine zW _ (ar (bH A rfl)) ?_;refine⟨j+1,λs=>s,av _ wT wH rfl,⟨bj c,Je e (by have z:=i;simpa [c2]using z) o.2⟩,oH (bj c)⟩
  have D:k+1<=1000001:=aD (oH p.1) (aC 1);refine zW _ (ar (bH D rfl)) ?_;refine⟨k+1,λs=>s,av _ wT trivial rfl,⟨bj b,Je r (Mj (oH (aF c)) o.2) p.2⟩,oH (bj b)⟩
 exact fT rfl (az (λz=>AV.v (.bool z)) (Mj (oH (aF b)) p.2).symm)
end Go.Proofs.YtdhclfgoomldfaaGreatDoor
