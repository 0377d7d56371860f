/- Lemmas. -/
import Derived.RangeFuncNested
import Derived.RangeFuncLeaves
import Derived.TacticsIn
import Derived.OrdersIn
import Derived.Scope
import Derived.Test.YtlpkggpdjobpmaaGreatDoorS1
import Derived.Test.YtlpkggpdjobpmaaGreatDoorS24
import Derived.Test.YtlpkggpdjobpmaaGreatDoorS30
import Derived.Test.YtlpkggpdjobpmaaGreatDoorS31
import Derived.Test.YtlpkggpdjobpmaaGreatDoorS32
set_option linter.all false
namespace Go.Proofs.YtlpkggpdjobpmaaGreatDoor
open Go.RowKit
def RK(h:AH):AV->AV
 | .ptr s c=>match h s with|some (.box cells)=>.dp cells.length c (rO h cells)|_=>.any
 |x=>vR h x
def KI(h:AH):List AV->List AV
 |[]=>[]
 |x::xs=>RK h x::KI h xs
def RL(h:AH):AV->Prop
 | .ptr s _=>match h s with|some (.box cells)=>eW (rO h cells)=true∧jV h cells|_=>True
 |x=>jU h x
def XN(h:AH):List AV->Prop
 |[]=>True
 |x::xs=>RL h x∧XN h xs
theorem KJ(h:AH):∀(l:List AV),(KI h l).length=l.length
 |[]=>rfl
 |_::l=>af2 (· +1) (KJ h l)
theorem KL(h:AH):∀(l:List AV) (i:Nat) (x:AV),(KI h l)[i]?=some x->∃y,l[i]?=some y∧x=RK h y
 |[],i,x,hx=>by simp[KI]at hx
 |y::l,0,x,hx=>by simp[KI]at hx;exact⟨y,rfl,hx.symm⟩
 |y::l,i+1,x,hx=>by simp[KI]at hx;exact KL h l i x hx
theorem KM(h:AH):∀(l:List AV),XN h l->∀(i:Nat) y,l[i]?=some y->RL h y
 |[],_,i,y,hy=>by simp at hy
 |x::l,hl,0,y,hy=>by simp at hy;subst hy;exact hl.1
 |x::l,hl,i+1,y,hy=>KM h l hl.2 i y (sU hy)
theorem Az(h:AH):∀(l:List AV),(rO h l).length=l.length
 |[]=>by simp[rO]
 |_::l=>by simp[rO,Az h l]
theorem KN(h:AH):∀(l:List AV) (i:Nat) (x:AV),(rO h l)[i]?=some x->∃y,l[i]?=some y∧x=vR h y
 |[],i,x,hx=>by simp[rO]at hx
 |y::l,0,x,hx=>by simp[rO]at hx;exact⟨y,rfl,hx.symm⟩
 |y::l,i+1,x,hx=>by simp[rO]at hx;exact KN h l i x hx
theorem Fw(h:AH):∀(l:List AV),jV h l->∀(i:Nat) y,l[i]?=some y->jU h y
 |[],_,i,y,hy=>by simp at hy
 |x::l,hl,0,y,hy=>by simp only[jV]at hl;simp at hy;subst hy;exact hl.1
 |x::l,hl,i+1,y,hy=>by simp only[jV]at hl;exact Fw h l hl.2 i y (sU hy)
section
variable {S:Nat->Prop}{w:World}{β:Bt}{h:AH}{B:Nat}
def RM(H:SimH B S w β h){a}{v}(hr:Rep S w β a v)(hl:RL h a):Rep (λb=>b<w.heap.size) w β (RK h a) v:=by
 have hS:∀b,(S b∨(B<=b∧b<w.heap.size))->b<w.heap.size:=λb hb=>hb.elim (H.lt b) (·.2);by_cases hp:∃s c,a=.ptr s c
 ·obtain⟨s,c,rfl⟩:=hp
  cases hr with
  |ptr _ _ l hlo=>
  simp only[RK];simp only[RL]at hl
  cases hs:h s with
  |none=>exact .any _
  | some blk=>
   cases blk with
   |arr rows rs=>exact .any _
   |row cells=>exact .any _
   | box cells=>
    simp only[hs]at hl⊢;obtain⟨l',ds,e',fr',k1,k2,k3,k4,k5,k6⟩:=H.own s _ hs;obtain rfl:l'=l:=by rw[hlo]at k1;exact(af5 k1).symm
    have hlt:∀(j:Nat) a,(rO h cells)[j]?=some a->ds[l'.base+j]?=some (ds.getD (l'.base+j) undef)∧(ds.getD (l'.base+j) undef).oneCell'=true∧Rep (λb=>b<w.heap.size) w noB a (ds.getD (l'.base+j) undef):=by
     intro j a hj;obtain⟨b,hb,rfl⟩:=KN h cells j a hj;obtain⟨u,q1,q2,q3⟩:=k6 j b hb;have hg:ds.getD (l'.base+j) undef=u:=by rw[aK,q1];rfl
     rw[hg];exact⟨q1,q2,mB ((BO H q3 (Fw h cells hl.2 j b hb)).mono hS (Evo.refl _ _) (ME.refl _)) (fW _ hl.1 j _ hj) _⟩
    refine .dp cells.length c _ l'.blk l'.base (λj=>if j<cells.length then ds.getD (l'.base+j) undef else .bool false) (Az h cells) (fJ k2) (λj a hj=>?_) (λj=>?_) λj a hj=>?_
    ·have hjl:j<cells.length:=by rw[<-Az h cells];exact(Em.1 hj).1
     rw[af1 hjl,gP k2];exact(hlt j a hj).1
    ·show(if j<cells.length then ds.getD (l'.base+j) undef else .bool false).oneCell'=true;by_cases hjl:j<cells.length
     ·rw[af1 hjl];exact(hlt j _ (aA (by rw[Az];exact hjl))).2.1
     ·rw[dZ hjl];rfl
    ·have hjl:j<cells.length:=by rw[<-Az h cells];exact(Em.1 hj).1
     rw[af1 hjl];exact(hlt j a hj).2.2
 ·have e1:RK h a=vR h a:=by cases a<;>first|rfl|exact absurd ⟨_,_,rfl⟩ hp
  have e2:RL h a=jU h a:=by cases a<;>first|rfl|exact absurd ⟨_,_,rfl⟩ hp
  rw[e1];rw[e2]at hl;exact(BO H hr hl).mono hS (Evo.refl _ _) (ME.refl _)
end
theorem pM.of_dcall{C}{f}{args}{h}{s}{r}(hD:bI C f (KI h args) r)(hcl:eW (KI h args)=true)(hlk:XN h args)(hfl:CQ r=true):pM C.P C.G f args h s (λx h'=>x=r∧h'=h):=by
 obtain⟨hm,hcall⟩:=hD;refine⟨hm,λB S w β vs H hdom hG hargs=>?_⟩;refine(hcall (λb=>b<w.heap.size) w vs (λ_ h=>h) (λg cells hg=>(hG g cells hg).mono H.lt (Evo.refl _ _) (ME.refl _)) ⟨by rw[KJ];exact hargs.1,λi y u p q=>?_⟩).mono ?_
 ·obtain⟨z,hz,rfl⟩:=KL h args i y p;exact mB (RM H (hargs.2 i z u hz q) (KM h args hlk i z hz)) (fW _ hcl i _ p) _
 rintro e w' ⟨v,he,hB,hr⟩;have hE:Evo S w w':=Evo.of_kept (λb hb=>hB.block b hb) H.lt;refine⟨v,S,β,r,h,⟨rfl,rfl⟩,he,MD hr hfl,⟨λs' blk hs'=>?_,H.inj,λb hb=>af3 (H.lt b hb) hB.size,aL H.big hB.size⟩,⟨λ_ h=>h,hE,hB.mono H.big,ME.refl _,λ_ _ hx=>.inl hx,λb hb=>.inl hb,λb hb _=>hB.block b hb⟩⟩;obtain⟨l,cs,e',fr,k1,k2,k3,k4,k5,k6⟩:=H.own s' blk hs';exact⟨l,cs,e',fr,k1,(hB.block _ (fJ k2)).trans k2,k3,k4,k5,k6.mono (λ_ h=>h) hE (ME.refl _)⟩
def FrL(ρ:Nat->Nat)(K:AH)(s s2:Nat):List (Nat×Blk)->Prop
 |[]=>True
 |(i,b)::l=>(Nat.blt (ρ i) s2=true∧Nat.blt i s=true∧qM s b=true∧K (ρ i)=some (DI ρ b))∧FrL ρ K s s2 l
theorem FrL.get{ρ:Nat->Nat}{K:AH}{s s2:Nat}:∀{l:List (Nat×Blk)},FrL ρ K s s2 l->∀x blk,heapF l x=some blk->ρ x<s2∧x<s∧qM s blk=true∧K (ρ x)=some (DI ρ blk)
 |[],_,x,blk,h=>by cases h
 | (i,b)::l,hl,x,blk,h=>by
  simp only[heapF]at h
  cases hq:Nat.beq i x with
  |true=>
   rw[hq]at h;injection h with h;subst h;rw[<-aO hq]
   exact⟨aJ hl.1.1,aJ hl.1.2.1,hl.1.2.2.1,hl.1.2.2.2⟩
  |false=>rw[hq]at h;exact FrL.get hl.2 x blk h
def UQ(ρ:Nat->Nat):Nat->Bool
 |0=>true
 |k+1=>(List.range k).all (λj=> !Nat.beq (ρ j) (ρ k))&&UQ ρ k
theorem NG{ρ:Nat->Nat}:∀{s:Nat},UQ ρ s=true->∀x y,x<s->y<s->ρ x=ρ y->x=y
 |0,_,x,_,hx,_,_=>absurd hx (dG _)
 | k+1,h,x,y,hx,hy,e=>by
  simp only[UQ,aP,rC,lI,qI]at h;rcases al_Nat_lt_or_ge x k with h1|h1<;>rcases al_Nat_lt_or_ge y k with h2|h2
  ·exact NG h.2 x y h1 h2 e
  ·have:y=k:=oT;subst this;have:=h.1 x h1;rw[e]at this;simp at this
  ·have:x=k:=oT;subst this;have:=h.1 y h2;rw[e]at this;simp at this
  ·omega
theorem pM.frameL{P}{G}{f}{args}{L}{s}{Post}(H:pM P G f args (heapF L) s Post)(ρ)(K)(s2)(hfull:fullB (heapF L) s=true)(hL:FrL ρ K s s2 L)(hi:UQ ρ s=true)(ha:mS s args=true)
  (Post') (hPost:∀r h',Post r h'->∃K',Post' (uW (Gg ρ s s2) r) K'∧∀y blk,K' y=some blk->(∃x blk0,h' x=some blk0∧y=Gg ρ s s2 x∧blk=DI (Gg ρ s s2) blk0)∨(K y=some blk∧∀x,x<s->ρ x≠y)):pM P G f (Bg ρ args) K s2 Post':=
 H.frame ρ K s2 hfull (λx hx=>by
  cases hb:heapF L x with
  |none=>exact absurd hb hx
  |some blk=>exact(hL.get x blk hb).2.1) (λx blk hx=>let ⟨a,_,c,d⟩:=hL.get x blk hx;⟨a,c,d⟩) (NG hi) ha Post' hPost
mutual
theorem KO{s:Nat}{σ τ:Nat->Nat}(h:∀x,x<s->σ x=τ x):∀(a:AV),mR s a=true->uW σ a=uW τ a
 | .ptr x c,hb=>by simp only[uW];rw[h x (by simpa [mR]using hb)]
 | .ptr2 x r c,hb=>by simp only[uW];rw[h x (by simpa [mR]using hb)]
 | .osl x lo n c,hb=>by simp only[uW];rw[h x (by simpa [mR]using hb)]
 | .agg cs,hb=>by simp only[uW];rw[wF h cs (by simpa [mR]using hb)]
 | .tup cs,hb=>by simp only[uW];rw[wF h cs (by simpa [mR]using hb)]
 | .clo f a b,hb=>by
  simp only[mR]at hb;split at hb
  ·rename_i ha;simp only[uW];rw[wF h a ha,wF h b hb]
  ·cases hb
 | .opt g x,hb=>by simp only[uW];rw[KO h x (by simpa [mR]using hb)]
 | .v _,_| .sl _ _ _,_| .dp _ _ _,_| .any,_=>by simp[uW]
theorem wF{s:Nat}{σ τ:Nat->Nat}(h:∀x,x<s->σ x=τ x):∀(cs:List AV),mS s cs=true->Bg σ cs=Bg τ cs
 |[],_=>by simp[Bg]
 |c::cs,hb=>by
  simp only[mS]at hb;split at hb
  ·rename_i hc;simp only[Bg];rw[KO h c hc,wF h cs hb]
  ·cases hb
end
def yL(ρ)(s s2)(blk)(hb:qM s blk=true):DI (Gg ρ s s2) blk=DI ρ blk:=by
 have hx:∀x,x<s->Gg ρ s s2 x=ρ x:=λx hx=>rL ρ omT
 cases blk with
 |box cells=>simp only[DI];rw[wF hx cells hb]
 |arr rows rs=>rfl
 |row cells=>simp only[DI];rw[wF hx cells hb]
theorem pM.frameU{P}{G}{f}{args}{L}{s}{r}(H:pM P G f args (heapF L) s (λx h'=>x=r∧h'=heapF L))(ρ)(K)(s2)(hfull:fullB (heapF L) s=true)(hL:FrL ρ K s s2 L)(hi:UQ ρ s=true)(ha:mS s args=true)(hr:eP r=true):pM P G f (Bg ρ args) K s2 (λx h'=>x=r∧h'=K):=by
 refine H.frameL ρ K s2 hfull hL hi ha _ λr' h' hP=>?_;obtain⟨rfl,rfl⟩:=hP;refine⟨K,⟨afK _ _ hr,rfl⟩,λy blk hy=>?_⟩;by_cases hx:∃x,x<s∧ρ x=y
 ·obtain⟨x,hxs,rfl⟩:=hx;obtain⟨blk0,hb0⟩:=DQ.1 (uH hfull x hxs);have hk:=hL.get x blk0 hb0;rw[hk.2.2.2]at hy;injection hy with hy;refine .inl ⟨x,blk0,hb0,(rL ρ omT).symm,?_⟩;rw[<-hy];exact(yL ρ s s2 blk0 hk.2.2.1).symm
 exact .inr ⟨hy,λx hxs e=>hx ⟨x,hxs,e⟩⟩
structure FOk(F:Fence)(P:Program):Prop where
 fn:∀f,F.fn f
 dep:F.depth=none
 calls:∀{f args w R} (m:Nat),Calls P f args w R->CallsIn F m P f args w R
 rows:∀{r args w R} (m:Nat),Rows P r args w R->RowsIn F m P r args w R
def Fy{n:Nat}{P:Program}{row:String}{args:Array Value}{w:World}{R:Value->World->Prop}(h:Rows P row args w R):RowsIn Fence.wide n P row args w R:=
 λc cs _=>let ⟨v,w',r,s⟩:=h c cs;⟨v,w',r,stepsIn_wide.2 s⟩
def Eg(P:Program):FOk Fence.wide P:=⟨λ_=>trivial,rfl,λ_ h=>callsIn_wide.2 h,λ_ h=>Fy h⟩
def KR(P:Program)(l:Nat):FOk (Fence.wide.inRound l) P:=⟨λ_=>trivial,rfl,λ_ h=>CallsIn.inRound l (callsIn_wide.2 h),λm h=>(Fy (n:=m) h:_)⟩
def tmk(kp:Nat->Bool)(a a':Act):Prop:=∀i,kp i=true->a'.tmps.getD i undef=a.tmps.getD i undef
theorem tmk.refl(kp:Nat->Bool)(a:Act):tmk kp a a:=λ_ _=>rfl
theorem tmk.trans{kp}{a b c}(h:tmk kp a b)(k:tmk kp b c):tmk kp a c:=λi hi=>(k i hi).trans (h i hi)
def RO(o:Oper):Bool:=match o.op with| .defer _=>false|_=>true
def KS(kp:Nat->Bool)(o:Oper):Bool:=match o.dst with|some d=> !kp d|none=>true
def KT(kp:Nat->Bool)(l:List Oper):Bool:=l.all λo=>RO o&&KS kp o
def NL{kp}{o}(hk:KS kp o=true)(a)(ds)(v):tmk kp a ({a with defers:=ds}.put o.dst v):=by
 intro i hi;unfold KS at hk
 cases hd:o.dst with
 |none=>rfl
 |some k=>
  rw[hd]at hk;have hne:i≠k:=λe=>by subst e;simp[hi]at hk
  simp[Act.put,aK,cY (Ne.symm hne)]
section
variable {F:Fence}{m:Nat}{P:Program}{ops:Array Oper}{Q Q':Exit->Act->World->Prop}{kp:Nat->Bool}
def XQ(hF:FOk F P){o}(hd:RO o=true)(hno: ¬LetsOut Q)(hQ:∀c a w,Q (.panic c) a w->Q' (.panic c) a w){a}{w}{K}(h:o.wp P a w K Q):
  o.wpIn F m P a w (λa' w'=>K a' w'∧∃v ds,a'={a with defers:=ds}.put o.dst v) Q':=by
 unfold Oper.wpIn;refine⟨λf _=>hF.fn f,?_⟩;rw[Oper.semAt_eq _ _ _ (λc hc=>by unfold RO at hd;rw[hc]at hd;cases hd)];unfold Oper.wp at h;generalize (execOp a.eval o).run P w=r at h;have dep:F.depth.isSome=true->1<=m:=λhd=>by rw[hF.dep]at hd;cases hd
 cases r with
 | ok n w'=>
  cases n with
  |value v=>exact⟨h,v,a.defers,rfl⟩
  |skip=>exact⟨h,undef,a.defers,rfl⟩
  |defer d=>exact⟨h,undef,d::a.defers,rfl⟩
  |enter f args=>
   refine⟨dep,hF.calls _ (Calls.mono h λe w'' he=>?_)⟩
   cases e with
   |returned v=>exact⟨he,v,a.defers,rfl⟩
   |panicked c=>exact hQ _ _ _ he
   |outgrown=>exact absurd he hno
  |row r args=>exact⟨dep,hF.rows _ (Rows.mono h λv w'' he=>⟨he,v,a.defers,rfl⟩)⟩
  |_=>exact h.elim
 |halt x w'=>cases x<;>first|exact hQ _ _ _ h|exact h.elim
def Mh(hF:FOk F P){o}(hd:RO o=true)(hk:KS kp o=true)(hno: ¬LetsOut Q)(hQ:∀c a w,Q (.panic c) a w->Q' (.panic c) a w){a}{w}{K K'}
  (h:if Region.wanted o (yielded ops a.tmps)then o.wp P a w K Q∨(o.asks P a w∧LetsOut Q)else K (a.put o.dst undef) w) (hK:∀a' w',K a' w'->tmk kp a a'->K' a' w'):
  if Region.wanted o (yielded ops a.tmps)then o.wpIn F m P a w K' Q' else(∀f,o.about P w a.eval=some f->F.fn f)∧K' (a.put o.dst undef) w:=by
 split
 ·rename_i hw;simp only[hw,fD]at h;rcases h with h|⟨_,h⟩
  ·exact Oper.wpIn_mono (λa' w' ⟨h1,v,ds,e⟩=>hK a' w' h1 (by rw[e];exact NL hk a ds v)) (XQ hF hd hno hQ h)
  exact absurd h hno
 rename_i hw;simp only[hw]at h;exact⟨λf _=>hF.fn f,hK _ _ h (NL hk a a.defers undef)⟩
def QTm(kp:Nat->Bool)(a0:Act)(Q:Exit->Act->World->Prop):Exit->Act->World->Prop:=λe a w=>Q e a w∧(e=.normal->tmk kp a0 a)
def Jc(hl:KT kp ops.toList=true){i:Nat}{o}(ho:ops[i]?=some o):RO o=true∧KS kp o=true:=by
 have:=rC.1 hl o (aB (by rw[bQ];exact ho));simpa using this
theorem Jd(hF:FOk F P)(hl:KT kp ops.toList=true)(hno: ¬LetsOut Q){a0:Act}:∀(l:List Nat) (a:Act) (w:World),wpOps P ops Q l a w->tmk kp a0 a->wpOpsIn F m P ops (QTm kp a0 Q) l a w
 |[],a,w,h,ht=>⟨h,λ_=>ht⟩
 | i::l,a,w,h,ht=>by
  simp only[wpOps]at h;simp only[wpOpsIn]
  cases ho:ops[i]? with
  |none=>rw[ho]at h;exact Jd hF hl hno l a w h ht
  |some o=>
   rw[ho]at h;obtain⟨h1,h2⟩:=Jc hl ho;exact Mh (ops:=ops) hF h1 h2 hno (λc a w q=>⟨q,λe=>by cases e⟩) h λa' w' hk hm=>Jd hF hl hno l a' w' hk (ht.trans hm)
theorem CA(hF:FOk F P)(hl:KT kp ops.toList=true)(hno: ¬LetsOut Q){a0:Act}:∀(fuel:Nat) (listed:Array Bool) (a:Act) (w:World),wpAny P .any ops Q fuel listed a w->tmk kp a0 a->wpAnyIn F m P .any ops (QTm kp a0 Q) fuel listed a w
 |0,listed,a,w,h,ht=>⟨h.1,h.2,λ_=>ht⟩
 | fuel+1,listed,a,w,h,ht=>by
  refine⟨λhr=>⟨h.1 hr,λ_=>ht⟩,λi hi=>?_⟩;have h1:=h.2 i hi;unfold wpOp at h1;unfold wpOpIn
  cases ho:ops[i]? with
  |none=>rw[ho]at h1;exact CA hF hl hno fuel _ a w h1 ht
  |some o=>
   rw[ho]at h1;obtain⟨h2,h3⟩:=Jc hl ho;exact Mh (ops:=ops) hF h2 h3 hno (λc a w q=>⟨q,λe=>by cases e⟩) h1 λa' w' hk hm=>CA hF hl hno fuel _ a' w' hk (ht.trans hm)
end
def oO(N:Nat)(kp:Nat->Bool):Code->Bool
 | .region _ ops _=>vK N ops.toList&&KT kp ops.toList
 | .seq a b=>oO N kp a&&oO N kp b
 | .cond _ a b=>oO N kp a&&oO N kp b
 | .block _ b=>oO N kp b
 | .loop _=>false
 |_=>true
section
variable {F:Fence}{m:Nat}{C:Ctx}{V:Inv C.fr}{w0:World}{S0:Nat->Prop}{N:Nat}{kp:Nat->Bool}{a0:Act}
def adP(C:Ctx)(V:Inv C.fr)(w0:World)(S0:Nat->Prop)(N:Nat)(kp:Nat->Bool)(a0:Act)(Q:AEx->ASt->Prop)(e:Exit)(a:Act)(w:World):Prop:=∃e' st S β,e=Gq e'∧Q e' st∧SimD C V w0 S0 N (· <st.n) st.t st.h a w S β∧tmk kp a0 a
def BI(hF:FOk F C.P)(hC:CtxOk C):∀(c:Code),oO N kp c=true->∀(st:ASt) (Q:AEx->ASt->Prop),eA C (bI C) c st Q->∀(a:Act) (w:World) (S:Nat->Prop) (β:Bt),SimD C V w0 S0 N (· <st.n) st.t st.h a w S β->tmk kp a0 a->
  c.wpIn F m C.P (adP C V w0 S0 N kp a0 Q) a w:=by
 intro c
 induction c with
 |skip=>intro _ st Q hq a w S β M ht;exact wpIn_skip ⟨.normal,st,S,β,rfl,hq,M,ht⟩
 |label l=>intro _ st Q hq a w S β M ht;exact wpIn_label ⟨.normal,st,S,β,rfl,hq,M,ht⟩
 |exit id=>intro _ st Q hq a w S β M ht;exact wpIn_exit ⟨.exit id,st,S,β,rfl,hq,M,ht⟩
 |ret=>intro _ st Q hq a w S β M ht;exact wpIn_ret ⟨.ret,st,S,β,rfl,hq,M,ht⟩
 | region id ops dr=>
  intro hk st Q hq a w S β M ht;simp only[oO,aP]at hk;obtain⟨t,h,n⟩:=st;simp only[eA]at hq;obtain⟨Q2,hQ2⟩:∃Q2:Exit->Act->World->Prop,Q2=λe a w=>e=.normal∧∃st S β,Q .normal st∧SimD C V w0 S0 N (· <st.n) st.t st.h a w S β:=⟨_,rfl⟩;have hno: ¬LetsOut Q2:=by rintro⟨a,w,h⟩;rw[hQ2]at h;cases h.1
  have fin:∀e a w,QTm kp a0 Q2 e a w->adP C V w0 S0 N kp a0 Q e a w:=by
   rintro e a w ⟨h1,h2⟩;rw[hQ2]at h1;obtain⟨rfl,st,S,β,h3,h4⟩:=h1;exact⟨.normal,st,S,β,rfl,h3,h4,h2 rfl⟩
  have mk:∀st' a' w' S' β',Q .normal st'->SimD C V w0 S0 N (· <st'.n) st'.t st'.h a' w' S' β'->Q2 .normal a' w':=λst' a' w' S' β' h1 h2=>by rw[hQ2];exact⟨rfl,st',S',β',h1,h2⟩
  cases dr with
  |false=>
   simp only[pW]at hq;have:=Ev (Q:=Q2) (K:=Q .normal) hC (ops:=ops) rfl hk.1 ops.toList 0 t h a w S β rfl hq M mk;rw[show List.range' 0 ops.toList.length=List.range ops.size by rw[nZ,cV]]at this
   exact wpIn_mono (wpIn_region (Jd hF hk.2 hno _ a w this ht)) fin
  | true=>
   simp only[kL]at hq;refine wpIn_mono (wpIn_region_any hC.mixed (Q:=QTm kp a0 Q2) ?_) fin
   cases hl:FN ops.toList with
   |true=>
    rw[hl]at hq;rcases hq with hq|⟨_,hq⟩
    rotate_left
    ·exact CA hF hk.2 hno _ _ _ _ (Es (C:=C.noH) (V:=V) hC.noH (λ_ _ _ _ _ h=>h) hk.1 hq (SimD.noH M) (λst' a' w' S' β' hk' M'=>mk st' a' w' S' β' hk' (SimD.ofNoH M'))) ht
    have M':=M.drawn (w.drawn+1)
    exact CA hF hk.2 hno _ _ _ _ (CL (C:=C.noH) (V:=V) hC.noH (λ_ _ _ _ _ h=>h) hk.1 (λst' a' w' S' β' hk' M'=>mk st' a' w' S' β' hk' (SimD.ofNoH M')) ops.size _ t h a _ S β (by simp) hq ⟨M'.T,M'.H,M'.B,λy l hy=>.inl (M'.dom y l hy),M'.df,M'.sz,M'.G,M'.nw,M'.iv⟩) ht
   |false=>
   rw[hl]at hq;have hd:JO ops.toList=true:=by simp only[FN,dP,mJ]at hl;exact hl.2
   exact CA hF hk.2 hno _ _ _ _ (Gw (C:=C.noH) (V:=V) hC.noH (λ_ _ _ _ _ h=>h) hk.1 hd hq (SimD.noH M) (λst' a' w' S' β' hk' M'=>mk st' a' w' S' β' hk' (SimD.ofNoH M'))) ht
 | seq x y ihx ihy=>
  intro hk st Q hq a w S β M ht;simp only[oO,aP]at hk;simp only[eA]at hq;rcases hq with hq|hq|hq
  ·refine wpIn_seq (wpIn_mono (ihx hk.1 st _ hq a w S β M ht) ?_);rintro e a' w' ⟨e',st',S',β',rfl,h1,h2,h3⟩
   cases e' with
   |normal=>exact ihy hk.2 st' Q h1 a' w' S' β' h2 h3
   |exit i=>exact⟨.exit i,st',S',β',rfl,h1,h2,h3⟩
   |ret=>exact⟨.ret,st',S',β',rfl,h1,h2,h3⟩
  ·refine wpIn_seq (wpIn_mono (ihx hk.1 st _ hq a w S β M ht) ?_);rintro e a' w' ⟨e',st',S',β',rfl,h1,h2,h3⟩
   cases e' with
   |normal=>
    obtain⟨st2,g1,g2⟩:=h1;obtain⟨S2,h4⟩:=nK g1 h2
    exact ihy hk.2 st2 Q g2 a' w' S2 β' h4 h3
   |exit i=>exact⟨.exit i,st',S',β',rfl,h1,h2,h3⟩
   |ret=>exact⟨.ret,st',S',β',rfl,h1,h2,h3⟩
  ·refine wpIn_seq (wpIn_mono (ihx hk.1 st _ hq a w S β M ht) ?_);rintro e a' w' ⟨e',st',S',β',rfl,h1,h2,h3⟩
   cases e' with
   |normal=>
    obtain⟨st2,g1,st3,σ,hW,hf,g2⟩:=h1;obtain⟨S2,h4⟩:=nK g1 h2
    exact ihy hk.2 st3 Q g2 a' w' S2 _ (pK hW hf h4) h3
   |exit i=>exact⟨.exit i,st',S',β',rfl,h1,h2,h3⟩
   |ret=>exact⟨.ret,st',S',β',rfl,h1,h2,h3⟩
 | cond c x y ihx ihy=>
  intro hk st Q hq a w S β M ht;simp only[oO,aP]at hk;simp only[eA]at hq;split at hq
  ·rename_i b hb;obtain⟨h1,h2⟩:=hq;have hv:=sY M c;rw[hb]at hv;refine wpIn_cond_split (lV hv) (λhtt=>ihx hk.1 st Q (h1 htt) a w S β M ht) (λhf=>ihy hk.2 st Q (h2 hf) a w S β M ht)
  ·exact hq.elim
 | block id b ih=>
  intro hk st Q hq a w S β M ht;simp only[oO]at hk;simp only[eA]at hq;refine wpIn_block (wpIn_mono (ih hk st _ hq a w S β M ht) ?_);rintro e a' w' ⟨e',st',S',β',rfl,h1,h2,h3⟩
  cases e' with
  |normal=>exact⟨.normal,st',S',β',rfl,h1,h2,h3⟩
  |ret=>exact⟨.ret,st',S',β',rfl,h1,h2,h3⟩
  | exit i=>
   show Exit.inBlock id _ (.exit i) a' w';simp only at h1;simp only[Exit.inBlock];by_cases hi:i=id
   ·subst hi;rw[af1 rfl];rw[show Nat.beq i i=true from nG i]at h1;exact⟨.normal,st',S',β',rfl,h1,h2,h3⟩
   ·rw[dZ hi];have:Nat.beq i id=false:=by rw[<-eJ];exact λe=>hi (aO e)
    rw[this]at h1
    exact⟨.exit i,st',S',β',rfl,h1,h2,h3⟩
 |loop b ih=>intro hk;simp[oO]at hk
 |_=>intro _ st Q hq;exact hq.elim
theorem BJ(hF:FOk F C.P)(hC:CtxOk C)(nH:NoH C){ops:Array Oper}{all:List Oper}(hall:ops.toList=all)(hb:vK N all=true)(hl:KT kp all=true){K:ASt->Prop}{Q:Exit->Act->World->Prop}{n:Nat}(post:List Nat):∀(rest:List Oper) (j:Nat) (t:Nat->AV) (h:AH) (a:Act) (w:World) (S:Nat->Prop) (β:Bt),(∃q,all.drop j=rest++q)->jS C (bI C) all rest j ⟨t,h,n⟩ K->SimD C V w0 S0 N (· <n+j) t h a w S β->tmk kp a0 a->
  (∀st a' w' S' β',K st->SimD C V w0 S0 N (· <st.n) st.t st.h a' w' S' β'->tmk kp a0 a'->wpOpsIn F m C.P ops Q post a' w')->wpOpsIn F m C.P ops Q (List.range' j rest.length++post) a w
 |[],j,t,h,a,w,S,β,_,hr,M,ht,hQ=>hQ ⟨t,h,n+j⟩ a w S β hr M ht
 | o::rest,j,t,h,a,w,S,β,⟨q,hdrop⟩,hr,M,ht,hQ=>by
  obtain⟨x,h',h1,h2⟩:=(step_inv hr).resolve_right (λ⟨_,f,args,Post,_,hh,_⟩=>nH _ _ _ _ _ hh);have hj:all[j]?=some o:=by
   have:(all.drop j)[0]?=some o:=by rw[hdrop];rfl
   simpa using this
  have hoj:ops[j]?=some o:=by rw[<-hj, <-hall,bQ]
  have hmem:o∈all:=aB hj;have hs:β (n+j)=none:=by
   cases hq:β (n+j)with
   |none=>rfl
   |some l=>have:=M.dom _ _ hq;omega
  obtain⟨l1,l2⟩:=Jc (ops:=ops) (kp:=kp) (by rw[hall];exact hl) hoj;rw[bN,nX,nV];simp only[wpOpsIn,hoj];obtain⟨Q2,hQ2⟩:∃Q2:Exit->Act->World->Prop,Q2=λ_ _ _=>False:=⟨_,rfl⟩;refine Mh (ops:=ops) (Q:=Q2) hF l1 l2 (by rintro⟨a,w,h⟩;rw[hQ2]at h;exact h) (λc a w h=>by rw[hQ2]at h;exact h.elim)
   (xQ (K:=λa' w'=>∃S' β',SimD C V w0 S0 N (λy=>y<n+j∨y=n+j) (Aa t o.dst x) h' a' w' S' β') hC M hs hall h1 (wU hb hmem) (λi pol d _ hd=>BP hb i d hd) λa' w' S' β' M'=>⟨S',β',M'⟩) ?_
  rintro a' w' ⟨S',β',M'⟩ hm;refine BJ hF hC nH hall hb hl post rest (j+1) _ h' a' w' S' β' ⟨q,?_⟩ h2 ?_ (ht.trans hm) hQ
  ·rw[<-lH,hdrop];rfl
  ·exact⟨M'.T,M'.H,M'.B,λy l hy=>(M'.dom y l hy).elim (λ(h:y<n+j)=>(oT:y<n+(j+1))) (λ(h:y=n+j)=>(oT:y<n+(j+1))),M'.df,M'.sz,M'.G,M'.nw,M'.iv⟩
end
structure Same(K:Nat->Prop)(w w':World):Prop where
 os:w'.os=w.os
 tape:w'.tape=w.tape
 output:w'.output=w.output
 size:w.heap.size<=w'.heap.size
 block:∀b,b<w.heap.size->K b->w'.heap[b]?=w.heap[b]?
theorem Same.refl(K:Nat->Prop)(w:World):Same K w w:=⟨rfl,rfl,rfl,aC _,λ_ _ _=>rfl⟩
theorem Same.trans{K}{a b c}(h:Same K a b)(k:Same K b c):Same K a c:=
 ⟨k.os.trans h.os,k.tape.trans h.tape,k.output.trans h.output,aL h.size k.size,λx hx hk=>(k.block x (af3 hx h.size) hk).trans (h.block x hx hk)⟩
theorem Same.mono{K K'}{a b}(h:Same K a b)(hk:∀x,x<a.heap.size->K' x->K x):Same K' a b:=⟨h.os,h.tape,h.output,h.size,λx hx hx'=>h.block x hx (hk x hx hx')⟩
theorem Same.of_below{K}{n}{a b}(h:Below n a b)(hk:∀x,K x->x<n):Same K a b:=⟨h.os,h.tape,h.output,h.size,λx _ hx=>h.block x (hk x hx)⟩
def Jb{F}{m}{P}{ops}{Q}{i}{rest}{o}{a}{w}(ho:ops[i]?=some o)(hg:o.guard=none)(h:o.wpIn F m P a w (wpOpsIn F m P ops Q rest) Q):wpOpsIn F m P ops Q (i::rest) a w:=by
 have:Region.wanted o (yielded ops a.tmps)=true:=by simp[Region.wanted,hg]
 simp only[wpOpsIn,ho,this,fD];exact h
def Mg{F}{m l}{P}(hF:FOk F P){o:Oper}{f}{args}{ats}{vs}{a}{w}{K}{Q}{R:Bool->World->Prop}
  (ho:o.op=.call {callee:=.value f,args:=args,argTypes:=ats}) (hf:a.eval f=.func (.yield l) #[] #[]) (ha:args.map a.eval=vs) (hy:YieldAt F m P l vs w λe w'=>∃b,e=.returned (.bool b)∧R b w')
  (hK:∀b w',R b w'->K (a.put o.dst (.bool b)) w'):o.wpIn F (m+1) P a w K Q:=by
 obtain⟨fn,tmps,assign,body,hy,hR⟩:=hy;unfold Oper.wpIn;refine⟨λf _=>hF.fn f,?_⟩;rw[Oper.semAt_eq _ _ _ (λc hc=>by rw[ho]at hc;cases hc)];have he:(execOp a.eval o).run P w=.ok (.round l fn tmps assign body) w:=by
  rw[<-hy];simp only[execOp,ho,resolve,Deferred.ofValue,hf,ha];simp[invoke]
 rw[he,Oper.uponIn_round];refine⟨λhd=>(by rw[hF.dep]at hd;cases hd),hR.mono ?_⟩;rintro e w' ⟨b,rfl,hr⟩;exact hK b w' hr
def aaK{α:Type}(P:Program)(g:Nat)(lb:Array Value)(encs:α->Array Value)(xs:List α)(R:Nat->Prop)(w:World):Prop:=
 ∀ (l:Nat) (J:Bool->(Nat->Prop)->List α->World->Prop) (C0:Nat->Prop) (W:World),
  Same R w W->(∀b,R b-> ¬C0 b)->
  (∀s C pre A B,J s C pre A->Same (λb=>b<W.heap.size∨C b) A B->J s C pre B)->
  (∀s C pre A,J s C pre A->∀b,C b->b<A.heap.size)->
  (∀C pre x A,J false C pre A->pre++[x] <+: xs->YieldAt Fence.wide 1 P l (encs x) A λe B=>∃b,e=.returned (.bool b)∧
   ∃C',J (!b) C' (pre++[x]) B∧Same (λb=> ¬C b) A B∧(∀b,C' b->C b∨A.heap.size<=b))->
  J false C0 [] W->
  Calls P g (#[.func (.yield l) #[] #[]]++lb) W λe W'=>(∃v,e=.returned v)∧((∃C,J false C xs W')∨∃C pre,pre <+: xs∧J true C pre W')
def Fx{α:Type}{P:Program}{g:Operand}{ps:Array Tmp}{assign body:Code}{Q:Exit->Act->World->Prop}{a:Act}{w:World}
  {gf:Nat} {lb:Array Value} (hg:a.eval g=.func (.func gf) #[] lb) (eg:∀args w,(callFunc gf args).run P w=.ok (.enter gf args) w)
  {encs:α->Array Value} {xs:List α} {R:Nat->Prop} {w0:World} (hseq:aaK P gf lb encs xs R w0) (hR:Same R w0 w) (hRlt:∀b,R b->b<w0.heap.size) (hps:∀x,(encs x).size=ps.size)
  (I Ix:(Nat->Prop)->List α->World->Prop) (IA:(Nat->Prop)->List α->α->Act->World->Prop) (C0:Nat->Prop) (hC0:∀b,C0 b->b<w.heap.size) (hCR:∀b,R b-> ¬C0 b)
  (hI:∀C pre A B,I C pre A->Same (λb=>b<w.heap.size∨C b) A B->I C pre B)
  (hIx:∀C pre A B,Ix C pre A->Same (λb=>b<w.heap.size∨C b) A B->Ix C pre B)
  (hIA:∀C pre x a A B,IA C pre x a A->Same (λb=>b<w.heap.size∨C b) A B->IA C pre x a B)
  (hlt:∀C pre A,I C pre A->∀b,C b->b<A.heap.size) (hltx:∀C pre A,Ix C pre A->∀b,C b->b<A.heap.size)
  (h0:I C0 [] w)
  (hassign:∀(l:Nat) (C:Nat->Prop) (pre:List α) (x:α) (A:World),I C pre A->pre++[x] <+: xs->w.heap.size<=A.heap.size->
   assign.wpIn (Fence.wide.inRound l) 1 P (Exit.then (λa1 B=>∃C',IA C' pre x a1 B∧Same (λb=> ¬C b) A B∧(∀b,C' b->C b∨A.heap.size<=b)) (λ_ _ _=>False))
    {tmps:=(ps.zip (encs x)).foldl (λt (p,v)=>t.setIfInBounds p v) a.tmps,defers:=[]} A)
  (hbody:∀(l:Nat) (C:Nat->Prop) (pre:List α) (x:α) (a1:Act) (A:World),IA C pre x a1 A->pre++[x] <+: xs->w.heap.size<=A.heap.size->
   body.wpIn (Fence.wide.inRound l) 1 P (λe _ B=>∃C',Same (λb=> ¬C b) A B∧(∀b,C' b->C b∨A.heap.size<=b)∧((e=.normal∧I C' (pre++[x]) B)∨(e=.ret∧Ix C' (pre++[x]) B))) a1 A)
  (hdone:∀(D:Nat) (C:Nat->Prop) (W:World),w.heap.size<=D->I C xs W-> ¬C D->W.heap[D]?=some (.deferred (some []))->Q .normal {a with defers:={target:=.collected D,args:= #[]}::a.defers} W)
  (hstop:∀(D:Nat) (C:Nat->Prop) (pre:List α) (W:World),w.heap.size<=D->pre <+: xs->Ix C pre W-> ¬C D->W.heap[D]?=some (.deferred (some []))->Q .ret {a with defers:={target:=.collected D,args:= #[]}::a.defers} W):
  (Code.rangeFunc g ps assign body).wp P Q a w:=by
 refine(wpIn_wide (n:=3)).1 (wpIn_rangeFunc ?_);intro fn hfn;obtain⟨rec,hrec⟩:∃rec:LoopState->Option Code->Loop,rec=λst pe=>{state:=st,pending:=pe,fn,tmps:=a.tmps,params:=ps,assign,body,defers:=w.heap.size}:=⟨_,rfl⟩;obtain⟨W1,hW1⟩:∃W1,(w.alloc (.deferred (some []))).alloc (.loop (rec .ready none))=W1:=⟨_,rfl⟩;have hs1:W1.heap.size=w.heap.size+2:=by rw[<-hW1];simp
 have hL1:W1.heap[w.heap.size+1]?=some (.loop (rec .ready none)):=by
  rw[<-hW1];have:=World.alloc_heap_new (w.alloc (.deferred (some []))) (.loop (rec .ready none));rwa [World.size_alloc]at this
 have hK1:W1.heap[w.heap.size]?=some (.deferred (some [])):=by
  rw[<-hW1];exact(Below.heap_alloc _ _ _ (by simp)).trans (World.alloc_heap_new w _)
 have hb1:Below w.heap.size w W1:=by
  rw[<-hW1];exact((Below.refl _ w).alloc (aC _) _).alloc (by simp) _
 have hput:∀(K:Nat->Prop) (A:World) (o:Obj), ¬K (w.heap.size+1)->Same K A (A.putObj (w.heap.size+1) o):=λK A o hk=>
  ⟨rfl,rfl,rfl,by simp,λb _ hb=>World.putObj_heap_other (λe=>hk (e ▸ hb))⟩
 refine⟨w.heap.size+1,[{target:=.collected w.heap.size,args:= #[]}],W1,{target:=.fn (.func gf) lb,args:= #[.func (.yield (w.heap.size+1)) #[] #[]]},W1,gf,
  #[.func (.yield (w.heap.size+1)) #[] #[]]++lb,W1,?_,?_,?_,?_,λ_=>by omega,?_⟩
 ·rw[<-hW1,hrec];exact run_enterLoop_outer _ _ _ _ _
 ·simp only[resolve,hg];simp[go_sem]
 ·intro f' _;trivial
 ·simp[invoke,go_sem,eg]
 refine callsIn_wide.2 ((hseq (w.heap.size+1)
  (λs CC pre A=>∃C,(bif s then Ix else I) C pre A∧(∀b,CC b↔C b∨b=w.heap.size+1)∧(∀b,C b->b<w.heap.size∨w.heap.size+1<b)∧A.heap[w.heap.size+1]?=some (.loop (bif s then rec .done (some .ret)else rec .ready none))∧A.heap[w.heap.size]?=some (.deferred (some [])))
  (λb=>C0 b∨b=w.heap.size+1) W1 ?_ ?_ ?_ ?_ ?_ ?_).mono ?_)
 ·exact hR.trans (Same.of_below hb1 λx hx=>af3 (hRlt x hx) hR.size)
 ·rintro b hb (h|h)
  ·exact hCR b hb h
  have:=hRlt b hb;have:=hR.size;omega
 ·rintro s CC pre A B ⟨C,hi,hc,hcl,hl,hk⟩ hs;have l1:=(DP.1 hl).1;have l2:=(DP.1 hk).1;refine⟨C,?_,hc,hcl,(hs.block _ l1 (.inl oT)).trans hl,(hs.block _ l2 (.inl oT)).trans hk⟩;have hs':Same (λb=>b<w.heap.size∨C b) A B:=hs.mono λx _ hx=>hx.elim (λh=>.inl oT) (λh=>.inr ((hc x).2 (.inl h)));cases s
  ·exact hI C pre A B hi hs'
  exact hIx C pre A B hi hs'
 ·rintro s CC pre A ⟨C,hi,hc,hcl,hl,hk⟩ b hb;rcases(hc b).1 hb with h|h
  ·cases s
   ·exact hlt C pre A hi b h
   exact hltx C pre A hi b h
  rw[h];exact(DP.1 hl).1
 ·rintro CC pre x A ⟨C,hi,hc,hcl,hl,hk⟩ hpre;have l1:=(DP.1 hl).1;have hnr: ¬C (w.heap.size+1):=λh=>by have:=hcl _ h;omega
  have hnd: ¬C (w.heap.size):=λh=>by have:=hcl _ h;omega
  have hy:=run_yield (P:=P) (args:=encs x) hl (by rw[hrec];exact hps x);rw[hrec]at hy;refine⟨fn,_,assign,body,hy,roundIn_of_wpIn trivial (wpIn_mono (hassign _ C pre x A hi hpre oT) ?_)⟩;intro e a1 B hB;cases e<;>try exact hB.elim
  obtain⟨C',hia,hsB,hgrow⟩:=hB;have hlB:B.heap[w.heap.size+1]?=some (.loop (rec .ready none)):=(hsB.block _ l1 hnr).trans hl;have hkB:B.heap[w.heap.size]?=some (.deferred (some [])):=(hsB.block _ oT hnd).trans hk;have hnr': ¬C' (w.heap.size+1):=λh=>(hgrow _ h).elim hnr (λh=>by omega);have hnd': ¬C' (w.heap.size):=λh=>(hgrow _ h).elim hnd (λh=>by omega);have lB:=(DP.1 hlB).1;refine⟨_,run_beginRound hlB (by rw[hrec]),?_⟩;have hl2:(B.putObj (w.heap.size+1) (.loop {rec .ready none with state:=.busy})).heap[w.heap.size+1]?=some (.loop {rec .ready none with state:=.busy}):=World.putObj_heap_same lB;have hk2:(B.putObj (w.heap.size+1) (.loop {rec .ready none with state:=.busy})).heap[w.heap.size]?=some (.deferred (some [])):=(World.putObj_heap_other oT).trans hkB;have hia2:=hIA C' pre x a1 B _ hia (hput (λb=>b<w.heap.size∨C' b) B (.loop {rec .ready none with state:=.busy}) (by rintro(h|h);omega;exact hnr' h));refine wpIn_mono (hbody _ C' pre x a1 _ hia2 hpre (by simp;omega)) ?_;rintro e a3 W3 ⟨C3,hs3,hg3,hi3⟩;have hl3:W3.heap[w.heap.size+1]?=some (.loop {rec .ready none with state:=.busy}):=(hs3.block _ (by simp;omega) hnr').trans hl2;have hk3:W3.heap[w.heap.size]?=some (.deferred (some [])):=(hs3.block _ (by simp;omega) hnd').trans hk2;have l3:=(DP.1 hl3).1;have hnr3: ¬C3 (w.heap.size+1):=λh=>(hg3 _ h).elim hnr' (λh=>by simp at h;omega);have hcl3:∀b,C3 b->b<w.heap.size∨w.heap.size+1<b:=by
   intro b hb;rcases hg3 b hb with h|h
   ·rcases hgrow b h with h|h
    ·exact hcl b h
    right;omega
   simp at h;right;omega
  have hcat:∀o,Same (λb=> ¬CC b) A (W3.putObj (w.heap.size+1) o):=λo=>by
   have q1:Same (λb=> ¬CC b) A B:=hsB.mono λb _ hb h=>hb ((hc b).2 (.inl h));have q2:Same (λb=> ¬CC b) B (B.putObj (w.heap.size+1) (.loop {rec .ready none with state:=.busy})):=hput _ _ _ (λh=>h ((hc _).2 (.inr rfl)));have q4:Same (λb=> ¬CC b) W3 _:=hput (λb=> ¬CC b) W3 o (λh=>h ((hc _).2 (.inr rfl)));refine Same.trans ?_ q4;have q3:∀b,b<A.heap.size-> ¬CC b->W3.heap[b]?=A.heap[b]? :=λb hb hcc=>by
    have nC: ¬C b:=λh=>hcc ((hc b).2 (.inl h));have nC': ¬C' b:=λh=>(hgrow b h).elim nC (λh=>by omega);rw[hs3.block b (by simp;exact af3 hb hsB.size) nC',q2.block b (af3 hb hsB.size) hcc,q1.block b hb hcc]
   exact⟨hs3.os.trans hsB.os,hs3.tape.trans hsB.tape,hs3.output.trans hsB.output,aL hsB.size (by have:=hs3.size;simpa using this),q3⟩
  have grow:∀b,(C3 b∨b=w.heap.size+1)->CC b∨A.heap.size<=b:=by
   rintro b (h|h)
   ·rcases hg3 b h with h|h
    ·exact(hgrow b h).imp (λh=>(hc b).2 (.inl h)) id
    exact .inr (aL hsB.size (sU h))
   exact .inl ((hc b).2 (.inr h))
  rcases hi3 with ⟨rfl,hi3⟩|⟨rfl,hi3⟩
  all_goals
   first|(have hr:=run_endRound (P:=P) (none:Option Code) hl3;refine⟨_,_,hr,true,rfl,λb=>C3 b∨b=w.heap.size+1,⟨C3,?_,λb=>Iff.rfl,hcl3,?_,?_⟩,hcat _,grow⟩)|(have hr:=run_endRound (P:=P) (some Code.ret) hl3;refine⟨_,_,hr,false,rfl,λb=>C3 b∨b=w.heap.size+1,⟨C3,?_,λb=>Iff.rfl,hcl3,?_,?_⟩,hcat _,grow⟩)
   ·first|(exact hI C3 _ W3 _ hi3 (hput _ W3 _ (by rintro(h|h);omega;exact hnr3 h)))|(exact hIx C3 _ W3 _ hi3 (hput _ W3 _ (by rintro(h|h);omega;exact hnr3 h)))
   ·rw[World.putObj_heap_same l3,hrec];rfl
   exact(World.putObj_heap_other oT).trans hk3
 ·refine⟨C0,hI C0 [] w W1 h0 (Same.of_below hb1 λx hx=>hx.elim id (hC0 x)),λb=>Iff.rfl,λb hb=>.inl (hC0 b hb),hL1,hK1⟩
 rintro e W2 ⟨⟨v,rfl⟩,⟨CC,C,hi,hc,hcl,hl,hk⟩|⟨CC,pre,hpre,C,hi,hc,hcl,hl,hk⟩⟩
 all_goals
  have hnr: ¬C (w.heap.size+1):=λh=>by have:=hcl _ h;omega
  have hnd: ¬C (w.heap.size):=λh=>by have:=hcl _ h;omega
  first|(refine⟨none,_,by have:=run_endLoop (P:=P) hl (by rw[hrec];simp);rw[hrec]at this;exact this,?_⟩;exact hdone w.heap.size C _ (aC _) (hI C xs W2 _ hi (hput _ W2 _ (by rintro(h|h);omega;exact hnr h))) hnd ((World.putObj_heap_other oT).trans hk))|(refine⟨some .ret,_,by have:=run_endLoop (P:=P) hl (by rw[hrec];simp);rw[hrec]at this;exact this,wpIn_ret ?_⟩;exact hstop w.heap.size C pre _ (aC _) hpre (hIx C pre W2 _ hi (hput _ W2 _ (by rintro(h|h);omega;exact hnr h))) hnd ((World.putObj_heap_other oT).trans hk))
def afN{S S':Nat->Prop}{w w':World}{β:Bt}{x:AV}{v:Value}(hr:Rep S w β x v)(hSS:∀b,S b->S' b)(hS:∀b,S b->w'.heap[b]?=w.heap[b]?):
  (∀s l cs e fr,β s=some l->w.heap[l.blk]?=some (Obj.cells cs e fr)->∃cs':Array Value,w'.heap[l.blk]?=some (.cells cs' e fr)∧cs'.size=cs.size)->Rep S' w' β x v:=by
 induction hr with
 |v x=>intro _;exact .v x
 |agg cs vs hl h1 h ih=>intro hb;exact .agg cs vs hl h1 λi a u h1 h2=>ih i a u h1 h2 hb
 |tup cs vs hl h ih=>intro hb;exact .tup cs vs hl λi a u h1 h2=>ih i a u h1 h2 hb
 |sl rs rows clip A c b o u hc hm hcl hrs hA hw h1 hr ih=>
  intro _;refine .sl rs rows clip A c b o u hc hm hcl hrs (λh=>⟨(hA h).1,hSS _ (hA h).2⟩) (λi row j a h1 h2=>?_) h1 λi row j a h1 h2=>ih i row j a h1 h2 (λs l _ _ _ e=>by cases e);have h0:0<rows.length:=bL (aE i) (Em.1 h1).1;rw[uC (hS b (hA h0).2)]
  exact hw i row j a h1 h2
 |dp rs col row b o u hrs hb hw h1 hr ih=>
  intro _
  exact .dp rs col row b o u hrs (hSS _ hb) (λj a h1=>by rw[uC (hS b hb)];exact hw j a h1) h1 λj a h1=>ih j a h1 (λs l _ _ _ e=>by cases e)
 |ptr s col l hl=>intro hb;exact .ptr s col l hl
 |ptr2 s row col l hl=>intro hb;exact .ptr2 s row col l hl
 |osl s lo len clip l A c hl hc hm hcl hA cs e fr hb room=>
  intro hβ;obtain⟨cs',h1,h2⟩:=hβ _ _ _ _ _ hl hb
  exact .osl s lo len clip l A c hl hc hm hcl hA cs' e fr h1 (by rw[h2];exact room)
 |clo f first caps vs us hl h hl' h' ih ih'=>intro hb;exact .clo f first caps vs us hl (λi a u h1 h2=>ih i a u h1 h2 hb) hl' λi a u h1 h2=>ih' i a u h1 h2 hb
 |optT g a x hg h ih=>intro hb;exact .optT g a x hg (ih hb)
 |optF g a hg=>intro _;exact .optF g a hg
 |any x=>intro _;exact .any x
def NJ{β:Bt}{w w':World}(h:∀s l o,β s=some l->w.heap[l.blk]?=some o->w'.heap[l.blk]?=some o):
  ∀s l cs e fr,β s=some l->w.heap[l.blk]?=some (Obj.cells cs e fr)->∃cs':Array Value,w'.heap[l.blk]?=some (.cells cs' e fr)∧cs'.size=cs.size:=λs l cs e fr h1 h2=>⟨cs,h s l _ h1 h2,rfl⟩
section
variable {C:Ctx}{V V':Inv C.fr}{w0:World}{S0:Nat->Prop}{N:Nat}
theorem SimD.move{D}{t}{h}{a}{w w'}{S}{β}(M:SimD C V w0 S0 N D t h a w S β)(hS:∀b,S b->w'.heap[b]?=w.heap[b]?)
  (hb:∀s l o,β s=some l->w.heap[l.blk]?=some o->w'.heap[l.blk]?=some o) (h1:w'.os=w.os) (h2:w'.tape=w.tape) (h3:w'.output=w.output) (hsz:w.heap.size<=w'.heap.size) (h0:∀b,b<w0.heap.size->w'.heap[b]?=w.heap[b]?) (hV:V'.p S w' β):
  SimD C V' w0 S0 N D t h a w' S β:=by
 refine⟨λi=>afN (M.T i) (λ_ h=>h) hS (NJ hb),⟨λs blk hs=>?_,M.H.inj,λb hb=>af3 (M.H.lt b hb) hsz,aL M.H.big hsz⟩,⟨h1.trans M.B.os,h2.trans M.B.tape,h3.trans M.B.output,aL M.B.size hsz,λb hb=>(h0 b hb).trans (M.B.block b hb)⟩,M.dom,M.df,M.sz,λg cells hg=>afN (M.G g cells hg) (λ_ h=>h) hS (λs l _ _ _ e=>by cases e),M.nw,hV⟩;obtain⟨l,cs,e,fr,k1,k2,k3,k4,k5,k6⟩:=M.H.own s blk hs;refine⟨l,cs,e,fr,k1,hb _ _ _ k1 k2,k3,k4,k5,?_⟩;have go:∀a v,Rep S w β a v->Rep S w' β a v:=λa v hr=>afN hr (λ_ h=>h) hS (NJ hb)
 cases blk with
 |box cells=>exact λj a h1=>let ⟨u,h2,h4,h3⟩:=k6 j a h1;⟨u,h2,h4,go _ _ h3⟩
 |arr rows rs=>exact⟨k6.1,k6.2.1,λi row j a h1 h2=>let ⟨u,h3,h5,h4⟩:=k6.2.2 i row j a h1 h2;⟨u,h3,h5,afN h4 (λ_ h=>h) hS (λs l _ _ _ e=>by cases e)⟩⟩
 |row cells=>exact⟨k6.1,λj a h1=>let ⟨u,h2,h4,h3⟩:=k6.2 j a h1;⟨u,h2,h4,go _ _ h3⟩⟩
theorem SimD.inv{D}{t}{h}{a}{w}{S}{β}(M:SimD C V w0 S0 N D t h a w S β)(hV:V'.p S w β):SimD C V' w0 S0 N D t h a w S β:=⟨M.T,M.H,M.B,M.dom,M.df,M.sz,M.G,M.nw,hV⟩
end
def Ba(S:Nat->Prop)(w:World)(β:Bt)(s:Nat):FrP S w β s S w β:=
 ⟨λ_ h=>h,Evo.refl _ _,aC _,λ_ _ _ h=>h,λx l h=>.inl ⟨x,l,h,rfl⟩,λ_ h=>.inl h,λ_ _ _=>rfl⟩
def RN{α:Type}(C:Ctx)(g:FuncId)(caps:List AV)(encs:α->Array Value)(xs:List α):Prop:=
 ∀(R:Nat->Prop) (w:World) (us:List Value),(∀b,R b->b<w.heap.size)->GOk C R w->RepL R w noB caps us->aaK C.P g us.toArray encs xs R w
def aaJ(t:Nat->AV):List Nat->List AV->Nat->AV
 |p::ps,x::xs=>aaJ (upd t p x) ps xs
 |_,_=>t
def VU(m n:Nat)(t:Nat->AV)(h:AH)(NX:Prop)(K:AEx->ASt->Prop):AEx->ASt->Prop
 | .normal,st=>NX∧GhostN st λstg=>∃σ,keepB m σ n=true∧Weak stg ⟨λ_=>.any,h,n⟩ σ
 | .ret,st=>GhostN st λstg=>∃h' n' σ,keepB m σ n'=true∧fullB h' n'=true∧Weak stg ⟨λ_=>.any,h',n'⟩ σ∧K .ret ⟨t,h',n'⟩
 | .exit _,_=>False
inductive RangeN(C:Ctx)(st:ASt)(g:Operand)(ps:List Nat)(asg body:Code)(K:AEx->ASt->Prop):Prop
 | mk (α:Type) (gf:FuncId) (caps:List AV) (encA:α->List AV) (encs:α->Array Value) (xs:List α) (NX:α->Prop) (m:Nat) (H:List α->AH) (nn:List α->Nat)
   (hg:evA C st.t g=.clo gf [] caps) (hcl:eW caps=true) (hfn:∃ fn,C.P.funcs[gf]?=some fn∧fn.body.isSome=true∧(fn.name== "runtime.NumGoroutine")=false)
   (hit:RN C gf caps encs xs) (henc:∀x S w β,RepL S w β (encA x) (encs x).toList) (hps:∀x,(encA x).length=ps.length)
   (h0:H []=st.h) (n0:nn []=st.n) (hfull:∀pre,fullB (H pre) (nn pre)=true) (ht:Weak st ⟨st.t,λ_=>none,m⟩ (λs=>s))
   (round:∀pre x,pre++[x] <+: xs->(∀y,y∈pre->NX y)->eA (C.at m) (bI (C.at m)) asg ⟨aaJ st.t ps (encA x),H pre,nn pre⟩ (λe st1=>e=.normal∧eA (C.at m) (bI (C.at m)) body st1 (VU m (nn (pre++[x])) st.t (H (pre++[x])) (NX x) K)))
   (done:(∀y,y∈xs->NX y)->K .normal ⟨st.t,H xs,nn xs⟩):RangeN C st g ps asg body K
theorem NK{S:Nat->Prop}{w:World}{β:Bt}:∀(ps:List Nat) (xs:List AV) (vs:List Value) (t:Nat->AV) (tm:Array Value),xs.length=vs.length->ps.length=xs.length->(∀p∈ps,p<tm.size)->
  (∀i,Rep S w β (t i) (tm.getD i undef))->(∀(i:Nat) a u,xs[i]?=some a->vs[i]?=some u->Rep S w β a u)->
  ∀i,Rep S w β (aaJ t ps xs i) (((ps.zip vs).foldl (λt (p,v)=>t.setIfInBounds p v) tm).getD i undef)
 |[],xs,vs,t,tm,_,_,_,hT,_=>hT
 |p::ps,[],vs,t,tm,h1,h2,_,hT,_=>by simp at h2
 |p::ps,x::xs,[],t,tm,h1,h2,_,hT,_=>by simp at h1
 | p::ps,x::xs,v::vs,t,tm,h1,h2,hp,hT,hr=>by
  show ∀i,Rep S w β (aaJ (upd t p x) ps xs i) (((ps.zip vs).foldl (λt (p,v)=>t.setIfInBounds p v) (tm.setIfInBounds p v)).getD i undef);refine NK ps xs vs _ _ (sU h1) (sU h2) (λq hq=>by rw[iV];exact hp q (bY _ hq)) (λi=>?_) (λi a u q1 q2=>hr (i+1) a u (sU q1) (sU q2));by_cases hi:i=p
  ·subst hi;have hlt:=hp i al_List_mem_cons_self;rw[dB,aK,cZ hlt];exact hr 0 x v rfl rfl
  ·rw[cI _ _ hi,aK,cY (Ne.symm hi), <-aK];exact hT i
theorem Bq:∀(ps:List Nat) (vs:List Value) (tm:Array Value),((ps.zip vs).foldl (λt (p,v)=>t.setIfInBounds p v) tm).size=tm.size
 |[],_,_=>rfl
 |_::_,[],_=>rfl
 |p::ps,v::vs,tm=>by
  show((ps.zip vs).foldl (λt (p,v)=>t.setIfInBounds p v) (tm.setIfInBounds p v)).size=_;rw[Bq ps vs,iV]
def KP(ps:Array Nat)(vs:Array Value)(tm:Array Value):(ps.zip vs).foldl (λt (p,v)=>t.setIfInBounds p v) tm=(ps.toList.zip vs.toList).foldl (λt (p,v)=>t.setIfInBounds p v) tm:=by
 rw[<-Array.foldl_toList,Array.toList_zip]
def dfs:Option Nat->List Deferred
 |none=>[]
 |some D=>[{target:=.collected D,args:= #[]}]
@[reducible] def Ctx.wd(C:Ctx)(d:Option Nat):Ctx:={C with df:=dfs d}
def XP(d:Option Nat)(w0:World)(S:Nat->Prop)(β:Bt)(w:World):Prop:=
 ∀D,d=some D->w.heap[D]?=some (.deferred (some []))∧ ¬OwnB β D∧ ¬S D∧w0.heap.size<=D
def acO(C:Ctx)(w0:World)(S0:Nat->Prop)(N:Nat)(Q:Option Nat->AEx->ASt->Prop)(e:Exit)(a:Act)(w:World):Prop:=
 ∃d e' st S β,e=Gq e'∧Q d e' st∧SimD (C.wd d) (Inv.any C.fr) w0 S0 N (· <st.n) st.t st.h a w S β∧XP d w0 S β w
theorem KQ{P:Program}{f:FuncId}{fn:Func}(g1:P.funcs[f]?=some fn)(g2:fn.body.isSome=true)(g3:(fn.name== "runtime.NumGoroutine")=false) (args:Array Value) (w:World):(callFunc f args).run P w=.ok (.enter f args) w:=by
 simp only[callFunc,Sem.run_bind,program,Sem.run,Result.andThen_ok,g1];have:fn.body.isNone=false:=by cases hb:fn.body<;>simp_all
 simp[g3,this]
section
variable {C:Ctx}{w0:World}{S0:Nat->Prop}{N:Nat}{Q:Option Nat->AEx->ASt->Prop}
def Me(hC:CtxOk C)(hCn:∀n,CtxOk (C.at n))(hdf:C.df=[]){st:ASt}{g:Operand}{ps:Array Nat}{asg body:Code}(hp:ps.toList.all (λp=>Nat.blt p N)=true)(hka:oO N (λ_=>false) asg=true)(hkb:oO N (λ_=>false) body=true)
  (R:RangeN C st g ps.toList asg body (λe st'=>∀D,Q (some D) e st')) {a:Act} {w:World} {S:Nat->Prop} {β:Bt} (M:SimD C (Inv.any C.fr) w0 S0 N (· <st.n) st.t st.h a w S β):
  (Code.rangeFunc g ps asg body).wp C.P (acO C w0 S0 N Q) a w:=by
 obtain⟨α,gf,caps,encA,encs,xs,NX,m,HH,nn,hg,hcl,⟨fn,f1,f2,f3⟩,hit,henc,hps,h0H,h0n,hfull,ht,round,done⟩:=R;have hge:=sY M g;rw[hg]at hge;have hnm:∀{A:World} {SA:Nat->Prop} {β':Bt} {t:Nat->AV} {h:AH} {n:Nat} {a:Act},fullB h n=true->SimD (C.at m) (Inv.any m) w0 S0 N (· <n) t h a A SA β'->∀x l,β' x=some l->x<n∧w0.heap.size<=l.blk∧l.blk<A.heap.size∧ ¬SA l.blk:=λhf X x l hx=>by
  have hn:=X.dom x l hx;obtain⟨blk,hblk⟩:=DQ.1 (uH hf x hn);obtain⟨l',cs,e,fr,k1,k2,k3,k4,k5,k6⟩:=X.H.own x blk hblk;rw[hx]at k1;cases k1;exact⟨hn,k4,fJ k2,k5⟩
 have M0:SimD (C.at m) (Inv.any m) w0 S0 N (· <nn []) st.t (HH []) a w S β:=by
  rw[h0H,h0n];exact⟨M.T,M.H,M.B,M.dom,M.df,M.sz,M.G,M.nw,trivial⟩
 have hn0:=hnm (hfull []) M0;generalize hgv:a.eval g=gv at hge
 cases hge with
 |clo _ _ _ vs us h1 h2 h3 h4=>
 have hvs:vs= #[]:=Array.eq_empty_of_size_eq_zero h1.symm;subst hvs;have hcaps:RepL S w noB caps us.toList:=by
  refine⟨by rw[h3];simp,λi x u p q=>?_⟩;have:=h4 i x u p (by rw[<-bQ];exact q);exact mB this (fW _ hcl i x p) noB
 have hseq:=hit S w us.toList M.H.lt M.G hcaps
 let C1:(Nat->Prop)->List α->World->Prop:=λCC pre A=>(∀y,y∈pre->NX y)∧∃SA β',SimD (C.at m) (Inv.any m) w0 S0 N (· <nn pre) st.t (HH pre) a A SA β'∧(∀b,SA b->b<w.heap.size∨CC b)∧(∀b,OwnB β' b->CC b)∧(∀b,CC b->b<A.heap.size)
 let C2:(Nat->Prop)->List α->World->Prop:=λCC pre A=>∃SA h' n' β',(∀D,Q (some D) .ret ⟨st.t,h',n'⟩)∧SimD (C.at m) (Inv.any m) w0 S0 N (· <n') st.t h' a A SA β'∧(∀b,SA b->b<w.heap.size∨CC b)∧(∀b,OwnB β' b->CC b)∧(∀b,CC b->b<A.heap.size)
 let C3:(Nat->Prop)->List α->α->Act->World->Prop:=λCC pre x a1 B=>∃st1 S1 β1 A SA β',(∀y,y∈pre->NX y)∧eA (C.at m) (bI (C.at m)) body st1 (VU m (nn (pre++[x])) st.t (HH (pre++[x])) (NX x) (λe st'=>∀D,Q (some D) e st'))∧
  SimD (C.at m) (Inv.any m) w0 S0 N (· <st1.n) st1.t st1.h a1 B S1 β1∧(∀b,S1 b->b<w.heap.size∨CC b)∧(∀b,OwnB β' b->CC b)∧(∀b,OwnB β1 b->CC b)∧
  (∀x l,x<m->β' x=some l->β1 x=some l)∧
  SimD (C.at m) (Inv.any m) w0 S0 N (· <nn pre) st.t (HH pre) a A SA β'∧(∀b,SA b->S1 b)∧(∀b,SA b->B.heap[b]?=A.heap[b]?)∧
  (∀s l cs e fr,β' s=some l->A.heap[l.blk]?=some (Obj.cells cs e fr)->∃cs':Array Value,B.heap[l.blk]?=some (.cells cs' e fr)∧cs'.size=cs.size)∧w.heap.size<=B.heap.size
 have w00:w0.heap.size<=w.heap.size:=M.B.size;have mv:∀{CC:Nat->Prop} {A B:World} {D:Nat->Prop} {t:Nat->AV} {h:AH} {a:Act} {SA:Nat->Prop} {β1:Bt},SimD (C.at m) (Inv.any m) w0 S0 N D t h a A SA β1->(∀b,SA b->b<w.heap.size∨CC b)->(∀b,OwnB β1 b->b<w.heap.size∨CC b)->w.heap.size<=A.heap.size->Same (λb=>b<w.heap.size∨CC b) A B->
   SimD (C.at m) (Inv.any m) w0 S0 N D t h a B SA β1:=λX k1 k2 k3 hs=>
  X.move (λb hb=>hs.block b (X.H.lt b hb) (k1 b hb)) (λs l o q1 q2=>(hs.block _ (fJ q2) (k2 _ ⟨s,l,q1,rfl⟩)).trans q2) hs.os hs.tape hs.output hs.size (λb hb=>hs.block b oT (.inl oT)) trivial
 refine Fx (gf:=gf) (lb:=us) hgv (KQ f1 f2 f3) (sU hseq) (Same.refl _ _) M.H.lt (λx=>by rw[<-cV, <-cV, <-hps x];exact((henc x S w β).1).symm)
  (λCC pre A=>C1 CC pre A∧w.heap.size<=A.heap.size) (λCC pre A=>C2 CC pre A∧w.heap.size<=A.heap.size) C3 (OwnB β) (λb ⟨x,l,q1,q2⟩=>by have:=(hn0 x l q1).2.2.1;omega) (λb hb ⟨x,l,q1,q2⟩=>by have:=(hn0 x l q1).2.2.2;rw[q2]at this;exact this hb)
  ?_ ?_ ?_ ?_ ?_ ?_ ?_ ?_ ?_ ?_
 ·rintro CC pre A B ⟨⟨hN,SA,β',X,k1,k2,k3⟩,k4⟩ hs;exact⟨⟨hN,SA,β',mv X k1 (λb hb=>.inr (k2 b hb)) k4 hs,k1,k2,λb hb=>af3 (k3 b hb) hs.size⟩,aL k4 hs.size⟩
 ·rintro CC pre A B ⟨⟨SA,h',n',β',q,X,k1,k2,k3⟩,k4⟩ hs;exact⟨⟨SA,h',n',β',q,mv X k1 (λb hb=>.inr (k2 b hb)) k4 hs,k1,k2,λb hb=>af3 (k3 b hb) hs.size⟩,aL k4 hs.size⟩
 ·rintro CC pre x a1 B B' ⟨st1,S1,β1,A,SA,β',hN,q,X,k1,k2,k3,k5,XA,k6,k7,k8,k9⟩ hs;refine⟨st1,S1,β1,A,SA,β',hN,q,mv X k1 (λb hb=>.inr (k3 b hb)) k9 hs,k1,k2,k3,k5,XA,k6,λb hb=>(hs.block b (X.H.lt b (k6 b hb)) (k1 b (k6 b hb))).trans (k7 b hb),λs l cs e fr h1 h2=>?_,aL k9 hs.size⟩;obtain⟨cs',h5,h6⟩:=k8 s l cs e fr h1 h2;exact⟨cs',(hs.block _ (fJ h5) (.inr (k2 _ ⟨s,l,h1,rfl⟩))).trans h5,h6⟩
 ·rintro CC pre A ⟨⟨hN,SA,β',X,k1,k2,k3⟩,k4⟩ b hb;exact k3 b hb
 ·rintro CC pre A ⟨⟨SA,h',n',β',q,X,k1,k2,k3⟩,k4⟩ b hb;exact k3 b hb
 ·refine⟨⟨(λy hy=>by cases hy),S,β,M0,λb hb=>.inl (M.H.lt b hb),λb hb=>hb,λb ⟨x,l,q1,q2⟩=>by have:=(hn0 x l q1).2.2.1;omega⟩,aC _⟩
 ·
  rintro l CC pre x A ⟨⟨hN,SA,β',X,k1,k2,k3⟩,k4⟩ hpre _;have X0:SimD (C.at m) (Gf SA A β' m) w0 S0 N (· <nn pre) (aaJ st.t ps.toList (encA x)) (HH pre) {tmps:=(ps.zip (encs x)).foldl (λt (p,v)=>t.setIfInBounds p v) a.tmps,defers:=[]} A SA β':=by
   refine⟨λi=>?_,X.H,X.B,X.dom,hdf.symm,?_,X.G,X.nw,Ba _ _ _ _⟩
   ·rw[KP];have he:=henc x SA A β';exact NK _ _ _ _ _ he.1 (hps x).symm (λp hq=>by rw[X.sz];exact aJ (rC.1 hp p hq)) X.T he.2 i
   ·show((ps.zip (encs x)).foldl (λt (p,v)=>t.setIfInBounds p v) a.tmps).size=N;rw[KP,Bq];exact X.sz
  refine wpIn_mono (BI (C:=C.at m) (a0:={tmps:=(ps.zip (encs x)).foldl (λt (p,v)=>t.setIfInBounds p v) a.tmps,defers:=[]}) (KR C.P l) (hCn m) asg hka ⟨_,HH pre,nn pre⟩ _ (round pre x hpre hN) _ A SA β' X0 (tmk.refl _ _)) ?_;rintro e a1 B ⟨e',st1,S1,β1,rfl,⟨rfl,hb⟩,X1, -⟩;have P:FrP SA A β' m S1 B β1:=X1.iv;refine⟨λb=>CC b∨OwnB β1 b∨(A.heap.size<=b∧b<B.heap.size),⟨st1,S1,β1,A,SA,β',hN,hb,X1.inv trivial,λb hb=>?_,λb hb=>.inl (k2 b hb),λb hb=>.inr (.inl hb),λy l h1 h2=>P.keep y l h1 h2,X,P.hS,λb hb=>P.hE.stable b hb,λs l cs e fr h1 h2=>P.hE.shape _ _ _ _ h2,aL k4 P.sz⟩,
   ⟨X1.B.os.trans X.B.os.symm,X1.B.tape.trans X.B.tape.symm,X1.B.output.trans X.B.output.symm,P.sz,λb hb hn=>P.still b hb λh=>hn (k2 b h)⟩,λb hb=>?_⟩
  ·rcases P.nw b hb with h|h|h
   ·exact(k1 b h).imp id .inl
   ·exact .inr (.inr (.inr ⟨h,X1.H.lt b hb⟩))
   ·exact .inr (.inl (k2 b h))
  ·rcases hb with h|⟨y,l,h1,h2⟩|h
   ·exact .inl h
   ·rcases P.own y l h1 with h|h
    ·exact .inl (k2 b (h2 ▸ h))
    ·exact .inr (h2 ▸ h)
   ·exact .inr h.1
 ·
  rintro l CC pre x a1 A1 ⟨st1,S1,β1,A,SA,β',hN,q,X,k1,k2,k3,k5,XA,k6,k7,k8,k9⟩ hpre _;refine wpIn_mono (BI (C:=C.at m) (V:=Gf S1 A1 β1 m) (a0:=a1) (KR C.P l) (hCn m) body hkb st1 _ q a1 A1 S1 β1 (X.inv (Ba _ _ _ _)) (tmk.refl _ _)) ?_;rintro e a2 B ⟨e',st2,S2,β2,rfl,hq,X2, -⟩;have fin:∀(h':AH) (n':Nat),fullB h' n'=true->(GhostN st2 λstg=>∃σ,keepB m σ n'=true∧Weak stg ⟨λ_=>.any,h',n'⟩ σ)->∃S3 β3,SimD (C.at m) (Inv.any m) w0 S0 N (· <n') st.t h' a B S3 β3∧(∀b,S3 b->b<w.heap.size∨(b<B.heap.size∧(CC b∨A1.heap.size<=b)))∧(∀b,OwnB β3 b->b<B.heap.size∧(CC b∨A1.heap.size<=b))∧Same (λb=> ¬CC b) A1 B:=by
   rintro h' n' hf ⟨stg,hgs,σ,hk,hW⟩;obtain⟨S3,X3⟩:=nK hgs X2;have X4:=pK hW hk X3;have P:FrP S1 A1 β1 m S3 B _:=X4.iv;have Y:SimD (C.at m) (Inv.any m) w0 S0 N (· <n') st.t h' a B S3 (λs=>if s<n' then β2 (σ s)else none):=by
    refine⟨λi=>?_,X4.H,X4.B,X4.dom,hdf.symm ▸ XA.df,XA.sz,X4.G,X4.nw,trivial⟩;rcases ht.t i with h|⟨h,hb⟩
    ·rw[show st.t i=.any from h];exact .any _
    ·have h2:=XA.T i;rw[h]at h2;have h4:=afN (Bv (n:=m) _ _ _ (aC _) hb h2) (λb hb=>P.hS b (k6 b hb)) (λb hb=>(P.hE.stable b (k6 b hb)).trans (k7 b hb)) λs l cs e fr h1 h2=>by
      split at h1
      ·obtain⟨cs',h3,h4⟩:=k8 s l cs e fr h1 h2;obtain⟨cs2,h5,h6⟩:=P.hE.shape _ _ _ _ h3;exact⟨cs2,h5,h6.trans h4⟩
      ·cases h1
     refine h4.mono (λ_ h=>h) (Evo.refl _ _) λs l hs=>?_;dsimp only at hs;split at hs
     ·rename_i hm;exact P.keep s l hm (k5 s l hm hs)
     ·cases hs
   refine⟨S3,_,Y,λb hb=>?_,λb ⟨y,l,h1,h2⟩=>⟨oH ((hnm hf Y y l h1).2.2.1),?_⟩,⟨X4.B.os.trans X.B.os.symm,X4.B.tape.trans X.B.tape.symm,X4.B.output.trans X.B.output.symm,P.sz,λb hb hn=>P.still b hb λh=>hn (k3 b h)⟩⟩
   ·rcases P.nw b hb with h|h|h
    ·exact(k1 b h).imp id λh=>⟨Y.H.lt b hb,.inl h⟩
    ·exact .inr ⟨Y.H.lt b hb,.inr h⟩
    ·exact .inr ⟨Y.H.lt b hb,.inl (k3 b h)⟩
   ·rcases P.own y l h1 with h|h
    ·exact .inl (k3 b (h2 ▸ h))
    ·exact .inr (h2 ▸ h)
  cases e' with
  |exit i=>exact hq.elim
  |normal=>
   obtain⟨hNx,hq⟩:=hq;obtain⟨S3,β3,Y,j1,j3,j2⟩:=fin _ _ (hfull _) hq;have hN2:∀y,y∈pre++[x]->NX y:=λy hy=>(al_List_mem_append.1 hy).elim (hN y) λh=>uJ.1 h ▸ hNx
   exact⟨λb=>b<B.heap.size∧(CC b∨A1.heap.size<=b),j2,λb hb=>hb.2,.inl ⟨rfl,⟨hN2,S3,β3,Y,j1,j3,λb hb=>hb.1⟩,aL k9 j2.size⟩⟩
  |ret=>
   obtain⟨stg,hgs,h',n',σ,hk,hf,hW,hK⟩:=hq;obtain⟨S3,β3,Y,j1,j3,j2⟩:=fin h' n' hf ⟨stg,hgs,σ,hk,hW⟩;exact⟨λb=>b<B.heap.size∧(CC b∨A1.heap.size<=b),j2,λb hb=>hb.2,.inr ⟨rfl,⟨S3,h',n',β3,hK,Y,j1,j3,λb hb=>hb.1⟩,aL k9 j2.size⟩⟩
 ·rintro D CC W hD ⟨⟨hN,SA,β',X,k1,k2,k3⟩,k4⟩ hnC hW;refine⟨some D,.normal,_,SA,β',rfl,done hN D,⟨X.T,X.H,X.B,X.dom,?_,X.sz,X.G,X.nw,trivial⟩,λD' hD'=>?_⟩
  ·show _::a.defers=_;rw[show a.defers=[]from X.df.trans hdf];rfl
  ·cases hD';exact⟨hW,λh=>hnC (k2 _ h),λh=>(k1 _ h).elim (λh=>by omega) hnC,aL w00 hD⟩
 ·rintro D CC pre W hD hpre ⟨⟨SA,h',n',β',hK,X,k1,k2,k3⟩,k4⟩ hnC hW;refine⟨some D,.ret,⟨st.t,h',n'⟩,SA,β',rfl,hK D,⟨X.T,X.H,X.B,X.dom,?_,X.sz,X.G,X.nw,trivial⟩,λD' hD'=>?_⟩
  ·show _::a.defers=_;rw[show a.defers=[]from X.df.trans hdf];rfl
  ·cases hD';exact⟨hW,λh=>hnC (k2 _ h),λh=>(k1 _ h).elim (λh=>by omega) hnC,aL w00 hD⟩
def wI(N:Nat):Code->Bool
 | .seq a b=>wI N a&&wI N b
 | .cond _ a b=>wI N a&&wI N b
 | .block _ b=>wI N b
 | .scope b=>wI N b
 | .rangeFunc _ ps a b=>ps.toList.all (λp=>Nat.blt p N)&&(oO N (λ_=>false) a&&oO N (λ_=>false) b)
 |c=>rU N c
def wJ(C:Ctx):Code->Option Nat->ASt->(Option Nat->AEx->ASt->Prop)->Prop
 | .seq a b,d,st,Q=>wJ C a d st (λd' e st'=>match e with| .normal=>wJ C b d' st' Q|e=>Q d' e st')
 | .cond c x y,d,st,Q=>match evA C st.t c with| .v (.bool b)=>Branch b (wJ C x d st Q) (wJ C y d st Q)|_=>False
 | .block id b,d,st,Q=>wJ C b d st (λd' e st'=>match e with| .exit i=>(match Nat.beq i id with|true=>Q d' .normal st'|false=>Q d' (.exit i) st')|e=>Q d' e st')
 | .scope b,d,st,Q=>wJ C b d st Q
 | .rangeFunc g ps a b,d,st,Q=>d=none∧GhostN st λstg=>∃stw σ,Weak stg stw σ∧keepB C.fr σ stw.n=true∧RangeN C stw g ps.toList a b (λe st'=>∀D,Q (some D) e st')
 |c,d,st,Q=>eA (C.wd d) (bI (C.wd d)) c st (Q d)
def Mf(hC:∀d,CtxOk (C.wd d))(hCn:∀n,CtxOk (C.at n))(hdf:C.df=[]):∀(c:Code),wI N c=true->∀(d:Option Nat) (st:ASt) (Q:Option Nat->AEx->ASt->Prop),wJ C c d st Q->
  ∀(a:Act) (w:World) (S:Nat->Prop) (β:Bt),SimD (C.wd d) (Inv.any C.fr) w0 S0 N (· <st.n) st.t st.h a w S β->XP d w0 S β w->c.wp C.P (acO C w0 S0 N Q) a w:=by
 have base:∀(c:Code),rU N c=true->∀(d:Option Nat) (st:ASt) (Q:Option Nat->AEx->ASt->Prop),eA (C.wd d) (bI (C.wd d)) c st (Q d)->
  ∀(a:Act) (w:World) (S:Nat->Prop) (β:Bt),SimD (C.wd d) (Inv.any C.fr) w0 S0 N (· <st.n) st.t st.h a w S β->XP d w0 S β w->c.wp C.P (acO C w0 S0 N Q) a w:=by
  intro c hk d st Q hq a w S β M hd;refine wp_mono (CM (C:=C.wd d) (V:=Gf S w β C.fr) (hC d) c hk st _ hq a w S β (M.inv (Ba _ _ _ _))) ?_;rintro e a' w' ⟨e',st',S',β',rfl,h1,M'⟩;have P:FrP S w β C.fr S' w' β':=M'.iv;refine⟨d,e',st',S',β',rfl,h1,M'.inv trivial,λD hD=>?_⟩;obtain⟨k1,k2,k3,k4⟩:=hd D hD;have hlt:=fJ k1;refine⟨(P.still D hlt k2).trans k1,λ⟨x,l,q1,q2⟩=>?_,λh=>?_,k4⟩
  ·rcases P.own x l q1 with h|h
   ·exact k2 (q2 ▸ h)
   ·rw[q2]at h;omega
  ·rcases P.nw D h with h|h|h
   ·exact k3 h
   ·omega
   ·exact k2 h
 intro c
 induction c with
 |seq x y ihx ihy=>
  intro hk d st Q hq a w S β M hd;simp only[wI,aP]at hk;refine wp_seq (wp_mono (ihx hk.1 d st _ hq a w S β M hd) ?_);rintro e a' w' ⟨d',e',st',S',β',rfl,h1,h2,h3⟩
  cases e' with
  |normal=>exact ihy hk.2 d' st' Q h1 a' w' S' β' h2 h3
  |exit i=>exact⟨d',.exit i,st',S',β',rfl,h1,h2,h3⟩
  |ret=>exact⟨d',.ret,st',S',β',rfl,h1,h2,h3⟩
 | cond c x y ihx ihy=>
  intro hk d st Q hq a w S β M hd;simp only[wI,aP]at hk;simp only[wJ]at hq;split at hq
  ·rename_i b hb;obtain⟨h1,h2⟩:=hq;have hv:=sY M c;rw[show evA (C.wd d) st.t c=evA C st.t c from rfl,hb]at hv;exact wp_cond_split (lV hv) (λht=>ihx hk.1 d st Q (h1 ht) a w S β M hd) (λhf=>ihy hk.2 d st Q (h2 hf) a w S β M hd)
  ·exact hq.elim
 | block id b ih=>
  intro hk d st Q hq a w S β M hd;refine wp_block (wp_mono (ih hk d st _ hq a w S β M hd) ?_);rintro e a' w' ⟨d',e',st',S',β',rfl,h1,h2,h3⟩
  cases e' with
  |normal=>exact⟨d',.normal,st',S',β',rfl,h1,h2,h3⟩
  |ret=>exact⟨d',.ret,st',S',β',rfl,h1,h2,h3⟩
  | exit i=>
   show Exit.inBlock id _ (.exit i) a' w';simp only at h1;simp only[Exit.inBlock];by_cases hi:i=id
   ·subst hi;rw[af1 rfl];rw[show Nat.beq i i=true from nG i]at h1;exact⟨d',.normal,st',S',β',rfl,h1,h2,h3⟩
   ·rw[dZ hi];have:Nat.beq i id=false:=by rw[<-eJ];exact λe=>hi (aO e)
    rw[this]at h1
    exact⟨d',.exit i,st',S',β',rfl,h1,h2,h3⟩
 |scope b ih=>
  intro hk d st Q hq a w S β M hd;refine wp_scope_straight (wp_mono (ih hk d st _ hq a w S β M hd) ?_);rintro e a' w' ⟨d',e',st',S',β',rfl,h⟩
  cases e' with
  |normal=>exact⟨d',.normal,st',S',β',rfl,h⟩
  |ret=>exact⟨d',.ret,st',S',β',rfl,h⟩
  |exit i=>exact⟨d',.exit i,st',S',β',rfl,h⟩
 |rangeFunc g ps x y ihx ihy=>
  intro hk d st Q hq a w S β M hd;simp only[wI,aP]at hk;obtain⟨rfl,stg,hgs,stw,σ,hW,hf,hR⟩:=hq;obtain⟨S2,M2⟩:=nK hgs M;have M3:=pK (C:=C.wd none) hW hf M2;have h0:=hC none
  exact Me (C:=C) ⟨h0.ty,h0.mixed,h0.hH⟩ hCn hdf hk.1 hk.2.1 hk.2.2 hR ⟨M3.T,M3.H,M3.B,M3.dom,M3.df.trans hdf.symm,M3.sz,M3.G,M3.nw,trivial⟩
 |_=>intro hk d st Q hq;exact base _ hk d st Q hq
theorem bI.introR(hC:∀ d,CtxOk (C.wd d))(hCn:∀ n,CtxOk (C.at n)){f:FuncId}{fn:Func}{body:Code}{args:List AV}{r:AV}(hf:C.P.funcs[f]?=some fn)(hb:fn.body=some body)(hnm:(fn.name== "runtime.NumGoroutine")=false)
  (hN:wI fn.ntmps body=true) (hlen:Nat.ble args.length fn.ntmps=true) (hw:wJ C body none ⟨argsT args,λ_=>none,0⟩ (λd=>Fin (C.wd d) fn r)) (hdf:C.df=[]:=by rfl):bI C f args r:=by
 refine⟨⟨fn,hf,by rw[hb];rfl,hnm⟩,λS w vs hS hG hargs=>?_⟩;have hlen:=aJ hlen;refine callsIn_wide.1 (callsIn_of_wp_marks (n:=3) hf hb trivial ((wpIn_wide (n:=3)).2 ?_));have M0:SimD (C.wd none) (Inv.any C.fr) w S fn.ntmps (· <(0:Nat)) (argsT args) (λ_=>none) {tmps:=vs.toArray++Array.replicate (fn.ntmps-vs.toArray.size) undef,defers:=[]} w S noB:=by
  have hl:vs.length=args.length:=hargs.1.symm;refine⟨λi=>?_,⟨λs blk h=>(by cases h),λs s' l l' h=>absurd rfl h,hS,aC _⟩,Below.refl _ _,λx l h=>(by cases h),rfl,by simp;omega,hG,λ_ h=>.inl h,trivial⟩;rw[afV]
  cases ha:args[i]? with
  |none=>exact .any _
  | some x=>
   have hi:i<vs.length:=by rw[hl];exact(Em.1 ha).1
   have hv:vs[i]?=some vs[i]:=aA hi;have:(vs.toArray++Array.replicate (fn.ntmps-vs.toArray.size) undef).getD i undef=vs[i]:=by
    rw[aK,dS (sU hi),eM,hv];rfl
   rw[this];exact hargs.2 i x _ ha hv
 refine wp_mono (Mf (C:=C) hC hCn hdf body hN none ⟨argsT args,λ_=>none,0⟩ _ hw _ w S noB M0 (λD h=>by cases h)) ?_;rintro e a' w' ⟨d,e',st,S',β',rfl,hfin,M,hd⟩;have fin:ST (C.wd d) fn r st->∀w2:World,SimD (C.wd d) (Inv.any C.fr) w S fn.ntmps (· <st.n) st.t st.h a' w2 S' β'->∃v,(results fn a'.tmps).run C.P w2=.ok v w2∧∃v',Ending.returned v=.returned v'∧Below w.heap.size w w2∧Rep (λb=>S b∨(w.heap.size<=b∧b<w2.heap.size)) w2 noB r v':=by
  rintro⟨rs,h1,h2,h3,h4⟩ w2 M;obtain⟨t,h,n⟩:=st;obtain⟨us,g1,g2⟩:=JA (hC d) M _ rs h1;refine⟨_,yO _ us g1 fn rfl,_,rfl,M.B,?_⟩;have hret:Rep S' w2 β' (Dp rs) (if h:us.toArray.size=1 then us.toArray[0]else .tuple us.toArray):=by
   match rs,us,g2 with
   |[],us,g2=>
    have:us=[]:=afC g2.1.symm;subst this
    exact .tup [] #[] rfl λi a u p=>by simp at p
   |[x],us,g2=>
    match us,g2 with
    |[u],g2=>simpa [Dp]using g2.2 0 x u rfl rfl
    |[],g2=>exact absurd g2.1 (by simp)
    |_::_::_,g2=>exact absurd g2.1 (by simp)
   | x::y::zs,us,g2=>
    have hne: ¬us.toArray.size=1:=by
     have:=g2.1;simp at this⊢;omega
    rw[dif_neg hne];exact .tup _ _ (sU g2.1) λi a u p q=>g2.2 i a u p (sU q)
  have hd:=BO M.H hret h2;refine h4 _ _ _ ?_;exact(mB hd h3 noB).mono (λb hb=>hb.elim (λhb=>(M.nw b hb).imp id λh=>⟨h,M.H.lt b hb⟩) .inr) (Evo.refl _ _) (ME.refl _)
 have go:ST (C.wd d) fn r st->LeavesInM Fence.wide 3 C.P fn a'.tmps (λe w'=>∃v,e=.returned v∧Below w.heap.size w w'∧Rep (λb=>S b∨(w.heap.size<=b∧b<w'.heap.size)) w' noB r v) a'.defers .returning w':=by
  intro hr;have hdf':a'.defers=dfs d:=M.df;rw[hdf']
  cases d with
  |none=>exact fin hr w' M
  |some D=>
   obtain⟨k1,k2,k3,k4⟩:=hd D rfl;refine⟨by simp,.inl ⟨D,_,rfl,run_takeDeferred k1,fin hr _ ?_⟩⟩;have ho:∀b,b≠D->(w'.putObj D (.deferred none)).heap[b]?=w'.heap[b]? :=λb hb=>World.putObj_heap_other hb;exact M.move (λb hb=>ho b λe=>k3 (e ▸ hb)) (λs l o q1 q2=>(ho _ λe=>k2 ⟨s,l,q1,e⟩).trans q2) rfl rfl rfl (by simp) (λb hb=>ho b oT) trivial
 cases e' with
 |normal=>exact go hfin
 |ret=>exact go hfin
 |exit i=>exact hfin.elim
end
section
variable {α:Type}
inductive YieldN(C:Ctx)(y:Value)(encs:α->Array Value)(xs:List α)(ops:List Oper)(st:ASt)(pre:List α)(K:ASt->List α->Bool->Prop):Prop
 | mk (k:Nat) (o:Oper) (f:Operand) (args:Array Operand) (ats:Array TypeId) (rest:List Oper) (hd:ops.drop k=o::rest) (ho:o.op=.call {callee:=.value f,args:=args,argTypes:=ats}) (hg:o.guard=none)
   (hr:jS C.noH (bI C.noH) ops (ops.take k) 0 st λst1=>∃x vs stw σ,Weak st1 stw σ∧keepB C.fr σ stw.n=true∧fullB stw.h stw.n=true∧Nat.ble stw.n st.n=true∧evA C stw.t f=.v y∧Ju (args.toList.map (evA C stw.t))=some vs∧encs x=vs.toArray∧pre++[x] <+: xs∧
    ∀b:Bool,jS C.noH (bI C.noH) ops rest (k+1) ⟨Aa stw.t o.dst (.v (.bool b)),stw.h,st.n⟩ (λst2=>K st2 (pre++[x]) (!b))):YieldN C y encs xs ops st pre K
inductive LoopY(fr:Nat)(body:ASt->List α->(AEx->ASt->List α->Bool->Prop)->Prop)(st:ASt)(pre:List α)(Q:AEx->ASt->List α->Bool->Prop):Prop
 | mk (κ:Type) (S:κ->ASt) (pr:κ->List α) (G:κ->Prop) (μ:κ->Nat) (k0:κ) (σ:Nat->Nat) (hw:Weak st (S k0) σ) (hf:keepB fr σ (S k0).n=true) (hp:pr k0=pre) (h0:G k0)
   (round:∀k,G k->body (S k) (pr k) (λe st' p' s'=>match e with| .normal=>s'=false∧∃k' σ',Weak st' (S k') σ'∧keepB fr σ' (S k').n=true∧pr k'=p'∧G k'∧μ k'<μ k|e=>Q e st' p' s')):LoopY fr body st pre Q
def codeY(C:Ctx)(y:Value)(encs:α->Array Value)(xs:List α):Code->ASt->List α->Bool->(AEx->ASt->List α->Bool->Prop)->Prop
 | .seq a b,st,pre,s,Q=>codeY C y encs xs a st pre s (λe st' p' s'=>match e with| .normal=>codeY C y encs xs b st' p' s' Q|e=>Q e st' p' s')
 | .cond c a b,st,pre,s,Q=>match evA C st.t c with| .v (.bool t)=>Branch t (codeY C y encs xs a st pre s Q) (codeY C y encs xs b st pre s Q)|_=>False
 | .block id b,st,pre,s,Q=>codeY C y encs xs b st pre s (λe st' p' s'=>match e with| .exit i=>(match Nat.beq i id with|true=>Q .normal st' p' s'|false=>Q (.exit i) st' p' s')|e=>Q e st' p' s')
 | .loop b,st,pre,s,Q=>s=false∧LoopY C.fr (λst p Q=>codeY C y encs xs b st p false Q) st pre Q
 | .region id ops dr,st,pre,s,Q=>eA C (bI C) (.region id ops dr) st (λe st'=>Q e st' pre s)∨(dr=false∧s=false∧YieldN C y encs xs ops.toList st pre (λst' p' s'=>Q .normal st' p' s'))
 |c,st,pre,s,Q=>eA C (bI C) c st (λe st'=>Q e st' pre s)
def wG(N:Nat):Code->Bool
 | .seq a b=>wG N a&&wG N b
 | .cond _ a b=>wG N a&&wG N b
 | .block _ b=>wG N b
 | .loop b=>wG N b
 |c=>oO N (λ_=>false) c
end
def Pf{F}{n}{P}{Q}{a}{w}{c}(I:Nat->Act->World->Prop)(m)(h0:I m a w)
  (round:∀m a w,I m a w->c.wpIn F n P (Exit.then (λa' w'=>∃m',m'<m∧I m' a' w') Q) a w):(Code.loop c).wpIn F n P Q a w:=by
 classical
 have least:∀(n:Nat) (a:Act) (w:World),(∃m,m<=n∧I m a w)->∃m,I m a w∧∀m',I m' a w->m<=m':=by
  intro n
  induction n with
  |zero=>rintro a w ⟨m,h1,h2⟩;exact⟨m,h2,λm' _=>by omega⟩
  |succ n ih=>
   rintro a w ⟨m,h1,h2⟩;by_cases hc:∃m',m'<=n∧I m' a w
   ·exact ih a w hc
   ·exact⟨m,h2,λm' h'=>Nat.le_of_not_lt λh=>hc ⟨m',oT,h'⟩⟩
 have ex:∀a w,(∃m,I m a w)->∃m,I m a w∧∀m',I m' a w->m<=m':=λa w ⟨m,h⟩=>least m a w ⟨m,aC _,h⟩
 let μ:Act->World->Nat:=λa w=>if h:∃m,I m a w then Classical.choose (ex a w h)else 0
 have hμ:∀a w,(∃m,I m a w)->I (μ a w) a w∧∀m',I m' a w->μ a w<=m':=λa w h=>by
  have e:μ a w=Classical.choose _:=dif_pos h;rw[e];exact nE (ex a w h)
 refine wpIn_loop (λa w=>∃m,I m a w) μ ⟨m,h0⟩ λa w h=>wpIn_mono (round (μ a w) a w (hμ a w h).1) ?_;intro e a' w' h';cases e<;>try exact h'
 obtain⟨m',h1,h2⟩:=h';exact⟨⟨m',h2⟩,bL ((hμ a' w' ⟨m',h2⟩).2 m' h2) h1⟩
section
variable {α:Type}{C:Ctx}{J:Bool->(Nat->Prop)->List α->World->Prop}{W:World}{xs:List α}{encs:α->Array Value}{N l:Nat}
def SYp(C:Ctx)(J:Bool->(Nat->Prop)->List α->World->Prop)(W:World)(xs:List α)(N:Nat)(st:ASt)(pre:List α)(s:Bool)(a:Act)(A:World):Prop:=
 ∃CC S β,J s CC pre A∧pre <+: xs∧W.heap.size<=A.heap.size∧SimD C (Inv.any C.fr) {W with heap:= #[]} (λ_=>True) N (· <st.n) st.t st.h a A S β∧(∀b,S b-> ¬CC b)∧(∀b,OwnB β b-> ¬CC b∧W.heap.size<=b)
theorem SYp.step(hJ:∀s C pre A B,J s C pre A->Same (λb=>b<W.heap.size∨C b) A B->J s C pre B)(hlt:∀s C pre A,J s C pre A->∀b,C b->b<A.heap.size)
  {CC} {pre} {s} {w0} {S0} {D} {t} {h} {a} {A A'} {S S'} {β β'} {V}
  (j:J s CC pre A) (hp:pre <+: xs) (hs:W.heap.size<=A.heap.size) (k1:∀b,S b-> ¬CC b) (k2:∀b,OwnB β b-> ¬CC b∧W.heap.size<=b) (M:SimD C V w0 S0 N D t h a A S β) (P:FrP S A β C.fr S' A' β') (M':A'.os=A.os∧A'.tape=A.tape∧A'.output=A.output):
  J s CC pre A'∧W.heap.size<=A'.heap.size∧(∀b,S' b-> ¬CC b)∧(∀b,OwnB β' b-> ¬CC b∧W.heap.size<=b):=by
 refine⟨hJ s CC pre A A' j ⟨M'.1,M'.2.1,M'.2.2,P.sz,λb hb hh=>P.still b hb λho=>hh.elim (λh=>by have:=(k2 b ho).2;omega) (k2 b ho).1⟩,aL hs P.sz,λb hb hc=>?_,λb ⟨x,l,h1,h2⟩=>?_⟩
 ·rcases P.nw b hb with h|h|h
  ·exact k1 b h hc
  ·have:=hlt s CC pre A j b hc;omega
  exact(k2 b h).1 hc
 subst h2;rcases P.own x l h1 with h|h
 ·exact k2 _ h
 exact⟨λhc=>by have:=hlt s CC pre A j _ hc;omega,aL hs h⟩
def adO(C:Ctx)(J:Bool->(Nat->Prop)->List α->World->Prop)(W:World)(xs:List α)(N:Nat)(Q:AEx->ASt->List α->Bool->Prop)(e:Exit)(a:Act)(A:World):Prop:=∃e' st pre s,e=Gq e'∧Q e' st pre s∧SYp C J W xs N st pre s a A
def Mc(hC:CtxOk C)(hJ:∀s C pre A B,J s C pre A->Same (λb=>b<W.heap.size∨C b) A B->J s C pre B)(hlt:∀s C pre A,J s C pre A->∀b,C b->b<A.heap.size)
  (hY:∀CC pre x A,J false CC pre A->pre++[x] <+: xs->YieldAt Fence.wide 1 C.P l (encs x) A λe B=>∃b,e=.returned (.bool b)∧∃C',J (!b) C' (pre++[x]) B∧Same (λb=> ¬CC b) A B∧(∀b,C' b->CC b∨A.heap.size<=b)):
  ∀c,wG N c=true->∀st pre s Q,codeY C (.func (.yield l) #[] #[]) encs xs c st pre s Q->∀a A,SYp C J W xs N st pre s a A->c.wpIn Fence.wide 2 C.P (adO C J W xs N Q) a A:=by
 have base:∀(c:Code),oO N (λ_=>false) c=true->∀(st:ASt) (pre:List α) (s:Bool) (Q:AEx->ASt->List α->Bool->Prop),eA C (bI C) c st (λe st'=>Q e st' pre s)->∀(a:Act) (A:World),SYp C J W xs N st pre s a A->c.wpIn Fence.wide 2 C.P (adO C J W xs N Q) a A:=by
  rintro c hk st pre s Q hq a A ⟨CC,S,β,j,hp,hs,M,k1,k2⟩;refine wpIn_mono (BI (V:=Gf S A β C.fr) (Eg C.P) hC c hk st _ hq a A S β (M.inv (Ba _ _ _ _)) (tmk.refl _ _)) ?_;rintro e a' A' ⟨e',st',S',β',rfl,h1,M', -⟩;obtain⟨g1,g2,g3,g4⟩:=SYp.step hJ hlt j hp hs k1 k2 M M'.iv ⟨M'.B.os.trans M.B.os.symm,M'.B.tape.trans M.B.tape.symm,M'.B.output.trans M.B.output.symm⟩;exact⟨e',st',pre,s,rfl,h1,CC,S',β',g1,hp,g2,M'.inv trivial,g3,g4⟩
 intro c
 induction c with
 |seq x y ihx ihy=>
  intro hk st pre s Q hq a A M;simp only[wG,aP]at hk;refine wpIn_seq (wpIn_mono (ihx hk.1 st pre s _ hq a A M) ?_);rintro e a' w' ⟨e',st',p',s',rfl,h1,h2⟩
  cases e' with
  |normal=>exact ihy hk.2 st' p' s' Q h1 a' w' h2
  |exit i=>exact⟨.exit i,st',p',s',rfl,h1,h2⟩
  |ret=>exact⟨.ret,st',p',s',rfl,h1,h2⟩
 | cond c x y ihx ihy=>
  intro hk st pre s Q hq a A M;simp only[wG,aP]at hk;simp only[codeY]at hq;split at hq
  ·rename_i b hb;obtain⟨h1,h2⟩:=hq;have M0:=M;obtain⟨CC,S,β,j,hp,hs,M1,k1,k2⟩:=M0;have hv:=sY M1 c;rw[hb]at hv;exact wpIn_cond_split (lV hv) (λht=>ihx hk.1 st pre s Q (h1 ht) a A M) (λhf=>ihy hk.2 st pre s Q (h2 hf) a A M)
  ·exact hq.elim
 | block id b ih=>
  intro hk st pre s Q hq a A M;refine wpIn_block (wpIn_mono (ih hk st pre s _ hq a A M) ?_);rintro e a' w' ⟨e',st',p',s',rfl,h1,h2⟩
  cases e' with
  |normal=>exact⟨.normal,st',p',s',rfl,h1,h2⟩
  |ret=>exact⟨.ret,st',p',s',rfl,h1,h2⟩
  | exit i=>
   show Exit.inBlock id _ (.exit i) a' w';simp only at h1;simp only[Exit.inBlock];by_cases hi:i=id
   ·subst hi;rw[af1 rfl];rw[show Nat.beq i i=true from nG i]at h1;exact⟨.normal,st',p',s',rfl,h1,h2⟩
   ·rw[dZ hi];have:Nat.beq i id=false:=by rw[<-eJ];exact λe=>hi (aO e)
    rw[this]at h1
    exact⟨.exit i,st',p',s',rfl,h1,h2⟩
 | loop b ih=>
  intro hk st pre s Q hq a A M;obtain⟨rfl,hL⟩:=hq;obtain⟨κ,S,pr,G,μ,k0,σ,hw,hf,rfl,h0,round⟩:=hL;have weak:∀{st st':ASt} {σ:Nat->Nat} {p:List α} {a:Act} {A:World},Weak st st' σ->keepB C.fr σ st'.n=true->SYp C J W xs N st p false a A->SYp C J W xs N st' p false a A:=by
   rintro st st' σ p a A hw hf ⟨CC,S,β,j,hp,hs,M1,k1,k2⟩;refine⟨CC,S,_,j,hp,hs,pK hw hf M1,k1,λb ⟨x,l,h1,h2⟩=>?_⟩;simp only at h1;split at h1
   ·exact k2 b ⟨_,l,h1,h2⟩
   ·cases h1
  refine Pf (λm a A=>∃k,μ k=m∧G k∧SYp C J W xs N (S k) (pr k) false a A) (μ k0) ⟨k0,rfl,h0,weak hw hf M⟩ ?_;rintro m a A ⟨k,rfl,hG,M⟩;refine wpIn_mono (ih hk _ _ _ _ (round k hG) a A M) ?_;rintro e a' w' ⟨e',st',p',s',rfl,h1,h2⟩
  cases e' with
  |normal=>
   obtain⟨rfl,k',σ',g1,g2,rfl,g4,g5⟩:=h1
   exact⟨μ k',g5,k',rfl,g4,weak g1 g2 h2⟩
  |exit i=>exact⟨.exit i,st',p',s',rfl,h1,h2⟩
  |ret=>exact⟨.ret,st',p',s',rfl,h1,h2⟩
 | region id ops dr=>
  intro hk st pre s Q hq a A M;rcases hq with hq|⟨rfl,rfl,hq⟩
  ·exact base _ hk st pre s Q hq a A M
  obtain⟨k,o,f,args,ats,rest,hd,ho,hg,hr⟩:=hq;obtain⟨CC,S,β,j,hp,hs,M,k1,k2⟩:=M;obtain⟨t,h,n⟩:=st;simp only[wG,oO,aP]at hk;have hko:ops.toList[k]?=some o:=by
   have:(ops.toList.drop k)[0]?=some o:=by rw[hd];rfl
   simpa using this
  have hoj:ops[k]?=some o:=by rw[<-hko,bQ]
  have hklt:k<ops.toList.length:=(Em.1 hko).1;have hsz:ops.size=k+(1+rest.length):=by
   have:=af2 List.length hd;simp at this;simp at hklt;omega
  have hrest:ops.toList.drop (k+1)=rest++[]:=by rw[<-lH,hd];simp
  have htk:(ops.toList.take k).length=k:=by simp at hklt⊢;omega
  have hrange:List.range ops.size=List.range' 0 (ops.toList.take k).length++(k::(List.range' (k+1) rest.length++[])):=by
   rw[nZ,hsz,htk,dY, <-List.range'_append_1,bJ,gJ 1,nX]
  refine wpIn_region ?_;rw[hrange];refine BJ (C:=C.noH) (V:=Gf S A β C.fr) (kp:=λ_=>false) (a0:=a) (Eg C.P) hC.noH (λ_ _ _ _ _ h=>h) rfl hk.1 hk.2 _ (ops.toList.take k) 0 t h a A S β ⟨ops.toList.drop k,by simp⟩ hr ((M.inv (Ba _ _ _ _)).noH) (tmk.refl _ _) ?_;rintro st1 a1 A1 S1 β0 ⟨x,vs,stw,σ,hW,hkp,hfull,hnn,hf,hvs,henc,hpx,hb⟩ M0 -;obtain⟨g1,g2,g3,g4⟩:=SYp.step hJ hlt j hp hs k1 k2 M M0.iv ⟨M0.B.os.trans M.B.os.symm,M0.B.tape.trans M.B.tape.symm,M0.B.output.trans M.B.output.symm⟩;have M1:=pK (C:=C.noH) hW hkp M0;have hfl:=uH hfull;have hnn:=aJ hnn;have g5:∀b,OwnB (λs=>if s<stw.n then β0 (σ s)else none) b-> ¬CC b∧W.heap.size<=b∧b<A1.heap.size:=by
   rintro b ⟨y,l,h1,h2⟩;subst h2;obtain⟨blk,hblk⟩:=DQ.1 (hfl y (M1.dom y l h1));obtain⟨l',cs,e,fr,q1,q2, -⟩:=M1.H.own y blk hblk;simp only at h1 q1;rw[h1]at q1;cases q1;split at h1
   ·exact⟨(g4 _ ⟨_,l,h1,rfl⟩).1,(g4 _ ⟨_,l,h1,rfl⟩).2,fJ q2⟩
   ·cases h1
  generalize (λs=>if s<stw.n then β0 (σ s)else none)=β1 at M1 g5;have hfe:a1.eval f=.func (.yield l) #[] #[]:=by
   have:=sY M1 f;rw[show evA C.noH stw.t f=evA C stw.t f from rfl,hf]at this;exact lV this
  have hargs:args.map a1.eval=encs x:=by
   rw[henc];have hrl:RepL S1 A1 β1 (args.toList.map (evA C.noH stw.t)) (args.toList.map a1.eval):=⟨by simp,λi y u p q=>by
    rw[aX]at p q
    cases hi:args.toList[i]? with
    |none=>rw[hi]at p;cases p
    |some z=>rw[hi]at p q;cases p;cases q;exact sY M1 z⟩
   have:=Lj (show Ju (args.toList.map (evA C.noH stw.t))=some vs from hvs) hrl;rw[<-this];apply Array.ext';simp
  have hY1:=hY CC pre x A1 g1 hpx;refine Jb hoj hg (Mg (Eg C.P) ho hfe hargs hY1 ?_);rintro b B ⟨C',j',hsame,hgrow⟩;have M2:SimD C.noH (Gf S1 B β1 C.fr) {W with heap:= #[]} (λ_=>True) N (· <stw.n) stw.t stw.h a1 B S1 β1:=
   (M1.inv (V':=Inv.any C.noH.fr) trivial).move (λb hb=>hsame.block b (M1.H.lt b hb) (g3 b hb)) (λs l o q1 q2=>(hsame.block _ (fJ q2) (g5 _ ⟨s,l,q1,rfl⟩).1).trans q2) hsame.os hsame.tape hsame.output hsame.size (λb hb=>absurd hb (dG _)) (Ba _ _ _ _)
  have hslot:=wU hk.1 (aB hko);have M3:SimD C.noH (Gf S1 B β1 C.fr) {W with heap:= #[]} (λ_=>True) N (· <n+(k+1)) (Aa stw.t o.dst (.v (.bool b))) stw.h (a1.put o.dst (.bool b)) B S1 β1:=by
   refine⟨PK a1 M2.T (.v _) (λk hk=>by rw[M2.sz];exact hslot k hk),M2.H,M2.B,λy l hy=>(by have:y<stw.n:=M2.dom y l hy;simp only at hnn;omega),?_,?_,M2.G,M2.nw,M2.iv⟩
   ·cases o.dst<;>exact M2.df
   ·cases o.dst with
    |none=>exact M2.sz
    |some k=>simp only[Act.put,iV];exact M2.sz
  refine BJ (C:=C.noH) (V:=Gf S1 B β1 C.fr) (kp:=λ_=>false) (a0:=a1.put o.dst (.bool b)) (Eg C.P) hC.noH (λ_ _ _ _ _ h=>h) rfl hk.1 hk.2 [] rest (k+1) _ _ _ B S1 β1 ⟨[],hrest⟩ (hb b) M3 (tmk.refl _ _) ?_;rintro st2 a2 A2 S2 β2 hK M4 -;obtain⟨f1,f2,f3,f4⟩:=SYp.step (CC:=C') hJ hlt j' hpx (aL g2 hsame.size) (λb hb hc=>(hgrow b hc).elim (g3 b hb) (λh=>by have:=M1.H.lt b hb;omega)) (λb hb=>⟨λhc=>(hgrow b hc).elim (g5 b hb).1 (λh=>by have:=(g5 b hb).2.2;omega),(g5 b hb).2.1⟩) M3.ofNoH M4.iv ⟨M4.B.os.trans M3.B.os.symm,M4.B.tape.trans M3.B.tape.symm,M4.B.output.trans M3.B.output.symm⟩
  exact⟨.normal,st2,_,_,rfl,hK,C',S2,β2,f1,hpx,f2,M4.ofNoH.inv trivial,f3,f4⟩
 |_=>intro hk st pre s Q hq;exact base _ hk st pre s Q hq
end
theorem RN.intro{α}{C}(hC:CtxOk C){g}{fn}{body}{caps}{encs}{xs:List α}(hf:C.P.funcs[g]?=some fn)(hb:fn.body=some body)(hres:fn.results.toList=[])
  (hN:wG fn.ntmps body=true) (hlen:Nat.ble (caps.length+1) fn.ntmps=true)
  (hw:∀y,codeY C y encs xs body ⟨argsT (.v y::caps),λ_=>none,0⟩ [] false (λe _ pre s=>match e with| .exit _=>False|_=>s=false->pre=xs)) (hdf:C.df=[]:=by rfl):RN C g caps encs xs:=by
 intro R w us hRlt hG hus l J C0 W hRW hdis hJ hJlt hY h0;have hlen:=aJ hlen;have same:∀b,R b->W.heap[b]?=w.heap[b]? :=λb hb=>hRW.block b (hRlt b hb) hb;refine callsIn_wide.1 (callsIn_of_wp_marks (n:=2) hf hb trivial ?_);have hul:us.length=caps.length:=hus.1.symm;have M0:SYp C J W xs fn.ntmps ⟨argsT (.v (.func (.yield l) #[] #[])::caps),λ_=>none,0⟩ [] false {tmps:=(#[Value.func (.yield l) #[] #[]]++us.toArray)++Array.replicate (fn.ntmps-(#[Value.func (.yield l) #[] #[]]++us.toArray).size) undef,defers:=[]} W:=by
  refine⟨C0,R,noB,h0,List.nil_prefix,aC _,⟨λi=>?_,⟨λs blk h=>(by cases h),λs s' l l' h=>absurd rfl h,λb hb=>af3 (hRlt b hb) hRW.size,aE _⟩,⟨rfl,rfl,rfl,aE _,λb hb=>by simp at hb⟩,λx l h=>(by cases h),hdf.symm,?_,λg cells hg=>afN (hG g cells hg) (λ_ h=>h) same (λs l _ _ _ e=>by cases e),λ_ _=>.inl trivial,trivial⟩,hdis,λb ⟨x,l,h1,_⟩=>by cases h1⟩
  ·show Rep R W noB (argsT (.v (.func (.yield l) #[] #[])::caps) i) (Array.getD _ i undef);rw[afV,aK]
   cases i with
   |zero=>
    rw[dS (by simp),dS (by simp)]
    exact .v _
   | succ i=>
    rw[dL]
    cases ha:caps[i]? with
    |none=>exact .any _
    |some x=>
     have hi:i<us.length:=by rw[hul];exact(Em.1 ha).1
     have hv:us[i]?=some us[i]:=aA hi;rw[dS (by simp;omega),Array.getElem?_append_right (by simp)];simp only[kP,bN,cX,kB,eM,hv,gI];exact afN (hus.2 i x _ ha hv) (λ_ h=>h) same (λs l _ _ _ e=>by cases e)
  ·simp;omega
 refine wpIn_mono (Mc hC hJ hJlt hY body hN _ _ _ _ (hw _) _ W M0) ?_;rintro e a' A ⟨e',st,pre,s,rfl,hq,CC,S,β,j,hp,hs,M,k1,k2⟩;have fin:(s=false->pre=xs)->LeavesInM Fence.wide 2 C.P fn a'.tmps (λe W'=>(∃v,e=.returned v)∧((∃C,J false C xs W')∨∃C pre,pre <+: xs∧J true C pre W')) a'.defers .returning A:=by
  intro hq;rw[M.df,hdf];refine⟨_,yO [] [] rfl fn hres,⟨_,rfl⟩,?_⟩
  cases s with
  |false=>obtain rfl:=hq rfl;exact .inl ⟨CC,j⟩
  |true=>exact .inr ⟨CC,pre,hp,j⟩
 cases e' with
 |normal=>exact fin hq
 |ret=>exact fin hq
 |exit i=>exact hq.elim
theorem CtxOk.wd{C}(h:CtxOk C)(d):CtxOk (C.wd d):=⟨h.ty,h.mixed,h.hH⟩
def VS:Code->Bool
 | .seq _ _=>false
 | .cond _ _ _=>false
 | .block _ _=>false
 | .scope _=>false
 | .loop _=>false
 | .rangeFunc _ _ _ _=>false
 |_=>true
section
variable {C:Ctx}{d:Option Nat}{Q:Option Nat->AEx->ASt->Prop}{t:Nat->AV}{h:AH}{n:Nat}
def uO{a b:Code}{st:ASt}(k:wJ C a d st (λd' e st'=>match e with| .normal=>wJ C b d' st' Q|e=>Q d' e st')):wJ C (.seq a b) d st Q:=k
def VT{c}{a b}{v}(hv:evA C t c=.v (.bool v))(k1:v=true->wJ C a d ⟨t,h,n⟩ Q)(k2:v=false->wJ C b d ⟨t,h,n⟩ Q):wJ C (.cond c a b) d ⟨t,h,n⟩ Q:=by
 simp only[wJ,hv];exact .mk k1 k2
def Ja{id:Nat}{b:Code}{st:ASt}(k:wJ C b d st (λd' e st'=>match e with| .exit i=>(match Nat.beq i id with|true=>Q d' .normal st'|false=>Q d' (.exit i) st')|e=>Q d' e st')):wJ C (.block id b) d st Q:=k
def XO{b:Code}{st:ASt}(k:wJ C b d st Q):wJ C (.scope b) d st Q:=k
def tQ{c}{st}(hc:VS c=true)(k:eA (C.wd d) (bI (C.wd d)) c st (Q d)):wJ C c d st Q:=by
 cases c<;>first|exact k|cases hc
def aaH{b:Code}{st:ASt}(k:eA (C.wd d) (bI (C.wd d)) (.loop b) st (Q d)):wJ C (.loop b) d st Q:=k
def Md{g:Operand}{ps:Array Tmp}{a b:Code}{st:ASt}(k:GhostN st λstg=>∃stw σ,Weak stg stw σ∧keepB C.fr σ stw.n=true∧RangeN C stw g ps.toList a b (λe st'=>∀D,Q (some D) e st')):wJ C (.rangeFunc g ps a b) none st Q:=⟨rfl,k⟩
end
def aaI{C:Ctx}{R:FuncId->List AV->AV->Prop}{Q:AEx->ASt->Prop}{l:Nat}{st:ASt}(k:Q .normal st):eA C R (.label l) st Q:=k
section
variable {α:Type}{C:Ctx}{y:Value}{encs:α->Array Value}{xs pre:List α}{s:Bool}{Q:AEx->ASt->List α->Bool->Prop}{t:Nat->AV}{h:AH}{n:Nat}
def rQ{a b:Code}{st:ASt}(k:codeY C y encs xs a st pre s (λe st' p' s'=>match e with| .normal=>codeY C y encs xs b st' p' s' Q|e=>Q e st' p' s')):codeY C y encs xs (.seq a b) st pre s Q:=k
def Cz{c}{a b}{v}(hv:evA C t c=.v (.bool v))(k1:v=true->codeY C y encs xs a ⟨t,h,n⟩ pre s Q)(k2:v=false->codeY C y encs xs b ⟨t,h,n⟩ pre s Q):codeY C y encs xs (.cond c a b) ⟨t,h,n⟩ pre s Q:=by
 simp only[codeY,hv];exact .mk k1 k2
def AA{id:Nat}{b:Code}{st:ASt}(k:codeY C y encs xs b st pre s (λe st' p' s'=>match e with| .exit i=>(match Nat.beq i id with|true=>Q .normal st' p' s'|false=>Q (.exit i) st' p' s')|e=>Q e st' p' s')):codeY C y encs xs (.block id b) st pre s Q:=k
def nU{c}{st}(hc:VS c=true)(k:eA C (bI C) c st (λe st'=>Q e st' pre s)):codeY C y encs xs c st pre s Q:=by
 cases c<;>first|exact Or.inl k|exact k|cases hc
def NH{b:Code}{st:ASt}{κ:Type}(S:κ->ASt)(pr:κ->List α)(G:κ->Prop)(μ:κ->Nat)(k0:κ)(σ:Nat->Nat)(hw:Weak st (S k0) σ)(hf:keepB C.fr σ (S k0).n=true)(hp:pr k0=pre)(h0:G k0)
  (round:∀k,G k->codeY C y encs xs b (S k) (pr k) false (λe st' p' s'=>match e with| .normal=>s'=false∧∃k' σ',Weak st' (S k') σ'∧keepB C.fr σ' (S k').n=true∧pr k'=p'∧G k'∧μ k'<μ k|e=>Q e st' p' s')):codeY C y encs xs (.loop b) st pre false Q:=
 ⟨rfl,.mk κ S pr G μ k0 σ hw hf hp h0 round⟩
def NI{id}{ops}{l}{st}(hl:ops.toList=l)(k){o}{f}{args}{ats}{rest}(hd:l.drop k=o::rest)(ho:o.op=.call {callee:=.value f,args:=args,argTypes:=ats})(hg:o.guard=none)
  (hr:jS C.noH (bI C.noH) l (l.take k) 0 st λst1=>∃x vs stw σ,Weak st1 stw σ∧keepB C.fr σ stw.n=true∧fullB stw.h stw.n=true∧Nat.ble stw.n st.n=true∧evA C stw.t f=.v y∧Ju (args.toList.map (evA C stw.t))=some vs∧encs x=vs.toArray∧pre++[x] <+: xs∧
    ∀b:Bool,jS C.noH (bI C.noH) l rest (k+1) ⟨Aa stw.t o.dst (.v (.bool b)),stw.h,st.n⟩ (λst2=>Q .normal st2 (pre++[x]) (!b))):codeY C y encs xs (.region id ops false) st pre false Q:=by
 subst hl;exact .inr ⟨rfl,rfl,.mk k o f args ats rest hd ho hg hr⟩
end
open Go.Proofs.Tryz
set_option maxRecDepth 100000
set_option maxHeartbeats 4000000
def unV:AV->Value
 | .v x=>x
 |_=>undef
def aeD(e:Ent):Value:=.agg ((enL e).map unV).toArray
def ZA(x:Nat×Ent):Array Value:= #[.int .i64 (x.1:Int),aeD x.2]
def afT(agI:List Ent):Nat->List (Nat×Ent)
 |0=>[]
 |n+1=>match agI[n]? with|some e=>(n,e)::afT agI n|none=>afT agI n
theorem Km{agI:List Ent}:∀{n:Nat},n<=agI.length->(afT agI n).length=n
 |0,_=>rfl
 |n+1,h=>by
  have e:agI[n]?=some agI[n]:=aA h;simp only[afT,e,bN,Km (mX h)]
theorem MY{agI:List Ent}:∀{n k:Nat} {x:Ent},n<=agI.length->0<k->k<=n->agI[k-1]?=some x->(afT agI n)[n-k]?=some (k-1,x)
 |0,k,x,_,h1,h2,_=>by omega
 | n+1,k,x,h,h1,h2,hx=>by
  have e:agI[n]?=some agI[n]:=aA h;simp only[afT,e];by_cases hk:k=n+1
  ·subst hk;rw[kB,e]at hx;cases hx;simp
  ·rw[(oT:n+1-k=(n-k)+1),dL];exact MY (mX h) h1 omT hx
theorem Ar{agI:List Ent}:∀{n:Nat} {x:Nat×Ent},x∈afT agI n->x.1<n∧agI[x.1]?=some x.2
 |0,x,h=>by cases h
 | n+1,x,h=>by
  simp only[afT]at h;split at h
  ·rename_i e he;rcases al_List_mem_cons.1 h with rfl|h
   ·exact⟨Nat.lt_succ_self _,he⟩
   ·exact⟨mW (Ar h).1,(Ar h).2⟩
  ·exact⟨mW (Ar h).1,(Ar h).2⟩
def Io(agI:List Ent)(n k:Nat):List (Nat×Ent):=(afT agI n).take (n-k)
def GP{agI}{n k}{x}(hn:n<=agI.length)(h1:0<k)(h2:k<=n)(hx:agI[k-1]?=some x):Io agI n (k-1)=Io agI n k++[(k-1,x)]:=by
 unfold Io;rw[(oT:n-(k-1)=(n-k)+1),bW,MY hn h1 h2 hx];rfl
def QL{agI:List Ent}{n k:Nat}:Io agI n k <+: afT agI n:=List.take_prefix _ _
def QM{agI:List Ent}{n:Nat}(hn:n<=agI.length):Io agI n 0=afT agI n:=by
 unfold Io;rw[Nat.sub_zero];exact aN (Nat.le_of_eq (Km hn))
def LM{agI}{n}:Io agI n n=[]:=by
 unfold Io;rw[eK];rfl
def acD(agI)(ck)(i)(hl:agI.length<=1000)(ho:∀x∈agI,x.ok)(hi:i<=1000):RN C0 170 [.dp 1 0 ([vN i]),.dp 1 0 ([.sl 17 (agI.map enL) ck])] ZA (afT agI (min i agI.length)):=by
 refine RN.intro c0Ok func170 rfl rfl (by kernel_rfl) rfl ?_;intro y;refine rQ<|nU rfl<|cRg<|oR 2 rfl<|rW _ rfl (cD enL agI)<|rW _ rfl (Bo i agI.length)<|oR 1 rfl<|rE 5<|AA<|NH (λk=>⟨slotsF [(0,.v y),(1,.dp 1 0 ([vN i])),(2,.dp 1 0 ([.sl 17 (agI.map enL) ck])),(4,vN k)],heapF [],5⟩) (λk=>Io agI (min i agI.length) k) (λk=>k<=min i agI.length) (λk=>k) (min i agI.length) (λs=>s) (wOL (λs=>s) wT trivial rfl) rfl (LM) (aC _) ?_;intro k hk;have hkB:k<=1000:=by have:k<=min i agI.length:=hk;omega
 refine rQ<|rQ<|nU rfl<|cRg<|oR 1 rfl<|rW _ rfl (okB (gtN _ _))<|rE 7<|Cz (v:=decide (k>0)) rfl (λh1=>?_) (λh1=>?_)
 ·have h1p:=af0 h1;refine nU rfl<|mF<|rQ<|AA<|rQ<|NI rfl 8 rfl rfl rfl<|oR 2 rfl ?_;have b1:k-1<=1000:=aL (jT _ _) hkB;refine rW _ rfl (okI (DA omT hkB rfl))<|oR 2 rfl ?_;have b2:k-1<=1000:=aL (jT _ _) hkB;refine rW _ rfl (okI (DA omT hkB rfl)) ?_;obtain⟨x,hx⟩:∃y_,agI[(k-1)]?=some y_:=⟨_,aA omT⟩;have hxo:=ho x (aB hx);refine rIx (enL x) (.dp 17 0 (enL x)) rfl rfl (iH hx) rfl<|oR 1 rfl<|rE 15 ?_;refine⟨(k-1,x),_,⟨slotsF [(0,.v y),(1,.dp 1 0 ([vN i])),(2,.dp 1 0 ([.sl 17 (agI.map enL) ck])),(4,vN k),(13,.v y),(15,vN (k-1)),(20,.agg (enL x))],heapF [],0⟩,λs=>s,wOL _ wT trivial rfl,rfl,rfl,rfl,rfl,rfl,rfl,(by rw[<-GP (eX _ _) h1p hk hx];exact QL),λyb1=>?_⟩;refine oR 1 rfl<|rE 17<|Cz (v:= !yb1) rfl (λh2=>?_) (λh2=>?_)
  ·refine nU rfl<|FQ ?_;intro hs;rw[h2]at hs;cases hs
  refine nU rfl<|mF<|nU rfl<|cRg<|oR 1 rfl ?_;have b3:k-1<=1000:=aL (jT _ _) hkB;refine rW _ rfl (okI (DA omT hkB rfl))<|oR 1 rfl<|rE 20 ?_;refine⟨h2,k-1,λs=>s,wOL _ wT trivial rfl,rfl,(GP (eX _ _) h1p hk hx),(by show k-1<=min i agI.length;omega),(by show k-1<k;omega)⟩
 have h1p:=aF h1;refine nU rfl<|Bh ?_;intro _;obtain rfl:k=0:=oT;exact QM (eX _ _)
theorem Du{agI:List Ent}{reg:Int}:∀{n:Nat},n<=agI.length->(∀y,y∈afT agI n-> ¬wr y.2.i=reg)->makerTo agI reg n=none
 |0,_,_=>rfl
 |n+1,h,hN=>by
  have e:agI[n]?=some agI[n]:=aA h;simp only[afT,e]at hN;have h0: ¬wr agI[n].i=reg:=hN (n,agI[n]) al_List_mem_cons_self;simp only[makerTo,LS,e];rw[dZ (sU h0)];exact Du (mX h) λy hy=>hN y (bY _ hy)
theorem Dv{agI:List Ent}{reg:Int}:∀{n:Nat} {pre:List (Nat×Ent)} {x:Nat×Ent},n<=agI.length->pre++[x] <+: afT agI n->(∀y,y∈pre-> ¬wr y.2.i=reg)->wr x.2.i=reg->makerTo agI reg n=some x.1
 |0,pre,x,_,h,_,_=>by have:=h.length_le;simp[afT]at this
 | n+1,pre,x,hn,h,hN,hx=>by
  have e:agI[n]?=some agI[n]:=aA hn;simp only[afT,e]at h;simp only[makerTo,LS,e]
  cases pre with
  | nil=>
   obtain rfl:x=(n,agI[n]):=by
    obtain⟨t,ht⟩:=h;exact(List.cons.inj ht).1
   rw[af1 (sU hx)]
  |cons y l=>
   obtain⟨t,ht⟩:=h;obtain⟨h3,h4⟩:=List.cons.inj ht;subst h3;have h0: ¬wr agI[n].i=reg:=hN (n,agI[n]) al_List_mem_cons_self;rw[dZ (sU h0)];exact Dv (mX hn) ⟨t,h4⟩ (λy hy=>hN y (bY _ hy)) hx
def acE(agI:List Ent)(ck)(i)(hl:agI.length<=1000)(ho:∀x∈agI,x.ok)(hi:i<=1000):bI C0 153 [.sl 17 (agI.map enL) ck,vN i] (.clo 170 [] [.dp 1 0 [vN i],.dp 1 0 [.sl 17 (agI.map enL) ck]]):=by
 refine dIZ func153 rfl ?_;refine zV _ ?_;exact dK rfl tvT rfl rfl
def QN(agI)(ck)(i)(reg)(hl:agI.length<=1000)(ho:∀x∈agI,x.ok)(hi:i<=1000):bI C0 113 [.sl 17 (agI.map enL) ck,vN i,vI reg] (vI (DM (gX agI i reg))):=by
 refine bI.introR (λd=>c0Ok.wd d) (λn=>c0Ok.at) func113 rfl rfl (by kernel_rfl) rfl<|uO<|tQ rfl<|cRg<|rAl 0 rfl rfl<|rAl 1 rfl rfl<|rE 2<|uO<|uO<|tQ rfl<|cRg<|oR 1 rfl<|rV (vB (decide (reg<1))) rfl<|oR 1 rfl<|gN rfl<|gBS rfl id rfl<|bO rfl rfl rfl (by simp)<|rE 8<|VT rfl (λh1=>?_) (λh1=>?_)
 ·refine uO<|tQ rfl<|cRg<|rSt rfl<|rE 9<|tQ rfl<|FQ ?_;have hb:(reg<1∨reg>31):=by have z:=h1;simp only[cOr]at z;grind
  have e:gX agI i reg=none:=af1 hb;rw[e];exact fT rfl rfl
 refine tQ rfl<|mF<|uO<|uO<|tQ rfl<|cRg<|oR 2 rfl<|rCi rfl (acE agI ck i hl ho hi)<|rE 11<|Ja<|Md (.mk _ (.refl _) ⟨⟨slotsF [(5,.ptr 0 0),(6,.ptr 1 0),(17,.clo 170 [] [.dp 1 0 ([vN i]),.dp 1 0 ([.sl 17 (agI.map enL) ck])])],heapF [(0,.box [vI reg]),(1,.box [vI 0])],2⟩,λs=>s,wOL _ wT wH rfl,rfl,?_⟩);refine .mk (Nat×Ent) 170 [.dp 1 0 ([vN i]),.dp 1 0 ([.sl 17 (agI.map enL) ck])] (λx:Nat×Ent=>[vN x.1,.agg (enL x.2)]) ZA (afT agI (min i agI.length)) (λx:Nat×Ent=> ¬wr x.2.i=reg) 2 (λ_=>heapF [(0,.box [vI reg]),(1,.box [vI 0])]) (λ_=>2) rfl rfl ⟨_,func170,rfl,rfl⟩ (acD agI ck i hl ho hi) (λx S w β=>BL (show Ju [vN x.1,.agg (enL x.2)]=some _ from rfl)) (λ_=>rfl) rfl rfl (λ_=>rfl) (wOL (hp:=[]) (λs=>s) wT trivial rfl) ?_ ?_
 ·intro pre_ x hp_ hN_;have hxm:=Ar (hp_.subset (List.mem_append_right _ (uJ.2 rfl)));have hx1:x.1<=1000:=oH hxm.1;have hxo:=ho x.2 (aB hxm.2);refine cSR<|oR 1 rfl<|rE 3<|cRg<|rAl 3 rfl rfl<|rSt rfl<|rE 5 ?_;refine⟨rfl,?_⟩;refine kO<|cSR<|oR 2 rfl<|rCi rfl (Da x.2.i)<|oR 1 rfl<|rV (vB ((wr x.2.i)==reg)) rfl<|rE 10<|aV rfl (λh2=>?_) (λh2=>?_)
  ·have h2p:=mT h2;refine cSR<|oR 1 rfl<|rSt rfl<|rE 12<|FQ<|.mk _ (.refl _) ⟨heapF [(0,.box [vI reg]),(1,.box [vN x.1])],2,λs=>s,rfl,rfl,wOL (l:=[]) (hp:=[(0,.box [vI reg]),(1,.box [vN x.1])]) (λs=>s) trivial wH rfl,?_⟩;intro D;have hb: ¬(reg<1∨reg>31):=by have z:=h1;simp only[cOr]at z;grind
   have e:gX agI i reg=some x.1:=(dZ hb).trans (Dv (eX _ _) hp_ hN_ (mT h2));rw[e];exact fT rfl rfl
  have h2p:=nA h2;refine mF ?_;exact⟨nA h2,.mk _ (.refl _) ⟨λs=>s,rfl,wOL (l:=[]) (hp:=[(0,.box [vI reg]),(1,.box [vI 0])]) (λs=>s) trivial wH rfl⟩⟩
 intro hN D;refine uO<|tQ rfl<|cRg<|rSt rfl<|rE 3<|tQ rfl<|FQ ?_;have hb: ¬(reg<1∨reg>31):=by have z:=h1;simp only[cOr]at z;grind
 have e:gX agI i reg=none:=(dZ hb).trans (Du (eX _ _) hN);rw[e];exact fT rfl rfl
theorem GO{agI:List Ent}{reg:Int}:∀{n k:Nat},makerTo agI reg n=some k->k<n
 |0,k,h=>by cases h
 |n+1,k,h=>by
  simp only[makerTo]at h;split at h
  ·injection h with h;omega
  ·have:=GO h;omega
def EY{agI}{i k}{reg}(h:gX agI i reg=some k):k<i∧k<agI.length:=by
 unfold gX at h;split at h
 ·cases h
 have:=GO h;omega
def MW{o}(h:DM o<0):o=none:=by cases o with|none=>rfl|some k=>exact absurd h (by show ¬((k:Int)<0);omega)
def Im{o}(h: ¬DM o<0):∃k,o=some k:=by cases o with|none=>exact absurd dT h|some k=>exact⟨k,rfl⟩
def Kl(agI)(r)(ck)(i)(reg)(hl:agI.length<=1000)(ho:∀x∈agI,x.ok)(hr:∀k,r k<=4294967295)(hi:i<=1000):bI C0 65 [.sl 17 (agI.map enL) ck,.agg (Ks r),vN i,vI reg] (.tup [vU ((lK agI r i reg).getD 0),vB (lK agI r i reg).isSome]):=by
 refine dIZ func65 rfl<|zVB _ (λh1=>?_) (λh1=>?_)
 ·have h1p:=mT h1;have hrd:lK agI r i reg=some 0:=by unfold lK;rw[af1 h1p]
  exact fT rfl (by rw[hrd];rfl)
 have h1p:=nA h1;refine zV (vB (decide (reg<0)))<|gBS rfl id rfl<|zN rfl (by simp)<|zB rfl (λh2=>?_) (λh2=>?_)
 ·have hb:(reg<0∨reg>31):=by have z:=h2;simp only[cOr]at z;grind
  have hrd:lK agI r i reg=none:=by unfold lK;rw[dZ h1p,af1 hb]
  exact fT rfl (by rw[hrd];rfl)
 have hb: ¬(reg<0∨reg>31):=by have z:=h2;simp only[cOr]at z;grind
 refine zC (QN agI ck (i) (reg) hl ho omT)<|zVB _ (λh3=>?_) (λh3=>?_)
 ·have h3p:=af0 h3;have hj:=MW h3p;refine nW (.ptr 0 (0+reg.toNat*1)) rfl rfl omT<|zW _ (ldL r reg.toNat omT) ?_;have hrd:lK agI r i reg=some (r reg.toNat):=by unfold lK;rw[dZ h1p,dZ hb,hj]
  exact fT rfl (by rw[hrd];rfl)
 have h3p:=aF h3;obtain⟨j,hj⟩:=Im h3p;have hjl:=EY hj;obtain⟨x,hx⟩:∃x,agI[j]?=some x:=⟨_,aA hjl.2⟩;refine FO (enL x) rfl rfl rfl (by rw[hj];exact⟨aG _,iH hx⟩) rfl<|qR 0 rfl<|zV (vB (x.is==3))<|gS rfl id<|gBS rfl id rfl<|zN rfl (λh=>h)<|zB rfl (λh4=>?_) (λh4=>?_)
 ·have hd:(x.is=3∧x.halt=0):=by have z:=h4;simp only[qA]at z;grind
  have hrd:lK agI r i reg=some x.value:=by unfold lK;rw[dZ h1p,dZ hb,hj];simp only[hx];exact af1 hd
  exact fT rfl (by rw[hrd];rfl)
 have hd: ¬(x.is=3∧x.halt=0):=by have z:=h4;simp only[qA]at z;grind
 have hrd:lK agI r i reg=none:=by unfold lK;rw[dZ h1p,dZ hb,hj];simp only[hx];exact dZ hd
 exact fT rfl (by rw[hrd];rfl)
def Ck{agI}{r}(ho:∀x∈agI,x.ok)(hr:∀k,r k<=4294967295)(i)(reg):(lK agI r i reg).getD 0<=4294967295:=by
 unfold lK;split
 ·exact aE _
 split
 ·exact aE _
 split
 ·exact hr _
 split
 ·rename_i e he;split
  ·exact(ho e (aB he)).value
  exact aE _
 exact aE _
def VK(agI)(r)(ck)(i)(hl:agI.length<=1000)(ho:∀x∈agI,x.ok)(hr:∀k,r k<=4294967295)(hi:i<=1000):bI C0 120 [.sl 17 (agI.map enL) ck,.agg (Ks r),vN i] (.tup [vU (mI agI r i).1,vU (mI agI r i).2.1,vB (mI agI r i).2.2]):=by
 refine dIZ func120 rfl<|zW _ (okB (ltN _ _))<|gBS rfl id (cD enL agI)<|gBS rfl hsT (okB (geN _ _))<|zN rfl (by simp)<|zB rfl (λh1=>?_) (λh1=>?_)
 ·have hb:(i>=agI.length):=by have z:=h1;simp only[cOr]at z;grind
  have hn:agI[i]?=none:=bE omT;exact fT rfl (by rw[show mI agI r i=(0,0,false)from by unfold mI;rw[hn]];rfl)
 have hb: ¬(i>=agI.length):=by have z:=h1;simp only[cOr]at z;grind
 obtain⟨x,hx⟩:∃y_,agI[i]?=some y_:=⟨_,aA omT⟩;have hxo:=ho x (aB hx);refine zX _ (.dp 17 0 (enL x)) rfl (iH hx)<|zC (Fs x.i)<|zC (Kl agI r ck (i) (x.i.ag0) hl ho hr omT)<|zC (Kl agI r ck (i) (x.i.ag1) hl ho hr omT)<|zN rfl (λh=>h) ?_;exact fT rfl (by rw[show mI agI r i=((lK agI r i x.i.ag0).getD 0,(lK agI r i x.i.ag1).getD 0,(lK agI r i x.i.ag0).isSome&&(lK agI r i x.i.ag1).isSome)from by unfold mI;rw[hx]];simp only[<-qA];rfl)
def acC(e)(he:e.ok):bI C0 187 [.agg (enL e)] (vB (LT e)):=by
 refine dIZ func187 rfl<|zVB _ (λh1=>?_) (λh1=>?_)
 ·replace h1:=sP h1;exact fT rfl (dR (by unfold LT;grind))
 refine zC (pS e.i)<|zWB (okB (eqN _ _)) (λh2=>?_) (λh2=>?_)
 ·replace h1:=sP h1;replace h2:=sP h2;exact fT rfl (dR (by unfold LT;grind))
 refine zWB (okB (eqN _ _)) (λh3=>?_) (λh3=>?_)
 ·refine zB rfl (λ_=>?_) (λh4=>Bool.noConfusion (h3.symm.trans h4));replace h1:=sP h1;replace h2:=sP h2;replace h3:=sP h3;exact fT rfl (dR (by unfold LT;grind))
 refine zWB (okB (eqN _ _)) (λh5=>?_) (λh5=>?_)
 ·refine zB rfl (λ_=>?_) (λh6=>Bool.noConfusion (h5.symm.trans h6));replace h1:=sP h1;replace h2:=sP h2;replace h3:=sP h3;replace h5:=sP h5;exact fT rfl (dR (by unfold LT;grind))
 refine zWB (okB (eqN _ _)) (λh7=>?_) (λh7=>?_)
 all_goals (replace h1:=sP h1;replace h2:=sP h2;replace h3:=sP h3;replace h5:=sP h5;replace h7:=sP h7;exact fT rfl (dR (by unfold LT;grind)))
def Xd{α:Type}{p:α->Bool}{l:List α}{k:Nat}{x:α}(hx:l[k]?=some x)(hp:p x=true)(h:∀y∈l.take k,p y=false):l.findIdx p=k:=by
 have:=QP hx hp h;rw[List.findIdx?_eq_some_iff_findIdx_eq]at this;exact this.2
def Xe{α}{p}{l:List α}{k}(hk:l.length<=k)(h:∀y∈l.take k,p y=false):l.findIdx p=l.length:=by
 rw[aN hk]at h;exact List.findIdx_eq_length.2 h
def QJ(agI)(ck)(hl:agI.length<=1000)(ho:∀x∈agI,x.ok):bI C0 172 [.sl 17 (agI.map enL) ck] (vN (Cq agI)):=by
 refine dJZ func172 rfl<|zW _ (cD enL agI)<|zLo (λk=>⟨slotsF [(0,.sl 17 _ ck),(5,.sl 17 _ ck),(6,vN agI.length),(7,vN k)],heapF [],4⟩) (λk=>k<=agI.length∧∀y∈agI.take k,(!LT y)=false) (λk=>agI.length-k) 0 (λs=>s) (wOL (λs=>s) wT trivial rfl) (⟨aE _,QQ⟩) ?_;intro k hk;have hkn:k<=agI.length:=hk.1;have hkB:k<=1000000:=oT;refine zWB (okB (ltN _ _)) (λh1=>?_) (λh1=>?_)
 ·have h1p:=af0 h1;obtain⟨x,hx⟩:∃y_,agI[k]?=some y_:=⟨_,aA omT⟩;have hxo:=ho x (aB hx);refine zX _ (.dp 17 0 (enL x)) rfl (iH hx)<|zC (acC x hxo)<|zB rfl (λh2=>?_) (λh2=>?_)
  ·exact fT rfl (abR (by unfold Cq;rw[Xd hx (sU h2) hk.2]))
  skip
  have b1:k+1<=1000001:=aD hkB (aC 1);refine zW _ (okI (bH b1 rfl)) ?_;refine⟨k+1,λs=>s,wOL _ wT trivial rfl,⟨oT,QO hx (sU h2) hk.2⟩,by show agI.length-(k+1)<agI.length-k;omega⟩
 have h1p:=aF h1;refine zW _ (cD enL agI) ?_;exact fT rfl (abR (by unfold Cq;rw[Xe omT hk.2]))
def MX(agI)(ck)(i)(hl:agI.length<=1000)(ho:∀x∈agI,x.ok)(hi:i<=1000):bI C0 158 [.sl 17 (agI.map enL) ck,vN i] (vB (vC agI i)):=by
 refine dIZ func158 rfl<|zW _ (okB (geN _ _))<|gBS rfl id (cD enL agI)<|gBS rfl hsT (okB (leN _ _))<|zN rfl (λh=>h)<|jQ rfl rfl rfl rfl (λh=>h) rfl rfl rfl (.inl rfl) rfl (λhg=>QJ agI ck hl ho)<|gBS rfl hsT (okB (leN _ _))<|zN rfl (λh=>h) ?_;exact fT rfl (dR (by unfold vC;rw[bB];simp[qA]))
theorem mH(agI:List Ent):∀k,(eS agI k).length=k
 |0=>rfl
 |k+1=>by simp only[eS,aU,mH agI k,bN,cX]
def Ub{agI}{k j}{x}{o}(ho:o=some j)(hx:(eS agI k)[j]?=some x):sZ (eS agI k) o=x:=by
 subst ho;show(eS agI k).getD j _=x;rw[aR,hx];rfl
def QK(agI)(ck)(i k)(reg)(hl:agI.length<=1000)(ho:∀x∈agI,x.ok)(hi:i<=k)(hk:k<=1000):pM C0.P C0.G 186 [vN i,vI reg,.ptr 0 0,.ptr 1 0] (heapF [(0,.box [.sl 17 (agI.map enL) ck]),(1,.box [.osl 2 0 k false]),(2,.arr ((eS agI k).map ae4) 1)]) 3 (λx h'=>x=vI (sZ (eS agI k) (gX agI i reg))∧h'=heapF [(0,.box [.sl 17 (agI.map enL) ck]),(1,.box [.osl 2 0 k false]),(2,.arr ((eS agI k).map ae4) 1)]):=by
 refine HCall.intro c0Ok.at func186 rfl rfl (by kernel_rfl) rfl rfl<|qS 0 rfl<|zC (QN agI ck (i) (reg) hl ho omT)<|zVB _ (λh1=>?_) (λh1=>?_)
 ·have h1p:=af0 h1;obtain⟨j,hj⟩:=Im (oT:¬DM (gX agI i reg)<0);have hjl:=EY hj;have hrk:=mH agI k;refine nW _ rfl ((show Res.need _ (AV.ptr2 2 (0+(DM (gX agI i reg)).toNat) 0)=Res.need _ (AV.ptr2 2 (0+j) 0)from by rw[hj];rfl)) (by(try rw[hj]);exact⟨aG _,by show(j:Int)<(k:Int);omega⟩) ?_;obtain⟨x,hx⟩:∃y_,(eS agI k)[j]?=some y_:=⟨_,aA omT⟩;refine zX _ (vI x) rfl (Jv (iH hx))<|BH rfl ⟨rfl,rfl⟩ rfl (af8 (λz=>z) (by rw[Ub hj hx];rfl) rfl wH rfl)
 have h1p:=aF h1;have hj:=MW (oT:DM (gX agI i reg)<0);refine BH rfl ⟨rfl,rfl⟩ rfl (af8 (λz=>z) (by rw[hj];rfl) rfl wH rfl)
def Zv(a b:Int):(if b>a then b else a)=max a b:=oT
def EZ{p}{H}{s rs}{agI}{k}{x}(hl:(eS agI k).length=k)(hx:x=DB agI (eS agI k) k):
  Res.fx p (.osl s 0 ((List.take k (List.drop 0 ((eS agI k).map ae4))).length+[[AV.v (.int .i64 x)]].length) false) (upd H s (some (.arr (List.take k (List.drop 0 ((eS agI k).map ae4))++[[AV.v (.int .i64 x)]]) rs)))=.fx p (.osl s 0 (k+1) false) (upd H s (some (.arr ((eS agI (k+1)).map ae4) rs))):=by
 rw[bS,aN (by rw[aH,hl];exact aC _),aH,hl];simp only[eS,dH,jC,List.map_nil, <-hx];rfl
def Zw(agI)(ck)(hl:agI.length<=1000)(ho:∀x∈agI,x.ok):bI C0 171 [.sl 17 (agI.map enL) ck] (.sl 1 ((afS agI).map ae4) false):=by
 refine dJZ func171 rfl<|zC (QJ agI ck hl ho)<|rW _ rfl (cD enL agI)<|zF (rfl) (⟨dT,FG.2 omT,by show((agI.length:Nat):Int)<=1000000;omega⟩)<|zV (.clo 186 [] [.ptr 0 0,.ptr 8 0])<|zW _ (cD enL agI)<|zLo (λk=>⟨slotsF [(2,.sl 0 ([]) true),(3,vN (Cq agI)),(4,.ptr 8 0),(5,.clo 186 [] [.ptr 0 0,.ptr 8 0]),(17,.sl 17 (agI.map enL) ck),(18,vN agI.length),(19,vN k)],heapF [(0,.box [.sl 17 (agI.map enL) ck]),(7,.arr ((eS agI k).map ae4) 1),(8,.box [.osl 7 0 k false])],15⟩) (λk=>k<=agI.length) (λk=>agI.length-k) 0 (λs=>s) (wOL (λs=>s) wT wH rfl) (aE _) ?_;intro k hk;have hkn:k<=agI.length:=hk;have hkB:k<=1000:=oT;refine zWB (okB (ltN _ _)) (λh1=>?_) (λh1=>?_)
 ·have h1p:=af0 h1;obtain⟨x,hx⟩:∃y_,agI[k]?=some y_:=⟨_,aA omT⟩;have hxo:=ho x (aB hx);refine zX (enL x) (.dp 17 0 (enL x)) rfl (iH hx)<|rCi rfl (pS x.i)<|zWB (okB (neN _ _)) (λh2=>?_) (λh2=>?_)
  ·have h2p:=wM h2;refine zC (Fs x.i)<|zH rfl ((QK agI ck k k x.i.ag0 hl ho (aC k) omT).frameU (λz=>match z with|0=>0|1=>8|2=>7|z=>z) _ _ rfl ⟨⟨rfl,rfl,rfl,rfl⟩,⟨rfl,rfl,rfl,rfl⟩,⟨rfl,rfl,rfl,rfl⟩,trivial⟩ rfl rfl rfl) ?_;rintro _ _ ⟨rfl,rfl⟩;refine fU _ rfl rfl rfl ((QK agI ck k k x.i.ag1 hl ho (aC k) omT).frameU (λz=>match z with|0=>0|1=>8|2=>7|z=>z) _ _ rfl ⟨⟨rfl,rfl,rfl,rfl⟩,⟨rfl,rfl,rfl,rfl⟩,⟨rfl,rfl,rfl,rfl⟩,trivial⟩ rfl rfl rfl) ?_;rintro _ _ ⟨rfl,rfl⟩;refine zW (vI (if(sZ (eS agI k) (gX agI k x.i.ag1))>(sZ (eS agI k) (gX agI k x.i.ag0))then(sZ (eS agI k) (gX agI k x.i.ag1))else(sZ (eS agI k) (gX agI k x.i.ag0)))) rfl<|rV (.sl 1 ([[vI (if(sZ (eS agI k) (gX agI k x.i.ag1))>(sZ (eS agI k) (gX agI k x.i.ag0))then(sZ (eS agI k) (gX agI k x.i.ag1))else(sZ (eS agI k) (gX agI k x.i.ag0)))]]) true) rfl ?_;have hrt:(if(sZ (eS agI k) (gX agI k x.i.ag1))>(sZ (eS agI k) (gX agI k x.i.ag0))then(sZ (eS agI k) (gX agI k x.i.ag1))else(sZ (eS agI k) (gX agI k x.i.ag0)))=DB agI (eS agI k) k:=by unfold DB;rw[hx];exact(Zv _ _).trans (af1 h2p).symm
   refine zF (EZ (mH agI k) hrt) (⟨by simp only[aH,bN,cX,aM,bD,mH,jH];omega,by simp only[aH,mH];omega,trivial⟩) ?_;have b1:k+1<=1001:=aD hkB (aC 1);refine zW _ (okI (bH b1 rfl)) ?_;refine⟨k+1,λz=>match z with|7=>48|z=>z,wOL _ wT wH rfl,oT,by show agI.length-(k+1)<agI.length-k;omega⟩
  have h2p:=wN h2;refine zWB (okB (gtN _ _)) (λh3=>?_) (λh3=>?_)
  ·have h3p:=af0 h3;refine rV (.sl 1 ([[vN k]]) true) rfl ?_;have hrt:(k:Int)=DB agI (eS agI k) k:=by unfold DB;rw[hx];dsimp only;rw[dZ (show ¬kindOf x.i.op≠3 from λq=>q h2p),af1 h3p]
   refine zF (EZ (mH agI k) hrt) (⟨by simp only[aH,bN,cX,aM,bD,mH,jH];omega,by simp only[aH,mH];omega,trivial⟩) ?_;have b2:k+1<=1001:=aD hkB (aC 1);refine zW _ (okI (bH b2 rfl)) ?_;refine⟨k+1,λz=>match z with|7=>35|z=>z,wOL _ wT wH rfl,oT,by show agI.length-(k+1)<agI.length-k;omega⟩
  have h3p:=aF h3;refine rV (.sl 1 ([[vI (-1)]]) true) rfl ?_;have hrt:(-1)=DB agI (eS agI k) k:=by unfold DB;rw[hx];dsimp only;rw[dZ (show ¬kindOf x.i.op≠3 from λq=>q h2p),dZ h3p]
  refine zF (EZ (mH agI k) hrt) (⟨by simp only[aH,bN,cX,aM,bD,mH,jH];omega,by simp only[aH,mH];omega,trivial⟩) ?_;have b3:k+1<=1001:=aD hkB (aC 1);refine zW _ (okI (bH b3 rfl)) ?_;refine⟨k+1,λz=>match z with|7=>33|z=>z,wOL _ wT wH rfl,oT,by show agI.length-(k+1)<agI.length-k;omega⟩
 have h1p:=aF h1;have hke:k=agI.length:=oT;subst hke;refine dK rfl (by show 0+agI.length<=((eS agI agI.length).map ae4).length;rw[aH,mH];omega) rfl ?_;show AV.sl 1 (List.take agI.length (List.drop 0 ((eS agI agI.length).map ae4))) false=_;rw[jW ae4 (eS agI agI.length) (by rw[mH];exact aC _)];rfl
def Zx{agI}{i}{reg}(hg:decide (DM (gX agI i reg)>=0)=true):0<=DM (gX agI i reg)∧((afS agI).map ae4)[(DM (gX agI i reg)).toNat]?=some (ae4 ((afS agI).getD (DM (gX agI i reg)).toNat (-1))):=by
 have h:=af0 hg;obtain⟨j,hj⟩:=Im (oT:¬DM (gX agI i reg)<0);refine⟨h,?_⟩;rw[hj];have hl:=(EY hj).2;have hr:(afS agI).length=agI.length:=mH agI agI.length;show((afS agI).map ae4)[j]?=some (ae4 ((afS agI).getD j (-1)));rw[aX,aR,aA omT];rfl
def Uc(agI)(i)(reg):cE (decide (DM (gX agI i reg)>=0)) (decide ((afS agI).getD (DM (gX agI i reg)).toNat (-1)>=0)) false=IC agI i reg:=by
 unfold IC
 cases h:gX agI i reg with
 |none=>rfl
 |some j=>
  rw[show decide (DM (some j)>=0)=true from jP (aG _)];rfl
def Ud(agI)(ck)(i)(reg)(hl:agI.length<=1000)(ho:∀x∈agI,x.ok)(hi:i<=1000):bI C0 156 [.sl 17 (agI.map enL) ck,vN i,vI reg] (vB (IC agI i reg)):=by
 refine dIZ func156 rfl<|zC (QN agI ck (i) (reg) hl ho omT)<|zV (vB (decide ((DM (gX agI (i) (reg)))>=0)))<|zQ rfl (λh=>h) rfl (.inl rfl) (λhg=>Zw agI ck hl ho)<|DK _ rfl rfl rfl rfl hsT rfl rfl (λhg=>Zx hg) rfl<|gS rfl id<|gBS rfl id rfl<|zN rfl (λh=>h) ?_;exact fT rfl (dR (Uc agI i reg))
def Zy(e)(he:e.ok):bI C0 154 [.agg (enL e)] (vB (DC e)):=by
 refine dIZ func154 rfl<|zC (pS e.i)<|zWB (okB (eqN _ _)) (λh1=>?_) (λh1=>?_)
 ·refine zB rfl (λ_=>?_) (λh2=>Bool.noConfusion (h1.symm.trans h2));replace h1:=sP h1;exact fT rfl (dR (by unfold DC;rw[bB];simp only[aY];grind))
 refine zWB (okB (eqN _ _)) (λh3=>?_) (λh3=>?_)
 ·refine zB rfl (λ_=>?_) (λh4=>Bool.noConfusion (h3.symm.trans h4));replace h1:=sP h1;replace h3:=sP h3;exact fT rfl (dR (by unfold DC;rw[bB];simp only[aY];grind))
 refine zWB (okB (eqN _ _)) (λh5=>?_) (λh5=>?_)
 ·refine zB rfl (λ_=>?_) (λh6=>Bool.noConfusion (h5.symm.trans h6));replace h1:=sP h1;replace h3:=sP h3;replace h5:=sP h5;exact fT rfl (dR (by unfold DC;rw[bB];simp only[aY];grind))
 refine zWB (okB (eqN _ _)) (λh7=>?_) (λh7=>?_)
 all_goals (replace h1:=sP h1;replace h3:=sP h3;replace h5:=sP h5;replace h7:=sP h7;exact fT rfl (dR (by unfold DC;rw[bB];simp only[aY];grind)))
def Zz(e)(he:e.ok):bI C0 157 [.agg (enL e)] (.sl 1 ((qD e).map ae4) true):=by
 refine dIZ func157 rfl<|zC (Fs e.i)<|zC (pS e.i)<|zW (vB ((kindOf e.i.op)==3)) (okB (eqN _ _))<|zB rfl (λh1=>?_) (λh1=>?_)
 ·have h1p:=mT h1;refine zB rfl (λ_=>?_) (λh2=>Bool.noConfusion (h1.symm.trans h2));refine zV _ ?_;exact fT rfl (by rw[show qD e=[e.i.ag0]from by unfold qD;exact af1 omT];rfl)
 have h1p:=nA h1;refine zW (vB ((kindOf e.i.op)==4)) (okB (eqN _ _))<|zB rfl (λh3=>?_) (λh3=>?_)
 ·have h3p:=mT h3;refine zV _ ?_;exact fT rfl (by rw[show qD e=[e.i.ag0]from by unfold qD;exact af1 omT];rfl)
 have h3p:=nA h3;refine zV _ ?_;exact fT rfl (by rw[show qD e=[e.i.ag0,e.i.ag1]from by unfold qD;exact dZ omT];rfl)
def Ue(e):(qD e).length<=2:=by unfold qD;split<;>simp
def Xf(agI)(ck)(i)(reg)(hl:agI.length<=1000)(ho:∀x∈agI,x.ok)(hi:i<=1000):bI C0 155 [vI reg,.dp 1 0 [.sl 17 (agI.map enL) ck],.dp 1 0 [vN i]] (vB (!IC agI i reg)):=by
 refine dIZ func155 rfl ?_;refine zC (Ud agI ck i reg hl ho hi) ?_;exact fT rfl rfl
def aeC(mode)(agI)(ck)(i)(hl:agI.length<=1000)(ho:∀x∈agI,x.ok)(hi:i<=1000):bI C0 119 [vI mode,.sl 17 (agI.map enL) ck,vN i] (vB (Pr mode agI i)):=by
 refine dIZ func119 rfl<|zW _ (okB (ltN _ _))<|gBS rfl id (cD enL agI)<|gBS rfl hsT (okB (geN _ _))<|zN rfl (by simp)<|zB rfl (λh1=>?_) (λh1=>?_)
 ·have hb:(i>=agI.length):=by have z:=h1;simp only[cOr]at z;grind
  have hn:agI[i]?=none:=bE omT;exact fT rfl (dR (by unfold Pr;rw[hn]))
 have hb: ¬(i>=agI.length):=by have z:=h1;simp only[cOr]at z;grind
 obtain⟨x,hx⟩:∃y_,agI[i]?=some y_:=⟨_,aA omT⟩;have hxo:=ho x (aB hx);refine zX (enL x) (.dp 17 0 (enL x)) rfl (iH hx)<|zC (Zy x hxo)<|zB rfl (λh2=>?_) (λh2=>?_)
 ·exact fT rfl (dR (by unfold Pr;rw[hx];dsimp only;rw[af1 (sU h2)]))
 refine zV (.clo 155 [] [.ptr 0 0,.ptr 1 0])<|zVB (mode==0) (λh3=>?_) (λh3=>?_)
 ·have h3p:=mT h3;exact fT rfl (dR (by unfold Pr;rw[hx];dsimp only;rw[dZ (sU h2),af1 h3p]))
 have h3p:=nA h3;refine zVB (mode==1) (λh4=>?_) (λh4=>?_)
 ·have h4p:=mT h4;refine zX (enL x) (.dp 17 0 (enL x)) rfl (iH hx)<|rCi rfl (Zz x hxo)<|zW _ (cD ae4 (qD x))<|zLo (λk=>⟨slotsF [(4,.ptr 0 0),(5,.ptr 1 0),(17,vB (cE (decide (i<0)) true (decide (i>=agI.length)))),(23,vB (!(DC x))),(7,.clo 155 [] [.ptr 0 0,.ptr 1 0]),(25,vI mode),(26,vB (mode==0)),(28,vB (mode==1)),(34,.sl 1 ((qD x).map ae4) true),(35,vN ((qD x).length)),(36,vN k)],heapF [(0,.box [.sl 17 (agI.map enL) ck]),(1,.box [vN i])],31⟩) (λk=>k<=(qD x).length∧((qD x).take k).all (λreg=> !IC agI i reg)=true) (λk=>(qD x).length-k) 0 (λs=>s) (wOL (λs=>s) wT wH rfl) (⟨aE _,rfl⟩) ?_;intro k hk;have hkn:k<=(qD x).length:=hk.1;have hkB:k<=1000000:=oH (Ue x);refine zWB (okB (ltN _ _)) (λh5=>?_) (λh5=>?_)
  ·have h5p:=af0 h5;obtain⟨rg,hrg⟩:∃y_,(qD x)[k]?=some y_:=⟨_,aA omT⟩;refine zX (ae4 rg) (.dp 1 0 (ae4 rg)) rfl (iH hrg)<|zL rfl (.inr ⟨rfl,trivial,trivial,trivial,trivial⟩) (Xf agI ck i rg hl ho hi)<|zB rfl (λh6=>?_) (λh6=>?_)
   ·have z:=h6;exact fT rfl (dR (by unfold Pr;rw[hx];dsimp only;rw[dZ (sU h2),dZ h3p,af1 h4p,Ir hrg (sU z)]))
   skip
   have b1:k+1<=1000001:=aD hkB (aC 1);refine zW _ (okI (bH b1 rfl)) ?_;refine⟨k+1,λs=>s,wOL _ wT wH rfl,⟨oT,DV hrg (sU h6) hk.2⟩,by show(qD x).length-(k+1)<(qD x).length-k;omega⟩
  have h5p:=aF h5;have hall:=DW omT hk.2;exact fT rfl (dR (by unfold Pr;rw[hx];dsimp only;rw[dZ (sU h2),dZ h3p,af1 h4p,hall]))
 have h4p:=nA h4;refine zVB (mode==2) (λh7=>?_) (λh7=>?_)
 ·have h7p:=mT h7;refine zC (MX agI ck i hl ho hi) ?_;exact fT rfl (dR (by unfold Pr;rw[hx];dsimp only;rw[dZ (sU h2),dZ h3p,dZ h4p,af1 h7p]))
 have h7p:=nA h7;exact fT rfl (dR (by unfold Pr;rw[hx];dsimp only;rw[dZ (sU h2),dZ h3p,dZ h4p,dZ h7p]))
abbrev RP(n:Nat):List AV:=[.v (.int .i64 (n:Int))]
theorem NM{α:Type}(f:α->Value):∀(l:List α),(l.flatMap λa=>[f a])=l.map f
 |[]=>rfl
 |a::l=>by rw[gW,NM f l];rfl
def KU{α:Type}{f:α->Value}{l:List α}{S:Nat->Prop}{w:World}{v:Value}{clip:Bool}(e:TypeId)(hS:∀b,S b->b<w.heap.size)(h:Rep S w noB (.sl 1 (l.map λa=>[AV.v (f a)]) clip) v):Sl w.heap.size e 1 w v l.length (l.flatMap λa=>[f a]):=by
 cases h with
 |sl _ _ _ A c b o u hc hm hcl hrs hA hw h1 hr=>
  rw[aH]at hc;refine⟨A,c,by rw[aH],hc,hm,by rw[NM,aH,iD],λhn=>?_⟩;obtain⟨hA1,hA2⟩:=hA (by rw[aH];exact hn);refine⟨b,o,hA1,.inl (hS b hA2),λj x hx=>?_⟩;rw[NM,aX]at hx;obtain⟨y,hy,rfl⟩:=Gi.1 hx;have hrow:(l.map λa=>[AV.v (f a)])[j]?=some [AV.v (f y)]:=by rw[aX,hy];rfl
  have h2:=hw j _ 0 _ hrow rfl;have h3:=hr j _ 0 _ hrow rfl;rw[(oT:o+j*1+0=o+j)]at h2;rw[h2];generalize u j 0=z at h3;cases h3;rfl
def Pg{α:Type}{f:α->Value}(h1:∀a,(f a).oneCell'=true){l:List α}{w:World}{v:Value}{base:Nat}{e:TypeId}(h:w.ownsRow base e 1 v l.length (l.flatMap λa=>[f a]))(S:Nat->Prop)(hb:∀b,base<=b->b<w.heap.size->S b):Rep S w noB (.sl 1 (l.map λa=>[AV.v (f a)]) false) v:=by
 obtain⟨hl,⟨rfl,h0⟩|⟨g,cap,cur,rfl,hg,hh,hn,hm,hsz,hx⟩⟩:=h
 ·have:l=[]:=afC h0;subst this;exact .sl 1 [] false none 0 0 0 (λ_ _=>.bool false) (aC _) (aE _) (λh=>by cases h) (λ_ h=>by cases h) (λh=>absurd h (iI 0)) (λi row j a h=>by simp at h) (λ_ _=>rfl) λi row j a h=>by simp at h
 ·rw[NM,iD]at hx;have hget:∀(i:Nat) row (j:Nat) a,(l.map λa=>[AV.v (f a)])[i]?=some row->row[j]?=some a->∃x,l[i]?=some x∧j=0∧a=.v (f x)∧cur[i]?=some (f x):=by
   intro i row j a hi hj;rw[aX]at hi;obtain⟨x,hxl,rfl⟩:=Gi.1 hi
   cases j with
   |zero=>
    injection hj with hj;refine⟨x,hxl,rfl,hj.symm,?_⟩;have:(l.map f)[i]?=some (f x):=by rw[aX,hxl];rfl
    rw[<-hx,cU]at this;split at this
    ·rw[<-bQ];exact this
    ·cases this
   |succ j=>simp at hj
  have hlen:(l.map λa=>[AV.v (f a)]).length=l.length:=aH ..;rw[<-hlen];refine .sl 1 _ false (some ⟨g,0,none⟩) cap g 0 (λi j=>if i<l.length then cur.getD i undef else .bool false) (by rw[hlen];exact hn) hm (λh=>by cases h) (λrow hr=>?_) (λ_=>⟨rfl,hb g hg (fJ hh)⟩) (λi row j a hi hj=>?_) (λi j=>?_) λi row j a hi hj=>?_
  ·obtain⟨x,_,rfl⟩:=pG.1 hr;rfl
  ·obtain⟨x,h2,rfl,rfl,h3⟩:=hget i row j a hi hj;rw[af1 (Em.1 h2).1,gP hh];rw[(oT:0+i*1+0=i),h3,aK,h3];rfl
  ·show(if i<l.length then cur.getD i undef else .bool false).oneCell'=true;by_cases hi:i<l.length
   ·rw[af1 hi];obtain⟨x,h2,_,_,h3⟩:=hget i [AV.v (f l[i])] 0 (.v (f l[i])) (by rw[aX,aA hi];rfl) rfl;rw[aK,h3];exact h1 x
   ·rw[dZ hi];rfl
  ·obtain⟨x,h2,rfl,rfl,h3⟩:=hget i row j a hi hj;rw[af1 (Em.1 h2).1,aK,h3];exact .v _
def aaL(agN)(busy)(kinds)(can)(c1 c2)(h1:kinds.length<=1000)(h2:can.length<=1000):bI C0 74 [vI agN,vB busy,.sl 1 (kinds.map ae4) c1,.sl 1 (can.map afU) c2] (.sl 1 ((pickOf agN busy kinds can).map RP) false):=by
 refine⟨⟨_,func74,rfl,rfl⟩,λS w vs hS hG hr=>?_⟩
 match vs,hr with
 |[v0,v1,v2,v3],hr=>
  have e0:=hr.2 0 _ v0 rfl rfl;have e1:=hr.2 1 _ v1 rfl rfl;have e2:=hr.2 2 _ v2 rfl rfl;have e3:=hr.2 3 _ v3 rfl rfl;cases e0;cases e1
  refine(UO agN busy kinds can w.heap.size kinds.length can.length v2 v3 w (KU _ hS e2) (KU _ hS e3) rfl rfl omT omT).mono ?_;rintro e w' ⟨v,he,ho,hB⟩
  exact⟨v,he,hB,Pg (λ_=>rfl) ho _ λb p q=>.inr ⟨p,q⟩⟩
 |[],hr=>exact absurd hr.1 (by simp)
 |[_],hr=>exact absurd hr.1 (by simp)
 |[_,_],hr=>exact absurd hr.1 (by simp)
 |[_,_,_],hr=>exact absurd hr.1 (by simp)
 |_::_::_::_::_::_,hr=>exact absurd hr.1 (by simp)
def Mi(q:List Req)(agY:Nat)(kinds:List Int):Bool:=q.any λx=>kinds.any λk=>decide (x.agY=agY)&&decide (x.kind=k)
def UR(q:List Req):yH q<=q.length:=List.length_filter_le _ _
def Hb{q:List Req}{k}{x}(h:q[k]?=some x):yH (q.take (k+1))=yH (q.take k)+(if x.kind=4 then 0 else 1):=by
 unfold yH;rw[bW,h];by_cases e:x.kind=4<;>simp[mL,e]
def XR(q)(ck)(hq:q.length<=1000000)(ho:∀x∈q,x.agY<=4294967295):bI C0 128 [.sl 4 (q.map rqL) ck] (vN (yH q)):=by
 refine dIZ func128 rfl<|zW _ (cD rqL q)<|zLo (λk=>⟨slotsF [(6,.sl 4 _ ck),(7,vN q.length),(3,vN (yH (q.take k))),(8,vN k)],heapF [],5⟩) (λk=>k<=q.length) (λk=>q.length-k) 0 (λs=>s) (wOL (λs=>s) wT trivial rfl) (aE _) ?_;intro k hk;have hkB:k<=1000000:=oT;have hrB:yH (q.take k)<=1000000:=by have:=UR (q.take k);rw[aM]at this;omega
 refine zW _ (okB (ltN _ _))<|zB rfl (λh1=>?_) (λh1=>?_)
 ·skip
  obtain⟨x,hx⟩:∃x,q[k]?=some x:=⟨_,aA (af0 h1)⟩;have hxo:=ho x (aB hx);refine zX _ (.dp 4 0 (rqL x)) rfl (iH hx)<|zVB _ (λh2=>?_) (λh2=>?_)
  ·skip
   have b1:(yH _)+1<=1000001:=aD hrB (aC 1);refine zW _ (okI (bH b1 rfl)) ?_;have b2:k+1<=1000001:=aD hkB (aC 1);refine zW _ (okI (bH b2 rfl)) ?_;refine⟨k+1,λs=>s,wOL _ ⟨⟨rfl,rfl⟩,⟨rfl,rfl⟩,⟨(af2 (λz:Nat=>AV.v (.int .i64 (z:Int))) (by rw[Hb hx];have q:=h2;simp at q;simp[q])),rfl⟩,⟨rfl,rfl⟩,trivial⟩ trivial rfl,af0 h1,oH (af0 h1)⟩
  skip
  have b3:k+1<=1000001:=aD hkB (aC 1);refine zW _ (okI (bH b3 rfl)) ?_;refine⟨k+1,λs=>s,wOL _ ⟨⟨rfl,rfl⟩,⟨rfl,rfl⟩,⟨(af2 (λz:Nat=>AV.v (.int .i64 (z:Int))) (by rw[Hb hx];have q:=h2;simp at q;simp[q])),rfl⟩,⟨rfl,rfl⟩,trivial⟩ trivial rfl,af0 h1,oH (af0 h1)⟩
 have hke:=aF h1;exact fT rfl (abR (by rw[aN (oT:q.length<=k)]))
def Je{α}{f}{l:List α}{k}{x}(h:l[k]?=some x)(hf:f x=false)(hk:(l.take k).any f=false):(l.take (k+1)).any f=false:=by
 rw[bW,h];simp[List.any_append,hf]at hk⊢;exact hk
def Jf{α:Type}{f:α->Bool}{l:List α}{k:Nat}{x:α}(h:l[k]?=some x)(hf:f x=true):l.any f=true:=Mv.2 ⟨x,aB h,hf⟩
def Mj{α}{f}{l:List α}{k}(h:l.length<=k)(hk:(l.take k).any f=false):l.any f=false:=by rwa [aN h]at hk
def RQ(q)(agY)(kinds)(ck ck2)(hq:q.length<=1000000)(ho:∀x∈q,x.agY<=4294967295)(hline:agY<=4294967295)(hks:kinds.length<=1000000):bI C0 79 [.sl 4 (q.map rqL) ck,vU agY,.sl 1 (kinds.map ae4) ck2] (.v (.bool (Mi q agY kinds))):=by
 refine dIZ func79 rfl<|zW _ (cD rqL q)<|zLo (λk=>⟨slotsF [(1,vU agY),(2,.sl 1 (kinds.map ae4) ck2),(11,.sl 4 (q.map rqL) ck),(12,vN q.length),(13,vN k)],heapF [],4⟩) (λk=>k<=q.length∧(q.take k).any (λx:Req=>kinds.any λk=>decide (x.agY=agY)&&decide (x.kind=k))=false) (λk=>q.length-k) 0 (λs=>s) (wOL (λs=>s) wT trivial rfl) (⟨aE _,rfl⟩) ?_;intro k hk;have hkB:k<=1000000:=oH hk.1;refine zWB (okB (ltN _ _)) (λh1=>?_) (λh1=>?_)
 ·skip
  obtain⟨x,hx⟩:∃x,q[k]?=some x:=⟨_,aA (af0 h1)⟩;refine zX (rqL x) (.dp 4 0 (rqL x)) rfl (iH hx)<|zW _ (cD ae4 kinds)<|zLo (λj=>⟨slotsF [(1,vU agY),(2,.sl 1 (kinds.map ae4) ck2),(8,.ptr 7 0),(11,.sl 4 (q.map rqL) ck),(12,vN q.length),(13,vN k),(17,.sl 1 (kinds.map ae4) ck2),(18,vN kinds.length),(19,vN j)],heapF [(7,.box [vI x.kind,vU x.agY,vI x.left,.v (.string x.data)])],12⟩) (λj=>j<=kinds.length∧(kinds.take j).any (λk:Int=>decide (x.agY=agY)&&decide (x.kind=k))=false) (λj=>kinds.length-j) 0 (λs=>s) (wOL (λs=>s) wT wH rfl) (⟨aE _,rfl⟩) ?_;intro j hj;have hjB:j<=1000000:=oH hj.1;refine zWB (okB (ltN _ _)) (λh2=>?_) (λh2=>?_)
  ·skip
   obtain⟨kd,hkd⟩:∃kd,kinds[j]?=some kd:=⟨_,aA (af0 h2)⟩;refine zX (ae4 kd) (.dp 1 0 (ae4 kd)) rfl (iH hkd)<|zW _ (okB (eqN _ _))<|zG rfl id<|gBS rfl hsT rfl<|zN rfl (λh=>h)<|zB rfl (λh3=>?_) (λh3=>?_)
   ·exact fT rfl (af2 (λz=>AV.v (.bool z)) (Jf hx (Jf hkd (by have z:=h3;simpa [c2]using z))).symm)
   skip
   have b1:j+1<=1000001:=aD hjB (aC 1);refine zW _ (okI (bH b1 rfl)) ?_;refine⟨j+1,λs=>s,wOL _ wT wH rfl,⟨af0 h2,Je hkd (by have z:=h3;simpa [c2]using z) hj.2⟩,oH (af0 h2)⟩
  have b2:k+1<=1000001:=aD hkB (aC 1);refine zW _ (okI (bH b2 rfl)) ?_;refine⟨k+1,λs=>s,wOL _ wT trivial rfl,⟨af0 h1,Je hx (Mj (oH (aF h2)) hj.2) hk.2⟩,oH (af0 h1)⟩
 exact fT rfl (af2 (λz=>AV.v (.bool z)) (Mj (oH (aF h1)) hk.2).symm)
end Go.Proofs.YtlpkggpdjobpmaaGreatDoor
