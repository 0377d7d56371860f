/- Joined texts. -/
import Derived.DataReads
import Derived.Deep.Strs
import Derived.Test.YtgleompefdogkaaGreatDoorProg
import Derived.KernelRfl
import Derived.Test.YtgleompefdogkaaGreatDoorS1
import Derived.Test.YtgleompefdogkaaGreatDoorS7
import Derived.Test.YtgleompefdogkaaGreatDoorS27
set_option linter.unusedVariables false
set_option linter.unusedSimpArgs false
set_option linter.defProp false
namespace Go.Proofs.YtgleompefdogkaaGreatDoor
open Go.RowKit
def uT(N:Nat):Code->Bool
 | .region _ ops dr=>vK N ops.toList&&(!dr||Eh ops.toList||Jd ops.toList)
 | .seq a b=>uT N a&&uT N b
 | .cond _ a b=>uT N a&&uT N b
 | .block _ b=>uT N b
 | .loop b=>uT N b
 |_=>true
def FO:AEx->Exit
 | .normal=>.normal
 | .exit i=>.exit i
 | .ret=>.ret
def Aft(C:Ctx)(V:Inv C.fr)(w0:World)(S0:Nat->Prop)(N:Nat)(Q:AEx->ASt->Prop)(e:Exit)(a:Act)(w:World):Prop:=∃e' st S β,e=FO e'∧Q e' st∧SimD C V w0 S0 N (· <st.n) st.t st.h a w S β
section
variable {C:Ctx}{V:Inv C.fr}{N:Nat}{w0:World}{S0:Nat->Prop}
theorem pL(σ:Nat->Nat):∀(cs:List AV) (i:Nat),(Bb σ cs)[i]?=(cs[i]?).map (uX σ)
 |[],i=>by simp[Bb]
 |c::cs,0=>by simp[Bb]
 |c::cs,i+1=>by simp[Bb,pL σ cs i]
theorem uA(σ:Nat->Nat):∀(cs:List AV),(Bb σ cs).length=cs.length
 |[]=>rfl
 |c::cs=>by simp[Bb,uA σ cs]
theorem tH(n:Nat):∀(cs:List AV),mM n cs=true->∀(i:Nat) a,cs[i]?=some a->mL n a=true
 |[],_,i,a,h=>by simp at h
 | c::cs,hb,i,a,hi=>by
  simp only[mM]at hb;split at hb
  ·rename_i hc
   cases i with
   |zero=>simp at hi;subst hi;exact hc
   |succ i=>exact tH n cs hb i a (by simpa using hi)
  ·cases hb
theorem FP:∀(cs:List AV) (i:Nat) a,cs[i]?=some a->SizeOf.sizeOf a<SizeOf.sizeOf cs
 |[],i,a,h=>by simp at h
 |c::cs,0,a,h=>by simp at h;subst h;simp;omega
 |c::cs,i+1,a,h=>by
  have:=FP cs i a (by simpa using h);simp;omega
def Cv{S:Nat->Prop}{w:World}{β:Bt}{n:Nat}{σ:Nat->Nat}:∀(k:Nat) (a:AV) (v:Value),SizeOf.sizeOf a<=k->mL n a=true->Rep S w β (uX σ a) v->Rep S w (λs=>if s<n then β (σ s)else none) a v:=by
 intro k
 induction k with
 |zero=>intro a v hk;cases a<;>simp at hk
 | succ k ih=>
  intro a v hk hb hr;have site:∀s l,Nat.blt s n=true->β (σ s)=some l->(λs=>if s<n then β (σ s)else none) s=some l:=λs l h1 h2=>by
   have:s<n:=aP h1;simp only[this,kY,h2]
  have list:∀(cs:List AV) (us:Array Value),SizeOf.sizeOf cs<=k->mM n cs=true->(∀(i:Nat) a u,(Bb σ cs)[i]?=some a->us[i]?=some u->Rep S w β a u)->∀(i:Nat) a u,cs[i]?=some a->us[i]?=some u->Rep S w (λs=>if s<n then β (σ s)else none) a u:=by
   intro cs us hs hb h i a u p q;have:=FP cs i a p;exact ih a u (by omega) (tH n cs hb i a p) (h i (uX σ a) u (by rw[pL,p];rfl) q)
  cases a with
  |v x=>
   simp only[uX]at hr;cases hr
   exact .v _
  |agg cs=>
   simp only[uX]at hr
   cases hr with
   |agg _ vs hl h1 h=>exact .agg cs vs (by rw[<-uA σ cs];exact hl) h1 (list cs vs (by simp at hk;omega) (by simpa [mL]using hb) h)
  |tup cs=>
   simp only[uX]at hr
   cases hr with
   |tup _ vs hl h=>exact .tup cs vs (by rw[<-uA σ cs];exact hl) (list cs vs (by simp at hk;omega) (by simpa [mL]using hb) h)
  |sl rs rows clip=>
   simp only[uX]at hr
   cases hr with
   |sl _ _ _ A c b o u hc hm hcl hrs hA hw h1 hr=>exact .sl rs rows clip A c b o u hc hm hcl hrs hA hw h1 hr
  |dp rs col row=>
   simp only[uX]at hr
   cases hr with
   |dp _ _ _ b o u hrs hb hw h1 hr=>exact .dp rs col row b o u hrs hb hw h1 hr
  |ptr s c=>
   simp only[uX]at hr
   cases hr with
   |ptr _ _ l hl=>exact .ptr s c l (site s l hb hl)
  |ptr2 s r c=>
   simp only[uX]at hr
   cases hr with
   |ptr2 _ _ _ l hl=>exact .ptr2 s r c l (site s l hb hl)
  |osl s lo len clip=>
   simp only[uX]at hr
   cases hr with
   |osl _ _ _ _ l A c hl hc hm hcl hA cs e fr hb' room=>exact .osl s lo len clip l A c (site s l hb hl) hc hm hcl hA cs e fr hb' room
  | clo f a b=>
   simp only[uX]at hr;simp only[mL]at hb;split at hb
   ·rename_i ha
    cases hr with
    |clo _ _ _ vs us hl h hl' h'=>exact .clo f a b vs us (by rw[<-uA σ a];exact hl) (list a vs (by simp at hk;omega) ha h) (by rw[<-uA σ b];exact hl') (list b us (by simp at hk;omega) hb h')
   ·cases hb
  |opt g x=>
   simp only[uX]at hr
   cases hr with
   |optT _ _ _ hg h=>exact .optT g x v hg (ih x v (by simp at hk;omega) (by simpa [mL]using hb) h)
   |optF _ _ hg=>exact .optF g x hg
  |any=>exact .any v
def pM{st st':ASt}{σ:Nat->Nat}(W:Weak st st' σ)(hf:keepB C.fr σ st'.n=true){a:Act}{w:World}{S:Nat->Prop}{β:Bt}(M:SimD C V w0 S0 N (· <st.n) st.t st.h a w S β):SimD C V w0 S0 N (· <st'.n) st'.t st'.h a w S (λs=>if s<st'.n then β (σ s)else none):=by
 refine⟨λi=>?_,⟨λs blk hs=>?_,λs s' l l' h1 h2 e1 e2 hb=>?_,M.H.lt,M.H.big⟩,M.B,λx l hx=>?_,M.df,M.sz,M.G,M.nw,V.weak M.iv hf⟩
 ·rcases W.t i with h|⟨h,hb⟩
  ·rw[h];exact .any _
  ·have:=M.T i;rw[h]at this;exact Cv _ _ _ (aC _) hb this
 ·obtain⟨h1,h2,h3⟩:=W.h s blk hs;obtain⟨l,cs,e,fr,k1,k2,k3,k4,k5,k6⟩:=M.H.own _ _ h2;refine⟨l,cs,e,fr,by simp only[h1,kY];exact k1,k2,k3,k4,k5,?_⟩
  cases blk with
  |box cells=>
   intro j a hj;obtain⟨u,q1,q2,q3⟩:=k6 j (uX σ a) (by rw[pL,hj];rfl)
   exact⟨u,q1,q2,Cv _ _ _ (aC _) (tH _ cells (by simpa [qU]using h3) j a hj) q3⟩
  |arr rows rs=>exact k6
  |row cells=>
   refine⟨k6.1,λj a hj=>?_⟩;obtain⟨u,q1,q2,q3⟩:=k6.2 j (uX σ a) (by rw[pL,hj];rfl);exact⟨u,q1,q2,Cv _ _ _ (aC _) (tH _ cells (by simpa [qU]using h3) j a hj) q3⟩
 ·have get:∀s l,st'.h s≠none->(if s<st'.n then β (σ s)else none)=some l->st.h (σ s)≠none∧β (σ s)=some l:=by
   intro s l hs hl
   cases hq:st'.h s with
   |none=>exact absurd hq hs
   |some blk=>
    obtain⟨h1,h2,h3⟩:=W.h s blk hq;rw[if_pos h1]at hl;exact⟨by rw[h2];simp,hl⟩
  obtain⟨a1,a2⟩:=get s l h1 e1;obtain⟨b1,b2⟩:=get s' l' h2 e2;exact W.inj s s' h1 h2 (M.H.inj _ _ _ _ a1 b1 a2 b2 hb)
 ·show x<st'.n;by_cases h:x<st'.n
  ·exact h
  ·simp only[h,iJ]at hx;cases hx
def GQ{fz:Fz}{S S':Nat->Prop}{w:World}{β:Bt}(hS:∀b,S b->S' b)
  (hz:∀x rs rows,fz=some (x,rs,rows)->∀l,β x=some l->S' l.blk∧∃cs e fr,w.heap[l.blk]?=some (.cells cs e fr)∧Ba S w β l cs (.arr rows rs)):
  ∀{a b:AV} {v:Value},LeZ fz a b->Rep S w β a v->Rep S' w β b v:=by
 intro a b v hab
 induction hab generalizing v with
 |refl a=>intro h;exact h.mono hS (Evo.refl _ _) (LY.refl _)
 |any a=>intro _;exact .any _
 | nil rs c=>
  intro h
  cases h with
  |sl _ _ _ A c0 b o u hc hm hcl hrs hA hw h1 hr=>
   exact .sl rs [] c A c0 b o u hc hm (λ_=>hcl rfl) (λ_ h=>by cases h) (λh=>absurd h (dU 0)) (λi row j a h=>by simp at h) h1 λi row j a h=>by simp at h
 |emp rs A k c hk hc=>
  intro h;cases lN h
  exact .sl rs [] c A k 0 0 (λ_ _=>.bool false) (aE _) hk hc (λ_ h=>by cases h) (λh=>absurd h (dU 0)) (λi row j a h=>by simp at h) (λ_ _=>rfl) λi row j a h=>by simp at h
 | clip rs rows=>
  intro h
  cases h with
  |sl _ _ _ A c0 b o u hc hm hcl hrs hA hw h1 hr=>
   exact(Rep.sl rs rows false A c0 b o u hc hm (λh=>by cases h) hrs hA hw h1 hr).mono hS (Evo.refl _ _) (LY.refl _)
 |oclip s lo len=>
  intro h
  cases h with
  |osl _ _ _ _ l A c hl hc hm hcl hA cs e fr hb room=>exact .osl s lo len false l A c hl hc hm (λh=>by cases h) hA cs e fr hb room
 | frz b rs lo len rows c c' hfz hl hcc=>
  intro h
  cases h with
  | osl _ _ _ _ l A cp hl' hc hm hcl hA cs0 e0 fr0 hb0 room=>
   obtain⟨hSb,cs,e,fr,hb,k1,k2,k3⟩:=hz b rs rows hfz l hl';rw[hb0]at hb;injection hb with hb;injection hb with q1 q2 q3;subst q1;subst q2;subst q3;have hlen:((rows.drop lo).take len).length=len:=by rw[aL,aU];omega
   have get:∀(i:Nat) row,((rows.drop lo).take len)[i]?=some row->rows[lo+i]?=some row:=λi row hi=>by
    have hil:i<len:=by have:=(DS.1 hi).1;omega
    rwa [cL,if_pos hil,cE]at hi
   have key:=Rep.sl (S:=S') (w:=w) (β:=β) rs ((rows.drop lo).take len) c' A cp l.blk (l.base+lo*l.rs) (λi j=>if(cs0[l.base+(lo+i)*rs+j]?.getD (.bool false)).oneCell'=true then cs0[l.base+(lo+i)*rs+j]?.getD (.bool false)else .bool false)
    (by rw[hlen];exact hc) hm (λh=>by rw[hlen];exact hcl (hcc h)) (λrow hr=>k2 row (eO (cQ hr)))
    (λh0=>⟨hA (by omega),hSb⟩) (λi row j a hi hj=>?_) (λi j=>?_) (λi row j a hi hj=>?_)
   ·rw[hlen]at key;exact key
   ·obtain⟨u,p1,p2,p3⟩:=k3 (lo+i) row j a (get i row hi) hj;rw[gM hb0,k1,show l.base+lo*rs+i*rs+j=l.base+(lo+i)*rs+j by rw[cG];omega,p1];simp[p2]
   ·split
    ·assumption
    ·rfl
   ·obtain⟨u,p1,p2,p3⟩:=k3 (lo+i) row j a (get i row hi) hj;simp only[p1,gF,p2,kY]
    exact p3.mono hS (Evo.refl _ _) (LY.refl _)
 | agg cs ds hl h ih=>
  intro hr
  cases hr with
  |agg _ vs hl' h1 h'=>
   refine .agg ds vs (hl ▸ hl') h1 λi a u p q=>?_;have hi:i<cs.length:=by rw[hl];exact(DS.1 p).1
   exact ih i cs[i] a (aA hi) p (h' i _ u (aA hi) q)
 | tup cs ds hl h ih=>
  intro hr
  cases hr with
  |tup _ vs hl' h'=>
   refine .tup ds vs (hl ▸ hl') λi a u p q=>?_;have hi:i<cs.length:=by rw[hl];exact(DS.1 p).1
   exact ih i cs[i] a (aA hi) p (h' i _ u (aA hi) q)
def Ow{fz:Fz}{S S':Nat->Prop}{w:World}{β:Bt}(hS:∀b,S b->S' b)
  (hz:∀x rs rows,fz=some (x,rs,rows)->∀l,β x=some l->S' l.blk∧∃cs e fr,w.heap[l.blk]?=some (.cells cs e fr)∧Ba S w β l cs (.arr rows rs))
  {b0 b1:Blk} {l:Loc} {cs:Array Value} (h:LeB fz b0 b1) (k:Ba S w β l cs b0):Ba S' w β l cs b1:=by
 cases h with
 |refl=>exact k.mono hS (Evo.refl _ _) (LY.refl _)
 |box c d hl hh=>
  intro j a hj;have hi:j<c.length:=by rw[hl];exact(DS.1 hj).1
  obtain⟨u,p1,p2,p3⟩:=k j c[j] (aA hi)
  exact⟨u,p1,p2,GQ hS hz (hh j _ a (aA hi) hj) p3⟩
 |row c d hl hh=>
  refine⟨k.1,λj a hj=>?_⟩;have hi:j<c.length:=by rw[hl];exact(DS.1 hj).1
  obtain⟨u,p1,p2,p3⟩:=k.2 j c[j] (aA hi)
  exact⟨u,p1,p2,GQ hS hz (hh j _ a (aA hi) hj) p3⟩
 |toRow c=>
  refine⟨k.1,λj a hj=>?_⟩;obtain⟨u,p1,p2,p3⟩:=k.2.2 j [a] 0 a (by rw[bD,hj];rfl) rfl;rw[iT,iW]at p1
  exact⟨u,p1,p2,p3.mono hS (Evo.refl _ _) (λs l x=>by cases x)⟩
 | toArr c hc=>
  refine⟨k.1,λrow hr=>?_,λi row j a hi hj=>?_⟩
  ·obtain⟨x,_,rfl⟩:=sY.1 hr;rfl
  ·rw[bD]at hi;obtain⟨x,hx,rfl⟩:=FI.1 hi
   cases j with
   |zero=>
    simp only[cP,Option.some.injEq]at hj;subst hj;obtain⟨u,p1,p2,p3⟩:=k.2 i x hx
    exact⟨u,by rw[iT,iW];exact p1,p2,(lV p3 (hc x (aB hx)) noB).mono hS (Evo.refl _ _) (LY.refl _)⟩
   |succ j=>simp at hj
theorem Ghost.old{st st':ASt}{fz:Fz}(hg:Ghost st st' fz)(s:Nat)(h:st'.h s≠none):st.h s≠none:=by
 cases hq:st'.h s with
 |none=>exact absurd hq h
 |some blk=>obtain⟨_,blk0,h0,_⟩:=hg.h s blk hq;rw[h0];simp
def Kr{st st':ASt}{fz:Fz}(hg:Ghost st st' fz){a:Act}{w:World}{S:Nat->Prop}{β:Bt}(M:SimD C V w0 S0 N (· <st.n) st.t st.h a w S β):∃S',SimD C V w0 S0 N (· <st'.n) st'.t st'.h a w S' β:=by
 cases fz with
 |none=>
  have hz:∀x rs rows,(none:Fz)=some (x,rs,rows)->∀l,β x=some l->S l.blk∧∃cs e fr,w.heap[l.blk]?=some (.cells cs e fr)∧Ba S w β l cs (.arr rows rs):=λ_ _ _ h=>by cases h
  refine⟨S,λi=>GQ (λ_ h=>h) hz (hg.t i) (M.T i),⟨λs blk hs=>?_,λs s' l l' h1 h2=>M.H.inj s s' l l' (hg.old s h1) (hg.old s' h2),M.H.lt,M.H.big⟩,M.B,by rw[hg.n];exact M.dom,M.df,M.sz,M.G,M.nw,M.iv⟩;obtain⟨_,blk0,h0,hb⟩:=hg.h s blk hs;obtain⟨l,cs,e,fr,k1,k2,k3,k4,k5,k6⟩:=M.H.own s blk0 h0
  exact⟨l,cs,e,fr,k1,k2,k3,k4,k5,Ow (λ_ h=>h) hz hb k6⟩
 | some z=>
  obtain⟨x,rs,rows⟩:=z;have hx:=hg.b x rs rows rfl;obtain⟨lx,csx,ex,frx,x1,x2,x3,x4,x5,x6⟩:=M.H.own x _ hx;have hS:∀b,S b->S b∨b=lx.blk:=λ_ h=>.inl h;have hz:∀y rs' rows',some (x,rs,rows)=some (y,rs',rows')->∀l,β y=some l->(S l.blk∨l.blk=lx.blk)∧∃cs e fr,w.heap[l.blk]?=some (.cells cs e fr)∧Ba S w β l cs (.arr rows' rs'):=λy rs' rows' h l hl=>by
   simp only[Option.some.injEq,Prod.mk.injEq]at h;obtain⟨rfl,rfl,rfl⟩:=h;rw[x1]at hl;injection hl with hl;subst hl;exact⟨.inr rfl,csx,ex,frx,x2,x6⟩
  refine⟨λb=>S b∨b=lx.blk,λi=>GQ hS hz (hg.t i) (M.T i),⟨λs blk hs=>?_,λs s' l l' h1 h2=>M.H.inj s s' l l' (hg.old s h1) (hg.old s' h2),λb hb=>hb.elim (M.H.lt b) λe=>e ▸ fQ x2,M.H.big⟩,M.B,by rw[hg.n];exact M.dom,M.df,M.sz,λg cells hgc=>(M.G g cells hgc).mono hS (Evo.refl _ _) (LY.refl _),λb hb=>hb.elim (M.nw b) λe=>.inr (e ▸ x4),V.frz M.iv x1⟩;obtain⟨hne,blk0,h0,hb⟩:=hg.h s blk hs;obtain⟨l,cs,e,fr,k1,k2,k3,k4,k5,k6⟩:=M.H.own s blk0 h0;refine⟨l,cs,e,fr,k1,k2,k3,k4,λh=>h.elim k5 λq=>?_,Ow hS hz hb k6⟩;exact hne x rs rows rfl (M.H.inj s x l lx (by rw[h0];simp) (by rw[hx];simp) k1 x1 q)
def nJ{st st':ASt}(hg:Ghosts st st'):∀{a:Act} {w:World} {S:Nat->Prop} {β:Bt},SimD C V w0 S0 N (· <st.n) st.t st.h a w S β->∃S',SimD C V w0 S0 N (· <st'.n) st'.t st'.h a w S' β:=by
 induction hg with
 |refl=>intro a w S β M;exact⟨S,M⟩
 |step fz h k ih=>intro a w S β M;obtain⟨S',M'⟩:=Kr h M;exact ih M'
theorem CtxOk.noH(h:CtxOk C):CtxOk C.noH:=⟨h.ty,h.mixed,λ_ _ _ _ _ h=>h.elim⟩
theorem SimD.noH{D:Nat->Prop}{t:Nat->AV}{h:AH}{a:Act}{w:World}{S:Nat->Prop}{β:Bt}(M:SimD C V w0 S0 N D t h a w S β):SimD C.noH V w0 S0 N D t h a w S β:=⟨M.T,M.H,M.B,M.dom,M.df,M.sz,M.G,M.nw,M.iv⟩
theorem SimD.ofNoH{D:Nat->Prop}{t:Nat->AV}{h:AH}{a:Act}{w:World}{S:Nat->Prop}{β:Bt}(M:SimD C.noH V w0 S0 N D t h a w S β):SimD C V w0 S0 N D t h a w S β:=⟨M.T,M.H,M.B,M.dom,M.df,M.sz,M.G,M.nw,M.iv⟩
theorem Cw(hC:CtxOk C)(nH:NoH C){ops:Array Oper}(hb:vK N ops.toList=true){K:ASt->Prop}{Q:Exit->Act->World->Prop}{n:Nat}(hQ:∀st a' w' S' β',K st->SimD C V w0 S0 N (· <st.n) st.t st.h a' w' S' β'->Q .normal a' w'):
  ∀(fuel:Nat) (listed:Array Bool) (t:Nat->AV) (h:AH) (a:Act) (w:World) (S:Nat->Prop) (β:Bt),listed.size=ops.size->OV C (cA C) ops K fuel listed ⟨t,h,n⟩->SimD C V w0 S0 N (λs=>s<n∨∃i,listed.getD i false=true∧s=n+i) t h a w S β->wpAny C.P .any ops Q fuel listed a w
 | 0,listed,t,h,a,w,S,β,hsz,hr,M=>by
  refine⟨hr.1,hQ _ a w S β hr.2 ⟨M.T,M.H,M.B,λy l hy=>?_,M.df,M.sz,M.G,M.nw,M.iv⟩⟩;show y<n+ops.size;rcases M.dom y l hy with h|⟨i,hi,rfl⟩
  ·omega
  ·rcases al_Nat_lt_or_ge i listed.size with k|k
   ·omega
   ·rw[aI,iC k]at hi;cases hi
 | fuel+1,listed,t,h,a,w,S,β,hsz,hr,M=>by
  refine⟨λhn=>absurd hn hr.1,λi hi=>?_⟩;have hall:∀(l:List Nat),forL (Rw C (cA C) ops (OV C (cA C) ops K fuel) listed t h n) l->∀i∈l,Rw C (cA C) ops (OV C (cA C) ops K fuel) listed t h n i:=by
   intro l
   induction l with
   |nil=>intro _ i hi;cases hi
   |cons x l ih=>
    intro hl i hi;rcases al_List_mem_cons.1 hi with rfl|hi
    ·exact hl.1
    ·exact ih hl.2 i hi
  have h1:=hall _ hr.2 i hi;obtain⟨k1,o,ho,_⟩:=mem_ready.1 hi;have hil:i<listed.size:=by have:=(DC.1 ho).1;omega
  have hni:listed.getD i false=false:=by
   rw[aI,aX hil]at k1⊢;exact k1
  have hoi:ops.toList[i]?=some o:=by rw[bH];exact ho
  have hmem:o∈ops.toList:=aB hoi;have hs:β (n+i)=none:=by
   cases hq:β (n+i)with
   |none=>rfl
   | some l=>
    rcases M.dom _ _ hq with h|⟨j,hj,he⟩
    ·omega
    ·have:j=i:=by omega
     subst this;rw[hni]at hj;cases hj
  simp only[Rw,ho]at h1;obtain⟨x,h',e1,e2⟩:=(step_inv h1).resolve_right λ⟨_,f,args,Post,_,hH,_⟩=>nH _ _ _ _ _ hH;unfold wpOp;simp only[ho];refine xP hC M hs rfl e1 (wO hb hmem) (λi pol d _ hd=>BH hb i d hd) λa' w' S' β' M'=>?_;refine Cw hC nH hb hQ fuel _ _ h' a' w' S' β' (by simp[hsz]) e2 ⟨M'.T,M'.H,M'.B,λy l hy=>?_,M'.df,M'.sz,M'.G,M'.nw,M'.iv⟩;have hset:∀j,(listed.setIfInBounds i true).getD j false=true↔listed.getD j false=true∨j=i:=λj=>by
   by_cases hj:j=i
   ·subst hj;rw[aI,cY hil];simp
   ·rw[aI,cX (Ne.symm hj), <-aI];simp[hj]
  rcases M'.dom y l hy with (h|⟨j,hj,he⟩)|h
  ·exact .inl h
  ·exact .inr ⟨j,(hset j).2 (.inl hj),he⟩
  ·exact .inr ⟨i,(hset i).2 (.inr rfl),h⟩
def Cx(hC:CtxOk C):∀(c:Code),uT N c=true->∀(st:ASt) (Q:AEx->ASt->Prop),eJ C (cA C) c st Q->∀(a:Act) (w:World) (S:Nat->Prop) (β:Bt),SimD C V w0 S0 N (· <st.n) st.t st.h a w S β->
  c.wp C.P (Aft C V w0 S0 N Q) a w:=by
 intro c
 induction c with
 |skip=>intro _ st Q hq a w S β M;exact wp_skip ⟨.normal,st,S,β,rfl,hq,M⟩
 |label l=>intro _ st Q hq a w S β M;exact wp_label ⟨.normal,st,S,β,rfl,hq,M⟩
 |exit id=>intro _ st Q hq a w S β M;exact wp_exit ⟨.exit id,st,S,β,rfl,hq,M⟩
 |ret=>intro _ st Q hq a w S β M;exact wp_ret ⟨.ret,st,S,β,rfl,hq,M⟩
 | region id ops dr=>
  intro hk st Q hq a w S β M;simp only[uT,aJ]at hk;obtain⟨t,h,n⟩:=st;simp only[eJ]at hq
  cases dr with
  |false=>
   simp only[qA]at hq;refine wp_region ?_;have:=Ea (Q:=Aft C V w0 S0 N Q) (K:=Q .normal) hC (ops:=ops) rfl hk.1 ops.toList 0 t h a w S β rfl hq M (λst' a' w' S' β' hk' M'=>⟨.normal,st',S',β',rfl,hk',M'⟩);rw[show List.range' 0 ops.toList.length=List.range ops.size by rw[oA,dQ]]at this
   exact this
  | true=>
   refine wp_region_any hC.mixed ?_;simp only[eF]at hq
   cases hl:Eh ops.toList with
   |true=>
    rw[hl]at hq;rcases hq with hq|⟨_,hq⟩
    rotate_left
    ·exact DX (C:=C.noH) (V:=V) hC.noH (λ_ _ _ _ _ h=>h) hk.1 hq (SimD.noH M) (λst' a' w' S' β' hk' M'=>⟨.normal,st',S',β',rfl,hk',SimD.ofNoH M'⟩)
    have M':=M.drawn (w.drawn+1)
    refine Cw (C:=C.noH) (V:=V) hC.noH (λ_ _ _ _ _ h=>h) hk.1 (λst' a' w' S' β' hk' M'=>⟨.normal,st',S',β',rfl,hk',SimD.ofNoH M'⟩) ops.size _ t h a _ S β (by simp) hq ⟨M'.T,M'.H,M'.B,λy l hy=>.inl (M'.dom y l hy),M'.df,M'.sz,M'.G,M'.nw,M'.iv⟩
   |false=>
   rw[hl]at hq;have hd:Jd ops.toList=true:=by simp only[Eh,dH,mF]at hl;exact hl.2
   exact FT (C:=C.noH) (V:=V) hC.noH (λ_ _ _ _ _ h=>h) hk.1 hd hq (SimD.noH M) (λst' a' w' S' β' hk' M'=>⟨.normal,st',S',β',rfl,hk',SimD.ofNoH M'⟩)
 | seq x y ihx ihy=>
  intro hk st Q hq a w S β M;simp only[uT,aJ]at hk;simp only[eJ]at hq;rcases hq with hq|hq|hq
  ·refine wp_seq (wp_mono (ihx hk.1 st _ hq a w S β M) ?_);rintro e a' w' ⟨e',st',S',β',rfl,h1,h2⟩
   cases e' with
   |normal=>exact ihy hk.2 st' Q h1 a' w' S' β' h2
   |exit i=>exact⟨.exit i,st',S',β',rfl,h1,h2⟩
   |ret=>exact⟨.ret,st',S',β',rfl,h1,h2⟩
  ·refine wp_seq (wp_mono (ihx hk.1 st _ hq a w S β M) ?_);rintro e a' w' ⟨e',st',S',β',rfl,h1,h2⟩
   cases e' with
   |normal=>
    obtain⟨st2,g1,g2⟩:=h1;obtain⟨S2,h3⟩:=nJ g1 h2
    exact ihy hk.2 st2 Q g2 a' w' S2 β' h3
   |exit i=>exact⟨.exit i,st',S',β',rfl,h1,h2⟩
   |ret=>exact⟨.ret,st',S',β',rfl,h1,h2⟩
  ·refine wp_seq (wp_mono (ihx hk.1 st _ hq a w S β M) ?_);rintro e a' w' ⟨e',st',S',β',rfl,h1,h2⟩
   cases e' with
   |normal=>
    obtain⟨st2,g1,st3,σ,hW,hf,g2⟩:=h1;obtain⟨S2,h3⟩:=nJ g1 h2
    exact ihy hk.2 st3 Q g2 a' w' S2 _ (pM hW hf h3)
   |exit i=>exact⟨.exit i,st',S',β',rfl,h1,h2⟩
   |ret=>exact⟨.ret,st',S',β',rfl,h1,h2⟩
 | cond c x y ihx ihy=>
  intro hk st Q hq a w S β M;simp only[uT,aJ]at hk;simp only[eJ]at hq;split at hq
  ·rename_i b hb;obtain⟨h1,h2⟩:=hq;have hv:=tD M c;rw[hb]at hv;refine wp_cond_split (lN hv) (λht=>ihx hk.1 st Q (h1 ht) a w S β M) (λhf=>ihy hk.2 st Q (h2 hf) a w S β M)
  ·exact hq.elim
 | block id b ih=>
  intro hk st Q hq a w S β M;simp only[uT]at hk;simp only[eJ]at hq;refine wp_block (wp_mono (ih hk st _ hq a w S β M) ?_);rintro e a' w' ⟨e',st',S',β',rfl,h1,h2⟩
  cases e' with
  |normal=>exact⟨.normal,st',S',β',rfl,h1,h2⟩
  |ret=>exact⟨.ret,st',S',β',rfl,h1,h2⟩
  | exit i=>
   show Exit.inBlock id _ (.exit i) a' w';simp only at h1;simp only[Exit.inBlock];by_cases hi:i=id
   ·subst hi;rw[if_pos rfl];rw[show Nat.beq i i=true from nD i]at h1;exact⟨.normal,st',S',β',rfl,h1,h2⟩
   ·rw[if_neg hi];have:Nat.beq i id=false:=by rw[<-eI];exact λe=>hi (aK e)
    rw[this]at h1
    exact⟨.exit i,st',S',β',rfl,h1,h2⟩
 | loop b ih=>
  intro hk st Q hq a w S β M;simp only[uT]at hk;simp only[eJ]at hq;obtain⟨I,μ,st0,σ,hw,hf0,h0,round⟩:=hq;have key:∀(m:Nat) (st:ASt) (a:Act) (w:World) (S:Nat->Prop) (β:Bt),μ st=m->I st->SimD C V w0 S0 N (· <st.n) st.t st.h a w S β->∀(fb:Frame) (k:List Item) (cs:List Frame),
    ∃e a' w',Aft C V w0 S0 N Q e a' w'∧Arrives C.P (lone (fb.at a (.code b:: .inLoop b::k)) cs w) fb k cs e a' w':=by
   intro m
   induction m using Nat.strongRecOn with
   | _ m ihm=>
    intro st a w S β hm hI M fb k cs;obtain⟨e,a₁,w₁,hq,harr⟩:=ih hk st _ (round st hI) a w S β M fb (.inLoop b::k) cs;obtain⟨e',st1,S1,β1,rfl,hq1,M1⟩:=hq
    cases e' with
    |normal=>
     obtain⟨stg,g1,stw,σ',W,hf1,hIw,hlt⟩:=hq1;obtain⟨S1,M1⟩:=nJ g1 M1;obtain⟨e₂,a₂,w₂,hq₂,harr₂⟩:=ihm (μ stw) (hm ▸ hlt) stw a₁ w₁ S1 _ rfl hIw (pM W hf1 M1) fb k cs
     exact⟨e₂,a₂,w₂,hq₂,.of_steps (Steps.trans harr (.one step_inLoop)) harr₂⟩
    |exit id=>exact⟨_,a₁,w₁,⟨.exit id,st1,S1,β1,rfl,hq1,M1⟩,.pass (x:=.inLoop b) rfl (λ_ _=>.inl (by simp[FO])) harr⟩
    |ret=>exact⟨_,a₁,w₁,⟨.ret,st1,S1,β1,rfl,hq1,M1⟩,.pass (x:=.inLoop b) rfl (λ_ _=>.inl (by simp[FO])) harr⟩
  intro fb k cs;obtain⟨e,a',w',hq,harr⟩:=key _ st0 a w S _ rfl h0 (pM hw hf0 M) fb k cs
  exact⟨e,a',w',hq,.of_steps (.one step_loop) harr⟩
 |_=>intro _ st Q hq;exact hq.elim
def Sub(a b:AV):Prop:=∀(S:Nat->Prop) (w:World) (v:Value),Rep S w noB a v->Rep S w noB b v
theorem Sub.refl(a:AV):Sub a a:=λ_ _ _ h=>h
def Uc(C:Ctx)(fn:Func)(r:AV)(st:ASt):Prop:=
 ∃rs,resA C st fn.results.toList=some rs∧jT st.h (Da rs)∧eL (vR st.h (Da rs))=true∧Sub (vR st.h (Da rs)) r
def Fin(C:Ctx)(fn:Func)(r:AV):AEx->ASt->Prop
 | .exit _,_=>False
 |_,st=>Uc C fn r st
def Xi(tmps:Array Value):ResultVar->Sem Value
 | .tmp t=>pure (tmps.getD t undef)
 | .cell a t=>do loadVar t (<-asAddr (tmps.getD a undef))
def Nh(fn:Func)(tmps:Array Value):results fn tmps=(do let vs<-fn.results.mapM (Xi tmps);pure (if h:vs.size=1 then vs[0]else .tuple vs)):=rfl
def yN{P:Program}{w:World}{tmps:Array Value}(l:List ResultVar)(vs:List Value)(h:(l.mapM (Xi tmps)).run P w=.ok vs w)(fn:Func)(hl:fn.results.toList=l):
  (results fn tmps).run P w=.ok (if h:vs.toArray.size=1 then vs.toArray[0]else .tuple vs.toArray) w:=by
 rw[Nh,Array.mapM_eq_mapM_toList,hl];simp only[Sem.run_bind,map_eq_pure_bind,Sem.run_pure];rw[h];simp only[Result.andThen_ok,Sem.run_pure]
theorem IL(hC:CtxOk C){t:Nat->AV}{h:AH}{n:Nat}{a:Act}{w:World}{D:Nat->Prop}{S:Nat->Prop}{β:Bt}(M:SimD C V w0 S0 N D t h a w S β):∀(l:List ResultVar) (rs:List AV),resA C ⟨t,h,n⟩ l=some rs->
  ∃vs,(l.mapM (Xi a.tmps)).run C.P w=.ok vs w∧RepL S w β rs vs
 |[],rs,hr=>by simp only[resA]at hr;injection hr with hr;subst hr;exact⟨[],rfl,RepL.nil _ _ _⟩
 | .tmp i::l,rs,hr=>by
  simp only[resA]at hr;split at hr
  ·rename_i r hl;injection hr with hr;subst hr;obtain⟨vs,h1,h2⟩:=IL hC M l r hl;exact⟨a.tmps.getD i undef::vs,by simp only[tY,Sem.run_bind,Xi,Sem.run_pure,Result.andThen_ok,h1],RepL.cons (M.T i) h2⟩
  ·cases hr
 | .cell c ty::l,rs,hr=>by
  simp only[resA]at hr;split at hr
  ·rename_i b col r hp hl;split at hr
   ·rename_i cells hb;split at hr
    ·rename_i x hx;injection hr with hr;subst hr;obtain⟨vs,h1,h2⟩:=IL hC M l r hl;obtain⟨lo,cs,e,fr,k1,k2,k3⟩:=OQ M.H hb;have hT:=M.T c;rw[hp]at hT;generalize hv:a.tmps.getD c undef=v at hT
     cases hT with
     |ptr _ _ l' hl'=>
     obtain rfl:l'=lo:=by rw[hl']at k1;exact Option.some.inj k1
     obtain⟨u,p1,p2⟩:=BK hC k3 rfl hx;exact⟨u::vs,by simp only[tY,Sem.run_bind,Xi,hv,asAddr,Sem.run_pure,Result.andThen_ok,p1,h1],RepL.cons p2 h2⟩
    ·cases hr
   ·cases hr
  ·cases hr
theorem zX:∀(args:List AV) (i:Nat),argsT args i=(args[i]?).getD .any
 |[],i=>by simp[argsT]
 |x::xs,0=>by simp[argsT]
 |x::xs,i+1=>by simp[argsT,zX xs i]
theorem cA.intro(hC:CtxOk C){f:FuncId}{fn:Func}{body:Code}{args:List AV}{r:AV}(hf:C.P.funcs[f]?=some fn)(hb:fn.body=some body)(hnm:(fn.name== "runtime.NumGoroutine")=false)
  (hN:uT fn.ntmps body=true) (hlen:Nat.ble args.length fn.ntmps=true) (hw:eJ C (cA C) body ⟨argsT args,λ_=>none,0⟩ (Fin C fn r)) (hdf:C.df=[]:=by rfl):cA C f args r:=by
 refine⟨⟨fn,hf,by rw[hb];rfl,hnm⟩,λS w vs hS hG hargs=>?_⟩;have hlen:=aP hlen;refine calls_of_wp hf hb ?_;have M0:SimD C (Inv.any C.fr) w S fn.ntmps (· <(0:Nat)) (argsT args) (λ_=>none) {tmps:=vs.toArray++Array.replicate (fn.ntmps-vs.toArray.size) undef,defers:=[]} w S noB:=by
  have hl:vs.length=args.length:=hargs.1.symm;refine⟨λi=>?_,⟨λs blk h=>(by cases h),λs s' l l' h=>absurd rfl h,hS,aC _⟩,Below.refl _ _,λx l h=>(by cases h),hdf.symm,by simp;omega,hG,λ_ h=>.inl h,trivial⟩;rw[zX]
  cases ha:args[i]? with
  |none=>exact .any _
  | some x=>
   have hi:i<vs.length:=by rw[hl];exact(DS.1 ha).1
   have hv:vs[i]?=some vs[i]:=aA hi;have:(vs.toArray++Array.replicate (fn.ntmps-vs.toArray.size) undef).getD i undef=vs[i]:=by
    rw[aI,dL (by simpa using hi),eK,hv];rfl
   rw[this];exact hargs.2 i x _ ha hv
 refine wp_mono (Cx hC body hN ⟨argsT args,λ_=>none,0⟩ _ hw _ w S noB M0) ?_;rintro e a' w' ⟨e',st,S',β',rfl,hfin,M⟩;have fin:Uc C fn r st->a'.defers=[]∧∃v,(results fn a'.tmps).run C.P w'=.ok v w'∧∃v',Ending.returned v=.returned v'∧Below w.heap.size w w'∧Rep (λb=>S b∨(w.heap.size<=b∧b<w'.heap.size)) w' noB r v':=by
  rintro⟨rs,h1,h2,h3,h4⟩;obtain⟨t,h,n⟩:=st;obtain⟨us,g1,g2⟩:=IL hC M _ rs h1;refine⟨M.df.trans hdf,_,yN _ us g1 fn rfl,_,rfl,M.B,?_⟩;have hret:Rep S' w' β' (Da rs) (if h:us.toArray.size=1 then us.toArray[0]else .tuple us.toArray):=by
   match rs,us,g2 with
   |[],us,g2=>
    have:us=[]:=aR g2.1.symm;subst this
    exact .tup [] #[] rfl λi a u p=>by simp at p
   |[x],us,g2=>
    match us,g2 with
    |[u],g2=>simpa [Da]using g2.2 0 x u rfl rfl
    |[],g2=>exact absurd g2.1 (by simp)
    |_::_::_,g2=>exact absurd g2.1 (by simp)
   | x::y::zs,us,g2=>
    have hne: ¬us.toArray.size=1:=by
     have:=g2.1;simp at this⊢;omega
    rw[dif_neg hne];exact .tup _ _ (by simpa using g2.1) λi a u p q=>g2.2 i a u p (by simpa using q)
  have hd:=BG M.H hret h2;refine h4 _ _ _ ?_;exact(lV hd h3 noB).mono (λb hb=>hb.elim (λhb=>(M.nw b hb).imp id λh=>⟨h,M.H.lt b hb⟩) .inr) (Evo.refl _ _) (LY.refl _)
 cases e' with
 |normal=>exact fin hfin
 |ret=>exact fin hfin
 |exit i=>exact hfin.elim
end
inductive TT where
 |leaf (k:Nat) (i:TI)
 |node (k:Nat) (l r:TT)
def TT.find:TT->Nat->Option TI
 | .leaf k i,t=>match Nat.beq t k with|true=>some i|false=>none
 | .node k l r,t=>match Nat.blt t k with|true=>l.find t|false=>r.find t
def RG(P:Program):TT->Prop
 | .leaf k i=>TyOk P k i
 | .node _ l r=>RG P l∧RG P r
theorem TT.find_ok{P:Program}:∀(T:TT),RG P T->∀t i,T.find t=some i->TyOk P t i
 | .leaf k i,h,t,i',hf=>by
  simp only[TT.find]at hf;split at hf
  ·rename_i hb;injection hf with hf;subst hf;rw[aK hb];exact h
  ·cases hf
 | .node k l r,h,t,i,hf=>by
  simp only[TT.find]at hf;split at hf
  ·exact TT.find_ok l h.1 t i hf
  ·exact TT.find_ok r h.2 t i hf
def UO(P:Program)(inf:TypeInfo)(z:Value)(i:TI):Bool:=
 inf.size==i.sz&&inf.bytes==i.bytes&&z.cells.size==i.sz&&Nat.blt 0 i.sz&&Nat.ble i.bytes 1000&&Xb z.cells.toList
def RH{P:Program}{t:TypeId}{i:TI}{inf:TypeInfo}{z:Value}(h1:P.info? t=some inf)(h2:inf.zero=some z)(h3:i.zero=On z)(hc:UO P inf z i=true){d:TypeDesc}(hd:P.underlying t=some d)(hrow:d.isRow=i.ag)
  (hk:match i.kd with
  | .bool=>d=.bool
  | .int k=>d=.int k
  | .string=>d=.string
  | .slice e=>d=.slice e
  | .array n e=>d=.array n e
  | .struct fs=>∃fields,d=.struct fields∧fields.toList.map (λf=>(f.offset,f.type))=fs∧(fields.toList.all λf=>match P.info? f.type with|some i=> !(i.size==0)|none=>false)=true
  |_=>True) (he:i.eq≠[]->Xj P t i.eq):TyOk P t i:=by
 simp only[UO,aJ,pY]at hc;obtain⟨⟨⟨⟨⟨c1,c2⟩,c3⟩,c4⟩,c5⟩,c6⟩:=hc;refine⟨⟨inf,z,h1,c1,c2,h2,h3,c3,aP c4,aP c5⟩,λinf' z' e1 e2 k u hu=>?_,⟨d,hd,hrow⟩,?_,he⟩
 ·rw[h1]at e1;injection e1 with e1;subst e1;rw[h2]at e2;injection e2 with e2;subst e2;exact BJ _ c6 k u (by simpa using hu)
 ·cases hkd:i.kd<;>rw[hkd]at hk<;>simp only at hk⊢ <;>first|(rw[hd,hk];done)|trivial|skip
  obtain⟨fields,rfl,g1,g2⟩:=hk;refine⟨fields,hd,g1,λf hf=>?_⟩;have:=lE.1 g2 f hf;split at this
  ·rename_i inf' hi;exact⟨inf',hi,by simpa using this⟩
  ·cases this
theorem LR:∀(ks:List CK) (xs ys:List Value) (b:Bool),eqVL ks xs ys=some b->xs.length=ks.length∧ys.length=ks.length
 |[],[],[],_,_=>⟨rfl,rfl⟩
 | k::ks,x::xs,y::ys,b,h=>by
  simp only[eqVL]at h;split at h
  ·rename_i a c h1 h2;obtain⟨e1,e2⟩:=LR ks xs ys c h2;exact⟨by simp[e1],by simp[e2]⟩
  ·cases h
 |[],[],_::_,_,h=>by simp[eqVL]at h
 |[],_::_,_,_,h=>by simp[eqVL]at h
 |_::_,[],_,_,h=>by simp[eqVL]at h
 |_::_,_::_,[],_,h=>by simp[eqVL]at h
theorem Bi:∀(ks js:List CK) (xs ys:List Value) (b:Bool),eqVL (ks++js) xs ys=some b->
  ∃b1 b2,eqVL ks (xs.take ks.length) (ys.take ks.length)=some b1∧eqVL js (xs.drop ks.length) (ys.drop ks.length)=some b2∧b=(b1&&b2)
 |[],js,xs,ys,b,h=>⟨true,b,by simp[eqVL],by simpa using h,by simp⟩
 | k::ks,js,x::xs,y::ys,b,h=>by
  simp only[nX,eqVL]at h;split at h
  ·rename_i a c h1 h2;injection h with h;subst h;obtain⟨b1,b2,e1,e2,e3⟩:=Bi ks js xs ys c h2;refine⟨a&&b1,b2,?_,by simpa using e2,by rw[e3,nB]⟩;simp only[bN,oM,eqVL,h1,e1]
  ·cases h
 |_::_,_,[],_,_,h=>by simp[eqVL]at h
 |_::_,_,_::_,[],_,h=>by simp[eqVL]at h
def Bj(P:Program)(K:TypeId->Option (List CK)):Nat->List Field->Option (List CK)
 |_,[]=>some []
 | off,f::fs=>match f.name== "_",f.offset==off,P.info? f.type,K f.type with
  |false,true,some inf,some ks=>match inf.size==ks.length,Bj P K (off+ks.length) fs with
   |true,some js=>some (ks++js)
   |_,_=>none
  |_,_,_,_=>none
def cellK(P:Program):Nat->TypeId->Option (List CK)
 |0,_=>none
 | d+1,t=>match P.underlying t with
  |some .bool=>some [.b]
  |some (.int _)=>some [.i]
  |some .string=>some [.s]
  |some (.struct fs)=>match P.stoodInHeld t with|true=>none|false=>Bj P (cellK P d) 0 fs.toList
  |some (.array n e)=>match P.info? e,cellK P d e with
   |some inf,some ks=>(match inf.size==ks.length with|true=>some (List.flatten (List.replicate n ks))|false=>none)
   |_,_=>none
  |_=>none
def FN(P:Program)(D:Nat)(t:TypeId)(ks:List CK):Prop:=∀(xs ys:Array Value) (off:Nat) (b:Bool) (w:World),
 eqVL ks ((xs.toList.drop off).take ks.length) ((ys.toList.drop off).take ks.length)=some b->
 ∃u v,(part t xs off).run P w=.ok u w∧(part t ys off).run P w=.ok v w∧(Op.equalIn D t u v).run P w=.ok b w
theorem LS{P:Program}{D:Nat}{K:TypeId->Option (List CK)}(hK:∀t ks inf,K t=some ks->P.info? t=some inf->inf.size=ks.length->FN P D t ks):
  ∀(fs:List Field) (off:Nat) (js:List CK) (xs ys:Array Value) (b:Bool) (w:World),Bj P K off fs=some js->eqVL js (xs.toList.drop off) (ys.toList.drop off)=some b->
  (forIn fs ((none,()):Option Bool×PUnit) (λf r=>do
    if f.name≠ "_" then
     if !(<-Op.equalIn D f.type (<-part f.type xs f.offset) (<-part f.type ys f.offset))then pure (ForInStep.done (some false,()))else pure (ForInStep.yield (none,()))
    else pure (ForInStep.yield (none,())):Field->Option Bool×PUnit->Sem (ForInStep (Option Bool×PUnit)))).run P w=.ok (match b with|true=>(none,())|false=>(some false,())) w
 | [],off,js,xs,ys,b,w,hf,h=>by
  simp only[Bj,Option.some.injEq]at hf;subst hf;have hb:b=true:=by
   cases hx:xs.toList.drop off<;>cases hy:ys.toList.drop off<;>rw[hx,hy]at h<;>simp[eqVL]at h<;>first|exact h|exact h.symm
  subst hb;rfl
 | f ::fs,off,js,xs,ys,b,w,hf,h=>by
  simp only[Bj]at hf;split at hf
  ·rename_i inf ks h1 h2 h3 h4;split at hf
   ·rename_i js' h5 h6;injection hf with hf;subst hf;have e2:f.offset=off:=by simpa using h2
    have e5:inf.size=ks.length:=by simpa using h5
    have e1:f.name≠ "_" :=by simpa using h1
    obtain⟨b1,b2,g1,g2,g3⟩:=Bi ks js' _ _ b h;obtain⟨u,v,p1,p2,p3⟩:=hK f.type ks inf h4 h3 e5 xs ys off b1 w g1;have IH:=LS hK fs (off+ks.length) js' xs ys b2 w h6 (by simpa [kX]using g2);simp only[List.forIn_cons,Sem.run_bind,e1,e2,ne_eq,not_false_eq_true,kY,p1,p2,p3,Result.andThen_ok]
    cases b1 with
    |false=>subst g3;simp
    |true=>
     simp only[lY,bZ,iJ,Sem.run_pure,Result.andThen_ok];rw[g3,eF];simpa only[ne_eq]using IH
   ·cases hf
  ·cases hf
def Xh{P:Program}{D:Nat}{t:TypeId}{K:TypeId->Option (List CK)}(hK:∀t ks inf,K t=some ks->P.info? t=some inf->inf.size=ks.length->FN P D t ks)
  {fs:Array Field} (hu:P.underlying t=some (.struct fs)) (hst:P.stoodInHeld t=false) {ks:List CK} (hf:Bj P K 0 fs.toList=some ks) {xs ys:Array Value} {b:Bool} (w:World) (h:eqVL ks xs.toList ys.toList=some b):
  (Op.equalIn (D+1) t (.agg xs) (.agg ys)).run P w=.ok b w:=by
 rw[Op.equalIn];have:=LS hK fs.toList 0 ks xs ys b w hf (by simpa using h);simp only[Sem.run_bind,run_underlying hu,Result.andThen_ok,show Sem.run P program w=.ok P w from rfl,hst,bZ,iJ];rw[<-Array.forIn_toList];simp only[ne_eq,Sem.run_bind]at this⊢;rw[this];cases b<;>rfl
theorem Kq{P:Program}{D:Nat}{e:TypeId}{ks:List CK}{inf:TypeInfo}(hi:P.info? e=some inf)(hsz:inf.size=ks.length)(hK:FN P D e ks):
  ∀(m s:Nat) (xs ys:Array Value) (b:Bool) (w:World),eqVL (List.flatten (List.replicate m ks)) (xs.toList.drop (s*ks.length)) (ys.toList.drop (s*ks.length))=some b->
  (forIn (List.range' s m) ((none,()):Option Bool×PUnit) (λi r=>do
    if !(<-Op.equalIn D e (<-part e xs (i*ks.length)) (<-part e ys (i*ks.length)))then pure (ForInStep.done (some false,()))else pure (ForInStep.yield (none,())):Nat->Option Bool×PUnit->Sem (ForInStep (Option Bool×PUnit)))).run P w=.ok (match b with|true=>(none,())|false=>(some false,())) w
 | 0,s,xs,ys,b,w,h=>by
  have hb:b=true:=by
   simp only[List.replicate_zero,List.flatten_nil]at h;cases hx:xs.toList.drop (s*ks.length)<;>cases hy:ys.toList.drop (s*ks.length)<;>rw[hx,hy]at h<;>simp[eqVL]at h<;>first|exact h|exact h.symm
  subst hb;rfl
 | m+1,s,xs,ys,b,w,h=>by
  rw[List.replicate_succ,mP]at h;obtain⟨b1,b2,g1,g2,g3⟩:=Bi ks _ _ _ b h;obtain⟨u,v,p1,p2,p3⟩:=hK xs ys (s*ks.length) b1 w g1;have IH:=Kq hi hsz hK m (s+1) xs ys b2 w (by rw[cG,kU];simpa [kX]using g2);rw[nY];simp only[List.forIn_cons,Sem.run_bind,p1,p2,p3,Result.andThen_ok]
  cases b1 with
  |false=>subst g3;simp
  |true=>
   simp only[lY,bZ,iJ,Sem.run_pure,Result.andThen_ok];rw[g3,eF];exact IH
theorem LT{P:Program}:∀(d D:Nat),d<=D->∀t ks inf,cellK P d t=some ks->P.info? t=some inf->inf.size=ks.length->FN P D t ks
 |0,_,_,t,ks,_,h,_,_=>by simp[cellK]at h
 |d+1,0,hD,_,_,_,_,_,_=>by omega
 | d + 1,D+1,hD,t,ks,inf,h,hi,hsz=>by
  intro xs ys off b w he;simp only[cellK]at h;have sc:∀(k:CK),ks=[k]->∃u v,xs.toList[off]?=some u∧ys.toList[off]?=some v∧eqV k u v=some b:=by
   intro k hk;subst hk;obtain⟨l1,l2⟩:=LR _ _ _ _ he
   cases hx:(xs.toList.drop off)with
   |nil=>rw[hx]at l1;simp at l1
   | cons u us=>
    cases hy:(ys.toList.drop off)with
    |nil=>rw[hy]at l2;simp at l2
    | cons v vs=>
     rw[hx,hy]at he;simp only[bN,cW,bF,oM,pZ,eqVL]at he;refine⟨u,v,?_,?_,?_⟩
     ·have:(xs.toList.drop off)[0]?=some u:=by rw[hx];rfl
      simpa using this
     ·have:(ys.toList.drop off)[0]?=some v:=by rw[hy];rfl
      simpa using this
     ·split at he
      ·rename_i a c g1 g2;injection g2 with g2;subst g2;rw[g1];simpa using he
      ·cases he
  have pt:∀(dd:TypeDesc) (zs:Array Value) (u:Value),P.underlying t=some dd->dd.isRow=false->zs.toList[off]?=some u->(part t zs off).run P w=.ok u w:=by
   intro dd zs u hu hr hz;have hz':zs[off]?=some u:=by simpa using hz
   unfold part isAgg;simp only[Sem.run_bind,run_underlying hu,Result.andThen_ok];cases dd<;>first|(simp[TypeDesc.isRow]at hr;done)|(simp[hz'])
  split at h
  ·rename_i hu;injection h with h;subst h;obtain⟨u,v,g1,g2,g3⟩:=sc .b rfl;refine⟨u,v,pt _ _ _ hu rfl g1,pt _ _ _ hu rfl g2,?_⟩;cases u<;>cases v<;>simp[eqV]at g3
   rw[Op.equalIn];simp only[Sem.run_bind,run_underlying hu,Result.andThen_ok,Sem.run_pure];simp[g3]
  ·rename_i k0 hu;injection h with h;subst h;obtain⟨u,v,g1,g2,g3⟩:=sc .i rfl;refine⟨u,v,pt _ _ _ hu rfl g1,pt _ _ _ hu rfl g2,?_⟩;cases u<;>cases v<;>simp only[eqV]at g3<;>try (cases g3;done)
   split at g3
   ·rename_i hk;have:=Ed hk;subst this;rw[Op.equalIn];simp only[Sem.run_bind,run_underlying hu,Result.andThen_ok,kY,Sem.run_pure];simpa using g3
   ·cases g3
  ·rename_i hu;injection h with h;subst h;obtain⟨u,v,g1,g2,g3⟩:=sc .s rfl;refine⟨u,v,pt _ _ _ hu rfl g1,pt _ _ _ hu rfl g2,?_⟩;cases u<;>cases v<;>simp[eqV]at g3
   rw[Op.equalIn];simp only[Sem.run_bind,run_underlying hu,Result.andThen_ok,Sem.run_pure];simp[g3]
  ·rename_i fs hu;split at h
   ·cases h
   ·rename_i hst;have IH:∀t ks inf,cellK P d t=some ks->P.info? t=some inf->inf.size=ks.length->FN P D t ks:=LT d D (by omega);have pa:∀zs:Array Value,(part t zs off).run P w=.ok (.agg (zs.extract off (off+ks.length))) w:=by
     intro zs;unfold part isAgg sizeOf typeInfo;simp[run_underlying hu,hi,hsz]
    refine⟨_,_,pa xs,pa ys,Xh IH hu hst h w ?_⟩;simpa [nZ,List.extract]using he
  ·rename_i n e hu;split at h
   ·rename_i inf' ks' h1 h2;split at h
    ·rename_i h3;injection h with h;have hs':inf'.size=ks'.length:=by simpa using h3
     have IH:FN P D e ks':=LT d D (by omega) e ks' inf' h2 h1 hs';have pa:∀zs:Array Value,(part t zs off).run P w=.ok (.agg (zs.extract off (off+ks.length))) w:=by
      intro zs;unfold part isAgg sizeOf typeInfo;simp[run_underlying hu,hi,hsz]
     refine⟨_,_,pa xs,pa ys,?_⟩;rw[Op.equalIn];have hz:(sizeOf e).run P w=.ok ks'.length w:=by unfold sizeOf typeInfo;simp[h1,hs']
     have L:=Kq h1 hs' IH n 0 (xs.extract off (off+ks.length)) (ys.extract off (off+ks.length)) b w (by rw[h];simpa [nZ,List.extract]using he);simp only[Sem.run_bind,run_underlying hu,Result.andThen_ok,hz];simp only[Std.Legacy.Range.forIn_eq_forIn_range',Std.Legacy.Range.size,Nat.sub_zero,Nat.add_one_sub_one,uE]
     (try simp only[Sem.run_bind]at L)
     rw[L];cases b<;>rfl
    ·cases h
   ·cases h
  ·cases h
def yM{P:Program}{d:Nat}{t:TypeId}{ks:List CK}(h:(match P.underlying t with
  |some (.struct fs)=>if(!P.stoodInHeld t&& !P.eqGuardType P.depth t)=true then Bj P (cellK P d) 0 fs.toList else none
  |_=>none)=some ks) (hd:Nat.ble d 9999=true:=by rfl):Xj P t ks:=by
 intro xs ys b x y w he;split at h
 ·rename_i fs hu;split at h
  ·rename_i hc;simp only[aJ,qQ]at hc;have e1:(Op.equal t (.agg xs) (.agg ys)).run P w=.ok b w:=by
    unfold Op.equal;rw[show Op.maxDepth=9999+1 from rfl];exact Xh (LT d 9999 (aP hd)) hu hc.1 h w he
   have e2:∀op,(op=.eql∨op=.neq)->(eqGuard op t x y (.agg xs) (.agg ys)).run P w=.ok () w:=by
    intro op ho;unfold eqGuard;rcases ho with rfl|rfl<;>simp[show Sem.run P program w=.ok P w from rfl,hc.2]
   constructor
   ·simp only[Sem.run_bind,e2 .eql (.inl rfl),Result.andThen_ok,binOp,e1,Sem.run_pure]
   ·simp only[Sem.run_bind,e2 .neq (.inr rfl),Result.andThen_ok,binOp,e1,Sem.run_pure]
  ·cases h
 ·cases h
def RF{P:Program}{d:Nat}{t e:TypeId}{n:Nat}{inf:TypeInfo}{ks ks':List CK}(hu:P.underlying t=some (.array n e))(h1:P.info? e=some inf)(h2:cellK P d e=some ks')(hs:inf.size=ks'.length)(h:List.flatten (List.replicate n ks')=ks)(hg:P.eqGuardType P.depth t=false)(hd:Nat.ble d 9999=true:=by rfl):Xj P t ks:=by
 intro xs ys b x y w he;have e1:(Op.equal t (.agg xs) (.agg ys)).run P w=.ok b w:=by
  unfold Op.equal;rw[show Op.maxDepth=9999+1 from rfl,Op.equalIn];have hz:(sizeOf e).run P w=.ok ks'.length w:=by unfold sizeOf typeInfo;simp[h1,hs]
  have L:=Kq h1 hs (LT d 9999 (aP hd) e ks' inf h2 h1 hs) n 0 xs ys b w (by rw[h];simpa using he);simp only[Sem.run_bind,run_underlying hu,Result.andThen_ok,hz];simp only[Std.Legacy.Range.forIn_eq_forIn_range',Std.Legacy.Range.size,Nat.sub_zero,Nat.add_one_sub_one,uE]
  (try simp only[Sem.run_bind]at L)
  rw[L];cases b<;>rfl
 have e2:∀op,(op=.eql∨op=.neq)->(eqGuard op t x y (.agg xs) (.agg ys)).run P w=.ok () w:=by
  intro op ho;unfold eqGuard;rcases ho with rfl|rfl<;>simp[show Sem.run P program w=.ok P w from rfl,hg]
 constructor
 ·simp only[Sem.run_bind,e2 .eql (.inl rfl),Result.andThen_ok,binOp,e1,Sem.run_pure]
 ·simp only[Sem.run_bind,e2 .neq (.inr rfl),Result.andThen_ok,binOp,e1,Sem.run_pure]
def slotsF:List (Nat×AV)->Nat->AV
 |[],_=>.any
 |(i,x)::l,j=>match Nat.beq i j with|true=>x|false=>slotsF l j
def heapF:List (Nat×Blk)->AH
 |[],_=>none
 |(i,x)::l,j=>match Nat.beq i j with|true=>some x|false=>heapF l j
def WT(st:ASt)(n:Nat)(σ:Nat->Nat):List (Nat×AV)->Prop
 |[]=>True
 |(i,x)::l=>(st.t i=uX σ x∧mL n x=true)∧WT st n σ l
def WH(st:ASt)(n:Nat)(σ:Nat->Nat):List (Nat×Blk)->Prop
 |[]=>True
 |(i,x)::l=>(Nat.blt i n=true∧st.h (σ i)=some (Du σ x)∧qU n x=true)∧WH st n σ l
def LQ(x:Nat):List Nat->Bool
 |[]=>true
 |y::l=>match Nat.beq x y with|true=>false|false=>LQ x l
def DT:List Nat->Bool
 |[]=>true
 |x::l=>match LQ x l with|true=>DT l|false=>false
theorem FJ:∀(l:List Nat) (x:Nat),LQ x l=true->x ∉ l
 |[],_,_=>by simp
 | y::l,x,h=>by
  simp only[LQ]at h;split at h
  ·cases h
  ·rename_i hb;have:x≠y:=λe=>by subst e;simp at hb
   simp[this,FJ l x h]
theorem FK{σ:Nat->Nat}:∀(l:List Nat),DT (l.map σ)=true->∀a∈l,∀b∈l,σ a=σ b->a=b
 |[],_=>by simp
 | x::l,h=>by
  simp only[jI,DT]at h;split at h
  ·rename_i hf;have hn:=FJ _ _ hf;have ih:=FK l h;intro a ha b hb e;rcases al_List_mem_cons.1 ha with rfl|ha
   ·rcases al_List_mem_cons.1 hb with hb|hb
    ·exact hb.symm
    ·exact absurd (sY.2 ⟨b,hb,e.symm⟩) hn
   ·rcases al_List_mem_cons.1 hb with hb|hb
    ·exact absurd (sY.2 ⟨a,ha,e.trans (congrArg σ hb)⟩) hn
    ·exact ih a ha b hb e
  ·cases h
theorem Weak.of_lists{st:ASt}{l:List (Nat×AV)}{hp:List (Nat×Blk)}{n:Nat}(σ:Nat->Nat)(ht:WT st n σ l)(hh:WH st n σ hp)(hi:DT ((hp.map (·.1)).map σ)=true):Weak st ⟨slotsF l,heapF hp,n⟩ σ:=by
 have keyH:∀(hp:List (Nat×Blk)) s blk,heapF hp s=some blk->s∈hp.map (·.1):=by
  intro hp
  induction hp with
  |nil=>intro s blk h;simp[heapF]at h
  | cons p hp ih=>
   obtain⟨i,x⟩:=p;intro s blk h;simp only[heapF]at h;split at h
   ·rename_i hb;simp[aK hb]
   ·simp[ih s blk h]
 refine⟨λi=>?_,λs blk hs=>?_,λs s' h1 h2 e=>?_⟩
 ·clear hh hi
  induction l with
  |nil=>exact .inl rfl
  |cons p l ih=>
   obtain⟨j,x⟩:=p;obtain⟨⟨h1,h2⟩,h3⟩:=ht;simp only[slotsF]
   cases hb:Nat.beq j i with
   |true=>exact .inr (by rw[<-aK hb];exact⟨h1,h2⟩)
   |false=>exact ih h3
 ·clear ht hi
  induction hp with
  |nil=>cases hs
  | cons p hp ih=>
   obtain⟨j,x⟩:=p;obtain⟨⟨h1,h2,h3⟩,h4⟩:=hh
   change heapF _ _=_ at hs
   simp only[heapF]at hs
   cases hb:Nat.beq j s with
   |true=>
    rw[hb]at hs;injection hs with hs;subst hs;rw[<-aK hb]
    exact⟨aP h1,h2,h3⟩
   |false=>rw[hb]at hs;exact ih h4 hs
 ·cases e1:heapF hp s with
  |none=>exact absurd e1 h1
  |some b1=>
   cases e2:heapF hp s' with
   |none=>exact absurd e2 h2
   |some b2=>exact FK _ hi s (keyH hp s b1 e1) s' (keyH hp s' b2 e2) e
section
variable {C:Ctx}{V:Inv C.fr}{R:FuncId->List AV->AV->Prop}
def Ot{h:AH}{s:Nat}{r:Res}{K K':AV->AH->Prop}(hk:∀x h,K x h->K' x h)(hn:node C R h s r K):node C R h s r K':=by
 cases r<;>simp only[node]at hn⊢
 case ok=>exact hk _ _ hn
 case need=>exact .mk hn.1 (hk _ _ hn.2)
 case idx=>
  obtain⟨row,hr,h1⟩:=hn;refine .mk row hr ?_;split
  ·rename_i hx;rw[hx]at h1;exact hk _ _ h1
  ·rename_i hx;rw[hx]at h1;exact h1.elim
 case fx=>exact .mk hn.1 (hk _ _ hn.2)
 case idxfx=>
  obtain⟨row,hr,h1⟩:=hn;refine .mk row hr ?_;split
  ·rename_i hx;rw[hx]at h1;exact hk _ _ h1
  ·rename_i hx;rw[hx]at h1;exact h1.elim
 case str=>obtain⟨l,h1,h2⟩:=hn;exact .mk l h1 (hk _ _ h2)
 case call=>
  rcases hn with hn|hn
  ·obtain⟨x,a,b,c,d,e⟩:=hn;exact .inl (.mk x a b c d (hk _ _ e))
  ·obtain⟨Post,a,b⟩:=hn;exact .inr (.mk Post a λr h' hP=>hk _ _ (b r h' hP))
def FL{h:AH}{g:Bool}{r:Res}{K K':AV->AH->Prop}(hk:∀x h,K x h->K' x h)(hn:Dt C R h g r K):Dt C R h g r K':=by
 cases r<;>simp only[Dt]at hn⊢
 case ok=>exact hk _ _ hn
 case need=>exact .mk hn.1 (hk _ _ hn.2)
 case idx=>
  obtain⟨row,hr,h1⟩:=hn;refine .mk row hr ?_;split
  ·rename_i hx;rw[hx]at h1;exact hk _ _ h1
  ·rename_i hx;rw[hx]at h1;exact h1.elim
 case str=>obtain⟨l,h1,h2⟩:=hn;exact .mk l h1 (hk _ _ h2)
 case call=>obtain⟨x,a,b,c,d,e⟩:=hn;exact .mk x a b c d (hk _ _ e)
def Ng{r:Res}{K K':AV->AH->Prop}(hk:∀x h,K x h->K' x h)(hn:Nt r K):Nt r K':=by
 cases r<;>simp only[Nt]at hn⊢
 case fx=>exact .mk hn.1 (hk _ _ hn.2)
def FM{all:List Oper}{o:Oper}{s:Nat}{t:Nat->AV}{h:AH}{K K':AV->AH->Prop}(hk:∀x h,K x h->K' x h)(hn:vS C R all o s t h K):vS C R all o s t h K':=by
 unfold vS at hn⊢;split
 ·rename_i hg;rw[hg]at hn;exact Ot hk hn
 ·rename_i i pol hg;rw[hg]at hn;simp only at hn;split
  ·rename_i hd;rw[hd]at hn;exact hn
  ·rename_i d hd;rw[hd]at hn;simp only at hn;split
   ·rename_i hv;rw[hv]at hn;exact hn
   ·rename_i g hv;rw[hv]at hn;simp only at hn;split
    ·rename_i hc;rw[hc]at hn;exact hn.imp (FL hk) λq=>⟨q.1,Ng hk q.2⟩
    ·rename_i c hc;rw[hc]at hn;exact .mk hn.1 (FL hk hn.2)
theorem DU{all:List Oper}{K K':ASt->Prop}(hk:∀st,K st->K' st):∀(l:List Oper) (j:Nat) (st:ASt),jY C R all l j st K->jY C R all l j st K'
 |[],_,_,h=>hk _ h
 |_::l,j,_,h=>FM (λ_ _ q=>DU hk l (j+1) _ q) h
theorem IG{α:Type}{P P':α->Prop}(h:∀x,P x->P' x):∀l,forL P l->forL P' l
 |[],_=>trivial
 |x::l,k=>⟨h x k.1,IG h l k.2⟩
theorem II{ops:Array Oper}{K K':ASt->Prop}(hk:∀st,K st->K' st):∀(fuel:Nat) (listed:Array Bool) (st:ASt),OV C R ops K fuel listed st->OV C R ops K' fuel listed st
 |0,_,_,h=>⟨h.1,hk _ h.2⟩
 | fuel+1,listed,st,h=>⟨h.1,IG (λi q=>by
   unfold Rw at q⊢;split
   ·rename_i o ho;rw[ho]at q;exact FM (λ_ _ q=>II hk fuel _ _ q) q
   ·rename_i ho;rw[ho]at q;exact q) _ h.2⟩
theorem kV:∀(c:Code) (st:ASt) (Q Q':AEx->ASt->Prop),(∀e st,Q e st->Q' e st)->eJ C R c st Q->eJ C R c st Q'
 | .skip,_,_,_,hq,h=>hq _ _ h
 | .label _,_,_,_,hq,h=>hq _ _ h
 | .region _ ops dr,_,_,_,hq,h=>by
  simp only[eJ]at h⊢;split
  ·rename_i hb;rw[hb]at h;exact h.elim (λh=>.inl (II (λst q=>hq _ st q) _ _ _ h)) λh=>.inr ⟨h.1,DU (λst q=>⟨q.1,hq _ st q.2⟩) _ _ _ h.2⟩
  ·rename_i hb;rw[hb]at h;exact DU (λst q=>hq _ st q) _ _ _ h
 | .seq a b,st,Q,Q',hq,h=>h.imp
  (λh=>kV a st _ _ (λe st' k=>by
   cases e with
   |normal=>exact kV b st' Q Q' hq k
   |exit i=>exact hq _ _ k
   |ret=>exact hq _ _ k) h)
  (λh=>h.imp (λh=>kV a st _ _ (λe st' k=>by
   cases e with
   |normal=>obtain⟨st2,g,k⟩:=k;exact .mk st2 g (kV b st2 Q Q' hq k)
   |exit i=>exact hq _ _ k
   |ret=>exact hq _ _ k) h)
   (λh=>kV a st _ _ (λe st' k=>by
   cases e with
   |normal=>obtain⟨st2,g,st3,σ,h1,h2,k⟩:=k;exact .mk st2 g (.mk st3 σ h1 h2 (kV b st3 Q Q' hq k))
   |exit i=>exact hq _ _ k
   |ret=>exact hq _ _ k) h))
 | .cond c x y,st,Q,Q',hq,h=>by
  simp only[eJ]at h⊢;split
  ·rename_i b hv;rw[hv]at h;obtain⟨h1,h2⟩:=h;exact .mk (λe=>kV x st Q Q' hq (h1 e)) (λe=>kV y st Q Q' hq (h2 e))
  ·rename_i hv;split at h
   ·rename_i b hv';exact absurd hv' (hv b)
   ·exact h
 | .block id b,st,Q,Q',hq,h=>kV b st _ _ (λe st' k=>by
   cases e with
   |normal=>exact hq _ _ k
   |exit i=>
    simp only at k⊢;split
    ·rename_i hb;rw[hb]at k;exact hq _ _ k
    ·rename_i hb;rw[hb]at k;exact hq _ _ k
   |ret=>exact hq _ _ k) h
 | .loop b,st,Q,Q',hq,h=>by
  obtain⟨I,μ,st0,σ,hw,hf,h0,round⟩:=h;exact .mk I μ st0 σ hw hf h0 λst' hi=>kV b st' _ _ (λe st'' k=>by
   cases e with
   |normal=>exact k
   |exit i=>exact hq _ _ k
   |ret=>exact hq _ _ k) (round st' hi)
 | .exit id,_,_,_,hq,h=>hq _ _ h
 | .ret,_,_,_,hq,h=>hq _ _ h
end
def tC{C:Ctx}{R:FuncId->List AV->AV->Prop}{b:Code}{st:ASt}{Q:AEx->ASt->Prop}{κ:Type}(S:κ->ASt)(G:κ->Prop)(μ:κ->Nat)(k0:κ)(σ:Nat->Nat)(hw:Weak st (S k0) σ)(hf:keepB C.fr σ (S k0).n=true)(h0:G k0)
  (round:∀k,G k->eJ C R b (S k) (λe st'=>match e with| .normal=>GhostN st' (λstg=>∃k' σ,Weak stg (S k') σ∧keepB C.fr σ (S k').n=true∧G k'∧μ k'<μ k)|e=>Q e st')):eJ C R (.loop b) st Q:=by
 show LoopN C.fr (eJ C R b) st Q
 classical
 have least:∀(st:ASt) (n:Nat) (k:κ),G k->st=S k->μ k<=n->∃k,G k∧st=S k∧∀k',G k'->st=S k'->μ k<=μ k':=by
  intro st n
  induction n with
  |zero=>intro k h1 h2 h3;exact⟨k,h1,h2,λk' _ _=>by omega⟩
  |succ n ih=>
   intro k h1 h2 h3;by_cases hc:∃k',G k'∧st=S k'∧μ k'<=n
   ·obtain⟨k',p,q,r⟩:=hc;exact ih k' p q r
   ·exact⟨k,h1,h2,λk' p q=>aY (bQ (aN h3 (Nat.lt_of_not_le λr=>hc ⟨k',p,q,r⟩)))⟩
 have hl:∀st:ASt,(∃k,G k∧st=S k)->∃k,G k∧st=S k∧∀k',G k'->st=S k'->μ k<=μ k':=λst ⟨k,p,q⟩=>least st (μ k) k p q (aC _)
 let M:ASt->Nat:=λst=>open Classical in if h:∃k,G k∧st=S k then μ (Classical.choose (hl st h))else 0
 have hM:∀st k,G k->st=S k->M st<=μ k:=by
  intro st k p q;have h:∃k,G k∧st=S k:=⟨k,p,q⟩;show dite _ _ _<=_;rw[dif_pos h];exact(nA (hl st h)).2.2 k p q
 refine .mk (λst=>∃k,G k∧st=S k) M (S k0) σ hw hf ⟨k0,h0,rfl⟩ ?_;rintro st' h;have e:M st'=μ (Classical.choose (hl st' h)):=dif_pos h;obtain⟨p,q,r⟩:=nA (hl st' h);generalize Classical.choose (hl st' h)=k at e p q r;subst q;have:=round k p;refine kV b _ _ _ (λe' st'' hq=>?_) this
 cases e' with
 |normal=>
  obtain⟨stg,g,k',σ',h1,hf',h2,h3⟩:=hq
  exact .mk stg g ⟨S k',σ',h1,hf',⟨k',h2,rfl⟩,by rw[e];exact bM (hM _ k' h2 rfl) h3⟩
 |exit i=>exact hq
 |ret=>exact hq
def jX{C:Ctx}{R:FuncId->List AV->AV->Prop}{b:Code}{st:ASt}{Q:AEx->ASt->Prop}{κ:Type}(S:κ->ASt)(G:κ->Prop)(μ:κ->Nat)(k0:κ)(σ:Nat->Nat)(hw:Weak st (S k0) σ)(h0:G k0)
  (round:∀k,G k->eJ C R b (S k) (λe st'=>match e with| .normal=>∃k' σ,Weak st' (S k') σ∧G k'∧μ k'<μ k|e=>Q e st')) (hfr:C.fr=0:=by rfl):eJ C R (.loop b) st Q:=by
 refine tC S G μ k0 σ hw (by rw[hfr];rfl) h0 λk hk=>kV b _ _ _ (λe st' q=>?_) (round k hk)
 cases e with
 |normal=>obtain⟨k',σ',h1,h2,h3⟩:=q;exact .mk st' (.refl _) ⟨k',σ',h1,by rw[hfr];rfl,h2,h3⟩
 |exit i=>exact q
 |ret=>exact q
def YY:List AV->Option (List Value)
 |[]=>some []
 | .v x::cs=>match YY cs with|some l=>some (x::l)|none=>none
 |_::_=>none
def RE:AV->Option Value
 | .v x=>some x
 | .agg cs=>match YY cs with|some l=>(match Xb l with|true=>some (.agg l.toArray)|false=>none)|none=>none
 |_=>none
def IJ:List AV->Option (List Value)
 |[]=>some []
 |x::cs=>match RE x,IJ cs with|some u,some l=>some (u::l)|_,_=>none
theorem GM:∀(cs:List AV) (l:List Value),YY cs=some l->cs=l.map .v
 |[],l,h=>by injection h with h;subst h;rfl
 | c::cs,l,h=>by
  cases c<;>simp only[YY]at h<;>try (cases h;done)
  split at h
  ·rename_i l' hl;injection h with h;subst h;rw[GM cs l' hl];rfl
  ·cases h
section
variable {S:Nat->Prop}{w:World}{β:Bt}
def GN{a:AV}{u:Value}(h:RE a=some u):Rep S w β a u:=by
 cases a<;>simp only[RE]at h<;>try (cases h;done)
 case v x=>injection h with h;subst h;exact .v _
 case agg cs=>
  split at h
  ·rename_i l hl;split at h
   ·rename_i ho;injection h with h;subst h;have:=GM cs l hl;subst this;refine .agg _ _ (by simp) (λi u hu=>BJ _ ho i u (by simpa using hu)) λi a u h1 h2=>?_;have h2':l[i]?=some u:=by simpa using h2
    simp[h2']at h1;subst h1;exact .v _
   ·cases h
  ·cases h
def Ou{a:AV}{u v:Value}(h:RE a=some u)(hr:Rep S w β a v):v=u:=by
 cases a<;>simp only[RE]at h<;>try (cases h;done)
 case v x=>injection h with h;subst h;cases hr;rfl
 case agg cs=>
  split at h
  ·rename_i l hl;split at h
   ·injection h with h;subst h;have:=GM cs l hl;subst this
    cases hr with
    | agg _ vs hl1 h1 hh=>
     congr 1;apply Array.ext
     ·simpa using hl1.symm
     ·intro i p q;have p1:vs[i]?=some vs[i]:=aX p;have q1:i<l.length:=by simpa using q
      have:=hh i (.v l[i]) vs[i] (by simp[q1]) p1;have:=lN this;rw[this];simp
   ·cases h
  ·cases h
theorem GO:∀{args:List AV} {vs:List Value},IJ args=some vs->args.length=vs.length
 |[],vs,h=>by injection h with h;subst h;rfl
 | x::args,vs,h=>by
  simp only[IJ]at h;split at h
  ·rename_i u l h1 h2;injection h with h;subst h;simp[GO h2]
  ·cases h
theorem GP:∀{args:List AV} {vs:List Value},IJ args=some vs->∀(i:Nat) a u,args[i]?=some a->vs[i]?=some u->RE a=some u
 |[],vs,h,i,a,u,h1,_=>by simp at h1
 | x::args,vs,h,i,a,u,h1,h2=>by
  simp only[IJ]at h;split at h
  ·rename_i u' l g1 g2;injection h with h;subst h
   cases i with
   |zero=>simp at h1 h2;subst h1;subst h2;exact g1
   |succ i=>exact GP g2 i a u (by simpa using h1) (by simpa using h2)
  ·cases h
def DE{args:List AV}{vs:List Value}(h:IJ args=some vs):RepL S w β args vs:=
 ⟨GO h,λi a u h1 h2=>GN (GP h i a u h1 h2)⟩
def Ko{args:List AV}{vs us:List Value}(h:IJ args=some vs)(hr:RepL S w β args us):us=vs:=by
 apply dC;intro i;have l1:=GO h;have l2:args.length=us.length:=hr.1;rcases al_Nat_lt_or_ge i args.length with k|k
 ·have e1:args[i]?=some args[i]:=aA k;have e2:us[i]?=some us[i]:=aA (by omega);have e3:vs[i]?=some vs[i]:=aA (by omega);rw[e2,e3,Ou (GP h i _ _ e1 e3) (hr.2 i _ _ e1 e2)]
 ·rw[bO (by omega),bO (by omega)]
end
def okB{a b:Bool}(h:a=b):Res.ok (.v (.bool a))=.ok (.v (.bool b)):=by rw[h]
def okI{k:IntKind}{a b:Int}(h:a=b):Res.ok (.v (.int k a))=.ok (.v (.int k b)):=by rw[h]
def IK{p:Prop}{k:IntKind}{a b:Int}(h:a=b):Res.need p (.v (.int k a))=.need p (.v (.int k b)):=by rw[h]
def eqN(x y:Nat):((x:Int)==(y:Int))=(x==y):=by rw[bX];simp only[pY];omega
def neN(x y:Nat):((x:Int) != (y:Int))=(x != y):=by simp only[bne,eqN]
def ltN(x y:Nat):decide ((x:Int)<(y:Int))=decide (x<y):=by simp only[Fi]
def leN(x y:Nat):decide ((x:Int)<=(y:Int))=decide (x<=y):=by simp only[Fj]
def gtN(x y:Nat):decide ((x:Int)>(y:Int))=decide (x>y):=ltN y x
def geN(x y:Nat):decide ((x:Int)>=(y:Int))=decide (x>=y):=leN y x
def IC{e B M:Nat}(h:e<=B)(hB:Nat.blt B M=true):((e%M:Nat):Int)=((e:Nat):Int):=by
 have:=aP hB;rw[rK (by omega)]
def Ua{x y B:Nat}(h:y<=B)(hB:Nat.ble B 4294967296=true):IntKind.wrap .u32 ((x:Int)-(y:Int))=(((x+4294967296-y)%4294967296:Nat):Int):=by
 have:=aP hB;simp only[IntKind.wrap,IntKind.signed,IntKind.bits];simp;omega
def wrap_i64{x:Int}(h1: -9223372036854775808<=x)(h2:x<9223372036854775808):IntKind.wrap .i64 x=x:=by
 simp only[IntKind.wrap,IntKind.signed,IntKind.bits];simp;omega
def bJ{e B:Nat}(h:e<=B)(hB:Nat.blt B 9223372036854775808=true):IntKind.wrap .i64 ((e:Nat):Int)=((e:Nat):Int):=by
 have:=aP hB;exact wrap_i64 (by omega) (by omega)
def Ub{x B:Nat}(h:x<=B)(hB:Nat.ble B 4294967295=true):(BitVec.ofInt 32 (x:Int)).toNat=x:=by
 have:=aP hB;rw[BitVec.toNat_ofInt];omega
def Xf{x:Nat}(h:x<4294967296):IntKind.wrap .u32 (x:Int)=(x:Int):=(IC (e:=x) (B:=x) (M:=4294967296) (aC _) (iN h))
def Ov{x y B D:Nat}(hx:x<=B)(hy:y<=D)(hB:Nat.ble B 4294967295=true)(hD:Nat.ble D 4294967295=true):x^^^y<=4294967295:=
 aY (mE (n:=32) (bQ (aN hx (aP hB))) (bQ (aN hy (aP hD))))
def Xg{x y B D:Nat}(hx:x<=B)(hy:y<=D)(hB:Nat.ble B 4294967295=true)(hD:Nat.ble D 4294967295=true):
  IntKind.wrap .u32 (BitVec.ofInt (IntKind.bits .u32) (x:Int)^^^BitVec.ofInt (IntKind.bits .u32) (y:Int)).toNat=((x^^^y:Nat):Int):=by
 show IntKind.wrap .u32 (BitVec.ofInt 32 (x:Int)^^^BitVec.ofInt 32 (y:Int)).toNat=_;rw[BitVec.toNat_xor,Ub hx hB,Ub hy hD];exact Xf (bQ (Ov hx hy hB hD))
def yL{C:Ctx}{fn:Func}{r:AV}{st:ASt}{rs:List AV}(h1:resA C st fn.results.toList=some rs)(h2:jT st.h (Da rs))(h3:eL (vR st.h (Da rs))=true)(h4:vR st.h (Da rs)=r):Uc C fn r st:=
 ⟨rs,h1,h2,h3,h4 ▸ Sub.refl _⟩
theorem cA.of_flat{C:Ctx}{f:FuncId}{fn:Func}{args:List AV}{vs:List Value}{r:AV}{v:Value}(hf:C.P.funcs[f]?=some fn)(hb:fn.body.isSome=true)(hnm:(fn.name== "runtime.NumGoroutine")=false)
  (ha:IJ args=some vs) (hr:RE r=some v) (hc:∀w,Calls C.P f vs.toArray w λe w'=>e=.returned v∧Below w.heap.size w w'):cA C f args r:=
 ⟨⟨fn,hf,hb,hnm⟩,λS w us hS hG hu=>by
  rw[Ko ha hu];exact(hc w).mono λe w' ⟨he,hB⟩=>⟨v,he,hB,GN hr⟩⟩
theorem cA.flat{C:Ctx}{f:FuncId}{args:List AV}{vs:List Value}{r:AV}{v:Value}(h:cA C f args r)(hG:∀S w,GOk C S w)(ha:IJ args=some vs)(hr:RE r=some v)(w:World):
  Calls C.P f vs.toArray w λe w'=>e=.returned v∧Below w.heap.size w w':=
 (h.2 (λ_=>False) w vs (λ_ h=>h.elim) (hG _ _) (DE ha)).mono λe w' ⟨u,he,hB,hu⟩=>⟨by rw[he,Ou hr hu],hB⟩
abbrev vU(n:Nat):AV:=.v (.int .u32 (n:Int))
abbrev zU:AV:=.v (.int .u32 0)
abbrev vN(n:Nat):AV:=.v (.int .i64 (n:Int))
abbrev vI(n:Int):AV:=.v (.int .i64 n)
abbrev vB(b:Bool):AV:=.v (.bool b)
section
variable {C:Ctx}{R:FuncId->List AV->AV->Prop}{all rest:List Oper}{o:Oper}{j n:Nat}{t:Nat->AV}{h h':AH}{K:ASt->Prop}{Q:AEx->ASt->Prop}{fn:Func}{st:ASt}
def rE(n':Nat)(k:K ⟨t,h,n'⟩)(e:n+j=n':=by exact rfl):jY C R all [] j ⟨t,h,n⟩ K:=kW e k
def rF(d:Nat)(x:AV)(h':AH)(k:jY C R all rest (j+1) ⟨upd t d x,h',n⟩ K)(hg:o.guard=none:=by exact rfl)(hd:o.dst=some d:=by exact rfl)(hx:opA C (evA C t) h (n+j) o.op=.fx True x h':=by exact rfl):jY C R all (o::rest) j ⟨t,h,n⟩ K:=rFx hg hd hx trivial k
def rS(h':AH)(k:jY C R all rest (j+1) ⟨t,h',n⟩ K)(hg:o.guard=none:=by exact rfl)(hd:o.dst=none:=by exact rfl)(hx:opA C (evA C t) h (n+j) o.op=.fx True .any h':=by exact rfl):jY C R all (o::rest) j ⟨t,h,n⟩ K:=tK hg hd hx trivial k
def fB{x y:Bool}(h1:resA C st fn.results.toList=some [.v (.bool x)])(e:x=y):Uc C fn (.v (.bool y)) st:=yL h1 trivial rfl (by rw[e];rfl)
end
def c2(c x y:Bool):cR c x y=(c&&x|| !c&&y):=by cases c<;>simp[cR]
open Go.RowKit Go.ChangeShapes Go.WideShapes Go.ChangeAt Go.Deep
inductive TyV(P:Program):TypeId->List AV->Prop
 |bool {t:TypeId} (h:P.underlying t=some .bool) (b:Bool):TyV P t [.v (.bool b)]
 |int {t:TypeId} {k:IntKind} (h:P.underlying t=some (.int k)) (n:Int) (hn:(Lit.int k n).wf=true):TyV P t [.v (.int k n)]
 |string {t:TypeId} (h:P.underlying t=some .string) (s:ByteArray) (hs:s.size<=maxLen):TyV P t [.v (.string s)]
 |slice {t e:TypeId} (h:P.underlying t=some (.slice e)) (rows:List (List AV)) (hl:rows.length<=maxLen) (hr:∀row∈rows,TyV P e row) (hrs:∀row∈rows,row.length=P.cellsOf e):TyV P t [.sl (P.cellsOf e) rows false]
 |struct {t:TypeId} {fs:Array Field} (h:P.underlying t=some (.struct fs)) (parts:Nat->List AV) (hp:∀(j:Nat) f,fs[j]?=some f->TyV P f.type (parts j)):TyV P t ((List.range fs.size).flatMap parts)
 |array {t e:TypeId} {n:Nat} (h:P.underlying t=some (.array n e)) (parts:Nat->List AV) (hp:∀j,j<n->TyV P e (parts j)):TyV P t ((List.range n).flatMap parts)
def Kj(P:Program):Nat->List Field->Option Nat
 |o,[]=>some o
 |o,f::fs=>match Nat.beq f.offset o with|true=>Kj P (o+P.cellsOf f.type) fs|false=>none
def GL(P:Program):Nat->TypeId->Bool
 |0,_=>false
 |d+1,t=>match P.underlying t with
  |some .bool|some (.int _)|some .string=>true
  |some (.slice e)=>Nat.blt 0 (P.cellsOf e)&&GL P d e
  |some (.struct fs)=>(match Kj P 0 fs.toList with|some n=>Nat.beq n (P.cellsOf t)|none=>false)&&fs.toList.all (λf=>GL P d f.type)
  |some (.array n e)=>Nat.beq (n*P.cellsOf e) (P.cellsOf t)&&GL P d e
  |_=>false
section
variable {H:Type}{enc:TypeId×Value->H}{P:Program}{w:World}{base:Nat}{spare:Nat->Bool}{held:Bool}
structure Opened(P:Program)(w:World)(t:TypeId)(cs:List AV)(vals:List Value):Prop where
 rep:RepL (· <w.heap.size) w noB cs vals
 one:∀u∈vals,u.oneCell'=true
 ty:TyV P t cs
theorem Fh{S:Nat->Prop}{β:Bt}:∀(n:Nat) (A:Nat->List AV) (V:Nat->List Value),(∀i,i<n->RepL S w β (A i) (V i))->RepL S w β ((List.range n).flatMap A) ((List.range n).flatMap V)
 |0,_,_,_=>by simpa using RepL.nil S w β
 | n+1,A,V,h=>by
  rw[kA,oQ,oQ];have ih:=Fh n A V λi hi=>h i (by omega);have h1:=h n (by omega);simp only[eX,List.flatMap_nil,dR];refine⟨by simp[ih.1,h1.1],λi a u ha hu=>?_⟩;rcases al_Nat_lt_or_ge i ((List.range n).flatMap A).length with k|k
  ·rw[cO k]at ha;rw[cO (by rw[<-ih.1];exact k)]at hu;exact ih.2 i a u ha hu
  ·rw[bU k]at ha;rw[bU (by rw[<-ih.1];exact k), <-ih.1]at hu;exact h1.2 _ a u ha hu
theorem Kk:∀(fs:List Field) (o n:Nat) (vals:List Value),Kj P o fs=some n->o<=vals.length->n<=vals.length->o<=n∧
  (List.range fs.length).flatMap (λj=>match(fs[j]? :Option Field)with|some f=>(vals.drop (Field.offset f)).take (P.cellsOf (Field.type f))|none=>[])=(vals.drop o).take (n-o)
 |[],o,n,vals,h,_,_=>by
  simp only[Kj,Option.some.injEq]at h;subst h;simp
 | f ::fs,o,n,vals,h,ho,hn=>by
  simp only[Kj]at h;split at h
  ·rename_i hb;have hb:=aK hb;have hle:o+P.cellsOf f.type<=n:=by
    have:∀(fs:List Field) (o n:Nat),Kj P o fs=some n->o<=n:=by
     intro fs
     induction fs with
     |nil=>intro o n h;simp only[Kj,Option.some.injEq]at h;omega
     |cons f fs ih=>
      intro o n h;simp only[Kj]at h;split at h
      ·have:=ih _ _ h;omega
      ·cases h
    exact this fs _ _ h
   obtain⟨h1,h2⟩:=Kk fs (o+P.cellsOf f.type) n vals h (by omega) hn;refine⟨by omega,?_⟩;rw[bN,List.range_succ_eq_map,eX,List.flatMap_map];simp only[cP,Function.comp_def,dE];rw[h2,hb];have:n-o=P.cellsOf f.type+(n-(o+P.cellsOf f.type)):=by omega
   rw[this,List.take_add,kX]
  ·cases h
theorem Kl(vals:List Value)(sz:Nat):∀n,n*sz<=vals.length->(List.range n).flatMap (λi=>(vals.drop (i*sz)).take sz)=vals.take (n*sz)
 |0,_=>by simp
 |n+1,h=>by
  rw[cG,kU]at h;rw[kA,oQ,Kl vals sz n (by omega),cG,kU,List.take_add];simp
theorem wJ:∀(D fuel:Nat) (t:TypeId) (vals:List Value) (x:DataW H×List MemPlace),DataW.trod enc P w base spare held fuel t vals=some x->GL P D t=true->∃cs,Opened P w t cs vals
 |0,_,_,_,_,_,h=>by simp[GL]at h
 | D + 1,fuel,t,vals,x,h,hp=>by
  have single:∀(a:AV) (u:Value),Rep (· <w.heap.size) w noB a u->u.oneCell'=true->TyV P t [a]->Opened P w t [a] [u]:=λa u h1 h2 h3=>⟨.cons h1 (.nil _ _ _),λv hv=>by simp at hv;subst hv;exact h2,h3⟩;unfold GL at hp
  cases hu:P.underlying t with
  |none=>rw[hu]at hp;cases hp
  | some d=>
   rw[hu]at hp;cases d<;>simp only[bZ]at hp<;>try (cases hp;done)
   case bool=>
    obtain⟨b,rfl,_⟩:=DataW.trod_bool hu h;exact⟨_,single _ _ (.v _) rfl (.bool hu b)⟩
   case int k=>
    obtain⟨n,rfl,_,hw⟩:=DataW.trod_int hu h;exact⟨_,single _ _ (.v _) rfl (.int hu n hw)⟩
   case string=>
    obtain⟨s,rfl,_,hs⟩:=DataW.trod_string hu h;exact⟨_,single _ _ (.v _) rfl (.string hu s hs)⟩
   case slice e=>
    simp only[aJ]at hp;obtain⟨hc0,hp⟩:=hp;have hc0:0<P.cellsOf e:=aP hc0;rcases DataW.trod_slice hu h with ⟨rfl,_⟩|⟨a,len,cap,elems,rest,n,rfl,rfl,_,hb,hl,hm,he,hel,_⟩
    ·exact⟨_,single (.sl (P.cellsOf e) [] false) _ (.sl _ [] false none 0 0 0 (λ_ _=>.bool false) (by simp) (by simp) (λh=>by cases h) (λ_ h=>by simp at h) (λh=>by simp at h) (λi row j a h=>by simp at h) (λ_ _=>rfl) (λi row j a h=>by simp at h)) rfl (.slice hu [] (by simp) (λ_ h=>by simp at h) (λ_ h=>by simp at h))⟩
    ·have row:∀i,∃cs us,i<len->Opened P w e cs us∧us.length=P.cellsOf e∧∀(j:Nat),j<P.cellsOf e->w.cell? ((a.add (i*P.cellsOf e)).add j)=us[j]? :=by
      intro i;by_cases hi:i<len
      ·have h1:=hel i hi;have h2:elems[i]?=some (elems[i]'(by omega)):=aA (by omega);rw[h2,Option.bind_eq_some_iff]at h1;obtain⟨us,g1,g2⟩:=h1;obtain⟨cs,hcs⟩:=wJ D n e us _ g2 hp;unfold World.cells? at g1;split at g1
       ·have l1:us.length=P.cellsOf e:=by simpa using mapM_some_length g1
        exact⟨cs,us,λ_=>⟨hcs,l1,λj hj=>mapM_some_get g1 j j (by simp[hj])⟩⟩
       ·cases g1
      ·exact⟨[],[],λh=>absurd h hi⟩
     obtain⟨A,hA⟩:=Classical.axiomOfChoice row;obtain⟨V,hV⟩:=Classical.axiomOfChoice hA;have lenA:∀i,i<len->(A i).length=P.cellsOf e:=λi hi=>(hV i hi).1.rep.1.trans (hV i hi).2.1;have spot:∀i,i<len->0<P.cellsOf e->a.spot=none∨i*P.cellsOf e≠0:=by
      intro i hi h0;by_cases hz:i*P.cellsOf e=0
      ·left;have h1:=(hV i hi).2.2 0 h0;have h2:(V i)[0]?=some ((V i)[0]'(by rw[(hV i hi).2.1];exact h0)):=aA _;rw[h2]at h1;simp only[Addr.add,hz,kY,World.cell?]at h1;split at h1
       ·cases hs:a.spot<;>simp[hs]at h1⊢
       ·cases h1
      ·exact .inr hz
     have hspot:0<len->0<P.cellsOf e->a.spot=none:=λh1 h2=>(spot 0 h1 h2).elim id λh=>absurd (Nat.zero_mul _) h;have cell:∀i,i<len->∀(j:Nat),j<P.cellsOf e->w.cell? ⟨a.block,a.off+i*P.cellsOf e+j,none⟩=(V i)[j]? :=by
      intro i hi j hj;rw[<-(hV i hi).2.2 j hj];have hsp:=hspot (by omega) (by omega);congr 1;obtain⟨b,o,sp⟩:=a;simp only at hsp;subst hsp;unfold Addr.add;by_cases h1:i*P.cellsOf e=0<;>by_cases h2:j=0<;>simp[h1,h2]
     have hmem:∀row∈(List.range len).map A,∃i,i<len∧A i=row:=λrow hr=>by simpa using hr
     have at':∀(i:Nat) row,((List.range len).map A)[i]?=some row->i<len∧row=A i:=λi row h=>by
      rw[bD]at h;rcases al_Nat_lt_or_ge i len with hi|hi
      ·rw[gX hi]at h;exact⟨hi,by simpa using h.symm⟩
      ·rw[bO (by simpa using hi)]at h;cases h
     have hval:∀i,i<len->∀(j:Nat) x,(A i)[j]?=some x->∃u,(V i)[j]?=some u∧(if i<len∧j<P.cellsOf e then(V i).getD j (.bool false)else .bool false)=u∧j<P.cellsOf e:=by
      intro i hi j x hx;have hj:j<P.cellsOf e:=by rw[<-lenA i hi];exact(DS.1 hx).1
      have hj':j<(V i).length:=by rw[(hV i hi).2.1];exact hj
      exact⟨(V i)[j],aA hj',by simp[hi,hj,hj'],hj⟩
     refine⟨_,single (.sl (P.cellsOf e) ((List.range len).map A) false) _ ?_ rfl (.slice hu _ (by simp;omega) (λrow hr=>?_) (λrow hr=>?_))⟩
     ·have:=Rep.sl (S:=(· <w.heap.size)) (w:=w) (β:=noB) (P.cellsOf e) ((List.range len).map A) false (if 0<len then some ⟨a.block,a.off,none⟩else some a) cap a.block a.off
       (λi j=>if i<len∧j<P.cellsOf e then(V i).getD j (.bool false)else .bool false) (by simpa using hl) hm (λh=>by cases h)
       (λrow hr=>by obtain⟨i,hi,rfl⟩:=hmem row hr;exact lenA i hi) ?_ ?_ ?_ ?_
      ·simp only[aG,gT]at this;by_cases h0:0<len
       ·rw[if_pos h0]at this;have hsp:=hspot h0 hc0;obtain⟨b,o,sp⟩:=a;simp only at hsp;subst hsp;exact this
       ·rw[if_neg h0]at this;exact this
      ·intro h0;simp only[aG,gT]at h0;rw[if_pos h0];refine⟨rfl,?_⟩;have h1:=cell 0 h0 0 hc0;have h2:(V 0)[0]?=some ((V 0)[0]'(by rw[(hV 0 h0).2.1];exact hc0)):=aA _;rw[h2]at h1;simp only[World.cell?]at h1;split at h1
       ·rename_i hb;exact fQ hb
       ·cases h1
      ·intro i row j x h1 h2;obtain⟨hi,rfl⟩:=at' i row h1;obtain⟨u,g1,g2,g3⟩:=hval i hi j x h2;rw[cell i hi j g3,g2,g1]
      ·intro i j;split
       ·rename_i hc;have hj':j<(V i).length:=by rw[(hV i hc.1).2.1];exact hc.2
        rw[bL,aA hj'];exact(hV i hc.1).1.one _ (lH hj')
       ·rfl
      ·intro i row j x h1 h2;obtain⟨hi,rfl⟩:=at' i row h1;obtain⟨u,g1,g2,g3⟩:=hval i hi j x h2;rw[g2];exact(hV i hi).1.rep.2 j x u h2 g1
     ·obtain⟨i,hi,rfl⟩:=hmem row hr;exact(hV i hi).1.ty
     ·obtain⟨i,hi,rfl⟩:=hmem row hr;exact lenA i hi
   case struct fs=>
    simp only[aJ]at hp;obtain⟨hp1,hp2⟩:=hp;split at hp1
    ·rename_i n hn;have hn':=aK hp1;obtain⟨xs,m,rfl,_,hlen,hxl,hfd⟩:=DataW.trod_struct hu h;have part:∀j:Nat,∃cs,∀f:Field,fs[j]?=some f->Opened P w f.type cs ((vals.drop f.offset).take (P.cellsOf f.type)):=by
      intro j
      cases hf:fs[j]? with
      |none=>exact⟨[],λf hf=>by cases hf⟩
      |some f=>
       have h1:=hfd j f hf;have hj:j<fs.size:=(DC.1 hf).1;rw[aA (by omega)]at h1;obtain⟨cs,hcs⟩:=wJ D m f.type _ _ h1 (lE.1 hp2 f (IB.2 (nI hf)));exact⟨cs,λf' hf'=>by injection hf' with hf';subst hf';exact hcs⟩
     obtain⟨A,hA⟩:=Classical.axiomOfChoice part;obtain⟨_,hr⟩:=Kk fs.toList 0 n vals hn (aE _) (by omega);have hall:(List.range fs.size).flatMap (λj=>match(fs[j]? :Option Field)with|some f=>(vals.drop (Field.offset f)).take (P.cellsOf (Field.type f))|none=>[])=vals:=by
      have:(List.range fs.toList.length).flatMap (λj=>match(fs.toList[j]? :Option Field)with|some f=>(vals.drop f.offset).take (P.cellsOf f.type)|none=>[])=vals:=by
       rw[hr];simp[hn', <-hlen]
      simpa using this
     have hrep:=Fh (S:=(· <w.heap.size)) (w:=w) (β:=noB) fs.size A (λj=>match(fs[j]? :Option Field)with|some f=>(vals.drop (Field.offset f)).take (P.cellsOf (Field.type f))|none=>[]) (λj hj=>by
      have hf:fs[j]?=some fs[j]:=aX hj;simp only[hf];exact(hA j _ hf).rep)
     rw[hall]at hrep;refine⟨_,hrep,λu hu'=>?_,.struct hu A λj f hf=>(hA j f hf).ty⟩;rw[<-hall]at hu';obtain⟨j,hj,hju⟩:=LO.1 hu';have hj':j<fs.size:=by simpa using hj
     have hf:fs[j]?=some fs[j]:=aX hj';simp only[hf]at hju;exact(hA j _ hf).one u hju
    ·cases hp1
   case array n e=>
    simp only[aJ]at hp;obtain⟨hp1,hp2⟩:=hp;have hn:=aK hp1;obtain⟨xs,m,rfl,_,hlen,hxl,hfd⟩:=DataW.trod_array hu h;have part:∀i,∃cs,i<n->Opened P w e cs ((vals.drop (i*P.cellsOf e)).take (P.cellsOf e)):=by
     intro i;by_cases hi:i<n
     ·have h1:=hfd i hi;rw[aA (by omega)]at h1;obtain⟨cs,hcs⟩:=wJ D m e _ _ h1 hp2;exact⟨cs,λ_=>hcs⟩
     ·exact⟨[],λh=>absurd h hi⟩
    obtain⟨A,hA⟩:=Classical.axiomOfChoice part;have hall:=Kl vals (P.cellsOf e) n (by omega);rw[hn, <-hlen,cM]at hall;have hrep:=Fh (S:=(· <w.heap.size)) (w:=w) (β:=noB) n A _ (λj hj=>(hA j hj).rep);rw[hall]at hrep;refine⟨_,hrep,λu hu'=>?_,.array hu A λj hj=>(hA j hj).ty⟩;rw[<-hall]at hu';obtain⟨j,hj,hju⟩:=LO.1 hu';exact(hA j (by simpa using hj)).one u hju
end
def fA:AV->Option AV
 | .v x=>some (.v x)
 | .agg cs=>some (.agg cs)
 | .tup cs=>some (.tup cs)
 | .sl a b c=>some (.sl a b c)
 | .dp a b c=>some (.dp a b c)
 | .ptr a b=>some (.ptr a b)
 | .ptr2 a b c=>some (.ptr2 a b c)
 | .osl a b c d=>some (.osl a b c d)
 | .clo f a b=>some (.clo f a b)
 | .opt g x=>some (.opt g x)
 | .any=>some .any
def OY{x y:AV}(h:fA x=some y):x=y:=by cases x<;>cases h<;>rfl
def Xt:List AV->Nat->Option AV
 |[],_=>none
 |x::_,0=>fA x
 |_::xs,n+1=>Xt xs n
def KI{l:List AV}{i:Nat}{y:AV}(h:Xt l i=some y):Km l i=some y:=by
 induction l generalizing i with
 |nil=>cases h
 |cons x l ih=>cases i with
  |zero=>exact congrArg some (OY h)
  |succ i=>exact ih h
def Sk:Nat->List AV->(List AV->Option AV)->Option AV
 |0,_,k=>k []
 |_+1,[],k=>k []
 |n+1,x::xs,k=>Sk n xs (λl=>k (x::l))
def Hq(n:Nat)(l:List AV)(k:List AV->Option AV):Sk n l k=k (Hh n l):=by
 induction n generalizing l k with
 |zero=>rfl
 |succ n ih=>cases l with
  |nil=>rfl
  |cons x l=>exact ih l _
def Sm(C:Ctx)(t:TypeId)(rs col:Nat)(row:List AV):Option AV:=
 match C.ty t with
 |some ⟨_,sz,true,_,_,_⟩=>
  match col,Nat.beq sz rs with
  |0,true=>some (.agg row)
  |_,_=>Sk sz (Fo col row) λl=>match Nat.beq l.length sz with|true=>some (.agg l)|false=>none
 |some ⟨_,_,false,_,_,_⟩=>Xt row col
 |none=>none
def Ma{C:Ctx}{t:TypeId}{rs col:Nat}{row:List AV}{y:AV}(h:Sm C t rs col row=some y):Hk C t rs col row=some y:=by
 unfold Sm at h;unfold Hk
 cases ht:C.ty t with
 |none=>rw[ht]at h;cases h
 | some ti=>
  obtain⟨kd,sz,ag,z,b,eq⟩:=ti;rw[ht]at h
  cases ag with
  |false=>exact KI h
  |true=>
   cases col with
   |zero=>cases hb:Nat.beq sz rs<;>(simp only[hb,Hq]at h⊢;exact h)
   |succ c=>simp only[Hq]at h⊢;exact h
def Vd(C:Ctx)(t:TypeId)(cs:List AV)(off:Nat):Option AV:=
 match C.ty t with
 |some ⟨_,sz,true,_,_,_⟩=>Sk sz (Fo off cs) λl=>some (.agg l)
 |some ⟨_,_,false,_,_,_⟩=>Xt cs off
 |none=>none
def Sn{C:Ctx}{t:TypeId}{cs:List AV}{off:Nat}{y:AV}(h:Vd C t cs off=some y):Nr C t cs off=some y:=by
 unfold Vd at h;unfold Nr
 cases ht:C.ty t with
 |none=>rw[ht]at h;cases h
 |some ti=>
  obtain⟨kd,sz,ag,z,b,eq⟩:=ti;rw[ht]at h
  cases ag with
  |false=>exact KI h
  |true=>simp only[Hq]at h⊢;exact h
def OZ(C:Ctx)(h:AH)(t:TypeId)(a:AV):Option AV:=
 match a with
 | .ptr b c=>match h b with|some (.box cells)=>Sm C t cells.length c cells|_=>none
 | .dp rs c row=>Sm C t rs c row
 |_=>none
def Uh(C:Ctx)(t:TypeId)(f:Nat)(a:AV):Option AV:=
 match C.ty t with
 |some ⟨.struct fs,_,_,_,_,_⟩=>match OT fs f,a with|some (off,ft),.agg cs=>Vd C ft cs off|_,_=>none
 |_=>none
def okF(r:Res):Option AV:=match r with| .ok x=>fA x|_=>none
def sA(C:Ctx)(ev:Operand->AV)(h:AH)(op:Op):Option AV:=
 match op with
 | .move x| .assign x=>fA (ev x)
 | .load t a=>OZ C h t (ev a)
 | .nilCheck x=>okF (Sh (ev x))
 | .fieldAddr t x f=>okF (oH C t f (ev x))
 | .field t x f=>Uh C t f (ev x)
 | .extract x i=>match ev x with| .tup vs=>Xt vs i|_=>none
 | .unOp .not _ x=>match ev x with| .v (.bool b)=>some (.v (.bool (!b)))|_=>none
 |_=>none
def Ui{r:Res}{x:AV}(h:okF r=some x):r=.ok x:=by
 unfold okF at h;split at h
 ·exact congrArg Res.ok (OY h)
 ·cases h
def So{C:Ctx}{ev:Operand->AV}{h:AH}{s:Nat}{op:Op}{x:AV}(e:sA C ev h op=some x):opA C ev h s op=.ok x:=by
 unfold sA at e;split at e
 ·exact congrArg Res.ok (OY e)
 ·exact congrArg Res.ok (OY e)
 ·rename_i t a;show tJ C h t (ev a)=.ok x;unfold OZ at e;unfold tJ;generalize ev a=z at e⊢
  cases z with
  |ptr b c=>
   simp only at e⊢;split at e
   ·rename_i h1;simp only[h1];rw[Ma e];rfl
   ·cases e
  |dp rs c row=>simp only at e⊢;rw[Ma e];rfl
  |_=>cases e
 ·exact Ui e
 ·exact Ui e
 ·rename_i t y f;show Ab C t f (ev y)=.ok x;unfold Uh at e;unfold Ab;split at e
  ·rename_i h1;simp only[h1];split at e
   ·rename_i h2 h3;simp only[h2,h3];rw[Sn e];rfl
   ·cases e
  ·cases e
 ·rename_i y i;show sI i (ev y)=.ok x;unfold sI;split at e
  ·rename_i h1;simp only[h1];rw[KI e];rfl
  ·cases e
 ·rename_i t y;show unA .not (ev y)=.ok x;split at e
  ·rename_i h1;cases e;simp only[unA,h1]
  ·cases e
 ·cases e
def sO(C:Ctx)(t:Nat->AV)(h:AH)(o:Oper):Option (Nat×AV):=
 match o.guard,o.dst with
 |none,some d=>(match sA C (evA C t) h o.op with|some x=>some (d,x)|none=>none)
 |_,_=>none
def Xu{C:Ctx}{t:Nat->AV}{h:AH}{o:Oper}{d:Nat}{x:AV}(e:sO C t h o=some (d,x)):o.guard=none∧o.dst=some d∧sA C (evA C t) h o.op=some x:=by
 unfold sO at e;split at e
 ·rename_i h1 h2;split at e
  ·rename_i h3;cases e;exact⟨h1,h2,h3⟩
  ·cases e
 ·cases e
def Zk(C:Ctx)(h:AH):Nat->List Oper->(Nat->AV)->Option (List Oper×(Nat->AV))
 |0,ops,t=>some (ops,t)
 |_+1,[],_=>none
 |m+1,o::ops,t=>match sO C t h o with|some (d,x)=>Zk C h m ops (upd t d x)|none=>none
def Mb:AV->Bool->Option Bool
 | .v (.bool b),true=>some b
 | .v (.bool b),false=>some (!b)
 | .opt a (.v (.bool b)),true=>some (a&&b)
 | .opt a (.v (.bool b)),false=>some (a&& !b)
 |_,_=>none
def BR{x:AV}{pol g:Bool}(e:Mb x pol=some g):Ad x pol=some g:=by
 unfold Mb at e;split at e<;>first|(cases e;rfl)|cases e
def sG(C:Ctx)(t:Nat->AV)(h:AH)(all:List Oper)(o:Oper):Option (Nat×Bool×Option Bool×AV):=
 match o.guard,o.dst with
 | some (i,pol),some d=>
  (match(all[i]?).bind (·.dst)with
  |some e=>(match Mb (t e) pol,condsO t o.op with
   |some g,none=>(match sA C (evA C t) h o.op with|some x=>some (d,g,none,x)|none=>none)
   |some g,some c=>(match sA C (evS C t o.op) h o.op with|some x=>some (d,g,some c,x)|none=>none)
   |none,_=>none)
  |none=>none)
 |_,_=>none
def sGd(t:Nat->AV)(all:List Oper)(o:Oper):Option (Nat×Bool×Option Bool):=
 match o.guard,o.dst with
 | some (i,pol),some d=>
  (match(all[i]?).bind (·.dst)with
  |some e=>(match Mb (t e) pol,condsO t o.op with
   |some g,none=>some (d,g,none)
   |some g,some c=>some (d,g,some c)
   |none,_=>none)
  |none=>none)
 |_,_=>none
def Za:Nat->List AV->List AV->(List AV->Option AH)->Option AH
 |0,[],xs,k=>k xs
 |0,c::cs,_::xs,k=>Za 0 cs xs λl=>k (c::l)
 |0,_::_,[],k=>k []
 |n+1,cs,x::xs,k=>Za n cs xs λl=>k (x::l)
 |_+1,_,[],k=>k []
theorem KJ:∀(n:Nat) (cs xs:List AV) (k:List AV->Option AH),Za n cs xs k=k (zR n cs xs)
 |0,[],[],k=>rfl
 |0,[],_::_,k=>rfl
 |0,c::cs,_::xs,k=>KJ 0 cs xs _
 |0,_::_,[],k=>rfl
 |n+1,cs,x::xs,k=>KJ n cs xs _
 |_+1,_,[],k=>rfl
theorem Mc:∀(cs xs:List AV),Nat.beq cs.length xs.length=true->zR 0 cs xs=cs
 |[],[],_=>rfl
 |[],_::_,h=>by cases h
 |c::cs,[],h=>by cases h
 |c::cs,x::xs,h=>congrArg (c:: ·) (Mc cs xs h)
def Zl(C:Ctx)(h:AH)(ty:TypeId)(a x:AV):Option AH:=
 match C.ty ty,kK x,a with
 | some ti,some cs,.ptr b c=>
  (match Nat.beq cs.length ti.sz,h b with
  | true,some (.box cells)=>(match Nat.ble (c+cs.length) cells.length with
   |true=>(match c,Nat.beq cs.length cells.length with
    |0,true=>some (upd h b (some (.box cs)))
    |c,_=>Za c cs cells λl=>some (upd h b (some (.box l))))
   |false=>none)
  |_,_=>none)
 |_,_,_=>none
def sSt(C:Ctx)(t:Nat->AV)(h:AH)(o:Oper):Option AH:=
 match o.guard,o.dst,o.op with
 |none,none,.store ty a x=>Zl C h ty (evA C t a) (evA C t x)
 |_,_,_=>none
def sAl(C:Ctx)(t:Nat->AV)(o:Oper):Option (Nat×List AV):=
 match o.guard,o.dst,o.op with
 |none,some d,.alloc ty=>(match AG C ty with|some cs=>some (d,cs)|none=>none)
 |none,some d,.box _ x=>(match kK (evA C t x)with|some cs=>some (d,cs)|none=>none)
 |_,_,_=>none
def fL:List AV->(List AV->Option (Nat×FuncId×List AV))->Option (Nat×FuncId×List AV)
 |[],k=>k []
 |x::xs,k=>(match fA x with|some y=>fL xs λl=>k (y::l)|none=>none)
theorem Xv:∀{l:List AV} {k:List AV->Option (Nat×FuncId×List AV)} {r:Nat×FuncId×List AV},fL l k=some r->k l=some r
 |[],k,r,h=>h
 | x::xs,k,r,h=>by
  simp only[fL]at h;split at h
  ·rename_i y hy;rw[OY hy];exact Xv (k:=λl=>k (y::l)) h
  ·cases h
def sC(C:Ctx)(t:Nat->AV)(o:Oper):Option (Nat×FuncId×List AV):=
 match o.guard,o.dst,o.op with
 | none,some d,.call c=>(match c.callee with
  | .value f=>(match evA C t f with
   | .clo f first caps=>fL (first++c.args.toList.map (evA C t)++caps) λl=>some (d,f,l)
   |_=>none)
  |_=>none)
 |_,_,_=>none
def Zm{C:Ctx}{t:Nat->AV}{h:AH}{s:Nat}{o:Oper}{d:Nat}{f:FuncId}{args:List AV}(e:sC C t o=some (d,f,args)):o.guard=none∧o.dst=some d∧opA C (evA C t) h s o.op=.call f args:=by
 unfold sC at e;split at e
 ·rename_i d' c h1 h2 h3;split at e
  ·rename_i g hc;split at e
   ·rename_i f' first caps hf
    have:=Xv e;cases this
    refine⟨h1,h2,?_⟩;rw[h3];show(match c.callee with| .builtin b=>_| .value f=>_|_=>_)=_;rw[hc];simp only[hf]
   ·cases e
  ·cases e
 ·cases e
def sV(C:Ctx)(t:Nat->AV)(h:AH)(s:Nat)(o:Oper):Option (Nat×AV):=match o.guard,o.dst,opA C (evA C t) h s o.op with|none,some d,.ok x=>some (d,x)|_,_,_=>none
def sD(o:Oper):Option Nat:=match o.guard with|none=>o.dst|_=>none
def Nx{o:Oper}{d:Nat}(h:sD o=some d):o.guard=none∧o.dst=some d:=by
 unfold sD at h;split at h
 ·rename_i e;exact⟨e,h⟩
 ·cases h
def ixT{a b:Nat}(h:a<b:=by first|omega|rfl|(simp only[aG,bN,cW,aQ,bY,aL,aU,cV,gT,gJ];done)|(simp only[aG,bN,cW,aQ,bY,aL,aU,cV,gT,gJ];omega)|(simp[gJ];done)|(simp[gJ];omega)):0<=(a:Int)∧(a:Int)<(b:Int):=⟨aH _,Fi.2 h⟩
def omT{p:Prop}(h:p:=by first|omega|rfl|(simp only[aG,bN,cW,aQ,bY,aL,aU,cV,gT,gJ];done)|(simp only[aG,bN,cW,aQ,bY,aL,aU,cV,gT,gJ];omega)|(simp[gJ];done)|(simp[gJ];omega)):p:=h
def r4{q:Prop}(h:q):True∧True∧True∧True∧q:=⟨trivial,trivial,trivial,trivial,h⟩
def tvT{p:Prop}(h:p:=by repeat (first|exact trivial|refine⟨trivial,?_⟩)):p:=h
def rbT{p:Prop}(h:p:=by repeat (first|exact trivial|refine⟨⟨rfl,_,rfl,.refl _⟩,?_⟩)):p:=h
def rcT{p:Prop}(h:p:=by repeat' (first|exact trivial|constructor)):p:=h
def hsT{p q:Prop}(h:p->q:=by intro h;first|(simp_all;done)|exact(Bool.and_eq_true_iff.1 h).1|exact Bool.and_eq_true_iff.2 ⟨h,h⟩):p->q:=h
def slT{p:Prop}(h:p:=by refine⟨?_,?_,?_⟩;all_goals (first|exact aH _|decide|(apply Fj.2;exact omT)|(show((_:Nat):Int)=((_:Nat):Int);congr 1;omega)|rfl)):p:=h
def wT{p:Prop}(h:p:=by repeat (first|exact trivial|refine⟨⟨rfl,rfl⟩,?_⟩)):p:=h
def wH{p:Prop}(h:p:=by repeat (first|exact trivial|refine⟨⟨rfl,rfl,rfl⟩,?_⟩)):p:=h
section
variable {C:Ctx}{R:FuncId->List AV->AV->Prop}{all rest ops:List Oper}{o:Oper}{j n:Nat}{t t':Nat->AV}{h h':AH}{K:ASt->Prop}{Q:AEx->ASt->Prop}{fn:Func}{st:ASt}{x:AV}{d:Nat}
def oR(m:Nat)(hx:Zk C h m ops t=some (rest,t'))(k:jY C R all rest (j+m) ⟨t',h,n⟩ K):jY C R all ops j ⟨t,h,n⟩ K:=by
 induction m generalizing ops t j with
 |zero=>cases hx;exact k
 | succ m ih=>
  cases ops with
  |nil=>cases hx
  | cons o ops=>
   simp only[Zk]at hx;split at hx
   ·rename_i d x e;obtain⟨h1,h2,h3⟩:=Xu e;exact rOk h1 h2 (So h3) (ih hx (by rw[dV,iD 1];exact k))
   ·cases hx
def gN{g:Bool}(hx:sG C t h all o=some (d,g,none,x))(k:jY C R all rest (j+1) ⟨upd t d (.opt g x),h,n⟩ K):jY C R all (o::rest) j ⟨t,h,n⟩ K:=by
 unfold sG at hx;split at hx
 ·rename_i i pol d' h1 h2;split at hx
  ·rename_i e h3;split at hx
   ·rename_i g' h4 h5;split at hx
    ·rename_i x' h6;cases hx;exact gOk h1 h3 (BR h4) h5 h2 (So h6) k
    ·cases hx
   ·split at hx<;>cases hx
   ·cases hx
  ·cases hx
 ·cases hx
def gS{g c:Bool}(hx:sG C t h all o=some (d,g,some c,x))(hs:g=true->c=true)(k:jY C R all rest (j+1) ⟨upd t d (.opt g x),h,n⟩ K):jY C R all (o::rest) j ⟨t,h,n⟩ K:=by
 unfold sG at hx;split at hx
 ·rename_i i pol d' h1 h2;split at hx
  ·rename_i e h3;split at hx
   ·split at hx<;>cases hx
   ·rename_i g' c' h4 h5;split at hx
    ·rename_i x' h6;cases hx;exact Xc h1 h3 (BR h4) h5 hs h2 (So h6) k
    ·cases hx
   ·cases hx
  ·cases hx
 ·cases hx
def Uj{g:Bool}{c:Option Bool}(hx:sGd t all o=some (d,g,c)):∃i pol e,o.guard=some (i,pol)∧(all[i]?).bind (·.dst)=some e∧Ad (t e) pol=some g∧condsO t o.op=c∧o.dst=some d:=by
 unfold sGd at hx;split at hx
 ·rename_i i pol d' h1 h2;split at hx
  ·rename_i e h3;split at hx
   ·rename_i g' h4 h5;cases hx;exact⟨i,pol,e,h1,h3,BR h4,h5,h2⟩
   ·rename_i g' c' h4 h5;cases hx;exact⟨i,pol,e,h1,h3,BR h4,h5,h2⟩
   ·cases hx
  ·cases hx
 ·cases hx
def gB{g:Bool}(hg:sGd t all o=some (d,g,none))(hx:opA C (evA C t) h (n+j) o.op=.ok x)(k:jY C R all rest (j+1) ⟨upd t d (.opt g x),h,n⟩ K):jY C R all (o::rest) j ⟨t,h,n⟩ K:=by
 obtain⟨i,pol,e,h1,h2,h3,h4,h5⟩:=Uj hg;exact gOk h1 h2 h3 h4 h5 hx k
def gBS{g c:Bool}(hg:sGd t all o=some (d,g,some c))(hs:g=true->c=true)(hx:opA C (evS C t o.op) h (n+j) o.op=.ok x)(k:jY C R all rest (j+1) ⟨upd t d (.opt g x),h,n⟩ K):jY C R all (o::rest) j ⟨t,h,n⟩ K:=by
 obtain⟨i,pol,e,h1,h2,h3,h4,h5⟩:=Uj hg;exact Xc h1 h2 h3 h4 hs h5 hx k
def rAl(s:Nat){cs:List AV}(hs:n+j=s)(hx:sAl C t o=some (d,cs))(k:jY C R all rest (j+1) ⟨upd t d (.ptr s 0),upd h s (some (.box cs)),n⟩ K):jY C R all (o::rest) j ⟨t,h,n⟩ K:=by
 subst hs;unfold sAl at hx;split at hx
 ·rename_i d' ty h1 h2 h3;split at hx
  ·rename_i cs' h4;cases hx;exact rFx (p:=True) h1 h2 (by rw[h3];simp only[opA,h4]) trivial k
  ·cases hx
 ·rename_i d' ty y h1 h2 h3;split at hx
  ·rename_i cs' h4;cases hx;exact rFx (p:=True) h1 h2 (by rw[h3];simp only[opA,h4]) trivial k
  ·cases hx
 ·cases hx
def Ve{ty:TypeId}{a y:AV}{h':AH}(e:Zl C h ty a y=some h'):(match C.ty ty,kK y with
  | some ti,some cs=>(match Nat.beq cs.length ti.sz with
   |true=>(match a with
    | .ptr b c=>(match h b with|some (.box cells)=>(match Nat.ble (c+cs.length) cells.length with|true=>Res.fx True .any (upd h b (some (.box (zR c cs cells))))|false=>.bad)|_=>.bad)
    |_=>.bad)
   |false=>.bad)
  |_,_=>.bad)=.fx True .any h':=by
 unfold Zl at e;split at e
 ·rename_i ti cs b c h1 h2;split at e
  ·rename_i cells h3 h4;split at e
   ·rename_i h5;simp only[h1,h2,h3,h4,h5];split at e
    ·rename_i h6;cases e;rw[Mc _ _ h6]
    ·rw[KJ]at e;cases e;rfl
   ·cases e
  ·cases e
 ·cases e
def rSt(hx:sSt C t h o=some h')(k:jY C R all rest (j+1) ⟨t,h',n⟩ K):jY C R all (o::rest) j ⟨t,h,n⟩ K:=by
 unfold sSt at hx;split at hx
 ·rename_i ty a y h1 h2 h3;have e:=Ve hx;refine tK (p:=True) (x:=.any) h1 h2 ?_ trivial k;rw[h3];simp only[opA];split at e
  ·rename_i ti cs q1 q2;simp only[q1,q2];split at e
   ·rename_i q3;simp only[q3];split at e
    ·rename_i b c q4;simp only[q4];exact e
    ·cases e
   ·cases e
  ·cases e
 ·cases hx
def rSx(s:Nat)(cs:List AV)(hg:o.guard=none)(hd:o.dst=none)(hx:opA C (evA C t) h (n+j) o.op=.fx True .any (upd h s (some (.box cs))))(k:jY C R all rest (j+1) ⟨t,upd h s (some (.box cs)),n⟩ K):jY C R all (o::rest) j ⟨t,h,n⟩ K:=tK hg hd hx trivial k
def rCl{f:FuncId}{args:List AV}(hx:sC C t o=some (d,f,args))(hf:oS args=true∨(CB x=true∧jZ h args))(hc:R f (sF h args) x)(k:jY C R all rest (j+1) ⟨upd t d x,h,n⟩ K)(hcl:eR (sF h args)=true:=by exact rfl)(hr:eL x=true:=by exact rfl):jY C R all (o::rest) j ⟨t,h,n⟩ K:=by
 obtain⟨h1,h2,h3⟩:=Zm (h:=h) (s:=n+j) hx;exact qN h1 h2 h3 hcl hf hr hc k
def rV(x:AV)(hx:sV C t h (n+j) o=some (d,x))(k:jY C R all rest (j+1) ⟨upd t d x,h,n⟩ K):jY C R all (o::rest) j ⟨t,h,n⟩ K:=by
 unfold sV at hx;split at hx
 ·rename_i h1 h2 h3;cases hx;exact rOk h1 h2 h3 k
 ·cases hx
def rW(x:AV)(hd:sD o=some d)(hx:opA C (evA C t) h (n+j) o.op=.ok x)(k:jY C R all rest (j+1) ⟨upd t d x,h,n⟩ K):jY C R all (o::rest) j ⟨t,h,n⟩ K:=rOk (Nx hd).1 (Nx hd).2 hx k
def nW{p:Prop}(x:AV)(hd:sD o=some d)(hx:opA C (evA C t) h (n+j) o.op=.need p x)(hp:p)(k:jY C R all rest (j+1) ⟨upd t d x,h,n⟩ K):jY C R all (o::rest) j ⟨t,h,n⟩ K:=cU (Nx hd).1 (Nx hd).2 hx hp k
def rCi{f:FuncId}{args:List AV}(hx:sC C t o=some (d,f,args))(hc:R f (sF h args) x)(k:jY C R all rest (j+1) ⟨upd t d x,h,n⟩ K)(hcl:eR (sF h args)=true:=by exact rfl)(hr:eL x=true:=by exact rfl)(hf:oS args=true:=by exact rfl):jY C R all (o::rest) j ⟨t,h,n⟩ K:=rCl hx (.inl hf) hc k hcl hr
def rIx{rows:List (List AV)}{i:Int}{f:List AV->Option AV}(row:List AV)(x:AV)(hd:sD o=some d)(hx:opA C (evA C t) h (n+j) o.op=.idx rows i f)(hi:rows[i.toNat]?=some row)(hf:f row=some x)(k:jY C R all rest (j+1) ⟨upd t d x,h,n⟩ K)(h0:0<=i:=by exact aH _):jY C R all (o::rest) j ⟨t,h,n⟩ K:=ID row (Nx hd).1 (Nx hd).2 hx ⟨h0,hi⟩ hf k
end
def cSR{C:Ctx}{R:FuncId->List AV->AV->Prop}{Q:AEx->ASt->Prop}{st:ASt}{id:Nat}{ops:Array Oper}{dr:Bool}{b:Code}(k:jY (C.noHif dr) R ops.toList ops.toList 0 st (λst'=>eJ C R b st' Q))(hd:(dr&&Eh ops.toList)=false:=by kernel_rfl):eJ C R (.seq (.region id ops dr) b) st Q:=fZ (kO rfl k hd)
def cRg{C:Ctx}{R:FuncId->List AV->AV->Prop}{Q:AEx->ASt->Prop}{st:ASt}{id:Nat}{ops:Array Oper}{dr:Bool}(k:jY (C.noHif dr) R ops.toList ops.toList 0 st (Q .normal))(hd:(dr&&Eh ops.toList)=false:=by kernel_rfl):eJ C R (.region id ops dr) st Q:=kO rfl k hd
inductive Fr where
 |code (c:Code)
 |blk (id:Nat)
def pF(C:Ctx)(R:FuncId->List AV->AV->Prop):List Fr->(AEx->ASt->Prop)->AEx->ASt->Prop
 |[],F=>F
 | .code b::s,F=>λe st=>match e with| .normal=>eJ C R b st (pF C R s F)|e=>pF C R s F e st
 | .blk id::s,F=>λe st=>match e with| .exit i=>(match Nat.beq i id with|true=>pF C R s F .normal st|false=>pF C R s F (.exit i) st)|e=>pF C R s F e st
inductive Cu where
 |ops (all ops:List Oper) (j:Nat)
 |code (c:Code)
 |ex (e:AEx)
inductive Out where
 |reg (all ops:List Oper) (j:Nat) (t:Nat->AV) (h:AH) (n:Nat) (s:List Fr)
 |cod (c:Code) (t:Nat->AV) (h:AH) (n:Nat) (s:List Fr)
 |fin (e:AEx) (t:Nat->AV) (h:AH) (n:Nat)
 |bad
def goA(C:Ctx)(sb:Bool):Nat->Nat->Nat->Cu->(Nat->AV)->AH->Nat->List Fr->Out
 |0,_,_,_,_,_,_,_=>.bad
 |f+1,m,z,.ops _ [] j,t,h,n,s=>goA C sb f m z (.ex .normal) t h (n+j) s
 | f +1,m,z,.ops all (o::ops) j,t,h,n,s=>
  match sO C t h o with
  |some (d,x)=>goA C sb f m z (.ops all ops (j+1)) (upd t d x) h n s
  | none=>
   match(match sb with|true=>sSt C t h o|false=>none)with
   |some h'=>goA C sb f m z (.ops all ops (j+1)) t h' n s
   | none=>
    match sAl C t o with
    |some (d,cs)=>goA C sb f m z (.ops all ops (j+1)) (upd t d (.ptr (n+j) 0)) (upd h (n+j) (some (.box cs))) n s
    |none=>
     match sG C t h all o with
     |some (d,g,none,x)=>goA C sb f m z (.ops all ops (j+1)) (upd t d (.opt g x)) h n s
     |_=>.reg all (o::ops) j t h n s
 |f+1,m,z,.code .skip,t,h,n,s=>goA C sb f m z (.ex .normal) t h n s
 |f+1,m,z,.code (.exit i),t,h,n,s=>goA C sb f m z (.ex (.exit i)) t h n s
 |f+1,m,z,.code .ret,t,h,n,s=>goA C sb f m z (.ex .ret) t h n s
 |f+1,m,z,.code (.seq a b),t,h,n,s=>match z with|0=>.cod (.seq a b) t h n s|z+1=>goA C sb f m z (.code a) t h n (.code b::s)
 |f+1,m,z,.code (.block id b),t,h,n,s=>goA C sb f m z (.code b) t h n (.blk id::s)
 |f+1,m,z,.code (.region id ops dr),t,h,n,s=>match dr with|false=>goA C sb f m z (.ops ops.toList ops.toList 0) t h n s|true=>.cod (.region id ops true) t h n s
 |f+1,m,z,.code (.cond c x y),t,h,n,s=>
  match m with
  |0=>.cod (.cond c x y) t h n s
  |m+1=>match evA C t c with| .v (.bool true)=>goA C sb f m z (.code x) t h n s| .v (.bool false)=>goA C sb f m z (.code y) t h n s|_=>.bad
 |_+1,_,_,.code c,t,h,n,s=>.cod c t h n s
 |f+1,m,z,.ex .normal,t,h,n,.code b::s=>goA C sb f m z (.code b) t h n s
 |f+1,m,z,.ex e,t,h,n,.code _::s=>goA C sb f m z (.ex e) t h n s
 |f+1,m,z,.ex (.exit i),t,h,n,.blk id::s=>match Nat.beq i id with|true=>goA C sb f m z (.ex .normal) t h n s|false=>goA C sb f m z (.ex (.exit i)) t h n s
 |f+1,m,z,.ex e,t,h,n,.blk _::s=>goA C sb f m z (.ex e) t h n s
 |_+1,_,_,.ex e,t,h,n,[]=>.fin e t h n
section
variable {C:Ctx}{R:FuncId->List AV->AV->Prop}{F:AEx->ASt->Prop}
def cuP(C:Ctx)(R:FuncId->List AV->AV->Prop)(F:AEx->ASt->Prop)(c:Cu)(t:Nat->AV)(h:AH)(n:Nat)(s:List Fr):Prop:=
 match c with
 | .ops all ops j=>jY C R all ops j ⟨t,h,n⟩ (pF C R s F .normal)
 | .code c=>eJ C R c ⟨t,h,n⟩ (pF C R s F)
 | .ex e=>pF C R s F e ⟨t,h,n⟩
def aaY(C:Ctx)(R:FuncId->List AV->AV->Prop)(F:AEx->ASt->Prop):Out->Prop
 | .reg all ops j t h n s=>jY C R all ops j ⟨t,h,n⟩ (pF C R s F .normal)
 | .cod c t h n s=>eJ C R c ⟨t,h,n⟩ (pF C R s F)
 | .fin e t h n=>F e ⟨t,h,n⟩
 | .bad=>False
def KH(C:Ctx):C.noHif false=C:=by unfold Ctx.noHif;rfl
theorem jV(sb:Bool):∀(f m z:Nat) (c:Cu) (t:Nat->AV) (h:AH) (n:Nat) (s:List Fr),aaY C R F (goA C sb f m z c t h n s)->cuP C R F c t h n s
 |0,_,_,_,_,_,_,_,k=>k.elim
 |f+1,m,z,.ops all [] j,t,h,n,s,k=>jV sb f m z (.ex .normal) t h (n+j) s k
 | f +1,m,z,.ops all (o::ops) j,t,h,n,s,k=>by
  unfold goA at k;split at k
  ·rename_i d x e;obtain⟨h1,h2,h3⟩:=Xu e;exact rOk h1 h2 (So h3) (jV sb f m z _ _ _ _ _ k)
  ·split at k
   ·rename_i h' e;have e:sSt C t h o=some h':=by cases sb with|true=>exact e|false=>cases e
    exact rSt e (jV sb f m z _ _ _ _ _ k)
   ·split at k
    ·rename_i d cs e;exact rAl _ rfl e (jV sb f m z _ _ _ _ _ k)
    ·split at k
     ·rename_i d g x e;exact gN e (jV sb f m z _ _ _ _ _ k)
     ·exact k
 |f+1,m,z,.code .skip,t,h,n,s,k=>jV sb f m z (.ex .normal) t h n s k
 |f+1,m,z,.code (.exit i),t,h,n,s,k=>jV sb f m z (.ex (.exit i)) t h n s k
 |f+1,m,z,.code .ret,t,h,n,s,k=>jV sb f m z (.ex .ret) t h n s k
 |f+1,m,0,.code (.seq a b),t,h,n,s,k=>k
 |f+1,m,z+1,.code (.seq a b),t,h,n,s,k=>fZ (jV sb f m z (.code a) t h n (.code b::s) k)
 |f+1,m,z,.code (.block id b),t,h,n,s,k=>qV (jV sb f m z (.code b) t h n (.blk id::s) k)
 |f+1,m,z,.code (.region id ops dr),t,h,n,s,k=>by
  cases dr with
  |true=>exact k
  |false=>exact kO (id:=id) (dr:=false) rfl (by rw[KH];exact jV sb f m z (.ops ops.toList ops.toList 0) t h n s k) rfl
 |f+1,0,z,.code (.cond c x y),t,h,n,s,k=>k
 |f+1,m+1,z,.code (.cond c x y),t,h,n,s,k=>by
  simp only[goA]at k;split at k
  ·rename_i e;exact aS e (λ_=>jV sb f m z (.code x) t h n s k) (λh=>by cases h)
  ·rename_i e;exact aS e (λh=>by cases h) (λ_=>jV sb f m z (.code y) t h n s k)
  ·exact k.elim
 |f+1,m,z,.code (.loop b),t,h,n,s,k=>k
 |f+1,m,z,.code (.label _),t,h,n,s,k=>k
 |f+1,m,z,.code (.rangeFunc _ _ _ _),t,h,n,s,k=>k
 |f+1,m,z,.code (.scope _),t,h,n,s,k=>k
 |f+1,m,z,.code (.goto _),t,h,n,s,k=>k
 |f+1,m,z,.code (.refuse _),t,h,n,s,k=>k
 |f+1,m,z,.ex .normal,t,h,n,.code b::s,k=>jV sb f m z (.code b) t h n s k
 |f+1,m,z,.ex (.exit i),t,h,n,.code b::s,k=>jV sb f m z (.ex (.exit i)) t h n s k
 |f+1,m,z,.ex .ret,t,h,n,.code b::s,k=>jV sb f m z (.ex .ret) t h n s k
 |f+1,m,z,.ex (.exit i),t,h,n,.blk id::s,k=>by
  unfold goA at k;show(match Nat.beq i id with|true=>pF C R s F .normal ⟨t,h,n⟩|false=>pF C R s F (.exit i) ⟨t,h,n⟩);split at k
  ·exact jV sb f m z (.ex .normal) t h n s k
  ·exact jV sb f m z (.ex (.exit i)) t h n s k
 |f+1,m,z,.ex .normal,t,h,n,.blk id::s,k=>jV sb f m z (.ex .normal) t h n s k
 |f+1,m,z,.ex .ret,t,h,n,.blk id::s,k=>jV sb f m z (.ex .ret) t h n s k
 |f+1,m,z,.ex e,t,h,n,[],k=>by cases e<;>exact k
variable {all ops all' ops':List Oper}{j j' n n':Nat}{t t':Nat->AV}{h h':AH}{s s':List Fr}{c c':Code}{e:AEx}
def qS(m:Nat)(hx:goA C true 9999 m 9999 (.code c) t h n []=.reg all' ops' j' t' h' n' s')(k:jY C R all' ops' j' ⟨t',h',n'⟩ (pF C R s' F .normal)):eJ C R c ⟨t,h,n⟩ F:=jV true 9999 m 9999 (.code c) t h n [] (by rw[hx];exact k)
def qSC(m:Nat)(hx:goA C true 9999 m 9999 (.code c) t h n []=.cod c' t' h' n' s')(k:eJ C R c' ⟨t',h',n'⟩ (pF C R s' F)):eJ C R c ⟨t,h,n⟩ F:=jV true 9999 m 9999 (.code c) t h n [] (by rw[hx];exact k)
def qR(m:Nat)(hx:goA C true 9999 m 9999 (.ops all ops j) t h n s=.reg all' ops' j' t' h' n' s')(k:jY C R all' ops' j' ⟨t',h',n'⟩ (pF C R s' F .normal)):jY C R all ops j ⟨t,h,n⟩ (pF C R s F .normal):=jV true 9999 m 9999 (.ops all ops j) t h n s (by rw[hx];exact k)
def qRC(m:Nat)(hx:goA C true 9999 m 9999 (.ops all ops j) t h n s=.cod c' t' h' n' s')(k:eJ C R c' ⟨t',h',n'⟩ (pF C R s' F)):jY C R all ops j ⟨t,h,n⟩ (pF C R s F .normal):=jV true 9999 m 9999 (.ops all ops j) t h n s (by rw[hx];exact k)
def qRF(m:Nat)(hx:goA C true 9999 m 9999 (.ops all ops j) t h n s=.fin e t' h' n')(k:F e ⟨t',h',n'⟩):jY C R all ops j ⟨t,h,n⟩ (pF C R s F .normal):=jV true 9999 m 9999 (.ops all ops j) t h n s (by rw[hx];exact k)
def qC(m:Nat)(hx:goA C true 9999 m 9999 (.code c) t h n s=.reg all' ops' j' t' h' n' s')(k:jY C R all' ops' j' ⟨t',h',n'⟩ (pF C R s' F .normal)):eJ C R c ⟨t,h,n⟩ (pF C R s F):=jV true 9999 m 9999 (.code c) t h n s (by rw[hx];exact k)
def qCC(m:Nat)(hx:goA C true 9999 m 9999 (.code c) t h n s=.cod c' t' h' n' s')(k:eJ C R c' ⟨t',h',n'⟩ (pF C R s' F)):eJ C R c ⟨t,h,n⟩ (pF C R s F):=jV true 9999 m 9999 (.code c) t h n s (by rw[hx];exact k)
def qCF(m:Nat)(hx:goA C true 9999 m 9999 (.code c) t h n s=.fin e t' h' n')(k:F e ⟨t',h',n'⟩):eJ C R c ⟨t,h,n⟩ (pF C R s F):=jV true 9999 m 9999 (.code c) t h n s (by rw[hx];exact k)
def qX(m:Nat)(hx:goA C true 9999 m 9999 (.ex e) t h n s=.reg all' ops' j' t' h' n' s')(k:jY C R all' ops' j' ⟨t',h',n'⟩ (pF C R s' F .normal)):pF C R s F e ⟨t,h,n⟩:=jV true 9999 m 9999 (.ex e) t h n s (by rw[hx];exact k)
def qXC(m:Nat)(hx:goA C true 9999 m 9999 (.ex e) t h n s=.cod c' t' h' n' s')(k:eJ C R c' ⟨t',h',n'⟩ (pF C R s' F)):pF C R s F e ⟨t,h,n⟩:=jV true 9999 m 9999 (.ex e) t h n s (by rw[hx];exact k)
def qXF{e':AEx}(m:Nat)(hx:goA C true 9999 m 9999 (.ex e) t h n s=.fin e' t' h' n')(k:F e' ⟨t',h',n'⟩):pF C R s F e ⟨t,h,n⟩:=jV true 9999 m 9999 (.ex e) t h n s (by rw[hx];exact k)
def qRJ(m z:Nat)(hx:goA C true 9999 m z (.ops all ops j) t h n s=.cod c' t' h' n' s')(k:eJ C R c' ⟨t',h',n'⟩ (pF C R s' F)):jY C R all ops j ⟨t,h,n⟩ (pF C R s F .normal):=jV true 9999 m z (.ops all ops j) t h n s (by rw[hx];exact k)
def qCJ(m z:Nat)(hx:goA C true 9999 m z (.code c) t h n s=.cod c' t' h' n' s')(k:eJ C R c' ⟨t',h',n'⟩ (pF C R s' F)):eJ C R c ⟨t,h,n⟩ (pF C R s F):=jV true 9999 m z (.code c) t h n s (by rw[hx];exact k)
def qXJ(m z:Nat)(hx:goA C true 9999 m z (.ex e) t h n s=.cod c' t' h' n' s')(k:eJ C R c' ⟨t',h',n'⟩ (pF C R s' F)):pF C R s F e ⟨t,h,n⟩:=jV true 9999 m z (.ex e) t h n s (by rw[hx];exact k)
def qRN(m:Nat)(hx:goA C false 9999 m 9999 (.ops all ops j) t h n s=.reg all' ops' j' t' h' n' s')(k:jY C R all' ops' j' ⟨t',h',n'⟩ (pF C R s' F .normal)):jY C R all ops j ⟨t,h,n⟩ (pF C R s F .normal):=jV false 9999 m 9999 (.ops all ops j) t h n s (by rw[hx];exact k)
def qCN(m:Nat)(hx:goA C false 9999 m 9999 (.code c) t h n s=.reg all' ops' j' t' h' n' s')(k:jY C R all' ops' j' ⟨t',h',n'⟩ (pF C R s' F .normal)):eJ C R c ⟨t,h,n⟩ (pF C R s F):=jV false 9999 m 9999 (.code c) t h n s (by rw[hx];exact k)
def qXN(m:Nat)(hx:goA C false 9999 m 9999 (.ex e) t h n s=.reg all' ops' j' t' h' n' s')(k:jY C R all' ops' j' ⟨t',h',n'⟩ (pF C R s' F .normal)):pF C R s F e ⟨t,h,n⟩:=jV false 9999 m 9999 (.ex e) t h n s (by rw[hx];exact k)
end
set_option maxRecDepth 100000
def sS(inf:TypeInfo){t:TypeId}{i:TI}{d:TypeDesc}(hd:Tryz.prog.underlying t=some d)
  (hk:match i.kd with
  | .bool=>d=.bool
  | .int k=>d=.int k
  | .string=>d=.string
  | .slice e=>d=.slice e
  | .array n e=>d=.array n e
  | .struct fs=>∃fields,d=.struct fields∧fields.toList.map (λf=>(f.offset,f.type))=fs∧(fields.toList.all λf=>match Tryz.prog.info? f.type with|some i=> !(i.size==0)|none=>false)=true
  |_=>True) (he:i.eq≠[]->Xj Tryz.prog t i.eq:=by exact λh=>absurd rfl h) (h1:Tryz.prog.info? t=some inf:=by kernel_rfl) (h2:inf.zero=some (inf.zero.getD .nilFunc):=by rfl) (h3:i.zero=On (inf.zero.getD .nilFunc):=by rfl) (hc:UO Tryz.prog inf (inf.zero.getD .nilFunc) i=true:=by kernel_rfl) (hrow:d.isRow=i.ag:=by rfl):TyOk Tryz.prog t i:=
 RH h1 h2 h3 hc hd hrow hk he
abbrev ZK:TI:=⟨.int .u32,1,false,.v (.int .u32 0),4,[]⟩
set_option maxRecDepth 100000
abbrev abF:TI:=⟨.func,1,false,.v .nilFunc,8,[]⟩
def tys:TT:=.node 72 (.node 35 (.node 25 (.node 9 (.node 4 (.node 3 (.leaf 2 ⟨.int .i64,1,false,.v (.int .i64 0),8,[]⟩) (.leaf 3 ⟨.int .i64,1,false,.v (.int .i64 0),8,[]⟩)) (.node 5 (.leaf 4 ⟨.bool,1,false,.v (.bool false),1,[]⟩) (.leaf 5 ⟨.int .u8,1,false,.v (.int .u8 0),1,[]⟩))) (.node 23 (.node 22 (.leaf 9 ⟨.string,1,false,.v (.string ⟨#[]⟩),16,[]⟩) (.leaf 22 ⟨.slice 3,1,false,.sl 0 [] true,24,[]⟩)) (.node 24 (.leaf 23 ⟨.slice 28,1,false,.sl 0 [] true,24,[]⟩) (.leaf 24 ⟨.struct [(0,3),(1,3),(2,3),(3,3),(4,3),(5,3),(6,3),(7,3),(8,22),(9,4),(10,23)],11,true,.agg [.v (.int .i64 0),.v (.int .i64 0),.v (.int .i64 0),.v (.int .i64 0),.v (.int .i64 0),.v (.int .i64 0),.v (.int .i64 0),.v (.int .i64 0),.sl 0 [] true,.v (.bool false),.sl 0 [] true],120,[]⟩)))) (.node 31 (.node 29 (.node 28 (.leaf 25 ⟨.struct [(0,3),(1,3),(2,3),(3,3),(4,3),(5,3),(6,3),(7,3),(8,22),(9,4),(10,23)],11,true,.agg [.v (.int .i64 0),.v (.int .i64 0),.v (.int .i64 0),.v (.int .i64 0),.v (.int .i64 0),.v (.int .i64 0),.v (.int .i64 0),.v (.int .i64 0),.sl 0 [] true,.v (.bool false),.sl 0 [] true],120,[]⟩) (.leaf 28 ZK)) (.node 30 (.leaf 29 ⟨.array 32 28,32,true,.agg [zU,zU,zU,zU,zU,zU,zU,zU,zU,zU,zU,zU,zU,zU,zU,zU,zU,zU,zU,zU,zU,zU,zU,zU,zU,zU,zU,zU,zU,zU,zU,zU],128,[.i,.i,.i,.i,.i,.i,.i,.i,.i,.i,.i,.i,.i,.i,.i,.i,.i,.i,.i,.i,.i,.i,.i,.i,.i,.i,.i,.i,.i,.i,.i,.i]⟩) (.leaf 30 ⟨.slice 104,1,false,.sl 0 [] true,24,[]⟩))) (.node 33 (.node 32 (.leaf 31 ⟨.slice 95,1,false,.sl 0 [] true,24,[]⟩) (.leaf 32 ⟨.slice 99,1,false,.sl 0 [] true,24,[]⟩)) (.node 34 (.leaf 33 ⟨.slice 149,1,false,.sl 0 [] true,24,[]⟩) (.leaf 34 ⟨.struct [(0,3),(1,33)],2,true,.agg [.v (.int .i64 0),.sl 0 [] true],32,[]⟩))))) (.node 43 (.node 39 (.node 37 (.node 36 (.leaf 35 ⟨.struct [(0,3),(1,33)],2,true,.agg [.v (.int .i64 0),.sl 0 [] true],32,[]⟩) (.leaf 36 ⟨.slice 78,1,false,.sl 0 [] true,24,[]⟩)) (.node 38 (.leaf 37 ⟨.slice 178,1,false,.sl 0 [] true,24,[]⟩) (.leaf 38 ⟨.struct [(0,37),(1,28),(2,23)],3,true,.agg [.sl 0 [] true,zU,.sl 0 [] true],56,[]⟩))) (.node 41 (.node 40 (.leaf 39 ⟨.struct [(0,37),(1,28),(2,23)],3,true,.agg [.sl 0 [] true,zU,.sl 0 [] true],56,[]⟩) (.leaf 40 ⟨.slice 53,1,false,.sl 0 [] true,24,[]⟩)) (.node 42 (.leaf 41 ⟨.struct [(0,25),(11,23),(12,3),(13,29),(45,28),(46,4),(47,30),(48,31),(49,3),(50,32),(51,35),(53,35),(55,36),(56,3),(57,3),(58,9),(59,39),(62,3),(63,40)],64,true,.agg [.v (.int .i64 0),.v (.int .i64 0),.v (.int .i64 0),.v (.int .i64 0),.v (.int .i64 0),.v (.int .i64 0),.v (.int .i64 0),.v (.int .i64 0),.sl 0 [] true,.v (.bool false),.sl 0 [] true,.sl 0 [] true,.v (.int .i64 0),zU,zU,zU,zU,zU,zU,zU,zU,zU,zU,zU,zU,zU,zU,zU,zU,zU,zU,zU,zU,zU,zU,zU,zU,zU,zU,zU,zU,zU,zU,zU,zU,zU,.v (.bool false),.sl 0 [] true,.sl 0 [] true,.v (.int .i64 0),.sl 0 [] true,.v (.int .i64 0),.sl 0 [] true,.v (.int .i64 0),.sl 0 [] true,.sl 0 [] true,.v (.int .i64 0),.v (.int .i64 0),.v (.string ⟨#[]⟩),.sl 0 [] true,zU,.sl 0 [] true,.v (.int .i64 0),.sl 0 [] true],576,[]⟩) (.leaf 42 ⟨.struct [(0,25),(11,23),(12,3),(13,29),(45,28),(46,4),(47,30),(48,31),(49,3),(50,32),(51,35),(53,35),(55,36),(56,3),(57,3),(58,9),(59,39),(62,3),(63,40)],64,true,.agg [.v (.int .i64 0),.v (.int .i64 0),.v (.int .i64 0),.v (.int .i64 0),.v (.int .i64 0),.v (.int .i64 0),.v (.int .i64 0),.v (.int .i64 0),.sl 0 [] true,.v (.bool false),.sl 0 [] true,.sl 0 [] true,.v (.int .i64 0),zU,zU,zU,zU,zU,zU,zU,zU,zU,zU,zU,zU,zU,zU,zU,zU,zU,zU,zU,zU,zU,zU,zU,zU,zU,zU,zU,zU,zU,zU,zU,zU,zU,.v (.bool false),.sl 0 [] true,.sl 0 [] true,.v (.int .i64 0),.sl 0 [] true,.v (.int .i64 0),.sl 0 [] true,.v (.int .i64 0),.sl 0 [] true,.sl 0 [] true,.v (.int .i64 0),.v (.int .i64 0),.v (.string ⟨#[]⟩),.sl 0 [] true,zU,.sl 0 [] true,.v (.int .i64 0),.sl 0 [] true],576,[]⟩)))) (.node 53 (.node 50 (.node 49 (.leaf 43 ⟨.slice 50,1,false,.sl 0 [] true,24,[]⟩) (.leaf 49 ⟨.struct [(0,33),(1,33),(2,36),(3,23)],4,true,.agg [.sl 0 [] true,.sl 0 [] true,.sl 0 [] true,.sl 0 [] true],96,[]⟩)) (.node 52 (.leaf 50 ⟨.struct [(0,33),(1,33),(2,36),(3,23)],4,true,.agg [.sl 0 [] true,.sl 0 [] true,.sl 0 [] true,.sl 0 [] true],96,[]⟩) (.leaf 52 ⟨.struct [(0,28),(1,28),(2,3),(3,28),(4,28),(5,3),(6,4),(7,3),(8,3)],9,true,.agg [zU,zU,.v (.int .i64 0),zU,zU,.v (.int .i64 0),.v (.bool false),.v (.int .i64 0),.v (.int .i64 0)],56,[]⟩))) (.node 59 (.node 58 (.leaf 53 ⟨.struct [(0,28),(1,28),(2,3),(3,28),(4,28),(5,3),(6,4),(7,3),(8,3)],9,true,.agg [zU,zU,.v (.int .i64 0),zU,zU,.v (.int .i64 0),.v (.bool false),.v (.int .i64 0),.v (.int .i64 0)],56,[.i,.i,.i,.i,.i,.i,.b,.i,.i]⟩) (.leaf 58 ⟨.struct [(0,3),(1,4),(2,3)],3,true,.agg [.v (.int .i64 0),.v (.bool false),.v (.int .i64 0)],24,[]⟩)) (.node 71 (.leaf 59 ⟨.struct [(0,3),(1,4),(2,3)],3,true,.agg [.v (.int .i64 0),.v (.bool false),.v (.int .i64 0)],24,[.i,.b,.i]⟩) (.leaf 71 ⟨.struct [(0,42)],64,true,.agg [.v (.int .i64 0),.v (.int .i64 0),.v (.int .i64 0),.v (.int .i64 0),.v (.int .i64 0),.v (.int .i64 0),.v (.int .i64 0),.v (.int .i64 0),.sl 0 [] true,.v (.bool false),.sl 0 [] true,.sl 0 [] true,.v (.int .i64 0),zU,zU,zU,zU,zU,zU,zU,zU,zU,zU,zU,zU,zU,zU,zU,zU,zU,zU,zU,zU,zU,zU,zU,zU,zU,zU,zU,zU,zU,zU,zU,zU,zU,.v (.bool false),.sl 0 [] true,.sl 0 [] true,.v (.int .i64 0),.sl 0 [] true,.v (.int .i64 0),.sl 0 [] true,.v (.int .i64 0),.sl 0 [] true,.sl 0 [] true,.v (.int .i64 0),.v (.int .i64 0),.v (.string ⟨#[]⟩),.sl 0 [] true,zU,.sl 0 [] true,.v (.int .i64 0),.sl 0 [] true],576,[]⟩)))))) (.node 103 (.node 86 (.node 77 (.node 74 (.node 73 (.leaf 72 ⟨.struct [(0,42)],64,true,.agg [.v (.int .i64 0),.v (.int .i64 0),.v (.int .i64 0),.v (.int .i64 0),.v (.int .i64 0),.v (.int .i64 0),.v (.int .i64 0),.v (.int .i64 0),.sl 0 [] true,.v (.bool false),.sl 0 [] true,.sl 0 [] true,.v (.int .i64 0),zU,zU,zU,zU,zU,zU,zU,zU,zU,zU,zU,zU,zU,zU,zU,zU,zU,zU,zU,zU,zU,zU,zU,zU,zU,zU,zU,zU,zU,zU,zU,zU,zU,.v (.bool false),.sl 0 [] true,.sl 0 [] true,.v (.int .i64 0),.sl 0 [] true,.v (.int .i64 0),.sl 0 [] true,.v (.int .i64 0),.sl 0 [] true,.sl 0 [] true,.v (.int .i64 0),.v (.int .i64 0),.v (.string ⟨#[]⟩),.sl 0 [] true,zU,.sl 0 [] true,.v (.int .i64 0),.sl 0 [] true],576,[]⟩) (.leaf 73 abF)) (.node 75 (.leaf 74 ⟨.pointer,1,false,.v (.pointer none),8,[]⟩) (.leaf 75 ⟨.array 7 73,7,true,.agg [.v .nilFunc,.v .nilFunc,.v .nilFunc,.v .nilFunc,.v .nilFunc,.v .nilFunc,.v .nilFunc],56,[]⟩))) (.node 82 (.node 78 (.leaf 77 ⟨.struct [(0,3),(1,28),(2,3),(3,9)],4,true,.agg [.v (.int .i64 0),zU,.v (.int .i64 0),.v (.string ⟨#[]⟩)],40,[]⟩) (.leaf 78 ⟨.struct [(0,3),(1,28),(2,3),(3,9)],4,true,.agg [.v (.int .i64 0),zU,.v (.int .i64 0),.v (.string ⟨#[]⟩)],40,[.i,.i,.i,.s]⟩)) (.node 85 (.leaf 82 ⟨.slice 86,1,false,.sl 0 [] true,24,[]⟩) (.leaf 85 ⟨.struct [(0,28),(1,28),(2,3),(3,3),(4,28),(5,3)],6,true,.agg [zU,zU,.v (.int .i64 0),.v (.int .i64 0),zU,.v (.int .i64 0)],40,[]⟩)))) (.node 94 (.node 92 (.node 89 (.leaf 86 ⟨.struct [(0,28),(1,28),(2,3),(3,3),(4,28),(5,3)],6,true,.agg [zU,zU,.v (.int .i64 0),.v (.int .i64 0),zU,.v (.int .i64 0)],40,[.i,.i,.i,.i,.i,.i]⟩) (.leaf 89 ⟨.slice 5,1,false,.sl 0 [] true,24,[]⟩)) (.node 93 (.leaf 92 ⟨.struct [(0,3),(1,3),(2,3),(3,3),(4,28)],5,true,.agg [.v (.int .i64 0),.v (.int .i64 0),.v (.int .i64 0),.v (.int .i64 0),zU],40,[]⟩) (.leaf 93 ⟨.struct [(0,3),(1,3),(2,3),(3,3),(4,28)],5,true,.agg [.v (.int .i64 0),.v (.int .i64 0),.v (.int .i64 0),.v (.int .i64 0),zU],40,[.i,.i,.i,.i,.i]⟩))) (.node 98 (.node 95 (.leaf 94 ⟨.struct [(0,3),(1,28),(2,93),(7,28),(8,3),(9,3),(10,28),(11,28),(12,28),(13,3),(14,3),(15,4),(16,4)],17,true,.agg [.v (.int .i64 0),zU,.v (.int .i64 0),.v (.int .i64 0),.v (.int .i64 0),.v (.int .i64 0),zU,zU,.v (.int .i64 0),.v (.int .i64 0),zU,zU,zU,.v (.int .i64 0),.v (.int .i64 0),.v (.bool false),.v (.bool false)],120,[]⟩) (.leaf 95 ⟨.struct [(0,3),(1,28),(2,93),(7,28),(8,3),(9,3),(10,28),(11,28),(12,28),(13,3),(14,3),(15,4),(16,4)],17,true,.agg [.v (.int .i64 0),zU,.v (.int .i64 0),.v (.int .i64 0),.v (.int .i64 0),.v (.int .i64 0),zU,zU,.v (.int .i64 0),.v (.int .i64 0),zU,zU,zU,.v (.int .i64 0),.v (.int .i64 0),.v (.bool false),.v (.bool false)],120,[.i,.i,.i,.i,.i,.i,.i,.i,.i,.i,.i,.i,.i,.i,.i,.b,.b]⟩)) (.node 99 (.leaf 98 ⟨.struct [(0,28),(1,9)],2,true,.agg [zU,.v (.string ⟨#[]⟩)],24,[]⟩) (.leaf 99 ⟨.struct [(0,28),(1,9)],2,true,.agg [zU,.v (.string ⟨#[]⟩)],24,[.i,.s]⟩))))) (.node 164 (.node 133 (.node 113 (.node 104 (.leaf 103 ⟨.struct [(0,28),(1,28)],2,true,.agg [zU,zU],8,[]⟩) (.leaf 104 ⟨.struct [(0,28),(1,28)],2,true,.agg [zU,zU],8,[.i,.i]⟩)) (.node 114 (.leaf 113 ⟨.struct [(0,28),(1,4),(2,9)],3,true,.agg [zU,.v (.bool false),.v (.string ⟨#[]⟩)],24,[]⟩) (.leaf 114 ⟨.struct [(0,28),(1,4),(2,9)],3,true,.agg [zU,.v (.bool false),.v (.string ⟨#[]⟩)],24,[.i,.b,.s]⟩))) (.node 157 (.node 149 (.leaf 133 ⟨.slice 4,1,false,.sl 0 [] true,24,[]⟩) (.leaf 149 ⟨.slice 114,1,false,.sl 0 [] true,24,[]⟩)) (.node 158 (.leaf 157 ⟨.struct [(0,28),(1,29),(33,9),(34,3)],35,true,.agg [zU,zU,zU,zU,zU,zU,zU,zU,zU,zU,zU,zU,zU,zU,zU,zU,zU,zU,zU,zU,zU,zU,zU,zU,zU,zU,zU,zU,zU,zU,zU,zU,zU,.v (.string ⟨#[]⟩),.v (.int .i64 0)],160,[]⟩) (.leaf 158 ⟨.struct [(0,28),(1,29),(33,9),(34,3)],35,true,.agg [zU,zU,zU,zU,zU,zU,zU,zU,zU,zU,zU,zU,zU,zU,zU,zU,zU,zU,zU,zU,zU,zU,zU,zU,zU,zU,zU,zU,zU,zU,zU,zU,zU,.v (.string ⟨#[]⟩),.v (.int .i64 0)],160,[.i,.i,.i,.i,.i,.i,.i,.i,.i,.i,.i,.i,.i,.i,.i,.i,.i,.i,.i,.i,.i,.i,.i,.i,.i,.i,.i,.i,.i,.i,.i,.i,.i,.s,.i]⟩)))) (.node 230 (.node 177 (.node 166 (.leaf 164 ⟨.int .u64,1,false,.v (.int .u64 0),8,[]⟩) (.leaf 166 ⟨.int .i64,1,false,.v (.int .i64 0),8,[]⟩)) (.node 178 (.leaf 177 ⟨.struct [(0,28),(1,28)],2,true,.agg [zU,zU],8,[]⟩) (.leaf 178 ⟨.struct [(0,28),(1,28)],2,true,.agg [zU,zU],8,[.i,.i]⟩))) (.node 241 (.node 240 (.leaf 230 ⟨.slice 252,1,false,.sl 0 [] true,24,[]⟩) (.leaf 240 ⟨.struct [(0,28),(1,3),(2,9),(3,4)],4,true,.agg [zU,.v (.int .i64 0),.v (.string ⟨#[]⟩),.v (.bool false)],40,[]⟩)) (.node 251 (.leaf 241 ⟨.struct [(0,28),(1,3),(2,9),(3,4)],4,true,.agg [zU,.v (.int .i64 0),.v (.string ⟨#[]⟩),.v (.bool false)],40,[]⟩) (.node 252 (.leaf 251 ⟨.struct [(0,3),(1,3)],2,true,.agg [.v (.int .i64 0),.v (.int .i64 0)],16,[]⟩) (.leaf 252 ⟨.struct [(0,3),(1,3)],2,true,.agg [.v (.int .i64 0),.v (.int .i64 0)],16,[]⟩)))))))
def Yp:RG Tryz.prog tys:=⟨⟨⟨⟨⟨⟨sS Tryz.t2 Tryz.underlying2 rfl,sS Tryz.t3 Tryz.underlying3 rfl⟩,⟨sS Tryz.t4 Tryz.underlying4 rfl,sS Tryz.t5 Tryz.underlying5 rfl⟩⟩,⟨⟨sS Tryz.t9 Tryz.underlying9 rfl,sS Tryz.t22 Tryz.underlying22 rfl⟩,⟨sS Tryz.t23 Tryz.underlying23 rfl,sS Tryz.t24 Tryz.underlying24 ⟨_,rfl,by kernel_rfl,by kernel_rfl⟩⟩⟩⟩,⟨⟨⟨sS Tryz.t25 Tryz.underlying25 ⟨_,rfl,by kernel_rfl,by kernel_rfl⟩,sS Tryz.t28 Tryz.underlying28 rfl⟩,⟨sS Tryz.t29 Tryz.underlying29 rfl (λ_=>RF (d:=20) (inf:=Tryz.t28) (ks':=[.i]) Tryz.underlying29 (by kernel_rfl) (by kernel_rfl) (by kernel_rfl) (by kernel_rfl) (by kernel_rfl)),sS Tryz.t30 Tryz.underlying30 rfl⟩⟩,⟨⟨sS Tryz.t31 Tryz.underlying31 rfl,sS Tryz.t32 Tryz.underlying32 rfl⟩,⟨sS Tryz.t33 Tryz.underlying33 rfl,sS Tryz.t34 Tryz.underlying34 ⟨_,rfl,by kernel_rfl,by kernel_rfl⟩⟩⟩⟩⟩,⟨⟨⟨⟨sS Tryz.t35 Tryz.underlying35 ⟨_,rfl,by kernel_rfl,by kernel_rfl⟩,sS Tryz.t36 Tryz.underlying36 rfl⟩,⟨sS Tryz.t37 Tryz.underlying37 rfl,sS Tryz.t38 Tryz.underlying38 ⟨_,rfl,by kernel_rfl,by kernel_rfl⟩⟩⟩,⟨⟨sS Tryz.t39 Tryz.underlying39 ⟨_,rfl,by kernel_rfl,by kernel_rfl⟩,sS Tryz.t40 Tryz.underlying40 rfl⟩,⟨sS Tryz.t41 Tryz.underlying41 ⟨_,rfl,by kernel_rfl,by kernel_rfl⟩,sS Tryz.t42 Tryz.underlying42 ⟨_,rfl,by kernel_rfl,by kernel_rfl⟩⟩⟩⟩,⟨⟨⟨sS Tryz.t43 Tryz.underlying43 rfl,sS Tryz.t49 Tryz.underlying49 ⟨_,rfl,by kernel_rfl,by kernel_rfl⟩⟩,⟨sS Tryz.t50 Tryz.underlying50 ⟨_,rfl,by kernel_rfl,by kernel_rfl⟩,sS Tryz.t52 Tryz.underlying52 ⟨_,rfl,by kernel_rfl,by kernel_rfl⟩⟩⟩,⟨⟨sS Tryz.t53 Tryz.underlying53 ⟨_,rfl,by kernel_rfl,by kernel_rfl⟩ (λ_=>yM (d:=20) (by kernel_rfl)),sS Tryz.t58 Tryz.underlying58 ⟨_,rfl,by kernel_rfl,by kernel_rfl⟩⟩,⟨sS Tryz.t59 Tryz.underlying59 ⟨_,rfl,by kernel_rfl,by kernel_rfl⟩ (λ_=>yM (d:=20) (by kernel_rfl)),sS Tryz.t71 Tryz.underlying71 ⟨_,rfl,by kernel_rfl,by kernel_rfl⟩⟩⟩⟩⟩⟩,⟨⟨⟨⟨⟨sS Tryz.t72 Tryz.underlying72 ⟨_,rfl,by kernel_rfl,by kernel_rfl⟩,sS Tryz.t73 Tryz.underlying73 trivial⟩,⟨sS Tryz.t74 Tryz.underlying74 trivial,sS Tryz.t75 Tryz.underlying75 rfl⟩⟩,⟨⟨sS Tryz.t77 Tryz.underlying77 ⟨_,rfl,by kernel_rfl,by kernel_rfl⟩,sS Tryz.t78 Tryz.underlying78 ⟨_,rfl,by kernel_rfl,by kernel_rfl⟩ (λ_=>yM (d:=20) (by kernel_rfl))⟩,⟨sS Tryz.t82 Tryz.underlying82 rfl,sS Tryz.t85 Tryz.underlying85 ⟨_,rfl,by kernel_rfl,by kernel_rfl⟩⟩⟩⟩,⟨⟨⟨sS Tryz.t86 Tryz.underlying86 ⟨_,rfl,by kernel_rfl,by kernel_rfl⟩ (λ_=>yM (d:=20) (by kernel_rfl)),sS Tryz.t89 Tryz.underlying89 rfl⟩,⟨sS Tryz.t92 Tryz.underlying92 ⟨_,rfl,by kernel_rfl,by kernel_rfl⟩,sS Tryz.t93 Tryz.underlying93 ⟨_,rfl,by kernel_rfl,by kernel_rfl⟩ (λ_=>yM (d:=20) (by kernel_rfl))⟩⟩,⟨⟨sS Tryz.t94 Tryz.underlying94 ⟨_,rfl,by kernel_rfl,by kernel_rfl⟩,sS Tryz.t95 Tryz.underlying95 ⟨_,rfl,by kernel_rfl,by kernel_rfl⟩ (λ_=>yM (d:=20) (by kernel_rfl))⟩,⟨sS Tryz.t98 Tryz.underlying98 ⟨_,rfl,by kernel_rfl,by kernel_rfl⟩,sS Tryz.t99 Tryz.underlying99 ⟨_,rfl,by kernel_rfl,by kernel_rfl⟩ (λ_=>yM (d:=20) (by kernel_rfl))⟩⟩⟩⟩,⟨⟨⟨⟨sS Tryz.t103 Tryz.underlying103 ⟨_,rfl,by kernel_rfl,by kernel_rfl⟩,sS Tryz.t104 Tryz.underlying104 ⟨_,rfl,by kernel_rfl,by kernel_rfl⟩ (λ_=>yM (d:=20) (by kernel_rfl))⟩,⟨sS Tryz.t113 Tryz.underlying113 ⟨_,rfl,by kernel_rfl,by kernel_rfl⟩,sS Tryz.t114 Tryz.underlying114 ⟨_,rfl,by kernel_rfl,by kernel_rfl⟩ (λ_=>yM (d:=20) (by kernel_rfl))⟩⟩,⟨⟨sS Tryz.t133 Tryz.underlying133 rfl,sS Tryz.t149 Tryz.underlying149 rfl⟩,⟨sS Tryz.t157 Tryz.underlying157 ⟨_,rfl,by kernel_rfl,by kernel_rfl⟩,sS Tryz.t158 Tryz.underlying158 ⟨_,rfl,by kernel_rfl,by kernel_rfl⟩ (λ_=>yM (d:=20) (by kernel_rfl))⟩⟩⟩,⟨⟨⟨sS Tryz.t164 Tryz.underlying164 rfl,sS Tryz.t166 Tryz.underlying166 rfl⟩,⟨sS Tryz.t177 Tryz.underlying177 ⟨_,rfl,by kernel_rfl,by kernel_rfl⟩,sS Tryz.t178 Tryz.underlying178 ⟨_,rfl,by kernel_rfl,by kernel_rfl⟩ (λ_=>yM (d:=20) (by kernel_rfl))⟩⟩,⟨⟨sS Tryz.t230 Tryz.underlying230 rfl,sS Tryz.t240 Tryz.underlying240 ⟨_,rfl,by kernel_rfl,by kernel_rfl⟩⟩,⟨sS Tryz.t241 Tryz.underlying241 ⟨_,rfl,by kernel_rfl,by kernel_rfl⟩,⟨sS Tryz.t251 Tryz.underlying251 ⟨_,rfl,by kernel_rfl,by kernel_rfl⟩,sS Tryz.t252 Tryz.underlying252 ⟨_,rfl,by kernel_rfl,by kernel_rfl⟩⟩⟩⟩⟩⟩⟩⟩
def JD:List AV:=Yq.map λk=>.v (.int .u32 (k:Nat))
noncomputable def C0:Ctx:={P:=Tryz.prog,ty:=tys.find,G:=λg=>match g with|0=>some JD|_=>none,H:=qE Tryz.prog (λg=>match g with|0=>some JD|_=>none)}
def c0Ok:CtxOk C0:=⟨TT.find_ok tys Yp,by kernel_rfl,λ_ _ _ _ _ h=>h⟩
def NP(k:Nat)(hk:k<49):JD[k]?=some (.v (.int .u32 (code k))):=by
 have:∀k,k<49->Yq[k]?=some (code k):=by decide
 simp only[JD,bD,this k hk,dJ]
def afC{S:Nat->Prop}{w:World}(h:Lj w)(hS:S 0):GOk C0 S w:=λg cells hg=>by
 match g,hg with
 | 0,hg=>
  injection hg with hg;subst hg;have hget:∀(j:Nat) a,JD[j]?=some a->j<49:=λj a hj=>(DS.1 hj).1;exact .dp JD.length 0 JD 0 0 (λk=>.int .u32 (code k)) rfl hS (λj a hj=>by rw[bF];exact h j (hget j a hj)) (λ_=>rfl) λj a hj=>by
   rw[NP j (hget j a hj)]at hj;injection hj with hj;subst hj;exact .v _
def CL{S:Nat->Prop}{w:World}(h:GOk C0 S w):Lj w:=by
 have:=h 0 JD rfl;generalize hp:Value.pointer (some (⟨0,0,none⟩:Addr))=p at this
 cases this with
 |dp _ _ _ b o u hrs hb hw h1 hr=>
  simp only[Value.pointer.injEq,Option.some.injEq,Addr.mk.injEq]at hp;obtain⟨rfl,ho, -⟩:=hp;obtain rfl:o=0:=by omega
  intro k hk;have e:=NP k hk;have:=hw k _ e;rw[bF]at this;rw[this,lN (hr k _ e)]
end Go.Proofs.YtgleompefdogkaaGreatDoor
