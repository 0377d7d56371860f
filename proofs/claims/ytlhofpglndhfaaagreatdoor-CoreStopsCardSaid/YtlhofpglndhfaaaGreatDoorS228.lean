/- Joined texts. -/
import Derived.DataReads
import Derived.Deep.Strs
import Derived.Test.YtlhofpglndhfaaaGreatDoorProg
import Derived.KernelRfl
import Derived.Test.YtlhofpglndhfaaaGreatDoorS201
import Derived.Test.YtlhofpglndhfaaaGreatDoorS207
import Derived.Test.YtlhofpglndhfaaaGreatDoorS215
import Derived.Test.YtlhofpglndhfaaaGreatDoorS216
import Derived.Test.YtlhofpglndhfaaaGreatDoorS217
import Derived.Test.YtlhofpglndhfaaaGreatDoorS218
import Derived.Test.YtlhofpglndhfaaaGreatDoorS219
import Derived.Test.YtlhofpglndhfaaaGreatDoorS227
set_option linter.unusedVariables false
set_option linter.unusedSimpArgs false
namespace Go.Proofs.YtlhofpglndhfaaaGreatDoor
open Go.RowKit
def uD(N:Nat):Code→Bool
 | .region _ ops dr=>uO N ops.toList&&(!dr||Fo ops.toList||Ja ops.toList)
 | .seq a b=>uD N a&&uD N b
 | .cond _ a b=>uD N a&&uD N b
 | .block _ b=>uD N b
 | .loop b=>uD N b
 |_=>true
def FL:AEx→Exit
 | .normal=>.normal
 | .exit i=>.exit i
 | .ret=>.ret
def Aft(C:Ctx)(V:Inv C.fr)(w0:World)(S0:Nat→Prop)(N:Nat)(Q:AEx→ASt→Prop)(e:Exit)(a:Act)(w:World):Prop:=∃ e' st S β,e=FL e'∧Q e' st∧SimD C V w0 S0 N (· <st.n) st.t st.h a w S β
section
variable {C:Ctx}{V:Inv C.fr}{N:Nat}{w0:World}{S0:Nat→Prop}
theorem pI(σ:Nat→Nat):∀ (cs:List AV) (i:Nat),(Cl σ cs)[i]?=(cs[i]?).map (uV σ)
 |[],i=>by simp[Cl]
 |c::cs,0=>by simp[Cl]
 |c::cs,i+1=>by simp[Cl,pI σ cs i]
theorem tI(σ:Nat→Nat):∀ (cs:List AV),(Cl σ cs).length=cs.length
 |[]=>rfl
 |c::cs=>by simp[Cl,tI σ cs]
theorem sN(n:Nat):∀ (cs:List AV),pX n cs=true→∀ (i:Nat) a,cs[i]?=some a→nJ n a=true
 |[],_,i,a,h=>by simp at h
 | c::cs,hb,i,a,hi=>by
  simp only[pX]at hb;split at hb
  ·rename_i hc
   cases i with
   |zero=>simp at hi;subst hi;exact hc
   |succ i=>exact sN n cs hb i a (by simpa using hi)
  ·cases hb
theorem FM:∀ (cs:List AV) (i:Nat) a,cs[i]?=some a→SizeOf.sizeOf a<SizeOf.sizeOf cs
 |[],i,a,h=>by simp at h
 |c::cs,0,a,h=>by simp at h;subst h;simp;omega
 |c::cs,i+1,a,h=>by
  have:=FM cs i a (by simpa using h);simp;omega
theorem Cm{S:Nat→Prop}{w:World}{β:Bt}{n:Nat}{σ:Nat→Nat}:∀ (k:Nat) (a:AV) (v:Value),SizeOf.sizeOf a≤k→nJ n a=true→Rep S w β (uV σ a) v→Rep S w (λ s=>if s<n then β (σ s)else none) a v:=by
 intro k
 induction k with
 |zero=>intro a v hk;cases a<;>simp at hk
 | succ k ih=>
  intro a v hk hb hr;have site:∀ s l,Nat.blt s n=true→β (σ s)=some l→(λ s=>if s<n then β (σ s)else none) s=some l:=λ s l h1 h2=>by
   have:s<n:=aP h1;simp only[this,kW,h2]
  have list:∀ (cs:List AV) (us:Array Value),SizeOf.sizeOf cs≤k→pX n cs=true→(∀ (i:Nat) a u,(Cl σ cs)[i]?=some a→us[i]?=some u→Rep S w β a u)→∀ (i:Nat) a u,cs[i]?=some a→us[i]?=some u→Rep S w (λ s=>if s<n then β (σ s)else none) a u:=by
   intro cs us hs hb h i a u p q;have:=FM cs i a p;exact ih a u (by omega) (sN n cs hb i a p) (h i (uV σ a) u (by rw[pI,p];rfl) q)
  cases a with
  |v x=>
   simp only[uV]at hr;cases hr
   exact .v _
  |agg cs=>
   simp only[uV]at hr
   cases hr with
   |agg _ vs hl h1 h=>exact .agg cs vs (by rw[←tI σ cs];exact hl) h1 (list cs vs (by simp at hk;omega) (by simpa [nJ]using hb) h)
  |tup cs=>
   simp only[uV]at hr
   cases hr with
   |tup _ vs hl h=>exact .tup cs vs (by rw[←tI σ cs];exact hl) (list cs vs (by simp at hk;omega) (by simpa [nJ]using hb) h)
  |sl rs rows clip=>
   simp only[uV]at hr
   cases hr with
   |sl _ _ _ A c b o u hc hm hcl hrs hA hw h1 hr=>exact .sl rs rows clip A c b o u hc hm hcl hrs hA hw h1 hr
  |dp rs col row=>
   simp only[uV]at hr
   cases hr with
   |dp _ _ _ b o u hrs hb hw h1 hr=>exact .dp rs col row b o u hrs hb hw h1 hr
  |ptr s c=>
   simp only[uV]at hr
   cases hr with
   |ptr _ _ l hl=>exact .ptr s c l (site s l hb hl)
  |ptr2 s r c=>
   simp only[uV]at hr
   cases hr with
   |ptr2 _ _ _ l hl=>exact .ptr2 s r c l (site s l hb hl)
  |osl s lo len clip=>
   simp only[uV]at hr
   cases hr with
   |osl _ _ _ _ l A c hl hc hm hcl hA cs e fr hb' room=>exact .osl s lo len clip l A c (site s l hb hl) hc hm hcl hA cs e fr hb' room
  | clo f a b=>
   simp only[uV]at hr;simp only[nJ]at hb;split at hb
   ·rename_i ha
    cases hr with
    |clo _ _ _ vs us hl h hl' h'=>exact .clo f a b vs us (by rw[←tI σ a];exact hl) (list a vs (by simp at hk;omega) ha h) (by rw[←tI σ b];exact hl') (list b us (by simp at hk;omega) hb h')
   ·cases hb
  |opt g x=>
   simp only[uV]at hr
   cases hr with
   |optT _ _ _ hg h=>exact .optT g x v hg (ih x v (by simp at hk;omega) (by simpa [nJ]using hb) h)
   |optF _ _ hg=>exact .optF g x hg
  |any=>exact .any v
theorem pJ{st st':ASt}{σ:Nat→Nat}(W:Weak st st' σ)(hf:keepB C.fr σ st'.n=true){a:Act}{w:World}{S:Nat→Prop}{β:Bt}(M:SimD C V w0 S0 N (· <st.n) st.t st.h a w S β):SimD C V w0 S0 N (· <st'.n) st'.t st'.h a w S (λ s=>if s<st'.n then β (σ s)else none):=by
 refine⟨λ i=>?_,⟨λ s blk hs=>?_,λ s s' l l' h1 h2 e1 e2 hb=>?_,M.H.lt,M.H.big⟩,M.B,λ x l hx=>?_,M.df,M.sz,M.G,M.nw,V.weak M.iv hf⟩
 ·rcases W.t i with h|⟨h,hb⟩
  ·rw[h];exact .any _
  ·have:=M.T i;rw[h]at this;exact Cm _ _ _ (aC _) hb this
 ·obtain⟨h1,h2,h3⟩:=W.h s blk hs;obtain⟨l,cs,e,fr,k1,k2,k3,k4,k5,k6⟩:=M.H.own _ _ h2;refine⟨l,cs,e,fr,by simp only[h1,kW];exact k1,k2,k3,k4,k5,?_⟩
  cases blk with
  |box cells=>
   intro j a hj;obtain⟨u,q1,q2,q3⟩:=k6 j (uV σ a) (by rw[pI,hj];rfl)
   exact⟨u,q1,q2,Cm _ _ _ (aC _) (sN _ cells (by simpa [tP]using h3) j a hj) q3⟩
  |arr rows rs=>exact k6
  |row cells=>
   refine⟨k6.1,λ j a hj=>?_⟩;obtain⟨u,q1,q2,q3⟩:=k6.2 j (uV σ a) (by rw[pI,hj];rfl);exact⟨u,q1,q2,Cm _ _ _ (aC _) (sN _ cells (by simpa [tP]using h3) j a hj) q3⟩
 ·have get:∀ s l,st'.h s≠none→(if s<st'.n then β (σ s)else none)=some l→st.h (σ s)≠none∧β (σ s)=some l:=by
   intro s l hs hl
   cases hq:st'.h s with
   |none=>exact absurd hq hs
   |some blk=>
    obtain⟨h1,h2,h3⟩:=W.h s blk hq;rw[if_pos h1]at hl;exact⟨by rw[h2];simp,hl⟩
  obtain⟨a1,a2⟩:=get s l h1 e1;obtain⟨b1,b2⟩:=get s' l' h2 e2;exact W.inj s s' h1 h2 (M.H.inj _ _ _ _ a1 b1 a2 b2 hb)
 ·show x<st'.n;by_cases h:x<st'.n
  ·exact h
  ·simp only[h,iN]at hx;cases hx
theorem GQ{fz:Fz}{S S':Nat→Prop}{w:World}{β:Bt}(hS:∀ b,S b→S' b)
  (hz:∀ x rs rows,fz=some (x,rs,rows)→∀ l,β x=some l→S' l.blk∧∃ cs e fr,w.heap[l.blk]?=some (.cells cs e fr)∧AN S w β l cs (.arr rows rs)):
  ∀ {a b:AV} {v:Value},LeZ fz a b→Rep S w β a v→Rep S' w β b v:=by
 intro a b v hab
 induction hab generalizing v with
 |refl a=>intro h;exact h.mono hS (Evo.refl _ _) (LT.refl _)
 |any a=>intro _;exact .any _
 | nil rs c=>
  intro h
  cases h with
  |sl _ _ _ A c0 b o u hc hm hcl hrs hA hw h1 hr=>
   exact .sl rs [] c A c0 b o u hc hm (λ _=>hcl rfl) (λ _ h=>by cases h) (λ h=>absurd h (dU 0)) (λ i row j a h=>by simp at h) h1 λ i row j a h=>by simp at h
 |emp rs A k c hk hc=>
  intro h;cases lH h
  exact .sl rs [] c A k 0 0 (λ _ _=>.bool false) (aD _) hk hc (λ _ h=>by cases h) (λ h=>absurd h (dU 0)) (λ i row j a h=>by simp at h) (λ _ _=>rfl) λ i row j a h=>by simp at h
 | clip rs rows=>
  intro h
  cases h with
  |sl _ _ _ A c0 b o u hc hm hcl hrs hA hw h1 hr=>
   exact (Rep.sl rs rows false A c0 b o u hc hm (λ h=>by cases h) hrs hA hw h1 hr).mono hS (Evo.refl _ _) (LT.refl _)
 |oclip s lo len=>
  intro h
  cases h with
  |osl _ _ _ _ l A c hl hc hm hcl hA cs e fr hb room=>exact .osl s lo len false l A c hl hc hm (λ h=>by cases h) hA cs e fr hb room
 | frz b rs lo len rows c c' hfz hl hcc=>
  intro h
  cases h with
  | osl _ _ _ _ l A cp hl' hc hm hcl hA cs0 e0 fr0 hb0 room=>
   obtain⟨hSb,cs,e,fr,hb,k1,k2,k3⟩:=hz b rs rows hfz l hl';rw[hb0]at hb;injection hb with hb;injection hb with q1 q2 q3;subst q1;subst q2;subst q3;have hlen:((rows.drop lo).take len).length=len:=by rw[aN,bD];omega
   have get:∀ (i:Nat) row,((rows.drop lo).take len)[i]?=some row→rows[lo+i]?=some row:=λ i row hi=>by
    have hil:i<len:=by have:=(DK.1 hi).1;omega
    rwa [cN,if_pos hil,dD]at hi
   have key:=Rep.sl (S:=S') (w:=w) (β:=β) rs ((rows.drop lo).take len) c' A cp l.blk (l.base+lo * l.rs) (λ i j=>if (cs0[l.base+(lo+i) * rs+j]?.getD (.bool false)).oneCell'=true then cs0[l.base+(lo+i) * rs+j]?.getD (.bool false)else .bool false)
    (by rw[hlen];exact hc) hm (λ h=>by rw[hlen];exact hcl (hcc h)) (λ row hr=>k2 row (eW (cK hr)))
    (λ h0=>⟨hA (by omega),hSb⟩) (λ i row j a hi hj=>?_) (λ i j=>?_) (λ i row j a hi hj=>?_)
   ·rw[hlen]at key;exact key
   ·obtain⟨u,p1,p2,p3⟩:=k3 (lo+i) row j a (get i row hi) hj;rw[gQ hb0,k1,show l.base+lo * rs+i * rs+j=l.base+(lo+i) * rs+j by rw[bZ];omega,p1];simp[p2]
   ·split
    ·assumption
    ·rfl
   ·obtain⟨u,p1,p2,p3⟩:=k3 (lo+i) row j a (get i row hi) hj;simp only[p1,gK,p2,kW]
    exact p3.mono hS (Evo.refl _ _) (LT.refl _)
 | agg cs ds hl h ih=>
  intro hr
  cases hr with
  |agg _ vs hl' h1 h'=>
   refine .agg ds vs (hl ▸ hl') h1 λ i a u p q=>?_;have hi:i<cs.length:=by rw[hl];exact (DK.1 p).1
   exact ih i cs[i] a (aA hi) p (h' i _ u (aA hi) q)
 | tup cs ds hl h ih=>
  intro hr
  cases hr with
  |tup _ vs hl' h'=>
   refine .tup ds vs (hl ▸ hl') λ i a u p q=>?_;have hi:i<cs.length:=by rw[hl];exact (DK.1 p).1
   exact ih i cs[i] a (aA hi) p (h' i _ u (aA hi) q)
theorem Ou{fz:Fz}{S S':Nat→Prop}{w:World}{β:Bt}(hS:∀ b,S b→S' b)
  (hz:∀ x rs rows,fz=some (x,rs,rows)→∀ l,β x=some l→S' l.blk∧∃ cs e fr,w.heap[l.blk]?=some (.cells cs e fr)∧AN S w β l cs (.arr rows rs))
  {b0 b1:Blk} {l:Loc} {cs:Array Value} (h:LeB fz b0 b1) (k:AN S w β l cs b0):AN S' w β l cs b1:=by
 cases h with
 |refl=>exact k.mono hS (Evo.refl _ _) (LT.refl _)
 |box c d hl hh=>
  intro j a hj;have hi:j<c.length:=by rw[hl];exact (DK.1 hj).1
  obtain⟨u,p1,p2,p3⟩:=k j c[j] (aA hi)
  exact⟨u,p1,p2,GQ hS hz (hh j _ a (aA hi) hj) p3⟩
 |row c d hl hh=>
  refine⟨k.1,λ j a hj=>?_⟩;have hi:j<c.length:=by rw[hl];exact (DK.1 hj).1
  obtain⟨u,p1,p2,p3⟩:=k.2 j c[j] (aA hi)
  exact⟨u,p1,p2,GQ hS hz (hh j _ a (aA hi) hj) p3⟩
 |toRow c=>
  refine⟨k.1,λ j a hj=>?_⟩;obtain⟨u,p1,p2,p3⟩:=k.2.2 j [a] 0 a (by rw[aZ,hj];rfl) rfl;rw[iX,jA]at p1
  exact⟨u,p1,p2,p3.mono hS (Evo.refl _ _) (λ s l x=>by cases x)⟩
 | toArr c hc=>
  refine⟨k.1,λ row hr=>?_,λ i row j a hi hj=>?_⟩
  ·obtain⟨x,_,rfl⟩:=sF.1 hr;rfl
  ·rw[aZ]at hi;obtain⟨x,hx,rfl⟩:=wV.1 hi
   cases j with
   |zero=>
    simp only[cJ,Option.some.injEq]at hj;subst hj;obtain⟨u,p1,p2,p3⟩:=k.2 i x hx
    exact⟨u,by rw[iX,jA];exact p1,p2,(lO p3 (hc x (aB hx)) noB).mono hS (Evo.refl _ _) (LT.refl _)⟩
   |succ j=>simp at hj
theorem Ghost.old{st st':ASt}{fz:Fz}(hg:Ghost st st' fz)(s:Nat)(h:st'.h s≠none):st.h s≠none:=by
 cases hq:st'.h s with
 |none=>exact absurd hq h
 |some blk=>obtain⟨_,blk0,h0,_⟩:=hg.h s blk hq;rw[h0];simp
theorem Ku{st st':ASt}{fz:Fz}(hg:Ghost st st' fz){a:Act}{w:World}{S:Nat→Prop}{β:Bt}(M:SimD C V w0 S0 N (· <st.n) st.t st.h a w S β):∃ S',SimD C V w0 S0 N (· <st'.n) st'.t st'.h a w S' β:=by
 cases fz with
 |none=>
  have hz:∀ x rs rows,(none:Fz)=some (x,rs,rows)→∀ l,β x=some l→S l.blk∧∃ cs e fr,w.heap[l.blk]?=some (.cells cs e fr)∧AN S w β l cs (.arr rows rs):=λ _ _ _ h=>by cases h
  refine⟨S,λ i=>GQ (λ _ h=>h) hz (hg.t i) (M.T i),⟨λ s blk hs=>?_,λ s s' l l' h1 h2=>M.H.inj s s' l l' (hg.old s h1) (hg.old s' h2),M.H.lt,M.H.big⟩,M.B,by rw[hg.n];exact M.dom,M.df,M.sz,M.G,M.nw,M.iv⟩;obtain⟨_,blk0,h0,hb⟩:=hg.h s blk hs;obtain⟨l,cs,e,fr,k1,k2,k3,k4,k5,k6⟩:=M.H.own s blk0 h0
  exact⟨l,cs,e,fr,k1,k2,k3,k4,k5,Ou (λ _ h=>h) hz hb k6⟩
 | some z=>
  obtain⟨x,rs,rows⟩:=z;have hx:=hg.b x rs rows rfl;obtain⟨lx,csx,ex,frx,x1,x2,x3,x4,x5,x6⟩:=M.H.own x _ hx;have hS:∀ b,S b→S b∨b=lx.blk:=λ _ h=>.inl h;have hz:∀ y rs' rows',some (x,rs,rows)=some (y,rs',rows')→∀ l,β y=some l→(S l.blk∨l.blk=lx.blk)∧∃ cs e fr,w.heap[l.blk]?=some (.cells cs e fr)∧AN S w β l cs (.arr rows' rs'):=λ y rs' rows' h l hl=>by
   simp only[Option.some.injEq,Prod.mk.injEq]at h;obtain⟨rfl,rfl,rfl⟩:=h;rw[x1]at hl;injection hl with hl;subst hl;exact⟨.inr rfl,csx,ex,frx,x2,x6⟩
  refine⟨λ b=>S b∨b=lx.blk,λ i=>GQ hS hz (hg.t i) (M.T i),⟨λ s blk hs=>?_,λ s s' l l' h1 h2=>M.H.inj s s' l l' (hg.old s h1) (hg.old s' h2),λ b hb=>hb.elim (M.H.lt b) λ e=>e ▸ fP x2,M.H.big⟩,M.B,by rw[hg.n];exact M.dom,M.df,M.sz,λ g cells hgc=>(M.G g cells hgc).mono hS (Evo.refl _ _) (LT.refl _),λ b hb=>hb.elim (M.nw b) λ e=>.inr (e ▸ x4),V.frz M.iv x1⟩;obtain⟨hne,blk0,h0,hb⟩:=hg.h s blk hs;obtain⟨l,cs,e,fr,k1,k2,k3,k4,k5,k6⟩:=M.H.own s blk0 h0;refine⟨l,cs,e,fr,k1,k2,k3,k4,λ h=>h.elim k5 λ q=>?_,Ou hS hz hb k6⟩;exact hne x rs rows rfl (M.H.inj s x l lx (by rw[h0];simp) (by rw[hx];simp) k1 x1 q)
theorem nG{st st':ASt}(hg:Ghosts st st'):∀ {a:Act} {w:World} {S:Nat→Prop} {β:Bt},SimD C V w0 S0 N (· <st.n) st.t st.h a w S β→∃ S',SimD C V w0 S0 N (· <st'.n) st'.t st'.h a w S' β:=by
 induction hg with
 |refl=>intro a w S β M;exact⟨S,M⟩
 |step fz h k ih=>intro a w S β M;obtain⟨S',M'⟩:=Ku h M;exact ih M'
theorem CtxOk.noH(h:CtxOk C):CtxOk C.noH:=⟨h.ty,h.mixed,λ _ _ _ _ _ h=>h.elim⟩
theorem SimD.noH{D:Nat→Prop}{t:Nat→AV}{h:AH}{a:Act}{w:World}{S:Nat→Prop}{β:Bt}(M:SimD C V w0 S0 N D t h a w S β):SimD C.noH V w0 S0 N D t h a w S β:=⟨M.T,M.H,M.B,M.dom,M.df,M.sz,M.G,M.nw,M.iv⟩
theorem SimD.ofNoH{D:Nat→Prop}{t:Nat→AV}{h:AH}{a:Act}{w:World}{S:Nat→Prop}{β:Bt}(M:SimD C.noH V w0 S0 N D t h a w S β):SimD C V w0 S0 N D t h a w S β:=⟨M.T,M.H,M.B,M.dom,M.df,M.sz,M.G,M.nw,M.iv⟩
theorem Cn(hC:CtxOk C)(nH:NoH C){ops:Array Oper}(hb:uO N ops.toList=true){K:ASt→Prop}{Q:Exit→Act→World→Prop}{n:Nat}(hQ:∀ st a' w' S' β',K st→SimD C V w0 S0 N (· <st.n) st.t st.h a' w' S' β'→Q .normal a' w'):
  ∀ (fuel:Nat) (listed:Array Bool) (t:Nat→AV) (h:AH) (a:Act) (w:World) (S:Nat→Prop) (β:Bt),listed.size=ops.size→Vn C (bT C) ops K fuel listed ⟨t,h,n⟩→SimD C V w0 S0 N (λ s=>s<n∨∃ i,listed.getD i false=true∧s=n+i) t h a w S β→wpAny C.P .any ops Q fuel listed a w
 | 0,listed,t,h,a,w,S,β,hsz,hr,M=>by
  refine⟨hr.1,hQ _ a w S β hr.2 ⟨M.T,M.H,M.B,λ y l hy=>?_,M.df,M.sz,M.G,M.nw,M.iv⟩⟩;show y<n+ops.size;rcases M.dom y l hy with h|⟨i,hi,rfl⟩
  ·omega
  ·rcases al_Nat_lt_or_ge i listed.size with k|k
   ·omega
   ·rw[aI,fV k]at hi;cases hi
 | fuel+1,listed,t,h,a,w,S,β,hsz,hr,M=>by
  refine⟨λ hn=>absurd hn hr.1,λ i hi=>?_⟩;have hall:∀ (l:List Nat),forL (Xy C (bT C) ops (Vn C (bT C) ops K fuel) listed t h n) l→∀ i∈l,Xy C (bT C) ops (Vn C (bT C) ops K fuel) listed t h n i:=by
   intro l
   induction l with
   |nil=>intro _ i hi;cases hi
   |cons x l ih=>
    intro hl i hi;rcases al_List_mem_cons.1 hi with rfl|hi
    ·exact hl.1
    ·exact ih hl.2 i hi
  have h1:=hall _ hr.2 i hi;obtain⟨k1,o,ho,_⟩:=mem_ready.1 hi;have hil:i<listed.size:=by have:=(Du.1 ho).1;omega
  have hni:listed.getD i false=false:=by
   rw[aI,aO hil]at k1⊢;exact k1
  have hoi:ops.toList[i]?=some o:=by rw[bF];exact ho
  have hmem:o∈ops.toList:=aB hoi;have hs:β (n+i)=none:=by
   cases hq:β (n+i)with
   |none=>rfl
   | some l=>
    rcases M.dom _ _ hq with h|⟨j,hj,he⟩
    ·omega
    ·have:j=i:=by omega
     subst this;rw[hni]at hj;cases hj
  simp only[Xy,ho]at h1;obtain⟨x,h',e1,e2⟩:=(step_inv h1).resolve_right λ⟨_,f,args,Post,_,hH,_⟩=>nH _ _ _ _ _ hH;unfold wpOp;simp only[ho];refine wZ hC M hs rfl e1 (vV hb hmem) (λ i pol d _ hd=>Bs hb i d hd) λ a' w' S' β' M'=>?_;refine Cn hC nH hb hQ fuel _ _ h' a' w' S' β' (by simp[hsz]) e2 ⟨M'.T,M'.H,M'.B,λ y l hy=>?_,M'.df,M'.sz,M'.G,M'.nw,M'.iv⟩;have hset:∀ j,(listed.setIfInBounds i true).getD j false=true↔listed.getD j false=true∨j=i:=λ j=>by
   by_cases hj:j=i
   ·subst hj;rw[aI,cV hil];simp
   ·rw[aI,cU (Ne.symm hj), ←aI];simp[hj]
  rcases M'.dom y l hy with (h|⟨j,hj,he⟩)|h
  ·exact .inl h
  ·exact .inr ⟨j,(hset j).2 (.inl hj),he⟩
  ·exact .inr ⟨i,(hset i).2 (.inr rfl),h⟩
theorem Cp(hC:CtxOk C):∀ (c:Code),uD N c=true→∀ (st:ASt) (Q:AEx→ASt→Prop),fZ C (bT C) c st Q→∀ (a:Act) (w:World) (S:Nat→Prop) (β:Bt),SimD C V w0 S0 N (· <st.n) st.t st.h a w S β→
  c.wp C.P (Aft C V w0 S0 N Q) a w:=by
 intro c
 induction c with
 |skip=>intro _ st Q hq a w S β M;exact wp_skip ⟨.normal,st,S,β,rfl,hq,M⟩
 |label l=>intro _ st Q hq a w S β M;exact wp_label ⟨.normal,st,S,β,rfl,hq,M⟩
 |exit id=>intro _ st Q hq a w S β M;exact wp_exit ⟨.exit id,st,S,β,rfl,hq,M⟩
 |ret=>intro _ st Q hq a w S β M;exact wp_ret ⟨.ret,st,S,β,rfl,hq,M⟩
 | region id ops dr=>
  intro hk st Q hq a w S β M;simp only[uD,aH]at hk;obtain⟨t,h,n⟩:=st;simp only[fZ]at hq
  cases dr with
  |false=>
   simp only[tF]at hq;refine wp_region ?_;have:=DS (Q:=Aft C V w0 S0 N Q) (K:=Q .normal) hC (ops:=ops) rfl hk.1 ops.toList 0 t h a w S β rfl hq M (λ st' a' w' S' β' hk' M'=>⟨.normal,st',S',β',rfl,hk',M'⟩);rw[show List.range' 0 ops.toList.length=List.range ops.size by rw[nZ,cW]]at this
   exact this
  | true=>
   refine wp_region_any hC.mixed ?_;simp only[eS]at hq
   cases hl:Fo ops.toList with
   |true=>
    rw[hl]at hq;rcases hq with hq|⟨_,hq⟩
    rotate_left
    ·exact DP (C:=C.noH) (V:=V) hC.noH (λ _ _ _ _ _ h=>h) hk.1 hq (SimD.noH M) (λ st' a' w' S' β' hk' M'=>⟨.normal,st',S',β',rfl,hk',SimD.ofNoH M'⟩)
    have M':=M.drawn (w.drawn+1)
    refine Cn (C:=C.noH) (V:=V) hC.noH (λ _ _ _ _ _ h=>h) hk.1 (λ st' a' w' S' β' hk' M'=>⟨.normal,st',S',β',rfl,hk',SimD.ofNoH M'⟩) ops.size _ t h a _ S β (by simp) hq ⟨M'.T,M'.H,M'.B,λ y l hy=>.inl (M'.dom y l hy),M'.df,M'.sz,M'.G,M'.nw,M'.iv⟩
   |false=>
   rw[hl]at hq;have hd:Ja ops.toList=true:=by simp only[Fo,dW,pG]at hl;exact hl.2
   exact FP (C:=C.noH) (V:=V) hC.noH (λ _ _ _ _ _ h=>h) hk.1 hd hq (SimD.noH M) (λ st' a' w' S' β' hk' M'=>⟨.normal,st',S',β',rfl,hk',SimD.ofNoH M'⟩)
 | seq x y ihx ihy=>
  intro hk st Q hq a w S β M;simp only[uD,aH]at hk;simp only[fZ]at hq;rcases hq with hq|hq|hq
  ·refine wp_seq (wp_mono (ihx hk.1 st _ hq a w S β M) ?_);rintro e a' w' ⟨e',st',S',β',rfl,h1,h2⟩
   cases e' with
   |normal=>exact ihy hk.2 st' Q h1 a' w' S' β' h2
   |exit i=>exact⟨.exit i,st',S',β',rfl,h1,h2⟩
   |ret=>exact⟨.ret,st',S',β',rfl,h1,h2⟩
  ·refine wp_seq (wp_mono (ihx hk.1 st _ hq a w S β M) ?_);rintro e a' w' ⟨e',st',S',β',rfl,h1,h2⟩
   cases e' with
   |normal=>
    obtain⟨st2,g1,g2⟩:=h1;obtain⟨S2,h3⟩:=nG g1 h2
    exact ihy hk.2 st2 Q g2 a' w' S2 β' h3
   |exit i=>exact⟨.exit i,st',S',β',rfl,h1,h2⟩
   |ret=>exact⟨.ret,st',S',β',rfl,h1,h2⟩
  ·refine wp_seq (wp_mono (ihx hk.1 st _ hq a w S β M) ?_);rintro e a' w' ⟨e',st',S',β',rfl,h1,h2⟩
   cases e' with
   |normal=>
    obtain⟨st2,g1,st3,σ,hW,hf,g2⟩:=h1;obtain⟨S2,h3⟩:=nG g1 h2
    exact ihy hk.2 st3 Q g2 a' w' S2 _ (pJ hW hf h3)
   |exit i=>exact⟨.exit i,st',S',β',rfl,h1,h2⟩
   |ret=>exact⟨.ret,st',S',β',rfl,h1,h2⟩
 | cond c x y ihx ihy=>
  intro hk st Q hq a w S β M;simp only[uD,aH]at hk;simp only[fZ]at hq;split at hq
  ·rename_i b hb;obtain⟨h1,h2⟩:=hq;have hv:=sK M c;rw[hb]at hv;refine wp_cond_split (lH hv) (λ ht=>ihx hk.1 st Q (h1 ht) a w S β M) (λ hf=>ihy hk.2 st Q (h2 hf) a w S β M)
  ·exact hq.elim
 | block id b ih=>
  intro hk st Q hq a w S β M;simp only[uD]at hk;simp only[fZ]at hq;refine wp_block (wp_mono (ih hk st _ hq a w S β M) ?_);rintro e a' w' ⟨e',st',S',β',rfl,h1,h2⟩
  cases e' with
  |normal=>exact⟨.normal,st',S',β',rfl,h1,h2⟩
  |ret=>exact⟨.ret,st',S',β',rfl,h1,h2⟩
  | exit i=>
   show Exit.inBlock id _ (.exit i) a' w';simp only at h1;simp only[Exit.inBlock];by_cases hi:i=id
   ·subst hi;rw[if_pos rfl];rw[show Nat.beq i i=true from mY i]at h1;exact⟨.normal,st',S',β',rfl,h1,h2⟩
   ·rw[if_neg hi];have:Nat.beq i id=false:=by rw[←eO];exact λ e=>hi (aK e)
    rw[this]at h1
    exact⟨.exit i,st',S',β',rfl,h1,h2⟩
 | loop b ih=>
  intro hk st Q hq a w S β M;simp only[uD]at hk;simp only[fZ]at hq;obtain⟨I,μ,st0,σ,hw,hf0,h0,round⟩:=hq;have key:∀ (m:Nat) (st:ASt) (a:Act) (w:World) (S:Nat→Prop) (β:Bt),μ st=m→I st→SimD C V w0 S0 N (· <st.n) st.t st.h a w S β→∀ (fb:Frame) (k:List Item) (cs:List Frame),
    ∃ e a' w',Aft C V w0 S0 N Q e a' w'∧Arrives C.P (lone (fb.at a (.code b:: .inLoop b::k)) cs w) fb k cs e a' w':=by
   intro m
   induction m using Nat.strongRecOn with
   | _ m ihm=>
    intro st a w S β hm hI M fb k cs;obtain⟨e,a₁,w₁,hq,harr⟩:=ih hk st _ (round st hI) a w S β M fb (.inLoop b::k) cs;obtain⟨e',st1,S1,β1,rfl,hq1,M1⟩:=hq
    cases e' with
    |normal=>
     obtain⟨stg,g1,stw,σ',W,hf1,hIw,hlt⟩:=hq1;obtain⟨S1,M1⟩:=nG g1 M1;obtain⟨e₂,a₂,w₂,hq₂,harr₂⟩:=ihm (μ stw) (hm ▸ hlt) stw a₁ w₁ S1 _ rfl hIw (pJ W hf1 M1) fb k cs
     exact⟨e₂,a₂,w₂,hq₂,.of_steps (Steps.trans harr (.one step_inLoop)) harr₂⟩
    |exit id=>exact⟨_,a₁,w₁,⟨.exit id,st1,S1,β1,rfl,hq1,M1⟩,.pass (x:=.inLoop b) rfl (λ _ _=>.inl (by simp[FL])) harr⟩
    |ret=>exact⟨_,a₁,w₁,⟨.ret,st1,S1,β1,rfl,hq1,M1⟩,.pass (x:=.inLoop b) rfl (λ _ _=>.inl (by simp[FL])) harr⟩
  intro fb k cs;obtain⟨e,a',w',hq,harr⟩:=key _ st0 a w S _ rfl h0 (pJ hw hf0 M) fb k cs
  exact⟨e,a',w',hq,.of_steps (.one step_loop) harr⟩
 |_=>intro _ st Q hq;exact hq.elim
def Sub(a b:AV):Prop:=∀ (S:Nat→Prop) (w:World) (v:Value),Rep S w noB a v→Rep S w noB b v
theorem Sub.refl(a:AV):Sub a a:=λ _ _ _ h=>h
def Ui(C:Ctx)(fn:Func)(r:AV)(st:ASt):Prop:=
 ∃ rs,resA C st fn.results.toList=some rs∧jU st.h (CO rs)∧eZ (uU st.h (CO rs))=true∧Sub (uU st.h (CO rs)) r
def Fin(C:Ctx)(fn:Func)(r:AV):AEx→ASt→Prop
 | .exit _,_=>False
 |_,st=>Ui C fn r st
def Xp(tmps:Array Value):ResultVar→Sem Value
 | .tmp t=>pure (tmps.getD t undef)
 | .cell a t=>do loadVar t (←asAddr (tmps.getD a undef))
theorem Nc(fn:Func)(tmps:Array Value):results fn tmps=(do let vs←fn.results.mapM (Xp tmps);pure (if h:vs.size=1 then vs[0]else .tuple vs)):=rfl
theorem xY{P:Program}{w:World}{tmps:Array Value}(l:List ResultVar)(vs:List Value)(h:(l.mapM (Xp tmps)).run P w=.ok vs w)(fn:Func)(hl:fn.results.toList=l):
  (results fn tmps).run P w=.ok (if h:vs.toArray.size=1 then vs.toArray[0]else .tuple vs.toArray) w:=by
 rw[Nc,Array.mapM_eq_mapM_toList,hl];simp only[Sem.run_bind,map_eq_pure_bind,Sem.run_pure];rw[h];simp only[Result.andThen_ok,Sem.run_pure]
theorem II(hC:CtxOk C){t:Nat→AV}{h:AH}{n:Nat}{a:Act}{w:World}{D:Nat→Prop}{S:Nat→Prop}{β:Bt}(M:SimD C V w0 S0 N D t h a w S β):∀ (l:List ResultVar) (rs:List AV),resA C ⟨t,h,n⟩ l=some rs→
  ∃ vs,(l.mapM (Xp a.tmps)).run C.P w=.ok vs w∧RepL S w β rs vs
 |[],rs,hr=>by simp only[resA]at hr;injection hr with hr;subst hr;exact⟨[],rfl,RepL.nil _ _ _⟩
 | .tmp i::l,rs,hr=>by
  simp only[resA]at hr;split at hr
  ·rename_i r hl;injection hr with hr;subst hr;obtain⟨vs,h1,h2⟩:=II hC M l r hl;exact⟨a.tmps.getD i undef::vs,by simp only[tG,Sem.run_bind,Xp,Sem.run_pure,Result.andThen_ok,h1],RepL.cons (M.T i) h2⟩
  ·cases hr
 | .cell c ty::l,rs,hr=>by
  simp only[resA]at hr;split at hr
  ·rename_i b col r hp hl;split at hr
   ·rename_i cells hb;split at hr
    ·rename_i x hx;injection hr with hr;subst hr;obtain⟨vs,h1,h2⟩:=II hC M l r hl;obtain⟨lo,cs,e,fr,k1,k2,k3⟩:=OO M.H hb;have hT:=M.T c;rw[hp]at hT;generalize hv:a.tmps.getD c undef=v at hT
     cases hT with
     |ptr _ _ l' hl'=>
     obtain rfl:l'=lo:=by rw[hl']at k1;exact Option.some.inj k1
     obtain⟨u,p1,p2⟩:=Bw hC k3 rfl hx;exact⟨u::vs,by simp only[tG,Sem.run_bind,Xp,hv,asAddr,Sem.run_pure,Result.andThen_ok,p1,h1],RepL.cons p2 h2⟩
    ·cases hr
   ·cases hr
  ·cases hr
theorem zH:∀ (args:List AV) (i:Nat),argsT args i=(args[i]?).getD .any
 |[],i=>by simp[argsT]
 |x::xs,0=>by simp[argsT]
 |x::xs,i+1=>by simp[argsT,zH xs i]
theorem bT.intro(hC:CtxOk C){f:FuncId}{fn:Func}{body:Code}{args:List AV}{r:AV}(hf:C.P.funcs[f]?=some fn)(hb:fn.body=some body)(hnm:(fn.name== "runtime.NumGoroutine")=false)
  (hN:uD fn.ntmps body=true) (hlen:Nat.ble args.length fn.ntmps=true) (hw:fZ C (bT C) body ⟨argsT args,λ _=>none,0⟩ (Fin C fn r)) (hdf:C.df=[]:=by rfl):bT C f args r:=by
 refine⟨⟨fn,hf,by rw[hb];rfl,hnm⟩,λ S w vs hS hG hargs=>?_⟩;have hlen:=aP hlen;refine calls_of_wp hf hb ?_;have M0:SimD C (Inv.any C.fr) w S fn.ntmps (· <(0:Nat)) (argsT args) (λ _=>none) {tmps:=vs.toArray++Array.replicate (fn.ntmps - vs.toArray.size) undef,defers:=[]} w S noB:=by
  have hl:vs.length=args.length:=hargs.1.symm;refine⟨λ i=>?_,⟨λ s blk h=>(by cases h),λ s s' l l' h=>absurd rfl h,hS,aC _⟩,Below.refl _ _,λ x l h=>(by cases h),hdf.symm,by simp;omega,hG,λ _ h=>.inl h,trivial⟩;rw[zH]
  cases ha:args[i]? with
  |none=>exact .any _
  | some x=>
   have hi:i<vs.length:=by rw[hl];exact (DK.1 ha).1
   have hv:vs[i]?=some vs[i]:=aA hi;have:(vs.toArray++Array.replicate (fn.ntmps - vs.toArray.size) undef).getD i undef=vs[i]:=by
    rw[aI,dN (by simpa using hi),dY,hv];rfl
   rw[this];exact hargs.2 i x _ ha hv
 refine wp_mono (Cp hC body hN ⟨argsT args,λ _=>none,0⟩ _ hw _ w S noB M0) ?_;rintro e a' w' ⟨e',st,S',β',rfl,hfin,M⟩;have fin:Ui C fn r st→a'.defers=[]∧∃ v,(results fn a'.tmps).run C.P w'=.ok v w'∧∃ v',Ending.returned v=.returned v'∧Below w.heap.size w w'∧Rep (λ b=>S b∨(w.heap.size≤b∧b<w'.heap.size)) w' noB r v':=by
  rintro ⟨rs,h1,h2,h3,h4⟩;obtain⟨t,h,n⟩:=st;obtain⟨us,g1,g2⟩:=II hC M _ rs h1;refine⟨M.df.trans hdf,_,xY _ us g1 fn rfl,_,rfl,M.B,?_⟩;have hret:Rep S' w' β' (CO rs) (if h:us.toArray.size=1 then us.toArray[0]else .tuple us.toArray):=by
   match rs,us,g2 with
   |[],us,g2=>
    have:us=[]:=bA g2.1.symm;subst this
    exact .tup [] #[] rfl λ i a u p=>by simp at p
   |[x],us,g2=>
    match us,g2 with
    |[u],g2=>simpa [CO]using g2.2 0 x u rfl rfl
    |[],g2=>exact absurd g2.1 (by simp)
    |_::_::_,g2=>exact absurd g2.1 (by simp)
   | x::y::zs,us,g2=>
    have hne: ¬ us.toArray.size=1:=by
     have:=g2.1;simp at this⊢;omega
    rw[dif_neg hne];exact .tup _ _ (by simpa using g2.1) λ i a u p q=>g2.2 i a u p (by simpa using q)
  have hd:=Br M.H hret h2;refine h4 _ _ _ ?_;exact (lO hd h3 noB).mono (λ b hb=>hb.elim (λ hb=>(M.nw b hb).imp id λ h=>⟨h,M.H.lt b hb⟩) .inr) (Evo.refl _ _) (LT.refl _)
 cases e' with
 |normal=>exact fin hfin
 |ret=>exact fin hfin
 |exit i=>exact hfin.elim
end
inductive TT where
 |leaf (k:Nat) (i:TI)
 |node (k:Nat) (l r:TT)
def TT.find:TT→Nat→Option TI
 | .leaf k i,t=>match Nat.beq t k with|true=>some i|false=>none
 | .node k l r,t=>match Nat.blt t k with|true=>l.find t|false=>r.find t
def RG(P:Program):TT→Prop
 | .leaf k i=>TyOk P k i
 | .node _ l r=>RG P l∧RG P r
theorem TT.find_ok{P:Program}:∀ (T:TT),RG P T→∀ t i,T.find t=some i→TyOk P t i
 | .leaf k i,h,t,i',hf=>by
  simp only[TT.find]at hf;split at hf
  ·rename_i hb;injection hf with hf;subst hf;rw[aK hb];exact h
  ·cases hf
 | .node k l r,h,t,i,hf=>by
  simp only[TT.find]at hf;split at hf
  ·exact TT.find_ok l h.1 t i hf
  ·exact TT.find_ok r h.2 t i hf
def Va(P:Program)(inf:TypeInfo)(z:Value)(i:TI):Bool:=
 inf.size==i.sz&&inf.bytes==i.bytes&&z.cells.size==i.sz&&Nat.blt 0 i.sz&&Nat.ble i.bytes 1000&&Xi z.cells.toList
theorem RH{P:Program}{t:TypeId}{i:TI}{inf:TypeInfo}{z:Value}(h1:P.info? t=some inf)(h2:inf.zero=some z)(h3:i.zero=Om z)(hc:Va P inf z i=true){d:TypeDesc}(hd:P.underlying t=some d)(hrow:d.isRow=i.ag)
  (hk:match i.kd with
  | .bool=>d=.bool
  | .int k=>d=.int k
  | .string=>d=.string
  | .slice e=>d=.slice e
  | .array n e=>d=.array n e
  | .struct fs=>∃ fields,d=.struct fields∧fields.toList.map (λ f=>(f.offset,f.type))=fs∧(fields.toList.all λ f=>match P.info? f.type with|some i=> !(i.size==0)|none=>false)=true
  |_=>True) (he:i.eq≠[]→Xq P t i.eq):TyOk P t i:=by
 simp only[Va,aH,pS]at hc;obtain⟨⟨⟨⟨⟨c1,c2⟩,c3⟩,c4⟩,c5⟩,c6⟩:=hc;refine⟨⟨inf,z,h1,c1,c2,h2,h3,c3,aP c4,aP c5⟩,λ inf' z' e1 e2 k u hu=>?_,⟨d,hd,hrow⟩,?_,he⟩
 ·rw[h1]at e1;injection e1 with e1;subst e1;rw[h2]at e2;injection e2 with e2;subst e2;exact Bv _ c6 k u (by simpa using hu)
 ·cases hkd:i.kd<;>rw[hkd]at hk<;>simp only at hk⊢ <;>first|(rw[hd,hk];done)|trivial|skip
  obtain⟨fields,rfl,g1,g2⟩:=hk;refine⟨fields,hd,g1,λ f hf=>?_⟩;have:=iO.1 g2 f hf;split at this
  ·rename_i inf' hi;exact⟨inf',hi,by simpa using this⟩
  ·cases this
theorem LM:∀ (ks:List CK) (xs ys:List Value) (b:Bool),eqVL ks xs ys=some b→xs.length=ks.length∧ys.length=ks.length
 |[],[],[],_,_=>⟨rfl,rfl⟩
 | k::ks,x::xs,y::ys,b,h=>by
  simp only[eqVL]at h;split at h
  ·rename_i a c h1 h2;obtain⟨e1,e2⟩:=LM ks xs ys c h2;exact⟨by simp[e1],by simp[e2]⟩
  ·cases h
 |[],[],_::_,_,h=>by simp[eqVL]at h
 |[],_::_,_,_,h=>by simp[eqVL]at h
 |_::_,[],_,_,h=>by simp[eqVL]at h
 |_::_,_::_,[],_,h=>by simp[eqVL]at h
theorem AU:∀ (ks js:List CK) (xs ys:List Value) (b:Bool),eqVL (ks++js) xs ys=some b→
  ∃ b1 b2,eqVL ks (xs.take ks.length) (ys.take ks.length)=some b1∧eqVL js (xs.drop ks.length) (ys.drop ks.length)=some b2∧b=(b1&&b2)
 |[],js,xs,ys,b,h=>⟨true,b,by simp[eqVL],by simpa using h,by simp⟩
 | k::ks,js,x::xs,y::ys,b,h=>by
  simp only[nV,eqVL]at h;split at h
  ·rename_i a c h1 h2;injection h with h;subst h;obtain⟨b1,b2,e1,e2,e3⟩:=AU ks js xs ys c h2;refine⟨a&&b1,b2,?_,by simpa using e2,by rw[e3,pT]⟩;simp only[bJ,oK,eqVL,h1,e1]
  ·cases h
 |_::_,_,[],_,_,h=>by simp[eqVL]at h
 |_::_,_,_::_,[],_,h=>by simp[eqVL]at h
def AW(P:Program)(K:TypeId→Option (List CK)):Nat→List Field→Option (List CK)
 |_,[]=>some []
 | off,f::fs=>match f.name== "_",f.offset==off,P.info? f.type,K f.type with
  |false,true,some inf,some ks=>match inf.size==ks.length,AW P K (off+ks.length) fs with
   |true,some js=>some (ks++js)
   |_,_=>none
  |_,_,_,_=>none
def cellK(P:Program):Nat→TypeId→Option (List CK)
 |0,_=>none
 | d+1,t=>match P.underlying t with
  |some .bool=>some [.b]
  |some (.int _)=>some [.i]
  |some .string=>some [.s]
  |some (.struct fs)=>match P.stoodInHeld t with|true=>none|false=>AW P (cellK P d) 0 fs.toList
  |some (.array n e)=>match P.info? e,cellK P d e with
   |some inf,some ks=>(match inf.size==ks.length with|true=>some (List.flatten (List.replicate n ks))|false=>none)
   |_,_=>none
  |_=>none
def FK(P:Program)(D:Nat)(t:TypeId)(ks:List CK):Prop:=∀ (xs ys:Array Value) (off:Nat) (b:Bool) (w:World),
 eqVL ks ((xs.toList.drop off).take ks.length) ((ys.toList.drop off).take ks.length)=some b→
 ∃ u v,(part t xs off).run P w=.ok u w∧(part t ys off).run P w=.ok v w∧(Op.equalIn D t u v).run P w=.ok b w
theorem LN{P:Program}{D:Nat}{K:TypeId→Option (List CK)}(hK:∀ t ks inf,K t=some ks→P.info? t=some inf→inf.size=ks.length→FK P D t ks):
  ∀ (fs:List Field) (off:Nat) (js:List CK) (xs ys:Array Value) (b:Bool) (w:World),AW P K off fs=some js→eqVL js (xs.toList.drop off) (ys.toList.drop off)=some b→
  (forIn fs ((none,()):Option Bool×PUnit) (λ f r=>do
    if f.name≠ "_" then
     if !(←Op.equalIn D f.type (←part f.type xs f.offset) (←part f.type ys f.offset))then pure (ForInStep.done (some false,()))else pure (ForInStep.yield (none,()))
    else pure (ForInStep.yield (none,())):Field→Option Bool×PUnit→Sem (ForInStep (Option Bool×PUnit)))).run P w=.ok (match b with|true=>(none,())|false=>(some false,())) w
 | [],off,js,xs,ys,b,w,hf,h=>by
  simp only[AW,Option.some.injEq]at hf;subst hf;have hb:b=true:=by
   cases hx:xs.toList.drop off<;>cases hy:ys.toList.drop off<;>rw[hx,hy]at h<;>simp[eqVL]at h<;>first|exact h|exact h.symm
  subst hb;rfl
 | f ::fs,off,js,xs,ys,b,w,hf,h=>by
  simp only[AW]at hf;split at hf
  ·rename_i inf ks h1 h2 h3 h4;split at hf
   ·rename_i js' h5 h6;injection hf with hf;subst hf;have e2:f.offset=off:=by simpa using h2
    have e5:inf.size=ks.length:=by simpa using h5
    have e1:f.name≠ "_" :=by simpa using h1
    obtain⟨b1,b2,g1,g2,g3⟩:=AU ks js' _ _ b h;obtain⟨u,v,p1,p2,p3⟩:=hK f.type ks inf h4 h3 e5 xs ys off b1 w g1;have IH:=LN hK fs (off+ks.length) js' xs ys b2 w h6 (by simpa [kV]using g2);simp only[List.forIn_cons,Sem.run_bind,e1,e2,ne_eq,not_false_eq_true,kW,p1,p2,p3,Result.andThen_ok]
    cases b1 with
    |false=>subst g3;simp
    |true=>
     simp only[lQ,bQ,iN,Sem.run_pure,Result.andThen_ok];rw[g3,eS];simpa only[ne_eq]using IH
   ·cases hf
  ·cases hf
theorem Xo{P:Program}{D:Nat}{t:TypeId}{K:TypeId→Option (List CK)}(hK:∀ t ks inf,K t=some ks→P.info? t=some inf→inf.size=ks.length→FK P D t ks)
  {fs:Array Field} (hu:P.underlying t=some (.struct fs)) (hst:P.stoodInHeld t=false) {ks:List CK} (hf:AW P K 0 fs.toList=some ks) {xs ys:Array Value} {b:Bool} (w:World) (h:eqVL ks xs.toList ys.toList=some b):
  (Op.equalIn (D+1) t (.agg xs) (.agg ys)).run P w=.ok b w:=by
 rw[Op.equalIn];have:=LN hK fs.toList 0 ks xs ys b w hf (by simpa using h);simp only[Sem.run_bind,run_underlying hu,Result.andThen_ok,show Sem.run P program w=.ok P w from rfl,hst,bQ,iN];rw[←Array.forIn_toList];simp only[ne_eq,Sem.run_bind]at this⊢;rw[this];cases b<;>rfl
theorem Kt{P:Program}{D:Nat}{e:TypeId}{ks:List CK}{inf:TypeInfo}(hi:P.info? e=some inf)(hsz:inf.size=ks.length)(hK:FK P D e ks):
  ∀ (m s:Nat) (xs ys:Array Value) (b:Bool) (w:World),eqVL (List.flatten (List.replicate m ks)) (xs.toList.drop (s * ks.length)) (ys.toList.drop (s * ks.length))=some b→
  (forIn (List.range' s m) ((none,()):Option Bool×PUnit) (λ i r=>do
    if !(←Op.equalIn D e (←part e xs (i * ks.length)) (←part e ys (i * ks.length)))then pure (ForInStep.done (some false,()))else pure (ForInStep.yield (none,())):Nat→Option Bool×PUnit→Sem (ForInStep (Option Bool×PUnit)))).run P w=.ok (match b with|true=>(none,())|false=>(some false,())) w
 | 0,s,xs,ys,b,w,h=>by
  have hb:b=true:=by
   simp only[List.replicate_zero,List.flatten_nil]at h;cases hx:xs.toList.drop (s * ks.length)<;>cases hy:ys.toList.drop (s * ks.length)<;>rw[hx,hy]at h<;>simp[eqVL]at h<;>first|exact h|exact h.symm
  subst hb;rfl
 | m+1,s,xs,ys,b,w,h=>by
  rw[List.replicate_succ,mM]at h;obtain⟨b1,b2,g1,g2,g3⟩:=AU ks _ _ _ b h;obtain⟨u,v,p1,p2,p3⟩:=hK xs ys (s * ks.length) b1 w g1;have IH:=Kt hi hsz hK m (s+1) xs ys b2 w (by rw[bZ,kP];simpa [kV]using g2);rw[nX];simp only[List.forIn_cons,Sem.run_bind,p1,p2,p3,Result.andThen_ok]
  cases b1 with
  |false=>subst g3;simp
  |true=>
   simp only[lQ,bQ,iN,Sem.run_pure,Result.andThen_ok];rw[g3,eS];exact IH
theorem LO{P:Program}:∀ (d D:Nat),d≤D→∀ t ks inf,cellK P d t=some ks→P.info? t=some inf→inf.size=ks.length→FK P D t ks
 |0,_,_,t,ks,_,h,_,_=>by simp[cellK]at h
 |d+1,0,hD,_,_,_,_,_,_=>by omega
 | d + 1,D+1,hD,t,ks,inf,h,hi,hsz=>by
  intro xs ys off b w he;simp only[cellK]at h;have sc:∀ (k:CK),ks=[k]→∃ u v,xs.toList[off]?=some u∧ys.toList[off]?=some v∧eqV k u v=some b:=by
   intro k hk;subst hk;obtain⟨l1,l2⟩:=LM _ _ _ _ he
   cases hx:(xs.toList.drop off)with
   |nil=>rw[hx]at l1;simp at l1
   | cons u us=>
    cases hy:(ys.toList.drop off)with
    |nil=>rw[hy]at l2;simp at l2
    | cons v vs=>
     rw[hx,hy]at he;simp only[bJ,cR,bR,oK,pU,eqVL]at he;refine⟨u,v,?_,?_,?_⟩
     ·have:(xs.toList.drop off)[0]?=some u:=by rw[hx];rfl
      simpa using this
     ·have:(ys.toList.drop off)[0]?=some v:=by rw[hy];rfl
      simpa using this
     ·split at he
      ·rename_i a c g1 g2;injection g2 with g2;subst g2;rw[g1];simpa using he
      ·cases he
  have pt:∀ (dd:TypeDesc) (zs:Array Value) (u:Value),P.underlying t=some dd→dd.isRow=false→zs.toList[off]?=some u→(part t zs off).run P w=.ok u w:=by
   intro dd zs u hu hr hz;have hz':zs[off]?=some u:=by simpa using hz
   unfold part isAgg;simp only[Sem.run_bind,run_underlying hu,Result.andThen_ok];cases dd<;>first|(simp[TypeDesc.isRow]at hr;done)|(simp[hz'])
  split at h
  ·rename_i hu;injection h with h;subst h;obtain⟨u,v,g1,g2,g3⟩:=sc .b rfl;refine⟨u,v,pt _ _ _ hu rfl g1,pt _ _ _ hu rfl g2,?_⟩;cases u<;>cases v<;>simp[eqV]at g3
   rw[Op.equalIn];simp only[Sem.run_bind,run_underlying hu,Result.andThen_ok,Sem.run_pure];simp[g3]
  ·rename_i k0 hu;injection h with h;subst h;obtain⟨u,v,g1,g2,g3⟩:=sc .i rfl;refine⟨u,v,pt _ _ _ hu rfl g1,pt _ _ _ hu rfl g2,?_⟩;cases u<;>cases v<;>simp only[eqV]at g3<;>try (cases g3;done)
   split at g3
   ·rename_i hk;have:=DV hk;subst this;rw[Op.equalIn];simp only[Sem.run_bind,run_underlying hu,Result.andThen_ok,kW,Sem.run_pure];simpa using g3
   ·cases g3
  ·rename_i hu;injection h with h;subst h;obtain⟨u,v,g1,g2,g3⟩:=sc .s rfl;refine⟨u,v,pt _ _ _ hu rfl g1,pt _ _ _ hu rfl g2,?_⟩;cases u<;>cases v<;>simp[eqV]at g3
   rw[Op.equalIn];simp only[Sem.run_bind,run_underlying hu,Result.andThen_ok,Sem.run_pure];simp[g3]
  ·rename_i fs hu;split at h
   ·cases h
   ·rename_i hst;have IH:∀ t ks inf,cellK P d t=some ks→P.info? t=some inf→inf.size=ks.length→FK P D t ks:=LO d D (by omega);have pa:∀ zs:Array Value,(part t zs off).run P w=.ok (.agg (zs.extract off (off+ks.length))) w:=by
     intro zs;unfold part isAgg sizeOf typeInfo;simp[run_underlying hu,hi,hsz]
    refine⟨_,_,pa xs,pa ys,Xo IH hu hst h w ?_⟩;simpa [nY,List.extract]using he
  ·rename_i n e hu;split at h
   ·rename_i inf' ks' h1 h2;split at h
    ·rename_i h3;injection h with h;have hs':inf'.size=ks'.length:=by simpa using h3
     have IH:FK P D e ks':=LO d D (by omega) e ks' inf' h2 h1 hs';have pa:∀ zs:Array Value,(part t zs off).run P w=.ok (.agg (zs.extract off (off+ks.length))) w:=by
      intro zs;unfold part isAgg sizeOf typeInfo;simp[run_underlying hu,hi,hsz]
     refine⟨_,_,pa xs,pa ys,?_⟩;rw[Op.equalIn];have hz:(sizeOf e).run P w=.ok ks'.length w:=by unfold sizeOf typeInfo;simp[h1,hs']
     have L:=Kt h1 hs' IH n 0 (xs.extract off (off+ks.length)) (ys.extract off (off+ks.length)) b w (by rw[h];simpa [nY,List.extract]using he);simp only[Sem.run_bind,run_underlying hu,Result.andThen_ok,hz];simp only[Std.Legacy.Range.forIn_eq_forIn_range',Std.Legacy.Range.size,Nat.sub_zero,Nat.add_one_sub_one,tM]
     (try simp only[Sem.run_bind]at L)
     rw[L];cases b<;>rfl
    ·cases h
   ·cases h
  ·cases h
theorem xX{P:Program}{d:Nat}{t:TypeId}{ks:List CK}(h:(match P.underlying t with
  |some (.struct fs)=>if (!P.stoodInHeld t&& !P.eqGuardType P.depth t)=true then AW P (cellK P d) 0 fs.toList else none
  |_=>none)=some ks) (hd:Nat.ble d 9999=true:=by rfl):Xq P t ks:=by
 intro xs ys b x y w he;split at h
 ·rename_i fs hu;split at h
  ·rename_i hc;simp only[aH,qE]at hc;have e1:(Op.equal t (.agg xs) (.agg ys)).run P w=.ok b w:=by
    unfold Op.equal;rw[show Op.maxDepth=9999+1 from rfl];exact Xo (LO d 9999 (aP hd)) hu hc.1 h w he
   have e2:∀ op,(op=.eql∨op=.neq)→(eqGuard op t x y (.agg xs) (.agg ys)).run P w=.ok () w:=by
    intro op ho;unfold eqGuard;rcases ho with rfl|rfl<;>simp[show Sem.run P program w=.ok P w from rfl,hc.2]
   constructor
   ·simp only[Sem.run_bind,e2 .eql (.inl rfl),Result.andThen_ok,binOp,e1,Sem.run_pure]
   ·simp only[Sem.run_bind,e2 .neq (.inr rfl),Result.andThen_ok,binOp,e1,Sem.run_pure]
  ·cases h
 ·cases h
theorem RF{P:Program}{d:Nat}{t e:TypeId}{n:Nat}{inf:TypeInfo}{ks ks':List CK}(hu:P.underlying t=some (.array n e))(h1:P.info? e=some inf)(h2:cellK P d e=some ks')(hs:inf.size=ks'.length)(h:List.flatten (List.replicate n ks')=ks)(hg:P.eqGuardType P.depth t=false)(hd:Nat.ble d 9999=true:=by rfl):Xq P t ks:=by
 intro xs ys b x y w he;have e1:(Op.equal t (.agg xs) (.agg ys)).run P w=.ok b w:=by
  unfold Op.equal;rw[show Op.maxDepth=9999+1 from rfl,Op.equalIn];have hz:(sizeOf e).run P w=.ok ks'.length w:=by unfold sizeOf typeInfo;simp[h1,hs]
  have L:=Kt h1 hs (LO d 9999 (aP hd) e ks' inf h2 h1 hs) n 0 xs ys b w (by rw[h];simpa using he);simp only[Sem.run_bind,run_underlying hu,Result.andThen_ok,hz];simp only[Std.Legacy.Range.forIn_eq_forIn_range',Std.Legacy.Range.size,Nat.sub_zero,Nat.add_one_sub_one,tM]
  (try simp only[Sem.run_bind]at L)
  rw[L];cases b<;>rfl
 have e2:∀ op,(op=.eql∨op=.neq)→(eqGuard op t x y (.agg xs) (.agg ys)).run P w=.ok () w:=by
  intro op ho;unfold eqGuard;rcases ho with rfl|rfl<;>simp[show Sem.run P program w=.ok P w from rfl,hg]
 constructor
 ·simp only[Sem.run_bind,e2 .eql (.inl rfl),Result.andThen_ok,binOp,e1,Sem.run_pure]
 ·simp only[Sem.run_bind,e2 .neq (.inr rfl),Result.andThen_ok,binOp,e1,Sem.run_pure]
def slotsF:List (Nat×AV)→Nat→AV
 |[],_=>.any
 |(i,x)::l,j=>match Nat.beq i j with|true=>x|false=>slotsF l j
def heapF:List (Nat×Blk)→AH
 |[],_=>none
 |(i,x)::l,j=>match Nat.beq i j with|true=>some x|false=>heapF l j
def WT(st:ASt)(n:Nat)(σ:Nat→Nat):List (Nat×AV)→Prop
 |[]=>True
 |(i,x)::l=>(st.t i=uV σ x∧nJ n x=true)∧WT st n σ l
def WH(st:ASt)(n:Nat)(σ:Nat→Nat):List (Nat×Blk)→Prop
 |[]=>True
 |(i,x)::l=>(Nat.blt i n=true∧st.h (σ i)=some (Fn σ x)∧tP n x=true)∧WH st n σ l
def LL(x:Nat):List Nat→Bool
 |[]=>true
 |y::l=>match Nat.beq x y with|true=>false|false=>LL x l
def DL:List Nat→Bool
 |[]=>true
 |x::l=>match LL x l with|true=>DL l|false=>false
theorem FG:∀ (l:List Nat) (x:Nat),LL x l=true→x ∉ l
 |[],_,_=>by simp
 | y::l,x,h=>by
  simp only[LL]at h;split at h
  ·cases h
  ·rename_i hb;have:x≠y:=λ e=>by subst e;simp at hb
   simp[this,FG l x h]
theorem FH{σ:Nat→Nat}:∀ (l:List Nat),DL (l.map σ)=true→∀ a∈l,∀ b∈l,σ a=σ b→a=b
 |[],_=>by simp
 | x::l,h=>by
  simp only[gO,DL]at h;split at h
  ·rename_i hf;have hn:=FG _ _ hf;have ih:=FH l h;intro a ha b hb e;rcases al_List_mem_cons.1 ha with rfl|ha
   ·rcases al_List_mem_cons.1 hb with hb|hb
    ·exact hb.symm
    ·exact absurd (sF.2 ⟨b,hb,e.symm⟩) hn
   ·rcases al_List_mem_cons.1 hb with hb|hb
    ·exact absurd (sF.2 ⟨a,ha,e.trans (congrArg σ hb)⟩) hn
    ·exact ih a ha b hb e
  ·cases h
theorem Weak.of_lists{st:ASt}{l:List (Nat×AV)}{hp:List (Nat×Blk)}{n:Nat}(σ:Nat→Nat)(ht:WT st n σ l)(hh:WH st n σ hp)(hi:DL ((hp.map (·.1)).map σ)=true):Weak st ⟨slotsF l,heapF hp,n⟩ σ:=by
 have keyH:∀ (hp:List (Nat×Blk)) s blk,heapF hp s=some blk→s∈hp.map (·.1):=by
  intro hp
  induction hp with
  |nil=>intro s blk h;simp[heapF]at h
  | cons p hp ih=>
   obtain⟨i,x⟩:=p;intro s blk h;simp only[heapF]at h;split at h
   ·rename_i hb;simp[aK hb]
   ·simp[ih s blk h]
 refine⟨λ i=>?_,λ s blk hs=>?_,λ s s' h1 h2 e=>?_⟩
 ·clear hh hi
  induction l with
  |nil=>exact .inl rfl
  |cons p l ih=>
   obtain⟨j,x⟩:=p;obtain⟨⟨h1,h2⟩,h3⟩:=ht;show slotsF _ _=_∨(_=uV σ (slotsF _ _)∧nJ n (slotsF _ _)=true);simp only[slotsF]
   cases hb:Nat.beq j i with
   |true=>exact .inr (by rw[←aK hb];exact⟨h1,h2⟩)
   |false=>exact ih h3
 ·clear ht hi
  induction hp with
  |nil=>cases hs
  | cons p hp ih=>
   obtain⟨j,x⟩:=p;obtain⟨⟨h1,h2,h3⟩,h4⟩:=hh
   change heapF _ _=_ at hs
   simp only[heapF]at hs
   cases hb:Nat.beq j s with
   |true=>
    rw[hb]at hs;injection hs with hs;subst hs;rw[←aK hb]
    exact⟨aP h1,h2,h3⟩
   |false=>rw[hb]at hs;exact ih h4 hs
 ·cases e1:heapF hp s with
  |none=>exact absurd e1 h1
  |some b1=>
   cases e2:heapF hp s' with
   |none=>exact absurd e2 h2
   |some b2=>exact FH _ hi s (keyH hp s b1 e1) s' (keyH hp s' b2 e2) e
section
variable {C:Ctx}{V:Inv C.fr}{R:FuncId→List AV→AV→Prop}
theorem Oo{h:AH}{s:Nat}{r:Res}{K K':AV→AH→Prop}(hk:∀ x h,K x h→K' x h)(hn:node C R h s r K):node C R h s r K':=by
 cases r<;>simp only[node]at hn⊢
 case ok=>exact hk _ _ hn
 case need=>exact .mk hn.1 (hk _ _ hn.2)
 case idx=>
  obtain⟨row,hr,h1⟩:=hn;refine .mk row hr ?_;split
  ·rename_i hx;rw[hx]at h1;exact hk _ _ h1
  ·rename_i hx;rw[hx]at h1;exact h1.elim
 case fx=>exact .mk hn.1 (hk _ _ hn.2)
 case idxfx=>
  obtain⟨row,hr,h1⟩:=hn;refine .mk row hr ?_;split
  ·rename_i hx;rw[hx]at h1;exact hk _ _ h1
  ·rename_i hx;rw[hx]at h1;exact h1.elim
 case str=>obtain⟨l,h1,h2⟩:=hn;exact .mk l h1 (hk _ _ h2)
 case call=>
  rcases hn with hn|hn
  ·obtain⟨x,a,b,c,d,e⟩:=hn;exact .inl (.mk x a b c d (hk _ _ e))
  ·obtain⟨Post,a,b⟩:=hn;exact .inr (.mk Post a λ r h' hP=>hk _ _ (b r h' hP))
theorem FI{h:AH}{g:Bool}{r:Res}{K K':AV→AH→Prop}(hk:∀ x h,K x h→K' x h)(hn:Dk C R h g r K):Dk C R h g r K':=by
 cases r<;>simp only[Dk]at hn⊢
 case ok=>exact hk _ _ hn
 case need=>exact .mk hn.1 (hk _ _ hn.2)
 case idx=>
  obtain⟨row,hr,h1⟩:=hn;refine .mk row hr ?_;split
  ·rename_i hx;rw[hx]at h1;exact hk _ _ h1
  ·rename_i hx;rw[hx]at h1;exact h1.elim
 case str=>obtain⟨l,h1,h2⟩:=hn;exact .mk l h1 (hk _ _ h2)
 case call=>obtain⟨x,a,b,c,d,e⟩:=hn;exact .mk x a b c d (hk _ _ e)
theorem Nb{r:Res}{K K':AV→AH→Prop}(hk:∀ x h,K x h→K' x h)(hn:Np r K):Np r K':=by
 cases r<;>simp only[Np]at hn⊢
 case fx=>exact .mk hn.1 (hk _ _ hn.2)
theorem FJ{all:List Oper}{o:Oper}{s:Nat}{t:Nat→AV}{h:AH}{K K':AV→AH→Prop}(hk:∀ x h,K x h→K' x h)(hn:wK C R all o s t h K):wK C R all o s t h K':=by
 unfold wK at hn⊢;split
 ·rename_i hg;rw[hg]at hn;exact Oo hk hn
 ·rename_i i pol hg;rw[hg]at hn;simp only at hn;split
  ·rename_i hd;rw[hd]at hn;exact hn
  ·rename_i d hd;rw[hd]at hn;simp only at hn;split
   ·rename_i hv;rw[hv]at hn;exact hn
   ·rename_i g hv;rw[hv]at hn;simp only at hn;split
    ·rename_i hc;rw[hc]at hn;exact hn.imp (FI hk) λ q=>⟨q.1,Nb hk q.2⟩
    ·rename_i c hc;rw[hc]at hn;exact .mk hn.1 (FI hk hn.2)
theorem DM{all:List Oper}{K K':ASt→Prop}(hk:∀ st,K st→K' st):∀ (l:List Oper) (j:Nat) (st:ASt),kX C R all l j st K→kX C R all l j st K'
 |[],_,_,h=>hk _ h
 |_::l,j,_,h=>FJ (λ _ _ q=>DM hk l (j+1) _ q) h
theorem ID{α:Type}{P P':α→Prop}(h:∀ x,P x→P' x):∀ l,forL P l→forL P' l
 |[],_=>trivial
 |x::l,k=>⟨h x k.1,ID h l k.2⟩
theorem IE{ops:Array Oper}{K K':ASt→Prop}(hk:∀ st,K st→K' st):∀ (fuel:Nat) (listed:Array Bool) (st:ASt),Vn C R ops K fuel listed st→Vn C R ops K' fuel listed st
 |0,_,_,h=>⟨h.1,hk _ h.2⟩
 | fuel+1,listed,st,h=>⟨h.1,ID (λ i q=>by
   unfold Xy at q⊢;split
   ·rename_i o ho;rw[ho]at q;exact FJ (λ _ _ q=>IE hk fuel _ _ q) q
   ·rename_i ho;rw[ho]at q;exact q) _ h.2⟩
theorem kU:∀ (c:Code) (st:ASt) (Q Q':AEx→ASt→Prop),(∀ e st,Q e st→Q' e st)→fZ C R c st Q→fZ C R c st Q'
 | .skip,_,_,_,hq,h=>hq _ _ h
 | .label _,_,_,_,hq,h=>hq _ _ h
 | .region _ ops dr,_,_,_,hq,h=>by
  simp only[fZ]at h⊢;split
  ·rename_i hb;rw[hb]at h;exact h.elim (λ h=>.inl (IE (λ st q=>hq _ st q) _ _ _ h)) λ h=>.inr ⟨h.1,DM (λ st q=>⟨q.1,hq _ st q.2⟩) _ _ _ h.2⟩
  ·rename_i hb;rw[hb]at h;exact DM (λ st q=>hq _ st q) _ _ _ h
 | .seq a b,st,Q,Q',hq,h=>h.imp
  (λ h=>kU a st _ _ (λ e st' k=>by
   cases e with
   |normal=>exact kU b st' Q Q' hq k
   |exit i=>exact hq _ _ k
   |ret=>exact hq _ _ k) h)
  (λ h=>h.imp (λ h=>kU a st _ _ (λ e st' k=>by
   cases e with
   |normal=>obtain⟨st2,g,k⟩:=k;exact .mk st2 g (kU b st2 Q Q' hq k)
   |exit i=>exact hq _ _ k
   |ret=>exact hq _ _ k) h)
   (λ h=>kU a st _ _ (λ e st' k=>by
   cases e with
   |normal=>obtain⟨st2,g,st3,σ,h1,h2,k⟩:=k;exact .mk st2 g (.mk st3 σ h1 h2 (kU b st3 Q Q' hq k))
   |exit i=>exact hq _ _ k
   |ret=>exact hq _ _ k) h))
 | .cond c x y,st,Q,Q',hq,h=>by
  simp only[fZ]at h⊢;split
  ·rename_i b hv;rw[hv]at h;obtain⟨h1,h2⟩:=h;exact .mk (λ e=>kU x st Q Q' hq (h1 e)) (λ e=>kU y st Q Q' hq (h2 e))
  ·rename_i hv;split at h
   ·rename_i b hv';exact absurd hv' (hv b)
   ·exact h
 | .block id b,st,Q,Q',hq,h=>kU b st _ _ (λ e st' k=>by
   cases e with
   |normal=>exact hq _ _ k
   |exit i=>
    simp only at k⊢;split
    ·rename_i hb;rw[hb]at k;exact hq _ _ k
    ·rename_i hb;rw[hb]at k;exact hq _ _ k
   |ret=>exact hq _ _ k) h
 | .loop b,st,Q,Q',hq,h=>by
  obtain⟨I,μ,st0,σ,hw,hf,h0,round⟩:=h;exact .mk I μ st0 σ hw hf h0 λ st' hi=>kU b st' _ _ (λ e st'' k=>by
   cases e with
   |normal=>exact k
   |exit i=>exact hq _ _ k
   |ret=>exact hq _ _ k) (round st' hi)
 | .exit id,_,_,_,hq,h=>hq _ _ h
 | .ret,_,_,_,hq,h=>hq _ _ h
end
theorem rH{C:Ctx}{R:FuncId→List AV→AV→Prop}{b:Code}{st:ASt}{Q:AEx→ASt→Prop}{κ:Type}(S:κ→ASt)(G:κ→Prop)(μ:κ→Nat)(k0:κ)(σ:Nat→Nat)(hw:Weak st (S k0) σ)(hf:keepB C.fr σ (S k0).n=true)(h0:G k0)
  (round:∀ k,G k→fZ C R b (S k) (λ e st'=>match e with| .normal=>GhostN st' (λ stg=>∃ k' σ,Weak stg (S k') σ∧keepB C.fr σ (S k').n=true∧G k'∧μ k'<μ k)|e=>Q e st')):fZ C R (.loop b) st Q:=by
 show LoopN C.fr (fZ C R b) st Q
 classical
 have least:∀ (st:ASt) (n:Nat) (k:κ),G k→st=S k→μ k≤n→∃ k,G k∧st=S k∧∀ k',G k'→st=S k'→μ k≤μ k':=by
  intro st n
  induction n with
  |zero=>intro k h1 h2 h3;exact⟨k,h1,h2,λ k' _ _=>by omega⟩
  |succ n ih=>
   intro k h1 h2 h3;by_cases hc:∃ k',G k'∧st=S k'∧μ k'≤n
   ·obtain⟨k',p,q,r⟩:=hc;exact ih k' p q r
   ·exact⟨k,h1,h2,λ k' p q=>aT (kG (aL h3 (Nat.lt_of_not_le λ r=>hc ⟨k',p,q,r⟩)))⟩
 have hl:∀ st:ASt,(∃ k,G k∧st=S k)→∃ k,G k∧st=S k∧∀ k',G k'→st=S k'→μ k≤μ k':=λ st ⟨k,p,q⟩=>least st (μ k) k p q (aC _)
 let M:ASt→Nat:=λ st=>open Classical in if h:∃ k,G k∧st=S k then μ (Classical.choose (hl st h))else 0
 have hM:∀ st k,G k→st=S k→M st≤μ k:=by
  intro st k p q;have h:∃ k,G k∧st=S k:=⟨k,p,q⟩;show dite _ _ _≤_;rw[dif_pos h];exact (mX (hl st h)).2.2 k p q
 refine .mk (λ st=>∃ k,G k∧st=S k) M (S k0) σ hw hf ⟨k0,h0,rfl⟩ ?_;rintro st' h;have e:M st'=μ (Classical.choose (hl st' h)):=dif_pos h;obtain⟨p,q,r⟩:=mX (hl st' h);generalize Classical.choose (hl st' h)=k at e p q r;subst q;have:=round k p;refine kU b _ _ _ (λ e' st'' hq=>?_) this
 cases e' with
 |normal=>
  obtain⟨stg,g,k',σ',h1,hf',h2,h3⟩:=hq
  exact .mk stg g ⟨S k',σ',h1,hf',⟨k',h2,rfl⟩,by rw[e];exact bI (hM _ k' h2 rfl) h3⟩
 |exit i=>exact hq
 |ret=>exact hq
theorem oE{C:Ctx}{R:FuncId→List AV→AV→Prop}{b:Code}{st:ASt}{Q:AEx→ASt→Prop}{κ:Type}(S:κ→ASt)(G:κ→Prop)(μ:κ→Nat)(k0:κ)(σ:Nat→Nat)(hw:Weak st (S k0) σ)(h0:G k0)
  (round:∀ k,G k→fZ C R b (S k) (λ e st'=>match e with| .normal=>∃ k' σ,Weak st' (S k') σ∧G k'∧μ k'<μ k|e=>Q e st')) (hfr:C.fr=0:=by rfl):fZ C R (.loop b) st Q:=by
 refine rH S G μ k0 σ hw (by rw[hfr];rfl) h0 λ k hk=>kU b _ _ _ (λ e st' q=>?_) (round k hk)
 cases e with
 |normal=>obtain⟨k',σ',h1,h2,h3⟩:=q;exact .mk st' (.refl _) ⟨k',σ',h1,by rw[hfr];rfl,h2,h3⟩
 |exit i=>exact q
 |ret=>exact q
def YX:List AV→Option (List Value)
 |[]=>some []
 | .v x::cs=>match YX cs with|some l=>some (x::l)|none=>none
 |_::_=>none
def RE:AV→Option Value
 | .v x=>some x
 | .agg cs=>match YX cs with|some l=>(match Xi l with|true=>some (.agg l.toArray)|false=>none)|none=>none
 |_=>none
def IF:List AV→Option (List Value)
 |[]=>some []
 |x::cs=>match RE x,IF cs with|some u,some l=>some (u::l)|_,_=>none
theorem GL:∀ (cs:List AV) (l:List Value),YX cs=some l→cs=l.map .v
 |[],l,h=>by injection h with h;subst h;rfl
 | c::cs,l,h=>by
  cases c<;>simp only[YX]at h<;>try (cases h;done)
  split at h
  ·rename_i l' hl;injection h with h;subst h;rw[GL cs l' hl];rfl
  ·cases h
section
variable {S:Nat→Prop}{w:World}{β:Bt}
theorem GM{a:AV}{u:Value}(h:RE a=some u):Rep S w β a u:=by
 cases a<;>simp only[RE]at h<;>try (cases h;done)
 case v x=>injection h with h;subst h;exact .v _
 case agg cs=>
  split at h
  ·rename_i l hl;split at h
   ·rename_i ho;injection h with h;subst h;have:=GL cs l hl;subst this;refine .agg _ _ (by simp) (λ i u hu=>Bv _ ho i u (by simpa using hu)) λ i a u h1 h2=>?_;have h2':l[i]?=some u:=by simpa using h2
    simp[h2']at h1;subst h1;exact .v _
   ·cases h
  ·cases h
theorem Oq{a:AV}{u v:Value}(h:RE a=some u)(hr:Rep S w β a v):v=u:=by
 cases a<;>simp only[RE]at h<;>try (cases h;done)
 case v x=>injection h with h;subst h;cases hr;rfl
 case agg cs=>
  split at h
  ·rename_i l hl;split at h
   ·injection h with h;subst h;have:=GL cs l hl;subst this
    cases hr with
    | agg _ vs hl1 h1 hh=>
     congr 1;apply Array.ext
     ·simpa using hl1.symm
     ·intro i p q;have p1:vs[i]?=some vs[i]:=aO p;have q1:i<l.length:=by simpa using q
      have:=hh i (.v l[i]) vs[i] (by simp[q1]) p1;have:=lH this;rw[this];simp
   ·cases h
  ·cases h
theorem GN:∀ {args:List AV} {vs:List Value},IF args=some vs→args.length=vs.length
 |[],vs,h=>by injection h with h;subst h;rfl
 | x::args,vs,h=>by
  simp only[IF]at h;split at h
  ·rename_i u l h1 h2;injection h with h;subst h;simp[GN h2]
  ·cases h
theorem GO:∀ {args:List AV} {vs:List Value},IF args=some vs→∀ (i:Nat) a u,args[i]?=some a→vs[i]?=some u→RE a=some u
 |[],vs,h,i,a,u,h1,_=>by simp at h1
 | x::args,vs,h,i,a,u,h1,h2=>by
  simp only[IF]at h;split at h
  ·rename_i u' l g1 g2;injection h with h;subst h
   cases i with
   |zero=>simp at h1 h2;subst h1;subst h2;exact g1
   |succ i=>exact GO g2 i a u (by simpa using h1) (by simpa using h2)
  ·cases h
theorem Dw{args:List AV}{vs:List Value}(h:IF args=some vs):RepL S w β args vs:=
 ⟨GN h,λ i a u h1 h2=>GM (GO h i a u h1 h2)⟩
theorem Ks{args:List AV}{vs us:List Value}(h:IF args=some vs)(hr:RepL S w β args us):us=vs:=by
 apply dL;intro i;have l1:=GN h;have l2:args.length=us.length:=hr.1;rcases al_Nat_lt_or_ge i args.length with k|k
 ·have e1:args[i]?=some args[i]:=aA k;have e2:us[i]?=some us[i]:=aA (by omega);have e3:vs[i]?=some vs[i]:=aA (by omega);rw[e2,e3,Oq (GO h i _ _ e1 e3) (hr.2 i _ _ e1 e2)]
 ·rw[bM (by omega),bM (by omega)]
end
theorem okB{a b:Bool}(h:a=b):Res.ok (.v (.bool a))=.ok (.v (.bool b)):=by rw[h]
theorem okI{k:IntKind}{a b:Int}(h:a=b):Res.ok (.v (.int k a))=.ok (.v (.int k b)):=by rw[h]
theorem Fh{p:Prop}{k:IntKind}{a b:Int}(h:a=b):Res.need p (.v (.int k a))=.need p (.v (.int k b)):=by rw[h]
theorem eqN(x y:Nat):((x:Int)==(y:Int))=(x==y):=by rw[bP];simp only[pS];omega
theorem neN(x y:Nat):((x:Int) != (y:Int))=(x != y):=by simp only[bne,eqN]
theorem ltN(x y:Nat):decide ((x:Int)<(y:Int))=decide (x<y):=by simp only[Fe]
theorem leN(x y:Nat):decide ((x:Int)≤(y:Int))=decide (x≤y):=by simp only[Ff]
theorem gtN(x y:Nat):decide ((x:Int)>(y:Int))=decide (x>y):=ltN y x
theorem geN(x y:Nat):decide ((x:Int)≥(y:Int))=decide (x≥y):=leN y x
theorem IG{e B M:Nat}(h:e≤B)(hB:Nat.blt B M=true):((e % M:Nat):Int)=((e:Nat):Int):=by
 have:=aP hB;rw[qT (by omega)]
theorem Ug{x y B:Nat}(h:y≤B)(hB:Nat.ble B 4294967296=true):IntKind.wrap .u32 ((x:Int) - (y:Int))=(((x+4294967296 - y) % 4294967296:Nat):Int):=by
 have:=aP hB;simp only[IntKind.wrap,IntKind.signed,IntKind.bits];simp;omega
theorem wrap_i64{x:Int}(h1: -9223372036854775808≤x)(h2:x<9223372036854775808):IntKind.wrap .i64 x=x:=by
 simp only[IntKind.wrap,IntKind.signed,IntKind.bits];simp;omega
theorem bU{e B:Nat}(h:e≤B)(hB:Nat.blt B 9223372036854775808=true):IntKind.wrap .i64 ((e:Nat):Int)=((e:Nat):Int):=by
 have:=aP hB;exact wrap_i64 (by omega) (by omega)
theorem Uh{x B:Nat}(h:x≤B)(hB:Nat.ble B 4294967295=true):(BitVec.ofInt 32 (x:Int)).toNat=x:=by
 have:=aP hB;rw[BitVec.toNat_ofInt];omega
theorem Xm{x:Nat}(h:x<4294967296):IntKind.wrap .u32 (x:Int)=(x:Int):=(IG (e:=x) (B:=x) (M:=4294967296) (aC _) (jY h))
theorem Ot{x y B D:Nat}(hx:x≤B)(hy:y≤D)(hB:Nat.ble B 4294967295=true)(hD:Nat.ble D 4294967295=true):x ^^^ y≤4294967295:=
 aT (mH (n:=32) (kG (aL hx (aP hB))) (kG (aL hy (aP hD))))
theorem Xn{x y B D:Nat}(hx:x≤B)(hy:y≤D)(hB:Nat.ble B 4294967295=true)(hD:Nat.ble D 4294967295=true):
  IntKind.wrap .u32 (BitVec.ofInt (IntKind.bits .u32) (x:Int) ^^^ BitVec.ofInt (IntKind.bits .u32) (y:Int)).toNat=((x ^^^ y:Nat):Int):=by
 show IntKind.wrap .u32 (BitVec.ofInt 32 (x:Int) ^^^ BitVec.ofInt 32 (y:Int)).toNat=_;rw[BitVec.toNat_xor,Uh hx hB,Uh hy hD];exact Xm (kG (Ot hx hy hB hD))
theorem GP{C:Ctx}{fn:Func}{r:AV}{st:ASt}{rs:List AV}(h1:resA C st fn.results.toList=some rs)(h2:jU st.h (CO rs))(h3:eZ (uU st.h (CO rs))=true)(h4:uU st.h (CO rs)=r):Ui C fn r st:=
 ⟨rs,h1,h2,h3,h4 ▸ Sub.refl _⟩
theorem bT.of_flat{C:Ctx}{f:FuncId}{fn:Func}{args:List AV}{vs:List Value}{r:AV}{v:Value}(hf:C.P.funcs[f]?=some fn)(hb:fn.body.isSome=true)(hnm:(fn.name== "runtime.NumGoroutine")=false)
  (ha:IF args=some vs) (hr:RE r=some v) (hc:∀ w,Calls C.P f vs.toArray w λ e w'=>e=.returned v∧Below w.heap.size w w'):bT C f args r:=
 ⟨⟨fn,hf,hb,hnm⟩,λ S w us hS hG hu=>by
  rw[Ks ha hu];exact (hc w).mono λ e w' ⟨he,hB⟩=>⟨v,he,hB,GM hr⟩⟩
theorem bT.flat{C:Ctx}{f:FuncId}{args:List AV}{vs:List Value}{r:AV}{v:Value}(h:bT C f args r)(hG:∀ S w,GOk C S w)(ha:IF args=some vs)(hr:RE r=some v)(w:World):
  Calls C.P f vs.toArray w λ e w'=>e=.returned v∧Below w.heap.size w w':=
 (h.2 (λ _=>False) w vs (λ _ h=>h.elim) (hG _ _) (Dw ha)).mono λ e w' ⟨u,he,hB,hu⟩=>⟨by rw[he,Oq hr hu],hB⟩
abbrev vU(n:Nat):AV:=.v (.int .u32 (n:Int))
abbrev zU:AV:=.v (.int .u32 0)
abbrev vN(n:Nat):AV:=.v (.int .i64 (n:Int))
abbrev vI(n:Int):AV:=.v (.int .i64 n)
abbrev vB(b:Bool):AV:=.v (.bool b)
section
variable {C:Ctx}{R:FuncId→List AV→AV→Prop}{all rest:List Oper}{o:Oper}{j n:Nat}{t:Nat→AV}{h h':AH}{K:ASt→Prop}{Q:AEx→ASt→Prop}{fn:Func}{st:ASt}
theorem rE(n':Nat)(k:K ⟨t,h,n'⟩)(e:n+j=n':=by exact rfl):kX C R all [] j ⟨t,h,n⟩ K:=KJ e k
theorem rF(d:Nat)(x:AV)(h':AH)(k:kX C R all rest (j+1) ⟨upd t d x,h',n⟩ K)(hg:o.guard=none:=by exact rfl)(hd:o.dst=some d:=by exact rfl)(hx:opA C (evA C t) h (n+j) o.op=.fx True x h':=by exact rfl):kX C R all (o::rest) j ⟨t,h,n⟩ K:=rFx hg hd hx trivial k
theorem rS(h':AH)(k:kX C R all rest (j+1) ⟨t,h',n⟩ K)(hg:o.guard=none:=by exact rfl)(hd:o.dst=none:=by exact rfl)(hx:opA C (evA C t) h (n+j) o.op=.fx True .any h':=by exact rfl):kX C R all (o::rest) j ⟨t,h,n⟩ K:=Xz hg hd hx trivial k
theorem fB{x y:Bool}(h1:resA C st fn.results.toList=some [.v (.bool x)])(e:x=y):Ui C fn (.v (.bool y)) st:=GP h1 trivial rfl (by rw[e];rfl)
end
theorem c2(c x y:Bool):dE c x y=(c&&x|| !c&&y):=by cases c<;>simp[dE]
open Go.RowKit Go.ChangeShapes Go.WideShapes Go.ChangeAt Go.Deep
inductive TyV(P:Program):TypeId→List AV→Prop
 |bool {t:TypeId} (h:P.underlying t=some .bool) (b:Bool):TyV P t [.v (.bool b)]
 |int {t:TypeId} {k:IntKind} (h:P.underlying t=some (.int k)) (n:Int) (hn:(Lit.int k n).wf=true):TyV P t [.v (.int k n)]
 |string {t:TypeId} (h:P.underlying t=some .string) (s:ByteArray) (hs:s.size≤maxLen):TyV P t [.v (.string s)]
 |slice {t e:TypeId} (h:P.underlying t=some (.slice e)) (rows:List (List AV)) (hl:rows.length≤maxLen) (hr:∀ row∈rows,TyV P e row) (hrs:∀ row∈rows,row.length=P.cellsOf e):TyV P t [.sl (P.cellsOf e) rows false]
 |struct {t:TypeId} {fs:Array Field} (h:P.underlying t=some (.struct fs)) (parts:Nat→List AV) (hp:∀ (j:Nat) f,fs[j]?=some f→TyV P f.type (parts j)):TyV P t ((List.range fs.size).flatMap parts)
 |array {t e:TypeId} {n:Nat} (h:P.underlying t=some (.array n e)) (parts:Nat→List AV) (hp:∀ j,j<n→TyV P e (parts j)):TyV P t ((List.range n).flatMap parts)
def Jg(P:Program):Nat→List Field→Option Nat
 |o,[]=>some o
 |o,f::fs=>match Nat.beq f.offset o with|true=>Jg P (o+P.cellsOf f.type) fs|false=>none
def FX(P:Program):Nat→TypeId→Bool
 |0,_=>false
 |d+1,t=>match P.underlying t with
  |some .bool|some (.int _)|some .string=>true
  |some (.slice e)=>Nat.blt 0 (P.cellsOf e)&&FX P d e
  |some (.struct fs)=>(match Jg P 0 fs.toList with|some n=>Nat.beq n (P.cellsOf t)|none=>false)&&fs.toList.all (λ f=>FX P d f.type)
  |some (.array n e)=>Nat.beq (n * P.cellsOf e) (P.cellsOf t)&&FX P d e
  |_=>false
section
variable {H:Type}{enc:TypeId×Value→H}{P:Program}{w:World}{base:Nat}{spare:Nat→Bool}{held:Bool}
structure Opened(P:Program)(w:World)(t:TypeId)(cs:List AV)(vals:List Value):Prop where
 rep:RepL (· <w.heap.size) w noB cs vals
 one:∀ u∈vals,u.oneCell'=true
 ty:TyV P t cs
theorem Ef{S:Nat→Prop}{β:Bt}:∀ (n:Nat) (A:Nat→List AV) (V:Nat→List Value),(∀ i,i<n→RepL S w β (A i) (V i))→RepL S w β ((List.range n).flatMap A) ((List.range n).flatMap V)
 |0,_,_,_=>by simpa using RepL.nil S w β
 | n+1,A,V,h=>by
  rw[jZ,oN,oN];have ih:=Ef n A V λ i hi=>h i (by omega);have h1:=h n (by omega);simp only[gX,List.flatMap_nil,dZ];refine⟨by simp[ih.1,h1.1],λ i a u ha hu=>?_⟩;rcases al_Nat_lt_or_ge i ((List.range n).flatMap A).length with k|k
  ·rw[cI k]at ha;rw[cI (by rw[←ih.1];exact k)]at hu;exact ih.2 i a u ha hu
  ·rw[bS k]at ha;rw[bS (by rw[←ih.1];exact k), ←ih.1]at hu;exact h1.2 _ a u ha hu
theorem Jh:∀ (fs:List Field) (o n:Nat) (vals:List Value),Jg P o fs=some n→o≤vals.length→n≤vals.length→o≤n∧
  (List.range fs.length).flatMap (λ j=>match (fs[j]? :Option Field)with|some f=>(vals.drop (Field.offset f)).take (P.cellsOf (Field.type f))|none=>[])=(vals.drop o).take (n - o)
 |[],o,n,vals,h,_,_=>by
  simp only[Jg,Option.some.injEq]at h;subst h;simp
 | f ::fs,o,n,vals,h,ho,hn=>by
  simp only[Jg]at h;split at h
  ·rename_i hb;have hb:=aK hb;have hle:o+P.cellsOf f.type≤n:=by
    have:∀ (fs:List Field) (o n:Nat),Jg P o fs=some n→o≤n:=by
     intro fs
     induction fs with
     |nil=>intro o n h;simp only[Jg,Option.some.injEq]at h;omega
     |cons f fs ih=>
      intro o n h;simp only[Jg]at h;split at h
      ·have:=ih _ _ h;omega
      ·cases h
    exact this fs _ _ h
   obtain⟨h1,h2⟩:=Jh fs (o+P.cellsOf f.type) n vals h (by omega) hn;refine⟨by omega,?_⟩;rw[bJ,List.range_succ_eq_map,gX,List.flatMap_map];simp only[cJ,Function.comp_def,dC];rw[h2,hb];have:n - o=P.cellsOf f.type+(n - (o+P.cellsOf f.type)):=by omega
   rw[this,List.take_add,kV]
  ·cases h
theorem Ji(vals:List Value)(sz:Nat):∀ n,n * sz≤vals.length→(List.range n).flatMap (λ i=>(vals.drop (i * sz)).take sz)=vals.take (n * sz)
 |0,_=>by simp
 |n+1,h=>by
  rw[bZ,kP]at h;rw[jZ,oN,Ji vals sz n (by omega),bZ,kP,List.take_add];simp
theorem uY:∀ (D fuel:Nat) (t:TypeId) (vals:List Value) (x:DataW H×List MemPlace),DataW.trod enc P w base spare held fuel t vals=some x→FX P D t=true→∃ cs,Opened P w t cs vals
 |0,_,_,_,_,_,h=>by simp[FX]at h
 | D + 1,fuel,t,vals,x,h,hp=>by
  have single:∀ (a:AV) (u:Value),Rep (· <w.heap.size) w noB a u→u.oneCell'=true→TyV P t [a]→Opened P w t [a] [u]:=λ a u h1 h2 h3=>⟨.cons h1 (.nil _ _ _),λ v hv=>by simp at hv;subst hv;exact h2,h3⟩;unfold FX at hp
  cases hu:P.underlying t with
  |none=>rw[hu]at hp;cases hp
  | some d=>
   rw[hu]at hp;cases d<;>simp only[bQ]at hp<;>try (cases hp;done)
   case bool=>
    obtain⟨b,rfl,_⟩:=DataW.trod_bool hu h;exact⟨_,single _ _ (.v _) rfl (.bool hu b)⟩
   case int k=>
    obtain⟨n,rfl,_,hw⟩:=DataW.trod_int hu h;exact⟨_,single _ _ (.v _) rfl (.int hu n hw)⟩
   case string=>
    obtain⟨s,rfl,_,hs⟩:=DataW.trod_string hu h;exact⟨_,single _ _ (.v _) rfl (.string hu s hs)⟩
   case slice e=>
    simp only[aH]at hp;obtain⟨hc0,hp⟩:=hp;have hc0:0<P.cellsOf e:=aP hc0;rcases DataW.trod_slice hu h with ⟨rfl,_⟩|⟨a,len,cap,elems,rest,n,rfl,rfl,_,hb,hl,hm,he,hel,_⟩
    ·exact⟨_,single (.sl (P.cellsOf e) [] false) _ (.sl _ [] false none 0 0 0 (λ _ _=>.bool false) (by simp) (by simp) (λ h=>by cases h) (λ _ h=>by simp at h) (λ h=>by simp at h) (λ i row j a h=>by simp at h) (λ _ _=>rfl) (λ i row j a h=>by simp at h)) rfl (.slice hu [] (by simp) (λ _ h=>by simp at h) (λ _ h=>by simp at h))⟩
    ·have row:∀ i,∃ cs us,i<len→Opened P w e cs us∧us.length=P.cellsOf e∧∀ (j:Nat),j<P.cellsOf e→w.cell? ((a.add (i * P.cellsOf e)).add j)=us[j]? :=by
      intro i;by_cases hi:i<len
      ·have h1:=hel i hi;have h2:elems[i]?=some (elems[i]'(by omega)):=aA (by omega);rw[h2,Option.bind_eq_some_iff]at h1;obtain⟨us,g1,g2⟩:=h1;obtain⟨cs,hcs⟩:=uY D n e us _ g2 hp;unfold World.cells? at g1;split at g1
       ·have l1:us.length=P.cellsOf e:=by simpa using mapM_some_length g1
        exact⟨cs,us,λ _=>⟨hcs,l1,λ j hj=>mapM_some_get g1 j j (by simp[hj])⟩⟩
       ·cases g1
      ·exact⟨[],[],λ h=>absurd h hi⟩
     obtain⟨A,hA⟩:=Classical.axiomOfChoice row;obtain⟨V,hV⟩:=Classical.axiomOfChoice hA;have lenA:∀ i,i<len→(A i).length=P.cellsOf e:=λ i hi=>(hV i hi).1.rep.1.trans (hV i hi).2.1;have spot:∀ i,i<len→0<P.cellsOf e→a.spot=none∨i * P.cellsOf e≠0:=by
      intro i hi h0;by_cases hz:i * P.cellsOf e=0
      ·left;have h1:=(hV i hi).2.2 0 h0;have h2:(V i)[0]?=some ((V i)[0]'(by rw[(hV i hi).2.1];exact h0)):=aA _;rw[h2]at h1;simp only[Addr.add,hz,kW,World.cell?]at h1;split at h1
       ·cases hs:a.spot<;>simp[hs]at h1⊢
       ·cases h1
      ·exact .inr hz
     have hspot:0<len→0<P.cellsOf e→a.spot=none:=λ h1 h2=>(spot 0 h1 h2).elim id λ h=>absurd (Nat.zero_mul _) h;have cell:∀ i,i<len→∀ (j:Nat),j<P.cellsOf e→w.cell? ⟨a.block,a.off+i * P.cellsOf e+j,none⟩=(V i)[j]? :=by
      intro i hi j hj;rw[←(hV i hi).2.2 j hj];have hsp:=hspot (by omega) (by omega);congr 1;obtain⟨b,o,sp⟩:=a;simp only at hsp;subst hsp;unfold Addr.add;by_cases h1:i * P.cellsOf e=0<;>by_cases h2:j=0<;>simp[h1,h2]
     have hmem:∀ row∈(List.range len).map A,∃ i,i<len∧A i=row:=λ row hr=>by simpa using hr
     have at':∀ (i:Nat) row,((List.range len).map A)[i]?=some row→i<len∧row=A i:=λ i row h=>by
      rw[aZ]at h;rcases al_Nat_lt_or_ge i len with hi|hi
      ·rw[gC hi]at h;exact⟨hi,by simpa using h.symm⟩
      ·rw[bM (by simpa using hi)]at h;cases h
     have hval:∀ i,i<len→∀ (j:Nat) x,(A i)[j]?=some x→∃ u,(V i)[j]?=some u∧(if i<len∧j<P.cellsOf e then (V i).getD j (.bool false)else .bool false)=u∧j<P.cellsOf e:=by
      intro i hi j x hx;have hj:j<P.cellsOf e:=by rw[←lenA i hi];exact (DK.1 hx).1
      have hj':j<(V i).length:=by rw[(hV i hi).2.1];exact hj
      exact⟨(V i)[j],aA hj',by simp[hi,hj,hj'],hj⟩
     refine⟨_,single (.sl (P.cellsOf e) ((List.range len).map A) false) _ ?_ rfl (.slice hu _ (by simp;omega) (λ row hr=>?_) (λ row hr=>?_))⟩
     ·have:=Rep.sl (S:=(· <w.heap.size)) (w:=w) (β:=noB) (P.cellsOf e) ((List.range len).map A) false (if 0<len then some ⟨a.block,a.off,none⟩else some a) cap a.block a.off
       (λ i j=>if i<len∧j<P.cellsOf e then (V i).getD j (.bool false)else .bool false) (by simpa using hl) hm (λ h=>by cases h)
       (λ row hr=>by obtain⟨i,hi,rfl⟩:=hmem row hr;exact lenA i hi) ?_ ?_ ?_ ?_
      ·simp only[aJ,fX]at this;by_cases h0:0<len
       ·rw[if_pos h0]at this;have hsp:=hspot h0 hc0;obtain⟨b,o,sp⟩:=a;simp only at hsp;subst hsp;exact this
       ·rw[if_neg h0]at this;exact this
      ·intro h0;simp only[aJ,fX]at h0;rw[if_pos h0];refine⟨rfl,?_⟩;have h1:=cell 0 h0 0 hc0;have h2:(V 0)[0]?=some ((V 0)[0]'(by rw[(hV 0 h0).2.1];exact hc0)):=aA _;rw[h2]at h1;simp only[World.cell?]at h1;split at h1
       ·rename_i hb;exact fP hb
       ·cases h1
      ·intro i row j x h1 h2;obtain⟨hi,rfl⟩:=at' i row h1;obtain⟨u,g1,g2,g3⟩:=hval i hi j x h2;rw[cell i hi j g3,g2,g1]
      ·intro i j;split
       ·rename_i hc;have hj':j<(V i).length:=by rw[(hV i hc.1).2.1];exact hc.2
        rw[bC,aA hj'];exact (hV i hc.1).1.one _ (iP hj')
       ·rfl
      ·intro i row j x h1 h2;obtain⟨hi,rfl⟩:=at' i row h1;obtain⟨u,g1,g2,g3⟩:=hval i hi j x h2;rw[g2];exact (hV i hi).1.rep.2 j x u h2 g1
     ·obtain⟨i,hi,rfl⟩:=hmem row hr;exact (hV i hi).1.ty
     ·obtain⟨i,hi,rfl⟩:=hmem row hr;exact lenA i hi
   case struct fs=>
    simp only[aH]at hp;obtain⟨hp1,hp2⟩:=hp;split at hp1
    ·rename_i n hn;have hn':=aK hp1;obtain⟨xs,m,rfl,_,hlen,hxl,hfd⟩:=DataW.trod_struct hu h;have part:∀ j:Nat,∃ cs,∀ f:Field,fs[j]?=some f→Opened P w f.type cs ((vals.drop f.offset).take (P.cellsOf f.type)):=by
      intro j
      cases hf:fs[j]? with
      |none=>exact⟨[],λ f hf=>by cases hf⟩
      |some f=>
       have h1:=hfd j f hf;have hj:j<fs.size:=(Du.1 hf).1;rw[aA (by omega)]at h1;obtain⟨cs,hcs⟩:=uY D m f.type _ _ h1 (iO.1 hp2 f (Iz.2 (nA hf)));exact⟨cs,λ f' hf'=>by injection hf' with hf';subst hf';exact hcs⟩
     obtain⟨A,hA⟩:=Classical.axiomOfChoice part;obtain⟨_,hr⟩:=Jh fs.toList 0 n vals hn (aD _) (by omega);have hall:(List.range fs.size).flatMap (λ j=>match (fs[j]? :Option Field)with|some f=>(vals.drop (Field.offset f)).take (P.cellsOf (Field.type f))|none=>[])=vals:=by
      have:(List.range fs.toList.length).flatMap (λ j=>match (fs.toList[j]? :Option Field)with|some f=>(vals.drop f.offset).take (P.cellsOf f.type)|none=>[])=vals:=by
       rw[hr];simp[hn', ←hlen]
      simpa using this
     have hrep:=Ef (S:=(· <w.heap.size)) (w:=w) (β:=noB) fs.size A (λ j=>match (fs[j]? :Option Field)with|some f=>(vals.drop (Field.offset f)).take (P.cellsOf (Field.type f))|none=>[]) (λ j hj=>by
      have hf:fs[j]?=some fs[j]:=aO hj;simp only[hf];exact (hA j _ hf).rep)
     rw[hall]at hrep;refine⟨_,hrep,λ u hu'=>?_,.struct hu A λ j f hf=>(hA j f hf).ty⟩;rw[←hall]at hu';obtain⟨j,hj,hju⟩:=LJ.1 hu';have hj':j<fs.size:=by simpa using hj
     have hf:fs[j]?=some fs[j]:=aO hj';simp only[hf]at hju;exact (hA j _ hf).one u hju
    ·cases hp1
   case array n e=>
    simp only[aH]at hp;obtain⟨hp1,hp2⟩:=hp;have hn:=aK hp1;obtain⟨xs,m,rfl,_,hlen,hxl,hfd⟩:=DataW.trod_array hu h;have part:∀ i,∃ cs,i<n→Opened P w e cs ((vals.drop (i * P.cellsOf e)).take (P.cellsOf e)):=by
     intro i;by_cases hi:i<n
     ·have h1:=hfd i hi;rw[aA (by omega)]at h1;obtain⟨cs,hcs⟩:=uY D m e _ _ h1 hp2;exact⟨cs,λ _=>hcs⟩
     ·exact⟨[],λ h=>absurd h hi⟩
    obtain⟨A,hA⟩:=Classical.axiomOfChoice part;have hall:=Ji vals (P.cellsOf e) n (by omega);rw[hn, ←hlen,dJ]at hall;have hrep:=Ef (S:=(· <w.heap.size)) (w:=w) (β:=noB) n A _ (λ j hj=>(hA j hj).rep);rw[hall]at hrep;refine⟨_,hrep,λ u hu'=>?_,.array hu A λ j hj=>(hA j hj).ty⟩;rw[←hall]at hu';obtain⟨j,hj,hju⟩:=LJ.1 hu';exact (hA j (by simpa using hj)).one u hju
end
def fA:AV→Option AV
 | .v x=>some (.v x)
 | .agg cs=>some (.agg cs)
 | .tup cs=>some (.tup cs)
 | .sl a b c=>some (.sl a b c)
 | .dp a b c=>some (.dp a b c)
 | .ptr a b=>some (.ptr a b)
 | .ptr2 a b c=>some (.ptr2 a b c)
 | .osl a b c d=>some (.osl a b c d)
 | .clo f a b=>some (.clo f a b)
 | .opt g x=>some (.opt g x)
 | .any=>some .any
theorem Ph{x y:AV}(h:fA x=some y):x=y:=by cases x<;>cases h<;>rfl
def XF:List AV→Nat→Option AV
 |[],_=>none
 |x::_,0=>fA x
 |_::xs,n+1=>XF xs n
theorem KP{l:List AV}{i:Nat}{y:AV}(h:XF l i=some y):LU l i=some y:=by
 induction l generalizing i with
 |nil=>cases h
 |cons x l ih=>cases i with
  |zero=>exact congrArg some (Ph h)
  |succ i=>exact ih h
def Sr:Nat→List AV→(List AV→Option AV)→Option AV
 |0,_,k=>k []
 |_+1,[],k=>k []
 |n+1,x::xs,k=>Sr n xs (λ l=>k (x::l))
theorem Hu(n:Nat)(l:List AV)(k:List AV→Option AV):Sr n l k=k (Hh n l):=by
 induction n generalizing l k with
 |zero=>rfl
 |succ n ih=>cases l with
  |nil=>rfl
  |cons x l=>exact ih l _
def Ss(C:Ctx)(t:TypeId)(rs col:Nat)(row:List AV):Option AV:=
 match C.ty t with
 |some ⟨_,sz,true,_,_,_⟩=>
  match col,Nat.beq sz rs with
  |0,true=>some (.agg row)
  |_,_=>Sr sz (Fk col row) λ l=>match Nat.beq l.length sz with|true=>some (.agg l)|false=>none
 |some ⟨_,_,false,_,_,_⟩=>XF row col
 |none=>none
theorem LY{C:Ctx}{t:TypeId}{rs col:Nat}{row:List AV}{y:AV}(h:Ss C t rs col row=some y):Hk C t rs col row=some y:=by
 unfold Ss at h;unfold Hk
 cases ht:C.ty t with
 |none=>rw[ht]at h;cases h
 | some ti=>
  obtain⟨kd,sz,ag,z,b,eq⟩:=ti;rw[ht]at h
  cases ag with
  |false=>exact KP h
  |true=>
   cases col with
   |zero=>cases hb:Nat.beq sz rs<;>(simp only[hb,Hu]at h⊢;exact h)
   |succ c=>simp only[Hu]at h⊢;exact h
def Vv(C:Ctx)(t:TypeId)(cs:List AV)(off:Nat):Option AV:=
 match C.ty t with
 |some ⟨_,sz,true,_,_,_⟩=>Sr sz (Fk off cs) λ l=>some (.agg l)
 |some ⟨_,_,false,_,_,_⟩=>XF cs off
 |none=>none
theorem Su{C:Ctx}{t:TypeId}{cs:List AV}{off:Nat}{y:AV}(h:Vv C t cs off=some y):Nm C t cs off=some y:=by
 unfold Vv at h;unfold Nm
 cases ht:C.ty t with
 |none=>rw[ht]at h;cases h
 |some ti=>
  obtain⟨kd,sz,ag,z,b,eq⟩:=ti;rw[ht]at h
  cases ag with
  |false=>exact KP h
  |true=>simp only[Hu]at h⊢;exact h
def Pi(C:Ctx)(h:AH)(t:TypeId)(a:AV):Option AV:=
 match a with
 | .ptr b c=>match h b with|some (.box cells)=>Ss C t cells.length c cells|_=>none
 | .dp rs c row=>Ss C t rs c row
 |_=>none
def Uo(C:Ctx)(t:TypeId)(f:Nat)(a:AV):Option AV:=
 match C.ty t with
 |some ⟨.struct fs,_,_,_,_,_⟩=>match OR fs f,a with|some (off,ft),.agg cs=>Vv C ft cs off|_,_=>none
 |_=>none
def okF(r:Res):Option AV:=match r with| .ok x=>fA x|_=>none
def sA(C:Ctx)(ev:Operand→AV)(h:AH)(op:Op):Option AV:=
 match op with
 | .move x| .assign x=>fA (ev x)
 | .load t a=>Pi C h t (ev a)
 | .nilCheck x=>okF (Sh (ev x))
 | .fieldAddr t x f=>okF (oF C t f (ev x))
 | .field t x f=>Uo C t f (ev x)
 | .extract x i=>match ev x with| .tup vs=>XF vs i|_=>none
 | .unOp .not _ x=>match ev x with| .v (.bool b)=>some (.v (.bool (!b)))|_=>none
 |_=>none
theorem Up{r:Res}{x:AV}(h:okF r=some x):r=.ok x:=by
 unfold okF at h;split at h
 ·exact congrArg Res.ok (Ph h)
 ·cases h
theorem Vw{C:Ctx}{ev:Operand→AV}{h:AH}{s:Nat}{op:Op}{x:AV}(e:sA C ev h op=some x):opA C ev h s op=.ok x:=by
 unfold sA at e;split at e
 ·exact congrArg Res.ok (Ph e)
 ·exact congrArg Res.ok (Ph e)
 ·rename_i t a;show sR C h t (ev a)=.ok x;unfold Pi at e;unfold sR;generalize ev a=z at e⊢
  cases z with
  |ptr b c=>
   simp only at e⊢;split at e
   ·rename_i h1;simp only[h1];rw[LY e];rfl
   ·cases e
  |dp rs c row=>simp only at e⊢;rw[LY e];rfl
  |_=>cases e
 ·exact Up e
 ·exact Up e
 ·rename_i t y f;show zN C t f (ev y)=.ok x;unfold Uo at e;unfold zN;split at e
  ·rename_i h1;simp only[h1];split at e
   ·rename_i h2 h3;simp only[h2,h3];rw[Su e];rfl
   ·cases e
  ·cases e
 ·rename_i y i;show rJ i (ev y)=.ok x;unfold rJ;split at e
  ·rename_i h1;simp only[h1];rw[KP e];rfl
  ·cases e
 ·rename_i t y;show unA .not (ev y)=.ok x;split at e
  ·rename_i h1;cases e;simp only[unA,h1]
  ·cases e
 ·cases e
def sO(C:Ctx)(t:Nat→AV)(h:AH)(o:Oper):Option (Nat×AV):=
 match o.guard,o.dst with
 |none,some d=>(match sA C (evA C t) h o.op with|some x=>some (d,x)|none=>none)
 |_,_=>none
theorem Zj{C:Ctx}{t:Nat→AV}{h:AH}{o:Oper}{d:Nat}{x:AV}(e:sO C t h o=some (d,x)):o.guard=none∧o.dst=some d∧sA C (evA C t) h o.op=some x:=by
 unfold sO at e;split at e
 ·rename_i h1 h2;split at e
  ·rename_i h3;cases e;exact⟨h1,h2,h3⟩
  ·cases e
 ·cases e
def Zk(C:Ctx)(h:AH):Nat→List Oper→(Nat→AV)→Option (List Oper×(Nat→AV))
 |0,ops,t=>some (ops,t)
 |_+1,[],_=>none
 |m+1,o::ops,t=>match sO C t h o with|some (d,x)=>Zk C h m ops (upd t d x)|none=>none
def LZ:AV→Bool→Option Bool
 | .v (.bool b),true=>some b
 | .v (.bool b),false=>some (!b)
 | .opt a (.v (.bool b)),true=>some (a&&b)
 | .opt a (.v (.bool b)),false=>some (a&& !b)
 |_,_=>none
theorem BI{x:AV}{pol g:Bool}(e:LZ x pol=some g):zO x pol=some g:=by
 unfold LZ at e;split at e<;>first|(cases e;rfl)|cases e
def sG(C:Ctx)(t:Nat→AV)(h:AH)(all:List Oper)(o:Oper):Option (Nat×Bool×Option Bool×AV):=
 match o.guard,o.dst with
 | some (i,pol),some d=>
  (match (all[i]?).bind (·.dst)with
  |some e=>(match LZ (t e) pol,condsO t o.op with
   |some g,none=>(match sA C (evA C t) h o.op with|some x=>some (d,g,none,x)|none=>none)
   |some g,some c=>(match sA C (evS C t o.op) h o.op with|some x=>some (d,g,some c,x)|none=>none)
   |none,_=>none)
  |none=>none)
 |_,_=>none
def sGd(t:Nat→AV)(all:List Oper)(o:Oper):Option (Nat×Bool×Option Bool):=
 match o.guard,o.dst with
 | some (i,pol),some d=>
  (match (all[i]?).bind (·.dst)with
  |some e=>(match LZ (t e) pol,condsO t o.op with
   |some g,none=>some (d,g,none)
   |some g,some c=>some (d,g,some c)
   |none,_=>none)
  |none=>none)
 |_,_=>none
def YY:Nat→List AV→List AV→(List AV→Option AH)→Option AH
 |0,[],xs,k=>k xs
 |0,c::cs,_::xs,k=>YY 0 cs xs λ l=>k (c::l)
 |0,_::_,[],k=>k []
 |n+1,cs,x::xs,k=>YY n cs xs λ l=>k (x::l)
 |_+1,_,[],k=>k []
theorem KQ:∀ (n:Nat) (cs xs:List AV) (k:List AV→Option AH),YY n cs xs k=k (zM n cs xs)
 |0,[],[],k=>rfl
 |0,[],_::_,k=>rfl
 |0,c::cs,_::xs,k=>KQ 0 cs xs _
 |0,_::_,[],k=>rfl
 |n+1,cs,x::xs,k=>KQ n cs xs _
 |_+1,_,[],k=>rfl
theorem Ma:∀ (cs xs:List AV),Nat.beq cs.length xs.length=true→zM 0 cs xs=cs
 |[],[],_=>rfl
 |[],_::_,h=>by cases h
 |c::cs,[],h=>by cases h
 |c::cs,x::xs,h=>congrArg (c:: ·) (Ma cs xs h)
def Zl(C:Ctx)(h:AH)(ty:TypeId)(a x:AV):Option AH:=
 match C.ty ty,kO x,a with
 | some ti,some cs,.ptr b c=>
  (match Nat.beq cs.length ti.sz,h b with
  | true,some (.box cells)=>(match Nat.ble (c+cs.length) cells.length with
   |true=>(match c,Nat.beq cs.length cells.length with
    |0,true=>some (upd h b (some (.box cs)))
    |c,_=>YY c cs cells λ l=>some (upd h b (some (.box l))))
   |false=>none)
  |_,_=>none)
 |_,_,_=>none
def sSt(C:Ctx)(t:Nat→AV)(h:AH)(o:Oper):Option AH:=
 match o.guard,o.dst,o.op with
 |none,none,.store ty a x=>Zl C h ty (evA C t a) (evA C t x)
 |_,_,_=>none
def sAl(C:Ctx)(t:Nat→AV)(o:Oper):Option (Nat×List AV):=
 match o.guard,o.dst,o.op with
 |none,some d,.alloc ty=>(match Ay C ty with|some cs=>some (d,cs)|none=>none)
 |none,some d,.box _ x=>(match kO (evA C t x)with|some cs=>some (d,cs)|none=>none)
 |_,_,_=>none
def fL:List AV→(List AV→Option (Nat×FuncId×List AV))→Option (Nat×FuncId×List AV)
 |[],k=>k []
 |x::xs,k=>(match fA x with|some y=>fL xs λ l=>k (y::l)|none=>none)
theorem XG:∀ {l:List AV} {k:List AV→Option (Nat×FuncId×List AV)} {r:Nat×FuncId×List AV},fL l k=some r→k l=some r
 |[],k,r,h=>h
 | x::xs,k,r,h=>by
  simp only[fL]at h;split at h
  ·rename_i y hy;rw[Ph hy];exact XG (k:=λ l=>k (y::l)) h
  ·cases h
def sC(C:Ctx)(t:Nat→AV)(o:Oper):Option (Nat×FuncId×List AV):=
 match o.guard,o.dst,o.op with
 | none,some d,.call c=>(match c.callee with
  | .value f=>(match evA C t f with
   | .clo f first caps=>fL (first++c.args.toList.map (evA C t)++caps) λ l=>some (d,f,l)
   |_=>none)
  |_=>none)
 |_,_,_=>none
theorem Zm{C:Ctx}{t:Nat→AV}{h:AH}{s:Nat}{o:Oper}{d:Nat}{f:FuncId}{args:List AV}(e:sC C t o=some (d,f,args)):o.guard=none∧o.dst=some d∧opA C (evA C t) h s o.op=.call f args:=by
 unfold sC at e;split at e
 ·rename_i d' c h1 h2 h3;split at e
  ·rename_i g hc;split at e
   ·rename_i f' first caps hf
    have:=XG e;cases this
    refine⟨h1,h2,?_⟩;rw[h3];show (match c.callee with| .builtin b=>_| .value f=>_|_=>_)=_;rw[hc];simp only[hf]
   ·cases e
  ·cases e
 ·cases e
def sV(C:Ctx)(t:Nat→AV)(h:AH)(s:Nat)(o:Oper):Option (Nat×AV):=match o.guard,o.dst,opA C (evA C t) h s o.op with|none,some d,.ok x=>some (d,x)|_,_,_=>none
def sD(o:Oper):Option Nat:=match o.guard with|none=>o.dst|_=>none
theorem Nv{o:Oper}{d:Nat}(h:sD o=some d):o.guard=none∧o.dst=some d:=by
 unfold sD at h;split at h
 ·rename_i e;exact⟨e,h⟩
 ·cases h
theorem ixT{a b:Nat}(h:a<b:=by first|omega|rfl|(simp only[aJ,bJ,cR,aR,bN,aN,bD,cQ,fX,oZ];done)|(simp only[aJ,bJ,cR,aR,bN,aN,bD,cQ,fX,oZ];omega)|(simp[oZ];done)|(simp[oZ];omega)):0≤(a:Int)∧(a:Int)<(b:Int):=⟨aF _,Fe.2 h⟩
theorem omT{p:Prop}(h:p:=by first|omega|rfl|(simp only[aJ,bJ,cR,aR,bN,aN,bD,cQ,fX,oZ];done)|(simp only[aJ,bJ,cR,aR,bN,aN,bD,cQ,fX,oZ];omega)|(simp[oZ];done)|(simp[oZ];omega)):p:=h
theorem r4{q:Prop}(h:q):True∧True∧True∧True∧q:=⟨trivial,trivial,trivial,trivial,h⟩
theorem tvT{p:Prop}(h:p:=by repeat (first|exact trivial|refine⟨trivial,?_⟩)):p:=h
theorem rbT{p:Prop}(h:p:=by repeat (first|exact trivial|refine⟨⟨rfl,_,rfl,.refl _⟩,?_⟩)):p:=h
theorem rcT{p:Prop}(h:p:=by repeat' (first|exact trivial|constructor)):p:=h
theorem hsT{p q:Prop}(h:p→q:=by intro h;first|(simp_all;done)|exact (Bool.and_eq_true_iff.1 h).1|exact Bool.and_eq_true_iff.2 ⟨h,h⟩):p→q:=h
theorem slT{p:Prop}(h:p:=by refine⟨?_,?_,?_⟩;all_goals (first|exact aF _|decide|(apply Ff.2;exact omT)|(show ((_:Nat):Int)=((_:Nat):Int);congr 1;omega)|rfl)):p:=h
theorem wT{p:Prop}(h:p:=by repeat (first|exact trivial|refine⟨⟨rfl,rfl⟩,?_⟩)):p:=h
theorem wH{p:Prop}(h:p:=by repeat (first|exact trivial|refine⟨⟨rfl,rfl,rfl⟩,?_⟩)):p:=h
section
variable {C:Ctx}{R:FuncId→List AV→AV→Prop}{all rest ops:List Oper}{o:Oper}{j n:Nat}{t t':Nat→AV}{h h':AH}{K:ASt→Prop}{Q:AEx→ASt→Prop}{fn:Func}{st:ASt}{x:AV}{d:Nat}
theorem oR(m:Nat)(hx:Zk C h m ops t=some (rest,t'))(k:kX C R all rest (j+m) ⟨t',h,n⟩ K):kX C R all ops j ⟨t,h,n⟩ K:=by
 induction m generalizing ops t j with
 |zero=>cases hx;exact k
 | succ m ih=>
  cases ops with
  |nil=>cases hx
  | cons o ops=>
   simp only[Zk]at hx;split at hx
   ·rename_i d x e;obtain⟨h1,h2,h3⟩:=Zj e;exact rOk h1 h2 (Vw h3) (ih hx (by rw[dV,iF 1];exact k))
   ·cases hx
theorem gN{g:Bool}(hx:sG C t h all o=some (d,g,none,x))(k:kX C R all rest (j+1) ⟨upd t d (.opt g x),h,n⟩ K):kX C R all (o::rest) j ⟨t,h,n⟩ K:=by
 unfold sG at hx;split at hx
 ·rename_i i pol d' h1 h2;split at hx
  ·rename_i e h3;split at hx
   ·rename_i g' h4 h5;split at hx
    ·rename_i x' h6;cases hx;exact gOk h1 h3 (BI h4) h5 h2 (Vw h6) k
    ·cases hx
   ·split at hx<;>cases hx
   ·cases hx
  ·cases hx
 ·cases hx
theorem gS{g c:Bool}(hx:sG C t h all o=some (d,g,some c,x))(hs:g=true→c=true)(k:kX C R all rest (j+1) ⟨upd t d (.opt g x),h,n⟩ K):kX C R all (o::rest) j ⟨t,h,n⟩ K:=by
 unfold sG at hx;split at hx
 ·rename_i i pol d' h1 h2;split at hx
  ·rename_i e h3;split at hx
   ·split at hx<;>cases hx
   ·rename_i g' c' h4 h5;split at hx
    ·rename_i x' h6;cases hx;exact Xj h1 h3 (BI h4) h5 hs h2 (Vw h6) k
    ·cases hx
   ·cases hx
  ·cases hx
 ·cases hx
theorem Uq{g:Bool}{c:Option Bool}(hx:sGd t all o=some (d,g,c)):∃ i pol e,o.guard=some (i,pol)∧(all[i]?).bind (·.dst)=some e∧zO (t e) pol=some g∧condsO t o.op=c∧o.dst=some d:=by
 unfold sGd at hx;split at hx
 ·rename_i i pol d' h1 h2;split at hx
  ·rename_i e h3;split at hx
   ·rename_i g' h4 h5;cases hx;exact⟨i,pol,e,h1,h3,BI h4,h5,h2⟩
   ·rename_i g' c' h4 h5;cases hx;exact⟨i,pol,e,h1,h3,BI h4,h5,h2⟩
   ·cases hx
  ·cases hx
 ·cases hx
theorem gB{g:Bool}(hg:sGd t all o=some (d,g,none))(hx:opA C (evA C t) h (n+j) o.op=.ok x)(k:kX C R all rest (j+1) ⟨upd t d (.opt g x),h,n⟩ K):kX C R all (o::rest) j ⟨t,h,n⟩ K:=by
 obtain⟨i,pol,e,h1,h2,h3,h4,h5⟩:=Uq hg;exact gOk h1 h2 h3 h4 h5 hx k
theorem gBS{g c:Bool}(hg:sGd t all o=some (d,g,some c))(hs:g=true→c=true)(hx:opA C (evS C t o.op) h (n+j) o.op=.ok x)(k:kX C R all rest (j+1) ⟨upd t d (.opt g x),h,n⟩ K):kX C R all (o::rest) j ⟨t,h,n⟩ K:=by
 obtain⟨i,pol,e,h1,h2,h3,h4,h5⟩:=Uq hg;exact Xj h1 h2 h3 h4 hs h5 hx k
theorem rAl(s:Nat){cs:List AV}(hs:n+j=s)(hx:sAl C t o=some (d,cs))(k:kX C R all rest (j+1) ⟨upd t d (.ptr s 0),upd h s (some (.box cs)),n⟩ K):kX C R all (o::rest) j ⟨t,h,n⟩ K:=by
 subst hs;unfold sAl at hx;split at hx
 ·rename_i d' ty h1 h2 h3;split at hx
  ·rename_i cs' h4;cases hx;exact rFx (p:=True) h1 h2 (by rw[h3];simp only[opA,h4]) trivial k
  ·cases hx
 ·rename_i d' ty y h1 h2 h3;split at hx
  ·rename_i cs' h4;cases hx;exact rFx (p:=True) h1 h2 (by rw[h3];simp only[opA,h4]) trivial k
  ·cases hx
 ·cases hx
theorem Vx{ty:TypeId}{a y:AV}{h':AH}(e:Zl C h ty a y=some h'):(match C.ty ty,kO y with
  | some ti,some cs=>(match Nat.beq cs.length ti.sz with
   |true=>(match a with
    | .ptr b c=>(match h b with|some (.box cells)=>(match Nat.ble (c+cs.length) cells.length with|true=>Res.fx True .any (upd h b (some (.box (zM c cs cells))))|false=>.bad)|_=>.bad)
    |_=>.bad)
   |false=>.bad)
  |_,_=>.bad)=.fx True .any h':=by
 unfold Zl at e;split at e
 ·rename_i ti cs b c h1 h2;split at e
  ·rename_i cells h3 h4;split at e
   ·rename_i h5;simp only[h1,h2,h3,h4,h5];split at e
    ·rename_i h6;cases e;rw[Ma _ _ h6]
    ·rw[KQ]at e;cases e;rfl
   ·cases e
  ·cases e
 ·cases e
theorem rSt(hx:sSt C t h o=some h')(k:kX C R all rest (j+1) ⟨t,h',n⟩ K):kX C R all (o::rest) j ⟨t,h,n⟩ K:=by
 unfold sSt at hx;split at hx
 ·rename_i ty a y h1 h2 h3;have e:=Vx hx;refine Xz (p:=True) (x:=.any) h1 h2 ?_ trivial k;rw[h3];simp only[opA];split at e
  ·rename_i ti cs q1 q2;simp only[q1,q2];split at e
   ·rename_i q3;simp only[q3];split at e
    ·rename_i b c q4;simp only[q4];exact e
    ·cases e
   ·cases e
  ·cases e
 ·cases hx
theorem rSx(s:Nat)(cs:List AV)(hg:o.guard=none)(hd:o.dst=none)(hx:opA C (evA C t) h (n+j) o.op=.fx True .any (upd h s (some (.box cs))))(k:kX C R all rest (j+1) ⟨t,upd h s (some (.box cs)),n⟩ K):kX C R all (o::rest) j ⟨t,h,n⟩ K:=Xz hg hd hx trivial k
theorem rCl{f:FuncId}{args:List AV}(hx:sC C t o=some (d,f,args))(hf:oP args=true∨(Ct x=true∧jW h args))(hc:R f (rG h args) x)(k:kX C R all rest (j+1) ⟨upd t d x,h,n⟩ K)(hcl:gE (rG h args)=true:=by exact rfl)(hr:eZ x=true:=by exact rfl):kX C R all (o::rest) j ⟨t,h,n⟩ K:=by
 obtain⟨h1,h2,h3⟩:=Zm (h:=h) (s:=n+j) hx;exact Zg h1 h2 h3 hcl hf hr hc k
theorem rV(x:AV)(hx:sV C t h (n+j) o=some (d,x))(k:kX C R all rest (j+1) ⟨upd t d x,h,n⟩ K):kX C R all (o::rest) j ⟨t,h,n⟩ K:=by
 unfold sV at hx;split at hx
 ·rename_i h1 h2 h3;cases hx;exact rOk h1 h2 h3 k
 ·cases hx
theorem rW(x:AV)(hd:sD o=some d)(hx:opA C (evA C t) h (n+j) o.op=.ok x)(k:kX C R all rest (j+1) ⟨upd t d x,h,n⟩ K):kX C R all (o::rest) j ⟨t,h,n⟩ K:=rOk (Nv hd).1 (Nv hd).2 hx k
theorem nW{p:Prop}(x:AV)(hd:sD o=some d)(hx:opA C (evA C t) h (n+j) o.op=.need p x)(hp:p)(k:kX C R all rest (j+1) ⟨upd t d x,h,n⟩ K):kX C R all (o::rest) j ⟨t,h,n⟩ K:=cS (Nv hd).1 (Nv hd).2 hx hp k
theorem rCi{f:FuncId}{args:List AV}(hx:sC C t o=some (d,f,args))(hc:R f (rG h args) x)(k:kX C R all rest (j+1) ⟨upd t d x,h,n⟩ K)(hcl:gE (rG h args)=true:=by exact rfl)(hr:eZ x=true:=by exact rfl)(hf:oP args=true:=by exact rfl):kX C R all (o::rest) j ⟨t,h,n⟩ K:=rCl hx (.inl hf) hc k hcl hr
theorem rIx{rows:List (List AV)}{i:Int}{f:List AV→Option AV}(row:List AV)(x:AV)(hd:sD o=some d)(hx:opA C (evA C t) h (n+j) o.op=.idx rows i f)(hi:rows[i.toNat]?=some row)(hf:f row=some x)(k:kX C R all rest (j+1) ⟨upd t d x,h,n⟩ K)(h0:0≤i:=by exact aF _):kX C R all (o::rest) j ⟨t,h,n⟩ K:=CP row (Nv hd).1 (Nv hd).2 hx ⟨h0,hi⟩ hf k
end
theorem cSR{C:Ctx}{R:FuncId→List AV→AV→Prop}{Q:AEx→ASt→Prop}{st:ASt}{id:Nat}{ops:Array Oper}{dr:Bool}{b:Code}(k:kX (C.noHif dr) R ops.toList ops.toList 0 st (λ st'=>fZ C R b st' Q))(hd:(dr&&Fo ops.toList)=false:=by kernel_rfl):fZ C R (.seq (.region id ops dr) b) st Q:=bK (iG rfl k hd)
theorem cRg{C:Ctx}{R:FuncId→List AV→AV→Prop}{Q:AEx→ASt→Prop}{st:ASt}{id:Nat}{ops:Array Oper}{dr:Bool}(k:kX (C.noHif dr) R ops.toList ops.toList 0 st (Q .normal))(hd:(dr&&Fo ops.toList)=false:=by kernel_rfl):fZ C R (.region id ops dr) st Q:=iG rfl k hd
set_option maxRecDepth 100000
theorem eF(inf:TypeInfo){t:TypeId}{i:TI}{d:TypeDesc}(hd:Tryz.prog.underlying t=some d)
  (hk:match i.kd with
  | .bool=>d=.bool
  | .int k=>d=.int k
  | .string=>d=.string
  | .slice e=>d=.slice e
  | .array n e=>d=.array n e
  | .struct fs=>∃ fields,d=.struct fields∧fields.toList.map (λ f=>(f.offset,f.type))=fs∧(fields.toList.all λ f=>match Tryz.prog.info? f.type with|some i=> !(i.size==0)|none=>false)=true
  |_=>True) (he:i.eq≠[]→Xq Tryz.prog t i.eq:=by exact λ h=>absurd rfl h) (h1:Tryz.prog.info? t=some inf:=by kernel_rfl) (h2:inf.zero=some (inf.zero.getD .nilFunc):=by rfl) (h3:i.zero=Om (inf.zero.getD .nilFunc):=by rfl) (hc:Va Tryz.prog inf (inf.zero.getD .nilFunc) i=true:=by kernel_rfl) (hrow:d.isRow=i.ag:=by rfl):TyOk Tryz.prog t i:=
 RH h1 h2 h3 hc hd hrow hk he
abbrev aaO:TI:=⟨.int .u32,1,false,.v (.int .u32 0),4,[]⟩
set_option maxRecDepth 100000
abbrev gV:TI:=⟨.func,1,false,.v .nilFunc,8,[]⟩
def tys:TT:=.node 120 (.node 65 (.node 37 (.node 25 (.node 12 (.node 4 (.node 2 (.leaf 1 gV) (.node 3 (.leaf 2 ⟨.int .i64,1,false,.v (.int .i64 0),8,[]⟩) (.leaf 3 ⟨.int .i64,1,false,.v (.int .i64 0),8,[]⟩))) (.node 5 (.leaf 4 ⟨.bool,1,false,.v (.bool false),1,[]⟩) (.node 9 (.leaf 5 ⟨.int .u8,1,false,.v (.int .u8 0),1,[]⟩) (.leaf 9 ⟨.string,1,false,.v (.string ⟨#[]⟩),16,[]⟩)))) (.node 22 (.node 13 (.leaf 12 ⟨.int .u64,1,false,.v (.int .u64 0),8,[]⟩) (.node 21 (.leaf 13 ⟨.struct [(0,9),(1,12)],2,true,.agg [.v (.string ⟨#[]⟩),.v (.int .u64 0)],24,[]⟩) (.leaf 21 ⟨.int .i32,1,false,.v (.int .i32 0),4,[]⟩))) (.node 23 (.leaf 22 ⟨.slice 3,1,false,.sl 0 [] true,24,[]⟩) (.node 24 (.leaf 23 ⟨.slice 26,1,false,.sl 0 [] true,24,[]⟩) (.leaf 24 ⟨.struct [(0,3),(1,3),(2,3),(3,3),(4,3),(5,3),(6,3),(7,3),(8,22),(9,4),(10,23)],11,true,.agg [.v (.int .i64 0),.v (.int .i64 0),.v (.int .i64 0),.v (.int .i64 0),.v (.int .i64 0),.v (.int .i64 0),.v (.int .i64 0),.v (.int .i64 0),.sl 0 [] true,.v (.bool false),.sl 0 [] true],120,[]⟩))))) (.node 31 (.node 28 (.node 26 (.leaf 25 ⟨.struct [(0,3),(1,3),(2,3),(3,3),(4,3),(5,3),(6,3),(7,3),(8,22),(9,4),(10,23)],11,true,.agg [.v (.int .i64 0),.v (.int .i64 0),.v (.int .i64 0),.v (.int .i64 0),.v (.int .i64 0),.v (.int .i64 0),.v (.int .i64 0),.v (.int .i64 0),.sl 0 [] true,.v (.bool false),.sl 0 [] true],120,[]⟩) (.node 27 (.leaf 26 aaO) (.leaf 27 ⟨.array 32 26,32,true,.agg [zU,zU,zU,zU,zU,zU,zU,zU,zU,zU,zU,zU,zU,zU,zU,zU,zU,zU,zU,zU,zU,zU,zU,zU,zU,zU,zU,zU,zU,zU,zU,zU],128,[.i,.i,.i,.i,.i,.i,.i,.i,.i,.i,.i,.i,.i,.i,.i,.i,.i,.i,.i,.i,.i,.i,.i,.i,.i,.i,.i,.i,.i,.i,.i,.i]⟩))) (.node 29 (.leaf 28 ⟨.slice 127,1,false,.sl 0 [] true,24,[]⟩) (.node 30 (.leaf 29 ⟨.slice 95,1,false,.sl 0 [] true,24,[]⟩) (.leaf 30 ⟨.slice 99,1,false,.sl 0 [] true,24,[]⟩)))) (.node 34 (.node 32 (.leaf 31 ⟨.slice 78,1,false,.sl 0 [] true,24,[]⟩) (.node 33 (.leaf 32 ⟨.struct [(0,3),(1,31)],2,true,.agg [.v (.int .i64 0),.sl 0 [] true],32,[]⟩) (.leaf 33 ⟨.struct [(0,3),(1,31)],2,true,.agg [.v (.int .i64 0),.sl 0 [] true],32,[]⟩))) (.node 35 (.leaf 34 ⟨.slice 69,1,false,.sl 0 [] true,24,[]⟩) (.node 36 (.leaf 35 ⟨.slice 88,1,false,.sl 0 [] true,24,[]⟩) (.leaf 36 ⟨.struct [(0,35),(1,26),(2,23)],3,true,.agg [.sl 0 [] true,zU,.sl 0 [] true],56,[]⟩)))))) (.node 49 (.node 43 (.node 40 (.node 38 (.leaf 37 ⟨.struct [(0,35),(1,26),(2,23)],3,true,.agg [.sl 0 [] true,zU,.sl 0 [] true],56,[]⟩) (.node 39 (.leaf 38 ⟨.slice 57,1,false,.sl 0 [] true,24,[]⟩) (.leaf 39 ⟨.struct [(0,25),(11,23),(12,3),(13,27),(45,26),(46,4),(47,28),(48,29),(49,3),(50,30),(51,33),(53,33),(55,34),(56,3),(57,3),(58,9),(59,37),(62,3),(63,38)],64,true,.agg [.v (.int .i64 0),.v (.int .i64 0),.v (.int .i64 0),.v (.int .i64 0),.v (.int .i64 0),.v (.int .i64 0),.v (.int .i64 0),.v (.int .i64 0),.sl 0 [] true,.v (.bool false),.sl 0 [] true,.sl 0 [] true,.v (.int .i64 0),zU,zU,zU,zU,zU,zU,zU,zU,zU,zU,zU,zU,zU,zU,zU,zU,zU,zU,zU,zU,zU,zU,zU,zU,zU,zU,zU,zU,zU,zU,zU,zU,zU,.v (.bool false),.sl 0 [] true,.sl 0 [] true,.v (.int .i64 0),.sl 0 [] true,.v (.int .i64 0),.sl 0 [] true,.v (.int .i64 0),.sl 0 [] true,.sl 0 [] true,.v (.int .i64 0),.v (.int .i64 0),.v (.string ⟨#[]⟩),.sl 0 [] true,zU,.sl 0 [] true,.v (.int .i64 0),.sl 0 [] true],576,[]⟩))) (.node 41 (.leaf 40 ⟨.struct [(0,25),(11,23),(12,3),(13,27),(45,26),(46,4),(47,28),(48,29),(49,3),(50,30),(51,33),(53,33),(55,34),(56,3),(57,3),(58,9),(59,37),(62,3),(63,38)],64,true,.agg [.v (.int .i64 0),.v (.int .i64 0),.v (.int .i64 0),.v (.int .i64 0),.v (.int .i64 0),.v (.int .i64 0),.v (.int .i64 0),.v (.int .i64 0),.sl 0 [] true,.v (.bool false),.sl 0 [] true,.sl 0 [] true,.v (.int .i64 0),zU,zU,zU,zU,zU,zU,zU,zU,zU,zU,zU,zU,zU,zU,zU,zU,zU,zU,zU,zU,zU,zU,zU,zU,zU,zU,zU,zU,zU,zU,zU,zU,zU,.v (.bool false),.sl 0 [] true,.sl 0 [] true,.v (.int .i64 0),.sl 0 [] true,.v (.int .i64 0),.sl 0 [] true,.v (.int .i64 0),.sl 0 [] true,.sl 0 [] true,.v (.int .i64 0),.v (.int .i64 0),.v (.string ⟨#[]⟩),.sl 0 [] true,zU,.sl 0 [] true,.v (.int .i64 0),.sl 0 [] true],576,[]⟩) (.node 42 (.leaf 41 gV) (.leaf 42 gV)))) (.node 46 (.node 44 (.leaf 43 gV) (.node 45 (.leaf 44 gV) (.leaf 45 gV))) (.node 47 (.leaf 46 gV) (.node 48 (.leaf 47 gV) (.leaf 48 gV))))) (.node 56 (.node 53 (.node 50 (.leaf 49 gV) (.node 52 (.leaf 50 gV) (.leaf 52 gV))) (.node 54 (.leaf 53 ⟨.struct [(0,26),(1,27),(33,9),(34,3)],35,true,.agg [zU,zU,zU,zU,zU,zU,zU,zU,zU,zU,zU,zU,zU,zU,zU,zU,zU,zU,zU,zU,zU,zU,zU,zU,zU,zU,zU,zU,zU,zU,zU,zU,zU,.v (.string ⟨#[]⟩),.v (.int .i64 0)],160,[]⟩) (.node 55 (.leaf 54 ⟨.struct [(0,26),(1,27),(33,9),(34,3)],35,true,.agg [zU,zU,zU,zU,zU,zU,zU,zU,zU,zU,zU,zU,zU,zU,zU,zU,zU,zU,zU,zU,zU,zU,zU,zU,zU,zU,zU,zU,zU,zU,zU,zU,zU,.v (.string ⟨#[]⟩),.v (.int .i64 0)],160,[.i,.i,.i,.i,.i,.i,.i,.i,.i,.i,.i,.i,.i,.i,.i,.i,.i,.i,.i,.i,.i,.i,.i,.i,.i,.i,.i,.i,.i,.i,.i,.i,.i,.s,.i]⟩) (.leaf 55 gV)))) (.node 60 (.node 57 (.leaf 56 ⟨.struct [(0,26),(1,26),(2,3),(3,26),(4,26),(5,3),(6,4),(7,3),(8,3)],9,true,.agg [zU,zU,.v (.int .i64 0),zU,zU,.v (.int .i64 0),.v (.bool false),.v (.int .i64 0),.v (.int .i64 0)],56,[]⟩) (.node 59 (.leaf 57 ⟨.struct [(0,26),(1,26),(2,3),(3,26),(4,26),(5,3),(6,4),(7,3),(8,3)],9,true,.agg [zU,zU,.v (.int .i64 0),zU,zU,.v (.int .i64 0),.v (.bool false),.v (.int .i64 0),.v (.int .i64 0)],56,[.i,.i,.i,.i,.i,.i,.b,.i,.i]⟩) (.leaf 59 gV))) (.node 61 (.leaf 60 gV) (.node 63 (.leaf 61 gV) (.leaf 63 gV))))))) (.node 92 (.node 80 (.node 71 (.node 68 (.node 66 (.leaf 65 gV) (.node 67 (.leaf 66 gV) (.leaf 67 gV))) (.node 69 (.leaf 68 ⟨.struct [(0,3),(1,26),(2,3),(3,9)],4,true,.agg [.v (.int .i64 0),zU,.v (.int .i64 0),.v (.string ⟨#[]⟩)],40,[]⟩) (.node 70 (.leaf 69 ⟨.struct [(0,3),(1,26),(2,3),(3,9)],4,true,.agg [.v (.int .i64 0),zU,.v (.int .i64 0),.v (.string ⟨#[]⟩)],40,[.i,.i,.i,.s]⟩) (.leaf 70 gV)))) (.node 76 (.node 74 (.leaf 71 ⟨.slice 76,1,false,.sl 0 [] true,24,[]⟩) (.node 75 (.leaf 74 gV) (.leaf 75 ⟨.struct [(0,31),(1,31),(2,34),(3,23)],4,true,.agg [.sl 0 [] true,.sl 0 [] true,.sl 0 [] true,.sl 0 [] true],96,[]⟩))) (.node 78 (.leaf 76 ⟨.struct [(0,31),(1,31),(2,34),(3,23)],4,true,.agg [.sl 0 [] true,.sl 0 [] true,.sl 0 [] true,.sl 0 [] true],96,[]⟩) (.node 79 (.leaf 78 ⟨.slice 80,1,false,.sl 0 [] true,24,[]⟩) (.leaf 79 ⟨.struct [(0,26),(1,4),(2,9)],3,true,.agg [zU,.v (.bool false),.v (.string ⟨#[]⟩)],24,[]⟩))))) (.node 86 (.node 83 (.node 81 (.leaf 80 ⟨.struct [(0,26),(1,4),(2,9)],3,true,.agg [zU,.v (.bool false),.v (.string ⟨#[]⟩)],24,[.i,.b,.s]⟩) (.node 82 (.leaf 81 gV) (.leaf 82 gV))) (.node 84 (.leaf 83 gV) (.node 85 (.leaf 84 gV) (.leaf 85 gV)))) (.node 89 (.node 87 (.leaf 86 gV) (.node 88 (.leaf 87 ⟨.struct [(0,26),(1,26)],2,true,.agg [zU,zU],8,[]⟩) (.leaf 88 ⟨.struct [(0,26),(1,26)],2,true,.agg [zU,zU],8,[.i,.i]⟩))) (.node 90 (.leaf 89 ⟨.slice 5,1,false,.sl 0 [] true,24,[]⟩) (.node 91 (.leaf 90 gV) (.leaf 91 gV)))))) (.node 104 (.node 98 (.node 95 (.node 93 (.leaf 92 ⟨.struct [(0,3),(1,3),(2,3),(3,3),(4,26)],5,true,.agg [.v (.int .i64 0),.v (.int .i64 0),.v (.int .i64 0),.v (.int .i64 0),zU],40,[]⟩) (.node 94 (.leaf 93 ⟨.struct [(0,3),(1,3),(2,3),(3,3),(4,26)],5,true,.agg [.v (.int .i64 0),.v (.int .i64 0),.v (.int .i64 0),.v (.int .i64 0),zU],40,[.i,.i,.i,.i,.i]⟩) (.leaf 94 ⟨.struct [(0,3),(1,26),(2,93),(7,26),(8,3),(9,3),(10,26),(11,26),(12,26),(13,3),(14,3),(15,4),(16,4)],17,true,.agg [.v (.int .i64 0),zU,.v (.int .i64 0),.v (.int .i64 0),.v (.int .i64 0),.v (.int .i64 0),zU,zU,.v (.int .i64 0),.v (.int .i64 0),zU,zU,zU,.v (.int .i64 0),.v (.int .i64 0),.v (.bool false),.v (.bool false)],120,[]⟩))) (.node 96 (.leaf 95 ⟨.struct [(0,3),(1,26),(2,93),(7,26),(8,3),(9,3),(10,26),(11,26),(12,26),(13,3),(14,3),(15,4),(16,4)],17,true,.agg [.v (.int .i64 0),zU,.v (.int .i64 0),.v (.int .i64 0),.v (.int .i64 0),.v (.int .i64 0),zU,zU,.v (.int .i64 0),.v (.int .i64 0),zU,zU,zU,.v (.int .i64 0),.v (.int .i64 0),.v (.bool false),.v (.bool false)],120,[.i,.i,.i,.i,.i,.i,.i,.i,.i,.i,.i,.i,.i,.i,.i,.b,.b]⟩) (.node 97 (.leaf 96 gV) (.leaf 97 gV)))) (.node 101 (.node 99 (.leaf 98 ⟨.struct [(0,26),(1,9)],2,true,.agg [zU,.v (.string ⟨#[]⟩)],24,[]⟩) (.node 100 (.leaf 99 ⟨.struct [(0,26),(1,9)],2,true,.agg [zU,.v (.string ⟨#[]⟩)],24,[.i,.s]⟩) (.leaf 100 gV))) (.node 102 (.leaf 101 ⟨.struct [(0,40)],64,true,.agg [.v (.int .i64 0),.v (.int .i64 0),.v (.int .i64 0),.v (.int .i64 0),.v (.int .i64 0),.v (.int .i64 0),.v (.int .i64 0),.v (.int .i64 0),.sl 0 [] true,.v (.bool false),.sl 0 [] true,.sl 0 [] true,.v (.int .i64 0),zU,zU,zU,zU,zU,zU,zU,zU,zU,zU,zU,zU,zU,zU,zU,zU,zU,zU,zU,zU,zU,zU,zU,zU,zU,zU,zU,zU,zU,zU,zU,zU,zU,.v (.bool false),.sl 0 [] true,.sl 0 [] true,.v (.int .i64 0),.sl 0 [] true,.v (.int .i64 0),.sl 0 [] true,.v (.int .i64 0),.sl 0 [] true,.sl 0 [] true,.v (.int .i64 0),.v (.int .i64 0),.v (.string ⟨#[]⟩),.sl 0 [] true,zU,.sl 0 [] true,.v (.int .i64 0),.sl 0 [] true],576,[]⟩) (.node 103 (.leaf 102 ⟨.struct [(0,40)],64,true,.agg [.v (.int .i64 0),.v (.int .i64 0),.v (.int .i64 0),.v (.int .i64 0),.v (.int .i64 0),.v (.int .i64 0),.v (.int .i64 0),.v (.int .i64 0),.sl 0 [] true,.v (.bool false),.sl 0 [] true,.sl 0 [] true,.v (.int .i64 0),zU,zU,zU,zU,zU,zU,zU,zU,zU,zU,zU,zU,zU,zU,zU,zU,zU,zU,zU,zU,zU,zU,zU,zU,zU,zU,zU,zU,zU,zU,zU,zU,zU,.v (.bool false),.sl 0 [] true,.sl 0 [] true,.v (.int .i64 0),.sl 0 [] true,.v (.int .i64 0),.sl 0 [] true,.v (.int .i64 0),.sl 0 [] true,.sl 0 [] true,.v (.int .i64 0),.v (.int .i64 0),.v (.string ⟨#[]⟩),.sl 0 [] true,zU,.sl 0 [] true,.v (.int .i64 0),.sl 0 [] true],576,[]⟩) (.leaf 103 gV))))) (.node 112 (.node 108 (.node 105 (.leaf 104 ⟨.pointer,1,false,.v (.pointer none),8,[]⟩) (.node 107 (.leaf 105 ⟨.array 7 103,7,true,.agg [.v .nilFunc,.v .nilFunc,.v .nilFunc,.v .nilFunc,.v .nilFunc,.v .nilFunc,.v .nilFunc],56,[]⟩) (.leaf 107 gV))) (.node 109 (.leaf 108 gV) (.node 111 (.leaf 109 ⟨.int .i64,1,false,.v (.int .i64 0),8,[]⟩) (.leaf 111 gV)))) (.node 116 (.node 113 (.leaf 112 gV) (.node 114 (.leaf 113 gV) (.leaf 114 gV))) (.node 117 (.leaf 116 gV) (.node 119 (.leaf 117 gV) (.leaf 119 gV)))))))) (.node 200 (.node 159 (.node 138 (.node 130 (.node 125 (.node 121 (.leaf 120 gV) (.node 122 (.leaf 121 gV) (.leaf 122 gV))) (.node 126 (.leaf 125 gV) (.node 127 (.leaf 126 ⟨.struct [(0,26),(1,26)],2,true,.agg [zU,zU],8,[]⟩) (.leaf 127 ⟨.struct [(0,26),(1,26)],2,true,.agg [zU,zU],8,[.i,.i]⟩)))) (.node 133 (.node 131 (.leaf 130 ⟨.pointer,1,false,.v (.pointer none),8,[]⟩) (.node 132 (.leaf 131 gV) (.leaf 132 gV))) (.node 135 (.leaf 133 gV) (.node 136 (.leaf 135 ⟨.int .u64,1,false,.v (.int .u64 0),8,[]⟩) (.leaf 136 gV))))) (.node 152 (.node 148 (.node 145 (.leaf 138 gV) (.node 147 (.leaf 145 gV) (.leaf 147 gV))) (.node 149 (.leaf 148 gV) (.node 150 (.leaf 149 gV) (.leaf 150 gV)))) (.node 155 (.node 153 (.leaf 152 gV) (.node 154 (.leaf 153 gV) (.leaf 154 gV))) (.node 156 (.leaf 155 gV) (.node 157 (.leaf 156 gV) (.leaf 157 gV)))))) (.node 172 (.node 165 (.node 162 (.node 160 (.leaf 159 gV) (.node 161 (.leaf 160 gV) (.leaf 161 gV))) (.node 163 (.leaf 162 ⟨.slice 4,1,false,.sl 0 [] true,24,[]⟩) (.node 164 (.leaf 163 gV) (.leaf 164 gV)))) (.node 169 (.node 166 (.leaf 165 gV) (.node 168 (.leaf 166 gV) (.leaf 168 gV))) (.node 170 (.leaf 169 gV) (.node 171 (.leaf 170 gV) (.leaf 171 gV))))) (.node 193 (.node 190 (.node 174 (.leaf 172 gV) (.node 178 (.leaf 174 gV) (.leaf 178 gV))) (.node 191 (.leaf 190 gV) (.node 192 (.leaf 191 gV) (.leaf 192 gV)))) (.node 197 (.node 194 (.leaf 193 gV) (.node 195 (.leaf 194 gV) (.leaf 195 gV))) (.node 198 (.leaf 197 gV) (.node 199 (.leaf 198 gV) (.leaf 199 gV))))))) (.node 228 (.node 215 (.node 207 (.node 204 (.node 202 (.leaf 200 gV) (.node 203 (.leaf 202 gV) (.leaf 203 gV))) (.node 205 (.leaf 204 gV) (.node 206 (.leaf 205 gV) (.leaf 206 gV)))) (.node 212 (.node 209 (.leaf 207 gV) (.node 211 (.leaf 209 gV) (.leaf 211 gV))) (.node 213 (.leaf 212 gV) (.node 214 (.leaf 213 gV) (.leaf 214 gV))))) (.node 222 (.node 219 (.node 216 (.leaf 215 gV) (.node 218 (.leaf 216 gV) (.leaf 218 gV))) (.node 220 (.leaf 219 gV) (.node 221 (.leaf 220 gV) (.leaf 221 gV)))) (.node 225 (.node 223 (.leaf 222 gV) (.node 224 (.leaf 223 gV) (.leaf 224 gV))) (.node 226 (.leaf 225 gV) (.node 227 (.leaf 226 gV) (.leaf 227 gV)))))) (.node 252 (.node 236 (.node 232 (.node 229 (.leaf 228 gV) (.node 230 (.leaf 229 gV) (.leaf 230 ⟨.slice 255,1,false,.sl 0 [] true,24,[]⟩))) (.node 233 (.leaf 232 gV) (.node 234 (.leaf 233 ⟨.array 49 26,49,true,.agg [zU,zU,zU,zU,zU,zU,zU,zU,zU,zU,zU,zU,zU,zU,zU,zU,zU,zU,zU,zU,zU,zU,zU,zU,zU,zU,zU,zU,zU,zU,zU,zU,zU,zU,zU,zU,zU,zU,zU,zU,zU,zU,zU,zU,zU,zU,zU,zU,zU],196,[]⟩) (.leaf 234 gV)))) (.node 242 (.node 237 (.leaf 236 gV) (.node 239 (.leaf 237 gV) (.leaf 239 gV))) (.node 243 (.leaf 242 gV) (.node 247 (.leaf 243 gV) (.leaf 247 gV))))) (.node 261 (.node 255 (.node 253 (.leaf 252 gV) (.node 254 (.leaf 253 ⟨.int .u64,1,false,.v (.int .u64 0),8,[]⟩) (.leaf 254 ⟨.struct [(0,3),(1,3)],2,true,.agg [.v (.int .i64 0),.v (.int .i64 0)],16,[]⟩))) (.node 258 (.leaf 255 ⟨.struct [(0,3),(1,3)],2,true,.agg [.v (.int .i64 0),.v (.int .i64 0)],16,[]⟩) (.node 260 (.leaf 258 gV) (.leaf 260 gV)))) (.node 267 (.node 263 (.leaf 261 gV) (.node 264 (.leaf 263 ⟨.struct [(0,26),(1,3),(2,9),(3,4)],4,true,.agg [zU,.v (.int .i64 0),.v (.string ⟨#[]⟩),.v (.bool false)],40,[]⟩) (.leaf 264 ⟨.struct [(0,26),(1,3),(2,9),(3,4)],4,true,.agg [zU,.v (.int .i64 0),.v (.string ⟨#[]⟩),.v (.bool false)],40,[]⟩))) (.node 279 (.node 268 (.leaf 267 gV) (.leaf 268 gV)) (.node 280 (.leaf 279 gV) (.leaf 280 ⟨.pointer,1,false,.v (.pointer none),8,[]⟩))))))))
theorem Yr:RG Tryz.prog tys:=⟨⟨⟨⟨⟨⟨⟨eF Tryz.t1 Tryz.underlying1 trivial,⟨eF Tryz.t2 Tryz.underlying2 rfl,eF Tryz.t3 Tryz.underlying3 rfl⟩⟩,⟨eF Tryz.t4 Tryz.underlying4 rfl,⟨eF Tryz.t5 Tryz.underlying5 rfl,eF Tryz.t9 Tryz.underlying9 rfl⟩⟩⟩,⟨⟨eF Tryz.t12 Tryz.underlying12 rfl,⟨eF Tryz.t13 Tryz.underlying13 ⟨_,rfl,by kernel_rfl,by kernel_rfl⟩,eF Tryz.t21 Tryz.underlying21 rfl⟩⟩,⟨eF Tryz.t22 Tryz.underlying22 rfl,⟨eF Tryz.t23 Tryz.underlying23 rfl,eF Tryz.t24 Tryz.underlying24 ⟨_,rfl,by kernel_rfl,by kernel_rfl⟩⟩⟩⟩⟩,⟨⟨⟨eF Tryz.t25 Tryz.underlying25 ⟨_,rfl,by kernel_rfl,by kernel_rfl⟩,⟨eF Tryz.t26 Tryz.underlying26 rfl,eF Tryz.t27 Tryz.underlying27 rfl (λ _=>RF (d:=20) (inf:=Tryz.t26) (ks':=[.i]) Tryz.underlying27 (by kernel_rfl) (by kernel_rfl) (by kernel_rfl) (by kernel_rfl) (by kernel_rfl))⟩⟩,⟨eF Tryz.t28 Tryz.underlying28 rfl,⟨eF Tryz.t29 Tryz.underlying29 rfl,eF Tryz.t30 Tryz.underlying30 rfl⟩⟩⟩,⟨⟨eF Tryz.t31 Tryz.underlying31 rfl,⟨eF Tryz.t32 Tryz.underlying32 ⟨_,rfl,by kernel_rfl,by kernel_rfl⟩,eF Tryz.t33 Tryz.underlying33 ⟨_,rfl,by kernel_rfl,by kernel_rfl⟩⟩⟩,⟨eF Tryz.t34 Tryz.underlying34 rfl,⟨eF Tryz.t35 Tryz.underlying35 rfl,eF Tryz.t36 Tryz.underlying36 ⟨_,rfl,by kernel_rfl,by kernel_rfl⟩⟩⟩⟩⟩⟩,⟨⟨⟨⟨eF Tryz.t37 Tryz.underlying37 ⟨_,rfl,by kernel_rfl,by kernel_rfl⟩,⟨eF Tryz.t38 Tryz.underlying38 rfl,eF Tryz.t39 Tryz.underlying39 ⟨_,rfl,by kernel_rfl,by kernel_rfl⟩⟩⟩,⟨eF Tryz.t40 Tryz.underlying40 ⟨_,rfl,by kernel_rfl,by kernel_rfl⟩,⟨eF Tryz.t41 Tryz.underlying41 trivial,eF Tryz.t42 Tryz.underlying42 trivial⟩⟩⟩,⟨⟨eF Tryz.t43 Tryz.underlying43 trivial,⟨eF Tryz.t44 Tryz.underlying44 trivial,eF Tryz.t45 Tryz.underlying45 trivial⟩⟩,⟨eF Tryz.t46 Tryz.underlying46 trivial,⟨eF Tryz.t47 Tryz.underlying47 trivial,eF Tryz.t48 Tryz.underlying48 trivial⟩⟩⟩⟩,⟨⟨⟨eF Tryz.t49 Tryz.underlying49 trivial,⟨eF Tryz.t50 Tryz.underlying50 trivial,eF Tryz.t52 Tryz.underlying52 trivial⟩⟩,⟨eF Tryz.t53 Tryz.underlying53 ⟨_,rfl,by kernel_rfl,by kernel_rfl⟩,⟨eF Tryz.t54 Tryz.underlying54 ⟨_,rfl,by kernel_rfl,by kernel_rfl⟩ (λ _=>xX (d:=20) (by kernel_rfl)),eF Tryz.t55 Tryz.underlying55 trivial⟩⟩⟩,⟨⟨eF Tryz.t56 Tryz.underlying56 ⟨_,rfl,by kernel_rfl,by kernel_rfl⟩,⟨eF Tryz.t57 Tryz.underlying57 ⟨_,rfl,by kernel_rfl,by kernel_rfl⟩ (λ _=>xX (d:=20) (by kernel_rfl)),eF Tryz.t59 Tryz.underlying59 trivial⟩⟩,⟨eF Tryz.t60 Tryz.underlying60 trivial,⟨eF Tryz.t61 Tryz.underlying61 trivial,eF Tryz.t63 Tryz.underlying63 trivial⟩⟩⟩⟩⟩⟩,⟨⟨⟨⟨⟨eF Tryz.t65 Tryz.underlying65 trivial,⟨eF Tryz.t66 Tryz.underlying66 trivial,eF Tryz.t67 Tryz.underlying67 trivial⟩⟩,⟨eF Tryz.t68 Tryz.underlying68 ⟨_,rfl,by kernel_rfl,by kernel_rfl⟩,⟨eF Tryz.t69 Tryz.underlying69 ⟨_,rfl,by kernel_rfl,by kernel_rfl⟩ (λ _=>xX (d:=20) (by kernel_rfl)),eF Tryz.t70 Tryz.underlying70 trivial⟩⟩⟩,⟨⟨eF Tryz.t71 Tryz.underlying71 rfl,⟨eF Tryz.t74 Tryz.underlying74 trivial,eF Tryz.t75 Tryz.underlying75 ⟨_,rfl,by kernel_rfl,by kernel_rfl⟩⟩⟩,⟨eF Tryz.t76 Tryz.underlying76 ⟨_,rfl,by kernel_rfl,by kernel_rfl⟩,⟨eF Tryz.t78 Tryz.underlying78 rfl,eF Tryz.t79 Tryz.underlying79 ⟨_,rfl,by kernel_rfl,by kernel_rfl⟩⟩⟩⟩⟩,⟨⟨⟨eF Tryz.t80 Tryz.underlying80 ⟨_,rfl,by kernel_rfl,by kernel_rfl⟩ (λ _=>xX (d:=20) (by kernel_rfl)),⟨eF Tryz.t81 Tryz.underlying81 trivial,eF Tryz.t82 Tryz.underlying82 trivial⟩⟩,⟨eF Tryz.t83 Tryz.underlying83 trivial,⟨eF Tryz.t84 Tryz.underlying84 trivial,eF Tryz.t85 Tryz.underlying85 trivial⟩⟩⟩,⟨⟨eF Tryz.t86 Tryz.underlying86 trivial,⟨eF Tryz.t87 Tryz.underlying87 ⟨_,rfl,by kernel_rfl,by kernel_rfl⟩,eF Tryz.t88 Tryz.underlying88 ⟨_,rfl,by kernel_rfl,by kernel_rfl⟩ (λ _=>xX (d:=20) (by kernel_rfl))⟩⟩,⟨eF Tryz.t89 Tryz.underlying89 rfl,⟨eF Tryz.t90 Tryz.underlying90 trivial,eF Tryz.t91 Tryz.underlying91 trivial⟩⟩⟩⟩⟩,⟨⟨⟨⟨eF Tryz.t92 Tryz.underlying92 ⟨_,rfl,by kernel_rfl,by kernel_rfl⟩,⟨eF Tryz.t93 Tryz.underlying93 ⟨_,rfl,by kernel_rfl,by kernel_rfl⟩ (λ _=>xX (d:=20) (by kernel_rfl)),eF Tryz.t94 Tryz.underlying94 ⟨_,rfl,by kernel_rfl,by kernel_rfl⟩⟩⟩,⟨eF Tryz.t95 Tryz.underlying95 ⟨_,rfl,by kernel_rfl,by kernel_rfl⟩ (λ _=>xX (d:=20) (by kernel_rfl)),⟨eF Tryz.t96 Tryz.underlying96 trivial,eF Tryz.t97 Tryz.underlying97 trivial⟩⟩⟩,⟨⟨eF Tryz.t98 Tryz.underlying98 ⟨_,rfl,by kernel_rfl,by kernel_rfl⟩,⟨eF Tryz.t99 Tryz.underlying99 ⟨_,rfl,by kernel_rfl,by kernel_rfl⟩ (λ _=>xX (d:=20) (by kernel_rfl)),eF Tryz.t100 Tryz.underlying100 trivial⟩⟩,⟨eF Tryz.t101 Tryz.underlying101 ⟨_,rfl,by kernel_rfl,by kernel_rfl⟩,⟨eF Tryz.t102 Tryz.underlying102 ⟨_,rfl,by kernel_rfl,by kernel_rfl⟩,eF Tryz.t103 Tryz.underlying103 trivial⟩⟩⟩⟩,⟨⟨⟨eF Tryz.t104 Tryz.underlying104 trivial,⟨eF Tryz.t105 Tryz.underlying105 rfl,eF Tryz.t107 Tryz.underlying107 trivial⟩⟩,⟨eF Tryz.t108 Tryz.underlying108 trivial,⟨eF Tryz.t109 Tryz.underlying109 rfl,eF Tryz.t111 Tryz.underlying111 trivial⟩⟩⟩,⟨⟨eF Tryz.t112 Tryz.underlying112 trivial,⟨eF Tryz.t113 Tryz.underlying113 trivial,eF Tryz.t114 Tryz.underlying114 trivial⟩⟩,⟨eF Tryz.t116 Tryz.underlying116 trivial,⟨eF Tryz.t117 Tryz.underlying117 trivial,eF Tryz.t119 Tryz.underlying119 trivial⟩⟩⟩⟩⟩⟩⟩,⟨⟨⟨⟨⟨⟨eF Tryz.t120 Tryz.underlying120 trivial,⟨eF Tryz.t121 Tryz.underlying121 trivial,eF Tryz.t122 Tryz.underlying122 trivial⟩⟩,⟨eF Tryz.t125 Tryz.underlying125 trivial,⟨eF Tryz.t126 Tryz.underlying126 ⟨_,rfl,by kernel_rfl,by kernel_rfl⟩,eF Tryz.t127 Tryz.underlying127 ⟨_,rfl,by kernel_rfl,by kernel_rfl⟩ (λ _=>xX (d:=20) (by kernel_rfl))⟩⟩⟩,⟨⟨eF Tryz.t130 Tryz.underlying130 trivial,⟨eF Tryz.t131 Tryz.underlying131 trivial,eF Tryz.t132 Tryz.underlying132 trivial⟩⟩,⟨eF Tryz.t133 Tryz.underlying133 trivial,⟨eF Tryz.t135 Tryz.underlying135 rfl,eF Tryz.t136 Tryz.underlying136 trivial⟩⟩⟩⟩,⟨⟨⟨eF Tryz.t138 Tryz.underlying138 trivial,⟨eF Tryz.t145 Tryz.underlying145 trivial,eF Tryz.t147 Tryz.underlying147 trivial⟩⟩,⟨eF Tryz.t148 Tryz.underlying148 trivial,⟨eF Tryz.t149 Tryz.underlying149 trivial,eF Tryz.t150 Tryz.underlying150 trivial⟩⟩⟩,⟨⟨eF Tryz.t152 Tryz.underlying152 trivial,⟨eF Tryz.t153 Tryz.underlying153 trivial,eF Tryz.t154 Tryz.underlying154 trivial⟩⟩,⟨eF Tryz.t155 Tryz.underlying155 trivial,⟨eF Tryz.t156 Tryz.underlying156 trivial,eF Tryz.t157 Tryz.underlying157 trivial⟩⟩⟩⟩⟩,⟨⟨⟨⟨eF Tryz.t159 Tryz.underlying159 trivial,⟨eF Tryz.t160 Tryz.underlying160 trivial,eF Tryz.t161 Tryz.underlying161 trivial⟩⟩,⟨eF Tryz.t162 Tryz.underlying162 rfl,⟨eF Tryz.t163 Tryz.underlying163 trivial,eF Tryz.t164 Tryz.underlying164 trivial⟩⟩⟩,⟨⟨eF Tryz.t165 Tryz.underlying165 trivial,⟨eF Tryz.t166 Tryz.underlying166 trivial,eF Tryz.t168 Tryz.underlying168 trivial⟩⟩,⟨eF Tryz.t169 Tryz.underlying169 trivial,⟨eF Tryz.t170 Tryz.underlying170 trivial,eF Tryz.t171 Tryz.underlying171 trivial⟩⟩⟩⟩,⟨⟨⟨eF Tryz.t172 Tryz.underlying172 trivial,⟨eF Tryz.t174 Tryz.underlying174 trivial,eF Tryz.t178 Tryz.underlying178 trivial⟩⟩,⟨eF Tryz.t190 Tryz.underlying190 trivial,⟨eF Tryz.t191 Tryz.underlying191 trivial,eF Tryz.t192 Tryz.underlying192 trivial⟩⟩⟩,⟨⟨eF Tryz.t193 Tryz.underlying193 trivial,⟨eF Tryz.t194 Tryz.underlying194 trivial,eF Tryz.t195 Tryz.underlying195 trivial⟩⟩,⟨eF Tryz.t197 Tryz.underlying197 trivial,⟨eF Tryz.t198 Tryz.underlying198 trivial,eF Tryz.t199 Tryz.underlying199 trivial⟩⟩⟩⟩⟩⟩,⟨⟨⟨⟨⟨eF Tryz.t200 Tryz.underlying200 trivial,⟨eF Tryz.t202 Tryz.underlying202 trivial,eF Tryz.t203 Tryz.underlying203 trivial⟩⟩,⟨eF Tryz.t204 Tryz.underlying204 trivial,⟨eF Tryz.t205 Tryz.underlying205 trivial,eF Tryz.t206 Tryz.underlying206 trivial⟩⟩⟩,⟨⟨eF Tryz.t207 Tryz.underlying207 trivial,⟨eF Tryz.t209 Tryz.underlying209 trivial,eF Tryz.t211 Tryz.underlying211 trivial⟩⟩,⟨eF Tryz.t212 Tryz.underlying212 trivial,⟨eF Tryz.t213 Tryz.underlying213 trivial,eF Tryz.t214 Tryz.underlying214 trivial⟩⟩⟩⟩,⟨⟨⟨eF Tryz.t215 Tryz.underlying215 trivial,⟨eF Tryz.t216 Tryz.underlying216 trivial,eF Tryz.t218 Tryz.underlying218 trivial⟩⟩,⟨eF Tryz.t219 Tryz.underlying219 trivial,⟨eF Tryz.t220 Tryz.underlying220 trivial,eF Tryz.t221 Tryz.underlying221 trivial⟩⟩⟩,⟨⟨eF Tryz.t222 Tryz.underlying222 trivial,⟨eF Tryz.t223 Tryz.underlying223 trivial,eF Tryz.t224 Tryz.underlying224 trivial⟩⟩,⟨eF Tryz.t225 Tryz.underlying225 trivial,⟨eF Tryz.t226 Tryz.underlying226 trivial,eF Tryz.t227 Tryz.underlying227 trivial⟩⟩⟩⟩⟩,⟨⟨⟨⟨eF Tryz.t228 Tryz.underlying228 trivial,⟨eF Tryz.t229 Tryz.underlying229 trivial,eF Tryz.t230 Tryz.underlying230 rfl⟩⟩,⟨eF Tryz.t232 Tryz.underlying232 trivial,⟨eF Tryz.t233 Tryz.underlying233 rfl,eF Tryz.t234 Tryz.underlying234 trivial⟩⟩⟩,⟨⟨eF Tryz.t236 Tryz.underlying236 trivial,⟨eF Tryz.t237 Tryz.underlying237 trivial,eF Tryz.t239 Tryz.underlying239 trivial⟩⟩,⟨eF Tryz.t242 Tryz.underlying242 trivial,⟨eF Tryz.t243 Tryz.underlying243 trivial,eF Tryz.t247 Tryz.underlying247 trivial⟩⟩⟩⟩,⟨⟨⟨eF Tryz.t252 Tryz.underlying252 trivial,⟨eF Tryz.t253 Tryz.underlying253 rfl,eF Tryz.t254 Tryz.underlying254 ⟨_,rfl,by kernel_rfl,by kernel_rfl⟩⟩⟩,⟨eF Tryz.t255 Tryz.underlying255 ⟨_,rfl,by kernel_rfl,by kernel_rfl⟩,⟨eF Tryz.t258 Tryz.underlying258 trivial,eF Tryz.t260 Tryz.underlying260 trivial⟩⟩⟩,⟨⟨eF Tryz.t261 Tryz.underlying261 trivial,⟨eF Tryz.t263 Tryz.underlying263 ⟨_,rfl,by kernel_rfl,by kernel_rfl⟩,eF Tryz.t264 Tryz.underlying264 ⟨_,rfl,by kernel_rfl,by kernel_rfl⟩⟩⟩,⟨⟨eF Tryz.t267 Tryz.underlying267 trivial,eF Tryz.t268 Tryz.underlying268 trivial⟩,⟨eF Tryz.t279 Tryz.underlying279 trivial,eF Tryz.t280 Tryz.underlying280 trivial⟩⟩⟩⟩⟩⟩⟩⟩
def EC:List AV:=Un.map λ k=>.v (.int .u32 (k:Nat))
noncomputable def C0:Ctx:={P:=Tryz.prog,ty:=tys.find,G:=λ g=>match g with|0=>some EC|_=>none,H:=pL Tryz.prog (λ g=>match g with|0=>some EC|_=>none)}
theorem c0Ok:CtxOk C0:=⟨TT.find_ok tys Yr,by kernel_rfl,λ _ _ _ _ _ h=>h⟩
theorem Gr(k:Nat)(hk:k<49):EC[k]?=some (.v (.int .u32 (code k))):=by
 have:∀ k,k<49→Un[k]?=some (code k):=by decide
 simp only[EC,aZ,this k hk,dI]
theorem aa6{S:Nat→Prop}{w:World}(h:Eb w)(hS:S 0):GOk C0 S w:=λ g cells hg=>by
 match g,hg with
 | 0,hg=>
  injection hg with hg;subst hg;have hget:∀ (j:Nat) a,EC[j]?=some a→j<49:=λ j a hj=>(DK.1 hj).1;exact .dp EC.length 0 EC 0 0 (λ k=>.int .u32 (code k)) rfl hS (λ j a hj=>by rw[bR];exact h j (hget j a hj)) (λ _=>rfl) λ j a hj=>by
   rw[Gr j (hget j a hj)]at hj;injection hj with hj;subst hj;exact .v _
theorem CB{S:Nat→Prop}{w:World}(h:GOk C0 S w):Eb w:=by
 have:=h 0 EC rfl;generalize hp:Value.pointer (some (⟨0,0,none⟩:Addr))=p at this
 cases this with
 |dp _ _ _ b o u hrs hb hw h1 hr=>
  simp only[Value.pointer.injEq,Option.some.injEq,Addr.mk.injEq]at hp;obtain⟨rfl,ho, -⟩:=hp;obtain rfl:o=0:=by omega
  intro k hk;have e:=Gr k hk;have:=hw k _ e;rw[bR]at this;rw[this,lH (hr k _ e)]
structure St where
 pc:Nat
 r:Nat→Nat
 mem:ByteArray
 halt:Int
structure Sp where
 pc:Nat
 next:Nat
 rd:Int
 value:Nat
 addr:Nat
 size:Int
 store:Bool
 halt:Int
 took:Int
abbrev stL(pc:Nat)(r:Nat→Nat)(m:ByteArray)(h:Int):List AV:=
 [.v (.int .u32 (pc:Int)),.v (.int .u32 (r 0:Int)),.v (.int .u32 (r 1:Int)),.v (.int .u32 (r 2:Int)),.v (.int .u32 (r 3:Int)),.v (.int .u32 (r 4:Int)),.v (.int .u32 (r 5:Int)),.v (.int .u32 (r 6:Int)),.v (.int .u32 (r 7:Int)),.v (.int .u32 (r 8:Int)),.v (.int .u32 (r 9:Int)),.v (.int .u32 (r 10:Int)),.v (.int .u32 (r 11:Int)),.v (.int .u32 (r 12:Int)),.v (.int .u32 (r 13:Int)),.v (.int .u32 (r 14:Int)),.v (.int .u32 (r 15:Int)),.v (.int .u32 (r 16:Int)),.v (.int .u32 (r 17:Int)),.v (.int .u32 (r 18:Int)),.v (.int .u32 (r 19:Int)),.v (.int .u32 (r 20:Int)),.v (.int .u32 (r 21:Int)),.v (.int .u32 (r 22:Int)),.v (.int .u32 (r 23:Int)),.v (.int .u32 (r 24:Int)),.v (.int .u32 (r 25:Int)),.v (.int .u32 (r 26:Int)),.v (.int .u32 (r 27:Int)),.v (.int .u32 (r 28:Int)),.v (.int .u32 (r 29:Int)),.v (.int .u32 (r 30:Int)),.v (.int .u32 (r 31:Int)),.v (.string m),.v (.int .i64 h)]
abbrev stA(s:St):AV:=.agg (stL s.pc s.r s.mem s.halt)
abbrev spL(x:Sp):List AV:=[.v (.int .u32 (x.pc:Int)),.v (.int .u32 (x.next:Int)),.v (.int .i64 x.rd),.v (.int .u32 (x.value:Int)),.v (.int .u32 (x.addr:Int)),.v (.int .i64 x.size),.v (.bool x.store),.v (.int .i64 x.halt),.v (.int .i64 x.took)]
abbrev spA(x:Sp):AV:=.agg (spL x)
abbrev siA(i:SI):AV:=.agg [.v (.int .i64 i.op),.v (.int .i64 i.rd),.v (.int .i64 i.rs1),.v (.int .i64 i.rs2),.v (.int .u32 (i.imm:Int))]
abbrev two(x:St×Sp):AV:=.tup [stA x.1,spA x.2]
structure St.ok(s:St):Prop where
 pc:s.pc≤4294967295
 r:∀ k,s.r k≤4294967295
 mem:s.mem.size≤256
def Wh(r:Nat→Nat)(k v:Nat):Nat→Nat:=λ j=>if j=k then v else r j
def wr(i:SI):Int:=if uA (cL i.op)then i.rd else 0
def fetchP(prog:List Nat)(pc:Nat):Option Nat:=if pc % 4=0 then prog[pc / 4]? else none
def Wi(m:ByteArray)(addr n:Nat):ByteArray:=m.extract addr (addr+n)
def up4(pc:Nat):Nat:=(pc+4) % 4294967296
def valB(b n:Nat):Nat:=joinTo (rY b n).data.toList (rY b n).size
def fetchW(prog:List Nat)(pc:Nat):Nat:=(fetchP prog pc).getD 0
def Za:AV→Option Value
 | .tup cs=>match IF cs with|some l=>some (.tuple l.toArray)|none=>none
 |x=>RE x
theorem SZ{S:Nat→Prop}{w:World}{β:Bt}{a:AV}{u:Value}(h:Za a=some u):Rep S w β a u:=by
 cases a with
 | tup cs=>
  simp only[Za]at h;split at h
  ·rename_i l hl;injection h with h;subst h;have:=Dw (S:=S) (w:=w) (β:=β) hl;exact .tup cs l.toArray (by simpa using this.1) λ i a u h1 h2=>this.2 i a u h1 (by simpa using h2)
  ·cases h
 |_=>exact GM h
theorem bT.of_tupG{C:Ctx}{f:FuncId}{fn:Func}{args:List AV}{vs:List Value}{r:AV}{v:Value}(hf:C.P.funcs[f]?=some fn)(hb:fn.body.isSome=true)(hnm:(fn.name== "runtime.NumGoroutine")=false)
  (ha:IF args=some vs) (hr:Za r=some v) (hc:∀ S w,GOk C S w→Calls C.P f vs.toArray w λ e w'=>e=.returned v∧Below w.heap.size w w'):bT C f args r:=
 ⟨⟨fn,hf,hb,hnm⟩,λ S w us hS hG hu=>by
  rw[Ks ha hu];exact (hc S w hG).mono λ e w' ⟨he,hB⟩=>⟨v,he,hB,SZ hr⟩⟩
theorem bT.of_tup{C:Ctx}{f:FuncId}{fn:Func}{args:List AV}{vs:List Value}{r:AV}{v:Value}(hf:C.P.funcs[f]?=some fn)(hb:fn.body.isSome=true)(hnm:(fn.name== "runtime.NumGoroutine")=false)
  (ha:IF args=some vs) (hr:Za r=some v) (hc:∀ w,Calls C.P f vs.toArray w λ e w'=>e=.returned v∧Below w.heap.size w w'):bT C f args r:=
 .of_tupG hf hb hnm ha hr λ _ w _=>hc w
section
variable (i:SI)
theorem qR:bT C0 99 [siA i] (.v (.int .i64 ((kindOf i.op:Nat):Int))):=
 .of_flat Tryz.func99 rfl rfl rfl rfl λ w=>Ii i.op i.rd i.rs1 i.rs2 i.imm w
theorem Ie:bT C0 152 [siA i] (.v (.int .i64 ((dB i.op:Nat):Int))):=
 .of_flat Tryz.func152 rfl rfl rfl rfl λ w=>MF i.op i.rd i.rs1 i.rs2 i.imm w
theorem Ig:bT C0 148 [siA i] (.v (.int .i64 (wr i))):=
 .of_flat Tryz.func148 rfl rfl rfl rfl λ w=>NO i.op i.rd i.rs1 i.rs2 i.imm w
theorem Qg(pc a b:Nat)(hi:i.imm<4294967296)(hp:pc<4294967296)(ha:a<4294967296)(hb:b<4294967296):bT C0 211 [siA i,.v (.int .u32 (pc:Int)),.v (.int .u32 (a:Int)),.v (.int .u32 (b:Int))] (.tup [.v (.int .u32 ((wS i.op i.imm pc a b:Nat):Int)),.v (.bool (decide (wS i.op i.imm pc a b % 4=0)))]):=
 .of_tup Tryz.func211 rfl rfl rfl rfl λ w=>NM i.op i.rd i.rs1 i.rs2 i.imm pc a b w hi hp ha hb
theorem Yp(pc a b:Nat)(hi:i.imm<4294967296)(hp:pc<4294967296)(ha:a<4294967296)(hb:b<4294967296):bT C0 209 [siA i,.v (.int .u32 (pc:Int)),.v (.int .u32 (a:Int)),.v (.int .u32 (b:Int))] (.v (.int .u32 ((Qj i.op i.imm pc a b:Nat):Int))):=
 .of_flat Tryz.func209 rfl rfl rfl rfl λ w=>Qk i.op i.rd i.rs1 i.rs2 i.imm pc a b w hi hp ha hb
theorem Yq(op:Int)(a b:Nat)(ha:a<4294967296)(hb:b<4294967296):bT C0 210 [.v (.int .i64 op),.v (.int .u32 (a:Int)),.v (.int .u32 (b:Int))] (.v (.int .i64 (zF op a b))):=
 .of_flat Tryz.func210 rfl rfl rfl rfl λ w=>(Tb op a b w ha hb).mono λ _ _ ⟨h1,h2⟩=>⟨h1,h2 ▸ Below.refl _ _⟩
theorem Qh(size:Int)(addr:Nat)(many:Int)(hs:size<9223372036854775808)(ha:addr<4294967296):bT C0 50 [.v (.int .i64 size),.v (.int .u32 (addr:Int)),.v (.int .i64 many)] (.v (.bool (nM size addr many))):=
 .of_flat Tryz.func50 rfl rfl rfl rfl λ w=>(Qp size addr many w hs ha).mono λ _ _ ⟨h1,h2⟩=>⟨h1,h2 ▸ Below.refl _ _⟩
theorem Qi(x n:Nat)(hx:x<4294967296)(hn:n≤4):bT C0 159 [.v (.int .u32 (x:Int)),.v (.int .i64 (n:Int))] (.tup [.v (.string (rY x n)),.v (.int .i64 0)]):=
 .of_tup Tryz.func159 rfl rfl rfl rfl λ w=>Qs x n w hx hn
theorem ZD(s:ByteArray)(hs:s.size≤4):bT C0 196 [.v (.string s)] (.tup [.v (.int .u32 ((joinTo s.data.toList s.size:Nat):Int)),.v (.int .i64 0)]):=
 .of_tup Tryz.func196 rfl rfl rfl rfl λ w=>(MH s w hs).mono λ _ _ ⟨h1,h2⟩=>⟨h1,h2 ▸ Below.refl _ _⟩
theorem ZE(op:Int)(s:ByteArray)(hs:s.size<9223372036854775808):bT C0 149 [.v (.int .i64 op),.v (.string s)] (.v (.int .u32 ((loadP op s:Nat):Int))):=
 .of_flat Tryz.func149 rfl rfl rfl rfl λ w=>Td op s w hs
end
end Go.Proofs.YtlhofpglndhfaaaGreatDoor
