/- Joined texts. -/
import Derived.DataReads
import Derived.Deep.Strs
import Derived.Test.YtlhofpglndhfaaaGreatDoorProg
import Derived.KernelRfl
import Derived.Test.YtlhofpglndhfaaaGreatDoorS101
import Derived.Test.YtlhofpglndhfaaaGreatDoorS107
import Derived.Test.YtlhofpglndhfaaaGreatDoorS127
set_option linter.unusedVariables false
set_option linter.unusedSimpArgs false
namespace Go.Proofs.YtlhofpglndhfaaaGreatDoor
open Go.RowKit
def tU(N:Nat):Code→Bool
 | .region _ ops dr=>uJ N ops.toList&&(!dr||EQ ops.toList||IF ops.toList)
 | .seq a b=>tU N a&&tU N b
 | .cond _ a b=>tU N a&&tU N b
 | .block _ b=>tU N b
 | .loop b=>tU N b
 |_=>true
def Fm:AEx→Exit
 | .normal=>.normal
 | .exit i=>.exit i
 | .ret=>.ret
def Aft(C:Ctx)(V:Inv C.fr)(w0:World)(S0:Nat→Prop)(N:Nat)(Q:AEx→ASt→Prop)(e:Exit)(a:Act)(w:World):Prop:=∃ e' st S β,e=Fm e'∧Q e' st∧SimD C V w0 S0 N (· <st.n) st.t st.h a w S β
section
variable {C:Ctx}{V:Inv C.fr}{N:Nat}{w0:World}{S0:Nat→Prop}
theorem pH(σ:Nat→Nat):∀ (cs:List AV) (i:Nat),(Au σ cs)[i]?=(cs[i]?).map (tY σ)
 |[],i=>by simp[Au]
 |c::cs,0=>by simp[Au]
 |c::cs,i+1=>by simp[Au,pH σ cs i]
theorem sZ(σ:Nat→Nat):∀ (cs:List AV),(Au σ cs).length=cs.length
 |[]=>rfl
 |c::cs=>by simp[Au,sZ σ cs]
theorem sH(n:Nat):∀ (cs:List AV),mJ n cs=true→∀ (i:Nat) a,cs[i]?=some a→mI n a=true
 |[],_,i,a,h=>by simp at h
 | c::cs,hb,i,a,hi=>by
  simp only[mJ]at hb;split at hb
  ·rename_i hc
   cases i with
   |zero=>simp at hi;subst hi;exact hc
   |succ i=>exact sH n cs hb i a (by simpa using hi)
  ·cases hb
theorem Fn:∀ (cs:List AV) (i:Nat) a,cs[i]?=some a→SizeOf.sizeOf a<SizeOf.sizeOf cs
 |[],i,a,h=>by simp at h
 |c::cs,0,a,h=>by simp at h;subst h;simp;omega
 |c::cs,i+1,a,h=>by
  have:=Fn cs i a (by simpa using h);simp;omega
theorem BS{S:Nat→Prop}{w:World}{β:Bt}{n:Nat}{σ:Nat→Nat}:∀ (k:Nat) (a:AV) (v:Value),SizeOf.sizeOf a≤k→mI n a=true→Rep S w β (tY σ a) v→Rep S w (λ s=>if s<n then β (σ s)else none) a v:=by
 intro k
 induction k with
 |zero=>intro a v hk;cases a<;>simp at hk
 | succ k ih=>
  intro a v hk hb hr;have site:∀ s l,Nat.blt s n=true→β (σ s)=some l→(λ s=>if s<n then β (σ s)else none) s=some l:=λ s l h1 h2=>by
   have:s<n:=aO h1;simp only[this,kV,h2]
  have list:∀ (cs:List AV) (us:Array Value),SizeOf.sizeOf cs≤k→mJ n cs=true→(∀ (i:Nat) a u,(Au σ cs)[i]?=some a→us[i]?=some u→Rep S w β a u)→∀ (i:Nat) a u,cs[i]?=some a→us[i]?=some u→Rep S w (λ s=>if s<n then β (σ s)else none) a u:=by
   intro cs us hs hb h i a u p q;have:=Fn cs i a p;exact ih a u (by omega) (sH n cs hb i a p) (h i (tY σ a) u (by rw[pH,p];rfl) q)
  cases a with
  |v x=>
   simp only[tY]at hr;cases hr
   exact .v _
  |agg cs=>
   simp only[tY]at hr
   cases hr with
   |agg _ vs hl h1 h=>exact .agg cs vs (by rw[←sZ σ cs];exact hl) h1 (list cs vs (by simp at hk;omega) (by simpa [mI]using hb) h)
  |tup cs=>
   simp only[tY]at hr
   cases hr with
   |tup _ vs hl h=>exact .tup cs vs (by rw[←sZ σ cs];exact hl) (list cs vs (by simp at hk;omega) (by simpa [mI]using hb) h)
  |sl rs rows clip=>
   simp only[tY]at hr
   cases hr with
   |sl _ _ _ A c b o u hc hm hcl hrs hA hw h1 hr=>exact .sl rs rows clip A c b o u hc hm hcl hrs hA hw h1 hr
  |dp rs col row=>
   simp only[tY]at hr
   cases hr with
   |dp _ _ _ b o u hrs hb hw h1 hr=>exact .dp rs col row b o u hrs hb hw h1 hr
  |ptr s c=>
   simp only[tY]at hr
   cases hr with
   |ptr _ _ l hl=>exact .ptr s c l (site s l hb hl)
  |ptr2 s r c=>
   simp only[tY]at hr
   cases hr with
   |ptr2 _ _ _ l hl=>exact .ptr2 s r c l (site s l hb hl)
  |osl s lo len clip=>
   simp only[tY]at hr
   cases hr with
   |osl _ _ _ _ l A c hl hc hm hcl hA cs e fr hb' room=>exact .osl s lo len clip l A c (site s l hb hl) hc hm hcl hA cs e fr hb' room
  | clo f a b=>
   simp only[tY]at hr;simp only[mI]at hb;split at hb
   ·rename_i ha
    cases hr with
    |clo _ _ _ vs us hl h hl' h'=>exact .clo f a b vs us (by rw[←sZ σ a];exact hl) (list a vs (by simp at hk;omega) ha h) (by rw[←sZ σ b];exact hl') (list b us (by simp at hk;omega) hb h')
   ·cases hb
  |opt g x=>
   simp only[tY]at hr
   cases hr with
   |optT _ _ _ hg h=>exact .optT g x v hg (ih x v (by simp at hk;omega) (by simpa [mI]using hb) h)
   |optF _ _ hg=>exact .optF g x hg
  |any=>exact .any v
theorem pI{st st':ASt}{σ:Nat→Nat}(W:Weak st st' σ)(hf:keepB C.fr σ st'.n=true){a:Act}{w:World}{S:Nat→Prop}{β:Bt}(M:SimD C V w0 S0 N (· <st.n) st.t st.h a w S β):SimD C V w0 S0 N (· <st'.n) st'.t st'.h a w S (λ s=>if s<st'.n then β (σ s)else none):=by
 refine⟨λ i=>?_,⟨λ s blk hs=>?_,λ s s' l l' h1 h2 e1 e2 hb=>?_,M.H.lt,M.H.big⟩,M.B,λ x l hx=>?_,M.df,M.sz,M.G,M.nw,V.weak M.iv hf⟩
 ·rcases W.t i with h|⟨h,hb⟩
  ·rw[h];exact .any _
  ·have:=M.T i;rw[h]at this;exact BS _ _ _ (aC _) hb this
 ·obtain⟨h1,h2,h3⟩:=W.h s blk hs;obtain⟨l,cs,e,fr,k1,k2,k3,k4,k5,k6⟩:=M.H.own _ _ h2;refine⟨l,cs,e,fr,by simp only[h1,kV];exact k1,k2,k3,k4,k5,?_⟩
  cases blk with
  |box cells=>
   intro j a hj;obtain⟨u,q1,q2,q3⟩:=k6 j (tY σ a) (by rw[pH,hj];rfl)
   exact⟨u,q1,q2,BS _ _ _ (aC _) (sH _ cells (by simpa [qF]using h3) j a hj) q3⟩
  |arr rows rs=>exact k6
  |row cells=>
   refine⟨k6.1,λ j a hj=>?_⟩;obtain⟨u,q1,q2,q3⟩:=k6.2 j (tY σ a) (by rw[pH,hj];rfl);exact⟨u,q1,q2,BS _ _ _ (aC _) (sH _ cells (by simpa [qF]using h3) j a hj) q3⟩
 ·have get:∀ s l,st'.h s≠none→(if s<st'.n then β (σ s)else none)=some l→st.h (σ s)≠none∧β (σ s)=some l:=by
   intro s l hs hl
   cases hq:st'.h s with
   |none=>exact absurd hq hs
   |some blk=>
    obtain⟨h1,h2,h3⟩:=W.h s blk hq;rw[if_pos h1]at hl;exact⟨by rw[h2];simp,hl⟩
  obtain⟨a1,a2⟩:=get s l h1 e1;obtain⟨b1,b2⟩:=get s' l' h2 e2;exact W.inj s s' h1 h2 (M.H.inj _ _ _ _ a1 b1 a2 b2 hb)
 ·show x<st'.n;by_cases h:x<st'.n
  ·exact h
  ·simp only[h,iG]at hx;cases hx
theorem Gv{fz:Fz}{S S':Nat→Prop}{w:World}{β:Bt}(hS:∀ b,S b→S' b)
  (hz:∀ x rs rows,fz=some (x,rs,rows)→∀ l,β x=some l→S' l.blk∧∃ cs e fr,w.heap[l.blk]?=some (.cells cs e fr)∧At S w β l cs (.arr rows rs)):
  ∀ {a b:AV} {v:Value},LeZ fz a b→Rep S w β a v→Rep S' w β b v:=by
 intro a b v hab
 induction hab generalizing v with
 |refl a=>intro h;exact h.mono hS (Evo.refl _ _) (Lv.refl _)
 |any a=>intro _;exact .any _
 | nil rs c=>
  intro h
  cases h with
  |sl _ _ _ A c0 b o u hc hm hcl hrs hA hw h1 hr=>
   exact .sl rs [] c A c0 b o u hc hm (λ _=>hcl rfl) (λ _ h=>by cases h) (λ h=>absurd h (dS 0)) (λ i row j a h=>by simp at h) h1 λ i row j a h=>by simp at h
 |emp rs A k c hk hc=>
  intro h;cases lK h
  exact .sl rs [] c A k 0 0 (λ _ _=>.bool false) (aE _) hk hc (λ _ h=>by cases h) (λ h=>absurd h (dS 0)) (λ i row j a h=>by simp at h) (λ _ _=>rfl) λ i row j a h=>by simp at h
 | clip rs rows=>
  intro h
  cases h with
  |sl _ _ _ A c0 b o u hc hm hcl hrs hA hw h1 hr=>
   exact (Rep.sl rs rows false A c0 b o u hc hm (λ h=>by cases h) hrs hA hw h1 hr).mono hS (Evo.refl _ _) (Lv.refl _)
 |oclip s lo len=>
  intro h
  cases h with
  |osl _ _ _ _ l A c hl hc hm hcl hA cs e fr hb room=>exact .osl s lo len false l A c hl hc hm (λ h=>by cases h) hA cs e fr hb room
 | frz b rs lo len rows c c' hfz hl hcc=>
  intro h
  cases h with
  | osl _ _ _ _ l A cp hl' hc hm hcl hA cs0 e0 fr0 hb0 room=>
   obtain⟨hSb,cs,e,fr,hb,k1,k2,k3⟩:=hz b rs rows hfz l hl';rw[hb0]at hb;injection hb with hb;injection hb with q1 q2 q3;subst q1;subst q2;subst q3;have hlen:((rows.drop lo).take len).length=len:=by rw[aN,aY];omega
   have get:∀ (i:Nat) row,((rows.drop lo).take len)[i]?=some row→rows[lo+i]?=some row:=λ i row hi=>by
    have hil:i<len:=by have:=(Dq.1 hi).1;omega
    rwa [cP,if_pos hil,cJ]at hi
   have key:=Rep.sl (S:=S') (w:=w) (β:=β) rs ((rows.drop lo).take len) c' A cp l.blk (l.base+lo * l.rs) (λ i j=>if (cs0[l.base+(lo+i) * rs+j]?.getD (.bool false)).oneCell'=true then cs0[l.base+(lo+i) * rs+j]?.getD (.bool false)else .bool false)
    (by rw[hlen];exact hc) hm (λ h=>by rw[hlen];exact hcl (hcc h)) (λ row hr=>k2 row (eR (cL hr)))
    (λ h0=>⟨hA (by omega),hSb⟩) (λ i row j a hi hj=>?_) (λ i j=>?_) (λ i row j a hi hj=>?_)
   ·rw[hlen]at key;exact key
   ·obtain⟨u,p1,p2,p3⟩:=k3 (lo+i) row j a (get i row hi) hj;rw[gK hb0,k1,show l.base+lo * rs+i * rs+j=l.base+(lo+i) * rs+j by rw[cC];omega,p1];simp[p2]
   ·split
    ·assumption
    ·rfl
   ·obtain⟨u,p1,p2,p3⟩:=k3 (lo+i) row j a (get i row hi) hj;simp only[p1,gF,p2,kV]
    exact p3.mono hS (Evo.refl _ _) (Lv.refl _)
 | agg cs ds hl h ih=>
  intro hr
  cases hr with
  |agg _ vs hl' h1 h'=>
   refine .agg ds vs (hl ▸ hl') h1 λ i a u p q=>?_;have hi:i<cs.length:=by rw[hl];exact (Dq.1 p).1
   exact ih i cs[i] a (aA hi) p (h' i _ u (aA hi) q)
 | tup cs ds hl h ih=>
  intro hr
  cases hr with
  |tup _ vs hl' h'=>
   refine .tup ds vs (hl ▸ hl') λ i a u p q=>?_;have hi:i<cs.length:=by rw[hl];exact (Dq.1 p).1
   exact ih i cs[i] a (aA hi) p (h' i _ u (aA hi) q)
theorem NS{fz:Fz}{S S':Nat→Prop}{w:World}{β:Bt}(hS:∀ b,S b→S' b)
  (hz:∀ x rs rows,fz=some (x,rs,rows)→∀ l,β x=some l→S' l.blk∧∃ cs e fr,w.heap[l.blk]?=some (.cells cs e fr)∧At S w β l cs (.arr rows rs))
  {b0 b1:Blk} {l:Loc} {cs:Array Value} (h:LeB fz b0 b1) (k:At S w β l cs b0):At S' w β l cs b1:=by
 cases h with
 |refl=>exact k.mono hS (Evo.refl _ _) (Lv.refl _)
 |box c d hl hh=>
  intro j a hj;have hi:j<c.length:=by rw[hl];exact (Dq.1 hj).1
  obtain⟨u,p1,p2,p3⟩:=k j c[j] (aA hi)
  exact⟨u,p1,p2,Gv hS hz (hh j _ a (aA hi) hj) p3⟩
 |row c d hl hh=>
  refine⟨k.1,λ j a hj=>?_⟩;have hi:j<c.length:=by rw[hl];exact (Dq.1 hj).1
  obtain⟨u,p1,p2,p3⟩:=k.2 j c[j] (aA hi)
  exact⟨u,p1,p2,Gv hS hz (hh j _ a (aA hi) hj) p3⟩
 |toRow c=>
  refine⟨k.1,λ j a hj=>?_⟩;obtain⟨u,p1,p2,p3⟩:=k.2.2 j [a] 0 a (by rw[aZ,hj];rfl) rfl;rw[iP,iV]at p1
  exact⟨u,p1,p2,p3.mono hS (Evo.refl _ _) (λ s l x=>by cases x)⟩
 | toArr c hc=>
  refine⟨k.1,λ row hr=>?_,λ i row j a hi hj=>?_⟩
  ·obtain⟨x,_,rfl⟩:=rQ.1 hr;rfl
  ·rw[aZ]at hi;obtain⟨x,hx,rfl⟩:=Fg.1 hi
   cases j with
   |zero=>
    simp only[cK,Option.some.injEq]at hj;subst hj;obtain⟨u,p1,p2,p3⟩:=k.2 i x hx
    exact⟨u,by rw[iP,iV];exact p1,p2,(lP p3 (hc x (aB hx)) noB).mono hS (Evo.refl _ _) (Lv.refl _)⟩
   |succ j=>simp at hj
theorem Ghost.old{st st':ASt}{fz:Fz}(hg:Ghost st st' fz)(s:Nat)(h:st'.h s≠none):st.h s≠none:=by
 cases hq:st'.h s with
 |none=>exact absurd hq h
 |some blk=>obtain⟨_,blk0,h0,_⟩:=hg.h s blk hq;rw[h0];simp
theorem JZ{st st':ASt}{fz:Fz}(hg:Ghost st st' fz){a:Act}{w:World}{S:Nat→Prop}{β:Bt}(M:SimD C V w0 S0 N (· <st.n) st.t st.h a w S β):∃ S',SimD C V w0 S0 N (· <st'.n) st'.t st'.h a w S' β:=by
 cases fz with
 |none=>
  have hz:∀ x rs rows,(none:Fz)=some (x,rs,rows)→∀ l,β x=some l→S l.blk∧∃ cs e fr,w.heap[l.blk]?=some (.cells cs e fr)∧At S w β l cs (.arr rows rs):=λ _ _ _ h=>by cases h
  refine⟨S,λ i=>Gv (λ _ h=>h) hz (hg.t i) (M.T i),⟨λ s blk hs=>?_,λ s s' l l' h1 h2=>M.H.inj s s' l l' (hg.old s h1) (hg.old s' h2),M.H.lt,M.H.big⟩,M.B,by rw[hg.n];exact M.dom,M.df,M.sz,M.G,M.nw,M.iv⟩;obtain⟨_,blk0,h0,hb⟩:=hg.h s blk hs;obtain⟨l,cs,e,fr,k1,k2,k3,k4,k5,k6⟩:=M.H.own s blk0 h0
  exact⟨l,cs,e,fr,k1,k2,k3,k4,k5,NS (λ _ h=>h) hz hb k6⟩
 | some z=>
  obtain⟨x,rs,rows⟩:=z;have hx:=hg.b x rs rows rfl;obtain⟨lx,csx,ex,frx,x1,x2,x3,x4,x5,x6⟩:=M.H.own x _ hx;have hS:∀ b,S b→S b∨b=lx.blk:=λ _ h=>.inl h;have hz:∀ y rs' rows',some (x,rs,rows)=some (y,rs',rows')→∀ l,β y=some l→(S l.blk∨l.blk=lx.blk)∧∃ cs e fr,w.heap[l.blk]?=some (.cells cs e fr)∧At S w β l cs (.arr rows' rs'):=λ y rs' rows' h l hl=>by
   simp only[Option.some.injEq,Prod.mk.injEq]at h;obtain⟨rfl,rfl,rfl⟩:=h;rw[x1]at hl;injection hl with hl;subst hl;exact⟨.inr rfl,csx,ex,frx,x2,x6⟩
  refine⟨λ b=>S b∨b=lx.blk,λ i=>Gv hS hz (hg.t i) (M.T i),⟨λ s blk hs=>?_,λ s s' l l' h1 h2=>M.H.inj s s' l l' (hg.old s h1) (hg.old s' h2),λ b hb=>hb.elim (M.H.lt b) λ e=>e ▸ fQ x2,M.H.big⟩,M.B,by rw[hg.n];exact M.dom,M.df,M.sz,λ g cells hgc=>(M.G g cells hgc).mono hS (Evo.refl _ _) (Lv.refl _),λ b hb=>hb.elim (M.nw b) λ e=>.inr (e ▸ x4),V.frz M.iv x1⟩;obtain⟨hne,blk0,h0,hb⟩:=hg.h s blk hs;obtain⟨l,cs,e,fr,k1,k2,k3,k4,k5,k6⟩:=M.H.own s blk0 h0;refine⟨l,cs,e,fr,k1,k2,k3,k4,λ h=>h.elim k5 λ q=>?_,NS hS hz hb k6⟩;exact hne x rs rows rfl (M.H.inj s x l lx (by rw[h0];simp) (by rw[hx];simp) k1 x1 q)
theorem nE{st st':ASt}(hg:Ghosts st st'):∀ {a:Act} {w:World} {S:Nat→Prop} {β:Bt},SimD C V w0 S0 N (· <st.n) st.t st.h a w S β→∃ S',SimD C V w0 S0 N (· <st'.n) st'.t st'.h a w S' β:=by
 induction hg with
 |refl=>intro a w S β M;exact⟨S,M⟩
 |step fz h k ih=>intro a w S β M;obtain⟨S',M'⟩:=JZ h M;exact ih M'
theorem CtxOk.noH(h:CtxOk C):CtxOk C.noH:=⟨h.ty,h.mixed,λ _ _ _ _ _ h=>h.elim⟩
theorem SimD.noH{D:Nat→Prop}{t:Nat→AV}{h:AH}{a:Act}{w:World}{S:Nat→Prop}{β:Bt}(M:SimD C V w0 S0 N D t h a w S β):SimD C.noH V w0 S0 N D t h a w S β:=⟨M.T,M.H,M.B,M.dom,M.df,M.sz,M.G,M.nw,M.iv⟩
theorem SimD.ofNoH{D:Nat→Prop}{t:Nat→AV}{h:AH}{a:Act}{w:World}{S:Nat→Prop}{β:Bt}(M:SimD C.noH V w0 S0 N D t h a w S β):SimD C V w0 S0 N D t h a w S β:=⟨M.T,M.H,M.B,M.dom,M.df,M.sz,M.G,M.nw,M.iv⟩
theorem BT(hC:CtxOk C)(nH:NoH C){ops:Array Oper}(hb:uJ N ops.toList=true){K:ASt→Prop}{Q:Exit→Act→World→Prop}{n:Nat}(hQ:∀ st a' w' S' β',K st→SimD C V w0 S0 N (· <st.n) st.t st.h a' w' S' β'→Q .normal a' w'):
  ∀ (fuel:Nat) (listed:Array Bool) (t:Nat→AV) (h:AH) (a:Act) (w:World) (S:Nat→Prop) (β:Bt),listed.size=ops.size→UR C (bX C) ops K fuel listed ⟨t,h,n⟩→SimD C V w0 S0 N (λ s=>s<n∨∃ i,listed.getD i false=true∧s=n+i) t h a w S β→wpAny C.P .any ops Q fuel listed a w
 | 0,listed,t,h,a,w,S,β,hsz,hr,M=>by
  refine⟨hr.1,hQ _ a w S β hr.2 ⟨M.T,M.H,M.B,λ y l hy=>?_,M.df,M.sz,M.G,M.nw,M.iv⟩⟩;show y<n+ops.size;rcases M.dom y l hy with h|⟨i,hi,rfl⟩
  ·omega
  ·rcases al_Nat_lt_or_ge i listed.size with k|k
   ·omega
   ·rw[aJ,iD k]at hi;cases hi
 | fuel+1,listed,t,h,a,w,S,β,hsz,hr,M=>by
  refine⟨λ hn=>absurd hn hr.1,λ i hi=>?_⟩;have hall:∀ (l:List Nat),forL (Xi C (bX C) ops (UR C (bX C) ops K fuel) listed t h n) l→∀ i∈l,Xi C (bX C) ops (UR C (bX C) ops K fuel) listed t h n i:=by
   intro l
   induction l with
   |nil=>intro _ i hi;cases hi
   |cons x l ih=>
    intro hl i hi;rcases al_List_mem_cons.1 hi with rfl|hi
    ·exact hl.1
    ·exact ih hl.2 i hi
  have h1:=hall _ hr.2 i hi;obtain⟨k1,o,ho,_⟩:=mem_ready.1 hi;have hil:i<listed.size:=by have:=(CZ.1 ho).1;omega
  have hni:listed.getD i false=false:=by
   rw[aJ,aS hil]at k1⊢;exact k1
  have hoi:ops.toList[i]?=some o:=by rw[bG];exact ho
  have hmem:o∈ops.toList:=aB hoi;have hs:β (n+i)=none:=by
   cases hq:β (n+i)with
   |none=>rfl
   | some l=>
    rcases M.dom _ _ hq with h|⟨j,hj,he⟩
    ·omega
    ·have:j=i:=by omega
     subst this;rw[hni]at hj;cases hj
  simp only[Xi,ho]at h1;obtain⟨x,h',e1,e2⟩:=(step_inv h1).resolve_right λ⟨_,f,args,Post,_,hH,_⟩=>nH _ _ _ _ _ hH;unfold wpOp;simp only[ho];refine wK hC M hs rfl e1 (vP hb hmem) (λ i pol d _ hd=>Bc hb i d hd) λ a' w' S' β' M'=>?_;refine BT hC nH hb hQ fuel _ _ h' a' w' S' β' (by simp[hsz]) e2 ⟨M'.T,M'.H,M'.B,λ y l hy=>?_,M'.df,M'.sz,M'.G,M'.nw,M'.iv⟩;have hset:∀ j,(listed.setIfInBounds i true).getD j false=true↔listed.getD j false=true∨j=i:=λ j=>by
   by_cases hj:j=i
   ·subst hj;rw[aJ,cX hil];simp
   ·rw[aJ,cW (Ne.symm hj), ←aJ];simp[hj]
  rcases M'.dom y l hy with (h|⟨j,hj,he⟩)|h
  ·exact .inl h
  ·exact .inr ⟨j,(hset j).2 (.inl hj),he⟩
  ·exact .inr ⟨i,(hset i).2 (.inr rfl),h⟩
theorem BU(hC:CtxOk C):∀ (c:Code),tU N c=true→∀ (st:ASt) (Q:AEx→ASt→Prop),fY C (bX C) c st Q→∀ (a:Act) (w:World) (S:Nat→Prop) (β:Bt),SimD C V w0 S0 N (· <st.n) st.t st.h a w S β→
  c.wp C.P (Aft C V w0 S0 N Q) a w:=by
 intro c
 induction c with
 |skip=>intro _ st Q hq a w S β M;exact wp_skip ⟨.normal,st,S,β,rfl,hq,M⟩
 |label l=>intro _ st Q hq a w S β M;exact wp_label ⟨.normal,st,S,β,rfl,hq,M⟩
 |exit id=>intro _ st Q hq a w S β M;exact wp_exit ⟨.exit id,st,S,β,rfl,hq,M⟩
 |ret=>intro _ st Q hq a w S β M;exact wp_ret ⟨.ret,st,S,β,rfl,hq,M⟩
 | region id ops dr=>
  intro hk st Q hq a w S β M;simp only[tU,aI]at hk;obtain⟨t,h,n⟩:=st;simp only[fY]at hq
  cases dr with
  |false=>
   simp only[pS]at hq;refine wp_region ?_;have:=Dy (Q:=Aft C V w0 S0 N Q) (K:=Q .normal) hC (ops:=ops) rfl hk.1 ops.toList 0 t h a w S β rfl hq M (λ st' a' w' S' β' hk' M'=>⟨.normal,st',S',β',rfl,hk',M'⟩);rw[show List.range' 0 ops.toList.length=List.range ops.size by rw[nX,dP]]at this
   exact this
  | true=>
   refine wp_region_any hC.mixed ?_;simp only[eG]at hq
   cases hl:EQ ops.toList with
   |true=>
    rw[hl]at hq;rcases hq with hq|⟨_,hq⟩
    rotate_left
    ·exact Dv (C:=C.noH) (V:=V) hC.noH (λ _ _ _ _ _ h=>h) hk.1 hq (SimD.noH M) (λ st' a' w' S' β' hk' M'=>⟨.normal,st',S',β',rfl,hk',SimD.ofNoH M'⟩)
    have M':=M.drawn (w.drawn+1)
    refine BT (C:=C.noH) (V:=V) hC.noH (λ _ _ _ _ _ h=>h) hk.1 (λ st' a' w' S' β' hk' M'=>⟨.normal,st',S',β',rfl,hk',SimD.ofNoH M'⟩) ops.size _ t h a _ S β (by simp) hq ⟨M'.T,M'.H,M'.B,λ y l hy=>.inl (M'.dom y l hy),M'.df,M'.sz,M'.G,M'.nw,M'.iv⟩
   |false=>
   rw[hl]at hq;have hd:IF ops.toList=true:=by simp only[EQ,dV,pE]at hl;exact hl.2
   exact Fq (C:=C.noH) (V:=V) hC.noH (λ _ _ _ _ _ h=>h) hk.1 hd hq (SimD.noH M) (λ st' a' w' S' β' hk' M'=>⟨.normal,st',S',β',rfl,hk',SimD.ofNoH M'⟩)
 | seq x y ihx ihy=>
  intro hk st Q hq a w S β M;simp only[tU,aI]at hk;simp only[fY]at hq;rcases hq with hq|hq|hq
  ·refine wp_seq (wp_mono (ihx hk.1 st _ hq a w S β M) ?_);rintro e a' w' ⟨e',st',S',β',rfl,h1,h2⟩
   cases e' with
   |normal=>exact ihy hk.2 st' Q h1 a' w' S' β' h2
   |exit i=>exact⟨.exit i,st',S',β',rfl,h1,h2⟩
   |ret=>exact⟨.ret,st',S',β',rfl,h1,h2⟩
  ·refine wp_seq (wp_mono (ihx hk.1 st _ hq a w S β M) ?_);rintro e a' w' ⟨e',st',S',β',rfl,h1,h2⟩
   cases e' with
   |normal=>
    obtain⟨st2,g1,g2⟩:=h1;obtain⟨S2,h3⟩:=nE g1 h2
    exact ihy hk.2 st2 Q g2 a' w' S2 β' h3
   |exit i=>exact⟨.exit i,st',S',β',rfl,h1,h2⟩
   |ret=>exact⟨.ret,st',S',β',rfl,h1,h2⟩
  ·refine wp_seq (wp_mono (ihx hk.1 st _ hq a w S β M) ?_);rintro e a' w' ⟨e',st',S',β',rfl,h1,h2⟩
   cases e' with
   |normal=>
    obtain⟨st2,g1,st3,σ,hW,hf,g2⟩:=h1;obtain⟨S2,h3⟩:=nE g1 h2
    exact ihy hk.2 st3 Q g2 a' w' S2 _ (pI hW hf h3)
   |exit i=>exact⟨.exit i,st',S',β',rfl,h1,h2⟩
   |ret=>exact⟨.ret,st',S',β',rfl,h1,h2⟩
 | cond c x y ihx ihy=>
  intro hk st Q hq a w S β M;simp only[tU,aI]at hk;simp only[fY]at hq;split at hq
  ·rename_i b hb;obtain⟨h1,h2⟩:=hq;have hv:=rZ M c;rw[hb]at hv;refine wp_cond_split (lK hv) (λ ht=>ihx hk.1 st Q (h1 ht) a w S β M) (λ hf=>ihy hk.2 st Q (h2 hf) a w S β M)
  ·exact hq.elim
 | block id b ih=>
  intro hk st Q hq a w S β M;simp only[tU]at hk;simp only[fY]at hq;refine wp_block (wp_mono (ih hk st _ hq a w S β M) ?_);rintro e a' w' ⟨e',st',S',β',rfl,h1,h2⟩
  cases e' with
  |normal=>exact⟨.normal,st',S',β',rfl,h1,h2⟩
  |ret=>exact⟨.ret,st',S',β',rfl,h1,h2⟩
  | exit i=>
   show Exit.inBlock id _ (.exit i) a' w';simp only at h1;simp only[Exit.inBlock];by_cases hi:i=id
   ·subst hi;rw[if_pos rfl];rw[show Nat.beq i i=true from mZ i]at h1;exact⟨.normal,st',S',β',rfl,h1,h2⟩
   ·rw[if_neg hi];have:Nat.beq i id=false:=by rw[←eJ];exact λ e=>hi (aK e)
    rw[this]at h1
    exact⟨.exit i,st',S',β',rfl,h1,h2⟩
 | loop b ih=>
  intro hk st Q hq a w S β M;simp only[tU]at hk;simp only[fY]at hq;obtain⟨I,μ,st0,σ,hw,hf0,h0,round⟩:=hq;have key:∀ (m:Nat) (st:ASt) (a:Act) (w:World) (S:Nat→Prop) (β:Bt),μ st=m→I st→SimD C V w0 S0 N (· <st.n) st.t st.h a w S β→∀ (fb:Frame) (k:List Item) (cs:List Frame),
    ∃ e a' w',Aft C V w0 S0 N Q e a' w'∧Arrives C.P (lone (fb.at a (.code b:: .inLoop b::k)) cs w) fb k cs e a' w':=by
   intro m
   induction m using Nat.strongRecOn with
   | _ m ihm=>
    intro st a w S β hm hI M fb k cs;obtain⟨e,a₁,w₁,hq,harr⟩:=ih hk st _ (round st hI) a w S β M fb (.inLoop b::k) cs;obtain⟨e',st1,S1,β1,rfl,hq1,M1⟩:=hq
    cases e' with
    |normal=>
     obtain⟨stg,g1,stw,σ',W,hf1,hIw,hlt⟩:=hq1;obtain⟨S1,M1⟩:=nE g1 M1;obtain⟨e₂,a₂,w₂,hq₂,harr₂⟩:=ihm (μ stw) (hm ▸ hlt) stw a₁ w₁ S1 _ rfl hIw (pI W hf1 M1) fb k cs
     exact⟨e₂,a₂,w₂,hq₂,.of_steps (Steps.trans harr (.one step_inLoop)) harr₂⟩
    |exit id=>exact⟨_,a₁,w₁,⟨.exit id,st1,S1,β1,rfl,hq1,M1⟩,.pass (x:=.inLoop b) rfl (λ _ _=>.inl (by simp[Fm])) harr⟩
    |ret=>exact⟨_,a₁,w₁,⟨.ret,st1,S1,β1,rfl,hq1,M1⟩,.pass (x:=.inLoop b) rfl (λ _ _=>.inl (by simp[Fm])) harr⟩
  intro fb k cs;obtain⟨e,a',w',hq,harr⟩:=key _ st0 a w S _ rfl h0 (pI hw hf0 M) fb k cs
  exact⟨e,a',w',hq,.of_steps (.one step_loop) harr⟩
 |_=>intro _ st Q hq;exact hq.elim
def Sub(a b:AV):Prop:=∀ (S:Nat→Prop) (w:World) (v:Value),Rep S w noB a v→Rep S w noB b v
theorem Sub.refl(a:AV):Sub a a:=λ _ _ _ h=>h
def TP(C:Ctx)(fn:Func)(r:AV)(st:ASt):Prop:=
 ∃ rs,resA C st fn.results.toList=some rs∧jS st.h (Ct rs)∧eL (uP st.h (Ct rs))=true∧Sub (uP st.h (Ct rs)) r
def Fin(C:Ctx)(fn:Func)(r:AV):AEx→ASt→Prop
 | .exit _,_=>False
 |_,st=>TP C fn r st
def WZ(tmps:Array Value):ResultVar→Sem Value
 | .tmp t=>pure (tmps.getD t undef)
 | .cell a t=>do loadVar t (←asAddr (tmps.getD a undef))
theorem MD(fn:Func)(tmps:Array Value):results fn tmps=(do let vs←fn.results.mapM (WZ tmps);pure (if h:vs.size=1 then vs[0]else .tuple vs)):=rfl
theorem xG{P:Program}{w:World}{tmps:Array Value}(l:List ResultVar)(vs:List Value)(h:(l.mapM (WZ tmps)).run P w=.ok vs w)(fn:Func)(hl:fn.results.toList=l):
  (results fn tmps).run P w=.ok (if h:vs.toArray.size=1 then vs.toArray[0]else .tuple vs.toArray) w:=by
 rw[MD,Array.mapM_eq_mapM_toList,hl];simp only[Sem.run_bind,map_eq_pure_bind,Sem.run_pure];rw[h];simp only[Result.andThen_ok,Sem.run_pure]
theorem Ip(hC:CtxOk C){t:Nat→AV}{h:AH}{n:Nat}{a:Act}{w:World}{D:Nat→Prop}{S:Nat→Prop}{β:Bt}(M:SimD C V w0 S0 N D t h a w S β):∀ (l:List ResultVar) (rs:List AV),resA C ⟨t,h,n⟩ l=some rs→
  ∃ vs,(l.mapM (WZ a.tmps)).run C.P w=.ok vs w∧RepL S w β rs vs
 |[],rs,hr=>by simp only[resA]at hr;injection hr with hr;subst hr;exact⟨[],rfl,RepL.nil _ _ _⟩
 | .tmp i::l,rs,hr=>by
  simp only[resA]at hr;split at hr
  ·rename_i r hl;injection hr with hr;subst hr;obtain⟨vs,h1,h2⟩:=Ip hC M l r hl;exact⟨a.tmps.getD i undef::vs,by simp only[sX,Sem.run_bind,WZ,Sem.run_pure,Result.andThen_ok,h1],RepL.cons (M.T i) h2⟩
  ·cases hr
 | .cell c ty::l,rs,hr=>by
  simp only[resA]at hr;split at hr
  ·rename_i b col r hp hl;split at hr
   ·rename_i cells hb;split at hr
    ·rename_i x hx;injection hr with hr;subst hr;obtain⟨vs,h1,h2⟩:=Ip hC M l r hl;obtain⟨lo,cs,e,fr,k1,k2,k3⟩:=Om M.H hb;have hT:=M.T c;rw[hp]at hT;generalize hv:a.tmps.getD c undef=v at hT
     cases hT with
     |ptr _ _ l' hl'=>
     obtain rfl:l'=lo:=by rw[hl']at k1;exact Option.some.inj k1
     obtain⟨u,p1,p2⟩:=Bg hC k3 rfl hx;exact⟨u::vs,by simp only[sX,Sem.run_bind,WZ,hv,asAddr,Sem.run_pure,Result.andThen_ok,p1,h1],RepL.cons p2 h2⟩
    ·cases hr
   ·cases hr
  ·cases hr
theorem yQ:∀ (args:List AV) (i:Nat),argsT args i=(args[i]?).getD .any
 |[],i=>by simp[argsT]
 |x::xs,0=>by simp[argsT]
 |x::xs,i+1=>by simp[argsT,yQ xs i]
theorem bX.intro(hC:CtxOk C){f:FuncId}{fn:Func}{body:Code}{args:List AV}{r:AV}(hf:C.P.funcs[f]?=some fn)(hb:fn.body=some body)(hnm:(fn.name== "runtime.NumGoroutine")=false)
  (hN:tU fn.ntmps body=true) (hlen:Nat.ble args.length fn.ntmps=true) (hw:fY C (bX C) body ⟨argsT args,λ _=>none,0⟩ (Fin C fn r)) (hdf:C.df=[]:=by rfl):bX C f args r:=by
 refine⟨⟨fn,hf,by rw[hb];rfl,hnm⟩,λ S w vs hS hG hargs=>?_⟩;have hlen:=aO hlen;refine calls_of_wp hf hb ?_;have M0:SimD C (Inv.any C.fr) w S fn.ntmps (· <(0:Nat)) (argsT args) (λ _=>none) {tmps:=vs.toArray++Array.replicate (fn.ntmps - vs.toArray.size) undef,defers:=[]} w S noB:=by
  have hl:vs.length=args.length:=hargs.1.symm;refine⟨λ i=>?_,⟨λ s blk h=>(by cases h),λ s s' l l' h=>absurd rfl h,hS,aC _⟩,Below.refl _ _,λ x l h=>(by cases h),hdf.symm,by simp;omega,hG,λ _ h=>.inl h,trivial⟩;rw[yQ]
  cases ha:args[i]? with
  |none=>exact .any _
  | some x=>
   have hi:i<vs.length:=by rw[hl];exact (Dq.1 ha).1
   have hv:vs[i]?=some vs[i]:=aA hi;have:(vs.toArray++Array.replicate (fn.ntmps - vs.toArray.size) undef).getD i undef=vs[i]:=by
    rw[aJ,dK (by simpa using hi),eK,hv];rfl
   rw[this];exact hargs.2 i x _ ha hv
 refine wp_mono (BU hC body hN ⟨argsT args,λ _=>none,0⟩ _ hw _ w S noB M0) ?_;rintro e a' w' ⟨e',st,S',β',rfl,hfin,M⟩;have fin:TP C fn r st→a'.defers=[]∧∃ v,(results fn a'.tmps).run C.P w'=.ok v w'∧∃ v',Ending.returned v=.returned v'∧Below w.heap.size w w'∧Rep (λ b=>S b∨(w.heap.size≤b∧b<w'.heap.size)) w' noB r v':=by
  rintro ⟨rs,h1,h2,h3,h4⟩;obtain⟨t,h,n⟩:=st;obtain⟨us,g1,g2⟩:=Ip hC M _ rs h1;refine⟨M.df.trans hdf,_,xG _ us g1 fn rfl,_,rfl,M.B,?_⟩;have hret:Rep S' w' β' (Ct rs) (if h:us.toArray.size=1 then us.toArray[0]else .tuple us.toArray):=by
   match rs,us,g2 with
   |[],us,g2=>
    have:us=[]:=aX g2.1.symm;subst this
    exact .tup [] #[] rfl λ i a u p=>by simp at p
   |[x],us,g2=>
    match us,g2 with
    |[u],g2=>simpa [Ct]using g2.2 0 x u rfl rfl
    |[],g2=>exact absurd g2.1 (by simp)
    |_::_::_,g2=>exact absurd g2.1 (by simp)
   | x::y::zs,us,g2=>
    have hne: ¬ us.toArray.size=1:=by
     have:=g2.1;simp at this⊢;omega
    rw[dif_neg hne];exact .tup _ _ (by simpa using g2.1) λ i a u p q=>g2.2 i a u p (by simpa using q)
  have hd:=Bb M.H hret h2;refine h4 _ _ _ ?_;exact (lP hd h3 noB).mono (λ b hb=>hb.elim (λ hb=>(M.nw b hb).imp id λ h=>⟨h,M.H.lt b hb⟩) .inr) (Evo.refl _ _) (Lv.refl _)
 cases e' with
 |normal=>exact fin hfin
 |ret=>exact fin hfin
 |exit i=>exact hfin.elim
end
inductive TT where
 |leaf (k:Nat) (i:TI)
 |node (k:Nat) (l r:TT)
def TT.find:TT→Nat→Option TI
 | .leaf k i,t=>match Nat.beq t k with|true=>some i|false=>none
 | .node k l r,t=>match Nat.blt t k with|true=>l.find t|false=>r.find t
def Rn(P:Program):TT→Prop
 | .leaf k i=>TyOk P k i
 | .node _ l r=>Rn P l∧Rn P r
theorem TT.find_ok{P:Program}:∀ (T:TT),Rn P T→∀ t i,T.find t=some i→TyOk P t i
 | .leaf k i,h,t,i',hf=>by
  simp only[TT.find]at hf;split at hf
  ·rename_i hb;injection hf with hf;subst hf;rw[aK hb];exact h
  ·cases hf
 | .node k l r,h,t,i,hf=>by
  simp only[TT.find]at hf;split at hf
  ·exact TT.find_ok l h.1 t i hf
  ·exact TT.find_ok r h.2 t i hf
def UE(P:Program)(inf:TypeInfo)(z:Value)(i:TI):Bool:=
 inf.size==i.sz&&inf.bytes==i.bytes&&z.cells.size==i.sz&&Nat.blt 0 i.sz&&Nat.ble i.bytes 1000&&WR z.cells.toList
theorem Ro{P:Program}{t:TypeId}{i:TI}{inf:TypeInfo}{z:Value}(h1:P.info? t=some inf)(h2:inf.zero=some z)(h3:i.zero=NM z)(hc:UE P inf z i=true){d:TypeDesc}(hd:P.underlying t=some d)(hrow:d.isRow=i.ag)
  (hk:match i.kd with
  | .bool=>d=.bool
  | .int k=>d=.int k
  | .string=>d=.string
  | .slice e=>d=.slice e
  | .array n e=>d=.array n e
  | .struct fs=>∃ fields,d=.struct fields∧fields.toList.map (λ f=>(f.offset,f.type))=fs∧(fields.toList.all λ f=>match P.info? f.type with|some i=> !(i.size==0)|none=>false)=true
  |_=>True) (he:i.eq≠[]→Xa P t i.eq):TyOk P t i:=by
 simp only[UE,aI,pQ]at hc;obtain⟨⟨⟨⟨⟨c1,c2⟩,c3⟩,c4⟩,c5⟩,c6⟩:=hc;refine⟨⟨inf,z,h1,c1,c2,h2,h3,c3,aO c4,aO c5⟩,λ inf' z' e1 e2 k u hu=>?_,⟨d,hd,hrow⟩,?_,he⟩
 ·rw[h1]at e1;injection e1 with e1;subst e1;rw[h2]at e2;injection e2 with e2;subst e2;exact Bf _ c6 k u (by simpa using hu)
 ·cases hkd:i.kd<;>rw[hkd]at hk<;>simp only at hk⊢ <;>first|(rw[hd,hk];done)|trivial|skip
  obtain⟨fields,rfl,g1,g2⟩:=hk;refine⟨fields,hd,g1,λ f hf=>?_⟩;have:=iH.1 g2 f hf;split at this
  ·rename_i inf' hi;exact⟨inf',hi,by simpa using this⟩
  ·cases this
theorem Lo:∀ (ks:List CK) (xs ys:List Value) (b:Bool),eqVL ks xs ys=some b→xs.length=ks.length∧ys.length=ks.length
 |[],[],[],_,_=>⟨rfl,rfl⟩
 | k::ks,x::xs,y::ys,b,h=>by
  simp only[eqVL]at h;split at h
  ·rename_i a c h1 h2;obtain⟨e1,e2⟩:=Lo ks xs ys c h2;exact⟨by simp[e1],by simp[e2]⟩
  ·cases h
 |[],[],_::_,_,h=>by simp[eqVL]at h
 |[],_::_,_,_,h=>by simp[eqVL]at h
 |_::_,[],_,_,h=>by simp[eqVL]at h
 |_::_,_::_,[],_,h=>by simp[eqVL]at h
theorem AA:∀ (ks js:List CK) (xs ys:List Value) (b:Bool),eqVL (ks++js) xs ys=some b→
  ∃ b1 b2,eqVL ks (xs.take ks.length) (ys.take ks.length)=some b1∧eqVL js (xs.drop ks.length) (ys.drop ks.length)=some b2∧b=(b1&&b2)
 |[],js,xs,ys,b,h=>⟨true,b,by simp[eqVL],by simpa using h,by simp⟩
 | k::ks,js,x::xs,y::ys,b,h=>by
  simp only[nQ,eqVL]at h;split at h
  ·rename_i a c h1 h2;injection h with h;subst h;obtain⟨b1,b2,e1,e2,e3⟩:=AA ks js xs ys c h2;refine⟨a&&b1,b2,?_,by simpa using e2,by rw[e3,mY]⟩;simp only[bN,oK,eqVL,h1,e1]
  ·cases h
 |_::_,_,[],_,_,h=>by simp[eqVL]at h
 |_::_,_,_::_,[],_,h=>by simp[eqVL]at h
def AB(P:Program)(K:TypeId→Option (List CK)):Nat→List Field→Option (List CK)
 |_,[]=>some []
 | off,f::fs=>match f.name== "_",f.offset==off,P.info? f.type,K f.type with
  |false,true,some inf,some ks=>match inf.size==ks.length,AB P K (off+ks.length) fs with
   |true,some js=>some (ks++js)
   |_,_=>none
  |_,_,_,_=>none
def cellK(P:Program):Nat→TypeId→Option (List CK)
 |0,_=>none
 | d+1,t=>match P.underlying t with
  |some .bool=>some [.b]
  |some (.int _)=>some [.i]
  |some .string=>some [.s]
  |some (.struct fs)=>match P.stoodInHeld t with|true=>none|false=>AB P (cellK P d) 0 fs.toList
  |some (.array n e)=>match P.info? e,cellK P d e with
   |some inf,some ks=>(match inf.size==ks.length with|true=>some (List.flatten (List.replicate n ks))|false=>none)
   |_,_=>none
  |_=>none
def Fl(P:Program)(D:Nat)(t:TypeId)(ks:List CK):Prop:=∀ (xs ys:Array Value) (off:Nat) (b:Bool) (w:World),
 eqVL ks ((xs.toList.drop off).take ks.length) ((ys.toList.drop off).take ks.length)=some b→
 ∃ u v,(part t xs off).run P w=.ok u w∧(part t ys off).run P w=.ok v w∧(Op.equalIn D t u v).run P w=.ok b w
theorem Lp{P:Program}{D:Nat}{K:TypeId→Option (List CK)}(hK:∀ t ks inf,K t=some ks→P.info? t=some inf→inf.size=ks.length→Fl P D t ks):
  ∀ (fs:List Field) (off:Nat) (js:List CK) (xs ys:Array Value) (b:Bool) (w:World),AB P K off fs=some js→eqVL js (xs.toList.drop off) (ys.toList.drop off)=some b→
  (forIn fs ((none,()):Option Bool×PUnit) (λ f r=>do
    if f.name≠ "_" then
     if !(←Op.equalIn D f.type (←part f.type xs f.offset) (←part f.type ys f.offset))then pure (ForInStep.done (some false,()))else pure (ForInStep.yield (none,()))
    else pure (ForInStep.yield (none,())):Field→Option Bool×PUnit→Sem (ForInStep (Option Bool×PUnit)))).run P w=.ok (match b with|true=>(none,())|false=>(some false,())) w
 | [],off,js,xs,ys,b,w,hf,h=>by
  simp only[AB,Option.some.injEq]at hf;subst hf;have hb:b=true:=by
   cases hx:xs.toList.drop off<;>cases hy:ys.toList.drop off<;>rw[hx,hy]at h<;>simp[eqVL]at h<;>first|exact h|exact h.symm
  subst hb;rfl
 | f ::fs,off,js,xs,ys,b,w,hf,h=>by
  simp only[AB]at hf;split at hf
  ·rename_i inf ks h1 h2 h3 h4;split at hf
   ·rename_i js' h5 h6;injection hf with hf;subst hf;have e2:f.offset=off:=by simpa using h2
    have e5:inf.size=ks.length:=by simpa using h5
    have e1:f.name≠ "_" :=by simpa using h1
    obtain⟨b1,b2,g1,g2,g3⟩:=AA ks js' _ _ b h;obtain⟨u,v,p1,p2,p3⟩:=hK f.type ks inf h4 h3 e5 xs ys off b1 w g1;have IH:=Lp hK fs (off+ks.length) js' xs ys b2 w h6 (by simpa [kU]using g2);simp only[List.forIn_cons,Sem.run_bind,e1,e2,ne_eq,not_false_eq_true,kV,p1,p2,p3,Result.andThen_ok]
    cases b1 with
    |false=>subst g3;simp
    |true=>
     simp only[lV,bU,iG,Sem.run_pure,Result.andThen_ok];rw[g3,eG];simpa only[ne_eq]using IH
   ·cases hf
  ·cases hf
theorem WY{P:Program}{D:Nat}{t:TypeId}{K:TypeId→Option (List CK)}(hK:∀ t ks inf,K t=some ks→P.info? t=some inf→inf.size=ks.length→Fl P D t ks)
  {fs:Array Field} (hu:P.underlying t=some (.struct fs)) (hst:P.stoodInHeld t=false) {ks:List CK} (hf:AB P K 0 fs.toList=some ks) {xs ys:Array Value} {b:Bool} (w:World) (h:eqVL ks xs.toList ys.toList=some b):
  (Op.equalIn (D+1) t (.agg xs) (.agg ys)).run P w=.ok b w:=by
 rw[Op.equalIn];have:=Lp hK fs.toList 0 ks xs ys b w hf (by simpa using h);simp only[Sem.run_bind,run_underlying hu,Result.andThen_ok,show Sem.run P program w=.ok P w from rfl,hst,bU,iG];rw[←Array.forIn_toList];simp only[ne_eq,Sem.run_bind]at this⊢;rw[this];cases b<;>rfl
theorem JY{P:Program}{D:Nat}{e:TypeId}{ks:List CK}{inf:TypeInfo}(hi:P.info? e=some inf)(hsz:inf.size=ks.length)(hK:Fl P D e ks):
  ∀ (m s:Nat) (xs ys:Array Value) (b:Bool) (w:World),eqVL (List.flatten (List.replicate m ks)) (xs.toList.drop (s * ks.length)) (ys.toList.drop (s * ks.length))=some b→
  (forIn (List.range' s m) ((none,()):Option Bool×PUnit) (λ i r=>do
    if !(←Op.equalIn D e (←part e xs (i * ks.length)) (←part e ys (i * ks.length)))then pure (ForInStep.done (some false,()))else pure (ForInStep.yield (none,())):Nat→Option Bool×PUnit→Sem (ForInStep (Option Bool×PUnit)))).run P w=.ok (match b with|true=>(none,())|false=>(some false,())) w
 | 0,s,xs,ys,b,w,h=>by
  have hb:b=true:=by
   simp only[List.replicate_zero,List.flatten_nil]at h;cases hx:xs.toList.drop (s * ks.length)<;>cases hy:ys.toList.drop (s * ks.length)<;>rw[hx,hy]at h<;>simp[eqVL]at h<;>first|exact h|exact h.symm
  subst hb;rfl
 | m+1,s,xs,ys,b,w,h=>by
  rw[List.replicate_succ,mM]at h;obtain⟨b1,b2,g1,g2,g3⟩:=AA ks _ _ _ b h;obtain⟨u,v,p1,p2,p3⟩:=hK xs ys (s * ks.length) b1 w g1;have IH:=JY hi hsz hK m (s+1) xs ys b2 w (by rw[cC,kO];simpa [kU]using g2);rw[nU];simp only[List.forIn_cons,Sem.run_bind,p1,p2,p3,Result.andThen_ok]
  cases b1 with
  |false=>subst g3;simp
  |true=>
   simp only[lV,bU,iG,Sem.run_pure,Result.andThen_ok];rw[g3,eG];exact IH
theorem Lq{P:Program}:∀ (d D:Nat),d≤D→∀ t ks inf,cellK P d t=some ks→P.info? t=some inf→inf.size=ks.length→Fl P D t ks
 |0,_,_,t,ks,_,h,_,_=>by simp[cellK]at h
 |d+1,0,hD,_,_,_,_,_,_=>by omega
 | d + 1,D+1,hD,t,ks,inf,h,hi,hsz=>by
  intro xs ys off b w he;simp only[cellK]at h;have sc:∀ (k:CK),ks=[k]→∃ u v,xs.toList[off]?=some u∧ys.toList[off]?=some v∧eqV k u v=some b:=by
   intro k hk;subst hk;obtain⟨l1,l2⟩:=Lo _ _ _ _ he
   cases hx:(xs.toList.drop off)with
   |nil=>rw[hx]at l1;simp at l1
   | cons u us=>
    cases hy:(ys.toList.drop off)with
    |nil=>rw[hy]at l2;simp at l2
    | cons v vs=>
     rw[hx,hy]at he;simp only[bN,cU,bL,oK,pR,eqVL]at he;refine⟨u,v,?_,?_,?_⟩
     ·have:(xs.toList.drop off)[0]?=some u:=by rw[hx];rfl
      simpa using this
     ·have:(ys.toList.drop off)[0]?=some v:=by rw[hy];rfl
      simpa using this
     ·split at he
      ·rename_i a c g1 g2;injection g2 with g2;subst g2;rw[g1];simpa using he
      ·cases he
  have pt:∀ (dd:TypeDesc) (zs:Array Value) (u:Value),P.underlying t=some dd→dd.isRow=false→zs.toList[off]?=some u→(part t zs off).run P w=.ok u w:=by
   intro dd zs u hu hr hz;have hz':zs[off]?=some u:=by simpa using hz
   unfold part isAgg;simp only[Sem.run_bind,run_underlying hu,Result.andThen_ok];cases dd<;>first|(simp[TypeDesc.isRow]at hr;done)|(simp[hz'])
  split at h
  ·rename_i hu;injection h with h;subst h;obtain⟨u,v,g1,g2,g3⟩:=sc .b rfl;refine⟨u,v,pt _ _ _ hu rfl g1,pt _ _ _ hu rfl g2,?_⟩;cases u<;>cases v<;>simp[eqV]at g3
   rw[Op.equalIn];simp only[Sem.run_bind,run_underlying hu,Result.andThen_ok,Sem.run_pure];simp[g3]
  ·rename_i k0 hu;injection h with h;subst h;obtain⟨u,v,g1,g2,g3⟩:=sc .i rfl;refine⟨u,v,pt _ _ _ hu rfl g1,pt _ _ _ hu rfl g2,?_⟩;cases u<;>cases v<;>simp only[eqV]at g3<;>try (cases g3;done)
   split at g3
   ·rename_i hk;have:=DB hk;subst this;rw[Op.equalIn];simp only[Sem.run_bind,run_underlying hu,Result.andThen_ok,kV,Sem.run_pure];simpa using g3
   ·cases g3
  ·rename_i hu;injection h with h;subst h;obtain⟨u,v,g1,g2,g3⟩:=sc .s rfl;refine⟨u,v,pt _ _ _ hu rfl g1,pt _ _ _ hu rfl g2,?_⟩;cases u<;>cases v<;>simp[eqV]at g3
   rw[Op.equalIn];simp only[Sem.run_bind,run_underlying hu,Result.andThen_ok,Sem.run_pure];simp[g3]
  ·rename_i fs hu;split at h
   ·cases h
   ·rename_i hst;have IH:∀ t ks inf,cellK P d t=some ks→P.info? t=some inf→inf.size=ks.length→Fl P D t ks:=Lq d D (by omega);have pa:∀ zs:Array Value,(part t zs off).run P w=.ok (.agg (zs.extract off (off+ks.length))) w:=by
     intro zs;unfold part isAgg sizeOf typeInfo;simp[run_underlying hu,hi,hsz]
    refine⟨_,_,pa xs,pa ys,WY IH hu hst h w ?_⟩;simpa [nV,List.extract]using he
  ·rename_i n e hu;split at h
   ·rename_i inf' ks' h1 h2;split at h
    ·rename_i h3;injection h with h;have hs':inf'.size=ks'.length:=by simpa using h3
     have IH:Fl P D e ks':=Lq d D (by omega) e ks' inf' h2 h1 hs';have pa:∀ zs:Array Value,(part t zs off).run P w=.ok (.agg (zs.extract off (off+ks.length))) w:=by
      intro zs;unfold part isAgg sizeOf typeInfo;simp[run_underlying hu,hi,hsz]
     refine⟨_,_,pa xs,pa ys,?_⟩;rw[Op.equalIn];have hz:(sizeOf e).run P w=.ok ks'.length w:=by unfold sizeOf typeInfo;simp[h1,hs']
     have L:=JY h1 hs' IH n 0 (xs.extract off (off+ks.length)) (ys.extract off (off+ks.length)) b w (by rw[h];simpa [nV,List.extract]using he);simp only[Sem.run_bind,run_underlying hu,Result.andThen_ok,hz];simp only[Std.Legacy.Range.forIn_eq_forIn_range',Std.Legacy.Range.size,Nat.sub_zero,Nat.add_one_sub_one,tF]
     (try simp only[Sem.run_bind]at L)
     rw[L];cases b<;>rfl
    ·cases h
   ·cases h
  ·cases h
theorem xE{P:Program}{d:Nat}{t:TypeId}{ks:List CK}(h:(match P.underlying t with
  |some (.struct fs)=>if (!P.stoodInHeld t&& !P.eqGuardType P.depth t)=true then AB P (cellK P d) 0 fs.toList else none
  |_=>none)=some ks) (hd:Nat.ble d 9999=true:=by rfl):Xa P t ks:=by
 intro xs ys b x y w he;split at h
 ·rename_i fs hu;split at h
  ·rename_i hc;simp only[aI,qD]at hc;have e1:(Op.equal t (.agg xs) (.agg ys)).run P w=.ok b w:=by
    unfold Op.equal;rw[show Op.maxDepth=9999+1 from rfl];exact WY (Lq d 9999 (aO hd)) hu hc.1 h w he
   have e2:∀ op,(op=.eql∨op=.neq)→(eqGuard op t x y (.agg xs) (.agg ys)).run P w=.ok () w:=by
    intro op ho;unfold eqGuard;rcases ho with rfl|rfl<;>simp[show Sem.run P program w=.ok P w from rfl,hc.2]
   constructor
   ·simp only[Sem.run_bind,e2 .eql (.inl rfl),Result.andThen_ok,binOp,e1,Sem.run_pure]
   ·simp only[Sem.run_bind,e2 .neq (.inr rfl),Result.andThen_ok,binOp,e1,Sem.run_pure]
  ·cases h
 ·cases h
theorem Rm{P:Program}{d:Nat}{t e:TypeId}{n:Nat}{inf:TypeInfo}{ks ks':List CK}(hu:P.underlying t=some (.array n e))(h1:P.info? e=some inf)(h2:cellK P d e=some ks')(hs:inf.size=ks'.length)(h:List.flatten (List.replicate n ks')=ks)(hg:P.eqGuardType P.depth t=false)(hd:Nat.ble d 9999=true:=by rfl):Xa P t ks:=by
 intro xs ys b x y w he;have e1:(Op.equal t (.agg xs) (.agg ys)).run P w=.ok b w:=by
  unfold Op.equal;rw[show Op.maxDepth=9999+1 from rfl,Op.equalIn];have hz:(sizeOf e).run P w=.ok ks'.length w:=by unfold sizeOf typeInfo;simp[h1,hs]
  have L:=JY h1 hs (Lq d 9999 (aO hd) e ks' inf h2 h1 hs) n 0 xs ys b w (by rw[h];simpa using he);simp only[Sem.run_bind,run_underlying hu,Result.andThen_ok,hz];simp only[Std.Legacy.Range.forIn_eq_forIn_range',Std.Legacy.Range.size,Nat.sub_zero,Nat.add_one_sub_one,tF]
  (try simp only[Sem.run_bind]at L)
  rw[L];cases b<;>rfl
 have e2:∀ op,(op=.eql∨op=.neq)→(eqGuard op t x y (.agg xs) (.agg ys)).run P w=.ok () w:=by
  intro op ho;unfold eqGuard;rcases ho with rfl|rfl<;>simp[show Sem.run P program w=.ok P w from rfl,hg]
 constructor
 ·simp only[Sem.run_bind,e2 .eql (.inl rfl),Result.andThen_ok,binOp,e1,Sem.run_pure]
 ·simp only[Sem.run_bind,e2 .neq (.inr rfl),Result.andThen_ok,binOp,e1,Sem.run_pure]
def slotsF:List (Nat×AV)→Nat→AV
 |[],_=>.any
 |(i,x)::l,j=>match Nat.beq i j with|true=>x|false=>slotsF l j
def heapF:List (Nat×Blk)→AH
 |[],_=>none
 |(i,x)::l,j=>match Nat.beq i j with|true=>some x|false=>heapF l j
def WT(st:ASt)(n:Nat)(σ:Nat→Nat):List (Nat×AV)→Prop
 |[]=>True
 |(i,x)::l=>(st.t i=tY σ x∧mI n x=true)∧WT st n σ l
def WH(st:ASt)(n:Nat)(σ:Nat→Nat):List (Nat×Blk)→Prop
 |[]=>True
 |(i,x)::l=>(Nat.blt i n=true∧st.h (σ i)=some (CO σ x)∧qF n x=true)∧WH st n σ l
def Ln(x:Nat):List Nat→Bool
 |[]=>true
 |y::l=>match Nat.beq x y with|true=>false|false=>Ln x l
def Dr:List Nat→Bool
 |[]=>true
 |x::l=>match Ln x l with|true=>Dr l|false=>false
theorem Fh:∀ (l:List Nat) (x:Nat),Ln x l=true→x ∉ l
 |[],_,_=>by simp
 | y::l,x,h=>by
  simp only[Ln]at h;split at h
  ·cases h
  ·rename_i hb;have:x≠y:=λ e=>by subst e;simp at hb
   simp[this,Fh l x h]
theorem Fi{σ:Nat→Nat}:∀ (l:List Nat),Dr (l.map σ)=true→∀ a∈l,∀ b∈l,σ a=σ b→a=b
 |[],_=>by simp
 | x::l,h=>by
  simp only[jF,Dr]at h;split at h
  ·rename_i hf;have hn:=Fh _ _ hf;have ih:=Fi l h;intro a ha b hb e;rcases al_List_mem_cons.1 ha with rfl|ha
   ·rcases al_List_mem_cons.1 hb with hb|hb
    ·exact hb.symm
    ·exact absurd (rQ.2 ⟨b,hb,e.symm⟩) hn
   ·rcases al_List_mem_cons.1 hb with hb|hb
    ·exact absurd (rQ.2 ⟨a,ha,e.trans (congrArg σ hb)⟩) hn
    ·exact ih a ha b hb e
  ·cases h
theorem Weak.of_lists{st:ASt}{l:List (Nat×AV)}{hp:List (Nat×Blk)}{n:Nat}(σ:Nat→Nat)(ht:WT st n σ l)(hh:WH st n σ hp)(hi:Dr ((hp.map (·.1)).map σ)=true):Weak st ⟨slotsF l,heapF hp,n⟩ σ:=by
 have keyH:∀ (hp:List (Nat×Blk)) s blk,heapF hp s=some blk→s∈hp.map (·.1):=by
  intro hp
  induction hp with
  |nil=>intro s blk h;simp[heapF]at h
  | cons p hp ih=>
   obtain⟨i,x⟩:=p;intro s blk h;simp only[heapF]at h;split at h
   ·rename_i hb;simp[aK hb]
   ·simp[ih s blk h]
 refine⟨λ i=>?_,λ s blk hs=>?_,λ s s' h1 h2 e=>?_⟩
 ·clear hh hi
  induction l with
  |nil=>exact .inl rfl
  |cons p l ih=>
   obtain⟨j,x⟩:=p;obtain⟨⟨h1,h2⟩,h3⟩:=ht;show slotsF _ _=_∨(_=tY σ (slotsF _ _)∧mI n (slotsF _ _)=true);simp only[slotsF]
   cases hb:Nat.beq j i with
   |true=>exact .inr (by rw[←aK hb];exact⟨h1,h2⟩)
   |false=>exact ih h3
 ·clear ht hi
  induction hp with
  |nil=>cases hs
  | cons p hp ih=>
   obtain⟨j,x⟩:=p;obtain⟨⟨h1,h2,h3⟩,h4⟩:=hh
   change heapF _ _=_ at hs
   simp only[heapF]at hs
   cases hb:Nat.beq j s with
   |true=>
    rw[hb]at hs;injection hs with hs;subst hs;rw[←aK hb]
    exact⟨aO h1,h2,h3⟩
   |false=>rw[hb]at hs;exact ih h4 hs
 ·cases e1:heapF hp s with
  |none=>exact absurd e1 h1
  |some b1=>
   cases e2:heapF hp s' with
   |none=>exact absurd e2 h2
   |some b2=>exact Fi _ hi s (keyH hp s b1 e1) s' (keyH hp s' b2 e2) e
section
variable {C:Ctx}{V:Inv C.fr}{R:FuncId→List AV→AV→Prop}
theorem NP{h:AH}{s:Nat}{r:Res}{K K':AV→AH→Prop}(hk:∀ x h,K x h→K' x h)(hn:node C R h s r K):node C R h s r K':=by
 cases r<;>simp only[node]at hn⊢
 case ok=>exact hk _ _ hn
 case need=>exact .mk hn.1 (hk _ _ hn.2)
 case idx=>
  obtain⟨row,hr,h1⟩:=hn;refine .mk row hr ?_;split
  ·rename_i hx;rw[hx]at h1;exact hk _ _ h1
  ·rename_i hx;rw[hx]at h1;exact h1.elim
 case fx=>exact .mk hn.1 (hk _ _ hn.2)
 case idxfx=>
  obtain⟨row,hr,h1⟩:=hn;refine .mk row hr ?_;split
  ·rename_i hx;rw[hx]at h1;exact hk _ _ h1
  ·rename_i hx;rw[hx]at h1;exact h1.elim
 case str=>obtain⟨l,h1,h2⟩:=hn;exact .mk l h1 (hk _ _ h2)
 case call=>
  rcases hn with hn|hn
  ·obtain⟨x,a,b,c,d,e⟩:=hn;exact .inl (.mk x a b c d (hk _ _ e))
  ·obtain⟨Post,a,b⟩:=hn;exact .inr (.mk Post a λ r h' hP=>hk _ _ (b r h' hP))
theorem Fj{h:AH}{g:Bool}{r:Res}{K K':AV→AH→Prop}(hk:∀ x h,K x h→K' x h)(hn:CN C R h g r K):CN C R h g r K':=by
 cases r<;>simp only[CN]at hn⊢
 case ok=>exact hk _ _ hn
 case need=>exact .mk hn.1 (hk _ _ hn.2)
 case idx=>
  obtain⟨row,hr,h1⟩:=hn;refine .mk row hr ?_;split
  ·rename_i hx;rw[hx]at h1;exact hk _ _ h1
  ·rename_i hx;rw[hx]at h1;exact h1.elim
 case str=>obtain⟨l,h1,h2⟩:=hn;exact .mk l h1 (hk _ _ h2)
 case call=>obtain⟨x,a,b,c,d,e⟩:=hn;exact .mk x a b c d (hk _ _ e)
theorem MC{r:Res}{K K':AV→AH→Prop}(hk:∀ x h,K x h→K' x h)(hn:MO r K):MO r K':=by
 cases r<;>simp only[MO]at hn⊢
 case fx=>exact .mk hn.1 (hk _ _ hn.2)
theorem Fk{all:List Oper}{o:Oper}{s:Nat}{t:Nat→AV}{h:AH}{K K':AV→AH→Prop}(hk:∀ x h,K x h→K' x h)(hn:wB C R all o s t h K):wB C R all o s t h K':=by
 unfold wB at hn⊢;split
 ·rename_i hg;rw[hg]at hn;exact NP hk hn
 ·rename_i i pol hg;rw[hg]at hn;simp only at hn;split
  ·rename_i hd;rw[hd]at hn;exact hn
  ·rename_i d hd;rw[hd]at hn;simp only at hn;split
   ·rename_i hv;rw[hv]at hn;exact hn
   ·rename_i g hv;rw[hv]at hn;simp only at hn;split
    ·rename_i hc;rw[hc]at hn;exact hn.imp (Fj hk) λ q=>⟨q.1,MC hk q.2⟩
    ·rename_i c hc;rw[hc]at hn;exact .mk hn.1 (Fj hk hn.2)
theorem Ds{all:List Oper}{K K':ASt→Prop}(hk:∀ st,K st→K' st):∀ (l:List Oper) (j:Nat) (st:ASt),kX C R all l j st K→kX C R all l j st K'
 |[],_,_,h=>hk _ h
 |_::l,j,_,h=>Fk (λ _ _ q=>Ds hk l (j+1) _ q) h
theorem Il{α:Type}{P P':α→Prop}(h:∀ x,P x→P' x):∀ l,forL P l→forL P' l
 |[],_=>trivial
 |x::l,k=>⟨h x k.1,Il h l k.2⟩
theorem Im{ops:Array Oper}{K K':ASt→Prop}(hk:∀ st,K st→K' st):∀ (fuel:Nat) (listed:Array Bool) (st:ASt),UR C R ops K fuel listed st→UR C R ops K' fuel listed st
 |0,_,_,h=>⟨h.1,hk _ h.2⟩
 | fuel+1,listed,st,h=>⟨h.1,Il (λ i q=>by
   unfold Xi at q⊢;split
   ·rename_i o ho;rw[ho]at q;exact Fk (λ _ _ q=>Im hk fuel _ _ q) q
   ·rename_i ho;rw[ho]at q;exact q) _ h.2⟩
theorem kP:∀ (c:Code) (st:ASt) (Q Q':AEx→ASt→Prop),(∀ e st,Q e st→Q' e st)→fY C R c st Q→fY C R c st Q'
 | .skip,_,_,_,hq,h=>hq _ _ h
 | .label _,_,_,_,hq,h=>hq _ _ h
 | .region _ ops dr,_,_,_,hq,h=>by
  simp only[fY]at h⊢;split
  ·rename_i hb;rw[hb]at h;exact h.elim (λ h=>.inl (Im (λ st q=>hq _ st q) _ _ _ h)) λ h=>.inr ⟨h.1,Ds (λ st q=>⟨q.1,hq _ st q.2⟩) _ _ _ h.2⟩
  ·rename_i hb;rw[hb]at h;exact Ds (λ st q=>hq _ st q) _ _ _ h
 | .seq a b,st,Q,Q',hq,h=>h.imp
  (λ h=>kP a st _ _ (λ e st' k=>by
   cases e with
   |normal=>exact kP b st' Q Q' hq k
   |exit i=>exact hq _ _ k
   |ret=>exact hq _ _ k) h)
  (λ h=>h.imp (λ h=>kP a st _ _ (λ e st' k=>by
   cases e with
   |normal=>obtain⟨st2,g,k⟩:=k;exact .mk st2 g (kP b st2 Q Q' hq k)
   |exit i=>exact hq _ _ k
   |ret=>exact hq _ _ k) h)
   (λ h=>kP a st _ _ (λ e st' k=>by
   cases e with
   |normal=>obtain⟨st2,g,st3,σ,h1,h2,k⟩:=k;exact .mk st2 g (.mk st3 σ h1 h2 (kP b st3 Q Q' hq k))
   |exit i=>exact hq _ _ k
   |ret=>exact hq _ _ k) h))
 | .cond c x y,st,Q,Q',hq,h=>by
  simp only[fY]at h⊢;split
  ·rename_i b hv;rw[hv]at h;obtain⟨h1,h2⟩:=h;exact .mk (λ e=>kP x st Q Q' hq (h1 e)) (λ e=>kP y st Q Q' hq (h2 e))
  ·rename_i hv;split at h
   ·rename_i b hv';exact absurd hv' (hv b)
   ·exact h
 | .block id b,st,Q,Q',hq,h=>kP b st _ _ (λ e st' k=>by
   cases e with
   |normal=>exact hq _ _ k
   |exit i=>
    simp only at k⊢;split
    ·rename_i hb;rw[hb]at k;exact hq _ _ k
    ·rename_i hb;rw[hb]at k;exact hq _ _ k
   |ret=>exact hq _ _ k) h
 | .loop b,st,Q,Q',hq,h=>by
  obtain⟨I,μ,st0,σ,hw,hf,h0,round⟩:=h;exact .mk I μ st0 σ hw hf h0 λ st' hi=>kP b st' _ _ (λ e st'' k=>by
   cases e with
   |normal=>exact k
   |exit i=>exact hq _ _ k
   |ret=>exact hq _ _ k) (round st' hi)
 | .exit id,_,_,_,hq,h=>hq _ _ h
 | .ret,_,_,_,hq,h=>hq _ _ h
end
theorem rY{C:Ctx}{R:FuncId→List AV→AV→Prop}{b:Code}{st:ASt}{Q:AEx→ASt→Prop}{κ:Type}(S:κ→ASt)(G:κ→Prop)(μ:κ→Nat)(k0:κ)(σ:Nat→Nat)(hw:Weak st (S k0) σ)(hf:keepB C.fr σ (S k0).n=true)(h0:G k0)
  (round:∀ k,G k→fY C R b (S k) (λ e st'=>match e with| .normal=>GhostN st' (λ stg=>∃ k' σ,Weak stg (S k') σ∧keepB C.fr σ (S k').n=true∧G k'∧μ k'<μ k)|e=>Q e st')):fY C R (.loop b) st Q:=by
 show LoopN C.fr (fY C R b) st Q
 classical
 have least:∀ (st:ASt) (n:Nat) (k:κ),G k→st=S k→μ k≤n→∃ k,G k∧st=S k∧∀ k',G k'→st=S k'→μ k≤μ k':=by
  intro st n
  induction n with
  |zero=>intro k h1 h2 h3;exact⟨k,h1,h2,λ k' _ _=>by omega⟩
  |succ n ih=>
   intro k h1 h2 h3;by_cases hc:∃ k',G k'∧st=S k'∧μ k'≤n
   ·obtain⟨k',p,q,r⟩:=hc;exact ih k' p q r
   ·exact⟨k,h1,h2,λ k' p q=>aR (kH (aM h3 (Nat.lt_of_not_le λ r=>hc ⟨k',p,q,r⟩)))⟩
 have hl:∀ st:ASt,(∃ k,G k∧st=S k)→∃ k,G k∧st=S k∧∀ k',G k'→st=S k'→μ k≤μ k':=λ st ⟨k,p,q⟩=>least st (μ k) k p q (aC _)
 let M:ASt→Nat:=λ st=>open Classical in if h:∃ k,G k∧st=S k then μ (Classical.choose (hl st h))else 0
 have hM:∀ st k,G k→st=S k→M st≤μ k:=by
  intro st k p q;have h:∃ k,G k∧st=S k:=⟨k,p,q⟩;show dite _ _ _≤_;rw[dif_pos h];exact (mX (hl st h)).2.2 k p q
 refine .mk (λ st=>∃ k,G k∧st=S k) M (S k0) σ hw hf ⟨k0,h0,rfl⟩ ?_;rintro st' h;have e:M st'=μ (Classical.choose (hl st' h)):=dif_pos h;obtain⟨p,q,r⟩:=mX (hl st' h);generalize Classical.choose (hl st' h)=k at e p q r;subst q;have:=round k p;refine kP b _ _ _ (λ e' st'' hq=>?_) this
 cases e' with
 |normal=>
  obtain⟨stg,g,k',σ',h1,hf',h2,h3⟩:=hq
  exact .mk stg g ⟨S k',σ',h1,hf',⟨k',h2,rfl⟩,by rw[e];exact bM (hM _ k' h2 rfl) h3⟩
 |exit i=>exact hq
 |ret=>exact hq
theorem mL{C:Ctx}{R:FuncId→List AV→AV→Prop}{b:Code}{st:ASt}{Q:AEx→ASt→Prop}{κ:Type}(S:κ→ASt)(G:κ→Prop)(μ:κ→Nat)(k0:κ)(σ:Nat→Nat)(hw:Weak st (S k0) σ)(h0:G k0)
  (round:∀ k,G k→fY C R b (S k) (λ e st'=>match e with| .normal=>∃ k' σ,Weak st' (S k') σ∧G k'∧μ k'<μ k|e=>Q e st')) (hfr:C.fr=0:=by rfl):fY C R (.loop b) st Q:=by
 refine rY S G μ k0 σ hw (by rw[hfr];rfl) h0 λ k hk=>kP b _ _ _ (λ e st' q=>?_) (round k hk)
 cases e with
 |normal=>obtain⟨k',σ',h1,h2,h3⟩:=q;exact .mk st' (.refl _) ⟨k',σ',h1,by rw[hfr];rfl,h2,h3⟩
 |exit i=>exact q
 |ret=>exact q
def YE:List AV→Option (List Value)
 |[]=>some []
 | .v x::cs=>match YE cs with|some l=>some (x::l)|none=>none
 |_::_=>none
def Rl:AV→Option Value
 | .v x=>some x
 | .agg cs=>match YE cs with|some l=>(match WR l with|true=>some (.agg l.toArray)|false=>none)|none=>none
 |_=>none
def Io:List AV→Option (List Value)
 |[]=>some []
 |x::cs=>match Rl x,Io cs with|some u,some l=>some (u::l)|_,_=>none
theorem Gm:∀ (cs:List AV) (l:List Value),YE cs=some l→cs=l.map .v
 |[],l,h=>by injection h with h;subst h;rfl
 | c::cs,l,h=>by
  cases c<;>simp only[YE]at h<;>try (cases h;done)
  split at h
  ·rename_i l' hl;injection h with h;subst h;rw[Gm cs l' hl];rfl
  ·cases h
section
variable {S:Nat→Prop}{w:World}{β:Bt}
theorem Gn{a:AV}{u:Value}(h:Rl a=some u):Rep S w β a u:=by
 cases a<;>simp only[Rl]at h<;>try (cases h;done)
 case v x=>injection h with h;subst h;exact .v _
 case agg cs=>
  split at h
  ·rename_i l hl;split at h
   ·rename_i ho;injection h with h;subst h;have:=Gm cs l hl;subst this;refine .agg _ _ (by simp) (λ i u hu=>Bf _ ho i u (by simpa using hu)) λ i a u h1 h2=>?_;have h2':l[i]?=some u:=by simpa using h2
    simp[h2']at h1;subst h1;exact .v _
   ·cases h
  ·cases h
theorem NQ{a:AV}{u v:Value}(h:Rl a=some u)(hr:Rep S w β a v):v=u:=by
 cases a<;>simp only[Rl]at h<;>try (cases h;done)
 case v x=>injection h with h;subst h;cases hr;rfl
 case agg cs=>
  split at h
  ·rename_i l hl;split at h
   ·injection h with h;subst h;have:=Gm cs l hl;subst this
    cases hr with
    | agg _ vs hl1 h1 hh=>
     congr 1;apply Array.ext
     ·simpa using hl1.symm
     ·intro i p q;have p1:vs[i]?=some vs[i]:=aS p;have q1:i<l.length:=by simpa using q
      have:=hh i (.v l[i]) vs[i] (by simp[q1]) p1;have:=lK this;rw[this];simp
   ·cases h
  ·cases h
theorem Gp:∀ {args:List AV} {vs:List Value},Io args=some vs→args.length=vs.length
 |[],vs,h=>by injection h with h;subst h;rfl
 | x::args,vs,h=>by
  simp only[Io]at h;split at h
  ·rename_i u l h1 h2;injection h with h;subst h;simp[Gp h2]
  ·cases h
theorem Gq:∀ {args:List AV} {vs:List Value},Io args=some vs→∀ (i:Nat) a u,args[i]?=some a→vs[i]?=some u→Rl a=some u
 |[],vs,h,i,a,u,h1,_=>by simp at h1
 | x::args,vs,h,i,a,u,h1,h2=>by
  simp only[Io]at h;split at h
  ·rename_i u' l g1 g2;injection h with h;subst h
   cases i with
   |zero=>simp at h1 h2;subst h1;subst h2;exact g1
   |succ i=>exact Gq g2 i a u (by simpa using h1) (by simpa using h2)
  ·cases h
theorem Db{args:List AV}{vs:List Value}(h:Io args=some vs):RepL S w β args vs:=
 ⟨Gp h,λ i a u h1 h2=>Gn (Gq h i a u h1 h2)⟩
theorem JX{args:List AV}{vs us:List Value}(h:Io args=some vs)(hr:RepL S w β args us):us=vs:=by
 apply dD;intro i;have l1:=Gp h;have l2:args.length=us.length:=hr.1;rcases al_Nat_lt_or_ge i args.length with k|k
 ·have e1:args[i]?=some args[i]:=aA k;have e2:us[i]?=some us[i]:=aA (by omega);have e3:vs[i]?=some vs[i]:=aA (by omega);rw[e2,e3,NQ (Gq h i _ _ e1 e3) (hr.2 i _ _ e1 e2)]
 ·rw[bO (by omega),bO (by omega)]
end
theorem okB{a b:Bool}(h:a=b):Res.ok (.v (.bool a))=.ok (.v (.bool b)):=by rw[h]
theorem okI{k:IntKind}{a b:Int}(h:a=b):Res.ok (.v (.int k a))=.ok (.v (.int k b)):=by rw[h]
theorem Gr{p:Prop}{k:IntKind}{a b:Int}(h:a=b):Res.need p (.v (.int k a))=.need p (.v (.int k b)):=by rw[h]
theorem eqN(x y:Nat):((x:Int)==(y:Int))=(x==y):=by rw[bS];simp only[pQ];omega
theorem neN(x y:Nat):((x:Int) != (y:Int))=(x != y):=by simp only[bne,eqN]
theorem ltN(x y:Nat):decide ((x:Int)<(y:Int))=decide (x<y):=by simp only[EI]
theorem leN(x y:Nat):decide ((x:Int)≤(y:Int))=decide (x≤y):=by simp only[EJ]
theorem gtN(x y:Nat):decide ((x:Int)>(y:Int))=decide (x>y):=ltN y x
theorem geN(x y:Nat):decide ((x:Int)≥(y:Int))=decide (x≥y):=leN y x
theorem Ig{e B M:Nat}(h:e≤B)(hB:Nat.blt B M=true):((e % M:Nat):Int)=((e:Nat):Int):=by
 have:=aO hB;rw[qP (by omega)]
theorem TN{x y B:Nat}(h:y≤B)(hB:Nat.ble B 4294967296=true):IntKind.wrap .u32 ((x:Int) - (y:Int))=(((x+4294967296 - y) % 4294967296:Nat):Int):=by
 have:=aO hB;simp only[IntKind.wrap,IntKind.signed,IntKind.bits];simp;omega
theorem wrap_i64{x:Int}(h1: -9223372036854775808≤x)(h2:x<9223372036854775808):IntKind.wrap .i64 x=x:=by
 simp only[IntKind.wrap,IntKind.signed,IntKind.bits];simp;omega
theorem bV{e B:Nat}(h:e≤B)(hB:Nat.blt B 9223372036854775808=true):IntKind.wrap .i64 ((e:Nat):Int)=((e:Nat):Int):=by
 have:=aO hB;exact wrap_i64 (by omega) (by omega)
theorem TO{x B:Nat}(h:x≤B)(hB:Nat.ble B 4294967295=true):(BitVec.ofInt 32 (x:Int)).toNat=x:=by
 have:=aO hB;rw[BitVec.toNat_ofInt];omega
theorem WW{x:Nat}(h:x<4294967296):IntKind.wrap .u32 (x:Int)=(x:Int):=(Ig (e:=x) (B:=x) (M:=4294967296) (aC _) (jY h))
theorem NR{x y B D:Nat}(hx:x≤B)(hy:y≤D)(hB:Nat.ble B 4294967295=true)(hD:Nat.ble D 4294967295=true):x ^^^ y≤4294967295:=
 aR (mC (n:=32) (kH (aM hx (aO hB))) (kH (aM hy (aO hD))))
theorem WX{x y B D:Nat}(hx:x≤B)(hy:y≤D)(hB:Nat.ble B 4294967295=true)(hD:Nat.ble D 4294967295=true):
  IntKind.wrap .u32 (BitVec.ofInt (IntKind.bits .u32) (x:Int) ^^^ BitVec.ofInt (IntKind.bits .u32) (y:Int)).toNat=((x ^^^ y:Nat):Int):=by
 show IntKind.wrap .u32 (BitVec.ofInt 32 (x:Int) ^^^ BitVec.ofInt 32 (y:Int)).toNat=_;rw[BitVec.toNat_xor,TO hx hB,TO hy hD];exact WW (kH (NR hx hy hB hD))
theorem Gt{C:Ctx}{fn:Func}{r:AV}{st:ASt}{rs:List AV}(h1:resA C st fn.results.toList=some rs)(h2:jS st.h (Ct rs))(h3:eL (uP st.h (Ct rs))=true)(h4:uP st.h (Ct rs)=r):TP C fn r st:=
 ⟨rs,h1,h2,h3,h4 ▸ Sub.refl _⟩
theorem bX.of_flat{C:Ctx}{f:FuncId}{fn:Func}{args:List AV}{vs:List Value}{r:AV}{v:Value}(hf:C.P.funcs[f]?=some fn)(hb:fn.body.isSome=true)(hnm:(fn.name== "runtime.NumGoroutine")=false)
  (ha:Io args=some vs) (hr:Rl r=some v) (hc:∀ w,Calls C.P f vs.toArray w λ e w'=>e=.returned v∧Below w.heap.size w w'):bX C f args r:=
 ⟨⟨fn,hf,hb,hnm⟩,λ S w us hS hG hu=>by
  rw[JX ha hu];exact (hc w).mono λ e w' ⟨he,hB⟩=>⟨v,he,hB,Gn hr⟩⟩
theorem bX.flat{C:Ctx}{f:FuncId}{args:List AV}{vs:List Value}{r:AV}{v:Value}(h:bX C f args r)(hG:∀ S w,GOk C S w)(ha:Io args=some vs)(hr:Rl r=some v)(w:World):
  Calls C.P f vs.toArray w λ e w'=>e=.returned v∧Below w.heap.size w w':=
 (h.2 (λ _=>False) w vs (λ _ h=>h.elim) (hG _ _) (Db ha)).mono λ e w' ⟨u,he,hB,hu⟩=>⟨by rw[he,NQ hr hu],hB⟩
abbrev vU(n:Nat):AV:=.v (.int .u32 (n:Int))
abbrev zU:AV:=.v (.int .u32 0)
abbrev vN(n:Nat):AV:=.v (.int .i64 (n:Int))
abbrev vI(n:Int):AV:=.v (.int .i64 n)
abbrev vB(b:Bool):AV:=.v (.bool b)
section
variable {C:Ctx}{R:FuncId→List AV→AV→Prop}{all rest:List Oper}{o:Oper}{j n:Nat}{t:Nat→AV}{h h':AH}{K:ASt→Prop}{Q:AEx→ASt→Prop}{fn:Func}{st:ASt}
theorem rE(n':Nat)(k:K ⟨t,h,n'⟩)(e:n+j=n':=by exact rfl):kX C R all [] j ⟨t,h,n⟩ K:=Kq e k
theorem rF(d:Nat)(x:AV)(h':AH)(k:kX C R all rest (j+1) ⟨upd t d x,h',n⟩ K)(hg:o.guard=none:=by exact rfl)(hd:o.dst=some d:=by exact rfl)(hx:opA C (evA C t) h (n+j) o.op=.fx True x h':=by exact rfl):kX C R all (o::rest) j ⟨t,h,n⟩ K:=rFx hg hd hx trivial k
theorem rS(h':AH)(k:kX C R all rest (j+1) ⟨t,h',n⟩ K)(hg:o.guard=none:=by exact rfl)(hd:o.dst=none:=by exact rfl)(hx:opA C (evA C t) h (n+j) o.op=.fx True .any h':=by exact rfl):kX C R all (o::rest) j ⟨t,h,n⟩ K:=Xj hg hd hx trivial k
theorem fB{x y:Bool}(h1:resA C st fn.results.toList=some [.v (.bool x)])(e:x=y):TP C fn (.v (.bool y)) st:=Gt h1 trivial rfl (by rw[e];rfl)
end
theorem c2(c x y:Bool):cZ c x y=(c&&x|| !c&&y):=by cases c<;>simp[cZ]
open Go.RowKit Go.ChangeShapes Go.WideShapes Go.ChangeAt Go.Deep
inductive TyV(P:Program):TypeId→List AV→Prop
 |bool {t:TypeId} (h:P.underlying t=some .bool) (b:Bool):TyV P t [.v (.bool b)]
 |int {t:TypeId} {k:IntKind} (h:P.underlying t=some (.int k)) (n:Int) (hn:(Lit.int k n).wf=true):TyV P t [.v (.int k n)]
 |string {t:TypeId} (h:P.underlying t=some .string) (s:ByteArray) (hs:s.size≤maxLen):TyV P t [.v (.string s)]
 |slice {t e:TypeId} (h:P.underlying t=some (.slice e)) (rows:List (List AV)) (hl:rows.length≤maxLen) (hr:∀ row∈rows,TyV P e row) (hrs:∀ row∈rows,row.length=P.cellsOf e):TyV P t [.sl (P.cellsOf e) rows false]
 |struct {t:TypeId} {fs:Array Field} (h:P.underlying t=some (.struct fs)) (parts:Nat→List AV) (hp:∀ (j:Nat) f,fs[j]?=some f→TyV P f.type (parts j)):TyV P t ((List.range fs.size).flatMap parts)
 |array {t e:TypeId} {n:Nat} (h:P.underlying t=some (.array n e)) (parts:Nat→List AV) (hp:∀ j,j<n→TyV P e (parts j)):TyV P t ((List.range n).flatMap parts)
def IM(P:Program):Nat→List Field→Option Nat
 |o,[]=>some o
 |o,f::fs=>match Nat.beq f.offset o with|true=>IM P (o+P.cellsOf f.type) fs|false=>none
def Fy(P:Program):Nat→TypeId→Bool
 |0,_=>false
 |d+1,t=>match P.underlying t with
  |some .bool|some (.int _)|some .string=>true
  |some (.slice e)=>Nat.blt 0 (P.cellsOf e)&&Fy P d e
  |some (.struct fs)=>(match IM P 0 fs.toList with|some n=>Nat.beq n (P.cellsOf t)|none=>false)&&fs.toList.all (λ f=>Fy P d f.type)
  |some (.array n e)=>Nat.beq (n * P.cellsOf e) (P.cellsOf t)&&Fy P d e
  |_=>false
section
variable {H:Type}{enc:TypeId×Value→H}{P:Program}{w:World}{base:Nat}{spare:Nat→Bool}{held:Bool}
structure Opened(P:Program)(w:World)(t:TypeId)(cs:List AV)(vals:List Value):Prop where
 rep:RepL (· <w.heap.size) w noB cs vals
 one:∀ u∈vals,u.oneCell'=true
 ty:TyV P t cs
theorem DL{S:Nat→Prop}{β:Bt}:∀ (n:Nat) (A:Nat→List AV) (V:Nat→List Value),(∀ i,i<n→RepL S w β (A i) (V i))→RepL S w β ((List.range n).flatMap A) ((List.range n).flatMap V)
 |0,_,_,_=>by simpa using RepL.nil S w β
 | n+1,A,V,h=>by
  rw[jZ,oN,oN];have ih:=DL n A V λ i hi=>h i (by omega);have h1:=h n (by omega);simp only[gR,List.flatMap_nil,dQ];refine⟨by simp[ih.1,h1.1],λ i a u ha hu=>?_⟩;rcases al_Nat_lt_or_ge i ((List.range n).flatMap A).length with k|k
  ·rw[cI k]at ha;rw[cI (by rw[←ih.1];exact k)]at hu;exact ih.2 i a u ha hu
  ·rw[bQ k]at ha;rw[bQ (by rw[←ih.1];exact k), ←ih.1]at hu;exact h1.2 _ a u ha hu
theorem IP:∀ (fs:List Field) (o n:Nat) (vals:List Value),IM P o fs=some n→o≤vals.length→n≤vals.length→o≤n∧
  (List.range fs.length).flatMap (λ j=>match (fs[j]? :Option Field)with|some f=>(vals.drop (Field.offset f)).take (P.cellsOf (Field.type f))|none=>[])=(vals.drop o).take (n - o)
 |[],o,n,vals,h,_,_=>by
  simp only[IM,Option.some.injEq]at h;subst h;simp
 | f ::fs,o,n,vals,h,ho,hn=>by
  simp only[IM]at h;split at h
  ·rename_i hb;have hb:=aK hb;have hle:o+P.cellsOf f.type≤n:=by
    have:∀ (fs:List Field) (o n:Nat),IM P o fs=some n→o≤n:=by
     intro fs
     induction fs with
     |nil=>intro o n h;simp only[IM,Option.some.injEq]at h;omega
     |cons f fs ih=>
      intro o n h;simp only[IM]at h;split at h
      ·have:=ih _ _ h;omega
      ·cases h
    exact this fs _ _ h
   obtain⟨h1,h2⟩:=IP fs (o+P.cellsOf f.type) n vals h (by omega) hn;refine⟨by omega,?_⟩;rw[bN,List.range_succ_eq_map,gR,List.flatMap_map];simp only[cK,Function.comp_def,dE];rw[h2,hb];have:n - o=P.cellsOf f.type+(n - (o+P.cellsOf f.type)):=by omega
   rw[this,List.take_add,kU]
  ·cases h
theorem IQ(vals:List Value)(sz:Nat):∀ n,n * sz≤vals.length→(List.range n).flatMap (λ i=>(vals.drop (i * sz)).take sz)=vals.take (n * sz)
 |0,_=>by simp
 |n+1,h=>by
  rw[cC,kO]at h;rw[jZ,oN,IQ vals sz n (by omega),cC,kO,List.take_add];simp
theorem uS:∀ (D fuel:Nat) (t:TypeId) (vals:List Value) (x:DataW H×List MemPlace),DataW.trod enc P w base spare held fuel t vals=some x→Fy P D t=true→∃ cs,Opened P w t cs vals
 |0,_,_,_,_,_,h=>by simp[Fy]at h
 | D + 1,fuel,t,vals,x,h,hp=>by
  have single:∀ (a:AV) (u:Value),Rep (· <w.heap.size) w noB a u→u.oneCell'=true→TyV P t [a]→Opened P w t [a] [u]:=λ a u h1 h2 h3=>⟨.cons h1 (.nil _ _ _),λ v hv=>by simp at hv;subst hv;exact h2,h3⟩;unfold Fy at hp
  cases hu:P.underlying t with
  |none=>rw[hu]at hp;cases hp
  | some d=>
   rw[hu]at hp;cases d<;>simp only[bU]at hp<;>try (cases hp;done)
   case bool=>
    obtain⟨b,rfl,_⟩:=DataW.trod_bool hu h;exact⟨_,single _ _ (.v _) rfl (.bool hu b)⟩
   case int k=>
    obtain⟨n,rfl,_,hw⟩:=DataW.trod_int hu h;exact⟨_,single _ _ (.v _) rfl (.int hu n hw)⟩
   case string=>
    obtain⟨s,rfl,_,hs⟩:=DataW.trod_string hu h;exact⟨_,single _ _ (.v _) rfl (.string hu s hs)⟩
   case slice e=>
    simp only[aI]at hp;obtain⟨hc0,hp⟩:=hp;have hc0:0<P.cellsOf e:=aO hc0;rcases DataW.trod_slice hu h with ⟨rfl,_⟩|⟨a,len,cap,elems,rest,n,rfl,rfl,_,hb,hl,hm,he,hel,_⟩
    ·exact⟨_,single (.sl (P.cellsOf e) [] false) _ (.sl _ [] false none 0 0 0 (λ _ _=>.bool false) (by simp) (by simp) (λ h=>by cases h) (λ _ h=>by simp at h) (λ h=>by simp at h) (λ i row j a h=>by simp at h) (λ _ _=>rfl) (λ i row j a h=>by simp at h)) rfl (.slice hu [] (by simp) (λ _ h=>by simp at h) (λ _ h=>by simp at h))⟩
    ·have row:∀ i,∃ cs us,i<len→Opened P w e cs us∧us.length=P.cellsOf e∧∀ (j:Nat),j<P.cellsOf e→w.cell? ((a.add (i * P.cellsOf e)).add j)=us[j]? :=by
      intro i;by_cases hi:i<len
      ·have h1:=hel i hi;have h2:elems[i]?=some (elems[i]'(by omega)):=aA (by omega);rw[h2,Option.bind_eq_some_iff]at h1;obtain⟨us,g1,g2⟩:=h1;obtain⟨cs,hcs⟩:=uS D n e us _ g2 hp;unfold World.cells? at g1;split at g1
       ·have l1:us.length=P.cellsOf e:=by simpa using mapM_some_length g1
        exact⟨cs,us,λ _=>⟨hcs,l1,λ j hj=>mapM_some_get g1 j j (by simp[hj])⟩⟩
       ·cases g1
      ·exact⟨[],[],λ h=>absurd h hi⟩
     obtain⟨A,hA⟩:=Classical.axiomOfChoice row;obtain⟨V,hV⟩:=Classical.axiomOfChoice hA;have lenA:∀ i,i<len→(A i).length=P.cellsOf e:=λ i hi=>(hV i hi).1.rep.1.trans (hV i hi).2.1;have spot:∀ i,i<len→0<P.cellsOf e→a.spot=none∨i * P.cellsOf e≠0:=by
      intro i hi h0;by_cases hz:i * P.cellsOf e=0
      ·left;have h1:=(hV i hi).2.2 0 h0;have h2:(V i)[0]?=some ((V i)[0]'(by rw[(hV i hi).2.1];exact h0)):=aA _;rw[h2]at h1;simp only[Addr.add,hz,kV,World.cell?]at h1;split at h1
       ·cases hs:a.spot<;>simp[hs]at h1⊢
       ·cases h1
      ·exact .inr hz
     have hspot:0<len→0<P.cellsOf e→a.spot=none:=λ h1 h2=>(spot 0 h1 h2).elim id λ h=>absurd (Nat.zero_mul _) h;have cell:∀ i,i<len→∀ (j:Nat),j<P.cellsOf e→w.cell? ⟨a.block,a.off+i * P.cellsOf e+j,none⟩=(V i)[j]? :=by
      intro i hi j hj;rw[←(hV i hi).2.2 j hj];have hsp:=hspot (by omega) (by omega);congr 1;obtain⟨b,o,sp⟩:=a;simp only at hsp;subst hsp;unfold Addr.add;by_cases h1:i * P.cellsOf e=0<;>by_cases h2:j=0<;>simp[h1,h2]
     have hmem:∀ row∈(List.range len).map A,∃ i,i<len∧A i=row:=λ row hr=>by simpa using hr
     have at':∀ (i:Nat) row,((List.range len).map A)[i]?=some row→i<len∧row=A i:=λ i row h=>by
      rw[aZ]at h;rcases al_Nat_lt_or_ge i len with hi|hi
      ·rw[gZ hi]at h;exact⟨hi,by simpa using h.symm⟩
      ·rw[bO (by simpa using hi)]at h;cases h
     have hval:∀ i,i<len→∀ (j:Nat) x,(A i)[j]?=some x→∃ u,(V i)[j]?=some u∧(if i<len∧j<P.cellsOf e then (V i).getD j (.bool false)else .bool false)=u∧j<P.cellsOf e:=by
      intro i hi j x hx;have hj:j<P.cellsOf e:=by rw[←lenA i hi];exact (Dq.1 hx).1
      have hj':j<(V i).length:=by rw[(hV i hi).2.1];exact hj
      exact⟨(V i)[j],aA hj',by simp[hi,hj,hj'],hj⟩
     refine⟨_,single (.sl (P.cellsOf e) ((List.range len).map A) false) _ ?_ rfl (.slice hu _ (by simp;omega) (λ row hr=>?_) (λ row hr=>?_))⟩
     ·have:=Rep.sl (S:=(· <w.heap.size)) (w:=w) (β:=noB) (P.cellsOf e) ((List.range len).map A) false (if 0<len then some ⟨a.block,a.off,none⟩else some a) cap a.block a.off
       (λ i j=>if i<len∧j<P.cellsOf e then (V i).getD j (.bool false)else .bool false) (by simpa using hl) hm (λ h=>by cases h)
       (λ row hr=>by obtain⟨i,hi,rfl⟩:=hmem row hr;exact lenA i hi) ?_ ?_ ?_ ?_
      ·simp only[aF,gT]at this;by_cases h0:0<len
       ·rw[if_pos h0]at this;have hsp:=hspot h0 hc0;obtain⟨b,o,sp⟩:=a;simp only at hsp;subst hsp;exact this
       ·rw[if_neg h0]at this;exact this
      ·intro h0;simp only[aF,gT]at h0;rw[if_pos h0];refine⟨rfl,?_⟩;have h1:=cell 0 h0 0 hc0;have h2:(V 0)[0]?=some ((V 0)[0]'(by rw[(hV 0 h0).2.1];exact hc0)):=aA _;rw[h2]at h1;simp only[World.cell?]at h1;split at h1
       ·rename_i hb;exact fQ hb
       ·cases h1
      ·intro i row j x h1 h2;obtain⟨hi,rfl⟩:=at' i row h1;obtain⟨u,g1,g2,g3⟩:=hval i hi j x h2;rw[cell i hi j g3,g2,g1]
      ·intro i j;split
       ·rename_i hc;have hj':j<(V i).length:=by rw[(hV i hc.1).2.1];exact hc.2
        rw[bJ,aA hj'];exact (hV i hc.1).1.one _ (lG hj')
       ·rfl
      ·intro i row j x h1 h2;obtain⟨hi,rfl⟩:=at' i row h1;obtain⟨u,g1,g2,g3⟩:=hval i hi j x h2;rw[g2];exact (hV i hi).1.rep.2 j x u h2 g1
     ·obtain⟨i,hi,rfl⟩:=hmem row hr;exact (hV i hi).1.ty
     ·obtain⟨i,hi,rfl⟩:=hmem row hr;exact lenA i hi
   case struct fs=>
    simp only[aI]at hp;obtain⟨hp1,hp2⟩:=hp;split at hp1
    ·rename_i n hn;have hn':=aK hp1;obtain⟨xs,m,rfl,_,hlen,hxl,hfd⟩:=DataW.trod_struct hu h;have part:∀ j:Nat,∃ cs,∀ f:Field,fs[j]?=some f→Opened P w f.type cs ((vals.drop f.offset).take (P.cellsOf f.type)):=by
      intro j
      cases hf:fs[j]? with
      |none=>exact⟨[],λ f hf=>by cases hf⟩
      |some f=>
       have h1:=hfd j f hf;have hj:j<fs.size:=(CZ.1 hf).1;rw[aA (by omega)]at h1;obtain⟨cs,hcs⟩:=uS D m f.type _ _ h1 (iH.1 hp2 f (Ie.2 (nB hf)));exact⟨cs,λ f' hf'=>by injection hf' with hf';subst hf';exact hcs⟩
     obtain⟨A,hA⟩:=Classical.axiomOfChoice part;obtain⟨_,hr⟩:=IP fs.toList 0 n vals hn (aE _) (by omega);have hall:(List.range fs.size).flatMap (λ j=>match (fs[j]? :Option Field)with|some f=>(vals.drop (Field.offset f)).take (P.cellsOf (Field.type f))|none=>[])=vals:=by
      have:(List.range fs.toList.length).flatMap (λ j=>match (fs.toList[j]? :Option Field)with|some f=>(vals.drop f.offset).take (P.cellsOf f.type)|none=>[])=vals:=by
       rw[hr];simp[hn', ←hlen]
      simpa using this
     have hrep:=DL (S:=(· <w.heap.size)) (w:=w) (β:=noB) fs.size A (λ j=>match (fs[j]? :Option Field)with|some f=>(vals.drop (Field.offset f)).take (P.cellsOf (Field.type f))|none=>[]) (λ j hj=>by
      have hf:fs[j]?=some fs[j]:=aS hj;simp only[hf];exact (hA j _ hf).rep)
     rw[hall]at hrep;refine⟨_,hrep,λ u hu'=>?_,.struct hu A λ j f hf=>(hA j f hf).ty⟩;rw[←hall]at hu';obtain⟨j,hj,hju⟩:=Ll.1 hu';have hj':j<fs.size:=by simpa using hj
     have hf:fs[j]?=some fs[j]:=aS hj';simp only[hf]at hju;exact (hA j _ hf).one u hju
    ·cases hp1
   case array n e=>
    simp only[aI]at hp;obtain⟨hp1,hp2⟩:=hp;have hn:=aK hp1;obtain⟨xs,m,rfl,_,hlen,hxl,hfd⟩:=DataW.trod_array hu h;have part:∀ i,∃ cs,i<n→Opened P w e cs ((vals.drop (i * P.cellsOf e)).take (P.cellsOf e)):=by
     intro i;by_cases hi:i<n
     ·have h1:=hfd i hi;rw[aA (by omega)]at h1;obtain⟨cs,hcs⟩:=uS D m e _ _ h1 hp2;exact⟨cs,λ _=>hcs⟩
     ·exact⟨[],λ h=>absurd h hi⟩
    obtain⟨A,hA⟩:=Classical.axiomOfChoice part;have hall:=IQ vals (P.cellsOf e) n (by omega);rw[hn, ←hlen,cS]at hall;have hrep:=DL (S:=(· <w.heap.size)) (w:=w) (β:=noB) n A _ (λ j hj=>(hA j hj).rep);rw[hall]at hrep;refine⟨_,hrep,λ u hu'=>?_,.array hu A λ j hj=>(hA j hj).ty⟩;rw[←hall]at hu';obtain⟨j,hj,hju⟩:=Ll.1 hu';exact (hA j (by simpa using hj)).one u hju
end
def fA:AV→Option AV
 | .v x=>some (.v x)
 | .agg cs=>some (.agg cs)
 | .tup cs=>some (.tup cs)
 | .sl a b c=>some (.sl a b c)
 | .dp a b c=>some (.dp a b c)
 | .ptr a b=>some (.ptr a b)
 | .ptr2 a b c=>some (.ptr2 a b c)
 | .osl a b c d=>some (.osl a b c d)
 | .clo f a b=>some (.clo f a b)
 | .opt g x=>some (.opt g x)
 | .any=>some .any
theorem OJ{x y:AV}(h:fA x=some y):x=y:=by cases x<;>cases h<;>rfl
def Xn:List AV→Nat→Option AV
 |[],_=>none
 |x::_,0=>fA x
 |_::xs,n+1=>Xn xs n
theorem Ku{l:List AV}{i:Nat}{y:AV}(h:Xn l i=some y):Lw l i=some y:=by
 induction l generalizing i with
 |nil=>cases h
 |cons x l ih=>cases i with
  |zero=>exact congrArg some (OJ h)
  |succ i=>exact ih h
def RW:Nat→List AV→(List AV→Option AV)→Option AV
 |0,_,k=>k []
 |_+1,[],k=>k []
 |n+1,x::xs,k=>RW n xs (λ l=>k (x::l))
theorem Ha(n:Nat)(l:List AV)(k:List AV→Option AV):RW n l k=k (GM n l):=by
 induction n generalizing l k with
 |zero=>rfl
 |succ n ih=>cases l with
  |nil=>rfl
  |cons x l=>exact ih l _
def RX(C:Ctx)(t:TypeId)(rs col:Nat)(row:List AV):Option AV:=
 match C.ty t with
 |some ⟨_,sz,true,_,_,_⟩=>
  match col,Nat.beq sz rs with
  |0,true=>some (.agg row)
  |_,_=>RW sz (EN col row) λ l=>match Nat.beq l.length sz with|true=>some (.agg l)|false=>none
 |some ⟨_,_,false,_,_,_⟩=>Xn row col
 |none=>none
theorem LA{C:Ctx}{t:TypeId}{rs col:Nat}{row:List AV}{y:AV}(h:RX C t rs col row=some y):GP C t rs col row=some y:=by
 unfold RX at h;unfold GP
 cases ht:C.ty t with
 |none=>rw[ht]at h;cases h
 | some ti=>
  obtain⟨kd,sz,ag,z,b,eq⟩:=ti;rw[ht]at h
  cases ag with
  |false=>exact Ku h
  |true=>
   cases col with
   |zero=>cases hb:Nat.beq sz rs<;>(simp only[hb,Ha]at h⊢;exact h)
   |succ c=>simp only[Ha]at h⊢;exact h
def UZ(C:Ctx)(t:TypeId)(cs:List AV)(off:Nat):Option AV:=
 match C.ty t with
 |some ⟨_,sz,true,_,_,_⟩=>RW sz (EN off cs) λ l=>some (.agg l)
 |some ⟨_,_,false,_,_,_⟩=>Xn cs off
 |none=>none
theorem RY{C:Ctx}{t:TypeId}{cs:List AV}{off:Nat}{y:AV}(h:UZ C t cs off=some y):MM C t cs off=some y:=by
 unfold UZ at h;unfold MM
 cases ht:C.ty t with
 |none=>rw[ht]at h;cases h
 |some ti=>
  obtain⟨kd,sz,ag,z,b,eq⟩:=ti;rw[ht]at h
  cases ag with
  |false=>exact Ku h
  |true=>simp only[Ha]at h⊢;exact h
def OK(C:Ctx)(h:AH)(t:TypeId)(a:AV):Option AV:=
 match a with
 | .ptr b c=>match h b with|some (.box cells)=>RX C t cells.length c cells|_=>none
 | .dp rs c row=>RX C t rs c row
 |_=>none
def TW(C:Ctx)(t:TypeId)(f:Nat)(a:AV):Option AV:=
 match C.ty t with
 |some ⟨.struct fs,_,_,_,_,_⟩=>match Oq fs f,a with|some (off,ft),.agg cs=>UZ C ft cs off|_,_=>none
 |_=>none
def okF(r:Res):Option AV:=match r with| .ok x=>fA x|_=>none
def sA(C:Ctx)(ev:Operand→AV)(h:AH)(op:Op):Option AV:=
 match op with
 | .move x| .assign x=>fA (ev x)
 | .load t a=>OK C h t (ev a)
 | .nilCheck x=>okF (RO (ev x))
 | .fieldAddr t x f=>okF (oE C t f (ev x))
 | .field t x f=>TW C t f (ev x)
 | .extract x i=>match ev x with| .tup vs=>Xn vs i|_=>none
 | .unOp .not _ x=>match ev x with| .v (.bool b)=>some (.v (.bool (!b)))|_=>none
 |_=>none
theorem TX{r:Res}{x:AV}(h:okF r=some x):r=.ok x:=by
 unfold okF at h;split at h
 ·exact congrArg Res.ok (OJ h)
 ·cases h
theorem Va{C:Ctx}{ev:Operand→AV}{h:AH}{s:Nat}{op:Op}{x:AV}(e:sA C ev h op=some x):opA C ev h s op=.ok x:=by
 unfold sA at e;split at e
 ·exact congrArg Res.ok (OJ e)
 ·exact congrArg Res.ok (OJ e)
 ·rename_i t a;show sJ C h t (ev a)=.ok x;unfold OK at e;unfold sJ;generalize ev a=z at e⊢
  cases z with
  |ptr b c=>
   simp only at e⊢;split at e
   ·rename_i h1;simp only[h1];rw[LA e];rfl
   ·cases e
  |dp rs c row=>simp only at e⊢;rw[LA e];rfl
  |_=>cases e
 ·exact TX e
 ·exact TX e
 ·rename_i t y f;show yW C t f (ev y)=.ok x;unfold TW at e;unfold yW;split at e
  ·rename_i h1;simp only[h1];split at e
   ·rename_i h2 h3;simp only[h2,h3];rw[RY e];rfl
   ·cases e
  ·cases e
 ·rename_i y i;show rC i (ev y)=.ok x;unfold rC;split at e
  ·rename_i h1;simp only[h1];rw[Ku e];rfl
  ·cases e
 ·rename_i t y;show unA .not (ev y)=.ok x;split at e
  ·rename_i h1;cases e;simp only[unA,h1]
  ·cases e
 ·cases e
def sO(C:Ctx)(t:Nat→AV)(h:AH)(o:Oper):Option (Nat×AV):=
 match o.guard,o.dst with
 |none,some d=>(match sA C (evA C t) h o.op with|some x=>some (d,x)|none=>none)
 |_,_=>none
theorem YU{C:Ctx}{t:Nat→AV}{h:AH}{o:Oper}{d:Nat}{x:AV}(e:sO C t h o=some (d,x)):o.guard=none∧o.dst=some d∧sA C (evA C t) h o.op=some x:=by
 unfold sO at e;split at e
 ·rename_i h1 h2;split at e
  ·rename_i h3;cases e;exact⟨h1,h2,h3⟩
  ·cases e
 ·cases e
def YV(C:Ctx)(h:AH):Nat→List Oper→(Nat→AV)→Option (List Oper×(Nat→AV))
 |0,ops,t=>some (ops,t)
 |_+1,[],_=>none
 |m+1,o::ops,t=>match sO C t h o with|some (d,x)=>YV C h m ops (upd t d x)|none=>none
def LB:AV→Bool→Option Bool
 | .v (.bool b),true=>some b
 | .v (.bool b),false=>some (!b)
 | .opt a (.v (.bool b)),true=>some (a&&b)
 | .opt a (.v (.bool b)),false=>some (a&& !b)
 |_,_=>none
theorem Bq{x:AV}{pol g:Bool}(e:LB x pol=some g):yX x pol=some g:=by
 unfold LB at e;split at e<;>first|(cases e;rfl)|cases e
def sG(C:Ctx)(t:Nat→AV)(h:AH)(all:List Oper)(o:Oper):Option (Nat×Bool×Option Bool×AV):=
 match o.guard,o.dst with
 | some (i,pol),some d=>
  (match (all[i]?).bind (·.dst)with
  |some e=>(match LB (t e) pol,condsO t o.op with
   |some g,none=>(match sA C (evA C t) h o.op with|some x=>some (d,g,none,x)|none=>none)
   |some g,some c=>(match sA C (evS C t o.op) h o.op with|some x=>some (d,g,some c,x)|none=>none)
   |none,_=>none)
  |none=>none)
 |_,_=>none
def sGd(t:Nat→AV)(all:List Oper)(o:Oper):Option (Nat×Bool×Option Bool):=
 match o.guard,o.dst with
 | some (i,pol),some d=>
  (match (all[i]?).bind (·.dst)with
  |some e=>(match LB (t e) pol,condsO t o.op with
   |some g,none=>some (d,g,none)
   |some g,some c=>some (d,g,some c)
   |none,_=>none)
  |none=>none)
 |_,_=>none
def YF:Nat→List AV→List AV→(List AV→Option AH)→Option AH
 |0,[],xs,k=>k xs
 |0,c::cs,_::xs,k=>YF 0 cs xs λ l=>k (c::l)
 |0,_::_,[],k=>k []
 |n+1,cs,x::xs,k=>YF n cs xs λ l=>k (x::l)
 |_+1,_,[],k=>k []
theorem Kv:∀ (n:Nat) (cs xs:List AV) (k:List AV→Option AH),YF n cs xs k=k (yV n cs xs)
 |0,[],[],k=>rfl
 |0,[],_::_,k=>rfl
 |0,c::cs,_::xs,k=>Kv 0 cs xs _
 |0,_::_,[],k=>rfl
 |n+1,cs,x::xs,k=>Kv n cs xs _
 |_+1,_,[],k=>rfl
theorem LC:∀ (cs xs:List AV),Nat.beq cs.length xs.length=true→yV 0 cs xs=cs
 |[],[],_=>rfl
 |[],_::_,h=>by cases h
 |c::cs,[],h=>by cases h
 |c::cs,x::xs,h=>congrArg (c:: ·) (LC cs xs h)
def YW(C:Ctx)(h:AH)(ty:TypeId)(a x:AV):Option AH:=
 match C.ty ty,kL x,a with
 | some ti,some cs,.ptr b c=>
  (match Nat.beq cs.length ti.sz,h b with
  | true,some (.box cells)=>(match Nat.ble (c+cs.length) cells.length with
   |true=>(match c,Nat.beq cs.length cells.length with
    |0,true=>some (upd h b (some (.box cs)))
    |c,_=>YF c cs cells λ l=>some (upd h b (some (.box l))))
   |false=>none)
  |_,_=>none)
 |_,_,_=>none
def sSt(C:Ctx)(t:Nat→AV)(h:AH)(o:Oper):Option AH:=
 match o.guard,o.dst,o.op with
 |none,none,.store ty a x=>YW C h ty (evA C t a) (evA C t x)
 |_,_,_=>none
def sAl(C:Ctx)(t:Nat→AV)(o:Oper):Option (Nat×List AV):=
 match o.guard,o.dst,o.op with
 |none,some d,.alloc ty=>(match Ab C ty with|some cs=>some (d,cs)|none=>none)
 |none,some d,.box _ x=>(match kL (evA C t x)with|some cs=>some (d,cs)|none=>none)
 |_,_,_=>none
def fL:List AV→(List AV→Option (Nat×FuncId×List AV))→Option (Nat×FuncId×List AV)
 |[],k=>k []
 |x::xs,k=>(match fA x with|some y=>fL xs λ l=>k (y::l)|none=>none)
theorem Xo:∀ {l:List AV} {k:List AV→Option (Nat×FuncId×List AV)} {r:Nat×FuncId×List AV},fL l k=some r→k l=some r
 |[],k,r,h=>h
 | x::xs,k,r,h=>by
  simp only[fL]at h;split at h
  ·rename_i y hy;rw[OJ hy];exact Xo (k:=λ l=>k (y::l)) h
  ·cases h
def sC(C:Ctx)(t:Nat→AV)(o:Oper):Option (Nat×FuncId×List AV):=
 match o.guard,o.dst,o.op with
 | none,some d,.call c=>(match c.callee with
  | .value f=>(match evA C t f with
   | .clo f first caps=>fL (first++c.args.toList.map (evA C t)++caps) λ l=>some (d,f,l)
   |_=>none)
  |_=>none)
 |_,_,_=>none
theorem YX{C:Ctx}{t:Nat→AV}{h:AH}{s:Nat}{o:Oper}{d:Nat}{f:FuncId}{args:List AV}(e:sC C t o=some (d,f,args)):o.guard=none∧o.dst=some d∧opA C (evA C t) h s o.op=.call f args:=by
 unfold sC at e;split at e
 ·rename_i d' c h1 h2 h3;split at e
  ·rename_i g hc;split at e
   ·rename_i f' first caps hf
    have:=Xo e;cases this
    refine⟨h1,h2,?_⟩;rw[h3];show (match c.callee with| .builtin b=>_| .value f=>_|_=>_)=_;rw[hc];simp only[hf]
   ·cases e
  ·cases e
 ·cases e
def sV(C:Ctx)(t:Nat→AV)(h:AH)(s:Nat)(o:Oper):Option (Nat×AV):=match o.guard,o.dst,opA C (evA C t) h s o.op with|none,some d,.ok x=>some (d,x)|_,_,_=>none
def sD(o:Oper):Option Nat:=match o.guard with|none=>o.dst|_=>none
theorem MU{o:Oper}{d:Nat}(h:sD o=some d):o.guard=none∧o.dst=some d:=by
 unfold sD at h;split at h
 ·rename_i e;exact⟨e,h⟩
 ·cases h
theorem ixT{a b:Nat}(h:a<b:=by first|omega|rfl|(simp only[aF,bN,cU,aV,bT,aN,aY,cR,gT,kW];done)|(simp only[aF,bN,cU,aV,bT,aN,aY,cR,gT,kW];omega)|(simp[kW];done)|(simp[kW];omega)):0≤(a:Int)∧(a:Int)<(b:Int):=⟨aG _,EI.2 h⟩
theorem omT{p:Prop}(h:p:=by first|omega|rfl|(simp only[aF,bN,cU,aV,bT,aN,aY,cR,gT,kW];done)|(simp only[aF,bN,cU,aV,bT,aN,aY,cR,gT,kW];omega)|(simp[kW];done)|(simp[kW];omega)):p:=h
theorem r4{q:Prop}(h:q):True∧True∧True∧True∧q:=⟨trivial,trivial,trivial,trivial,h⟩
theorem tvT{p:Prop}(h:p:=by repeat (first|exact trivial|refine⟨trivial,?_⟩)):p:=h
theorem rbT{p:Prop}(h:p:=by repeat (first|exact trivial|refine⟨⟨rfl,_,rfl,.refl _⟩,?_⟩)):p:=h
theorem rcT{p:Prop}(h:p:=by repeat' (first|exact trivial|constructor)):p:=h
theorem hsT{p q:Prop}(h:p→q:=by intro h;first|(simp_all;done)|exact (Bool.and_eq_true_iff.1 h).1|exact Bool.and_eq_true_iff.2 ⟨h,h⟩):p→q:=h
theorem slT{p:Prop}(h:p:=by refine⟨?_,?_,?_⟩;all_goals (first|exact aG _|decide|(apply EJ.2;exact omT)|(show ((_:Nat):Int)=((_:Nat):Int);congr 1;omega)|rfl)):p:=h
theorem wT{p:Prop}(h:p:=by repeat (first|exact trivial|refine⟨⟨rfl,rfl⟩,?_⟩)):p:=h
theorem wH{p:Prop}(h:p:=by repeat (first|exact trivial|refine⟨⟨rfl,rfl,rfl⟩,?_⟩)):p:=h
section
variable {C:Ctx}{R:FuncId→List AV→AV→Prop}{all rest ops:List Oper}{o:Oper}{j n:Nat}{t t':Nat→AV}{h h':AH}{K:ASt→Prop}{Q:AEx→ASt→Prop}{fn:Func}{st:ASt}{x:AV}{d:Nat}
theorem oR(m:Nat)(hx:YV C h m ops t=some (rest,t'))(k:kX C R all rest (j+m) ⟨t',h,n⟩ K):kX C R all ops j ⟨t,h,n⟩ K:=by
 induction m generalizing ops t j with
 |zero=>cases hx;exact k
 | succ m ih=>
  cases ops with
  |nil=>cases hx
  | cons o ops=>
   simp only[YV]at hx;split at hx
   ·rename_i d x e;obtain⟨h1,h2,h3⟩:=YU e;exact rOk h1 h2 (Va h3) (ih hx (by rw[dT,iE 1];exact k))
   ·cases hx
theorem gN{g:Bool}(hx:sG C t h all o=some (d,g,none,x))(k:kX C R all rest (j+1) ⟨upd t d (.opt g x),h,n⟩ K):kX C R all (o::rest) j ⟨t,h,n⟩ K:=by
 unfold sG at hx;split at hx
 ·rename_i i pol d' h1 h2;split at hx
  ·rename_i e h3;split at hx
   ·rename_i g' h4 h5;split at hx
    ·rename_i x' h6;cases hx;exact gOk h1 h3 (Bq h4) h5 h2 (Va h6) k
    ·cases hx
   ·split at hx<;>cases hx
   ·cases hx
  ·cases hx
 ·cases hx
theorem gS{g c:Bool}(hx:sG C t h all o=some (d,g,some c,x))(hs:g=true→c=true)(k:kX C R all rest (j+1) ⟨upd t d (.opt g x),h,n⟩ K):kX C R all (o::rest) j ⟨t,h,n⟩ K:=by
 unfold sG at hx;split at hx
 ·rename_i i pol d' h1 h2;split at hx
  ·rename_i e h3;split at hx
   ·split at hx<;>cases hx
   ·rename_i g' c' h4 h5;split at hx
    ·rename_i x' h6;cases hx;exact WS h1 h3 (Bq h4) h5 hs h2 (Va h6) k
    ·cases hx
   ·cases hx
  ·cases hx
 ·cases hx
theorem TY{g:Bool}{c:Option Bool}(hx:sGd t all o=some (d,g,c)):∃ i pol e,o.guard=some (i,pol)∧(all[i]?).bind (·.dst)=some e∧yX (t e) pol=some g∧condsO t o.op=c∧o.dst=some d:=by
 unfold sGd at hx;split at hx
 ·rename_i i pol d' h1 h2;split at hx
  ·rename_i e h3;split at hx
   ·rename_i g' h4 h5;cases hx;exact⟨i,pol,e,h1,h3,Bq h4,h5,h2⟩
   ·rename_i g' c' h4 h5;cases hx;exact⟨i,pol,e,h1,h3,Bq h4,h5,h2⟩
   ·cases hx
  ·cases hx
 ·cases hx
theorem gB{g:Bool}(hg:sGd t all o=some (d,g,none))(hx:opA C (evA C t) h (n+j) o.op=.ok x)(k:kX C R all rest (j+1) ⟨upd t d (.opt g x),h,n⟩ K):kX C R all (o::rest) j ⟨t,h,n⟩ K:=by
 obtain⟨i,pol,e,h1,h2,h3,h4,h5⟩:=TY hg;exact gOk h1 h2 h3 h4 h5 hx k
theorem gBS{g c:Bool}(hg:sGd t all o=some (d,g,some c))(hs:g=true→c=true)(hx:opA C (evS C t o.op) h (n+j) o.op=.ok x)(k:kX C R all rest (j+1) ⟨upd t d (.opt g x),h,n⟩ K):kX C R all (o::rest) j ⟨t,h,n⟩ K:=by
 obtain⟨i,pol,e,h1,h2,h3,h4,h5⟩:=TY hg;exact WS h1 h2 h3 h4 hs h5 hx k
theorem rAl(s:Nat){cs:List AV}(hs:n+j=s)(hx:sAl C t o=some (d,cs))(k:kX C R all rest (j+1) ⟨upd t d (.ptr s 0),upd h s (some (.box cs)),n⟩ K):kX C R all (o::rest) j ⟨t,h,n⟩ K:=by
 subst hs;unfold sAl at hx;split at hx
 ·rename_i d' ty h1 h2 h3;split at hx
  ·rename_i cs' h4;cases hx;exact rFx (p:=True) h1 h2 (by rw[h3];simp only[opA,h4]) trivial k
  ·cases hx
 ·rename_i d' ty y h1 h2 h3;split at hx
  ·rename_i cs' h4;cases hx;exact rFx (p:=True) h1 h2 (by rw[h3];simp only[opA,h4]) trivial k
  ·cases hx
 ·cases hx
theorem Vb{ty:TypeId}{a y:AV}{h':AH}(e:YW C h ty a y=some h'):(match C.ty ty,kL y with
  | some ti,some cs=>(match Nat.beq cs.length ti.sz with
   |true=>(match a with
    | .ptr b c=>(match h b with|some (.box cells)=>(match Nat.ble (c+cs.length) cells.length with|true=>Res.fx True .any (upd h b (some (.box (yV c cs cells))))|false=>.bad)|_=>.bad)
    |_=>.bad)
   |false=>.bad)
  |_,_=>.bad)=.fx True .any h':=by
 unfold YW at e;split at e
 ·rename_i ti cs b c h1 h2;split at e
  ·rename_i cells h3 h4;split at e
   ·rename_i h5;simp only[h1,h2,h3,h4,h5];split at e
    ·rename_i h6;cases e;rw[LC _ _ h6]
    ·rw[Kv]at e;cases e;rfl
   ·cases e
  ·cases e
 ·cases e
theorem rSt(hx:sSt C t h o=some h')(k:kX C R all rest (j+1) ⟨t,h',n⟩ K):kX C R all (o::rest) j ⟨t,h,n⟩ K:=by
 unfold sSt at hx;split at hx
 ·rename_i ty a y h1 h2 h3;have e:=Vb hx;refine Xj (p:=True) (x:=.any) h1 h2 ?_ trivial k;rw[h3];simp only[opA];split at e
  ·rename_i ti cs q1 q2;simp only[q1,q2];split at e
   ·rename_i q3;simp only[q3];split at e
    ·rename_i b c q4;simp only[q4];exact e
    ·cases e
   ·cases e
  ·cases e
 ·cases hx
theorem rSx(s:Nat)(cs:List AV)(hg:o.guard=none)(hd:o.dst=none)(hx:opA C (evA C t) h (n+j) o.op=.fx True .any (upd h s (some (.box cs))))(k:kX C R all rest (j+1) ⟨t,upd h s (some (.box cs)),n⟩ K):kX C R all (o::rest) j ⟨t,h,n⟩ K:=Xj hg hd hx trivial k
theorem rCl{f:FuncId}{args:List AV}(hx:sC C t o=some (d,f,args))(hf:oP args=true∨(BZ x=true∧jX h args))(hc:R f (rA h args) x)(k:kX C R all rest (j+1) ⟨upd t d x,h,n⟩ K)(hcl:eV (rA h args)=true:=by exact rfl)(hr:eL x=true:=by exact rfl):kX C R all (o::rest) j ⟨t,h,n⟩ K:=by
 obtain⟨h1,h2,h3⟩:=YX (h:=h) (s:=n+j) hx;exact YQ h1 h2 h3 hcl hf hr hc k
theorem rV(x:AV)(hx:sV C t h (n+j) o=some (d,x))(k:kX C R all rest (j+1) ⟨upd t d x,h,n⟩ K):kX C R all (o::rest) j ⟨t,h,n⟩ K:=by
 unfold sV at hx;split at hx
 ·rename_i h1 h2 h3;cases hx;exact rOk h1 h2 h3 k
 ·cases hx
theorem rW(x:AV)(hd:sD o=some d)(hx:opA C (evA C t) h (n+j) o.op=.ok x)(k:kX C R all rest (j+1) ⟨upd t d x,h,n⟩ K):kX C R all (o::rest) j ⟨t,h,n⟩ K:=rOk (MU hd).1 (MU hd).2 hx k
theorem nW{p:Prop}(x:AV)(hd:sD o=some d)(hx:opA C (evA C t) h (n+j) o.op=.need p x)(hp:p)(k:kX C R all rest (j+1) ⟨upd t d x,h,n⟩ K):kX C R all (o::rest) j ⟨t,h,n⟩ K:=cV (MU hd).1 (MU hd).2 hx hp k
theorem rCi{f:FuncId}{args:List AV}(hx:sC C t o=some (d,f,args))(hc:R f (rA h args) x)(k:kX C R all rest (j+1) ⟨upd t d x,h,n⟩ K)(hcl:eV (rA h args)=true:=by exact rfl)(hr:eL x=true:=by exact rfl)(hf:oP args=true:=by exact rfl):kX C R all (o::rest) j ⟨t,h,n⟩ K:=rCl hx (.inl hf) hc k hcl hr
theorem rIx{rows:List (List AV)}{i:Int}{f:List AV→Option AV}(row:List AV)(x:AV)(hd:sD o=some d)(hx:opA C (evA C t) h (n+j) o.op=.idx rows i f)(hi:rows[i.toNat]?=some row)(hf:f row=some x)(k:kX C R all rest (j+1) ⟨upd t d x,h,n⟩ K)(h0:0≤i:=by exact aG _):kX C R all (o::rest) j ⟨t,h,n⟩ K:=Ih row (MU hd).1 (MU hd).2 hx ⟨h0,hi⟩ hf k
end
theorem cSR{C:Ctx}{R:FuncId→List AV→AV→Prop}{Q:AEx→ASt→Prop}{st:ASt}{id:Nat}{ops:Array Oper}{dr:Bool}{b:Code}(k:kX (C.noHif dr) R ops.toList ops.toList 0 st (λ st'=>fY C R b st' Q))(hd:(dr&&EQ ops.toList)=false:=by kernel_rfl):fY C R (.seq (.region id ops dr) b) st Q:=bW (JU rfl k hd)
theorem cRg{C:Ctx}{R:FuncId→List AV→AV→Prop}{Q:AEx→ASt→Prop}{st:ASt}{id:Nat}{ops:Array Oper}{dr:Bool}(k:kX (C.noHif dr) R ops.toList ops.toList 0 st (Q .normal))(hd:(dr&&EQ ops.toList)=false:=by kernel_rfl):fY C R (.region id ops dr) st Q:=JU rfl k hd
set_option maxRecDepth 100000
theorem eC(inf:TypeInfo){t:TypeId}{i:TI}{d:TypeDesc}(hd:Tryz.prog.underlying t=some d)
  (hk:match i.kd with
  | .bool=>d=.bool
  | .int k=>d=.int k
  | .string=>d=.string
  | .slice e=>d=.slice e
  | .array n e=>d=.array n e
  | .struct fs=>∃ fields,d=.struct fields∧fields.toList.map (λ f=>(f.offset,f.type))=fs∧(fields.toList.all λ f=>match Tryz.prog.info? f.type with|some i=> !(i.size==0)|none=>false)=true
  |_=>True) (he:i.eq≠[]→Xa Tryz.prog t i.eq:=by exact λ h=>absurd rfl h) (h1:Tryz.prog.info? t=some inf:=by kernel_rfl) (h2:inf.zero=some (inf.zero.getD .nilFunc):=by rfl) (h3:i.zero=NM (inf.zero.getD .nilFunc):=by rfl) (hc:UE Tryz.prog inf (inf.zero.getD .nilFunc) i=true:=by kernel_rfl) (hrow:d.isRow=i.ag:=by rfl):TyOk Tryz.prog t i:=
 Ro h1 h2 h3 hc hd hrow hk he
abbrev aaB:TI:=⟨.int .u32,1,false,.v (.int .u32 0),4,[]⟩
set_option maxRecDepth 100000
abbrev gO:TI:=⟨.func,1,false,.v .nilFunc,8,[]⟩
def tys:TT:=.node 130 (.node 68 (.node 38 (.node 25 (.node 12 (.node 4 (.node 2 (.leaf 1 gO) (.node 3 (.leaf 2 ⟨.int .i64,1,false,.v (.int .i64 0),8,[]⟩) (.leaf 3 ⟨.int .i64,1,false,.v (.int .i64 0),8,[]⟩))) (.node 5 (.leaf 4 ⟨.bool,1,false,.v (.bool false),1,[]⟩) (.node 9 (.leaf 5 ⟨.int .u8,1,false,.v (.int .u8 0),1,[]⟩) (.leaf 9 ⟨.string,1,false,.v (.string ⟨#[]⟩),16,[]⟩)))) (.node 22 (.node 13 (.leaf 12 ⟨.int .u64,1,false,.v (.int .u64 0),8,[]⟩) (.node 21 (.leaf 13 ⟨.struct [(0,9),(1,12)],2,true,.agg [.v (.string ⟨#[]⟩),.v (.int .u64 0)],24,[]⟩) (.leaf 21 ⟨.int .i32,1,false,.v (.int .i32 0),4,[]⟩))) (.node 23 (.leaf 22 ⟨.slice 3,1,false,.sl 0 [] true,24,[]⟩) (.node 24 (.leaf 23 ⟨.slice 26,1,false,.sl 0 [] true,24,[]⟩) (.leaf 24 ⟨.struct [(0,3),(1,3),(2,3),(3,3),(4,3),(5,3),(6,3),(7,3),(8,22),(9,4),(10,23)],11,true,.agg [.v (.int .i64 0),.v (.int .i64 0),.v (.int .i64 0),.v (.int .i64 0),.v (.int .i64 0),.v (.int .i64 0),.v (.int .i64 0),.v (.int .i64 0),.sl 0 [] true,.v (.bool false),.sl 0 [] true],120,[]⟩))))) (.node 31 (.node 28 (.node 26 (.leaf 25 ⟨.struct [(0,3),(1,3),(2,3),(3,3),(4,3),(5,3),(6,3),(7,3),(8,22),(9,4),(10,23)],11,true,.agg [.v (.int .i64 0),.v (.int .i64 0),.v (.int .i64 0),.v (.int .i64 0),.v (.int .i64 0),.v (.int .i64 0),.v (.int .i64 0),.v (.int .i64 0),.sl 0 [] true,.v (.bool false),.sl 0 [] true],120,[]⟩) (.node 27 (.leaf 26 aaB) (.leaf 27 ⟨.array 32 26,32,true,.agg [zU,zU,zU,zU,zU,zU,zU,zU,zU,zU,zU,zU,zU,zU,zU,zU,zU,zU,zU,zU,zU,zU,zU,zU,zU,zU,zU,zU,zU,zU,zU,zU],128,[.i,.i,.i,.i,.i,.i,.i,.i,.i,.i,.i,.i,.i,.i,.i,.i,.i,.i,.i,.i,.i,.i,.i,.i,.i,.i,.i,.i,.i,.i,.i,.i]⟩))) (.node 29 (.leaf 28 ⟨.slice 127,1,false,.sl 0 [] true,24,[]⟩) (.node 30 (.leaf 29 ⟨.slice 95,1,false,.sl 0 [] true,24,[]⟩) (.leaf 30 ⟨.slice 99,1,false,.sl 0 [] true,24,[]⟩)))) (.node 34 (.node 32 (.leaf 31 ⟨.slice 78,1,false,.sl 0 [] true,24,[]⟩) (.node 33 (.leaf 32 ⟨.struct [(0,3),(1,31)],2,true,.agg [.v (.int .i64 0),.sl 0 [] true],32,[]⟩) (.leaf 33 ⟨.struct [(0,3),(1,31)],2,true,.agg [.v (.int .i64 0),.sl 0 [] true],32,[]⟩))) (.node 36 (.node 35 (.leaf 34 ⟨.slice 69,1,false,.sl 0 [] true,24,[]⟩) (.leaf 35 ⟨.slice 88,1,false,.sl 0 [] true,24,[]⟩)) (.node 37 (.leaf 36 ⟨.struct [(0,35),(1,26),(2,23)],3,true,.agg [.sl 0 [] true,zU,.sl 0 [] true],56,[]⟩) (.leaf 37 ⟨.struct [(0,35),(1,26),(2,23)],3,true,.agg [.sl 0 [] true,zU,.sl 0 [] true],56,[]⟩)))))) (.node 52 (.node 44 (.node 41 (.node 39 (.leaf 38 ⟨.slice 57,1,false,.sl 0 [] true,24,[]⟩) (.node 40 (.leaf 39 ⟨.struct [(0,25),(11,23),(12,3),(13,27),(45,26),(46,4),(47,28),(48,29),(49,3),(50,30),(51,33),(53,33),(55,34),(56,3),(57,3),(58,9),(59,37),(62,3),(63,38)],64,true,.agg [.v (.int .i64 0),.v (.int .i64 0),.v (.int .i64 0),.v (.int .i64 0),.v (.int .i64 0),.v (.int .i64 0),.v (.int .i64 0),.v (.int .i64 0),.sl 0 [] true,.v (.bool false),.sl 0 [] true,.sl 0 [] true,.v (.int .i64 0),zU,zU,zU,zU,zU,zU,zU,zU,zU,zU,zU,zU,zU,zU,zU,zU,zU,zU,zU,zU,zU,zU,zU,zU,zU,zU,zU,zU,zU,zU,zU,zU,zU,.v (.bool false),.sl 0 [] true,.sl 0 [] true,.v (.int .i64 0),.sl 0 [] true,.v (.int .i64 0),.sl 0 [] true,.v (.int .i64 0),.sl 0 [] true,.sl 0 [] true,.v (.int .i64 0),.v (.int .i64 0),.v (.string ⟨#[]⟩),.sl 0 [] true,zU,.sl 0 [] true,.v (.int .i64 0),.sl 0 [] true],576,[]⟩) (.leaf 40 ⟨.struct [(0,25),(11,23),(12,3),(13,27),(45,26),(46,4),(47,28),(48,29),(49,3),(50,30),(51,33),(53,33),(55,34),(56,3),(57,3),(58,9),(59,37),(62,3),(63,38)],64,true,.agg [.v (.int .i64 0),.v (.int .i64 0),.v (.int .i64 0),.v (.int .i64 0),.v (.int .i64 0),.v (.int .i64 0),.v (.int .i64 0),.v (.int .i64 0),.sl 0 [] true,.v (.bool false),.sl 0 [] true,.sl 0 [] true,.v (.int .i64 0),zU,zU,zU,zU,zU,zU,zU,zU,zU,zU,zU,zU,zU,zU,zU,zU,zU,zU,zU,zU,zU,zU,zU,zU,zU,zU,zU,zU,zU,zU,zU,zU,zU,.v (.bool false),.sl 0 [] true,.sl 0 [] true,.v (.int .i64 0),.sl 0 [] true,.v (.int .i64 0),.sl 0 [] true,.v (.int .i64 0),.sl 0 [] true,.sl 0 [] true,.v (.int .i64 0),.v (.int .i64 0),.v (.string ⟨#[]⟩),.sl 0 [] true,zU,.sl 0 [] true,.v (.int .i64 0),.sl 0 [] true],576,[]⟩))) (.node 42 (.leaf 41 gO) (.node 43 (.leaf 42 gO) (.leaf 43 gO)))) (.node 47 (.node 45 (.leaf 44 gO) (.node 46 (.leaf 45 gO) (.leaf 46 gO))) (.node 49 (.node 48 (.leaf 47 gO) (.leaf 48 gO)) (.node 50 (.leaf 49 gO) (.leaf 50 gO))))) (.node 59 (.node 55 (.node 53 (.leaf 52 gO) (.node 54 (.leaf 53 ⟨.struct [(0,26),(1,27),(33,9),(34,3)],35,true,.agg [zU,zU,zU,zU,zU,zU,zU,zU,zU,zU,zU,zU,zU,zU,zU,zU,zU,zU,zU,zU,zU,zU,zU,zU,zU,zU,zU,zU,zU,zU,zU,zU,zU,.v (.string ⟨#[]⟩),.v (.int .i64 0)],160,[]⟩) (.leaf 54 ⟨.struct [(0,26),(1,27),(33,9),(34,3)],35,true,.agg [zU,zU,zU,zU,zU,zU,zU,zU,zU,zU,zU,zU,zU,zU,zU,zU,zU,zU,zU,zU,zU,zU,zU,zU,zU,zU,zU,zU,zU,zU,zU,zU,zU,.v (.string ⟨#[]⟩),.v (.int .i64 0)],160,[.i,.i,.i,.i,.i,.i,.i,.i,.i,.i,.i,.i,.i,.i,.i,.i,.i,.i,.i,.i,.i,.i,.i,.i,.i,.i,.i,.i,.i,.i,.i,.i,.i,.s,.i]⟩))) (.node 56 (.leaf 55 gO) (.node 57 (.leaf 56 ⟨.struct [(0,26),(1,26),(2,3),(3,26),(4,26),(5,3),(6,4),(7,3),(8,3)],9,true,.agg [zU,zU,.v (.int .i64 0),zU,zU,.v (.int .i64 0),.v (.bool false),.v (.int .i64 0),.v (.int .i64 0)],56,[]⟩) (.leaf 57 ⟨.struct [(0,26),(1,26),(2,3),(3,26),(4,26),(5,3),(6,4),(7,3),(8,3)],9,true,.agg [zU,zU,.v (.int .i64 0),zU,zU,.v (.int .i64 0),.v (.bool false),.v (.int .i64 0),.v (.int .i64 0)],56,[.i,.i,.i,.i,.i,.i,.b,.i,.i]⟩)))) (.node 63 (.node 60 (.leaf 59 gO) (.node 61 (.leaf 60 gO) (.leaf 61 gO))) (.node 66 (.node 65 (.leaf 63 gO) (.leaf 65 gO)) (.node 67 (.leaf 66 gO) (.leaf 67 gO))))))) (.node 96 (.node 83 (.node 76 (.node 71 (.node 69 (.leaf 68 ⟨.struct [(0,3),(1,26),(2,3),(3,9)],4,true,.agg [.v (.int .i64 0),zU,.v (.int .i64 0),.v (.string ⟨#[]⟩)],40,[]⟩) (.node 70 (.leaf 69 ⟨.struct [(0,3),(1,26),(2,3),(3,9)],4,true,.agg [.v (.int .i64 0),zU,.v (.int .i64 0),.v (.string ⟨#[]⟩)],40,[.i,.i,.i,.s]⟩) (.leaf 70 gO))) (.node 74 (.leaf 71 ⟨.slice 76,1,false,.sl 0 [] true,24,[]⟩) (.node 75 (.leaf 74 gO) (.leaf 75 ⟨.struct [(0,31),(1,31),(2,34),(3,23)],4,true,.agg [.sl 0 [] true,.sl 0 [] true,.sl 0 [] true,.sl 0 [] true],96,[]⟩)))) (.node 80 (.node 78 (.leaf 76 ⟨.struct [(0,31),(1,31),(2,34),(3,23)],4,true,.agg [.sl 0 [] true,.sl 0 [] true,.sl 0 [] true,.sl 0 [] true],96,[]⟩) (.node 79 (.leaf 78 ⟨.slice 80,1,false,.sl 0 [] true,24,[]⟩) (.leaf 79 ⟨.struct [(0,26),(1,4),(2,9)],3,true,.agg [zU,.v (.bool false),.v (.string ⟨#[]⟩)],24,[]⟩))) (.node 81 (.leaf 80 ⟨.struct [(0,26),(1,4),(2,9)],3,true,.agg [zU,.v (.bool false),.v (.string ⟨#[]⟩)],24,[.i,.b,.s]⟩) (.node 82 (.leaf 81 gO) (.leaf 82 gO))))) (.node 89 (.node 86 (.node 84 (.leaf 83 gO) (.node 85 (.leaf 84 gO) (.leaf 85 gO))) (.node 87 (.leaf 86 gO) (.node 88 (.leaf 87 ⟨.struct [(0,26),(1,26)],2,true,.agg [zU,zU],8,[]⟩) (.leaf 88 ⟨.struct [(0,26),(1,26)],2,true,.agg [zU,zU],8,[.i,.i]⟩)))) (.node 92 (.node 90 (.leaf 89 ⟨.slice 5,1,false,.sl 0 [] true,24,[]⟩) (.node 91 (.leaf 90 gO) (.leaf 91 gO))) (.node 94 (.node 93 (.leaf 92 ⟨.struct [(0,3),(1,3),(2,3),(3,3),(4,26)],5,true,.agg [.v (.int .i64 0),.v (.int .i64 0),.v (.int .i64 0),.v (.int .i64 0),zU],40,[]⟩) (.leaf 93 ⟨.struct [(0,3),(1,3),(2,3),(3,3),(4,26)],5,true,.agg [.v (.int .i64 0),.v (.int .i64 0),.v (.int .i64 0),.v (.int .i64 0),zU],40,[.i,.i,.i,.i,.i]⟩)) (.node 95 (.leaf 94 ⟨.struct [(0,3),(1,26),(2,93),(7,26),(8,3),(9,3),(10,26),(11,26),(12,26),(13,3),(14,3),(15,4),(16,4)],17,true,.agg [.v (.int .i64 0),zU,.v (.int .i64 0),.v (.int .i64 0),.v (.int .i64 0),.v (.int .i64 0),zU,zU,.v (.int .i64 0),.v (.int .i64 0),zU,zU,zU,.v (.int .i64 0),.v (.int .i64 0),.v (.bool false),.v (.bool false)],120,[]⟩) (.leaf 95 ⟨.struct [(0,3),(1,26),(2,93),(7,26),(8,3),(9,3),(10,26),(11,26),(12,26),(13,3),(14,3),(15,4),(16,4)],17,true,.agg [.v (.int .i64 0),zU,.v (.int .i64 0),.v (.int .i64 0),.v (.int .i64 0),.v (.int .i64 0),zU,zU,.v (.int .i64 0),.v (.int .i64 0),zU,zU,zU,.v (.int .i64 0),.v (.int .i64 0),.v (.bool false),.v (.bool false)],120,[.i,.i,.i,.i,.i,.i,.i,.i,.i,.i,.i,.i,.i,.i,.i,.b,.b]⟩)))))) (.node 111 (.node 102 (.node 99 (.node 97 (.leaf 96 gO) (.node 98 (.leaf 97 gO) (.leaf 98 ⟨.struct [(0,26),(1,9)],2,true,.agg [zU,.v (.string ⟨#[]⟩)],24,[]⟩))) (.node 100 (.leaf 99 ⟨.struct [(0,26),(1,9)],2,true,.agg [zU,.v (.string ⟨#[]⟩)],24,[.i,.s]⟩) (.node 101 (.leaf 100 gO) (.leaf 101 ⟨.struct [(0,40)],64,true,.agg [.v (.int .i64 0),.v (.int .i64 0),.v (.int .i64 0),.v (.int .i64 0),.v (.int .i64 0),.v (.int .i64 0),.v (.int .i64 0),.v (.int .i64 0),.sl 0 [] true,.v (.bool false),.sl 0 [] true,.sl 0 [] true,.v (.int .i64 0),zU,zU,zU,zU,zU,zU,zU,zU,zU,zU,zU,zU,zU,zU,zU,zU,zU,zU,zU,zU,zU,zU,zU,zU,zU,zU,zU,zU,zU,zU,zU,zU,zU,.v (.bool false),.sl 0 [] true,.sl 0 [] true,.v (.int .i64 0),.sl 0 [] true,.v (.int .i64 0),.sl 0 [] true,.v (.int .i64 0),.sl 0 [] true,.sl 0 [] true,.v (.int .i64 0),.v (.int .i64 0),.v (.string ⟨#[]⟩),.sl 0 [] true,zU,.sl 0 [] true,.v (.int .i64 0),.sl 0 [] true],576,[]⟩)))) (.node 105 (.node 103 (.leaf 102 ⟨.struct [(0,40)],64,true,.agg [.v (.int .i64 0),.v (.int .i64 0),.v (.int .i64 0),.v (.int .i64 0),.v (.int .i64 0),.v (.int .i64 0),.v (.int .i64 0),.v (.int .i64 0),.sl 0 [] true,.v (.bool false),.sl 0 [] true,.sl 0 [] true,.v (.int .i64 0),zU,zU,zU,zU,zU,zU,zU,zU,zU,zU,zU,zU,zU,zU,zU,zU,zU,zU,zU,zU,zU,zU,zU,zU,zU,zU,zU,zU,zU,zU,zU,zU,zU,.v (.bool false),.sl 0 [] true,.sl 0 [] true,.v (.int .i64 0),.sl 0 [] true,.v (.int .i64 0),.sl 0 [] true,.v (.int .i64 0),.sl 0 [] true,.sl 0 [] true,.v (.int .i64 0),.v (.int .i64 0),.v (.string ⟨#[]⟩),.sl 0 [] true,zU,.sl 0 [] true,.v (.int .i64 0),.sl 0 [] true],576,[]⟩) (.node 104 (.leaf 103 gO) (.leaf 104 ⟨.pointer,1,false,.v (.pointer none),8,[]⟩))) (.node 108 (.node 107 (.leaf 105 ⟨.array 7 103,7,true,.agg [.v .nilFunc,.v .nilFunc,.v .nilFunc,.v .nilFunc,.v .nilFunc,.v .nilFunc,.v .nilFunc],56,[]⟩) (.leaf 107 gO)) (.node 109 (.leaf 108 gO) (.leaf 109 ⟨.int .i64,1,false,.v (.int .i64 0),8,[]⟩))))) (.node 119 (.node 114 (.node 112 (.leaf 111 gO) (.node 113 (.leaf 112 gO) (.leaf 113 gO))) (.node 116 (.leaf 114 gO) (.node 117 (.leaf 116 gO) (.leaf 117 gO)))) (.node 122 (.node 120 (.leaf 119 gO) (.node 121 (.leaf 120 gO) (.leaf 121 gO))) (.node 126 (.node 125 (.leaf 122 gO) (.leaf 125 gO)) (.node 127 (.leaf 126 ⟨.struct [(0,26),(1,26)],2,true,.agg [zU,zU],8,[]⟩) (.leaf 127 ⟨.struct [(0,26),(1,26)],2,true,.agg [zU,zU],8,[.i,.i]⟩)))))))) (.node 198 (.node 160 (.node 144 (.node 137 (.node 133 (.node 131 (.leaf 130 ⟨.pointer,1,false,.v (.pointer none),8,[]⟩) (.node 132 (.leaf 131 gO) (.leaf 132 gO))) (.node 134 (.leaf 133 gO) (.node 135 (.leaf 134 gO) (.leaf 135 ⟨.int .u64,1,false,.v (.int .u64 0),8,[]⟩)))) (.node 140 (.node 138 (.leaf 137 gO) (.node 139 (.leaf 138 gO) (.leaf 139 gO))) (.node 142 (.leaf 140 gO) (.node 143 (.leaf 142 gO) (.leaf 143 gO))))) (.node 152 (.node 148 (.node 145 (.leaf 144 gO) (.node 147 (.leaf 145 gO) (.leaf 147 gO))) (.node 149 (.leaf 148 gO) (.node 150 (.leaf 149 gO) (.leaf 150 gO)))) (.node 155 (.node 153 (.leaf 152 gO) (.node 154 (.leaf 153 gO) (.leaf 154 gO))) (.node 157 (.node 156 (.leaf 155 gO) (.leaf 156 gO)) (.node 159 (.leaf 157 gO) (.leaf 159 gO)))))) (.node 178 (.node 166 (.node 163 (.node 161 (.leaf 160 gO) (.node 162 (.leaf 161 gO) (.leaf 162 ⟨.slice 4,1,false,.sl 0 [] true,24,[]⟩))) (.node 164 (.leaf 163 gO) (.node 165 (.leaf 164 gO) (.leaf 165 gO)))) (.node 170 (.node 168 (.leaf 166 gO) (.node 169 (.leaf 168 gO) (.leaf 169 gO))) (.node 172 (.node 171 (.leaf 170 gO) (.leaf 171 gO)) (.node 174 (.leaf 172 gO) (.leaf 174 gO))))) (.node 190 (.node 187 (.node 180 (.leaf 178 gO) (.node 185 (.leaf 180 gO) (.leaf 185 gO))) (.node 188 (.leaf 187 gO) (.node 189 (.leaf 188 gO) (.leaf 189 gO)))) (.node 193 (.node 191 (.leaf 190 gO) (.node 192 (.leaf 191 gO) (.leaf 192 gO))) (.node 195 (.node 194 (.leaf 193 gO) (.leaf 194 gO)) (.node 197 (.leaf 195 gO) (.leaf 197 gO))))))) (.node 227 (.node 213 (.node 205 (.node 202 (.node 199 (.leaf 198 gO) (.node 200 (.leaf 199 gO) (.leaf 200 gO))) (.node 203 (.leaf 202 gO) (.node 204 (.leaf 203 gO) (.leaf 204 gO)))) (.node 209 (.node 206 (.leaf 205 gO) (.node 207 (.leaf 206 gO) (.leaf 207 gO))) (.node 211 (.leaf 209 gO) (.node 212 (.leaf 211 gO) (.leaf 212 gO))))) (.node 220 (.node 216 (.node 214 (.leaf 213 gO) (.node 215 (.leaf 214 gO) (.leaf 215 gO))) (.node 218 (.leaf 216 gO) (.node 219 (.leaf 218 gO) (.leaf 219 gO)))) (.node 223 (.node 221 (.leaf 220 gO) (.node 222 (.leaf 221 gO) (.leaf 222 gO))) (.node 225 (.node 224 (.leaf 223 gO) (.leaf 224 gO)) (.node 226 (.leaf 225 gO) (.leaf 226 gO)))))) (.node 252 (.node 234 (.node 230 (.node 228 (.leaf 227 gO) (.node 229 (.leaf 228 gO) (.leaf 229 gO))) (.node 232 (.leaf 230 ⟨.slice 255,1,false,.sl 0 [] true,24,[]⟩) (.node 233 (.leaf 232 gO) (.leaf 233 ⟨.array 49 26,49,true,.agg [zU,zU,zU,zU,zU,zU,zU,zU,zU,zU,zU,zU,zU,zU,zU,zU,zU,zU,zU,zU,zU,zU,zU,zU,zU,zU,zU,zU,zU,zU,zU,zU,zU,zU,zU,zU,zU,zU,zU,zU,zU,zU,zU,zU,zU,zU,zU,zU,zU],196,[]⟩)))) (.node 239 (.node 236 (.leaf 234 gO) (.node 237 (.leaf 236 gO) (.leaf 237 gO))) (.node 243 (.node 242 (.leaf 239 gO) (.leaf 242 gO)) (.node 247 (.leaf 243 gO) (.leaf 247 gO))))) (.node 261 (.node 255 (.node 253 (.leaf 252 gO) (.node 254 (.leaf 253 ⟨.int .u64,1,false,.v (.int .u64 0),8,[]⟩) (.leaf 254 ⟨.struct [(0,3),(1,3)],2,true,.agg [.v (.int .i64 0),.v (.int .i64 0)],16,[]⟩))) (.node 258 (.leaf 255 ⟨.struct [(0,3),(1,3)],2,true,.agg [.v (.int .i64 0),.v (.int .i64 0)],16,[]⟩) (.node 260 (.leaf 258 gO) (.leaf 260 gO)))) (.node 267 (.node 263 (.leaf 261 gO) (.node 264 (.leaf 263 ⟨.struct [(0,26),(1,3),(2,9),(3,4)],4,true,.agg [zU,.v (.int .i64 0),.v (.string ⟨#[]⟩),.v (.bool false)],40,[]⟩) (.leaf 264 ⟨.struct [(0,26),(1,3),(2,9),(3,4)],4,true,.agg [zU,.v (.int .i64 0),.v (.string ⟨#[]⟩),.v (.bool false)],40,[]⟩))) (.node 279 (.node 268 (.leaf 267 gO) (.leaf 268 gO)) (.node 280 (.leaf 279 gO) (.leaf 280 ⟨.pointer,1,false,.v (.pointer none),8,[]⟩))))))))
theorem Yb:Rn Tryz.prog tys:=⟨⟨⟨⟨⟨⟨⟨eC Tryz.t1 Tryz.underlying1 trivial,⟨eC Tryz.t2 Tryz.underlying2 rfl,eC Tryz.t3 Tryz.underlying3 rfl⟩⟩,⟨eC Tryz.t4 Tryz.underlying4 rfl,⟨eC Tryz.t5 Tryz.underlying5 rfl,eC Tryz.t9 Tryz.underlying9 rfl⟩⟩⟩,⟨⟨eC Tryz.t12 Tryz.underlying12 rfl,⟨eC Tryz.t13 Tryz.underlying13 ⟨_,rfl,by kernel_rfl,by kernel_rfl⟩,eC Tryz.t21 Tryz.underlying21 rfl⟩⟩,⟨eC Tryz.t22 Tryz.underlying22 rfl,⟨eC Tryz.t23 Tryz.underlying23 rfl,eC Tryz.t24 Tryz.underlying24 ⟨_,rfl,by kernel_rfl,by kernel_rfl⟩⟩⟩⟩⟩,⟨⟨⟨eC Tryz.t25 Tryz.underlying25 ⟨_,rfl,by kernel_rfl,by kernel_rfl⟩,⟨eC Tryz.t26 Tryz.underlying26 rfl,eC Tryz.t27 Tryz.underlying27 rfl (λ _=>Rm (d:=20) (inf:=Tryz.t26) (ks':=[.i]) Tryz.underlying27 (by kernel_rfl) (by kernel_rfl) (by kernel_rfl) (by kernel_rfl) (by kernel_rfl))⟩⟩,⟨eC Tryz.t28 Tryz.underlying28 rfl,⟨eC Tryz.t29 Tryz.underlying29 rfl,eC Tryz.t30 Tryz.underlying30 rfl⟩⟩⟩,⟨⟨eC Tryz.t31 Tryz.underlying31 rfl,⟨eC Tryz.t32 Tryz.underlying32 ⟨_,rfl,by kernel_rfl,by kernel_rfl⟩,eC Tryz.t33 Tryz.underlying33 ⟨_,rfl,by kernel_rfl,by kernel_rfl⟩⟩⟩,⟨⟨eC Tryz.t34 Tryz.underlying34 rfl,eC Tryz.t35 Tryz.underlying35 rfl⟩,⟨eC Tryz.t36 Tryz.underlying36 ⟨_,rfl,by kernel_rfl,by kernel_rfl⟩,eC Tryz.t37 Tryz.underlying37 ⟨_,rfl,by kernel_rfl,by kernel_rfl⟩⟩⟩⟩⟩⟩,⟨⟨⟨⟨eC Tryz.t38 Tryz.underlying38 rfl,⟨eC Tryz.t39 Tryz.underlying39 ⟨_,rfl,by kernel_rfl,by kernel_rfl⟩,eC Tryz.t40 Tryz.underlying40 ⟨_,rfl,by kernel_rfl,by kernel_rfl⟩⟩⟩,⟨eC Tryz.t41 Tryz.underlying41 trivial,⟨eC Tryz.t42 Tryz.underlying42 trivial,eC Tryz.t43 Tryz.underlying43 trivial⟩⟩⟩,⟨⟨eC Tryz.t44 Tryz.underlying44 trivial,⟨eC Tryz.t45 Tryz.underlying45 trivial,eC Tryz.t46 Tryz.underlying46 trivial⟩⟩,⟨⟨eC Tryz.t47 Tryz.underlying47 trivial,eC Tryz.t48 Tryz.underlying48 trivial⟩,⟨eC Tryz.t49 Tryz.underlying49 trivial,eC Tryz.t50 Tryz.underlying50 trivial⟩⟩⟩⟩,⟨⟨⟨eC Tryz.t52 Tryz.underlying52 trivial,⟨eC Tryz.t53 Tryz.underlying53 ⟨_,rfl,by kernel_rfl,by kernel_rfl⟩,eC Tryz.t54 Tryz.underlying54 ⟨_,rfl,by kernel_rfl,by kernel_rfl⟩ (λ _=>xE (d:=20) (by kernel_rfl))⟩⟩,⟨eC Tryz.t55 Tryz.underlying55 trivial,⟨eC Tryz.t56 Tryz.underlying56 ⟨_,rfl,by kernel_rfl,by kernel_rfl⟩,eC Tryz.t57 Tryz.underlying57 ⟨_,rfl,by kernel_rfl,by kernel_rfl⟩ (λ _=>xE (d:=20) (by kernel_rfl))⟩⟩⟩,⟨⟨eC Tryz.t59 Tryz.underlying59 trivial,⟨eC Tryz.t60 Tryz.underlying60 trivial,eC Tryz.t61 Tryz.underlying61 trivial⟩⟩,⟨⟨eC Tryz.t63 Tryz.underlying63 trivial,eC Tryz.t65 Tryz.underlying65 trivial⟩,⟨eC Tryz.t66 Tryz.underlying66 trivial,eC Tryz.t67 Tryz.underlying67 trivial⟩⟩⟩⟩⟩⟩,⟨⟨⟨⟨⟨eC Tryz.t68 Tryz.underlying68 ⟨_,rfl,by kernel_rfl,by kernel_rfl⟩,⟨eC Tryz.t69 Tryz.underlying69 ⟨_,rfl,by kernel_rfl,by kernel_rfl⟩ (λ _=>xE (d:=20) (by kernel_rfl)),eC Tryz.t70 Tryz.underlying70 trivial⟩⟩,⟨eC Tryz.t71 Tryz.underlying71 rfl,⟨eC Tryz.t74 Tryz.underlying74 trivial,eC Tryz.t75 Tryz.underlying75 ⟨_,rfl,by kernel_rfl,by kernel_rfl⟩⟩⟩⟩,⟨⟨eC Tryz.t76 Tryz.underlying76 ⟨_,rfl,by kernel_rfl,by kernel_rfl⟩,⟨eC Tryz.t78 Tryz.underlying78 rfl,eC Tryz.t79 Tryz.underlying79 ⟨_,rfl,by kernel_rfl,by kernel_rfl⟩⟩⟩,⟨eC Tryz.t80 Tryz.underlying80 ⟨_,rfl,by kernel_rfl,by kernel_rfl⟩ (λ _=>xE (d:=20) (by kernel_rfl)),⟨eC Tryz.t81 Tryz.underlying81 trivial,eC Tryz.t82 Tryz.underlying82 trivial⟩⟩⟩⟩,⟨⟨⟨eC Tryz.t83 Tryz.underlying83 trivial,⟨eC Tryz.t84 Tryz.underlying84 trivial,eC Tryz.t85 Tryz.underlying85 trivial⟩⟩,⟨eC Tryz.t86 Tryz.underlying86 trivial,⟨eC Tryz.t87 Tryz.underlying87 ⟨_,rfl,by kernel_rfl,by kernel_rfl⟩,eC Tryz.t88 Tryz.underlying88 ⟨_,rfl,by kernel_rfl,by kernel_rfl⟩ (λ _=>xE (d:=20) (by kernel_rfl))⟩⟩⟩,⟨⟨eC Tryz.t89 Tryz.underlying89 rfl,⟨eC Tryz.t90 Tryz.underlying90 trivial,eC Tryz.t91 Tryz.underlying91 trivial⟩⟩,⟨⟨eC Tryz.t92 Tryz.underlying92 ⟨_,rfl,by kernel_rfl,by kernel_rfl⟩,eC Tryz.t93 Tryz.underlying93 ⟨_,rfl,by kernel_rfl,by kernel_rfl⟩ (λ _=>xE (d:=20) (by kernel_rfl))⟩,⟨eC Tryz.t94 Tryz.underlying94 ⟨_,rfl,by kernel_rfl,by kernel_rfl⟩,eC Tryz.t95 Tryz.underlying95 ⟨_,rfl,by kernel_rfl,by kernel_rfl⟩ (λ _=>xE (d:=20) (by kernel_rfl))⟩⟩⟩⟩⟩,⟨⟨⟨⟨eC Tryz.t96 Tryz.underlying96 trivial,⟨eC Tryz.t97 Tryz.underlying97 trivial,eC Tryz.t98 Tryz.underlying98 ⟨_,rfl,by kernel_rfl,by kernel_rfl⟩⟩⟩,⟨eC Tryz.t99 Tryz.underlying99 ⟨_,rfl,by kernel_rfl,by kernel_rfl⟩ (λ _=>xE (d:=20) (by kernel_rfl)),⟨eC Tryz.t100 Tryz.underlying100 trivial,eC Tryz.t101 Tryz.underlying101 ⟨_,rfl,by kernel_rfl,by kernel_rfl⟩⟩⟩⟩,⟨⟨eC Tryz.t102 Tryz.underlying102 ⟨_,rfl,by kernel_rfl,by kernel_rfl⟩,⟨eC Tryz.t103 Tryz.underlying103 trivial,eC Tryz.t104 Tryz.underlying104 trivial⟩⟩,⟨⟨eC Tryz.t105 Tryz.underlying105 rfl,eC Tryz.t107 Tryz.underlying107 trivial⟩,⟨eC Tryz.t108 Tryz.underlying108 trivial,eC Tryz.t109 Tryz.underlying109 rfl⟩⟩⟩⟩,⟨⟨⟨eC Tryz.t111 Tryz.underlying111 trivial,⟨eC Tryz.t112 Tryz.underlying112 trivial,eC Tryz.t113 Tryz.underlying113 trivial⟩⟩,⟨eC Tryz.t114 Tryz.underlying114 trivial,⟨eC Tryz.t116 Tryz.underlying116 trivial,eC Tryz.t117 Tryz.underlying117 trivial⟩⟩⟩,⟨⟨eC Tryz.t119 Tryz.underlying119 trivial,⟨eC Tryz.t120 Tryz.underlying120 trivial,eC Tryz.t121 Tryz.underlying121 trivial⟩⟩,⟨⟨eC Tryz.t122 Tryz.underlying122 trivial,eC Tryz.t125 Tryz.underlying125 trivial⟩,⟨eC Tryz.t126 Tryz.underlying126 ⟨_,rfl,by kernel_rfl,by kernel_rfl⟩,eC Tryz.t127 Tryz.underlying127 ⟨_,rfl,by kernel_rfl,by kernel_rfl⟩ (λ _=>xE (d:=20) (by kernel_rfl))⟩⟩⟩⟩⟩⟩⟩,⟨⟨⟨⟨⟨⟨eC Tryz.t130 Tryz.underlying130 trivial,⟨eC Tryz.t131 Tryz.underlying131 trivial,eC Tryz.t132 Tryz.underlying132 trivial⟩⟩,⟨eC Tryz.t133 Tryz.underlying133 trivial,⟨eC Tryz.t134 Tryz.underlying134 trivial,eC Tryz.t135 Tryz.underlying135 rfl⟩⟩⟩,⟨⟨eC Tryz.t137 Tryz.underlying137 trivial,⟨eC Tryz.t138 Tryz.underlying138 trivial,eC Tryz.t139 Tryz.underlying139 trivial⟩⟩,⟨eC Tryz.t140 Tryz.underlying140 trivial,⟨eC Tryz.t142 Tryz.underlying142 trivial,eC Tryz.t143 Tryz.underlying143 trivial⟩⟩⟩⟩,⟨⟨⟨eC Tryz.t144 Tryz.underlying144 trivial,⟨eC Tryz.t145 Tryz.underlying145 trivial,eC Tryz.t147 Tryz.underlying147 trivial⟩⟩,⟨eC Tryz.t148 Tryz.underlying148 trivial,⟨eC Tryz.t149 Tryz.underlying149 trivial,eC Tryz.t150 Tryz.underlying150 trivial⟩⟩⟩,⟨⟨eC Tryz.t152 Tryz.underlying152 trivial,⟨eC Tryz.t153 Tryz.underlying153 trivial,eC Tryz.t154 Tryz.underlying154 trivial⟩⟩,⟨⟨eC Tryz.t155 Tryz.underlying155 trivial,eC Tryz.t156 Tryz.underlying156 trivial⟩,⟨eC Tryz.t157 Tryz.underlying157 trivial,eC Tryz.t159 Tryz.underlying159 trivial⟩⟩⟩⟩⟩,⟨⟨⟨⟨eC Tryz.t160 Tryz.underlying160 trivial,⟨eC Tryz.t161 Tryz.underlying161 trivial,eC Tryz.t162 Tryz.underlying162 rfl⟩⟩,⟨eC Tryz.t163 Tryz.underlying163 trivial,⟨eC Tryz.t164 Tryz.underlying164 trivial,eC Tryz.t165 Tryz.underlying165 trivial⟩⟩⟩,⟨⟨eC Tryz.t166 Tryz.underlying166 trivial,⟨eC Tryz.t168 Tryz.underlying168 trivial,eC Tryz.t169 Tryz.underlying169 trivial⟩⟩,⟨⟨eC Tryz.t170 Tryz.underlying170 trivial,eC Tryz.t171 Tryz.underlying171 trivial⟩,⟨eC Tryz.t172 Tryz.underlying172 trivial,eC Tryz.t174 Tryz.underlying174 trivial⟩⟩⟩⟩,⟨⟨⟨eC Tryz.t178 Tryz.underlying178 trivial,⟨eC Tryz.t180 Tryz.underlying180 trivial,eC Tryz.t185 Tryz.underlying185 trivial⟩⟩,⟨eC Tryz.t187 Tryz.underlying187 trivial,⟨eC Tryz.t188 Tryz.underlying188 trivial,eC Tryz.t189 Tryz.underlying189 trivial⟩⟩⟩,⟨⟨eC Tryz.t190 Tryz.underlying190 trivial,⟨eC Tryz.t191 Tryz.underlying191 trivial,eC Tryz.t192 Tryz.underlying192 trivial⟩⟩,⟨⟨eC Tryz.t193 Tryz.underlying193 trivial,eC Tryz.t194 Tryz.underlying194 trivial⟩,⟨eC Tryz.t195 Tryz.underlying195 trivial,eC Tryz.t197 Tryz.underlying197 trivial⟩⟩⟩⟩⟩⟩,⟨⟨⟨⟨⟨eC Tryz.t198 Tryz.underlying198 trivial,⟨eC Tryz.t199 Tryz.underlying199 trivial,eC Tryz.t200 Tryz.underlying200 trivial⟩⟩,⟨eC Tryz.t202 Tryz.underlying202 trivial,⟨eC Tryz.t203 Tryz.underlying203 trivial,eC Tryz.t204 Tryz.underlying204 trivial⟩⟩⟩,⟨⟨eC Tryz.t205 Tryz.underlying205 trivial,⟨eC Tryz.t206 Tryz.underlying206 trivial,eC Tryz.t207 Tryz.underlying207 trivial⟩⟩,⟨eC Tryz.t209 Tryz.underlying209 trivial,⟨eC Tryz.t211 Tryz.underlying211 trivial,eC Tryz.t212 Tryz.underlying212 trivial⟩⟩⟩⟩,⟨⟨⟨eC Tryz.t213 Tryz.underlying213 trivial,⟨eC Tryz.t214 Tryz.underlying214 trivial,eC Tryz.t215 Tryz.underlying215 trivial⟩⟩,⟨eC Tryz.t216 Tryz.underlying216 trivial,⟨eC Tryz.t218 Tryz.underlying218 trivial,eC Tryz.t219 Tryz.underlying219 trivial⟩⟩⟩,⟨⟨eC Tryz.t220 Tryz.underlying220 trivial,⟨eC Tryz.t221 Tryz.underlying221 trivial,eC Tryz.t222 Tryz.underlying222 trivial⟩⟩,⟨⟨eC Tryz.t223 Tryz.underlying223 trivial,eC Tryz.t224 Tryz.underlying224 trivial⟩,⟨eC Tryz.t225 Tryz.underlying225 trivial,eC Tryz.t226 Tryz.underlying226 trivial⟩⟩⟩⟩⟩,⟨⟨⟨⟨eC Tryz.t227 Tryz.underlying227 trivial,⟨eC Tryz.t228 Tryz.underlying228 trivial,eC Tryz.t229 Tryz.underlying229 trivial⟩⟩,⟨eC Tryz.t230 Tryz.underlying230 rfl,⟨eC Tryz.t232 Tryz.underlying232 trivial,eC Tryz.t233 Tryz.underlying233 rfl⟩⟩⟩,⟨⟨eC Tryz.t234 Tryz.underlying234 trivial,⟨eC Tryz.t236 Tryz.underlying236 trivial,eC Tryz.t237 Tryz.underlying237 trivial⟩⟩,⟨⟨eC Tryz.t239 Tryz.underlying239 trivial,eC Tryz.t242 Tryz.underlying242 trivial⟩,⟨eC Tryz.t243 Tryz.underlying243 trivial,eC Tryz.t247 Tryz.underlying247 trivial⟩⟩⟩⟩,⟨⟨⟨eC Tryz.t252 Tryz.underlying252 trivial,⟨eC Tryz.t253 Tryz.underlying253 rfl,eC Tryz.t254 Tryz.underlying254 ⟨_,rfl,by kernel_rfl,by kernel_rfl⟩⟩⟩,⟨eC Tryz.t255 Tryz.underlying255 ⟨_,rfl,by kernel_rfl,by kernel_rfl⟩,⟨eC Tryz.t258 Tryz.underlying258 trivial,eC Tryz.t260 Tryz.underlying260 trivial⟩⟩⟩,⟨⟨eC Tryz.t261 Tryz.underlying261 trivial,⟨eC Tryz.t263 Tryz.underlying263 ⟨_,rfl,by kernel_rfl,by kernel_rfl⟩,eC Tryz.t264 Tryz.underlying264 ⟨_,rfl,by kernel_rfl,by kernel_rfl⟩⟩⟩,⟨⟨eC Tryz.t267 Tryz.underlying267 trivial,eC Tryz.t268 Tryz.underlying268 trivial⟩,⟨eC Tryz.t279 Tryz.underlying279 trivial,eC Tryz.t280 Tryz.underlying280 trivial⟩⟩⟩⟩⟩⟩⟩⟩
def Em:List AV:=TV.map λ k=>.v (.int .u32 (k:Nat))
noncomputable def C0:Ctx:={P:=Tryz.prog,ty:=tys.find,G:=λ g=>match g with|0=>some Em|_=>none,H:=pV Tryz.prog (λ g=>match g with|0=>some Em|_=>none)}
theorem c0Ok:CtxOk C0:=⟨TT.find_ok tys Yb,by kernel_rfl,λ _ _ _ _ _ h=>h⟩
theorem FU(k:Nat)(hk:k<49):Em[k]?=some (.v (.int .u32 (code k))):=by
 have:∀ k,k<49→TV[k]?=some (code k):=by decide
 simp only[Em,aZ,this k hk,dG]
theorem aaT{S:Nat→Prop}{w:World}(h:DH w)(hS:S 0):GOk C0 S w:=λ g cells hg=>by
 match g,hg with
 | 0,hg=>
  injection hg with hg;subst hg;have hget:∀ (j:Nat) a,Em[j]?=some a→j<49:=λ j a hj=>(Dq.1 hj).1;exact .dp Em.length 0 Em 0 0 (λ k=>.int .u32 (code k)) rfl hS (λ j a hj=>by rw[bL];exact h j (hget j a hj)) (λ _=>rfl) λ j a hj=>by
   rw[FU j (hget j a hj)]at hj;injection hj with hj;subst hj;exact .v _
theorem Ci{S:Nat→Prop}{w:World}(h:GOk C0 S w):DH w:=by
 have:=h 0 Em rfl;generalize hp:Value.pointer (some (⟨0,0,none⟩:Addr))=p at this
 cases this with
 |dp _ _ _ b o u hrs hb hw h1 hr=>
  simp only[Value.pointer.injEq,Option.some.injEq,Addr.mk.injEq]at hp;obtain⟨rfl,ho, -⟩:=hp;obtain rfl:o=0:=by omega
  intro k hk;have e:=FU k hk;have:=hw k _ e;rw[bL]at this;rw[this,lK (hr k _ e)]
end Go.Proofs.YtlhofpglndhfaaaGreatDoor
