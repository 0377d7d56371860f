/- Joined texts. -/
import Derived.Test.YtlhofpglndhfaaaGreatDoorS101
import Derived.Test.YtlhofpglndhfaaaGreatDoorS126
set_option linter.unusedVariables false
set_option linter.unusedSimpArgs false
namespace Go.Proofs.YtlhofpglndhfaaaGreatDoor
open Go.RowKit
def Ru(h1 h2:AH)(s:Nat)(wr:Bool)(β:Bt)(h1' h2':AH):Prop:=
 (∀ b,h2 b=h1 b→h2' b=h1' b)∧∀ b,b≠s→(h1' b≠h1 b∨h2' b≠h2 b)→wr=true∧h1 b≠none∧∃ l,β b=some l
def Tr(h1 h2:AH)(s:Nat)(wr:Bool)(β:Bt)(r1 r2:Res):Prop:=
 match r1 with
 | .bad=>True
 | .fx p x h1'=>∃ h2',r2=.fx p x h2'∧Ru h1 h2 s wr β h1' h2'
 | .idxfx rows i f=>∃ f2,r2=.idxfx rows i f2∧∀ row h1',f row=some h1'→∃ h2',f2 row=some h2'∧Ru h1 h2 s wr β h1' h2'
 |r=>r2=r
section
variable {C:Ctx}{h1 h2:AH}{s:Nat}{wr:Bool}{β:Bt}{S:Nat→Prop}{w:World}
theorem Tr.refl_of{r:Res}(hr:isFx r=false):Tr h1 h2 s wr β r r:=by
 cases r<;>first|rfl|(simp[isFx]at hr)
theorem Ru.new(blk:Option Blk):Ru h1 h2 s wr β (upd h1 s blk) (upd h2 s blk):=by
 refine⟨λ b hb=>?_,λ b hb h=>?_⟩
 ·by_cases he:b=s
  ·subst he;rw[cY,cY]
  ·rw[cD _ _ he,cD _ _ he];exact hb
 ·rw[cD _ _ hb,cD _ _ hb]at h;rcases h with h|h<;>exact absurd rfl h
theorem Ru.set{b0:Nat}{l:Loc}(hl:β b0=some l)(hn:h1 b0≠none)(blk:Option Blk):Ru h1 h2 s true β (upd h1 b0 blk) (upd h2 b0 blk):=by
 refine⟨λ b hb=>?_,λ b hb h=>?_⟩
 ·by_cases he:b=b0
  ·subst he;rw[cY,cY]
  ·rw[cD _ _ he,cD _ _ he];exact hb
 ·by_cases he:b=b0
  ·subst he;exact⟨rfl,hn,l,hl⟩
  ·rw[cD _ _ he,cD _ _ he]at h;rcases h with h|h<;>exact absurd rfl h
theorem Ru.set_new{b0:Nat}{l:Loc}(hl:β b0=some l)(hn:h1 b0≠none)(blk blk':Option Blk):Ru h1 h2 s true β (upd (upd h1 b0 blk') s blk) (upd (upd h2 b0 blk') s blk):=by
 refine⟨λ b hb=>?_,λ b hb h=>?_⟩
 ·by_cases he:b=s
  ·subst he;rw[cY,cY]
  ·rw[cD _ _ he,cD _ _ he];by_cases he:b=b0
   ·subst he;rw[cY,cY]
   ·rw[cD _ _ he,cD _ _ he];exact hb
 ·rw[cD _ _ hb,cD _ _ hb]at h;by_cases he:b=b0
  ·subst he;exact⟨rfl,hn,l,hl⟩
  ·rw[cD _ _ he,cD _ _ he]at h;rcases h with h|h<;>exact absurd rfl h
def As(β:Bt)(h1 h2:AH):Prop:=∀ b l,β b=some l→h1 b≠none→h2 b=h1 b
theorem vM{a:AV}{v:Value}(ha:Rep S w β a v)(hag:As β h1 h2){r:Nat×List (List AV)}(hr:mS h1 a=some r):mS h2 a=some r∧(wM h2 a↔wM h1 a):=by
 cases ha with
 | osl s lo len clip l A c hl hc hm hcl hA cs e fr hb room=>
  have hn:h1 s≠none:=by
   intro h0;simp only[mS,h0]at hr;cases hr
  have e:=hag s l hl hn;simp only[mS,e]at hr⊢
  exact⟨hr,by simp only[wM,e]⟩
 |v=>exact⟨by cases v<;>exact hr,Iff.rfl⟩
 |_=>exact⟨hr,Iff.rfl⟩
theorem UF(t:TypeId){a:AV}{v:Value}(ha:Rep S w β a v)(hag:As β h1 h2):Tr h1 h2 s wr β (sJ C h1 t a) (sJ C h2 t a):=by
 have ok:∀ x:Option AV,Tr h1 h2 s wr β (okO x) (okO x):=λ x=>by cases x<;>first|trivial|rfl
 cases ha<;>simp only[sJ]<;>try (exact trivial)
 case ptr b c l hl=>
  cases hb:h1 b with
  |none=>exact trivial
  |some blk=>
   rw[hag b l hl (by rw[hb];simp),hb]
   cases blk with
   |box cells=>exact ok _
   |arr rows rs=>exact trivial
   |row cells=>exact trivial
 case ptr2 b r c l hl=>
  cases hb:h1 b with
  |none=>exact trivial
  |some blk=>
   rw[hag b l hl (by rw[hb];simp),hb]
   cases blk with
   |box cells=>exact trivial
   |arr rows rs=>rfl
   |row cells=>rfl
 case dp=>exact ok _
theorem Tr.of_eq{r1 r2:Res}(he:r2=r1)(hs:isFx r1=false∨r1=.bad):Tr h1 h2 s wr β r1 r2:=by
 subst he;rcases hs with hs|hs
 ·exact Tr.refl_of hs
 ·rw[hs];trivial
theorem blkOf_congr{a:AV}{v:Value}(ha:Rep S w β a v)(hag:As β h1 h2):CM h2 a=CM h1 a∨CM h1 a=none∧∃ b lo len clip,a=.osl b lo len clip:=by
 cases ha with
 |osl b lo len clip l A c hl hc hm hcl hA cs e fr hb room=>
  cases hb:h1 b with
  |none=>exact .inr ⟨hb,b,lo,len,clip,rfl⟩
  |some blk=>exact .inl (hag b l hl (by rw[hb];simp))
 |_=>exact .inl rfl
theorem Is(t:TypeId){a i:AV}{v:Value}(ha:Rep S w β a v)(hag:As β h1 h2):Tr h1 h2 s wr β (jB C h1 t a i) (jB C h2 t a i):=by
 have self:isFx (jB C h1 t a i)=false∨jB C h1 t a i=.bad:=by
  unfold jB pK
  repeat' split
  all_goals first|exact .inl rfl|exact .inr rfl
 rcases blkOf_congr ha hag with he|⟨he,b,lo,len,clip,rfl⟩
 ·exact Tr.of_eq (by unfold jB;rw[he]) self
 ·have hbad:jB C h1 t (.osl b lo len clip) i=.bad:=by
   unfold jB;rw[he];unfold pK;split
   ·split
    ·rename_i hq;cases hq
    ·rfl
    ·rfl
   ·split
    ·rename_i hq;cases hq
    ·rename_i hq;cases hq
    ·rename_i hq;cases hq
    ·rfl
   ·rfl
  rw[hbad];trivial
theorem Rv(t:TypeId){a:AV}{lo hi mx:Option AV}{v:Value}(ha:Rep S w β a v)(hag:As β h1 h2):Tr h1 h2 s wr β (tV C h1 t a lo hi mx) (tV C h2 t a lo hi mx):=by
 have self:isFx (tV C h1 t a lo hi mx)=false∨tV C h1 t a lo hi mx=.bad:=by
  unfold tV Bj
  repeat' split
  all_goals first|exact .inl rfl|exact .inr rfl
 rcases blkOf_congr ha hag with he|⟨he,b,lo',len,clip,rfl⟩
 ·exact Tr.of_eq (by unfold tV;rw[he]) self
 ·have hbad:tV C h1 t (.osl b lo' len clip) lo hi mx=.bad:=by
   unfold tV;rw[he];unfold Bj
   repeat' split
   all_goals first|rfl|(simp_all;done)
  rw[hbad];trivial
theorem UG(src dst:TypeId){a:AV}{v:Value}(ha:Rep S w β a v)(hag:As β h1 h2):Tr h1 h2 s wr β (EP C h1 s src dst a) (EP C h2 s src dst a):=by
 have cself:isFx (CL C src dst a)=false∨CL C src dst a=.bad:=by
  unfold CL;split<;>first|exact .inl rfl|exact .inr rfl
 unfold EP;split
 ·split
  ·exact⟨_,rfl,Ru.new _⟩
  ·trivial
 ·split
  ·trivial
  ·split
   ·rename_i rc rows hq hr;obtain⟨e1,e2⟩:=vM ha hag hr;rw[e1,hq];show _=_;simp only[e2]
   ·trivial
 ·exact Tr.of_eq rfl cself
theorem Ob(ts:List TypeId){x y:AV}{vx vy:Value}(hx:Rep S w β x vx)(hy:Rep S w β y vy)(hag:As β h1 h2):Tr h1 h2 s true β (bI C h1 s .append ts [x,y]) (bI C h2 s .append ts [x,y]):=by
 simp only[bI];have key:∀ (rx ry:Option (Nat×List (List AV))) (blk:Option Blk) (px py:Prop),(∀ b lo len clip,x=.osl b lo len clip→blk≠none→(∃ l,β b=some l)∧h1 b≠none)→Tr h1 h2 s true β (qB C s ts x rx ry blk px py h1) (qB C s ts x rx ry blk px py h2):=by
  intro rx ry blk px py hb;unfold qB;split
  ·split
   ·split
    ·split
     ·split
      ·exact⟨_,rfl,Ru.new _⟩
      ·split
       ·exact Tr.of_eq rfl (.inl rfl)
       ·exact⟨_,rfl,Ru.new _⟩
      ·trivial
     ·split
      ·exact⟨_,rfl,Ru.new _⟩
      ·trivial
     ·rename_i b lo len _ _ _ _ _ _;split
      ·obtain⟨⟨l,hl⟩,hn⟩:=hb _ _ _ _ rfl (by simp);exact⟨_,rfl,Ru.set_new hl hn _ _⟩
      ·trivial
     ·trivial
    ·trivial
   ·trivial
  ·trivial
 have bad1:∀ (ry:Option (Nat×List (List AV))) (blk:Option Blk) (px py:Prop),qB C s ts x none ry blk px py h1=.bad:=by
  intro ry blk px py;unfold qB;split
  ·split
   ·split
    ·split<;>first|rfl|(rename_i h _;cases h;done)|(rename_i h;cases h;done)
    ·rfl
   ·rfl
  ·rfl
 have bad2:∀ (rx:Option (Nat×List (List AV))) (blk:Option Blk) (px py:Prop),qB C s ts x rx none blk px py h1=.bad:=by
  intro rx blk px py;unfold qB;split
  ·split
   ·split
    ·split<;>first|rfl|(rename_i h _;cases h;done)|(rename_i h;cases h;done)
    ·rfl
   ·rfl
  ·rfl
 cases hrx:mS h1 x with
 |none=>rw[bad1];trivial
 | some rx=>
  cases hry:mS h1 y with
  |none=>rw[bad2];trivial
  | some ry=>
   obtain⟨e1,e2⟩:=vM hx hag hrx;obtain⟨e3,e4⟩:=vM hy hag hry;have hbk:CM h2 x=CM h1 x:=by
    rcases blkOf_congr hx hag with he|⟨he,b,lo,len,clip,rfl⟩
    ·exact he
    ·simp only[CM]at he;simp only[mS,he]at hrx;cases hrx
   rw[e1,e3,hbk,show wM h2 x=wM h1 x from propext e2,show wM h2 y=wM h1 y from propext e4];refine key _ _ _ _ _ λ b lo len clip hq hne=>?_;subst hq
   cases hx with
   |osl _ _ _ _ l A c hl hc hm hcl hA cs e fr hb' room=>exact⟨⟨l,hl⟩,hne⟩
theorem UH(ts:List TypeId){x y:AV}{vx vy:Value}(hx:Rep S w β x vx)(hy:Rep S w β y vy)(hag:As β h1 h2):Tr h1 h2 s true β (DE C h1 ts x y) (DE C h2 ts x y):=by
 unfold DE;split
 ·trivial
 ·split
  ·split
   ·rename_i ei b lo len clip he
    cases hb:h1 b with
    |none=>simp only;split<;>trivial
    | some blk=>
     cases hx with
     |osl _ _ _ _ l A c hl hc hm hcl hA cs e fr hb' room=>
     have e:=hag b l hl (by rw[hb];simp)
     cases hr:mS h1 y with
     |none=>cases blk<;>trivial
     | some r=>
      obtain⟨e1,e2⟩:=vM hy hag hr;rw[e,hb,e1]
      cases blk with
      |box=>trivial
      |row=>trivial
      |arr rows rs=>
       simp only;split
       ·exact⟨_,by simp only[e2],Ru.set hl (by rw[hb];simp) _⟩
       ·trivial
   ·trivial
  ·trivial
theorem lY(h:AH):∀ (cs:List AV) (i:Nat),(rA h cs)[i]?=(cs[i]?).map (uP h)
 |[],i=>by simp[rA]
 |c::cs,0=>by simp[rA]
 |c::cs,i+1=>by simp[rA,lY h cs i]
theorem pJ(h:AH):∀ (cs:List AV),jX h cs↔∀ (i:Nat) a,cs[i]?=some a→jS h a
 |[]=>⟨λ _ i a h=>by simp at h,λ _=>trivial⟩
 |c::cs=>by
  simp only[jX,pJ h cs];refine⟨λ⟨h0,hr⟩ i a hi=>?_,λ H=>⟨H 0 c rfl,λ i a hi=>H (i+1) a (by simpa using hi)⟩⟩
  cases i with
  |zero=>simp at hi;subst hi;exact h0
  |succ i=>exact hr i a (by simpa using hi)
theorem MH{a:AV}{v:Value}(ha:Rep S w β a v):As β h1 h2→eL (uP h1 a)=true→uP h2 a=uP h1 a∧(jS h2 a↔jS h1 a):=by
 induction ha with
 | agg cs vs hl h1' h ih=>
  intro hag hc;have hc':eV (rA h1 cs)=true:=hc;have each:∀ (i:Nat) a,cs[i]?=some a→uP h2 a=uP h1 a∧(jS h2 a↔jS h1 a):=by
   intro i a hi;have hlt:i<vs.size:=by rw[←hl];exact (Dq.1 hi).1
   exact ih i a vs[i] hi (aS hlt) hag (fX _ hc' i _ (by rw[lY,hi];rfl))
  constructor
  ·show AV.agg (rA h2 cs)=.agg (rA h1 cs);congr 1;apply dD;intro i;rw[lY,lY]
   cases hi:cs[i]? with
   |none=>rfl
   |some a=>simp only[dG,(each i a hi).1]
  ·show jX h2 cs↔jX h1 cs;rw[pJ,pJ]
   exact⟨λ H i a hi=>(each i a hi).2.1 (H i a hi),λ H i a hi=>(each i a hi).2.2 (H i a hi)⟩
 | tup cs vs hl h ih=>
  intro hag hc
  cases hq:oP cs with
  |true=>simp[uP,jS,hq]
  |false=>
  have hc':eV (rA h1 cs)=true:=by simpa only[uP,hq,eL]using hc
  have each:∀ (i:Nat) a,cs[i]?=some a→uP h2 a=uP h1 a∧(jS h2 a↔jS h1 a):=by
   intro i a hi;have hlt:i<vs.size:=by rw[←hl];exact (Dq.1 hi).1
   exact ih i a vs[i] hi (aS hlt) hag (fX _ hc' i _ (by rw[lY,hi];rfl))
  constructor
  ·simp only[uP,hq];congr 1;apply dD;intro i;rw[lY,lY]
   cases hi:cs[i]? with
   |none=>rfl
   |some a=>simp only[dG,(each i a hi).1]
  ·simp only[jS,hq];rw[pJ,pJ]
   exact⟨λ H i a hi=>(each i a hi).2.1 (H i a hi),λ H i a hi=>(each i a hi).2.2 (H i a hi)⟩
 | osl s lo len clip l A c hl hc hm hcl hA cs e fr hb room=>
  intro hag hcl';have hn:h1 s≠none:=by
   intro h0;simp only[uP,h0,eL]at hcl';cases hcl'
  have e:=hag s l hl hn;simp only[uP,jS,e]
  exact⟨trivial,trivial⟩
 | ptr s col l hl=>
  intro hag hcl';have hn:h1 s≠none:=by
   intro h0;simp only[uP,h0,eL]at hcl';cases hcl'
  have e:=hag s l hl hn;simp only[uP,jS,e]
  exact⟨trivial,trivial⟩
 | clo f first caps vs us hl h hl' h' ih ih'=>
  intro hag hc;simp only[uP,eL]at hc;split at hc
  ·rename_i hc1;have each:∀ (i:Nat) a,first[i]?=some a→uP h2 a=uP h1 a∧(jS h2 a↔jS h1 a):=by
    intro i a hi;have hlt:i<vs.size:=by rw[←hl];exact (Dq.1 hi).1
    exact ih i a vs[i] hi (aS hlt) hag (fX _ hc1 i _ (by rw[lY,hi];rfl))
   have each':∀ (i:Nat) a,caps[i]?=some a→uP h2 a=uP h1 a∧(jS h2 a↔jS h1 a):=by
    intro i a hi;have hlt:i<us.size:=by rw[←hl'];exact (Dq.1 hi).1
    exact ih' i a us[i] hi (aS hlt) hag (fX _ hc i _ (by rw[lY,hi];rfl))
   have ext:∀ (cs:List AV),(∀ (i:Nat) a,cs[i]?=some a→uP h2 a=uP h1 a∧(jS h2 a↔jS h1 a))→rA h2 cs=rA h1 cs∧(jX h2 cs↔jX h1 cs):=by
    intro cs each;constructor
    ·apply dD;intro i;rw[lY,lY]
     cases hi:cs[i]? with
     |none=>rfl
     |some a=>simp only[dG,(each i a hi).1]
    ·rw[pJ,pJ];exact⟨λ H i a hi=>(each i a hi).2.1 (H i a hi),λ H i a hi=>(each i a hi).2.2 (H i a hi)⟩
   obtain⟨p1,p2⟩:=ext first each
   obtain⟨q1,q2⟩:=ext caps each';refine⟨by simp only[uP,p1,q1],?_⟩;show (jX h2 first∧jX h2 caps)↔(jX h1 first∧jX h1 caps);rw[p2,q2]
  ·cases hc
 |_=>intro _ _;exact⟨rfl,Iff.rfl⟩
theorem MI{args:List AV}{vs:List Value}(hr:RepL S w β args vs)(hag:As β h1 h2)(hc:eV (rA h1 args)=true):rA h2 args=rA h1 args∧(jX h2 args↔jX h1 args):=by
 have each:∀ (i:Nat) a,args[i]?=some a→uP h2 a=uP h1 a∧(jS h2 a↔jS h1 a):=by
  intro i a hi;have hlt:i<vs.length:=by rw[←hr.1];exact (Dq.1 hi).1
  exact MH (hr.2 i a _ hi (aA hlt)) hag (fX _ hc i _ (by rw[lY,hi];rfl))
 constructor
 ·apply dD;intro i;rw[lY,lY]
  cases hi:args[i]? with
  |none=>rfl
  |some a=>simp only[dG,(each i a hi).1]
 ·rw[pJ,pJ];exact⟨λ H i a hi=>(each i a hi).2.1 (H i a hi),λ H i a hi=>(each i a hi).2.2 (H i a hi)⟩
theorem Ru.refl:Ru h1 h2 s wr β h1 h2:=⟨λ _ h=>h,λ b _ h=>by rcases h with h|h<;>exact absurd rfl h⟩
theorem It{ev:Operand→AV}{ρ:Operand→Value}(op:Op)(hev:∀ x∈op.operands,Rep S w β (ev x) (ρ x))(hag:pW op=true→As β h1 h2):
  Tr h1 h2 s (lM op) β (opA C ev h1 s op) (opA C ev h2 s op):=by
 have ok:∀ (wr:Bool) (x:Option AV),Tr h1 h2 s wr β (okO x) (okO x):=λ wr x=>by cases x<;>first|trivial|rfl
 cases op<;>simp only[Op.operands]at hev<;>simp only[opA]<;>try (exact trivial)
 case move x=>rfl
 case assign x=>rfl
 case pick c a b=>
  refine Tr.of_eq rfl ?_;unfold GR;split<;>first|exact .inl rfl|exact .inr rfl
 case alloc t=>split<;>first|trivial|exact⟨_,rfl,Ru.new _⟩
 case box t x=>split<;>first|trivial|exact⟨_,rfl,Ru.new _⟩
 case build t ps=>
  refine Tr.of_eq rfl ?_;have o:∀ x:Option AV,isFx (okO x)=false∨okO x=.bad:=λ x=>by cases x<;>first|exact .inl rfl|exact .inr rfl
  unfold Bl
  repeat' split
  all_goals first|exact o _|exact .inr rfl
 case buildSlice t n ps=>
  refine Tr.of_eq rfl ?_
  repeat' split
  all_goals first|exact .inl rfl|exact .inr rfl
 case load t a=>exact UF t (hev a (by simp)) (hag rfl)
 case store t a x=>
  have hag:=hag rfl;have ha:=hev a (by simp);split
  ·split
   ·generalize ev a=av at ha;generalize ρ a=va at ha;cases ha<;>try (exact trivial)
    case ptr b c l hl=>
     simp only
     cases hb:h1 b with
     |none=>exact trivial
     | some blk=>
      rw[hag b l hl (by rw[hb];simp),hb]
      cases blk with
      |arr=>exact trivial
      |row=>exact trivial
      |box cells=>
       simp only;split
       ·exact⟨_,rfl,Ru.set hl (by rw[hb];simp) _⟩
       ·trivial
    case ptr2 b r c l hl=>
     simp only
     cases hb:h1 b with
     |none=>exact trivial
     | some blk=>
      rw[hag b l hl (by rw[hb];simp),hb]
      cases blk with
      |box cells=>exact trivial
      | arr rows rs=>
       refine⟨_,rfl,λ row h1' hf=>?_⟩;dsimp only at hf⊢;split at hf
       ·rename_i e1 e2;injection hf with hf;subst hf;exact⟨_,by simp only,Ru.set hl (by rw[hb];simp) _⟩
       ·cases hf
      | row cells=>
       refine⟨_,rfl,λ row h1' hf=>?_⟩;dsimp only at hf⊢;split at hf
       ·injection hf with hf;subst hf;exact⟨_,rfl,Ru.set hl (by rw[hb];simp) _⟩
       ·cases hf
   ·trivial
  ·trivial
 case nilCheck x=>
  refine Tr.of_eq rfl ?_;unfold RO;split<;>first|exact .inl rfl|exact .inr rfl
 case binOp op t x y yt=>
  refine Tr.of_eq rfl ?_;unfold Bi RK GN RJ Bh GO
  repeat' split
  all_goals first|exact .inl rfl|exact .inr rfl
 case unOp op t x=>
  refine Tr.of_eq rfl ?_;unfold unA;split<;>first|exact .inl rfl|exact .inr rfl
 case convert src dst x=>exact UG src dst (hev x (by simp)) (hag rfl)
 case makeFunc fn first caps=>cases fn<;>first|trivial|rfl
 case makeSlice t l c=>
  unfold ID
  repeat' split
  all_goals first|trivial|exact⟨_,rfl,Ru.new _⟩
 case slice t x lo hi mx=>exact Rv t (hev x (by simp)) (hag rfl)
 case fieldAddr t x f=>
  refine Tr.of_eq rfl ?_;unfold oE
  repeat' split
  all_goals first|exact .inl rfl|exact .inr rfl
 case field t x f=>
  have o:∀ x:Option AV,isFx (okO x)=false∨okO x=.bad:=λ x=>by cases x<;>first|exact .inl rfl|exact .inr rfl
  refine Tr.of_eq rfl ?_;unfold yW
  repeat' split
  all_goals first|exact o _|exact .inr rfl
 case indexAddr t x i=>exact Is t (hev x (by simp)) (hag rfl)
 case index t x i=>
  refine Tr.of_eq rfl ?_;unfold Bk
  repeat' split
  all_goals first|exact .inl rfl|exact .inr rfl
 case extract x i=>
  have o:∀ x:Option AV,isFx (okO x)=false∨okO x=.bad:=λ x=>by cases x<;>first|exact .inl rfl|exact .inr rfl
  refine Tr.of_eq rfl ?_;unfold rC;split<;>first|exact o _|exact .inr rfl
 case call c=>
  obtain⟨callee,args,ats⟩:=c
  cases callee with
  |value f=>
   simp only
   split<;>first|rfl|trivial
  |invoke r m=>trivial
  | builtin b=>
   simp only[Call.operands,Array.empty_append]at hev;have two:∀ (x y:AV),args.toList.map ev=[x,y]→∃ v u,Rep S w β x v∧Rep S w β y u:=by
    intro x y hx;have hargs:RepL S w β (args.toList.map ev) (args.toList.map ρ):=RepL.of_map _ λ x hx=>hev x (by simpa using hx);rw[hx]at hargs;have hl:args.toList.length=2:=by simpa using hargs.1.symm
    match hq:args.toList,hl with
    |[a,b],_=>exact⟨ρ a,ρ b,hargs.2 0 x (ρ a) rfl (by simp[hq]),hargs.2 1 y (ρ b) rfl (by simp[hq])⟩
   simp only;cases b<;>try (simp only[bI];exact trivial)
   case append=>
    match hA:args.toList.map ev with
    |[]=>simp only[bI];exact trivial
    |[_]=>simp only[bI];exact trivial
    |_::_::_::_=>simp only[bI];exact trivial
    |[x,y]=>
     obtain⟨v,u,hx,hy⟩:=two x y hA;exact Ob ats.toList hx hy (hag rfl)
   case copy=>
    match hA:args.toList.map ev with
    |[]=>simp only[bI];exact trivial
    |[_]=>simp only[bI];exact trivial
    |_::_::_::_=>simp only[bI];exact trivial
    |[x,y]=>
     obtain⟨v,u,hx,hy⟩:=two x y hA;simp only[bI];exact UH ats.toList hx hy (hag rfl)
   case len=>
    match hA:args.toList.map ev with
    |[]=>simp only[bI];exact trivial
    |_::_::_=>simp only[bI];exact trivial
    | [x]=>
     match hT:ats.toList with
     |[]=>simp only[bI];exact trivial
     |_::_::_=>simp only[bI];exact trivial
     |[t]=>
      simp only[bI];refine Tr.of_eq rfl ?_;unfold RL;split<;>first|exact .inl rfl|exact .inr rfl
   case min=>
    match hA:args.toList.map ev with
    |[]=>simp only[bI];exact trivial
    |[_]=>simp only[bI];exact trivial
    |_::_::_::_=>simp only[bI];exact trivial
    |[x,y]=>
     simp only[bI];refine Tr.of_eq rfl ?_;unfold RM
     repeat' split
     all_goals first|exact .inl rfl|exact .inr rfl
   case max=>
    match hA:args.toList.map ev with
    |[]=>simp only[bI];exact trivial
    |[_]=>simp only[bI];exact trivial
    |_::_::_::_=>simp only[bI];exact trivial
    |[x,y]=>
     simp only[bI];refine Tr.of_eq rfl ?_;unfold RN
     repeat' split
     all_goals first|exact .inl rfl|exact .inr rfl
theorem MJ{ev:Operand→AV}(op:Op)(hc:∀ c:Call,op≠ .call c){f:FuncId}{args:List AV}:opA C ev h1 s op≠ .call f args:=by
  intro h;have o:∀ x:Option AV,okO x≠ .call f args:=λ x hx=>by cases x<;>simp[okO]at hx
  cases op<;>simp only[opA]at h
  case call c=>exact hc c rfl
  case makeFunc fn first caps=>cases fn<;>cases h
  all_goals first
    | (simp only[GR,Ab,Bl,sJ,RO,unA,Bi,RK,GN,RJ,Bh,GO,EP,CL,ID,tV,Bj,oE,yW,jB,pK,Bk,rC]at h
       (repeat' split at h)<;>first|(cases h;done)|(exact o _ h))
    |((repeat' split at h)<;>first|(cases h;done)|(exact o _ h))
    |(cases h;done)
theorem Rw{ev:Operand→AV}{ρ:Operand→Value}(op:Op)(hev:∀ x∈op.operands,Rep S w β (ev x) (ρ x)){f:FuncId}{args:List AV}(hc:opA C ev h1 s op=.call f args):pW op=true∧∃ vs,RepL S w β args vs:=by
 by_cases h:∃ c:Call,op=.call c
 ·obtain⟨c,rfl⟩:=h;refine⟨rfl,?_⟩;obtain⟨callee,as_,ats⟩:=c;simp only[Op.operands]at hev
  cases callee with
  |invoke r m=>simp only[opA]at hc;cases hc
  | value g=>
   simp only[opA]at hc;split at hc
   ·rename_i g' first caps he
    injection hc with q1 q2;subst q2;have hf:=hev g (by simp[Call.operands]);rw[he]at hf;generalize ρ g=v at hf
    cases hf with
    |clo _ _ _ vs us hl hr hl' hr'=>
    exact⟨vs.toList++as_.toList.map ρ++us.toList,RepL.append (RepL.append ⟨by simpa using hl,λ i a u p q=>hr i a u p (by simpa using q)⟩ (RepL.of_map _ λ x hx=>hev x (by simp[Call.operands];exact .inr (by simpa using hx)))) ⟨by simpa using hl',λ i a u p q=>hr' i a u p (by simpa using q)⟩⟩
   ·cases hc
  |builtin b=>
   simp only[opA]at hc;exfalso;unfold bI at hc;simp only[RL,RM,RN,DE,qB]at hc
   (repeat' split at hc)<;>cases hc
 ·exact absurd hc (MJ op λ c hc=>h ⟨c,hc⟩)
theorem vO{R:FuncId→List AV→AV→Prop}{ev:Operand→AV}{ρ:Operand→Value}(op:Op)(hev:∀ x∈op.operands,Rep S w β (ev x) (ρ x))(hag:pW op=true→As β h1 h2){x:AV}{h1':AH}(hn:NodeR C R h1 (opA C ev h1 s op) x h1'):
  ∃ h2',NodeR C R h2 (opA C ev h2 s op) x h2'∧Ru h1 h2 s (lM op) β h1' h2':=by
 have T:=It (C:=C) (s:=s) op hev hag
 cases hr:opA C ev h1 s op with
 |bad=>rw[hr]at hn;exact hn.elim
 |ok y=>rw[hr]at hn T;obtain⟨rfl,rfl⟩:=hn;exact⟨h2,by rw[show opA C ev h2 s op=.ok x from T];exact⟨rfl,rfl⟩,Ru.refl⟩
 |need p y=>rw[hr]at hn T;obtain⟨hp,rfl,rfl⟩:=hn;exact⟨h2,by rw[show opA C ev h2 s op=.need p x from T];exact⟨hp,rfl,rfl⟩,Ru.refl⟩
 |idx rows i f=>rw[hr]at hn T;obtain⟨row,h0,h3,h4,rfl⟩:=hn;exact⟨h2,by rw[show opA C ev h2 s op=.idx rows i f from T];exact⟨row,h0,h3,h4,rfl⟩,Ru.refl⟩
 |fx p y k=>rw[hr]at hn T;obtain⟨hp,rfl,rfl⟩:=hn;obtain⟨h2',e1,e2⟩:=T;exact⟨h2',by rw[e1];exact⟨hp,rfl,rfl⟩,e2⟩
 |idxfx rows i f=>rw[hr]at hn T;obtain⟨row,h0,h3,h4,rfl⟩:=hn;obtain⟨f2,e1,e2⟩:=T;obtain⟨h2',e3,e4⟩:=e2 row h1' h4;exact⟨h2',by rw[e1];exact⟨row,h0,h3,e3,rfl⟩,e4⟩
 |str p rows=>rw[hr]at hn T;obtain⟨l,hp,h3,rfl,rfl⟩:=hn;exact⟨h2,by rw[show opA C ev h2 s op=.str p rows from T];exact⟨l,hp,h3,rfl,rfl⟩,Ru.refl⟩
 |call f args=>
  rw[hr]at hn T;obtain⟨c1,c2,c3,c4,rfl⟩:=hn;obtain⟨hrd,vs,hargs⟩:=Rw (C:=C) (s:=s) op hev hr;obtain⟨e1,e2⟩:=MI hargs (hag hrd) c1;refine⟨h2,?_,Ru.refl⟩;rw[show opA C ev h2 s op=.call f args from T];exact⟨by rw[e1];exact c1,c2.imp id (λ h=>⟨h.1,e2.2 h.2⟩),c3,by rw[e1];exact c4,rfl⟩
end
theorem maskE_spec(acc:List Nat):∀ (es:List Edge) (m i:Nat),(Ou acc es m).testBit i=true→m.testBit i=true∨∃ e∈es,Region.binds .any e=true∧(i=e.on∨(acc.getD e.on 0).testBit i=true)
 |[],m,i,h=>.inl h
 | e::es,m,i,h=>by
  simp only[Ou]at h;rcases maskE_spec acc es _ i h with h|⟨e',h1,h2⟩
  ·split at h
   ·rename_i hb;simp only[Nat.testBit_or,Nat.testBit_two_pow,dF,aP]at h;rcases h with (h|h)|h
    ·exact .inl h
    ·exact .inr ⟨e,bD,hb,.inl h.symm⟩
    ·exact .inr ⟨e,bD,hb,.inr h⟩
   ·exact .inl h
  ·exact .inr ⟨e',bF _ h1,h2⟩
def WQ(l:List Oper)(X:Nat→Prop):Prop:=∀ j oj,X j→l[j]?=some oj→∀ e∈oj.after.toList,Region.binds .any e=true→X e.on
theorem Fo{l:List Oper}{X:Nat→Prop}(hX:WQ l X):∀ (rest pre:List Oper) (acc:List Nat),l=pre++rest→acc.length=pre.length→
  (∀ j oj,j<pre.length→l[j]?=some oj→(∀ e∈oj.after.toList,Region.binds .any e=true→X e.on)→∀ i,(acc.getD j 0).testBit i=true→X i)→
  ∀ j oj,l[j]?=some oj→(∀ e∈oj.after.toList,Region.binds .any e=true→X e.on)→∀ i,((xN rest acc).getD j 0).testBit i=true→X i
 |[],pre,acc,hl,ha,H,j,oj,hj,hp,i,hi=>by
  have hlt:j<pre.length:=by rw[hl,dQ]at hj;exact (Dq.1 hj).1
  exact H j oj hlt hj hp i hi
 | o ::rest,pre,acc,hl,ha,H,j,oj,hj,hp,i,hi=>by
  refine Fo hX rest (pre++[o]) (acc++[Ou acc o.after.toList 0]) (by rw[hl];simp) (by simp[ha]) ?_ j oj hj hp i hi;intro j oj hlt hj hp i hi;rw[aV]at hlt;by_cases hjp:j<pre.length
  ·rw[bJ,cI (by omega), ←bJ]at hi;exact H j oj hjp hj hp i hi
  ·have hje:j=pre.length:=by simp at hlt;omega
   subst hje;have hoj:oj=o:=by
    rw[hl,bQ (aC _),fF]at hj;simpa using hj.symm
   subst hoj;rw[bJ,bQ (by omega),ha,fF]at hi;simp only[cK,gF]at hi;rcases maskE_spec acc _ _ _ hi with h|⟨e,h1,h2,h3⟩
   ·simp at h
   ·have hXe:=hp e h1 h2;rcases h3 with rfl|h3
    ·exact hXe
    ·rcases al_Nat_lt_or_ge e.on acc.length with hea|hea
     ·have hel:e.on<l.length:=by rw[hl,aV];omega
      exact H e.on l[e.on] (by omega) (aA hel) (hX e.on _ hXe (aA hel)) i h3
     ·rw[bJ,bO hea]at h3;simp at h3
theorem xH{l:List Oper}{X:Nat→Prop}(hX:WQ l X){j:Nat}{oj:Oper}(hj:l[j]?=some oj)(hp:∀ e∈oj.after.toList,Region.binds .any e=true→X e.on){i:Nat}(hi:((xN l []).getD j 0).testBit i=true):X i:=
 Fo hX l [] [] rfl rfl (λ j oj h=>absurd h (by simp)) j oj hj hp i hi
structure DrawOk(l:List Oper):Prop where
 back:∀ j oj,l[j]?=some oj→∀ e∈oj.after.toList,Region.binds .any e=true→e.on<j
 slot:∀ i j oi oj d,l[i]?=some oi→l[j]?=some oj→i≠j→oi.dst=some d→d∈pA l oj→IE (xN l []) i j=true
 mem:∀ i j oi oj,l[i]?=some oi→l[j]?=some oj→i≠j→lM oi.op=true→pW oj.op=true→IE (xN l []) i j=true
theorem Ka{l:List Oper}(h:IF l=true):DrawOk l:=by
  have main:∀ j oj,l[j]?=some oj→(oj.after.toList.all λ e=> !Region.binds .any e||Nat.blt e.on j)=true∧∀ i oi,l[i]?=some oi→(i==j||
          ((match oi.dst with|none=>true|some d=> !(pA l oj).contains d||IE (xN l []) i j)&&
           (!(lM oi.op&&pW oj.op)||IE (xN l []) i j)))=true:=by
    intro j oj hj;have hjl:j<l.length:=(Dq.1 hj).1;have h1:=iH.1 h j (by simpa using hjl);simp only[hj,aI]at h1;refine⟨h1.1,λ i oi hi=>?_⟩;have hil:i<l.length:=(Dq.1 hi).1;have h2:=iH.1 h1.2 i (by simpa using hil);simp only[hi]at h2;exact h2
  refine⟨λ j oj hj e he hb=>?_,λ i j oi oj d hi hj hne hd hl=>?_,λ i j oi oj hi hj hne hw hr=>?_⟩
  · have:=iH.1 (main j oj hj).1 e he
    simp only[hb,lV,eH]at this;exact aO this
  · have:=(main j oj hj).2 i oi hi
    have hb:(i==j)=false:=by simpa using hne
    simp only[hb,eH,aI,hd]at this;have h1:=this.1;rw[show (pA l oj).contains d=true by simpa using hl]at h1;simpa using h1
  · have:=(main j oj hj).2 i oi hi
    have hb:(i==j)=false:=by simpa using hne
    simp only[hb,eH,aI]at this;have h1:=this.2;simpa [hw,hr]using h1
end Go.Proofs.YtlhofpglndhfaaaGreatDoor
namespace Go.Proofs.YtlhofpglndhfaaaGreatDoor
open Go.RowKit
section
variable {C:Ctx}{V:Inv C.fr}{R:FuncId→List AV→AV→Prop}{all:List Oper}{n:Nat}{K:ASt→Prop}
theorem Gy(nH:NoH C):∀ (rest:List Oper) (j:Nat) (t:Nat→AV) (h:AH),kX C R all rest j ⟨t,h,n⟩ K→∃ (xs:Nat→AV) (hh:Nat→AH) (tt:Nat→Nat→AV),tt j=t∧hh j=h∧
  (∀ k o,rest[k]?=some o→StepR C R all o (n+(j+k)) (tt (j+k)) (hh (j+k)) (xs (j+k)) (hh (j+k+1))∧tt (j+k+1)=yU (tt (j+k)) o.dst (xs (j+k)))∧K ⟨tt (j+rest.length),hh (j+rest.length),n+(j+rest.length)⟩
 |[],j,t,h,hr=>⟨λ _=>.any,λ _=>h,λ _=>t,rfl,rfl,λ k o hk=>by simp at hk,hr⟩
 | o::rest,j,t,h,hr=>by
  obtain⟨x,h',h1,h2⟩:=(step_inv hr).resolve_right λ⟨_,f,args,Post,_,hH,_⟩=>nH _ _ _ _ _ hH;obtain⟨xs,hh,tt,e1,e2,e3,e4⟩:=Gy nH rest (j+1) _ h' h2;refine⟨λ k=>if k=j then x else xs k,λ k=>if k=j then h else hh k,λ k=>if k=j then t else tt k,by simp,by simp,λ k o' hk=>?_,?_⟩
  ·cases k with
   |zero=>
    simp only[cK,Option.some.injEq]at hk;subst hk;simp only[iV,kV,show ¬ j+1=j by omega,iG,e1,e2]
    exact⟨h1,trivial⟩
   |succ k=>
    simp only[dE]at hk;have:=e3 k o' hk;simp only[show ¬ j+(k+1)=j by omega,show ¬ j+(k+1)+1=j by omega,iG];rw[show j+(k+1)=j+1+k by omega];exact this
  ·simp only[bN,show ¬ j+(rest.length+1)=j by omega,iG];rw[show j+(rest.length+1)=j+1+rest.length by omega];exact e4
theorem Rs{ev:Operand→AV}{h:AH}{s:Nat}(op:Op):(∀ p x h',opA C ev h s op=.fx p x h'→∀ b,b≠s→h' b≠h b→lM op=true∧h b≠none)∧
    (∀ rows i f,opA C ev h s op=.idxfx rows i f→∀ row h',f row=some h'→∀ b,b≠s→h' b≠h b→lM op=true∧h b≠none):=by
  have new:∀ (blk:Option Blk) b,b≠s→upd h s blk b≠h b→False:=λ blk b hb hn=>hn (cD _ _ hb);have set:∀ (b0:Nat) (blk:Option Blk) b,upd h b0 blk b≠h b→b=b0:=λ b0 blk b hn=>Classical.byContradiction λ e=>hn (cD _ _ e);have oB:∀ (x:Option AV) p y h',okO x≠ .fx p y h':=λ x p y h' hx=>by cases x<;>simp[okO]at hx
  have oI:∀ (x:Option AV) rows i f,okO x≠ .idxfx rows i f:=λ x rows i f hx=>by cases x<;>simp[okO]at hx
  constructor
  · intro p x h' he b hb hn
    cases op<;>simp only[opA]at he
    case makeFunc fn a c=>cases fn<;>cases he
    case store t a v=>
      refine⟨rfl,?_⟩
      (repeat' split at he)<;>first|(cases he;done)|skip
      rename_i hq _ _;injection he with _ _ he;subst he;rw[set _ _ _ hn,hq];simp
    case convert src dst x=>
      simp only[EP,CL]at he
      (repeat' split at he)<;>first|(cases he;done)|skip
      injection he with _ _ he;subst he;exact (new _ b hb hn).elim
    case makeSlice t l c=>
      simp only[ID]at he
      (repeat' split at he)<;>first|(cases he;done)|skip
      injection he with _ _ he;subst he;exact (new _ b hb hn).elim
    case alloc t=>
      split at he
      · injection he with _ _ he;subst he
        exact (new _ b hb hn).elim
      · cases he
    case box t x=>
      split at he
      · injection he with _ _ he;subst he
        exact (new _ b hb hn).elim
      · cases he
    case call c =>
      obtain⟨callee,args,ats⟩:=c
      cases callee with
      |value f=>simp only at he;split at he<;>cases he
      |invoke r m=>cases he
      | builtin bi=>
        simp only at he;cases bi<;>try (simp only[bI]at he;cases he;done)
        case append=>
          refine⟨rfl,?_⟩
          match hA:args.toList.map ev with
          |[]=>rw[hA]at he;simp only[bI]at he;cases he
          |[_]=>rw[hA]at he;simp only[bI]at he;cases he
          |_::_::_::_=>rw[hA]at he;simp only[bI]at he;cases he
          | [x',y']=>
            rw[hA]at he;simp only[bI]at he;have key:∀ (rx ry:Option (Nat×List (List AV))) (blk:Option Blk) (px py:Prop),blk=CM h x'→qB C s ats.toList x' rx ry blk px py h=.fx p x h'→h b≠none:=by
              intro rx ry blk px py hbk he;unfold qB at he
              (repeat' split at he)<;>first|(cases he;done)|skip
              · injection he with _ _ he;subst he;exact (new _ b hb hn).elim
              · injection he with _ _ he;subst he;exact (new _ b hb hn).elim
              · injection he with _ _ he;subst he;exact (new _ b hb hn).elim
              · injection he with _ _ he;subst he
                rw[cD _ _ hb]at hn;rw[set _ _ _ hn];simp only[CM]at hbk;rw[←hbk];simp
            exact key _ _ _ _ _ rfl he
        case copy=>
          refine⟨rfl,?_⟩
          match hA:args.toList.map ev with
          |[]=>rw[hA]at he;simp only[bI]at he;cases he
          |[_]=>rw[hA]at he;simp only[bI]at he;cases he
          |_::_::_::_=>rw[hA]at he;simp only[bI]at he;cases he
          | [x',y']=>
            rw[hA]at he;simp only[bI,DE]at he
            (repeat' split at he)<;>first|(cases he;done)|skip
            rename_i hq _ _ _ _ _;injection he with _ _ he;subst he;rw[set _ _ _ hn,hq];simp
        case len=>
          match hA:args.toList.map ev with
          |[]=>rw[hA]at he;simp only[bI]at he;cases he
          |_::_::_=>rw[hA]at he;simp only[bI]at he;cases he
          | [x']=>
            rw[hA]at he
            match hT:ats.toList with
            |[]=>rw[hT]at he;simp only[bI]at he;cases he
            |_::_::_=>rw[hT]at he;simp only[bI]at he;cases he
            | [t']=>
              rw[hT]at he;simp only[bI,RL]at he
              (repeat' split at he)<;>cases he
        case min=>
          match hA:args.toList.map ev with
          |[]=>rw[hA]at he;simp only[bI]at he;cases he
          |[_]=>rw[hA]at he;simp only[bI]at he;cases he
          |_::_::_::_=>rw[hA]at he;simp only[bI]at he;cases he
          | [x',y']=>
            rw[hA]at he;simp only[bI,RM]at he
            (repeat' split at he)<;>cases he
        case max=>
          match hA:args.toList.map ev with
          |[]=>rw[hA]at he;simp only[bI]at he;cases he
          |[_]=>rw[hA]at he;simp only[bI]at he;cases he
          |_::_::_::_=>rw[hA]at he;simp only[bI]at he;cases he
          | [x',y']=>
            rw[hA]at he;simp only[bI,RN]at he
            (repeat' split at he)<;>cases he
    all_goals first
      | (simp only[GR,Bl,sJ,RO,unA,Bi,RK,GN,RJ,Bh,GO,tV,Bj,oE,yW,jB,pK,Bk,rC]at he
         (repeat' split at he)<;>first|(cases he;done)|(exact absurd he (oB _ _ _ _)))
      |((repeat' split at he)<;>first|(cases he;done)|(exact absurd he (oB _ _ _ _)))
      |(cases he;done)
  · intro rows i f he row h' hf b hb hn
    cases op<;>simp only[opA]at he
    case makeFunc fn a c=>cases fn<;>cases he
    case store t a v=>
      refine⟨rfl,?_⟩
      (repeat' split at he)<;>first|(cases he;done)|skip
      all_goals
        injection he with _ _ he;subst he;dsimp only at hf
        (repeat' split at hf)<;>first
          |(cases hf;done)
          | (injection hf with hf
             subst hf;rw[set _ _ _ hn];intro h0
             simp_all)
    case call c=>
      obtain⟨callee,args,ats⟩:=c
      cases callee with
      |value f=>simp only at he;split at he<;>cases he
      |invoke r m=>cases he
      | builtin bi=>
        exfalso;simp only at he;unfold bI at he;simp only[RL,RM,RN,DE,qB]at he
        (repeat' split at he)<;>cases he
    all_goals first
      | (simp only[GR,Bl,sJ,RO,unA,Bi,RK,GN,RJ,Bh,GO,EP,CL,ID,tV,Bj,oE,yW,jB,pK,Bk,rC]at he
         (repeat' split at he)<;>first|(cases he;done)|(exact absurd he (oI _ _ _ _)))
      |((repeat' split at he)<;>first|(cases he;done)|(exact absurd he (oI _ _ _ _)))
      |(cases he;done)
theorem zT{o:Oper}{s:Nat}{t:Nat→AV}{h h':AH}{x:AV}(hs:StepR C R all o s t h x h'):∀ b,b≠s→h' b≠h b→lM o.op=true∧h b≠none:=by
 intro b hb hn;have main:NodeR C R h (opA C (evA C t) h s o.op) x h'→lM o.op=true∧h b≠none:=λ hs=>by
  obtain⟨H1,H2⟩:=Rs (C:=C) (ev:=evA C t) (h:=h) (s:=s) o.op
  cases hr:opA C (evA C t) h s o.op with
  |bad=>rw[hr]at hs;exact hs.elim
  |ok y=>rw[hr]at hs;obtain⟨_,rfl⟩:=hs;exact absurd rfl hn
  |need p y=>rw[hr]at hs;obtain⟨_,_,rfl⟩:=hs;exact absurd rfl hn
  |idx rows i f=>rw[hr]at hs;obtain⟨_,_,_,_,rfl⟩:=hs;exact absurd rfl hn
  |str p rows=>rw[hr]at hs;obtain⟨_,_,_,_,rfl⟩:=hs;exact absurd rfl hn
  |call f args=>rw[hr]at hs;obtain⟨_,_,_,_,rfl⟩:=hs;exact absurd rfl hn
  |fx p y h2=>rw[hr]at hs;obtain⟨_,_,rfl⟩:=hs;exact H1 p y h' hr b hb hn
  |idxfx rows i f=>rw[hr]at hs;obtain⟨row,_,_,hf,_⟩:=hs;exact H2 rows i f hr row h' hf b hb hn
 unfold StepR at hs
 cases hg:o.guard with
 |some q=>
  obtain⟨i,pol⟩:=q;simp only[hg]at hs;obtain⟨d,g,y,_,_,⟨_,rfl,_⟩|⟨_,hs⟩⟩:=hs
  ·exact absurd rfl hn
  ·exact main hs
 |none=>simp only[hg]at hs;exact main hs
def valX(X:Nat→Bool)(l:List Oper)(xs:Nat→AV)(t:Nat→AV):Nat→Nat→AV
 |0=>t
 |k+1=>match l[k]? with
  |some o=>(match X k with|true=>yU (valX X l xs t k) o.dst (xs k)|false=>valX X l xs t k)
  |none=>valX X l xs t k
variable {l:List Oper}{xs:Nat→AV}{t:Nat→AV}
theorem wI{f:Nat→AV}{d:Option Nat}{x:AV}{i:Nat}(h:d≠some i):yU f d x i=f i:=by
 cases d with
 |none=>rfl
 |some k=>exact cD _ _ (λ e=>h (by rw[e]))
theorem yR{f:Nat→AV}{x:AV}{i:Nat}:yU f (some i) x i=x:=cY _ _ _
theorem tG{X Y:Nat→Bool}{tmp:Nat}:∀ (k:Nat),(∀ i o,i<k→l[i]?=some o→o.dst=some tmp→X i=Y i)→valX X l xs t k tmp=valX Y l xs t k tmp
 |0,_=>rfl
 | k+1,H=>by
  have ih:=tG k λ i o hi=>H i o (by omega);simp only[valX]
  cases ho:l[k]? with
  |none=>exact ih
  | some o=>
   by_cases hd:o.dst=some tmp
   ·have:=H k o (by omega) ho hd;rw[this]
    cases Y k with
    |true=>simp only[hd,yR]
    |false=>exact ih
   ·cases X k<;>cases Y k<;>simp only[wI hd,ih]
theorem Dc{X:Nat→Bool}{tmp j:Nat}:∀ (k:Nat),j≤k→(∀ i o,j≤i→i<k→l[i]?=some o→o.dst=some tmp→X i=false)→valX X l xs t k tmp=valX X l xs t j tmp
 |0,hj,_=>by rw[show j=0 by omega]
 | k+1,hj,H=>by
  by_cases he:j=k+1
  ·rw[he]
  ·have ih:=Dc (tmp:=tmp) k (by omega) λ i o h1 h2=>H i o h1 (by omega);rw[←ih];simp only[valX]
   cases ho:l[k]? with
   |none=>rfl
   |some o=>
    by_cases hd:o.dst=some tmp
    ·rw[H k o (by omega) (by omega) ho hd]
    ·cases X k<;>simp only[wI hd]
theorem Dw{tt:Nat→Nat→AV}(h0:tt 0=t)(hs:∀ k o,l[k]?=some o→tt (k+1)=yU (tt k) o.dst (xs k)):∀ j,j≤l.length→tt j=valX (λ _=>true) l xs t j
 |0,_=>h0
 |j+1,hj=>by
  have ih:=Dw h0 hs j (by omega);have ho:l[j]?=some l[j]:=aA (by omega);rw[hs j _ ho,ih];simp only[valX,ho]
theorem TQ{j:Nat}(tmp:Nat)(hj:j≤l.length):valX (λ k=>decide (k<j)) l xs t l.length tmp=valX (λ _=>true) l xs t j tmp:=by
 rw[Dc (j:=j) l.length hj (λ i o h1 _ _ _=>by simpa using h1)];exact tG j λ i o hi _ _=>by simpa using hi
end
end Go.Proofs.YtlhofpglndhfaaaGreatDoor
namespace Go.Proofs.YtlhofpglndhfaaaGreatDoor
open Go.RowKit
section
variable {C:Ctx}{V:Inv C.fr}
theorem nG{ev ev':Operand→AV}{h:AH}{s:Nat}(op:Op)(he:∀ x∈op.operands,ev x=ev' x):opA C ev h s op=opA C ev' h s op:=by
 cases op<;>simp only[Op.operands]at he<;>simp only[opA]
 case move x=>rw[he x (by simp)]
 case assign x=>rw[he x (by simp)]
 case pick c a b=>rw[he c (by simp),he a (by simp),he b (by simp)]
 case box t x=>rw[he x (by simp)]
 case build t ps=>
  rw[jJ (f:=λ p:Nat×Operand=>(p.1,ev p.2)) (g:=λ p:Nat×Operand=>(p.1,ev' p.2)) λ p hp=>by rw[he p.2 (by simp;exact⟨p.1,by simpa using hp⟩)]]
 case buildSlice t n ps=>
  rw[jJ (f:=λ p:Nat×Operand=>(p.1,ev p.2)) (g:=λ p:Nat×Operand=>(p.1,ev' p.2)) λ p hp=>by rw[he p.2 (by simp;exact⟨p.1,by simpa using hp⟩)]]
 case load t a=>rw[he a (by simp)]
 case store t a x=>rw[he a (by simp),he x (by simp)]
 case nilCheck x=>rw[he x (by simp)]
 case binOp op t x y yt=>rw[he x (by simp),he y (by simp)]
 case unOp op t x=>rw[he x (by simp)]
 case convert src dst x=>rw[he x (by simp)]
 case makeFunc fn first caps=>
  cases fn<;>try rfl
  simp only;rw[jJ (f:=ev) (g:=ev') (l:=first.toList) λ x hx=>he x (by simp;exact .inl (by simpa using hx)),jJ (f:=ev) (g:=ev') (l:=caps.toList) λ x hx=>he x (by simp;exact .inr (by simpa using hx))]
 case makeSlice t l c=>rw[he l (by simp),he c (by simp)]
 case slice t x lo hi mx=>
  have opt:∀ (y:Option Operand),(∀ z,y=some z→ev z=ev' z)→y.map ev=y.map ev':=by
   intro y hy
   cases y with
   |none=>rfl
   |some z=>simp only[dG,hy z rfl]
  rw[he x (by simp),opt lo λ z hz=>he z (by subst hz;simp),opt hi λ z hz=>he z (by subst hz;simp),opt mx λ z hz=>he z (by subst hz;simp)]
 case fieldAddr t x f=>rw[he x (by simp)]
 case field t x f=>rw[he x (by simp)]
 case indexAddr t x i=>rw[he x (by simp),he i (by simp)]
 case index t x i=>rw[he x (by simp),he i (by simp)]
 case extract x i=>rw[he x (by simp)]
 case call c=>
  obtain⟨callee,args,ats⟩:=c;have ha:args.toList.map ev=args.toList.map ev':=jJ λ x hx=>he x (by simp[Call.operands];exact .inr (by simpa using hx))
  cases callee with
  |builtin b=>simp only;rw[ha]
  |invoke r m=>rfl
  |value f=>simp only;rw[he f (by simp[Call.operands]),ha]
theorem AZ:∀ (l:List Operand) (i:Nat),.tmp i∈l→i∈CP l
 |[],_,h=>by cases h
 | x::l,i,h=>by
  rcases al_List_mem_cons.1 h with rfl|h
  ·simp[CP]
  ·have:=AZ l i h;cases x<;>simp[CP,this]
theorem yS{t t':Nat→AV}:∀ (l:List Operand),(∀ i,.tmp i∈l→t i=t' i)→uO t l=uO t' l
 |[],_=>rfl
 |x::l,h=>by
  have ih:=yS l λ i hi=>h i (bF _ hi)
  cases x with
  |tmp i=>simp only[uO,h i (bD),ih]
  |_=>simp only[uO,ih]
theorem Cq{t t':Nat→AV}(op:Op)(h:∀ i,.tmp i∈op.operands.toList→t i=t' i):condsO t op=condsO t' op:=by
 cases op<;>first|exact yS _ h|skip
 case pick c x y=>exact yS [c] λ i hi=>h i (by simp at hi;subst hi;exact bD)
theorem Ir{C:Ctx}{t t':Nat→AV}(op:Op)(h:∀ x∈op.operands,evA C t x=evA C t' x)(x:Operand)(hx:x∈op.operands):evS C t op x=evS C t' op x:=by
 have e:=h x hx;cases op<;>first|exact congrArg AE e|skip
 case pick c p q=>show (match Ko c x with|true=>AE (evA C t x)|false=>evA C t x)=(match Ko c x with|true=>AE (evA C t' x)|false=>evA C t' x);rw[e]
variable {all:List Oper}{o:Oper}{s N:Nat}{t tX:Nat→AV}{h h' hX:AH}{a:Act}{w w0:World}{D:Nat→Prop}{S0:Nat→Prop}{S:Nat→Prop}{β:Bt}{R:FuncId→List AV→AV→Prop}{x:AV}
theorem Rt(M:SimD C V w0 S0 N D tX hX a w S β)(hst:StepR C R all o s t h x h')(hlook:∀ i∈pA all o,tX i=t i)(hag:pW o.op=true→As β h hX):
  ∃ h2,StepR C R all o s tX hX x h2∧Ru h hX s (lM o.op) β h' h2:=by
 have hops:∀ i,.tmp i∈o.op.operands.toList→tX i=t i:=λ i hi=>hlook i (by simp only[pA,al_List_mem_append];exact .inl (.inr (AZ _ i hi)));have hev:∀ x∈o.op.operands,evA C tX x=evA C t x:=λ x hx=>by
  cases x with
  |tmp i=>exact hops i (by simpa using hx)
  |_=>rfl
 unfold StepR at hst⊢
 cases hg:o.guard with
 |none=>
  simp only[hg]at hst⊢;rw[nG (ev':=evA C tX) o.op λ x hx=>(hev x hx).symm]at hst
  exact vO o.op (λ x _=>rZ M x) hag hst
 | some q=>
  obtain⟨i,pol⟩:=q;simp only[hg]at hst⊢;obtain⟨d,g,y,q1,q2,⟨q3,rfl,q4⟩|⟨q3,q4⟩⟩:=hst
  case inr=>
   have hd:tX d=t d:=hlook d (by simp only[pA,hg,q1,al_List_mem_append];exact .inr (by simp));rw[nG (ev':=evA C tX) o.op λ x hx=>(hev x hx).symm]at q4;obtain⟨h2,e1,e2⟩:=vO o.op (λ x _=>rZ M x) hag q4;exact⟨h2,⟨d,g,y,q1,by rw[hd];exact q2,.inr ⟨q3,e1⟩⟩,e2⟩
  have hd:tX d=t d:=hlook d (by simp only[pA,hg,q1,al_List_mem_append];exact .inr (by simp));have hcs:condsO tX o.op=condsO t o.op:=Cq _ hops;refine⟨hX,⟨d,g,y,q1,by rw[hd];exact q2,.inl ⟨q3,rfl,?_⟩⟩,Ru.refl⟩;rcases q4 with ⟨c1,c2⟩|⟨c,c1,c2,c3⟩
  ·refine .inl ⟨by rw[hcs];exact c1,λ hg'=>?_⟩;obtain⟨f1,f2⟩:=c2 hg';rw[nG (ev':=evA C tX) o.op λ x hx=>(hev x hx).symm]at f1 f2;obtain⟨h2,e1,_⟩:=vO o.op (λ x _=>rZ M x) hag f2;have T:=It (C:=C) (s:=s) o.op (λ x _=>rZ M x) hag;have e2:opA C (evA C tX) hX s o.op=opA C (evA C tX) h' s o.op:=by
    cases hr:opA C (evA C tX) h' s o.op<;>rw[hr]at T f1<;>first|exact T|(simp[isFx]at f1)
   rw[e2]at e1⊢;refine⟨f1,?_⟩;cases hr:opA C (evA C tX) h' s o.op<;>rw[hr]at e1 f1<;>first|(simp[isFx]at f1;done)|skip
   ·obtain⟨rfl,rfl⟩:=e1;exact⟨rfl,rfl⟩
   ·obtain⟨p,rfl,rfl⟩:=e1;exact⟨p,rfl,rfl⟩
   ·obtain⟨row,p1,p2,p3,rfl⟩:=e1;exact⟨row,p1,p2,p3,rfl⟩
   ·obtain⟨l,p1,p2,p3,rfl⟩:=e1;exact⟨l,p1,p2,p3,rfl⟩
   ·obtain⟨p1,p2,p3,p4,rfl⟩:=e1;exact⟨p1,p2,p3,p4,rfl⟩
  ·refine .inr ⟨c,by rw[hcs];exact c1,c2,λ hg'=>?_⟩;obtain⟨f1,f2⟩:=c3 hg';rw[nG (ev':=evS C tX o.op) o.op λ x hx=>(Ir o.op hev x hx).symm]at f1 f2;have hsr:∀ x∈o.op.operands,Rep S w β (evS C tX o.op x) (a.eval x):=Kc M o.op (hcs.trans c1) (c2 hg');obtain⟨h2,e1,_⟩:=vO o.op hsr hag f2;have T:=It (C:=C) (s:=s) o.op hsr hag;have e2:opA C (evS C tX o.op) hX s o.op=opA C (evS C tX o.op) h' s o.op:=by
    cases hr:opA C (evS C tX o.op) h' s o.op<;>rw[hr]at T f1<;>first|exact T|(simp[isFx]at f1)
   rw[e2]at e1⊢;refine⟨f1,?_⟩;cases hr:opA C (evS C tX o.op) h' s o.op<;>rw[hr]at e1 f1<;>first|(simp[isFx]at f1;done)|skip
   ·obtain⟨rfl,rfl⟩:=e1;exact⟨rfl,rfl⟩
   ·obtain⟨p,rfl,rfl⟩:=e1;exact⟨p,rfl,rfl⟩
   ·obtain⟨row,p1,p2,p3,rfl⟩:=e1;exact⟨row,p1,p2,p3,rfl⟩
   ·obtain⟨l,p1,p2,p3,rfl⟩:=e1;exact⟨l,p1,p2,p3,rfl⟩
   ·obtain⟨p1,p2,p3,p4,rfl⟩:=e1;exact⟨p1,p2,p3,p4,rfl⟩
end
end Go.Proofs.YtlhofpglndhfaaaGreatDoor
namespace Go.Proofs.YtlhofpglndhfaaaGreatDoor
open Go.RowKit
def lastW(W:Nat→Bool):Nat→Nat
 |0=>0
 |k+1=>match W k with|true=>k+1|false=>lastW W k
theorem Dd(W:Nat→Bool):∀ k,lastW W k≤k
 |0=>aC _
 |k+1=>by simp only[lastW];split<;>have:=Dd W k<;>omega
theorem xI{W:Nat→Bool}:∀ (k i:Nat),i<k→W i=true→i+1≤lastW W k
 |0,i,h,_=>by omega
 | k+1,i,h,hi=>by
  simp only[lastW];split
  ·omega
  ·rename_i hk;by_cases he:i=k
   ·subst he;rw[hi]at hk;cases hk
   ·exact xI k i (by omega) hi
theorem lastW_mem{W:Nat→Bool}:∀ (k:Nat),lastW W k=0∨W (lastW W k - 1)=true
 |0=>.inl rfl
 |k+1=>by
  simp only[lastW];split
  ·rename_i hk;exact .inr (by simpa using hk)
  ·exact lastW_mem k
theorem sI{W:Nat→Bool}:∀ (k p:Nat),(∀ i,i<k→W i=true→i<p)→lastW W k≤p
 |0,_,_=>aE _
 |k+1,p,h=>by
  simp only[lastW];split
  ·rename_i hk;exact h k (by omega) hk
  ·exact sI k p λ i hi=>h i (by omega)
def cntX(X:Nat→Bool):Nat→Nat
 |0=>0
 |k+1=>(match X k with|true=>0|false=>1)+cntX X k
theorem Dx{X:Nat→Bool}:∀ k,cntX X k=0→∀ i,i<k→X i=true
 |0,_,i,hi=>by omega
 |k+1,h,i,hi=>by
  simp only[cntX]at h;by_cases he:i=k
  ·subst he;cases hx:X i<;>rw[hx]at h<;>first|rfl|(simp at h;done)|(simp at h;omega)
  ·exact Dx k (by omega) i (by omega)
theorem Fp{X Y:Nat→Bool}:∀ k,(∀ i,i<k→X i=Y i)→cntX X k=cntX Y k
 |0,_=>rfl
 |k+1,h=>by simp only[cntX,h k (by omega),Fp k λ i hi=>h i (by omega)]
theorem Gz{X Y:Nat→Bool}{j:Nat}(hj:X j=false)(hy:Y j=true)(ho:∀ i,i≠j→Y i=X i):∀ k,j<k→cntX Y k+1=cntX X k
 |0,h=>by omega
 | k+1,h=>by
  simp only[cntX];by_cases he:j=k
  ·subst he;rw[hj,hy,Fp (X:=Y) (Y:=X) j λ i hi=>ho i (by omega)];simp;omega
  ·have:=Gz hj hy ho k (by omega);rw[ho k (λ e=>he e.symm)];omega
section
variable {C:Ctx}{V:Inv C.fr}{R:FuncId→List AV→AV→Prop}
theorem NZ{l:List Oper}(D:DrawOk l){i j:Nat}{oj:Oper}(hj:l[j]?=some oj)(hi:((xN l []).getD j 0).testBit i=true):i<j:=
 xH (X:=(· <j)) (λ k ok hk hok e he hb=>rU (D.back k ok hok e he hb) hk) hj (λ e he hb=>D.back j oj hj e he hb) hi
theorem Kb{l:List Oper}(D:DrawOk l){X:Nat→Prop}(hX:WQ l X){i j:Nat}{oi oj:Oper}(hi:l[i]?=some oi)(hj:l[j]?=some oj)(hp:∀ e∈oj.after.toList,Region.binds .any e=true→X e.on)(hnj: ¬ X j)(ho:IE (xN l []) i j=true):X i↔i<j:=by
 simp only[IE,dF]at ho;rcases ho with ho|ho
 ·exact⟨λ _=>NZ D hj ho,λ _=>xH hX hj hp ho⟩
 ·have hlt:=NZ D hi ho;refine⟨λ hXi=>absurd (xH hX hi (λ e he hb=>hX i oi hXi hi e he hb) ho) hnj,λ h=>by omega⟩
theorem AC{hh:Nat→AH}{b j:Nat}:∀ k,j≤k→(∀ i,j≤i→i<k→hh (i+1) b=hh i b)→hh k b=hh j b
 |0,hj,_=>by rw[show j=0 by omega]
 | k+1,hj,h=>by
  by_cases he:j=k+1
  ·rw[he]
  ·rw[h k (by omega) (by omega)];exact AC k (by omega) λ i h1 h2=>h i h1 (by omega)
def wrt(l:List Oper)(k:Nat):Bool:=match l[k]? with|some o=>lM o.op|none=>false
theorem vL:∀ (op:Op),lM op=true→pW op=true:=by
 intro op h;cases op<;>first|rfl|(simp[lM]at h)
structure Chn(C:Ctx)(l:List Oper)(n:Nat)(h:AH)(t:Nat→AV)(xs:Nat→AV)(hh:Nat→AH)(tt:Nat→Nat→AV):Prop where
 D:DrawOk l
 step:∀ k o,l[k]?=some o→StepR C (bX C) l o (n+k) (tt k) (hh k) (xs k) (hh (k+1))
 next:∀ k o,l[k]?=some o→tt (k+1)=yU (tt k) o.dst (xs k)
 t0:tt 0=t
 h0:hh 0=h
 new:∀ s,n≤s→h s=none
 nH:NoH C
variable {l:List Oper}{n:Nat}{h:AH}{t xs:Nat→AV}{hh:Nat→AH}{tt:Nat→Nat→AV}
theorem Chn.quiet(Z:Chn C l n h t xs hh tt){i:Nat}(hi:i<l.length)(hw:wrt l i=false){b:Nat}(hb:b≠n+i):hh (i+1) b=hh i b:=by
 refine Classical.byContradiction λ hn=>?_;have ho:l[i]?=some l[i]:=aA hi;have:=(zT (Z.step i _ ho) b hb hn).1;simp only[wrt,ho,this]at hw;cases hw
theorem Chn.live(Z:Chn C l n h t xs hh tt){i:Nat}(hi:i<l.length){b:Nat}(hb:b≠n+i)(hn:hh i b=none):hh (i+1) b=none:=by
 have ho:l[i]?=some l[i]:=aA hi;by_cases he:hh (i+1) b=hh i b
 ·rw[he,hn]
 ·exact absurd hn (zT (Z.step i _ ho) b hb he).2
theorem Chn.fresh(Z:Chn C l n h t xs hh tt){b:Nat}(hb:n≤b):∀ k,k≤l.length→n+k≤b→hh k b=none
 |0,_,_=>by rw[Z.h0];exact Z.new b hb
 |k+1,hk,hkb=>Z.live (by omega) (by omega) (Z.fresh hb k (by omega) (by omega))
structure DInv(C:Ctx)(V:Inv C.fr)(l:List Oper)(n:Nat)(h:AH)(t xs:Nat→AV)(hh:Nat→AH)(w0:World)(S0:Nat→Prop)(N:Nat)(X:Nat→Bool)(a:Act)(w:World):Prop where
 down:WQ l (X · =true)
 bnd:∀ i,X i=true→i<l.length
 H3:∀ k j,X k=true→wrt l k=true→X j=false→j<l.length→hh (k+1) (n+j)=hh k (n+j)
 sim:∃ S β hX,SimD C V w0 S0 N (λ s=>s<n∨∃ i,X i=true∧s=n+i) (valX X l xs t l.length) hX a w S β∧
  (∀ s,s<n→hX s=hh (lastW (λ i=>X i&&wrt l i) l.length) s)∧
  (∀ i,X i=true→hX (n+i)=hh (max (i+1) (lastW (λ i=>X i&&wrt l i) l.length)) (n+i))
theorem Oa(hC : CtxOk C)(Z:Chn C l n h t xs hh tt){ops:Array Oper}(hall:ops.toList=l){w0:World}{S0:Nat→Prop}{N:Nat}(hb:uJ N l=true){X Y:Nat→Bool}{a:Act}{w:World}(I:DInv C V l n h t xs hh w0 S0 N X a w){j:Nat}{o:Oper}(hj:l[j]?=some o)
    (hp:∀ e∈o.after.toList,Region.binds .any e=true→X e.on=true) (hnj:X j=false) (hYj:Y j=true) (hY:∀ i,i≠j→Y i=X i) {K:Act→World→Prop} {Q:Exit→Act→World→Prop} (hK:∀ a' w',DInv C V l n h t xs hh w0 S0 N Y a' w'→K a' w'):
    if Region.wanted o (yielded ops a.tmps)then o.wp C.P a w K Q∨(o.asks C.P a w∧LetsOut Q)else K (a.put o.dst undef) w:=by
  obtain⟨S,β,hX,M,H1,H2⟩:=I.sim;have hjl:j<l.length:=(Dq.1 hj).1;have hnj': ¬ (X j=true):=by rw[hnj];simp
  have hs:β (n+j)=none:=by
    cases hq:β (n+j)with
    |none=>rfl
    | some loc=>
      rcases M.dom _ _ hq with h|⟨i,hi,he⟩
      · omega
      · have:i=j:=by omega
        subst this;rw[hnj]at hi;cases hi
  have wiff:pW o.op=true→∀ k,k<l.length→k≠j→wrt l k=true→(X k=true↔k<j):=by
    intro hr k hk hne hw;have hok:l[k]?=some l[k]:=aA hk;have hwk:lM l[k].op=true:=by simpa only[wrt,hok]using hw
    exact Kb Z.D I.down hok hj hp hnj' (Z.D.mem k j _ o hok hj hne hwk hr)
  generalize hP:lastW (λ i=>X i&&wrt l i) l.length=p at H1 H2;have hple:p≤l.length:=by rw[←hP];exact Dd _ _
  have pj:pW o.op=true→p≤j:=by
    intro hr;rw[←hP];refine sI _ _ λ i hi hw=>?_;simp only[aI]at hw;by_cases he:i=j
    · subst he;rw[hnj]at hw;cases hw.1
    · exact (wiff hr i hi he hw.2).1 hw.1
  have pq:pW o.op=true→∀ i,p≤i→i<j→wrt l i=false:=by
    intro hr i h1 h2
    cases hw:wrt l i with
    |false=>rfl
    | true=>
      have hXi:=(wiff hr i (by omega) (by omega) hw).2 h2;have:=xI (W:=λ i=>X i&&wrt l i) l.length i (by omega) (by simp[hXi,hw]);rw[hP]at this;omega
  have old:pW o.op=true→∀ s,s<n→hX s=hh j s:=by
    intro hr s hsn;rw[H1 s hsn];exact (AC j (pj hr) λ i h1 h2=>Z.quiet (by omega) (pq hr i h1 h2) (by omega)).symm
  have newer:pW o.op=true→∀ i,X i=true→i<j→hX (n+i)=hh j (n+i):=by
    intro hr i hi hij;rw[H2 i hi];exact (AC j (by have:=pj hr;omega) λ k h1 h2=>Z.quiet (by omega) (pq hr k (by omega) h2) (by omega)).symm
  have hag:pW o.op=true→As β (hh j) hX:=by
    intro hr b loc hbl hne;rcases M.dom _ _ hbl with hbn|⟨i,hi,rfl⟩
    · exact old hr b hbn
    · rcases al_Nat_lt_or_ge i j with hij|hij
      · exact newer hr i hi hij
      · exact absurd (Z.fresh (by omega) j (by omega) (by omega)) hne
  have slot:∀ tmp∈pA l o,valX X l xs t l.length tmp=tt j tmp:=by
    intro tmp htmp;rw[Dw Z.t0 (λ k o hk=>Z.next k o hk) j (by omega), ←TQ tmp (by omega)];refine tG _ λ i oi hi hoi hd=>?_;by_cases he:i=j
    · subst he;rw[hnj];simp
    · have:=Kb Z.D I.down hoi hj hp hnj' (Z.D.slot i j oi o tmp hoi hj he hd htmp)
      by_cases hlt:i<j
      · rw[this.2 hlt];simp[hlt]
      · have hx: ¬ (X i=true):=λ h=>hlt (this.1 h)
        simp only[hlt,decide_false];simpa using hx
  obtain⟨h2,st,hrel⟩:=Rt M (Z.step j o hj) slot hag;refine wK hC M hs hall st (vP hb (aB hj)) (λ i pol d _ hd=>Bc hb i d hd) λ a' w' S' β' M'=>hK a' w' ?_;have XY:∀ i,Y i=true↔X i=true∨i=j:=λ i=>by
    by_cases he:i=j
    · subst he;simp[hYj]
    · rw[hY i he];simp[he]
  have hXnone:hX (n+j)=none:=by
    cases hq:hX (n+j)with
    |none=>rfl
    | some blk=>
      obtain⟨loc,_,_,_,hl,_⟩:=M.H.own _ _ hq;rw[hs]at hl;cases hl
  have hjnone:hh j (n+j)=none:=Z.fresh (by omega) j (by omega) (by omega);have h2new:h2 (n+j)=hh (j+1) (n+j):=hrel.1 _ (by rw[hXnone,hjnone]);refine⟨λ k ok hk hok e he hbd=>?_,λ i hi=>?_,λ k i hk hw hi hil=>?_,S',β',h2,?_,?_,?_⟩
  · rcases (XY k).1 hk with hk|rfl
    · exact (XY _).2 (.inl (I.down k ok hk hok e he hbd))
    · rw[hj]at hok;injection hok with hok;subst hok
      exact (XY _).2 (.inl (hp e he hbd))
  · rcases (XY i).1 hi with hi|rfl
    · exact I.bnd i hi
    · exact hjl
  · have hXi:X i=false:=by
      cases hx:X i with
      |false=>rfl
      |true=>rw[(XY i).2 (.inl hx)]at hi;cases hi
    have hij:i≠j:=λ e=>by subst e;rw[hYj]at hi;cases hi
    rcases (XY k).1 hk with hk|rfl
    · exact I.H3 k i hk hw hXi hil
    · refine Classical.byContradiction λ hn=>?_
      obtain⟨_,_,loc,hl⟩:=hrel.2 (n+i) (by omega) (.inl hn);rcases M.dom _ _ hl with h|⟨i',hi',he⟩
      · omega
      · have:i'=i:=by omega
        subst this;rw[hXi]at hi';cases hi'
  ·
    have hval:yU (valX X l xs t l.length) o.dst (xs j)=valX Y l xs t l.length:=by
      funext tmp;by_cases hd:o.dst=some tmp
      · rw [hd,yR]
        have hlook:tmp∈pA l o:=by simp[pA,hd]
        rw[Dc (X:=Y) (j:=j+1) l.length (by omega) λ i oi h1 h2 hoi hdi=>?_]
        · simp only[valX,hj,hYj,hd,yR]
        · have he:i≠j:=by omega
          have:=Kb Z.D I.down hoi hj hp hnj' (Z.D.slot i j oi o tmp hoi hj he hdi hlook)
          cases hx:Y i with
          |false=>rfl
          | true=>
            rcases (XY i).1 hx with h|h
            · have:=this.1 h;omega
            · omega
      · rw[wI hd]
        refine tG _ λ i oi hi hoi hdi=>?_;by_cases he:i=j
        · subst he;rw[hj]at hoi;injection hoi with hoi;subst hoi;exact absurd hdi hd
        · exact (hY i he).symm
    rw[←hval];refine⟨M'.T,M'.H,M'.B,λ y loc hy=>?_,M'.df,M'.sz,M'.G,M'.nw,M'.iv⟩;rcases M'.dom y loc hy with (h|⟨i,hi,he⟩)|h
    · exact .inl h
    · exact .inr ⟨i,(XY i).2 (.inl hi),he⟩
    · exact .inr ⟨j,hYj,h⟩
  all_goals
    cases hw:wrt l j with
    | true =>
      have hwo:lM o.op=true:=by simpa only[wrt,hj]using hw
      have hr:=vL _ hwo;have hp':lastW (λ i=>Y i&&wrt l i) l.length=j+1:=by
        refine Nat.le_antisymm (sI _ _ λ i hi hwi=>?_) (xI _ j hjl (by simp[hYj,hw]));simp only[aI]at hwi;rcases (XY i).1 hwi.1 with h|h
        · have hne:i≠j:=λ e=>by subst e;rw[hnj]at h;cases h
          have:=(wiff hr i hi hne hwi.2).1 h;omega
        · omega
      rw[hp']
      first
        |(intro s hsn;exact hrel.1 s (old hr s hsn))
        | (intro i hi
           rcases (XY i).1 hi with hi|rfl
           · rcases al_Nat_lt_or_ge i j with hij|hij
             · rw[hrel.1 _ (newer hr i hi hij),Nat.max_eq_right (by omega)]
             · have hne:i≠j:=λ e=>by subst e;rw[hnj]at hi;cases hi
               have hpj:=pj hr;rw[Nat.max_eq_left (by omega)];have hfr:hh j (n+i)=none:=Z.fresh (by omega) j (by omega) (by omega);have h3:h2 (n+i)=hX (n+i):=Classical.byContradiction λ hn=>(hrel.2 (n+i) (by omega) (.inr hn)).2.1 hfr;rw[h3,H2 i hi,Nat.max_eq_left (by omega)]
           · rw[h2new,Nat.max_self])
    | false=>
      have hwo:lM o.op=false:=by simpa only[wrt,hj]using hw
      have hp':lastW (λ i=>Y i&&wrt l i) l.length=p:=by
        rw[←hP];have:(λ i=>Y i&&wrt l i)=λ i=>X i&&wrt l i:=by
          funext i;by_cases he:i=j
          · subst he;simp[hw]
          · rw[hY i he]
        rw[this]
      rw[hp'];have same:∀ b,b≠n+j→h2 b=hX b:=λ b hbj=>Classical.byContradiction λ hn=>by
        have:=(hrel.2 b hbj (.inr hn)).1;rw[hwo]at this;cases this
      first
        |(intro s hsn;rw[same s (by omega)];exact H1 s hsn)
        | (intro i hi
           rcases (XY i).1 hi with hi|rfl
           · have hne:i≠j:=λ e=>by subst e;rw[hnj]at hi;cases hi
             rw[same _ (by omega)];exact H2 i hi
           · rw [h2new]
             refine (AC _ (Nat.le_max_left _ _) λ k h1 h2'=>?_).symm;have hkp:k<p:=by omega
             cases hwk:wrt l k with
             |false=>exact Z.quiet (by omega) hwk (by omega)
             | true=>
               refine I.H3 k i ?_ hwk hnj hjl;rcases lastW_mem (W:=λ i=>X i&&wrt l i) l.length with h0|h0
               · rw[hP]at h0;omega
               · rw[hP]at h0
                 simp only[aI]at h0;by_cases hke:k=p - 1
                 · rw[hke];exact h0.1
                 · have hkl:k<l.length:=by omega
                   have hpl:p - 1<l.length:=by omega
                   have hok:l[k]?=some l[k]:=aA hkl;have hop:l[p - 1]?=some l[p - 1]:=aA hpl;have w1:lM l[k].op=true:=by simpa only[wrt,hok]using hwk
                   have w2:lM l[p - 1].op=true:=by have:=h0.2;simpa only[wrt,hop]using this
                   have ho:=Z.D.mem k (p - 1) _ _ hok hop hke w1 (vL _ w2);simp only[IE,dF]at ho;rcases ho with ho|ho
                   · exact xH I.down hop (λ e he hbd=>I.down _ _ h0.1 hop e he hbd) ho
                   · have:=NZ Z.D hok ho;omega)
theorem SimD.drawn{w0:World}{S0:Nat→Prop}{N:Nat}{D:Nat→Prop}{a:Act}{w:World}{S:Nat→Prop}{β:Bt}(M:SimD C V w0 S0 N D t h a w S β)(k:Nat):SimD C V w0 S0 N D t h a {w with drawn:=k} S β:=by
 have hE:Evo S w {w with drawn:=k}:=⟨λ _ _=>rfl,λ b cs e fr hb=>⟨cs,hb,rfl⟩⟩;refine⟨λ i=>(M.T i).mono (λ _ h=>h) hE (Lv.refl _),⟨λ s blk hs=>?_,M.H.inj,M.H.lt,M.H.big⟩,⟨M.B.os,M.B.tape,M.B.output,M.B.size,M.B.block⟩,M.dom,M.df,M.sz,λ g cells hg=>(M.G g cells hg).mono (λ _ h=>h) hE (Lv.refl _),M.nw,V.heap M.iv rfl⟩;obtain⟨l,cs,e,fr,k1,k2,k3,k4,k5,k6⟩:=M.H.own s blk hs;exact⟨l,cs,e,fr,k1,k2,k3,k4,k5,k6.mono (λ _ h=>h) hE (Lv.refl _)⟩
theorem Fq(hC:CtxOk C)(nH:NoH C){w0:World}{S0:Nat→Prop}{N:Nat}{ops:Array Oper}(hb:uJ N ops.toList=true)(hd:IF ops.toList=true){K:ASt→Prop}(hr:kX C (bX C) ops.toList ops.toList 0 ⟨t,h,n⟩ K)
  {a:Act} {w:World} {S:Nat→Prop} {β:Bt} (M:SimD C V w0 S0 N (· <n) t h a w S β) {Q:Exit→Act→World→Prop} (hQ:∀ st a' w' S' β',K st→SimD C V w0 S0 N (· <st.n) st.t st.h a' w' S' β'→Q .normal a' w'):
  wpAny C.P .any ops Q ops.size (Array.replicate ops.size false) a {w with drawn:=w.drawn+1}:=by
 obtain⟨xs,hh,tt,e1,e2,e3,e4⟩:=Gy nH ops.toList 0 t h hr;simp only[bL]at e3 e4;have hnew:∀ s,n≤s→h s=none:=λ s hs=>by
  cases hq:h s with
  |none=>rfl
  |some blk=>
   obtain⟨l,_,_,_,hl,_⟩:=M.H.own s blk hq;have:s<n:=M.dom s l hl;omega
 have Z:Chn C ops.toList n h t xs hh tt:=⟨Ka hd,λ k o hk=>(e3 k o hk).1,λ k o hk=>(e3 k o hk).2,e1,e2,hnew,nH⟩;have hm:ops.toList.length=ops.size:=by simp
 have fin:∀ (X:Nat→Bool) (a:Act) (w:World),(∀ i,i<ops.size→X i=true)→DInv C V ops.toList n h t xs hh w0 S0 N X a w→Q .normal a w:=by
  intro X a w hall I;obtain⟨S,β,hX,M,H1,H2⟩:=I.sim;have hall':∀ i,i<ops.toList.length→X i=true:=λ i hi=>hall i (by rw[←hm];exact hi);refine hQ _ a w S β e4 ?_;generalize hP:lastW (λ i=>X i&&wrt ops.toList i) ops.toList.length=p at H1 H2;have hple:p≤ops.toList.length:=by rw[←hP];exact Dd _ _
  have quiet:∀ i,p≤i→i<ops.toList.length→wrt ops.toList i=false:=λ i h1 h2=>by
   cases hw:wrt ops.toList i with
   |false=>rfl
   |true=>
    have:=xI (W:=λ i=>X i&&wrt ops.toList i) ops.toList.length i h2 (by simp[hall' i h2,hw]);rw[hP]at this;omega
  have hT:valX X ops.toList xs t ops.toList.length=tt ops.toList.length:=by
   rw[Dw Z.t0 (λ k o hk=>Z.next k o hk) _ (aC _)];funext tmp;exact tG _ λ i o hi _ _=>hall' i hi
  have hH:hX=hh ops.toList.length:=by
   funext b;rcases al_Nat_lt_or_ge b n with hbn|hbn
   ·rw[H1 b hbn];exact (AC _ hple λ i h1 h2=>Z.quiet h2 (quiet i h1 h2) (by omega)).symm
   ·rcases al_Nat_lt_or_ge b (n+ops.toList.length)with hb2|hb2
    ·obtain⟨i,rfl⟩:∃ i,b=n+i:=⟨b - n,by omega⟩;have hi:i<ops.toList.length:=by omega
     rw[H2 i (hall' i hi)];exact (AC _ (by omega) λ k h1 h2=>Z.quiet h2 (quiet k (by omega) h2) (by omega)).symm
    ·rw[Z.fresh hbn _ (aC _) hb2]
     cases hq:hX b with
     |none=>rfl
     |some blk=>
      obtain⟨l,_,_,_,hl,_⟩:=M.H.own b blk hq;rcases M.dom b l hl with h|⟨i,hi,he⟩
      ·omega
      ·have:=I.bnd i hi;omega
  rw[←hT, ←hH];refine⟨M.T,M.H,M.B,λ x l hx=>?_,M.df,M.sz,M.G,M.nw,M.iv⟩;show x<n+ops.toList.length;rcases M.dom x l hx with h|⟨i,hi,he⟩
  ·omega
  ·have:=I.bnd i hi;omega
 have done:∀ (listed:Array Bool),listed.size=ops.size→Region.ready .any ops listed=[]→∀ i,i<ops.size→listed.getD i false=true:=by
  intro listed hsz hnil i hi
  induction i using Nat.strongRecOn with
  | _ i ih=>
   cases hq:listed.getD i false with
   |true=>rfl
   | false=>
    exfalso;have hmem:i∈Region.ready .any ops listed:=by
     refine mem_ready.2 ⟨?_,ops[i],aS hi,λ e he hbd=>?_⟩
     ·have:i<listed.size:=by omega
      rw[aJ,aS this]at hq⊢;exact hq
     ·have:=Z.D.back i ops[i] (by rw[bG,aS hi]) e (by simpa using he) hbd;exact ih e.on this (by omega)
    rw[hnil]at hmem;cases hmem
 have main:∀ (fuel:Nat) (listed:Array Bool) (a:Act) (w:World),listed.size=ops.size→cntX (λ i=>listed.getD i false) ops.size=fuel→DInv C V ops.toList n h t xs hh w0 S0 N (λ i=>listed.getD i false) a w→wpAny C.P .any ops Q fuel listed a w:=by
  intro fuel
  induction fuel with
  | zero=>
   intro listed a w hsz hc I;have hall:=Dx _ hc;refine⟨?_,fin _ a w hall I⟩
   cases hr:Region.ready .any ops listed with
   |nil=>rfl
   |cons i rest=>
    exfalso;have hmem:i∈Region.ready .any ops listed:=by rw[hr];exact bD
    obtain⟨h1,o,ho,_⟩:=mem_ready.1 hmem;have hi:i<ops.size:=(CZ.1 ho).1;have h2:=hall i hi;have:i<listed.size:=by omega
    rw[aJ,aS this]at h1 h2;simp only[gF]at h1 h2
    rw[h1]at h2;cases h2
  | succ fuel ih=>
   intro listed a w hsz hc I;refine⟨λ hnil=>fin _ a w (done listed hsz hnil) I,λ j hj=>?_⟩;obtain⟨h1,o,ho,hpre⟩:=mem_ready.1 hj;have hjl:j<ops.size:=(CZ.1 ho).1;have hjs:j<listed.size:=by omega
   have hoj:ops.toList[j]?=some o:=by rw[bG];exact ho
   have hXj:listed.getD j false=false:=by
    rw[aJ,aS hjs]at h1⊢;exact h1
   have hYj:(listed.setIfInBounds j true).getD j false=true:=by
    rw[aJ,cX hjs];rfl
   have hY:∀ i,i≠j→(listed.setIfInBounds j true).getD i false=listed.getD i false:=λ i hi=>by
    rw[aJ,aJ,cW (Ne.symm hi)]
   unfold wpOp;simp only[ho];refine Oa (X:=λ i=>listed.getD i false) (Y:=λ i=>(listed.setIfInBounds j true).getD i false) hC Z rfl hb I hoj (λ e he hbd=>hpre e (by simpa using he) hbd) hXj hYj hY λ a' w' I'=>?_;refine ih _ a' w' (by simp[hsz]) ?_ I';have:=Gz (X:=λ i=>listed.getD i false) (Y:=λ i=>(listed.setIfInBounds j true).getD i false) hXj hYj hY ops.size hjl;omega
 have hfalse:∀ i,(Array.replicate ops.size false).getD i false=false:=λ i=>by
  rw[aJ];by_cases hi:i<ops.size
  ·simp[hi]
  ·rw[iD (by simpa using hi)];rfl
 have hXf:(λ i=>(Array.replicate ops.size false).getD i false)=λ _=>false:=funext hfalse;have hcnt:∀ k,cntX (λ i=>(Array.replicate ops.size false).getD i false) k=k:=by
  rw[hXf];intro k
  induction k with
  |zero=>rfl
  |succ k ih=>simp only[cntX,ih];omega
 refine main ops.size _ a _ (by simp) (hcnt _) ⟨λ j oj hj=>?_,λ i hi=>?_,λ k j hk=>?_,S,β,h,?_,λ s hs=>?_,λ i hi=>?_⟩
 ·have:=(hfalse j).symm.trans hj;cases this
 ·have:=(hfalse i).symm.trans hi;cases this
 ·have:=(hfalse k).symm.trans hk;cases this
 ·have hv:valX (λ i=>(Array.replicate ops.size false).getD i false) ops.toList xs t ops.toList.length=t:=by
   have:∀ k,valX (λ i=>(Array.replicate ops.size false).getD i false) ops.toList xs t k=t:=by
    intro k
    induction k with
    |zero=>rfl
    |succ k ih=>
     rw[hXf]at ih⊢;simp only[valX];split<;>exact ih
   exact this _
  rw[hv];have M':=M.drawn (w.drawn+1);exact⟨M'.T,M'.H,M'.B,λ x l hx=>.inl (M'.dom x l hx),M'.df,M'.sz,M'.G,M'.nw,M'.iv⟩
 ·have:lastW (λ i=>(Array.replicate ops.size false).getD i false&&wrt ops.toList i) ops.toList.length=0:=by
   refine Nat.le_zero.1 (sI _ _ λ i _ hw=>?_);have h1:=hfalse i;rw[h1]at hw;simp at hw
  rw[this,e2]
 ·have:=(hfalse i).symm.trans hi;cases this
end
def WP(l:List Nat)(β:Bt):Bt:=λ s=>if s∈l then β s else none
theorem BV{α:Type}{f g:Nat→List α}:∀ (l:List Nat),(∀ i∈l,f i=g i)→l.flatMap f=l.flatMap g
 |[],_=>rfl
 |x::l,h=>by rw[gR,gR,h x bD,BV l λ i hi=>h i (bF _ hi)]
theorem wG:∀ (cs:List AV) (i:Nat) (a:AV) (s:Nat),cs[i]?=some a→s∈jD a→s∈yI cs
 |[],i,a,s,h,_=>by simp at h
 |c::cs,0,a,s,h,hs=>by simp at h;subst h;simp[yI,hs]
 |c::cs,i+1,a,s,h,hs=>by simp only[yI,al_List_mem_append];exact .inr (wG cs i a s (by simpa using h) hs)
theorem Rp{S:Nat→Prop}{w:World}{β:Bt}{a:AV}{x:Value}(h:Rep S w β a x):∀ {β':Bt},(∀ s∈jD a,∀ l,β s=some l→β' s=some l)→Rep S w β' a x:=by
 induction h with
 |v x=>intro β' _;exact .v x
 |agg cs vs hl h1 h ih=>intro β' hb;exact .agg cs vs hl h1 λ i a u h1 h2=>ih i a u h1 h2 λ s hs=>hb s (wG cs i a s h1 hs)
 |tup cs vs hl h ih=>intro β' hb;exact .tup cs vs hl λ i a u h1 h2=>ih i a u h1 h2 λ s hs=>hb s (wG cs i a s h1 hs)
 |sl rs rows clip A c b o u hc hm hcl hrs hA hw h1 hr ih=>intro β' _;exact .sl rs rows clip A c b o u hc hm hcl hrs hA hw h1 hr
 |dp rs col row b o u hrs hb hw h1 hr ih=>intro β' _;exact .dp rs col row b o u hrs hb hw h1 hr
 |ptr s col l hl=>intro β' hb;exact .ptr s col l (hb s (by simp[jD]) _ hl)
 |ptr2 s row col l hl=>intro β' hb;exact .ptr2 s row col l (hb s (by simp[jD]) _ hl)
 |osl s lo len clip l A c hl hc hm hcl hA cs e fr hb room=>intro β' hβ;exact .osl s lo len clip l A c (hβ s (by simp[jD]) _ hl) hc hm hcl hA cs e fr hb room
 |clo f first caps vs us hl h hl' h' ih ih'=>intro β' hb;exact .clo f first caps vs us hl (λ i a u h1 h2=>ih i a u h1 h2 λ s hs=>hb s (by simp only[jD,al_List_mem_append];exact .inl (wG _ i a s h1 hs))) hl' λ i a u h1 h2=>ih' i a u h1 h2 λ s hs=>hb s (by simp only[jD,al_List_mem_append];exact .inr (wG _ i a s h1 hs))
 |optT g a x hg h ih=>intro β' hb;exact .optT g a x hg (ih λ s hs=>hb s (by simpa [jD]using hs))
 |optF g a hg=>intro β' _;exact .optF g a hg
 |any x=>intro β' _;exact .any x
theorem NT{S:Nat→Prop}{w:World}{β:Bt}{l:List Nat}{a:AV}{x:Value}(h:Rep S w β a x)(hl:∀ s∈jD a,s∈l):Rep S w (WP l β) a x:=
 Rp h λ s hs loc hb=>by show (if s∈l then β s else none)=some loc;rw[if_pos (hl s hs)];exact hb
theorem Dt:∀ (l:List Value) (s:Nat),s ∉ yI (l.map Xg)
 |[],s=>by simp[yI]
 |v::l,s=>by
  simp only[jF,yI,al_List_mem_append,not_or];refine⟨?_,Dt l s⟩;unfold Xg;split<;>simp[jD]
theorem ME(v:Value)(s:Nat):s ∉ jD (NM v):=by
 unfold NM;split
 ·simp[jD]
 ·split
  ·simp only[jD];exact Dt _ s
  ·simp[jD]
 ·simp[jD]
theorem NU{C:Ctx}{t:Nat→AV}{x:Operand}{s:Nat}(h:s∈jD (evA C t x)):∃ i,x=.tmp i∧s∈jD (t i):=by
 cases x with
 |tmp i=>exact⟨i,rfl,h⟩
 |const v=>exact absurd h (ME v s)
 |global g=>
  have h:s∈jD (match C.G g with|some cells=>.dp cells.length 0 cells|none=>.any):=h
  split at h<;>simp[jD]at h
 |func f=>simp[evA,jD,yI]at h
theorem Gw{C:Ctx}{t:Nat→AV}{o:Oper}{x:Operand}{s:Nat}(hx:x∈o.op.operands)(h:s∈jD (evA C t x)):s∈oQ t o:=by
 obtain⟨i,rfl,h⟩:=NU h;exact Ll.2 ⟨i,AZ _ i (by simpa using hx),h⟩
theorem Du{x:AV}{s:Nat}(h:s∈jD (AE x)):s∈jD x:=by
 cases x<;>first|exact h|simpa [jD,AE]using h
theorem NV{C:Ctx}{t:Nat→AV}(op:Op){x:Operand}{s:Nat}(h:s∈jD (evS C t op x)):s∈jD (evA C t x):=by
 cases op<;>first|exact Du h|skip
 case pick c a b=>
  have h:s∈jD (match Ko c x with|true=>AE (evA C t x)|false=>evA C t x):=h;split at h
  ·exact Du h
  ·exact h
section
variable {C:Ctx}{V:Inv C.fr}
theorem Rq{ev:Operand→AV}{h:AH}{s:Nat}(op:Op):(∀ p x h',opA C ev h s op=.fx p x h'→∀ b,b≠s→h' b≠h b→∃ x∈op.operands,b∈jD (ev x))∧
    (∀ rows i f,opA C ev h s op=.idxfx rows i f→∀ row h',f row=some h'→∀ b,b≠s→h' b≠h b→∃ x∈op.operands,b∈jD (ev x)):=by
  have new:∀ (blk:Option Blk) b,b≠s→upd h s blk b≠h b→False:=λ blk b hb hn=>hn (cD _ _ hb);have set:∀ (b0:Nat) (blk:Option Blk) b,upd h b0 blk b≠h b→b=b0:=λ b0 blk b hn=>Classical.byContradiction λ e=>hn (cD _ _ e);have oB:∀ (x:Option AV) p y h',okO x≠ .fx p y h':=λ x p y h' hx=>by cases x<;>simp[okO]at hx
  have oI:∀ (x:Option AV) rows i f,okO x≠ .idxfx rows i f:=λ x rows i f hx=>by cases x<;>simp[okO]at hx
  constructor
  · intro p x h' he b hb hn
    cases op<;>simp only[opA]at he
    case makeFunc fn a c=>cases fn<;>cases he
    case store t a v=>
      (repeat' split at he)<;>first|(cases he;done)|skip
      rename_i hev _ _ _ _ _;injection he with _ _ he;subst he;exact⟨a,by simp[Op.operands],by rw[hev,set _ _ _ hn];simp[jD]⟩
    case convert src dst x=>
      simp only[EP,CL]at he
      (repeat' split at he)<;>first|(cases he;done)|skip
      injection he with _ _ he;subst he;exact (new _ b hb hn).elim
    case makeSlice t l c=>
      simp only[ID]at he
      (repeat' split at he)<;>first|(cases he;done)|skip
      injection he with _ _ he;subst he;exact (new _ b hb hn).elim
    case alloc t=>
      split at he
      · injection he with _ _ he;subst he
        exact (new _ b hb hn).elim
      · cases he
    case box t x=>
      split at he
      · injection he with _ _ he;subst he
        exact (new _ b hb hn).elim
      · cases he
    case call c =>
      obtain⟨callee,args,ats⟩:=c
      cases callee with
      |value f=>simp only at he;split at he<;>cases he
      |invoke r m=>cases he
      | builtin bi=>
        simp only at he;cases bi<;>try (simp only[bI]at he;cases he;done)
        case append=>
          match hA:args.toList.map ev with
          |[]=>rw[hA]at he;simp only[bI]at he;cases he
          |[_]=>rw[hA]at he;simp only[bI]at he;cases he
          |_::_::_::_=>rw[hA]at he;simp only[bI]at he;cases he
          | [x',y']=>
            rw[hA]at he;simp only[bI]at he;have key:∀ (rx ry:Option (Nat×List (List AV))) (blk:Option Blk) (px py:Prop),blk=CM h x'→qB C s ats.toList x' rx ry blk px py h=.fx p x h'→b∈jD x':=by
              intro rx ry blk px py hbk he;unfold qB at he
              (repeat' split at he)<;>first|(cases he;done)|skip
              · injection he with _ _ he;subst he;exact (new _ b hb hn).elim
              · injection he with _ _ he;subst he;exact (new _ b hb hn).elim
              · injection he with _ _ he;subst he;exact (new _ b hb hn).elim
              · injection he with _ _ he;subst he
                rw[cD _ _ hb]at hn;rw[set _ _ _ hn];simp[jD]
            obtain⟨x1,q1,q2⟩:=rQ.1 (show x'∈args.toList.map ev by rw[hA];simp);exact⟨x1,by simp[Op.operands,Call.operands];simpa using q1,by rw[q2];exact key _ _ _ _ _ rfl he⟩
        case copy=>
          match hA:args.toList.map ev with
          |[]=>rw[hA]at he;simp only[bI]at he;cases he
          |[_]=>rw[hA]at he;simp only[bI]at he;cases he
          |_::_::_::_=>rw[hA]at he;simp only[bI]at he;cases he
          | [x',y']=>
            rw[hA]at he;simp only[bI,DE]at he
            (repeat' split at he)<;>first|(cases he;done)|skip
            injection he with _ _ he;subst he;obtain⟨x1,q1,q2⟩:=rQ.1 (show AV.osl _ _ _ _∈args.toList.map ev by rw[hA];exact bD);exact⟨x1,by simp[Op.operands,Call.operands];simpa using q1,by rw[q2,set _ _ _ hn];simp[jD]⟩
        case len=>
          match hA:args.toList.map ev with
          |[]=>rw[hA]at he;simp only[bI]at he;cases he
          |_::_::_=>rw[hA]at he;simp only[bI]at he;cases he
          | [x']=>
            rw[hA]at he
            match hT:ats.toList with
            |[]=>rw[hT]at he;simp only[bI]at he;cases he
            |_::_::_=>rw[hT]at he;simp only[bI]at he;cases he
            | [t']=>
              rw[hT]at he;simp only[bI,RL]at he
              (repeat' split at he)<;>cases he
        case min=>
          match hA:args.toList.map ev with
          |[]=>rw[hA]at he;simp only[bI]at he;cases he
          |[_]=>rw[hA]at he;simp only[bI]at he;cases he
          |_::_::_::_=>rw[hA]at he;simp only[bI]at he;cases he
          | [x',y']=>
            rw[hA]at he;simp only[bI,RM]at he
            (repeat' split at he)<;>cases he
        case max=>
          match hA:args.toList.map ev with
          |[]=>rw[hA]at he;simp only[bI]at he;cases he
          |[_]=>rw[hA]at he;simp only[bI]at he;cases he
          |_::_::_::_=>rw[hA]at he;simp only[bI]at he;cases he
          | [x',y']=>
            rw[hA]at he;simp only[bI,RN]at he
            (repeat' split at he)<;>cases he
    all_goals first
      | (simp only[GR,Bl,sJ,RO,unA,Bi,RK,GN,RJ,Bh,GO,tV,Bj,oE,yW,jB,pK,Bk,rC]at he
         (repeat' split at he)<;>first|(cases he;done)|(exact absurd he (oB _ _ _ _)))
      |((repeat' split at he)<;>first|(cases he;done)|(exact absurd he (oB _ _ _ _)))
      |(cases he;done)
  · intro rows i f he row h' hf b hb hn
    cases op<;>simp only[opA]at he
    case makeFunc fn a c=>cases fn<;>cases he
    case store t a v=>
      (repeat' split at he)<;>first|(cases he;done)|skip
      all_goals
        injection he with _ _ he;subst he;dsimp only at hf
        (repeat' split at hf)<;>first
          |(cases hf;done)
          | (injection hf with hf
             subst hf;refine⟨a,by simp[Op.operands],?_⟩;rw[set _ _ _ hn]
             simp_all[jD])
    case call c=>
      obtain⟨callee,args,ats⟩:=c
      cases callee with
      |value f=>simp only at he;split at he<;>cases he
      |invoke r m=>cases he
      | builtin bi=>
        exfalso;simp only at he;unfold bI at he;simp only[RL,RM,RN,DE,qB]at he
        (repeat' split at he)<;>cases he
    all_goals first
      | (simp only[GR,Bl,sJ,RO,unA,Bi,RK,GN,RJ,Bh,GO,EP,CL,ID,tV,Bj,oE,yW,jB,pK,Bk,rC]at he
         (repeat' split at he)<;>first|(cases he;done)|(exact absurd he (oI _ _ _ _)))
      |((repeat' split at he)<;>first|(cases he;done)|(exact absurd he (oI _ _ _ _)))
      |(cases he;done)
theorem MF{R:FuncId→List AV→AV→Prop}{all:List Oper}{o:Oper}{s:Nat}{t:Nat→AV}{h h':AH}{x:AV}(hs:StepR C R all o s t h x h'):∀ b,b≠s→h' b≠h b→b∈oQ t o:=by
 intro b hb hn;have fin:(∃ x∈o.op.operands,b∈jD (evA C t x))→b∈oQ t o:=λ⟨x,h1,h2⟩=>Gw h1 h2;unfold StepR at hs;have main:NodeR C R h (opA C (evA C t) h s o.op) x h'→b∈oQ t o:=λ hs=>by
  obtain⟨H1,H2⟩:=Rq (C:=C) (ev:=evA C t) (h:=h) (s:=s) o.op
  cases hr:opA C (evA C t) h s o.op with
  |bad=>rw[hr]at hs;exact hs.elim
  |ok y=>rw[hr]at hs;obtain⟨_,rfl⟩:=hs;exact absurd rfl hn
  |need p y=>rw[hr]at hs;obtain⟨_,_,rfl⟩:=hs;exact absurd rfl hn
  |idx rows i f=>rw[hr]at hs;obtain⟨_,_,_,_,rfl⟩:=hs;exact absurd rfl hn
  |str p rows=>rw[hr]at hs;obtain⟨_,_,_,_,rfl⟩:=hs;exact absurd rfl hn
  |call f args=>rw[hr]at hs;obtain⟨_,_,_,_,rfl⟩:=hs;exact absurd rfl hn
  |fx p y h2=>rw[hr]at hs;obtain⟨_,_,rfl⟩:=hs;exact fin (H1 p y h' hr b hb hn)
  |idxfx rows i f=>rw[hr]at hs;obtain⟨row,_,_,hf,_⟩:=hs;exact fin (H2 rows i f hr row h' hf b hb hn)
 cases hg:o.guard with
 |some q=>
  obtain⟨i,pol⟩:=q;simp only[hg]at hs;obtain⟨d,g,y,_,_,⟨_,rfl,_⟩|⟨_,hs⟩⟩:=hs
  ·exact absurd rfl hn
  ·exact main hs
 |none=>simp only[hg]at hs;exact main hs
variable {all:List Oper}{o:Oper}{s N:Nat}{t tX:Nat→AV}{h h' hX:AH}{a:Act}{w w0:World}{D:Nat→Prop}{S0:Nat→Prop}{S:Nat→Prop}{β:Bt}{R:FuncId→List AV→AV→Prop}{x:AV}
theorem NW(M:SimD C V w0 S0 N D tX hX a w S β)(hst:StepR C R all o s t h x h')(hlook:∀ i∈pA all o,tX i=t i)(hag:pW o.op=true→As (WP (oQ tX o) β) h hX):
  ∃ h2,StepR C R all o s tX hX x h2∧Ru h hX s (lM o.op) (WP (oQ tX o) β) h' h2:=by
 have hops:∀ i,.tmp i∈o.op.operands.toList→tX i=t i:=λ i hi=>hlook i (by simp only[pA,al_List_mem_append];exact .inl (.inr (AZ _ i hi)));have hev:∀ x∈o.op.operands,evA C tX x=evA C t x:=λ x hx=>by
  cases x with
  |tmp i=>exact hops i (by simpa using hx)
  |_=>rfl
 have hrep:∀ x∈o.op.operands,Rep S w (WP (oQ tX o) β) (evA C tX x) (a.eval x):=λ x hx=>NT (rZ M x) λ s hs=>Gw hx hs;unfold StepR at hst⊢
 cases hg:o.guard with
 |none=>
  simp only[hg]at hst⊢;rw[nG (ev':=evA C tX) o.op λ x hx=>(hev x hx).symm]at hst
  exact vO o.op hrep hag hst
 | some q=>
  obtain⟨i,pol⟩:=q;simp only[hg]at hst⊢;obtain⟨d,g,y,q1,q2,⟨q3,rfl,q4⟩|⟨q3,q4⟩⟩:=hst
  case inr=>
   have hd:tX d=t d:=hlook d (by simp only[pA,hg,q1,al_List_mem_append];exact .inr (by simp));rw[nG (ev':=evA C tX) o.op λ x hx=>(hev x hx).symm]at q4;obtain⟨h2,e1,e2⟩:=vO o.op hrep hag q4;exact⟨h2,⟨d,g,y,q1,by rw[hd];exact q2,.inr ⟨q3,e1⟩⟩,e2⟩
  have hd:tX d=t d:=hlook d (by simp only[pA,hg,q1,al_List_mem_append];exact .inr (by simp));have hcs:condsO tX o.op=condsO t o.op:=Cq _ hops;refine⟨hX,⟨d,g,y,q1,by rw[hd];exact q2,.inl ⟨q3,rfl,?_⟩⟩,Ru.refl⟩;rcases q4 with ⟨c1,c2⟩|⟨c,c1,c2,c3⟩
  ·refine .inl ⟨by rw[hcs];exact c1,λ hg'=>?_⟩;obtain⟨f1,f2⟩:=c2 hg';rw[nG (ev':=evA C tX) o.op λ x hx=>(hev x hx).symm]at f1 f2;obtain⟨h2,e1,_⟩:=vO o.op hrep hag f2;have T:=It (C:=C) (s:=s) o.op hrep hag;have e2:opA C (evA C tX) hX s o.op=opA C (evA C tX) h' s o.op:=by
    cases hr:opA C (evA C tX) h' s o.op<;>rw[hr]at T f1<;>first|exact T|(simp[isFx]at f1)
   rw[e2]at e1⊢;refine⟨f1,?_⟩;cases hr:opA C (evA C tX) h' s o.op<;>rw[hr]at e1 f1<;>first|(simp[isFx]at f1;done)|skip
   ·obtain⟨rfl,rfl⟩:=e1;exact⟨rfl,rfl⟩
   ·obtain⟨p,rfl,rfl⟩:=e1;exact⟨p,rfl,rfl⟩
   ·obtain⟨row,p1,p2,p3,rfl⟩:=e1;exact⟨row,p1,p2,p3,rfl⟩
   ·obtain⟨l,p1,p2,p3,rfl⟩:=e1;exact⟨l,p1,p2,p3,rfl⟩
   ·obtain⟨p1,p2,p3,p4,rfl⟩:=e1;exact⟨p1,p2,p3,p4,rfl⟩
  ·refine .inr ⟨c,by rw[hcs];exact c1,c2,λ hg'=>?_⟩;obtain⟨f1,f2⟩:=c3 hg';rw[nG (ev':=evS C tX o.op) o.op λ x hx=>(Ir o.op hev x hx).symm]at f1 f2;have hsr:∀ x∈o.op.operands,Rep S w (WP (oQ tX o) β) (evS C tX o.op x) (a.eval x):=λ x hx=>NT (Kc M o.op (hcs.trans c1) (c2 hg') x hx) λ s hs=>Gw hx (NV o.op hs);obtain⟨h2,e1,_⟩:=vO o.op hsr hag f2;have T:=It (C:=C) (s:=s) o.op hsr hag;have e2:opA C (evS C tX o.op) hX s o.op=opA C (evS C tX o.op) h' s o.op:=by
    cases hr:opA C (evS C tX o.op) h' s o.op<;>rw[hr]at T f1<;>first|exact T|(simp[isFx]at f1)
   rw[e2]at e1⊢;refine⟨f1,?_⟩;cases hr:opA C (evS C tX o.op) h' s o.op<;>rw[hr]at e1 f1<;>first|(simp[isFx]at f1;done)|skip
   ·obtain⟨rfl,rfl⟩:=e1;exact⟨rfl,rfl⟩
   ·obtain⟨p,rfl,rfl⟩:=e1;exact⟨p,rfl,rfl⟩
   ·obtain⟨row,p1,p2,p3,rfl⟩:=e1;exact⟨row,p1,p2,p3,rfl⟩
   ·obtain⟨l,p1,p2,p3,rfl⟩:=e1;exact⟨l,p1,p2,p3,rfl⟩
   ·obtain⟨p1,p2,p3,p4,rfl⟩:=e1;exact⟨p1,p2,p3,p4,rfl⟩
end
structure DrawOk2(l:List Oper)(tE:Nat→AV):Prop where
 back:∀ j oj,l[j]?=some oj→∀ e∈oj.after.toList,Region.binds .any e=true→e.on<j
 late:∀ (j:Nat) (oj:Oper) (k:Nat) (ok:Oper) (d:Nat),l[j]?=some oj→l[k]?=some ok→pW oj.op=true→j≤k→ok.dst=some d→d ∉ CP oj.op.operands.toList
 slot:∀ i j oi oj d,l[i]?=some oi→l[j]?=some oj→i≠j→oi.dst=some d→d∈pA l oj→IE (xN l []) i j=true
 mem:∀ i j oi oj b,l[i]?=some oi→l[j]?=some oj→i≠j→lM oi.op=true→pW oj.op=true→b∈oQ tE oi→b∈oQ tE oj→IE (xN l []) i j=true
theorem Rr{a b:List Nat}{x:Nat}(ha:x∈a)(hb:x∈b):meets a b=true:=
 Lm.2 ⟨x,ha,Lm.2 ⟨x,hb,by simp⟩⟩
theorem Iq{l:List Oper}{tE:Nat→AV}(h:GU l tE=true):DrawOk2 l tE:=by
  have main:∀ j oj,l[j]?=some oj→((oj.after.toList.all λ e=> !Region.binds .any e||Nat.blt e.on j)=true∧(!pW oj.op||(l.drop j).all λ o=>match o.dst with|none=>true|some d=> !(CP oj.op.operands.toList).contains d)=true)∧∀ i oi,l[i]?=some oi→(i==j||
          ((match oi.dst with|none=>true|some d=> !(pA l oj).contains d||IE (xN l []) i j)&&
           (!(lM oi.op&&pW oj.op&&meets (oQ tE oi) (oQ tE oj))||IE (xN l []) i j)))=true:=by
    intro j oj hj;have hjl:j<l.length:=(Dq.1 hj).1;have h1:=iH.1 h j (by simpa using hjl);simp only[hj,aI]at h1;refine⟨h1.1,λ i oi hi=>?_⟩;have hil:i<l.length:=(Dq.1 hi).1;have h2:=iH.1 h1.2 i (by simpa using hil);simp only[hi]at h2;exact h2
  refine⟨λ j oj hj e he hb=>?_,λ j oj k ok d hj hk hro hjk hd hm=>?_,λ i j oi oj d hi hj hne hd hl=>?_,λ i j oi oj b hi hj hne hw hr hbi hbj=>?_⟩
  · have:=iH.1 (main j oj hj).1.1 e he
    simp only[hb,lV,eH]at this;exact aO this
  · have hmem:ok∈l.drop j:=aB (i:=k - j) (by rw[cJ,show j+(k - j)=k by omega];exact hk)
    have h0:=(main j oj hj).1.2;simp only[hro,lV,eH]at h0;have:=iH.1 h0 ok hmem;simp only[hd]at this;rw[show (CP oj.op.operands.toList).contains d=true by simpa using hm]at this;cases this
  · have:=(main j oj hj).2 i oi hi
    have hb:(i==j)=false:=by simpa using hne
    simp only[hb,eH,aI,hd]at this;have h1:=this.1;rw[show (pA l oj).contains d=true by simpa using hl]at h1;simpa using h1
  · have:=(main j oj hj).2 i oi hi
    have hb:(i==j)=false:=by simpa using hne
    simp only[hb,eH,aI]at this;have h1:=this.2;rw[hw,hr,Rr hbi hbj]at h1;simpa using h1
section
variable {C:Ctx}{V:Inv C.fr}{R:FuncId→List AV→AV→Prop}
theorem NY{l:List Oper}{tE:Nat→AV}(D:DrawOk2 l tE){i j:Nat}{oj:Oper}(hj:l[j]?=some oj)(hi:((xN l []).getD j 0).testBit i=true):i<j:=
 xH (X:=(· <j)) (λ k ok hk hok e he hb=>rU (D.back k ok hok e he hb) hk) hj (λ e he hb=>D.back j oj hj e he hb) hi
theorem Gx{l:List Oper}{tE:Nat→AV}(D:DrawOk2 l tE){X:Nat→Prop}(hX:WQ l X){i j:Nat}{oi oj:Oper}(hi:l[i]?=some oi)(hj:l[j]?=some oj)(hp:∀ e∈oj.after.toList,Region.binds .any e=true→X e.on)(hnj: ¬ X j)(ho:IE (xN l []) i j=true):X i↔i<j:=by
 simp only[IE,dF]at ho;rcases ho with ho|ho
 ·exact⟨λ _=>NY D hj ho,λ _=>xH hX hj hp ho⟩
 ·have hlt:=NY D hi ho;refine⟨λ hXi=>absurd (xH hX hi (λ e he hb=>hX i oi hXi hi e he hb) ho) hnj,λ h=>by omega⟩
structure Chn2(C:Ctx)(l:List Oper)(n:Nat)(h:AH)(t:Nat→AV)(xs:Nat→AV)(hh:Nat→AH)(tt:Nat→Nat→AV)(tb:Nat→Nat→Bool):Prop where
 D:DrawOk2 l (tt l.length)
 step:∀ k o,l[k]?=some o→StepR C (bX C) l o (n+k) (tt k) (hh k) (xs k) (hh (k+1))
 next:∀ k o,l[k]?=some o→tt (k+1)=yU (tt k) o.dst (xs k)
 t0:tt 0=t
 h0:hh 0=h
 new:∀ s,n≤s→h s=none
 tb:∀ b i,tb b i=true↔hh (i+1) b≠hh i b
 nH:NoH C
variable {l:List Oper}{n:Nat}{h:AH}{t xs:Nat→AV}{hh:Nat→AH}{tt:Nat→Nat→AV}{tb:Nat→Nat→Bool}
theorem Chn2.live(Z:Chn2 C l n h t xs hh tt tb){i:Nat}(hi:i<l.length){b:Nat}(hb:b≠n+i)(hn:hh i b=none):hh (i+1) b=none:=by
 have ho:l[i]?=some l[i]:=aA hi;by_cases he:hh (i+1) b=hh i b
 ·rw[he,hn]
 ·exact absurd hn (zT (Z.step i _ ho) b hb he).2
theorem Chn2.fresh(Z:Chn2 C l n h t xs hh tt tb){b:Nat}(hb:n≤b):∀ k,k≤l.length→n+k≤b→hh k b=none
 |0,_,_=>by rw[Z.h0];exact Z.new b hb
 |k+1,hk,hkb=>Z.live (by omega) (by omega) (Z.fresh hb k (by omega) (by omega))
theorem Chn2.still(Z:Chn2 C l n h t xs hh tt tb){b j k:Nat}(hjk:j≤k)(hq:∀ i,j≤i→i<k→tb b i=false):hh k b=hh j b:=
 AC k hjk λ i h1 h2=>Classical.byContradiction λ hn=>by
  have:=hq i h1 h2;rw[(Z.tb b i).2 hn]at this;cases this
theorem Chn2.at(Z:Chn2 C l n h t xs hh tt tb){j:Nat}{o:Oper}(hj:l[j]?=some o)(hro:pW o.op=true):oQ (tt l.length) o=oQ (tt j) o:=by
 have hjl:j<l.length:=(Dq.1 hj).1;have key:∀ i∈CP o.op.operands.toList,∀ k,j≤k→k≤l.length→tt k i=tt j i:=by
  intro i hi k
  induction k with
  |zero=>intro h1 _;rw[show j=0 by omega]
  | succ k ih=>
   intro h1 h2;by_cases he:j=k+1
   ·rw[he]
   ·have hk:l[k]?=some l[k]:=aA (by omega);rw[Z.next k _ hk,wI (λ hd=>Z.D.late j o k _ i hj hk hro (by omega) hd hi)];exact ih (by omega) (by omega)
 unfold oQ;exact BV _ λ i hi=>by rw[key i hi l.length (by omega) (aC _)]
structure DInv2(C:Ctx)(V:Inv C.fr)(l:List Oper)(n:Nat)(h:AH)(t xs:Nat→AV)(hh:Nat→AH)(tb:Nat→Nat→Bool)(w0:World)(S0:Nat→Prop)(N:Nat)(X:Nat→Bool)(a:Act)(w:World):Prop where
 down:WQ l (X · =true)
 bnd:∀ i,X i=true→i<l.length
 H3:∀ k i,X k=true→tb (n+i) k=true→k=i∨X i=true
 sim:∃ S β hX,SimD C V w0 S0 N (λ s=>s<n∨∃ i,X i=true∧s=n+i) (valX X l xs t l.length) hX a w S β∧∀ b,hX b=hh (lastW (λ i=>X i&&tb b i) l.length) b
theorem MG(hC:CtxOk C)(Z:Chn2 C l n h t xs hh tt tb){ops:Array Oper}(hall:ops.toList=l){w0:World}{S0:Nat→Prop}{N:Nat}(hb:uJ N l=true){X Y:Nat→Bool}{a:Act}{w:World}(I:DInv2 C V l n h t xs hh tb w0 S0 N X a w){j:Nat}{o:Oper}(hj:l[j]?=some o)
  (hp:∀ e∈o.after.toList,Region.binds .any e=true→X e.on=true) (hnj:X j=false) (hYj:Y j=true) (hY:∀ i,i≠j→Y i=X i) {K:Act→World→Prop} {Q:Exit→Act→World→Prop} (hK:∀ a' w',DInv2 C V l n h t xs hh tb w0 S0 N Y a' w'→K a' w'):
  if Region.wanted o (yielded ops a.tmps)then o.wp C.P a w K Q∨(o.asks C.P a w∧LetsOut Q)else K (a.put o.dst undef) w:=by
 obtain⟨S,β,hX,M,H1⟩:=I.sim;have hjl:j<l.length:=(Dq.1 hj).1;have hnj': ¬ (X j=true):=by rw[hnj];simp
 have hs:β (n+j)=none:=by
  cases hq:β (n+j)with
  |none=>rfl
  | some loc=>
   rcases M.dom _ _ hq with h|⟨i,hi,he⟩
   ·omega
   ·have:i=j:=by omega
    subst this;rw[hnj]at hi;cases hi
 have slot:∀ tmp∈pA l o,valX X l xs t l.length tmp=tt j tmp:=by
  intro tmp htmp;rw[Dw Z.t0 (λ k o hk=>Z.next k o hk) j (by omega), ←TQ tmp (by omega)];refine tG _ λ i oi hi hoi hd=>?_;by_cases he:i=j
  ·subst he;rw[hnj];simp
  ·have:=Gx Z.D I.down hoi hj hp hnj' (Z.D.slot i j oi o tmp hoi hj he hd htmp);by_cases hlt:i<j
   ·rw[this.2 hlt];simp[hlt]
   ·have hx: ¬ (X i=true):=λ h=>hlt (this.1 h);simp only[hlt,decide_false];simpa using hx
 have sites:oQ (valX X l xs t l.length) o=oQ (tt j) o:=by
  unfold oQ;exact BV _ λ i hi=>by rw[slot i (by simp only[pA,al_List_mem_append];exact .inl (.inr hi))]
 have ag:pW o.op=true→∀ b loc,β b=some loc→b∈oQ (tt j) o→hh j b≠none→hX b=hh j b∧∀ k,X k=true→tb b k=true→k<j:=by
  intro hr b loc hbl hbs hbn;have wiff:∀ k,k<l.length→k≠j→tb b k=true→(X k=true↔k<j):=by
   intro k hk hne htk;have hok:l[k]?=some l[k]:=aA hk;by_cases hbk:b=n+k
   ·have hkj:k<j:=Nat.lt_of_not_le λ hle=>hbn (Z.fresh (by omega) j (by omega) (by omega));refine⟨λ _=>hkj,λ _=>?_⟩;rcases M.dom _ _ hbl with h|⟨i,hi,he⟩
    ·omega
    ·have:i=k:=by omega
     subst this;exact hi
   ·have hn:=(Z.tb b k).1 htk;have hwk:=(zT (Z.step k _ hok) b hbk hn).1;have hsk:=MF (Z.step k _ hok) b hbk hn;exact Gx Z.D I.down hok hj hp hnj' (Z.D.mem k j _ o b hok hj hne hwk hr (by rw[Z.at hok (vL _ hwk)];exact hsk) (by rw[Z.at hj hr];exact hbs))
  have lt:∀ k,X k=true→tb b k=true→k<j:=λ k hk htk=>(wiff k (I.bnd k hk) (λ e=>by subst e;exact hnj' hk) htk).1 hk;refine⟨?_,lt⟩;rw[H1 b];have hple:lastW (λ i=>X i&&tb b i) l.length≤j:=sI _ _ λ i hi hw=>by
   simp only[aI]at hw;exact lt i hw.1 hw.2
  refine (Z.still hple λ i h1 h2=>?_).symm
  cases hti:tb b i with
  |false=>rfl
  |true=>
   have hXi:=(wiff i (by omega) (by omega) hti).2 h2;have:=xI (W:=λ i=>X i&&tb b i) l.length i (by omega) (by simp[hXi,hti]);omega
 have hag:pW o.op=true→As (WP (oQ (valX X l xs t l.length) o) β) (hh j) hX:=by
  intro hr b loc hbl hne;have hbl:(if b∈oQ (valX X l xs t l.length) o then β b else none)=some loc:=hbl;split at hbl
  ·rename_i hm;rw[sites]at hm;exact (ag hr b loc hbl hm hne).1
  ·cases hbl
 obtain⟨h2,st,hrel⟩:=NW M (Z.step j o hj) slot hag;have turn:∀ b,b≠n+j→(hh (j+1) b≠hh j b∨h2 b≠hX b)→(∃ loc,β b=some loc)∧hX b=hh j b∧∀ k,X k=true→tb b k=true→k<j:=by
  intro b hbj hc;obtain⟨q1,q2,loc,q3⟩:=hrel.2 b hbj hc;have q3:(if b∈oQ (valX X l xs t l.length) o then β b else none)=some loc:=q3;split at q3
  ·rename_i hm;rw[sites]at hm;exact⟨⟨loc,q3⟩,ag (vL _ q1) b loc q3 hm q2⟩
  ·cases q3
 refine wK hC M hs hall st (vP hb (aB hj)) (λ i pol d _ hd=>Bc hb i d hd) λ a' w' S' β' M'=>hK a' w' ?_;have XY:∀ i,Y i=true↔X i=true∨i=j:=λ i=>by
  by_cases he:i=j
  ·subst he;simp[hYj]
  ·rw[hY i he];simp[he]
 have hXnone:hX (n+j)=none:=by
  cases hq:hX (n+j)with
  |none=>rfl
  |some blk=>
   obtain⟨loc,_,_,_,hl,_⟩:=M.H.own _ _ hq;rw[hs]at hl;cases hl
 have hjnone:hh j (n+j)=none:=Z.fresh (by omega) j (by omega) (by omega);have h2new:h2 (n+j)=hh (j+1) (n+j):=hrel.1 _ (by rw[hXnone,hjnone]);refine⟨λ k ok hk hok e he hbd=>?_,λ i hi=>?_,λ k i hk htk=>?_,S',β',h2,?_,λ b=>?_⟩
 ·rcases (XY k).1 hk with hk|rfl
  ·exact (XY _).2 (.inl (I.down k ok hk hok e he hbd))
  ·rw[hj]at hok;injection hok with hok;subst hok;exact (XY _).2 (.inl (hp e he hbd))
 ·rcases (XY i).1 hi with hi|rfl
  ·exact I.bnd i hi
  ·exact hjl
 ·rcases (XY k).1 hk with hk|rfl
  ·rcases I.H3 k i hk htk with h|h
   ·exact .inl h
   ·exact .inr ((XY i).2 (.inl h))
  ·by_cases hki:k=i
   ·exact .inl hki
   ·obtain⟨⟨loc,hl⟩,_⟩:=turn (n+i) (by omega) (.inl ((Z.tb _ _).1 htk));rcases M.dom _ _ hl with h|⟨i',hi',he⟩
    ·omega
    ·have:i'=i:=by omega
     subst this;exact .inr ((XY _).2 (.inl hi'))
 ·have hval:yU (valX X l xs t l.length) o.dst (xs j)=valX Y l xs t l.length:=by
   funext tmp;by_cases hd:o.dst=some tmp
   ·rw[hd,yR];have hlook:tmp∈pA l o:=by simp[pA,hd]
    rw[Dc (X:=Y) (j:=j+1) l.length (by omega) λ i oi h1 h2 hoi hdi=>?_]
    ·simp only[valX,hj,hYj,hd,yR]
    ·have he:i≠j:=by omega
     have:=Gx Z.D I.down hoi hj hp hnj' (Z.D.slot i j oi o tmp hoi hj he hdi hlook)
     cases hx:Y i with
     |false=>rfl
     |true=>
      rcases (XY i).1 hx with h|h
      ·have:=this.1 h;omega
      ·omega
   ·rw[wI hd];refine tG _ λ i oi hi hoi hdi=>?_;by_cases he:i=j
    ·subst he;rw[hj]at hoi;injection hoi with hoi;subst hoi;exact absurd hdi hd
    ·exact (hY i he).symm
  rw[←hval];refine⟨M'.T,M'.H,M'.B,λ y loc hy=>?_,M'.df,M'.sz,M'.G,M'.nw,M'.iv⟩;rcases M'.dom y loc hy with (h|⟨i,hi,he⟩)|h
  ·exact .inl h
  ·exact .inr ⟨i,(XY i).2 (.inl hi),he⟩
  ·exact .inr ⟨j,hYj,h⟩
 ·cases htj:tb b j with
  | true=>
   have hlt:∀ k,X k=true→tb b k=true→k<j:=by
    intro k hk htk;by_cases hbj:b=n+j
    ·subst hbj;rcases I.H3 k j hk htk with h|h
     ·subst h;exact absurd hk hnj'
     ·exact absurd h hnj'
    ·exact (turn b hbj (.inl ((Z.tb _ _).1 htj))).2.2 k hk htk
   have hL:lastW (λ i=>Y i&&tb b i) l.length=j+1:=by
    refine Nat.le_antisymm (sI _ _ λ i hi hwi=>?_) (xI _ j hjl (by simp[hYj,htj]));simp only[aI]at hwi;rcases (XY i).1 hwi.1 with h|h
    ·have:=hlt i h hwi.2;omega
    ·omega
   rw[hL];by_cases hbj:b=n+j
   ·rw[hbj];exact h2new
   ·exact hrel.1 b (turn b hbj (.inl ((Z.tb _ _).1 htj))).2.1
  | false=>
   have hstill:hh (j+1) b=hh j b:=Classical.byContradiction λ hn=>by
    rw[(Z.tb b j).2 hn]at htj;cases htj
   have hW:(λ i=>Y i&&tb b i)=λ i=>X i&&tb b i:=by
    funext i;by_cases he:i=j
    ·subst he;simp[htj]
    ·rw[hY i he]
   rw[hW, ←H1 b];by_cases hbj:b=n+j
   ·rw[hbj,h2new,hXnone, ←hbj,hstill,hbj,hjnone]
   ·refine Classical.byContradiction λ hn=>?_;have h5:=(turn b hbj (.inr hn)).2.1;exact hn ((hrel.1 b h5).trans (hstill.trans h5.symm))
theorem Dv(hC:CtxOk C)(nH:NoH C){w0:World}{S0:Nat→Prop}{N:Nat}{ops:Array Oper}(hb:uJ N ops.toList=true){K:ASt→Prop}(hr:kX C (bX C) ops.toList ops.toList 0 ⟨t,h,n⟩ (λ st=>GU ops.toList st.t=true∧K st))
  {a:Act} {w:World} {S:Nat→Prop} {β:Bt} (M:SimD C V w0 S0 N (· <n) t h a w S β) {Q:Exit→Act→World→Prop} (hQ:∀ st a' w' S' β',K st→SimD C V w0 S0 N (· <st.n) st.t st.h a' w' S' β'→Q .normal a' w'):
  wpAny C.P .any ops Q ops.size (Array.replicate ops.size false) a {w with drawn:=w.drawn+1}:=by
 obtain⟨xs,hh,tt,e1,e2,e3,e4⟩:=Gy nH ops.toList 0 t h hr;simp only[bL]at e3 e4;have hnew:∀ s,n≤s→h s=none:=λ s hs=>by
  cases hq:h s with
  |none=>rfl
  |some blk=>
   obtain⟨l,_,_,_,hl,_⟩:=M.H.own s blk hq;have:s<n:=M.dom s l hl;omega
 obtain⟨hd,e4⟩:=e4;obtain⟨tb,htb⟩:∃ tb:Nat→Nat→Bool,∀ b i,tb b i=true↔hh (i+1) b≠hh i b:=⟨λ b i=> @decide _ (Classical.propDecidable (hh (i+1) b≠hh i b)),λ b i=>by simp⟩;have Z:Chn2 C ops.toList n h t xs hh tt tb:=⟨Iq hd,λ k o hk=>(e3 k o hk).1,λ k o hk=>(e3 k o hk).2,e1,e2,hnew,htb,nH⟩;have hm:ops.toList.length=ops.size:=by simp
 have fin:∀ (X:Nat→Bool) (a:Act) (w:World),(∀ i,i<ops.size→X i=true)→DInv2 C V ops.toList n h t xs hh tb w0 S0 N X a w→Q .normal a w:=by
  intro X a w hall I;obtain⟨S,β,hX,M,H1⟩:=I.sim;have hall':∀ i,i<ops.toList.length→X i=true:=λ i hi=>hall i (by rw[←hm];exact hi);refine hQ _ a w S β e4 ?_;have hT:valX X ops.toList xs t ops.toList.length=tt ops.toList.length:=by
   rw[Dw Z.t0 (λ k o hk=>Z.next k o hk) _ (aC _)];funext tmp;exact tG _ λ i o hi _ _=>hall' i hi
  have hH:hX=hh ops.toList.length:=by
   funext b;rw[H1 b];refine (Z.still (Dd _ _) λ i h1 h2=>?_).symm
   cases hti:tb b i with
   |false=>rfl
   |true=>
    have:=xI (W:=λ i=>X i&&tb b i) ops.toList.length i h2 (by simp[hall' i h2,hti]);omega
  rw[←hT, ←hH];refine⟨M.T,M.H,M.B,λ x l hx=>?_,M.df,M.sz,M.G,M.nw,M.iv⟩;show x<n+ops.toList.length;rcases M.dom x l hx with h|⟨i,hi,he⟩
  ·omega
  ·have:=I.bnd i hi;omega
 have done:∀ (listed:Array Bool),listed.size=ops.size→Region.ready .any ops listed=[]→∀ i,i<ops.size→listed.getD i false=true:=by
  intro listed hsz hnil i hi
  induction i using Nat.strongRecOn with
  | _ i ih=>
   cases hq:listed.getD i false with
   |true=>rfl
   | false=>
    exfalso;have hmem:i∈Region.ready .any ops listed:=by
     refine mem_ready.2 ⟨?_,ops[i],aS hi,λ e he hbd=>?_⟩
     ·have:i<listed.size:=by omega
      rw[aJ,aS this]at hq⊢;exact hq
     ·have:=Z.D.back i ops[i] (by rw[bG,aS hi]) e (by simpa using he) hbd;exact ih e.on this (by omega)
    rw[hnil]at hmem;cases hmem
 have main:∀ (fuel:Nat) (listed:Array Bool) (a:Act) (w:World),listed.size=ops.size→cntX (λ i=>listed.getD i false) ops.size=fuel→DInv2 C V ops.toList n h t xs hh tb w0 S0 N (λ i=>listed.getD i false) a w→wpAny C.P .any ops Q fuel listed a w:=by
  intro fuel
  induction fuel with
  | zero=>
   intro listed a w hsz hc I;have hall:=Dx _ hc;refine⟨?_,fin _ a w hall I⟩
   cases hr:Region.ready .any ops listed with
   |nil=>rfl
   |cons i rest=>
    exfalso;have hmem:i∈Region.ready .any ops listed:=by rw[hr];exact bD
    obtain⟨h1,o,ho,_⟩:=mem_ready.1 hmem;have hi:i<ops.size:=(CZ.1 ho).1;have h2:=hall i hi;have:i<listed.size:=by omega
    rw[aJ,aS this]at h1 h2;simp only[gF]at h1 h2
    rw[h1]at h2;cases h2
  | succ fuel ih=>
   intro listed a w hsz hc I;refine⟨λ hnil=>fin _ a w (done listed hsz hnil) I,λ j hj=>?_⟩;obtain⟨h1,o,ho,hpre⟩:=mem_ready.1 hj;have hjl:j<ops.size:=(CZ.1 ho).1;have hjs:j<listed.size:=by omega
   have hoj:ops.toList[j]?=some o:=by rw[bG];exact ho
   have hXj:listed.getD j false=false:=by
    rw[aJ,aS hjs]at h1⊢;exact h1
   have hYj:(listed.setIfInBounds j true).getD j false=true:=by
    rw[aJ,cX hjs];rfl
   have hY:∀ i,i≠j→(listed.setIfInBounds j true).getD i false=listed.getD i false:=λ i hi=>by
    rw[aJ,aJ,cW (Ne.symm hi)]
   unfold wpOp;simp only[ho];refine MG (X:=λ i=>listed.getD i false) (Y:=λ i=>(listed.setIfInBounds j true).getD i false) hC Z rfl hb I hoj (λ e he hbd=>hpre e (by simpa using he) hbd) hXj hYj hY λ a' w' I'=>?_;refine ih _ a' w' (by simp[hsz]) ?_ I';have:=Gz (X:=λ i=>listed.getD i false) (Y:=λ i=>(listed.setIfInBounds j true).getD i false) hXj hYj hY ops.size hjl;omega
 have hfalse:∀ i,(Array.replicate ops.size false).getD i false=false:=λ i=>by
  rw[aJ];by_cases hi:i<ops.size
  ·simp[hi]
  ·rw[iD (by simpa using hi)];rfl
 have hXf:(λ i=>(Array.replicate ops.size false).getD i false)=λ _=>false:=funext hfalse;have hcnt:∀ k,cntX (λ i=>(Array.replicate ops.size false).getD i false) k=k:=by
  rw[hXf];intro k
  induction k with
  |zero=>rfl
  |succ k ih=>simp only[cntX,ih];omega
 refine main ops.size _ a _ (by simp) (hcnt _) ⟨λ j oj hj=>?_,λ i hi=>?_,λ k j hk=>?_,S,β,h,?_,λ s=>?_⟩
 ·have:=(hfalse j).symm.trans hj;cases this
 ·have:=(hfalse i).symm.trans hi;cases this
 ·have:=(hfalse k).symm.trans hk;cases this
 ·have hv:valX (λ i=>(Array.replicate ops.size false).getD i false) ops.toList xs t ops.toList.length=t:=by
   have:∀ k,valX (λ i=>(Array.replicate ops.size false).getD i false) ops.toList xs t k=t:=by
    intro k
    induction k with
    |zero=>rfl
    |succ k ih=>
     rw[hXf]at ih⊢;simp only[valX];split<;>exact ih
   exact this _
  rw[hv];have M':=M.drawn (w.drawn+1);exact⟨M'.T,M'.H,M'.B,λ x l hx=>.inl (M'.dom x l hx),M'.df,M'.sz,M'.G,M'.nw,M'.iv⟩
 ·have:lastW (λ i=>(Array.replicate ops.size false).getD i false&&tb s i) ops.toList.length=0:=by
   refine Nat.le_zero.1 (sI _ _ λ i _ hw=>?_);have h1:=hfalse i;rw[h1]at hw;simp at hw
  rw[this,e2]
end
end Go.Proofs.YtlhofpglndhfaaaGreatDoor
