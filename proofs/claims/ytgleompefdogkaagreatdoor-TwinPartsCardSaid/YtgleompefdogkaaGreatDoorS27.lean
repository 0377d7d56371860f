/- Joined texts. -/
import Derived.Test.YtgleompefdogkaaGreatDoorS1
import Derived.Test.YtgleompefdogkaaGreatDoorS26
set_option linter.unusedVariables false
set_option linter.unusedSimpArgs false
set_option linter.defProp false
namespace Go.Proofs.YtgleompefdogkaaGreatDoor
open Go.RowKit
def RN(h1 h2:AH)(s:Nat)(wr:Bool)(β:Bt)(h1' h2':AH):Prop:=
 (∀b,h2 b=h1 b->h2' b=h1' b)∧∀b,b≠s->(h1' b≠h1 b∨h2' b≠h2 b)->wr=true∧h1 b≠none∧∃l,β b=some l
def Tr(h1 h2:AH)(s:Nat)(wr:Bool)(β:Bt)(r1 r2:Res):Prop:=
 match r1 with
 | .bad=>True
 | .fx p x h1'=>∃h2',r2=.fx p x h2'∧RN h1 h2 s wr β h1' h2'
 | .idxfx rows i f=>∃f2,r2=.idxfx rows i f2∧∀row h1',f row=some h1'->∃h2',f2 row=some h2'∧RN h1 h2 s wr β h1' h2'
 |r=>r2=r
section
variable {C:Ctx}{h1 h2:AH}{s:Nat}{wr:Bool}{β:Bt}{S:Nat->Prop}{w:World}
theorem Tr.refl_of{r:Res}(hr:isFx r=false):Tr h1 h2 s wr β r r:=by
 cases r<;>first|rfl|(simp[isFx]at hr)
theorem RN.new(blk:Option Blk):RN h1 h2 s wr β (upd h1 s blk) (upd h2 s blk):=by
 refine⟨λb hb=>?_,λb hb h=>?_⟩
 ·by_cases he:b=s
  ·subst he;rw[cZ,cZ]
  ·rw[cH _ _ he,cH _ _ he];exact hb
 ·rw[cH _ _ hb,cH _ _ hb]at h;rcases h with h|h<;>exact absurd rfl h
theorem RN.set{b0:Nat}{l:Loc}(hl:β b0=some l)(hn:h1 b0≠none)(blk:Option Blk):RN h1 h2 s true β (upd h1 b0 blk) (upd h2 b0 blk):=by
 refine⟨λb hb=>?_,λb hb h=>?_⟩
 ·by_cases he:b=b0
  ·subst he;rw[cZ,cZ]
  ·rw[cH _ _ he,cH _ _ he];exact hb
 ·by_cases he:b=b0
  ·subst he;exact⟨rfl,hn,l,hl⟩
  ·rw[cH _ _ he,cH _ _ he]at h;rcases h with h|h<;>exact absurd rfl h
theorem RN.set_new{b0:Nat}{l:Loc}(hl:β b0=some l)(hn:h1 b0≠none)(blk blk':Option Blk):RN h1 h2 s true β (upd (upd h1 b0 blk') s blk) (upd (upd h2 b0 blk') s blk):=by
 refine⟨λb hb=>?_,λb hb h=>?_⟩
 ·by_cases he:b=s
  ·subst he;rw[cZ,cZ]
  ·rw[cH _ _ he,cH _ _ he];by_cases he:b=b0
   ·subst he;rw[cZ,cZ]
   ·rw[cH _ _ he,cH _ _ he];exact hb
 ·rw[cH _ _ hb,cH _ _ hb]at h;by_cases he:b=b0
  ·subst he;exact⟨rfl,hn,l,hl⟩
  ·rw[cH _ _ he,cH _ _ he]at h;rcases h with h|h<;>exact absurd rfl h
def AZ(β:Bt)(h1 h2:AH):Prop:=∀b l,β b=some l->h1 b≠none->h2 b=h1 b
def wM{a:AV}{v:Value}(ha:Rep S w β a v)(hag:AZ β h1 h2){r:Nat×List (List AV)}(hr:mV h1 a=some r):mV h2 a=some r∧(xU h2 a↔xU h1 a):=by
 cases ha with
 | osl s lo len clip l A c hl hc hm hcl hA cs e fr hb room=>
  have hn:h1 s≠none:=by
   intro h0;simp only[mV,h0]at hr;cases hr
  have e:=hag s l hl hn;simp only[mV,e]at hr⊢
  exact⟨hr,by simp only[xU,e]⟩
 |v=>exact⟨by cases v<;>exact hr,Iff.rfl⟩
 |_=>exact⟨hr,Iff.rfl⟩
def UP(t:TypeId){a:AV}{v:Value}(ha:Rep S w β a v)(hag:AZ β h1 h2):Tr h1 h2 s wr β (tJ C h1 t a) (tJ C h2 t a):=by
 have ok:∀x:Option AV,Tr h1 h2 s wr β (okO x) (okO x):=λx=>by cases x<;>first|trivial|rfl
 cases ha<;>simp only[tJ]<;>try (exact trivial)
 case ptr b c l hl=>
  cases hb:h1 b with
  |none=>exact trivial
  |some blk=>
   rw[hag b l hl (by rw[hb];simp),hb]
   cases blk with
   |box cells=>exact ok _
   |arr rows rs=>exact trivial
   |row cells=>exact trivial
 case ptr2 b r c l hl=>
  cases hb:h1 b with
  |none=>exact trivial
  |some blk=>
   rw[hag b l hl (by rw[hb];simp),hb]
   cases blk with
   |box cells=>exact trivial
   |arr rows rs=>rfl
   |row cells=>rfl
 case dp=>exact ok _
theorem Tr.of_eq{r1 r2:Res}(he:r2=r1)(hs:isFx r1=false∨r1=.bad):Tr h1 h2 s wr β r1 r2:=by
 subst he;rcases hs with hs|hs
 ·exact Tr.refl_of hs
 ·rw[hs];trivial
def blkOf_congr{a:AV}{v:Value}(ha:Rep S w β a v)(hag:AZ β h1 h2):Ds h2 a=Ds h1 a∨Ds h1 a=none∧∃b lo len clip,a=.osl b lo len clip:=by
 cases ha with
 |osl b lo len clip l A c hl hc hm hcl hA cs e fr hb room=>
  cases hb:h1 b with
  |none=>exact .inr ⟨hb,b,lo,len,clip,rfl⟩
  |some blk=>exact .inl (hag b l hl (by rw[hb];simp))
 |_=>exact .inl rfl
def IQ(t:TypeId){a i:AV}{v:Value}(ha:Rep S w β a v)(hag:AZ β h1 h2):Tr h1 h2 s wr β (jC C h1 t a i) (jC C h2 t a i):=by
 have self:isFx (jC C h1 t a i)=false∨jC C h1 t a i=.bad:=by
  unfold jC pO
  repeat' split
  all_goals first|exact .inl rfl|exact .inr rfl
 rcases blkOf_congr ha hag with he|⟨he,b,lo,len,clip,rfl⟩
 ·exact Tr.of_eq (by unfold jC;rw[he]) self
 ·have hbad:jC C h1 t (.osl b lo len clip) i=.bad:=by
   unfold jC;rw[he];unfold pO;split
   ·split
    ·rename_i hq;cases hq
    ·rfl
    ·rfl
   ·split
    ·rename_i hq;cases hq
    ·rename_i hq;cases hq
    ·rename_i hq;cases hq
    ·rfl
   ·rfl
  rw[hbad];trivial
def RO(t:TypeId){a:AV}{lo hi mx:Option AV}{v:Value}(ha:Rep S w β a v)(hag:AZ β h1 h2):Tr h1 h2 s wr β (uU C h1 t a lo hi mx) (uU C h2 t a lo hi mx):=by
 have self:isFx (uU C h1 t a lo hi mx)=false∨uU C h1 t a lo hi mx=.bad:=by
  unfold uU BN
  repeat' split
  all_goals first|exact .inl rfl|exact .inr rfl
 rcases blkOf_congr ha hag with he|⟨he,b,lo',len,clip,rfl⟩
 ·exact Tr.of_eq (by unfold uU;rw[he]) self
 ·have hbad:uU C h1 t (.osl b lo' len clip) lo hi mx=.bad:=by
   unfold uU;rw[he];unfold BN
   repeat' split
   all_goals first|rfl|(simp_all;done)
  rw[hbad];trivial
def UQ(src dst:TypeId){a:AV}{v:Value}(ha:Rep S w β a v)(hag:AZ β h1 h2):Tr h1 h2 s wr β (Fq C h1 s src dst a) (Fq C h2 s src dst a):=by
 have cself:isFx (Dr C src dst a)=false∨Dr C src dst a=.bad:=by
  unfold Dr;split<;>first|exact .inl rfl|exact .inr rfl
 unfold Fq;split
 ·split
  ·exact⟨_,rfl,RN.new _⟩
  ·trivial
 ·split
  ·trivial
  ·split
   ·rename_i rc rows hq hr;obtain⟨e1,e2⟩:=wM ha hag hr;rw[e1,hq];show _=_;simp only[e2]
   ·trivial
 ·exact Tr.of_eq rfl cself
def OE(ts:List TypeId){x y:AV}{vx vy:Value}(hx:Rep S w β x vx)(hy:Rep S w β y vy)(hag:AZ β h1 h2):Tr h1 h2 s true β (bK C h1 s .append ts [x,y]) (bK C h2 s .append ts [x,y]):=by
 simp only[bK];have key:∀(rx ry:Option (Nat×List (List AV))) (blk:Option Blk) (px py:Prop),(∀b lo len clip,x=.osl b lo len clip->blk≠none->(∃l,β b=some l)∧h1 b≠none)->Tr h1 h2 s true β (qM C s ts x rx ry blk px py h1) (qM C s ts x rx ry blk px py h2):=by
  intro rx ry blk px py hb;unfold qM;split
  ·split
   ·split
    ·split
     ·split
      ·exact⟨_,rfl,RN.new _⟩
      ·split
       ·exact Tr.of_eq rfl (.inl rfl)
       ·exact⟨_,rfl,RN.new _⟩
      ·trivial
     ·split
      ·exact⟨_,rfl,RN.new _⟩
      ·trivial
     ·rename_i b lo len _ _ _ _ _ _;split
      ·obtain⟨⟨l,hl⟩,hn⟩:=hb _ _ _ _ rfl (by simp);exact⟨_,rfl,RN.set_new hl hn _ _⟩
      ·trivial
     ·trivial
    ·trivial
   ·trivial
  ·trivial
 have bad1:∀(ry:Option (Nat×List (List AV))) (blk:Option Blk) (px py:Prop),qM C s ts x none ry blk px py h1=.bad:=by
  intro ry blk px py;unfold qM;split
  ·split
   ·split
    ·split<;>first|rfl|(rename_i h _;cases h;done)|(rename_i h;cases h;done)
    ·rfl
   ·rfl
  ·rfl
 have bad2:∀(rx:Option (Nat×List (List AV))) (blk:Option Blk) (px py:Prop),qM C s ts x rx none blk px py h1=.bad:=by
  intro rx blk px py;unfold qM;split
  ·split
   ·split
    ·split<;>first|rfl|(rename_i h _;cases h;done)|(rename_i h;cases h;done)
    ·rfl
   ·rfl
  ·rfl
 cases hrx:mV h1 x with
 |none=>rw[bad1];trivial
 | some rx=>
  cases hry:mV h1 y with
  |none=>rw[bad2];trivial
  | some ry=>
   obtain⟨e1,e2⟩:=wM hx hag hrx;obtain⟨e3,e4⟩:=wM hy hag hry;have hbk:Ds h2 x=Ds h1 x:=by
    rcases blkOf_congr hx hag with he|⟨he,b,lo,len,clip,rfl⟩
    ·exact he
    ·simp only[Ds]at he;simp only[mV,he]at hrx;cases hrx
   rw[e1,e3,hbk,show xU h2 x=xU h1 x from propext e2,show xU h2 y=xU h1 y from propext e4];refine key _ _ _ _ _ λb lo len clip hq hne=>?_;subst hq
   cases hx with
   |osl _ _ _ _ l A c hl hc hm hcl hA cs e fr hb' room=>exact⟨⟨l,hl⟩,hne⟩
def UR(ts:List TypeId){x y:AV}{vx vy:Value}(hx:Rep S w β x vx)(hy:Rep S w β y vy)(hag:AZ β h1 h2):Tr h1 h2 s true β (Eg C h1 ts x y) (Eg C h2 ts x y):=by
 unfold Eg;split
 ·trivial
 ·split
  ·split
   ·rename_i ei b lo len clip he
    cases hb:h1 b with
    |none=>simp only;split<;>trivial
    | some blk=>
     cases hx with
     |osl _ _ _ _ l A c hl hc hm hcl hA cs e fr hb' room=>
     have e:=hag b l hl (by rw[hb];simp)
     cases hr:mV h1 y with
     |none=>cases blk<;>trivial
     | some r=>
      obtain⟨e1,e2⟩:=wM hy hag hr;rw[e,hb,e1]
      cases blk with
      |box=>trivial
      |row=>trivial
      |arr rows rs=>
       simp only;split
       ·exact⟨_,by simp only[e2],RN.set hl (by rw[hb];simp) _⟩
       ·trivial
   ·trivial
  ·trivial
theorem lZ(h:AH):∀(cs:List AV) (i:Nat),(sF h cs)[i]?=(cs[i]?).map (vR h)
 |[],i=>by simp[sF]
 |c::cs,0=>by simp[sF]
 |c::cs,i+1=>by simp[sF,lZ h cs i]
theorem pN(h:AH):∀(cs:List AV),jZ h cs↔∀(i:Nat) a,cs[i]?=some a->jT h a
 |[]=>⟨λ_ i a h=>by simp at h,λ_=>trivial⟩
 |c::cs=>by
  simp only[jZ,pN h cs];refine⟨λ⟨h0,hr⟩ i a hi=>?_,λH=>⟨H 0 c rfl,λi a hi=>H (i+1) a (by simpa using hi)⟩⟩
  cases i with
  |zero=>simp at hi;subst hi;exact h0
  |succ i=>exact hr i a (by simpa using hi)
def Nl{a:AV}{v:Value}(ha:Rep S w β a v):AZ β h1 h2->eL (vR h1 a)=true->vR h2 a=vR h1 a∧(jT h2 a↔jT h1 a):=by
 induction ha with
 | agg cs vs hl h1' h ih=>
  intro hag hc;have hc':eR (sF h1 cs)=true:=hc;have each:∀(i:Nat) a,cs[i]?=some a->vR h2 a=vR h1 a∧(jT h2 a↔jT h1 a):=by
   intro i a hi;have hlt:i<vs.size:=by rw[<-hl];exact(DS.1 hi).1
   exact ih i a vs[i] hi (aX hlt) hag (fX _ hc' i _ (by rw[lZ,hi];rfl))
  constructor
  ·show AV.agg (sF h2 cs)=.agg (sF h1 cs);congr 1;apply dC;intro i;rw[lZ,lZ]
   cases hi:cs[i]? with
   |none=>rfl
   |some a=>simp only[dJ,(each i a hi).1]
  ·show jZ h2 cs↔jZ h1 cs;rw[pN,pN]
   exact⟨λH i a hi=>(each i a hi).2.1 (H i a hi),λH i a hi=>(each i a hi).2.2 (H i a hi)⟩
 | tup cs vs hl h ih=>
  intro hag hc
  cases hq:oS cs with
  |true=>simp[vR,jT,hq]
  |false=>
  have hc':eR (sF h1 cs)=true:=by simpa only[vR,hq,eL]using hc
  have each:∀(i:Nat) a,cs[i]?=some a->vR h2 a=vR h1 a∧(jT h2 a↔jT h1 a):=by
   intro i a hi;have hlt:i<vs.size:=by rw[<-hl];exact(DS.1 hi).1
   exact ih i a vs[i] hi (aX hlt) hag (fX _ hc' i _ (by rw[lZ,hi];rfl))
  constructor
  ·simp only[vR,hq];congr 1;apply dC;intro i;rw[lZ,lZ]
   cases hi:cs[i]? with
   |none=>rfl
   |some a=>simp only[dJ,(each i a hi).1]
  ·simp only[jT,hq];rw[pN,pN]
   exact⟨λH i a hi=>(each i a hi).2.1 (H i a hi),λH i a hi=>(each i a hi).2.2 (H i a hi)⟩
 | osl s lo len clip l A c hl hc hm hcl hA cs e fr hb room=>
  intro hag hcl';have hn:h1 s≠none:=by
   intro h0;simp only[vR,h0,eL]at hcl';cases hcl'
  have e:=hag s l hl hn;simp only[vR,jT,e]
  exact⟨trivial,trivial⟩
 | ptr s col l hl=>
  intro hag hcl';have hn:h1 s≠none:=by
   intro h0;simp only[vR,h0,eL]at hcl';cases hcl'
  have e:=hag s l hl hn;simp only[vR,jT,e]
  exact⟨trivial,trivial⟩
 | clo f first caps vs us hl h hl' h' ih ih'=>
  intro hag hc;simp only[vR,eL]at hc;split at hc
  ·rename_i hc1;have each:∀(i:Nat) a,first[i]?=some a->vR h2 a=vR h1 a∧(jT h2 a↔jT h1 a):=by
    intro i a hi;have hlt:i<vs.size:=by rw[<-hl];exact(DS.1 hi).1
    exact ih i a vs[i] hi (aX hlt) hag (fX _ hc1 i _ (by rw[lZ,hi];rfl))
   have each':∀(i:Nat) a,caps[i]?=some a->vR h2 a=vR h1 a∧(jT h2 a↔jT h1 a):=by
    intro i a hi;have hlt:i<us.size:=by rw[<-hl'];exact(DS.1 hi).1
    exact ih' i a us[i] hi (aX hlt) hag (fX _ hc i _ (by rw[lZ,hi];rfl))
   have ext:∀(cs:List AV),(∀(i:Nat) a,cs[i]?=some a->vR h2 a=vR h1 a∧(jT h2 a↔jT h1 a))->sF h2 cs=sF h1 cs∧(jZ h2 cs↔jZ h1 cs):=by
    intro cs each;constructor
    ·apply dC;intro i;rw[lZ,lZ]
     cases hi:cs[i]? with
     |none=>rfl
     |some a=>simp only[dJ,(each i a hi).1]
    ·rw[pN,pN];exact⟨λH i a hi=>(each i a hi).2.1 (H i a hi),λH i a hi=>(each i a hi).2.2 (H i a hi)⟩
   obtain⟨p1,p2⟩:=ext first each
   obtain⟨q1,q2⟩:=ext caps each';refine⟨by simp only[vR,p1,q1],?_⟩;show(jZ h2 first∧jZ h2 caps)↔(jZ h1 first∧jZ h1 caps);rw[p2,q2]
  ·cases hc
 |_=>intro _ _;exact⟨rfl,Iff.rfl⟩
def Nm{args:List AV}{vs:List Value}(hr:RepL S w β args vs)(hag:AZ β h1 h2)(hc:eR (sF h1 args)=true):sF h2 args=sF h1 args∧(jZ h2 args↔jZ h1 args):=by
 have each:∀(i:Nat) a,args[i]?=some a->vR h2 a=vR h1 a∧(jT h2 a↔jT h1 a):=by
  intro i a hi;have hlt:i<vs.length:=by rw[<-hr.1];exact(DS.1 hi).1
  exact Nl (hr.2 i a _ hi (aA hlt)) hag (fX _ hc i _ (by rw[lZ,hi];rfl))
 constructor
 ·apply dC;intro i;rw[lZ,lZ]
  cases hi:args[i]? with
  |none=>rfl
  |some a=>simp only[dJ,(each i a hi).1]
 ·rw[pN,pN];exact⟨λH i a hi=>(each i a hi).2.1 (H i a hi),λH i a hi=>(each i a hi).2.2 (H i a hi)⟩
theorem RN.refl:RN h1 h2 s wr β h1 h2:=⟨λ_ h=>h,λb _ h=>by rcases h with h|h<;>exact absurd rfl h⟩
def IR{ev:Operand->AV}{ρ:Operand->Value}(op:Op)(hev:∀x∈op.operands,Rep S w β (ev x) (ρ x))(hag:qF op=true->AZ β h1 h2):
  Tr h1 h2 s (lO op) β (opA C ev h1 s op) (opA C ev h2 s op):=by
 have ok:∀(wr:Bool) (x:Option AV),Tr h1 h2 s wr β (okO x) (okO x):=λwr x=>by cases x<;>first|trivial|rfl
 cases op<;>simp only[Op.operands]at hev<;>simp only[opA]<;>try (exact trivial)
 case move x=>rfl
 case assign x=>rfl
 case pick c a b=>
  refine Tr.of_eq rfl ?_;unfold Hm;split<;>first|exact .inl rfl|exact .inr rfl
 case alloc t=>split<;>first|trivial|exact⟨_,rfl,RN.new _⟩
 case box t x=>split<;>first|trivial|exact⟨_,rfl,RN.new _⟩
 case build t ps=>
  refine Tr.of_eq rfl ?_;have o:∀x:Option AV,isFx (okO x)=false∨okO x=.bad:=λx=>by cases x<;>first|exact .inl rfl|exact .inr rfl
  unfold BP
  repeat' split
  all_goals first|exact o _|exact .inr rfl
 case buildSlice t n ps=>
  refine Tr.of_eq rfl ?_
  repeat' split
  all_goals first|exact .inl rfl|exact .inr rfl
 case load t a=>exact UP t (hev a (by simp)) (hag rfl)
 case store t a x=>
  have hag:=hag rfl;have ha:=hev a (by simp);split
  ·split
   ·generalize ev a=av at ha;generalize ρ a=va at ha;cases ha<;>try (exact trivial)
    case ptr b c l hl=>
     simp only
     cases hb:h1 b with
     |none=>exact trivial
     | some blk=>
      rw[hag b l hl (by rw[hb];simp),hb]
      cases blk with
      |arr=>exact trivial
      |row=>exact trivial
      |box cells=>
       simp only;split
       ·exact⟨_,rfl,RN.set hl (by rw[hb];simp) _⟩
       ·trivial
    case ptr2 b r c l hl=>
     simp only
     cases hb:h1 b with
     |none=>exact trivial
     | some blk=>
      rw[hag b l hl (by rw[hb];simp),hb]
      cases blk with
      |box cells=>exact trivial
      | arr rows rs=>
       refine⟨_,rfl,λrow h1' hf=>?_⟩;dsimp only at hf⊢;split at hf
       ·rename_i e1 e2;injection hf with hf;subst hf;exact⟨_,by simp only,RN.set hl (by rw[hb];simp) _⟩
       ·cases hf
      | row cells=>
       refine⟨_,rfl,λrow h1' hf=>?_⟩;dsimp only at hf⊢;split at hf
       ·injection hf with hf;subst hf;exact⟨_,rfl,RN.set hl (by rw[hb];simp) _⟩
       ·cases hf
   ·trivial
  ·trivial
 case nilCheck x=>
  refine Tr.of_eq rfl ?_;unfold Sh;split<;>first|exact .inl rfl|exact .inr rfl
 case binOp op t x y yt=>
  refine Tr.of_eq rfl ?_;unfold BM Sd Hi Sc BL Hj
  repeat' split
  all_goals first|exact .inl rfl|exact .inr rfl
 case unOp op t x=>
  refine Tr.of_eq rfl ?_;unfold unA;split<;>first|exact .inl rfl|exact .inr rfl
 case convert src dst x=>exact UQ src dst (hev x (by simp)) (hag rfl)
 case makeFunc fn first caps=>cases fn<;>first|trivial|rfl
 case makeSlice t l c=>
  unfold Jb
  repeat' split
  all_goals first|trivial|exact⟨_,rfl,RN.new _⟩
 case slice t x lo hi mx=>exact RO t (hev x (by simp)) (hag rfl)
 case fieldAddr t x f=>
  refine Tr.of_eq rfl ?_;unfold oH
  repeat' split
  all_goals first|exact .inl rfl|exact .inr rfl
 case field t x f=>
  have o:∀x:Option AV,isFx (okO x)=false∨okO x=.bad:=λx=>by cases x<;>first|exact .inl rfl|exact .inr rfl
  refine Tr.of_eq rfl ?_;unfold Ab
  repeat' split
  all_goals first|exact o _|exact .inr rfl
 case indexAddr t x i=>exact IQ t (hev x (by simp)) (hag rfl)
 case index t x i=>
  refine Tr.of_eq rfl ?_;unfold BO
  repeat' split
  all_goals first|exact .inl rfl|exact .inr rfl
 case extract x i=>
  have o:∀x:Option AV,isFx (okO x)=false∨okO x=.bad:=λx=>by cases x<;>first|exact .inl rfl|exact .inr rfl
  refine Tr.of_eq rfl ?_;unfold sI;split<;>first|exact o _|exact .inr rfl
 case call c=>
  obtain⟨callee,args,ats⟩:=c
  cases callee with
  |value f=>
   simp only
   split<;>first|rfl|trivial
  |invoke r m=>trivial
  | builtin b=>
   simp only[Call.operands,Array.empty_append]at hev;have two:∀(x y:AV),args.toList.map ev=[x,y]->∃v u,Rep S w β x v∧Rep S w β y u:=by
    intro x y hx;have hargs:RepL S w β (args.toList.map ev) (args.toList.map ρ):=RepL.of_map _ λx hx=>hev x (by simpa using hx);rw[hx]at hargs;have hl:args.toList.length=2:=by simpa using hargs.1.symm
    match hq:args.toList,hl with
    |[a,b],_=>exact⟨ρ a,ρ b,hargs.2 0 x (ρ a) rfl (by simp[hq]),hargs.2 1 y (ρ b) rfl (by simp[hq])⟩
   simp only;cases b<;>try (simp only[bK];exact trivial)
   case append=>
    match hA:args.toList.map ev with
    |[]=>simp only[bK];exact trivial
    |[_]=>simp only[bK];exact trivial
    |_::_::_::_=>simp only[bK];exact trivial
    |[x,y]=>
     obtain⟨v,u,hx,hy⟩:=two x y hA;exact OE ats.toList hx hy (hag rfl)
   case copy=>
    match hA:args.toList.map ev with
    |[]=>simp only[bK];exact trivial
    |[_]=>simp only[bK];exact trivial
    |_::_::_::_=>simp only[bK];exact trivial
    |[x,y]=>
     obtain⟨v,u,hx,hy⟩:=two x y hA;simp only[bK];exact UR ats.toList hx hy (hag rfl)
   case len=>
    match hA:args.toList.map ev with
    |[]=>simp only[bK];exact trivial
    |_::_::_=>simp only[bK];exact trivial
    | [x]=>
     match hT:ats.toList with
     |[]=>simp only[bK];exact trivial
     |_::_::_=>simp only[bK];exact trivial
     |[t]=>
      simp only[bK];refine Tr.of_eq rfl ?_;unfold Se;split<;>first|exact .inl rfl|exact .inr rfl
   case min=>
    match hA:args.toList.map ev with
    |[]=>simp only[bK];exact trivial
    |[_]=>simp only[bK];exact trivial
    |_::_::_::_=>simp only[bK];exact trivial
    |[x,y]=>
     simp only[bK];refine Tr.of_eq rfl ?_;unfold Sf
     repeat' split
     all_goals first|exact .inl rfl|exact .inr rfl
   case max=>
    match hA:args.toList.map ev with
    |[]=>simp only[bK];exact trivial
    |[_]=>simp only[bK];exact trivial
    |_::_::_::_=>simp only[bK];exact trivial
    |[x,y]=>
     simp only[bK];refine Tr.of_eq rfl ?_;unfold Sg
     repeat' split
     all_goals first|exact .inl rfl|exact .inr rfl
def Nn{ev:Operand->AV}(op:Op)(hc:∀c:Call,op≠ .call c){f:FuncId}{args:List AV}:opA C ev h1 s op≠ .call f args:=by
  intro h;have o:∀x:Option AV,okO x≠ .call f args:=λx hx=>by cases x<;>simp[okO]at hx
  cases op<;>simp only[opA]at h
  case call c=>exact hc c rfl
  case makeFunc fn first caps=>cases fn<;>cases h
  all_goals first
    | (simp only[Hm,AG,BP,tJ,Sh,unA,BM,Sd,Hi,Sc,BL,Hj,Fq,Dr,Jb,uU,BN,oH,Ab,jC,pO,BO,sI]at h
       (repeat' split at h)<;>first|(cases h;done)|(exact o _ h))
    |((repeat' split at h)<;>first|(cases h;done)|(exact o _ h))
    |(cases h;done)
def RP{ev:Operand->AV}{ρ:Operand->Value}(op:Op)(hev:∀x∈op.operands,Rep S w β (ev x) (ρ x)){f:FuncId}{args:List AV}(hc:opA C ev h1 s op=.call f args):qF op=true∧∃vs,RepL S w β args vs:=by
 by_cases h:∃c:Call,op=.call c
 ·obtain⟨c,rfl⟩:=h;refine⟨rfl,?_⟩;obtain⟨callee,as_,ats⟩:=c;simp only[Op.operands]at hev
  cases callee with
  |invoke r m=>simp only[opA]at hc;cases hc
  | value g=>
   simp only[opA]at hc;split at hc
   ·rename_i g' first caps he
    injection hc with q1 q2;subst q2;have hf:=hev g (by simp[Call.operands]);rw[he]at hf;generalize ρ g=v at hf
    cases hf with
    |clo _ _ _ vs us hl hr hl' hr'=>
    exact⟨vs.toList++as_.toList.map ρ++us.toList,RepL.append (RepL.append ⟨by simpa using hl,λi a u p q=>hr i a u p (by simpa using q)⟩ (RepL.of_map _ λx hx=>hev x (by simp[Call.operands];exact .inr (by simpa using hx)))) ⟨by simpa using hl',λi a u p q=>hr' i a u p (by simpa using q)⟩⟩
   ·cases hc
  |builtin b=>
   simp only[opA]at hc;exfalso;unfold bK at hc;simp only[Se,Sf,Sg,Eg,qM]at hc
   (repeat' split at hc)<;>cases hc
 ·exact absurd hc (Nn op λc hc=>h ⟨c,hc⟩)
def wN{R:FuncId->List AV->AV->Prop}{ev:Operand->AV}{ρ:Operand->Value}(op:Op)(hev:∀x∈op.operands,Rep S w β (ev x) (ρ x))(hag:qF op=true->AZ β h1 h2){x:AV}{h1':AH}(hn:NodeR C R h1 (opA C ev h1 s op) x h1'):
  ∃h2',NodeR C R h2 (opA C ev h2 s op) x h2'∧RN h1 h2 s (lO op) β h1' h2':=by
 have T:=IR (C:=C) (s:=s) op hev hag
 cases hr:opA C ev h1 s op with
 |bad=>rw[hr]at hn;exact hn.elim
 |ok y=>rw[hr]at hn T;obtain⟨rfl,rfl⟩:=hn;exact⟨h2,by rw[show opA C ev h2 s op=.ok x from T];exact⟨rfl,rfl⟩,RN.refl⟩
 |need p y=>rw[hr]at hn T;obtain⟨hp,rfl,rfl⟩:=hn;exact⟨h2,by rw[show opA C ev h2 s op=.need p x from T];exact⟨hp,rfl,rfl⟩,RN.refl⟩
 |idx rows i f=>rw[hr]at hn T;obtain⟨row,h0,h3,h4,rfl⟩:=hn;exact⟨h2,by rw[show opA C ev h2 s op=.idx rows i f from T];exact⟨row,h0,h3,h4,rfl⟩,RN.refl⟩
 |fx p y k=>rw[hr]at hn T;obtain⟨hp,rfl,rfl⟩:=hn;obtain⟨h2',e1,e2⟩:=T;exact⟨h2',by rw[e1];exact⟨hp,rfl,rfl⟩,e2⟩
 |idxfx rows i f=>rw[hr]at hn T;obtain⟨row,h0,h3,h4,rfl⟩:=hn;obtain⟨f2,e1,e2⟩:=T;obtain⟨h2',e3,e4⟩:=e2 row h1' h4;exact⟨h2',by rw[e1];exact⟨row,h0,h3,e3,rfl⟩,e4⟩
 |str p rows=>rw[hr]at hn T;obtain⟨l,hp,h3,rfl,rfl⟩:=hn;exact⟨h2,by rw[show opA C ev h2 s op=.str p rows from T];exact⟨l,hp,h3,rfl,rfl⟩,RN.refl⟩
 |call f args=>
  rw[hr]at hn T;obtain⟨c1,c2,c3,c4,rfl⟩:=hn;obtain⟨hrd,vs,hargs⟩:=RP (C:=C) (s:=s) op hev hr;obtain⟨e1,e2⟩:=Nm hargs (hag hrd) c1;refine⟨h2,?_,RN.refl⟩;rw[show opA C ev h2 s op=.call f args from T];exact⟨by rw[e1];exact c1,c2.imp id (λh=>⟨h.1,e2.2 h.2⟩),c3,by rw[e1];exact c4,rfl⟩
end
theorem maskE_spec(acc:List Nat):∀(es:List Edge) (m i:Nat),(OW acc es m).testBit i=true->m.testBit i=true∨∃e∈es,Region.binds .any e=true∧(i=e.on∨(acc.getD e.on 0).testBit i=true)
 |[],m,i,h=>.inl h
 | e::es,m,i,h=>by
  simp only[OW]at h;rcases maskE_spec acc es _ i h with h|⟨e',h1,h2⟩
  ·split at h
   ·rename_i hb;simp only[Nat.testBit_or,Nat.testBit_two_pow,dI,bB]at h;rcases h with (h|h)|h
    ·exact .inl h
    ·exact .inr ⟨e,bI,hb,.inl h.symm⟩
    ·exact .inr ⟨e,bI,hb,.inr h⟩
   ·exact .inl h
  ·exact .inr ⟨e',bP _ h1,h2⟩
def Xa(l:List Oper)(X:Nat->Prop):Prop:=∀j oj,X j->l[j]?=some oj->∀e∈oj.after.toList,Region.binds .any e=true->X e.on
theorem FQ{l:List Oper}{X:Nat->Prop}(hX:Xa l X):∀(rest pre:List Oper) (acc:List Nat),l=pre++rest->acc.length=pre.length->
  (∀j oj,j<pre.length->l[j]?=some oj->(∀e∈oj.after.toList,Region.binds .any e=true->X e.on)->∀i,(acc.getD j 0).testBit i=true->X i)->
  ∀j oj,l[j]?=some oj->(∀e∈oj.after.toList,Region.binds .any e=true->X e.on)->∀i,((yU rest acc).getD j 0).testBit i=true->X i
 |[],pre,acc,hl,ha,H,j,oj,hj,hp,i,hi=>by
  have hlt:j<pre.length:=by rw[hl,dR]at hj;exact(DS.1 hj).1
  exact H j oj hlt hj hp i hi
 | o ::rest,pre,acc,hl,ha,H,j,oj,hj,hp,i,hi=>by
  refine FQ hX rest (pre++[o]) (acc++[OW acc o.after.toList 0]) (by rw[hl];simp) (by simp[ha]) ?_ j oj hj hp i hi;intro j oj hlt hj hp i hi;rw[aQ]at hlt;by_cases hjp:j<pre.length
  ·rw[bL,cO (by omega), <-bL]at hi;exact H j oj hjp hj hp i hi
  ·have hje:j=pre.length:=by simp at hlt;omega
   subst hje;have hoj:oj=o:=by
    rw[hl,bU (aC _),fG]at hj;simpa using hj.symm
   subst hoj;rw[bL,bU (by omega),ha,fG]at hi;simp only[cP,gF]at hi;rcases maskE_spec acc _ _ _ hi with h|⟨e,h1,h2,h3⟩
   ·simp at h
   ·have hXe:=hp e h1 h2;rcases h3 with rfl|h3
    ·exact hXe
    ·rcases al_Nat_lt_or_ge e.on acc.length with hea|hea
     ·have hel:e.on<l.length:=by rw[hl,aQ];omega
      exact H e.on l[e.on] (by omega) (aA hel) (hX e.on _ hXe (aA hel)) i h3
     ·rw[bL,bO hea]at h3;simp at h3
def yO{l:List Oper}{X:Nat->Prop}(hX:Xa l X){j:Nat}{oj:Oper}(hj:l[j]?=some oj)(hp:∀e∈oj.after.toList,Region.binds .any e=true->X e.on){i:Nat}(hi:((yU l []).getD j 0).testBit i=true):X i:=
 FQ hX l [] [] rfl rfl (λj oj h=>absurd h (by simp)) j oj hj hp i hi
structure DrawOk(l:List Oper):Prop where
 back:∀j oj,l[j]?=some oj->∀e∈oj.after.toList,Region.binds .any e=true->e.on<j
 slot:∀i j oi oj d,l[i]?=some oi->l[j]?=some oj->i≠j->oi.dst=some d->d∈pE l oj->Jc (yU l []) i j=true
 mem:∀i j oi oj,l[i]?=some oi->l[j]?=some oj->i≠j->lO oi.op=true->qF oj.op=true->Jc (yU l []) i j=true
def Ks{l:List Oper}(h:Jd l=true):DrawOk l:=by
  have main:∀j oj,l[j]?=some oj->(oj.after.toList.all λe=> !Region.binds .any e||Nat.blt e.on j)=true∧∀i oi,l[i]?=some oi->(i==j||
          ((match oi.dst with|none=>true|some d=> !(pE l oj).contains d||Jc (yU l []) i j)&&
           (!(lO oi.op&&qF oj.op)||Jc (yU l []) i j)))=true:=by
    intro j oj hj;have hjl:j<l.length:=(DS.1 hj).1;have h1:=lE.1 h j (by simpa using hjl);simp only[hj,aJ]at h1;refine⟨h1.1,λi oi hi=>?_⟩;have hil:i<l.length:=(DS.1 hi).1;have h2:=lE.1 h1.2 i (by simpa using hil);simp only[hi]at h2;exact h2
  refine⟨λj oj hj e he hb=>?_,λi j oi oj d hi hj hne hd hl=>?_,λi j oi oj hi hj hne hw hr=>?_⟩
  · have:=lE.1 (main j oj hj).1 e he
    simp only[hb,lY,eG]at this;exact aP this
  · have:=(main j oj hj).2 i oi hi
    have hb:(i==j)=false:=by simpa using hne
    simp only[hb,eG,aJ,hd]at this;have h1:=this.1;rw[show(pE l oj).contains d=true by simpa using hl]at h1;simpa using h1
  · have:=(main j oj hj).2 i oi hi
    have hb:(i==j)=false:=by simpa using hne
    simp only[hb,eG,aJ]at this;have h1:=this.2;simpa [hw,hr]using h1
end Go.Proofs.YtgleompefdogkaaGreatDoor
namespace Go.Proofs.YtgleompefdogkaaGreatDoor
open Go.RowKit
section
variable {C:Ctx}{V:Inv C.fr}{R:FuncId->List AV->AV->Prop}{all:List Oper}{n:Nat}{K:ASt->Prop}
theorem GU(nH:NoH C):∀(rest:List Oper) (j:Nat) (t:Nat->AV) (h:AH),jY C R all rest j ⟨t,h,n⟩ K->∃(xs:Nat->AV) (hh:Nat->AH) (tt:Nat->Nat->AV),tt j=t∧hh j=h∧
  (∀k o,rest[k]?=some o->StepR C R all o (n+(j+k)) (tt (j+k)) (hh (j+k)) (xs (j+k)) (hh (j+k+1))∧tt (j+k+1)=zQ (tt (j+k)) o.dst (xs (j+k)))∧K ⟨tt (j+rest.length),hh (j+rest.length),n+(j+rest.length)⟩
 |[],j,t,h,hr=>⟨λ_=>.any,λ_=>h,λ_=>t,rfl,rfl,λk o hk=>by simp at hk,hr⟩
 | o::rest,j,t,h,hr=>by
  obtain⟨x,h',h1,h2⟩:=(step_inv hr).resolve_right λ⟨_,f,args,Post,_,hH,_⟩=>nH _ _ _ _ _ hH;obtain⟨xs,hh,tt,e1,e2,e3,e4⟩:=GU nH rest (j+1) _ h' h2;refine⟨λk=>if k=j then x else xs k,λk=>if k=j then h else hh k,λk=>if k=j then t else tt k,by simp,by simp,λk o' hk=>?_,?_⟩
  ·cases k with
   |zero=>
    simp only[cP,Option.some.injEq]at hk;subst hk;simp only[iW,kY,show ¬j+1=j by omega,iJ,e1,e2]
    exact⟨h1,trivial⟩
   |succ k=>
    simp only[dE]at hk;have:=e3 k o' hk;simp only[show ¬j+(k+1)=j by omega,show ¬j+(k+1)+1=j by omega,iJ];rw[show j+(k+1)=j+1+k by omega];exact this
  ·simp only[bN,show ¬j+(rest.length+1)=j by omega,iJ];rw[show j+(rest.length+1)=j+1+rest.length by omega];exact e4
def RL{ev:Operand->AV}{h:AH}{s:Nat}(op:Op):(∀p x h',opA C ev h s op=.fx p x h'->∀b,b≠s->h' b≠h b->lO op=true∧h b≠none)∧
    (∀rows i f,opA C ev h s op=.idxfx rows i f->∀row h',f row=some h'->∀b,b≠s->h' b≠h b->lO op=true∧h b≠none):=by
  have new:∀(blk:Option Blk) b,b≠s->upd h s blk b≠h b->False:=λblk b hb hn=>hn (cH _ _ hb);have set:∀(b0:Nat) (blk:Option Blk) b,upd h b0 blk b≠h b->b=b0:=λb0 blk b hn=>Classical.byContradiction λe=>hn (cH _ _ e);have oB:∀(x:Option AV) p y h',okO x≠ .fx p y h':=λx p y h' hx=>by cases x<;>simp[okO]at hx
  have oI:∀(x:Option AV) rows i f,okO x≠ .idxfx rows i f:=λx rows i f hx=>by cases x<;>simp[okO]at hx
  constructor
  · intro p x h' he b hb hn
    cases op<;>simp only[opA]at he
    case makeFunc fn a c=>cases fn<;>cases he
    case store t a v=>
      refine⟨rfl,?_⟩
      (repeat' split at he)<;>first|(cases he;done)|skip
      rename_i hq _ _;injection he with _ _ he;subst he;rw[set _ _ _ hn,hq];simp
    case convert src dst x=>
      simp only[Fq,Dr]at he
      (repeat' split at he)<;>first|(cases he;done)|skip
      injection he with _ _ he;subst he;exact(new _ b hb hn).elim
    case makeSlice t l c=>
      simp only[Jb]at he
      (repeat' split at he)<;>first|(cases he;done)|skip
      injection he with _ _ he;subst he;exact(new _ b hb hn).elim
    case alloc t=>
      split at he
      · injection he with _ _ he;subst he
        exact(new _ b hb hn).elim
      · cases he
    case box t x=>
      split at he
      · injection he with _ _ he;subst he
        exact(new _ b hb hn).elim
      · cases he
    case call c =>
      obtain⟨callee,args,ats⟩:=c
      cases callee with
      |value f=>simp only at he;split at he<;>cases he
      |invoke r m=>cases he
      | builtin bi=>
        simp only at he;cases bi<;>try (simp only[bK]at he;cases he;done)
        case append=>
          refine⟨rfl,?_⟩
          match hA:args.toList.map ev with
          |[]=>rw[hA]at he;simp only[bK]at he;cases he
          |[_]=>rw[hA]at he;simp only[bK]at he;cases he
          |_::_::_::_=>rw[hA]at he;simp only[bK]at he;cases he
          | [x',y']=>
            rw[hA]at he;simp only[bK]at he;have key:∀(rx ry:Option (Nat×List (List AV))) (blk:Option Blk) (px py:Prop),blk=Ds h x'->qM C s ats.toList x' rx ry blk px py h=.fx p x h'->h b≠none:=by
              intro rx ry blk px py hbk he;unfold qM at he
              (repeat' split at he)<;>first|(cases he;done)|skip
              · injection he with _ _ he;subst he;exact(new _ b hb hn).elim
              · injection he with _ _ he;subst he;exact(new _ b hb hn).elim
              · injection he with _ _ he;subst he;exact(new _ b hb hn).elim
              · injection he with _ _ he;subst he
                rw[cH _ _ hb]at hn;rw[set _ _ _ hn];simp only[Ds]at hbk;rw[<-hbk];simp
            exact key _ _ _ _ _ rfl he
        case copy=>
          refine⟨rfl,?_⟩
          match hA:args.toList.map ev with
          |[]=>rw[hA]at he;simp only[bK]at he;cases he
          |[_]=>rw[hA]at he;simp only[bK]at he;cases he
          |_::_::_::_=>rw[hA]at he;simp only[bK]at he;cases he
          | [x',y']=>
            rw[hA]at he;simp only[bK,Eg]at he
            (repeat' split at he)<;>first|(cases he;done)|skip
            rename_i hq _ _ _ _ _;injection he with _ _ he;subst he;rw[set _ _ _ hn,hq];simp
        case len=>
          match hA:args.toList.map ev with
          |[]=>rw[hA]at he;simp only[bK]at he;cases he
          |_::_::_=>rw[hA]at he;simp only[bK]at he;cases he
          | [x']=>
            rw[hA]at he
            match hT:ats.toList with
            |[]=>rw[hT]at he;simp only[bK]at he;cases he
            |_::_::_=>rw[hT]at he;simp only[bK]at he;cases he
            | [t']=>
              rw[hT]at he;simp only[bK,Se]at he
              (repeat' split at he)<;>cases he
        case min=>
          match hA:args.toList.map ev with
          |[]=>rw[hA]at he;simp only[bK]at he;cases he
          |[_]=>rw[hA]at he;simp only[bK]at he;cases he
          |_::_::_::_=>rw[hA]at he;simp only[bK]at he;cases he
          | [x',y']=>
            rw[hA]at he;simp only[bK,Sf]at he
            (repeat' split at he)<;>cases he
        case max=>
          match hA:args.toList.map ev with
          |[]=>rw[hA]at he;simp only[bK]at he;cases he
          |[_]=>rw[hA]at he;simp only[bK]at he;cases he
          |_::_::_::_=>rw[hA]at he;simp only[bK]at he;cases he
          | [x',y']=>
            rw[hA]at he;simp only[bK,Sg]at he
            (repeat' split at he)<;>cases he
    all_goals first
      | (simp only[Hm,BP,tJ,Sh,unA,BM,Sd,Hi,Sc,BL,Hj,uU,BN,oH,Ab,jC,pO,BO,sI]at he
         (repeat' split at he)<;>first|(cases he;done)|(exact absurd he (oB _ _ _ _)))
      |((repeat' split at he)<;>first|(cases he;done)|(exact absurd he (oB _ _ _ _)))
      |(cases he;done)
  · intro rows i f he row h' hf b hb hn
    cases op<;>simp only[opA]at he
    case makeFunc fn a c=>cases fn<;>cases he
    case store t a v=>
      refine⟨rfl,?_⟩
      (repeat' split at he)<;>first|(cases he;done)|skip
      all_goals
        injection he with _ _ he;subst he;dsimp only at hf
        (repeat' split at hf)<;>first
          |(cases hf;done)
          | (injection hf with hf
             subst hf;rw[set _ _ _ hn];intro h0
             simp_all)
    case call c=>
      obtain⟨callee,args,ats⟩:=c
      cases callee with
      |value f=>simp only at he;split at he<;>cases he
      |invoke r m=>cases he
      | builtin bi=>
        exfalso;simp only at he;unfold bK at he;simp only[Se,Sf,Sg,Eg,qM]at he
        (repeat' split at he)<;>cases he
    all_goals first
      | (simp only[Hm,BP,tJ,Sh,unA,BM,Sd,Hi,Sc,BL,Hj,Fq,Dr,Jb,uU,BN,oH,Ab,jC,pO,BO,sI]at he
         (repeat' split at he)<;>first|(cases he;done)|(exact absurd he (oI _ _ _ _)))
      |((repeat' split at he)<;>first|(cases he;done)|(exact absurd he (oI _ _ _ _)))
      |(cases he;done)
def Az{o:Oper}{s:Nat}{t:Nat->AV}{h h':AH}{x:AV}(hs:StepR C R all o s t h x h'):∀b,b≠s->h' b≠h b->lO o.op=true∧h b≠none:=by
 intro b hb hn;have main:NodeR C R h (opA C (evA C t) h s o.op) x h'->lO o.op=true∧h b≠none:=λhs=>by
  obtain⟨H1,H2⟩:=RL (C:=C) (ev:=evA C t) (h:=h) (s:=s) o.op
  cases hr:opA C (evA C t) h s o.op with
  |bad=>rw[hr]at hs;exact hs.elim
  |ok y=>rw[hr]at hs;obtain⟨_,rfl⟩:=hs;exact absurd rfl hn
  |need p y=>rw[hr]at hs;obtain⟨_,_,rfl⟩:=hs;exact absurd rfl hn
  |idx rows i f=>rw[hr]at hs;obtain⟨_,_,_,_,rfl⟩:=hs;exact absurd rfl hn
  |str p rows=>rw[hr]at hs;obtain⟨_,_,_,_,rfl⟩:=hs;exact absurd rfl hn
  |call f args=>rw[hr]at hs;obtain⟨_,_,_,_,rfl⟩:=hs;exact absurd rfl hn
  |fx p y h2=>rw[hr]at hs;obtain⟨_,_,rfl⟩:=hs;exact H1 p y h' hr b hb hn
  |idxfx rows i f=>rw[hr]at hs;obtain⟨row,_,_,hf,_⟩:=hs;exact H2 rows i f hr row h' hf b hb hn
 unfold StepR at hs
 cases hg:o.guard with
 |some q=>
  obtain⟨i,pol⟩:=q;simp only[hg]at hs;obtain⟨d,g,y,_,_,⟨_,rfl,_⟩|⟨_,hs⟩⟩:=hs
  ·exact absurd rfl hn
  ·exact main hs
 |none=>simp only[hg]at hs;exact main hs
def valX(X:Nat->Bool)(l:List Oper)(xs:Nat->AV)(t:Nat->AV):Nat->Nat->AV
 |0=>t
 |k+1=>match l[k]? with
  |some o=>(match X k with|true=>zQ (valX X l xs t k) o.dst (xs k)|false=>valX X l xs t k)
  |none=>valX X l xs t k
variable {l:List Oper}{xs:Nat->AV}{t:Nat->AV}
def xN{f:Nat->AV}{d:Option Nat}{x:AV}{i:Nat}(h:d≠some i):zQ f d x i=f i:=by
 cases d with
 |none=>rfl
 |some k=>exact cH _ _ (λe=>h (by rw[e]))
def zY{f:Nat->AV}{x:AV}{i:Nat}:zQ f (some i) x i=x:=cZ _ _ _
theorem uF{X Y:Nat->Bool}{tmp:Nat}:∀(k:Nat),(∀i o,i<k->l[i]?=some o->o.dst=some tmp->X i=Y i)->valX X l xs t k tmp=valX Y l xs t k tmp
 |0,_=>rfl
 | k+1,H=>by
  have ih:=uF k λi o hi=>H i o (by omega);simp only[valX]
  cases ho:l[k]? with
  |none=>exact ih
  | some o=>
   by_cases hd:o.dst=some tmp
   ·have:=H k o (by omega) ho hd;rw[this]
    cases Y k with
    |true=>simp only[hd,zY]
    |false=>exact ih
   ·cases X k<;>cases Y k<;>simp only[xN hd,ih]
theorem DF{X:Nat->Bool}{tmp j:Nat}:∀(k:Nat),j<=k->(∀i o,j<=i->i<k->l[i]?=some o->o.dst=some tmp->X i=false)->valX X l xs t k tmp=valX X l xs t j tmp
 |0,hj,_=>by rw[show j=0 by omega]
 | k+1,hj,H=>by
  by_cases he:j=k+1
  ·rw[he]
  ·have ih:=DF (tmp:=tmp) k (by omega) λi o h1 h2=>H i o h1 (by omega);rw[<-ih];simp only[valX]
   cases ho:l[k]? with
   |none=>rfl
   |some o=>
    by_cases hd:o.dst=some tmp
    ·rw[H k o (by omega) (by omega) ho hd]
    ·cases X k<;>simp only[xN hd]
theorem DY{tt:Nat->Nat->AV}(h0:tt 0=t)(hs:∀k o,l[k]?=some o->tt (k+1)=zQ (tt k) o.dst (xs k)):∀j,j<=l.length->tt j=valX (λ_=>true) l xs t j
 |0,_=>h0
 |j+1,hj=>by
  have ih:=DY h0 hs j (by omega);have ho:l[j]?=some l[j]:=aA (by omega);rw[hs j _ ho,ih];simp only[valX,ho]
def Ud{j:Nat}(tmp:Nat)(hj:j<=l.length):valX (λk=>decide (k<j)) l xs t l.length tmp=valX (λ_=>true) l xs t j tmp:=by
 rw[DF (j:=j) l.length hj (λi o h1 _ _ _=>by simpa using h1)];exact uF j λi o hi _ _=>by simpa using hi
end
end Go.Proofs.YtgleompefdogkaaGreatDoor
namespace Go.Proofs.YtgleompefdogkaaGreatDoor
open Go.RowKit
section
variable {C:Ctx}{V:Inv C.fr}
def nK{ev ev':Operand->AV}{h:AH}{s:Nat}(op:Op)(he:∀x∈op.operands,ev x=ev' x):opA C ev h s op=opA C ev' h s op:=by
 cases op<;>simp only[Op.operands]at he<;>simp only[opA]
 case move x=>rw[he x (by simp)]
 case assign x=>rw[he x (by simp)]
 case pick c a b=>rw[he c (by simp),he a (by simp),he b (by simp)]
 case box t x=>rw[he x (by simp)]
 case build t ps=>
  rw[jK (f:=λp:Nat×Operand=>(p.1,ev p.2)) (g:=λp:Nat×Operand=>(p.1,ev' p.2)) λp hp=>by rw[he p.2 (by simp;exact⟨p.1,by simpa using hp⟩)]]
 case buildSlice t n ps=>
  rw[jK (f:=λp:Nat×Operand=>(p.1,ev p.2)) (g:=λp:Nat×Operand=>(p.1,ev' p.2)) λp hp=>by rw[he p.2 (by simp;exact⟨p.1,by simpa using hp⟩)]]
 case load t a=>rw[he a (by simp)]
 case store t a x=>rw[he a (by simp),he x (by simp)]
 case nilCheck x=>rw[he x (by simp)]
 case binOp op t x y yt=>rw[he x (by simp),he y (by simp)]
 case unOp op t x=>rw[he x (by simp)]
 case convert src dst x=>rw[he x (by simp)]
 case makeFunc fn first caps=>
  cases fn<;>try rfl
  simp only;rw[jK (f:=ev) (g:=ev') (l:=first.toList) λx hx=>he x (by simp;exact .inl (by simpa using hx)),jK (f:=ev) (g:=ev') (l:=caps.toList) λx hx=>he x (by simp;exact .inr (by simpa using hx))]
 case makeSlice t l c=>rw[he l (by simp),he c (by simp)]
 case slice t x lo hi mx=>
  have opt:∀(y:Option Operand),(∀z,y=some z->ev z=ev' z)->y.map ev=y.map ev':=by
   intro y hy
   cases y with
   |none=>rfl
   |some z=>simp only[dJ,hy z rfl]
  rw[he x (by simp),opt lo λz hz=>he z (by subst hz;simp),opt hi λz hz=>he z (by subst hz;simp),opt mx λz hz=>he z (by subst hz;simp)]
 case fieldAddr t x f=>rw[he x (by simp)]
 case field t x f=>rw[he x (by simp)]
 case indexAddr t x i=>rw[he x (by simp),he i (by simp)]
 case index t x i=>rw[he x (by simp),he i (by simp)]
 case extract x i=>rw[he x (by simp)]
 case call c=>
  obtain⟨callee,args,ats⟩:=c;have ha:args.toList.map ev=args.toList.map ev':=jK λx hx=>he x (by simp[Call.operands];exact .inr (by simpa using hx))
  cases callee with
  |builtin b=>simp only;rw[ha]
  |invoke r m=>rfl
  |value f=>simp only;rw[he f (by simp[Call.operands]),ha]
theorem BE:∀(l:List Operand) (i:Nat),.tmp i∈l->i∈Dv l
 |[],_,h=>by cases h
 | x::l,i,h=>by
  rcases al_List_mem_cons.1 h with rfl|h
  ·simp[Dv]
  ·have:=BE l i h;cases x<;>simp[Dv,this]
theorem zZ{t t':Nat->AV}:∀(l:List Operand),(∀i,.tmp i∈l->t i=t' i)->vQ t l=vQ t' l
 |[],_=>rfl
 |x::l,h=>by
  have ih:=zZ l λi hi=>h i (bP _ hi)
  cases x with
  |tmp i=>simp only[vQ,h i (bI),ih]
  |_=>simp only[vQ,ih]
def CW{t t':Nat->AV}(op:Op)(h:∀i,.tmp i∈op.operands.toList->t i=t' i):condsO t op=condsO t' op:=by
 cases op<;>first|exact zZ _ h|skip
 case pick c x y=>exact zZ [c] λi hi=>h i (by simp at hi;subst hi;exact bI)
def IP{C:Ctx}{t t':Nat->AV}(op:Op)(h:∀x∈op.operands,evA C t x=evA C t' x)(x:Operand)(hx:x∈op.operands):evS C t op x=evS C t' op x:=by
 have e:=h x hx;cases op<;>first|exact congrArg Bm e|skip
 case pick c p q=>show(match KF c x with|true=>Bm (evA C t x)|false=>evA C t x)=(match KF c x with|true=>Bm (evA C t' x)|false=>evA C t' x);rw[e]
variable {all:List Oper}{o:Oper}{s N:Nat}{t tX:Nat->AV}{h h' hX:AH}{a:Act}{w w0:World}{D:Nat->Prop}{S0:Nat->Prop}{S:Nat->Prop}{β:Bt}{R:FuncId->List AV->AV->Prop}{x:AV}
def RM(M:SimD C V w0 S0 N D tX hX a w S β)(hst:StepR C R all o s t h x h')(hlook:∀i∈pE all o,tX i=t i)(hag:qF o.op=true->AZ β h hX):
  ∃h2,StepR C R all o s tX hX x h2∧RN h hX s (lO o.op) β h' h2:=by
 have hops:∀i,.tmp i∈o.op.operands.toList->tX i=t i:=λi hi=>hlook i (by simp only[pE,al_List_mem_append];exact .inl (.inr (BE _ i hi)));have hev:∀x∈o.op.operands,evA C tX x=evA C t x:=λx hx=>by
  cases x with
  |tmp i=>exact hops i (by simpa using hx)
  |_=>rfl
 unfold StepR at hst⊢
 cases hg:o.guard with
 |none=>
  simp only[hg]at hst⊢;rw[nK (ev':=evA C tX) o.op λx hx=>(hev x hx).symm]at hst
  exact wN o.op (λx _=>tD M x) hag hst
 | some q=>
  obtain⟨i,pol⟩:=q;simp only[hg]at hst⊢;obtain⟨d,g,y,q1,q2,⟨q3,rfl,q4⟩|⟨q3,q4⟩⟩:=hst
  case inr=>
   have hd:tX d=t d:=hlook d (by simp only[pE,hg,q1,al_List_mem_append];exact .inr (by simp));rw[nK (ev':=evA C tX) o.op λx hx=>(hev x hx).symm]at q4;obtain⟨h2,e1,e2⟩:=wN o.op (λx _=>tD M x) hag q4;exact⟨h2,⟨d,g,y,q1,by rw[hd];exact q2,.inr ⟨q3,e1⟩⟩,e2⟩
  have hd:tX d=t d:=hlook d (by simp only[pE,hg,q1,al_List_mem_append];exact .inr (by simp));have hcs:condsO tX o.op=condsO t o.op:=CW _ hops;refine⟨hX,⟨d,g,y,q1,by rw[hd];exact q2,.inl ⟨q3,rfl,?_⟩⟩,RN.refl⟩;rcases q4 with ⟨c1,c2⟩|⟨c,c1,c2,c3⟩
  ·refine .inl ⟨by rw[hcs];exact c1,λhg'=>?_⟩;obtain⟨f1,f2⟩:=c2 hg';rw[nK (ev':=evA C tX) o.op λx hx=>(hev x hx).symm]at f1 f2;obtain⟨h2,e1,_⟩:=wN o.op (λx _=>tD M x) hag f2;have T:=IR (C:=C) (s:=s) o.op (λx _=>tD M x) hag;have e2:opA C (evA C tX) hX s o.op=opA C (evA C tX) h' s o.op:=by
    cases hr:opA C (evA C tX) h' s o.op<;>rw[hr]at T f1<;>first|exact T|(simp[isFx]at f1)
   rw[e2]at e1⊢;refine⟨f1,?_⟩;cases hr:opA C (evA C tX) h' s o.op<;>rw[hr]at e1 f1<;>first|(simp[isFx]at f1;done)|skip
   ·obtain⟨rfl,rfl⟩:=e1;exact⟨rfl,rfl⟩
   ·obtain⟨p,rfl,rfl⟩:=e1;exact⟨p,rfl,rfl⟩
   ·obtain⟨row,p1,p2,p3,rfl⟩:=e1;exact⟨row,p1,p2,p3,rfl⟩
   ·obtain⟨l,p1,p2,p3,rfl⟩:=e1;exact⟨l,p1,p2,p3,rfl⟩
   ·obtain⟨p1,p2,p3,p4,rfl⟩:=e1;exact⟨p1,p2,p3,p4,rfl⟩
  ·refine .inr ⟨c,by rw[hcs];exact c1,c2,λhg'=>?_⟩;obtain⟨f1,f2⟩:=c3 hg';rw[nK (ev':=evS C tX o.op) o.op λx hx=>(IP o.op hev x hx).symm]at f1 f2;have hsr:∀x∈o.op.operands,Rep S w β (evS C tX o.op x) (a.eval x):=Ku M o.op (hcs.trans c1) (c2 hg');obtain⟨h2,e1,_⟩:=wN o.op hsr hag f2;have T:=IR (C:=C) (s:=s) o.op hsr hag;have e2:opA C (evS C tX o.op) hX s o.op=opA C (evS C tX o.op) h' s o.op:=by
    cases hr:opA C (evS C tX o.op) h' s o.op<;>rw[hr]at T f1<;>first|exact T|(simp[isFx]at f1)
   rw[e2]at e1⊢;refine⟨f1,?_⟩;cases hr:opA C (evS C tX o.op) h' s o.op<;>rw[hr]at e1 f1<;>first|(simp[isFx]at f1;done)|skip
   ·obtain⟨rfl,rfl⟩:=e1;exact⟨rfl,rfl⟩
   ·obtain⟨p,rfl,rfl⟩:=e1;exact⟨p,rfl,rfl⟩
   ·obtain⟨row,p1,p2,p3,rfl⟩:=e1;exact⟨row,p1,p2,p3,rfl⟩
   ·obtain⟨l,p1,p2,p3,rfl⟩:=e1;exact⟨l,p1,p2,p3,rfl⟩
   ·obtain⟨p1,p2,p3,p4,rfl⟩:=e1;exact⟨p1,p2,p3,p4,rfl⟩
end
end Go.Proofs.YtgleompefdogkaaGreatDoor
namespace Go.Proofs.YtgleompefdogkaaGreatDoor
open Go.RowKit
def lastW(W:Nat->Bool):Nat->Nat
 |0=>0
 |k+1=>match W k with|true=>k+1|false=>lastW W k
theorem DG(W:Nat->Bool):∀k,lastW W k<=k
 |0=>aC _
 |k+1=>by simp only[lastW];split<;>have:=DG W k<;>omega
theorem yP{W:Nat->Bool}:∀(k i:Nat),i<k->W i=true->i+1<=lastW W k
 |0,i,h,_=>by omega
 | k+1,i,h,hi=>by
  simp only[lastW];split
  ·omega
  ·rename_i hk;by_cases he:i=k
   ·subst he;rw[hi]at hk;cases hk
   ·exact yP k i (by omega) hi
theorem lastW_mem{W:Nat->Bool}:∀(k:Nat),lastW W k=0∨W (lastW W k-1)=true
 |0=>.inl rfl
 |k+1=>by
  simp only[lastW];split
  ·rename_i hk;exact .inr (by simpa using hk)
  ·exact lastW_mem k
theorem tI{W:Nat->Bool}:∀(k p:Nat),(∀i,i<k->W i=true->i<p)->lastW W k<=p
 |0,_,_=>aE _
 |k+1,p,h=>by
  simp only[lastW];split
  ·rename_i hk;exact h k (by omega) hk
  ·exact tI k p λi hi=>h i (by omega)
def cntX(X:Nat->Bool):Nat->Nat
 |0=>0
 |k+1=>(match X k with|true=>0|false=>1)+cntX X k
theorem DZ{X:Nat->Bool}:∀k,cntX X k=0->∀i,i<k->X i=true
 |0,_,i,hi=>by omega
 |k+1,h,i,hi=>by
  simp only[cntX]at h;by_cases he:i=k
  ·subst he;cases hx:X i<;>rw[hx]at h<;>first|rfl|(simp at h;done)|(simp at h;omega)
  ·exact DZ k (by omega) i (by omega)
theorem FR{X Y:Nat->Bool}:∀k,(∀i,i<k->X i=Y i)->cntX X k=cntX Y k
 |0,_=>rfl
 |k+1,h=>by simp only[cntX,h k (by omega),FR k λi hi=>h i (by omega)]
theorem GV{X Y:Nat->Bool}{j:Nat}(hj:X j=false)(hy:Y j=true)(ho:∀i,i≠j->Y i=X i):∀k,j<k->cntX Y k+1=cntX X k
 |0,h=>by omega
 | k+1,h=>by
  simp only[cntX];by_cases he:j=k
  ·subst he;rw[hj,hy,FR (X:=Y) (Y:=X) j λi hi=>ho i (by omega)];simp;omega
  ·have:=GV hj hy ho k (by omega);rw[ho k (λe=>he e.symm)];omega
section
variable {C:Ctx}{V:Inv C.fr}{R:FuncId->List AV->AV->Prop}
def OC{l:List Oper}(D:DrawOk l){i j:Nat}{oj:Oper}(hj:l[j]?=some oj)(hi:((yU l []).getD j 0).testBit i=true):i<j:=
 yO (X:=(· <j)) (λk ok hk hok e he hb=>sZ (D.back k ok hok e he hb) hk) hj (λe he hb=>D.back j oj hj e he hb) hi
def Kt{l:List Oper}(D:DrawOk l){X:Nat->Prop}(hX:Xa l X){i j:Nat}{oi oj:Oper}(hi:l[i]?=some oi)(hj:l[j]?=some oj)(hp:∀e∈oj.after.toList,Region.binds .any e=true->X e.on)(hnj: ¬X j)(ho:Jc (yU l []) i j=true):X i↔i<j:=by
 simp only[Jc,dI]at ho;rcases ho with ho|ho
 ·exact⟨λ_=>OC D hj ho,λ_=>yO hX hj hp ho⟩
 ·have hlt:=OC D hi ho;refine⟨λhXi=>absurd (yO hX hi (λe he hb=>hX i oi hXi hi e he hb) ho) hnj,λh=>by omega⟩
theorem Bk{hh:Nat->AH}{b j:Nat}:∀k,j<=k->(∀i,j<=i->i<k->hh (i+1) b=hh i b)->hh k b=hh j b
 |0,hj,_=>by rw[show j=0 by omega]
 | k+1,hj,h=>by
  by_cases he:j=k+1
  ·rw[he]
  ·rw[h k (by omega) (by omega)];exact Bk k (by omega) λi h1 h2=>h i h1 (by omega)
def wrt(l:List Oper)(k:Nat):Bool:=match l[k]? with|some o=>lO o.op|none=>false
def wL:∀(op:Op),lO op=true->qF op=true:=by
 intro op h;cases op<;>first|rfl|(simp[lO]at h)
structure Chn(C:Ctx)(l:List Oper)(n:Nat)(h:AH)(t:Nat->AV)(xs:Nat->AV)(hh:Nat->AH)(tt:Nat->Nat->AV):Prop where
 D:DrawOk l
 step:∀k o,l[k]?=some o->StepR C (cA C) l o (n+k) (tt k) (hh k) (xs k) (hh (k+1))
 next:∀k o,l[k]?=some o->tt (k+1)=zQ (tt k) o.dst (xs k)
 t0:tt 0=t
 h0:hh 0=h
 new:∀s,n<=s->h s=none
 nH:NoH C
variable {l:List Oper}{n:Nat}{h:AH}{t xs:Nat->AV}{hh:Nat->AH}{tt:Nat->Nat->AV}
theorem Chn.quiet(Z:Chn C l n h t xs hh tt){i:Nat}(hi:i<l.length)(hw:wrt l i=false){b:Nat}(hb:b≠n+i):hh (i+1) b=hh i b:=by
 refine Classical.byContradiction λhn=>?_;have ho:l[i]?=some l[i]:=aA hi;have:=(Az (Z.step i _ ho) b hb hn).1;simp only[wrt,ho,this]at hw;cases hw
theorem Chn.live(Z:Chn C l n h t xs hh tt){i:Nat}(hi:i<l.length){b:Nat}(hb:b≠n+i)(hn:hh i b=none):hh (i+1) b=none:=by
 have ho:l[i]?=some l[i]:=aA hi;by_cases he:hh (i+1) b=hh i b
 ·rw[he,hn]
 ·exact absurd hn (Az (Z.step i _ ho) b hb he).2
theorem Chn.fresh(Z:Chn C l n h t xs hh tt){b:Nat}(hb:n<=b):∀k,k<=l.length->n+k<=b->hh k b=none
 |0,_,_=>by rw[Z.h0];exact Z.new b hb
 |k+1,hk,hkb=>Z.live (by omega) (by omega) (Z.fresh hb k (by omega) (by omega))
structure DInv(C:Ctx)(V:Inv C.fr)(l:List Oper)(n:Nat)(h:AH)(t xs:Nat->AV)(hh:Nat->AH)(w0:World)(S0:Nat->Prop)(N:Nat)(X:Nat->Bool)(a:Act)(w:World):Prop where
 down:Xa l (X · =true)
 bnd:∀i,X i=true->i<l.length
 H3:∀k j,X k=true->wrt l k=true->X j=false->j<l.length->hh (k+1) (n+j)=hh k (n+j)
 sim:∃S β hX,SimD C V w0 S0 N (λs=>s<n∨∃i,X i=true∧s=n+i) (valX X l xs t l.length) hX a w S β∧
  (∀s,s<n->hX s=hh (lastW (λi=>X i&&wrt l i) l.length) s)∧
  (∀i,X i=true->hX (n+i)=hh (max (i+1) (lastW (λi=>X i&&wrt l i) l.length)) (n+i))
def OD(hC : CtxOk C)(Z:Chn C l n h t xs hh tt){ops:Array Oper}(hall:ops.toList=l){w0:World}{S0:Nat->Prop}{N:Nat}(hb:vK N l=true){X Y:Nat->Bool}{a:Act}{w:World}(I:DInv C V l n h t xs hh w0 S0 N X a w){j:Nat}{o:Oper}(hj:l[j]?=some o)
    (hp:∀e∈o.after.toList,Region.binds .any e=true->X e.on=true) (hnj:X j=false) (hYj:Y j=true) (hY:∀i,i≠j->Y i=X i) {K:Act->World->Prop} {Q:Exit->Act->World->Prop} (hK:∀a' w',DInv C V l n h t xs hh w0 S0 N Y a' w'->K a' w'):
    if Region.wanted o (yielded ops a.tmps)then o.wp C.P a w K Q∨(o.asks C.P a w∧LetsOut Q)else K (a.put o.dst undef) w:=by
  obtain⟨S,β,hX,M,H1,H2⟩:=I.sim;have hjl:j<l.length:=(DS.1 hj).1;have hnj': ¬(X j=true):=by rw[hnj];simp
  have hs:β (n+j)=none:=by
    cases hq:β (n+j)with
    |none=>rfl
    | some loc=>
      rcases M.dom _ _ hq with h|⟨i,hi,he⟩
      · omega
      · have:i=j:=by omega
        subst this;rw[hnj]at hi;cases hi
  have wiff:qF o.op=true->∀k,k<l.length->k≠j->wrt l k=true->(X k=true↔k<j):=by
    intro hr k hk hne hw;have hok:l[k]?=some l[k]:=aA hk;have hwk:lO l[k].op=true:=by simpa only[wrt,hok]using hw
    exact Kt Z.D I.down hok hj hp hnj' (Z.D.mem k j _ o hok hj hne hwk hr)
  generalize hP:lastW (λi=>X i&&wrt l i) l.length=p at H1 H2;have hple:p<=l.length:=by rw[<-hP];exact DG _ _
  have pj:qF o.op=true->p<=j:=by
    intro hr;rw[<-hP];refine tI _ _ λi hi hw=>?_;simp only[aJ]at hw;by_cases he:i=j
    · subst he;rw[hnj]at hw;cases hw.1
    · exact(wiff hr i hi he hw.2).1 hw.1
  have pq:qF o.op=true->∀i,p<=i->i<j->wrt l i=false:=by
    intro hr i h1 h2
    cases hw:wrt l i with
    |false=>rfl
    | true=>
      have hXi:=(wiff hr i (by omega) (by omega) hw).2 h2;have:=yP (W:=λi=>X i&&wrt l i) l.length i (by omega) (by simp[hXi,hw]);rw[hP]at this;omega
  have old:qF o.op=true->∀s,s<n->hX s=hh j s:=by
    intro hr s hsn;rw[H1 s hsn];exact(Bk j (pj hr) λi h1 h2=>Z.quiet (by omega) (pq hr i h1 h2) (by omega)).symm
  have newer:qF o.op=true->∀i,X i=true->i<j->hX (n+i)=hh j (n+i):=by
    intro hr i hi hij;rw[H2 i hi];exact(Bk j (by have:=pj hr;omega) λk h1 h2=>Z.quiet (by omega) (pq hr k (by omega) h2) (by omega)).symm
  have hag:qF o.op=true->AZ β (hh j) hX:=by
    intro hr b loc hbl hne;rcases M.dom _ _ hbl with hbn|⟨i,hi,rfl⟩
    · exact old hr b hbn
    · rcases al_Nat_lt_or_ge i j with hij|hij
      · exact newer hr i hi hij
      · exact absurd (Z.fresh (by omega) j (by omega) (by omega)) hne
  have slot:∀tmp∈pE l o,valX X l xs t l.length tmp=tt j tmp:=by
    intro tmp htmp;rw[DY Z.t0 (λk o hk=>Z.next k o hk) j (by omega), <-Ud tmp (by omega)];refine uF _ λi oi hi hoi hd=>?_;by_cases he:i=j
    · subst he;rw[hnj];simp
    · have:=Kt Z.D I.down hoi hj hp hnj' (Z.D.slot i j oi o tmp hoi hj he hd htmp)
      by_cases hlt:i<j
      · rw[this.2 hlt];simp[hlt]
      · have hx: ¬(X i=true):=λh=>hlt (this.1 h)
        simp only[hlt,decide_false];simpa using hx
  obtain⟨h2,st,hrel⟩:=RM M (Z.step j o hj) slot hag;refine xP hC M hs hall st (wO hb (aB hj)) (λi pol d _ hd=>BH hb i d hd) λa' w' S' β' M'=>hK a' w' ?_;have XY:∀i,Y i=true↔X i=true∨i=j:=λi=>by
    by_cases he:i=j
    · subst he;simp[hYj]
    · rw[hY i he];simp[he]
  have hXnone:hX (n+j)=none:=by
    cases hq:hX (n+j)with
    |none=>rfl
    | some blk=>
      obtain⟨loc,_,_,_,hl,_⟩:=M.H.own _ _ hq;rw[hs]at hl;cases hl
  have hjnone:hh j (n+j)=none:=Z.fresh (by omega) j (by omega) (by omega);have h2new:h2 (n+j)=hh (j+1) (n+j):=hrel.1 _ (by rw[hXnone,hjnone]);refine⟨λk ok hk hok e he hbd=>?_,λi hi=>?_,λk i hk hw hi hil=>?_,S',β',h2,?_,?_,?_⟩
  · rcases(XY k).1 hk with hk|rfl
    · exact(XY _).2 (.inl (I.down k ok hk hok e he hbd))
    · rw[hj]at hok;injection hok with hok;subst hok
      exact(XY _).2 (.inl (hp e he hbd))
  · rcases(XY i).1 hi with hi|rfl
    · exact I.bnd i hi
    · exact hjl
  · have hXi:X i=false:=by
      cases hx:X i with
      |false=>rfl
      |true=>rw[(XY i).2 (.inl hx)]at hi;cases hi
    have hij:i≠j:=λe=>by subst e;rw[hYj]at hi;cases hi
    rcases(XY k).1 hk with hk|rfl
    · exact I.H3 k i hk hw hXi hil
    · refine Classical.byContradiction λhn=>?_
      obtain⟨_,_,loc,hl⟩:=hrel.2 (n+i) (by omega) (.inl hn);rcases M.dom _ _ hl with h|⟨i',hi',he⟩
      · omega
      · have:i'=i:=by omega
        subst this;rw[hXi]at hi';cases hi'
  ·
    have hval:zQ (valX X l xs t l.length) o.dst (xs j)=valX Y l xs t l.length:=by
      funext tmp;by_cases hd:o.dst=some tmp
      · rw [hd,zY]
        have hlook:tmp∈pE l o:=by simp[pE,hd]
        rw[DF (X:=Y) (j:=j+1) l.length (by omega) λi oi h1 h2 hoi hdi=>?_]
        · simp only[valX,hj,hYj,hd,zY]
        · have he:i≠j:=by omega
          have:=Kt Z.D I.down hoi hj hp hnj' (Z.D.slot i j oi o tmp hoi hj he hdi hlook)
          cases hx:Y i with
          |false=>rfl
          | true=>
            rcases(XY i).1 hx with h|h
            · have:=this.1 h;omega
            · omega
      · rw[xN hd]
        refine uF _ λi oi hi hoi hdi=>?_;by_cases he:i=j
        · subst he;rw[hj]at hoi;injection hoi with hoi;subst hoi;exact absurd hdi hd
        · exact(hY i he).symm
    rw[<-hval];refine⟨M'.T,M'.H,M'.B,λy loc hy=>?_,M'.df,M'.sz,M'.G,M'.nw,M'.iv⟩;rcases M'.dom y loc hy with (h|⟨i,hi,he⟩)|h
    · exact .inl h
    · exact .inr ⟨i,(XY i).2 (.inl hi),he⟩
    · exact .inr ⟨j,hYj,h⟩
  all_goals
    cases hw:wrt l j with
    | true =>
      have hwo:lO o.op=true:=by simpa only[wrt,hj]using hw
      have hr:=wL _ hwo;have hp':lastW (λi=>Y i&&wrt l i) l.length=j+1:=by
        refine Nat.le_antisymm (tI _ _ λi hi hwi=>?_) (yP _ j hjl (by simp[hYj,hw]));simp only[aJ]at hwi;rcases(XY i).1 hwi.1 with h|h
        · have hne:i≠j:=λe=>by subst e;rw[hnj]at h;cases h
          have:=(wiff hr i hi hne hwi.2).1 h;omega
        · omega
      rw[hp']
      first
        |(intro s hsn;exact hrel.1 s (old hr s hsn))
        | (intro i hi
           rcases(XY i).1 hi with hi|rfl
           · rcases al_Nat_lt_or_ge i j with hij|hij
             · rw[hrel.1 _ (newer hr i hi hij),Nat.max_eq_right (by omega)]
             · have hne:i≠j:=λe=>by subst e;rw[hnj]at hi;cases hi
               have hpj:=pj hr;rw[Nat.max_eq_left (by omega)];have hfr:hh j (n+i)=none:=Z.fresh (by omega) j (by omega) (by omega);have h3:h2 (n+i)=hX (n+i):=Classical.byContradiction λhn=>(hrel.2 (n+i) (by omega) (.inr hn)).2.1 hfr;rw[h3,H2 i hi,Nat.max_eq_left (by omega)]
           · rw[h2new,Nat.max_self])
    | false=>
      have hwo:lO o.op=false:=by simpa only[wrt,hj]using hw
      have hp':lastW (λi=>Y i&&wrt l i) l.length=p:=by
        rw[<-hP];have:(λi=>Y i&&wrt l i)=λi=>X i&&wrt l i:=by
          funext i;by_cases he:i=j
          · subst he;simp[hw]
          · rw[hY i he]
        rw[this]
      rw[hp'];have same:∀b,b≠n+j->h2 b=hX b:=λb hbj=>Classical.byContradiction λhn=>by
        have:=(hrel.2 b hbj (.inr hn)).1;rw[hwo]at this;cases this
      first
        |(intro s hsn;rw[same s (by omega)];exact H1 s hsn)
        | (intro i hi
           rcases(XY i).1 hi with hi|rfl
           · have hne:i≠j:=λe=>by subst e;rw[hnj]at hi;cases hi
             rw[same _ (by omega)];exact H2 i hi
           · rw [h2new]
             refine(Bk _ (Nat.le_max_left _ _) λk h1 h2'=>?_).symm;have hkp:k<p:=by omega
             cases hwk:wrt l k with
             |false=>exact Z.quiet (by omega) hwk (by omega)
             | true=>
               refine I.H3 k i ?_ hwk hnj hjl;rcases lastW_mem (W:=λi=>X i&&wrt l i) l.length with h0|h0
               · rw[hP]at h0;omega
               · rw[hP]at h0
                 simp only[aJ]at h0;by_cases hke:k=p-1
                 · rw[hke];exact h0.1
                 · have hkl:k<l.length:=by omega
                   have hpl:p-1<l.length:=by omega
                   have hok:l[k]?=some l[k]:=aA hkl;have hop:l[p-1]?=some l[p-1]:=aA hpl;have w1:lO l[k].op=true:=by simpa only[wrt,hok]using hwk
                   have w2:lO l[p-1].op=true:=by have:=h0.2;simpa only[wrt,hop]using this
                   have ho:=Z.D.mem k (p-1) _ _ hok hop hke w1 (wL _ w2);simp only[Jc,dI]at ho;rcases ho with ho|ho
                   · exact yO I.down hop (λe he hbd=>I.down _ _ h0.1 hop e he hbd) ho
                   · have:=OC Z.D hok ho;omega)
theorem SimD.drawn{w0:World}{S0:Nat->Prop}{N:Nat}{D:Nat->Prop}{a:Act}{w:World}{S:Nat->Prop}{β:Bt}(M:SimD C V w0 S0 N D t h a w S β)(k:Nat):SimD C V w0 S0 N D t h a {w with drawn:=k} S β:=by
 have hE:Evo S w {w with drawn:=k}:=⟨λ_ _=>rfl,λb cs e fr hb=>⟨cs,hb,rfl⟩⟩;refine⟨λi=>(M.T i).mono (λ_ h=>h) hE (LY.refl _),⟨λs blk hs=>?_,M.H.inj,M.H.lt,M.H.big⟩,⟨M.B.os,M.B.tape,M.B.output,M.B.size,M.B.block⟩,M.dom,M.df,M.sz,λg cells hg=>(M.G g cells hg).mono (λ_ h=>h) hE (LY.refl _),M.nw,V.heap M.iv rfl⟩;obtain⟨l,cs,e,fr,k1,k2,k3,k4,k5,k6⟩:=M.H.own s blk hs;exact⟨l,cs,e,fr,k1,k2,k3,k4,k5,k6.mono (λ_ h=>h) hE (LY.refl _)⟩
def FT(hC:CtxOk C)(nH:NoH C){w0:World}{S0:Nat->Prop}{N:Nat}{ops:Array Oper}(hb:vK N ops.toList=true)(hd:Jd ops.toList=true){K:ASt->Prop}(hr:jY C (cA C) ops.toList ops.toList 0 ⟨t,h,n⟩ K)
  {a:Act} {w:World} {S:Nat->Prop} {β:Bt} (M:SimD C V w0 S0 N (· <n) t h a w S β) {Q:Exit->Act->World->Prop} (hQ:∀st a' w' S' β',K st->SimD C V w0 S0 N (· <st.n) st.t st.h a' w' S' β'->Q .normal a' w'):
  wpAny C.P .any ops Q ops.size (Array.replicate ops.size false) a {w with drawn:=w.drawn+1}:=by
 obtain⟨xs,hh,tt,e1,e2,e3,e4⟩:=GU nH ops.toList 0 t h hr;simp only[bF]at e3 e4;have hnew:∀s,n<=s->h s=none:=λs hs=>by
  cases hq:h s with
  |none=>rfl
  |some blk=>
   obtain⟨l,_,_,_,hl,_⟩:=M.H.own s blk hq;have:s<n:=M.dom s l hl;omega
 have Z:Chn C ops.toList n h t xs hh tt:=⟨Ks hd,λk o hk=>(e3 k o hk).1,λk o hk=>(e3 k o hk).2,e1,e2,hnew,nH⟩;have hm:ops.toList.length=ops.size:=by simp
 have fin:∀(X:Nat->Bool) (a:Act) (w:World),(∀i,i<ops.size->X i=true)->DInv C V ops.toList n h t xs hh w0 S0 N X a w->Q .normal a w:=by
  intro X a w hall I;obtain⟨S,β,hX,M,H1,H2⟩:=I.sim;have hall':∀i,i<ops.toList.length->X i=true:=λi hi=>hall i (by rw[<-hm];exact hi);refine hQ _ a w S β e4 ?_;generalize hP:lastW (λi=>X i&&wrt ops.toList i) ops.toList.length=p at H1 H2;have hple:p<=ops.toList.length:=by rw[<-hP];exact DG _ _
  have quiet:∀i,p<=i->i<ops.toList.length->wrt ops.toList i=false:=λi h1 h2=>by
   cases hw:wrt ops.toList i with
   |false=>rfl
   |true=>
    have:=yP (W:=λi=>X i&&wrt ops.toList i) ops.toList.length i h2 (by simp[hall' i h2,hw]);rw[hP]at this;omega
  have hT:valX X ops.toList xs t ops.toList.length=tt ops.toList.length:=by
   rw[DY Z.t0 (λk o hk=>Z.next k o hk) _ (aC _)];funext tmp;exact uF _ λi o hi _ _=>hall' i hi
  have hH:hX=hh ops.toList.length:=by
   funext b;rcases al_Nat_lt_or_ge b n with hbn|hbn
   ·rw[H1 b hbn];exact(Bk _ hple λi h1 h2=>Z.quiet h2 (quiet i h1 h2) (by omega)).symm
   ·rcases al_Nat_lt_or_ge b (n+ops.toList.length)with hb2|hb2
    ·obtain⟨i,rfl⟩:∃i,b=n+i:=⟨b-n,by omega⟩;have hi:i<ops.toList.length:=by omega
     rw[H2 i (hall' i hi)];exact(Bk _ (by omega) λk h1 h2=>Z.quiet h2 (quiet k (by omega) h2) (by omega)).symm
    ·rw[Z.fresh hbn _ (aC _) hb2]
     cases hq:hX b with
     |none=>rfl
     |some blk=>
      obtain⟨l,_,_,_,hl,_⟩:=M.H.own b blk hq;rcases M.dom b l hl with h|⟨i,hi,he⟩
      ·omega
      ·have:=I.bnd i hi;omega
  rw[<-hT, <-hH];refine⟨M.T,M.H,M.B,λx l hx=>?_,M.df,M.sz,M.G,M.nw,M.iv⟩;show x<n+ops.toList.length;rcases M.dom x l hx with h|⟨i,hi,he⟩
  ·omega
  ·have:=I.bnd i hi;omega
 have done:∀(listed:Array Bool),listed.size=ops.size->Region.ready .any ops listed=[]->∀i,i<ops.size->listed.getD i false=true:=by
  intro listed hsz hnil i hi
  induction i using Nat.strongRecOn with
  | _ i ih=>
   cases hq:listed.getD i false with
   |true=>rfl
   | false=>
    exfalso;have hmem:i∈Region.ready .any ops listed:=by
     refine mem_ready.2 ⟨?_,ops[i],aX hi,λe he hbd=>?_⟩
     ·have:i<listed.size:=by omega
      rw[aI,aX this]at hq⊢;exact hq
     ·have:=Z.D.back i ops[i] (by rw[bH,aX hi]) e (by simpa using he) hbd;exact ih e.on this (by omega)
    rw[hnil]at hmem;cases hmem
 have main:∀(fuel:Nat) (listed:Array Bool) (a:Act) (w:World),listed.size=ops.size->cntX (λi=>listed.getD i false) ops.size=fuel->DInv C V ops.toList n h t xs hh w0 S0 N (λi=>listed.getD i false) a w->wpAny C.P .any ops Q fuel listed a w:=by
  intro fuel
  induction fuel with
  | zero=>
   intro listed a w hsz hc I;have hall:=DZ _ hc;refine⟨?_,fin _ a w hall I⟩
   cases hr:Region.ready .any ops listed with
   |nil=>rfl
   |cons i rest=>
    exfalso;have hmem:i∈Region.ready .any ops listed:=by rw[hr];exact bI
    obtain⟨h1,o,ho,_⟩:=mem_ready.1 hmem;have hi:i<ops.size:=(DC.1 ho).1;have h2:=hall i hi;have:i<listed.size:=by omega
    rw[aI,aX this]at h1 h2;simp only[gF]at h1 h2
    rw[h1]at h2;cases h2
  | succ fuel ih=>
   intro listed a w hsz hc I;refine⟨λhnil=>fin _ a w (done listed hsz hnil) I,λj hj=>?_⟩;obtain⟨h1,o,ho,hpre⟩:=mem_ready.1 hj;have hjl:j<ops.size:=(DC.1 ho).1;have hjs:j<listed.size:=by omega
   have hoj:ops.toList[j]?=some o:=by rw[bH];exact ho
   have hXj:listed.getD j false=false:=by
    rw[aI,aX hjs]at h1⊢;exact h1
   have hYj:(listed.setIfInBounds j true).getD j false=true:=by
    rw[aI,cY hjs];rfl
   have hY:∀i,i≠j->(listed.setIfInBounds j true).getD i false=listed.getD i false:=λi hi=>by
    rw[aI,aI,cX (Ne.symm hi)]
   unfold wpOp;simp only[ho];refine OD (X:=λi=>listed.getD i false) (Y:=λi=>(listed.setIfInBounds j true).getD i false) hC Z rfl hb I hoj (λe he hbd=>hpre e (by simpa using he) hbd) hXj hYj hY λa' w' I'=>?_;refine ih _ a' w' (by simp[hsz]) ?_ I';have:=GV (X:=λi=>listed.getD i false) (Y:=λi=>(listed.setIfInBounds j true).getD i false) hXj hYj hY ops.size hjl;omega
 have hfalse:∀i,(Array.replicate ops.size false).getD i false=false:=λi=>by
  rw[aI];by_cases hi:i<ops.size
  ·simp[hi]
  ·rw[iC (by simpa using hi)];rfl
 have hXf:(λi=>(Array.replicate ops.size false).getD i false)=λ_=>false:=funext hfalse;have hcnt:∀k,cntX (λi=>(Array.replicate ops.size false).getD i false) k=k:=by
  rw[hXf];intro k
  induction k with
  |zero=>rfl
  |succ k ih=>simp only[cntX,ih];omega
 refine main ops.size _ a _ (by simp) (hcnt _) ⟨λj oj hj=>?_,λi hi=>?_,λk j hk=>?_,S,β,h,?_,λs hs=>?_,λi hi=>?_⟩
 ·have:=(hfalse j).symm.trans hj;cases this
 ·have:=(hfalse i).symm.trans hi;cases this
 ·have:=(hfalse k).symm.trans hk;cases this
 ·have hv:valX (λi=>(Array.replicate ops.size false).getD i false) ops.toList xs t ops.toList.length=t:=by
   have:∀k,valX (λi=>(Array.replicate ops.size false).getD i false) ops.toList xs t k=t:=by
    intro k
    induction k with
    |zero=>rfl
    |succ k ih=>
     rw[hXf]at ih⊢;simp only[valX];split<;>exact ih
   exact this _
  rw[hv];have M':=M.drawn (w.drawn+1);exact⟨M'.T,M'.H,M'.B,λx l hx=>.inl (M'.dom x l hx),M'.df,M'.sz,M'.G,M'.nw,M'.iv⟩
 ·have:lastW (λi=>(Array.replicate ops.size false).getD i false&&wrt ops.toList i) ops.toList.length=0:=by
   refine Nat.le_zero.1 (tI _ _ λi _ hw=>?_);have h1:=hfalse i;rw[h1]at hw;simp at hw
  rw[this,e2]
 ·have:=(hfalse i).symm.trans hi;cases this
end
def WZ(l:List Nat)(β:Bt):Bt:=λs=>if s∈l then β s else none
theorem Cy{α:Type}{f g:Nat->List α}:∀(l:List Nat),(∀i∈l,f i=g i)->l.flatMap f=l.flatMap g
 |[],_=>rfl
 |x::l,h=>by rw[eX,eX,h x bI,Cy l λi hi=>h i (bP _ hi)]
theorem xM:∀(cs:List AV) (i:Nat) (a:AV) (s:Nat),cs[i]?=some a->s∈jE a->s∈zK cs
 |[],i,a,s,h,_=>by simp at h
 |c::cs,0,a,s,h,hs=>by simp at h;subst h;simp[zK,hs]
 |c::cs,i+1,a,s,h,hs=>by simp only[zK,al_List_mem_append];exact .inr (xM cs i a s (by simpa using h) hs)
def RI{S:Nat->Prop}{w:World}{β:Bt}{a:AV}{x:Value}(h:Rep S w β a x):∀{β':Bt},(∀s∈jE a,∀l,β s=some l->β' s=some l)->Rep S w β' a x:=by
 induction h with
 |v x=>intro β' _;exact .v x
 |agg cs vs hl h1 h ih=>intro β' hb;exact .agg cs vs hl h1 λi a u h1 h2=>ih i a u h1 h2 λs hs=>hb s (xM cs i a s h1 hs)
 |tup cs vs hl h ih=>intro β' hb;exact .tup cs vs hl λi a u h1 h2=>ih i a u h1 h2 λs hs=>hb s (xM cs i a s h1 hs)
 |sl rs rows clip A c b o u hc hm hcl hrs hA hw h1 hr ih=>intro β' _;exact .sl rs rows clip A c b o u hc hm hcl hrs hA hw h1 hr
 |dp rs col row b o u hrs hb hw h1 hr ih=>intro β' _;exact .dp rs col row b o u hrs hb hw h1 hr
 |ptr s col l hl=>intro β' hb;exact .ptr s col l (hb s (by simp[jE]) _ hl)
 |ptr2 s row col l hl=>intro β' hb;exact .ptr2 s row col l (hb s (by simp[jE]) _ hl)
 |osl s lo len clip l A c hl hc hm hcl hA cs e fr hb room=>intro β' hβ;exact .osl s lo len clip l A c (hβ s (by simp[jE]) _ hl) hc hm hcl hA cs e fr hb room
 |clo f first caps vs us hl h hl' h' ih ih'=>intro β' hb;exact .clo f first caps vs us hl (λi a u h1 h2=>ih i a u h1 h2 λs hs=>hb s (by simp only[jE,al_List_mem_append];exact .inl (xM _ i a s h1 hs))) hl' λi a u h1 h2=>ih' i a u h1 h2 λs hs=>hb s (by simp only[jE,al_List_mem_append];exact .inr (xM _ i a s h1 hs))
 |optT g a x hg h ih=>intro β' hb;exact .optT g a x hg (ih λs hs=>hb s (by simpa [jE]using hs))
 |optF g a hg=>intro β' _;exact .optF g a hg
 |any x=>intro β' _;exact .any x
def Ox{S:Nat->Prop}{w:World}{β:Bt}{l:List Nat}{a:AV}{x:Value}(h:Rep S w β a x)(hl:∀s∈jE a,s∈l):Rep S w (WZ l β) a x:=
 RI h λs hs loc hb=>by show(if s∈l then β s else none)=some loc;rw[if_pos (hl s hs)];exact hb
theorem DV:∀(l:List Value) (s:Nat),s ∉ zK (l.map Xp)
 |[],s=>by simp[zK]
 |v::l,s=>by
  simp only[jI,zK,al_List_mem_append,not_or];refine⟨?_,DV l s⟩;unfold Xp;split<;>simp[jE]
def Ni(v:Value)(s:Nat):s ∉ jE (On v):=by
 unfold On;split
 ·simp[jE]
 ·split
  ·simp only[jE];exact DV _ s
  ·simp[jE]
 ·simp[jE]
def Oy{C:Ctx}{t:Nat->AV}{x:Operand}{s:Nat}(h:s∈jE (evA C t x)):∃i,x=.tmp i∧s∈jE (t i):=by
 cases x with
 |tmp i=>exact⟨i,rfl,h⟩
 |const v=>exact absurd h (Ni v s)
 |global g=>
  have h:s∈jE (match C.G g with|some cells=>.dp cells.length 0 cells|none=>.any):=h
  split at h<;>simp[jE]at h
 |func f=>simp[evA,jE,zK]at h
def GR{C:Ctx}{t:Nat->AV}{o:Oper}{x:Operand}{s:Nat}(hx:x∈o.op.operands)(h:s∈jE (evA C t x)):s∈oT t o:=by
 obtain⟨i,rfl,h⟩:=Oy h;exact LO.2 ⟨i,BE _ i (by simpa using hx),h⟩
def DW{x:AV}{s:Nat}(h:s∈jE (Bm x)):s∈jE x:=by
 cases x<;>first|exact h|simpa [jE,Bm]using h
def Oz{C:Ctx}{t:Nat->AV}(op:Op){x:Operand}{s:Nat}(h:s∈jE (evS C t op x)):s∈jE (evA C t x):=by
 cases op<;>first|exact DW h|skip
 case pick c a b=>
  have h:s∈jE (match KF c x with|true=>Bm (evA C t x)|false=>evA C t x):=h;split at h
  ·exact DW h
  ·exact h
section
variable {C:Ctx}{V:Inv C.fr}
def RJ{ev:Operand->AV}{h:AH}{s:Nat}(op:Op):(∀p x h',opA C ev h s op=.fx p x h'->∀b,b≠s->h' b≠h b->∃x∈op.operands,b∈jE (ev x))∧
    (∀rows i f,opA C ev h s op=.idxfx rows i f->∀row h',f row=some h'->∀b,b≠s->h' b≠h b->∃x∈op.operands,b∈jE (ev x)):=by
  have new:∀(blk:Option Blk) b,b≠s->upd h s blk b≠h b->False:=λblk b hb hn=>hn (cH _ _ hb);have set:∀(b0:Nat) (blk:Option Blk) b,upd h b0 blk b≠h b->b=b0:=λb0 blk b hn=>Classical.byContradiction λe=>hn (cH _ _ e);have oB:∀(x:Option AV) p y h',okO x≠ .fx p y h':=λx p y h' hx=>by cases x<;>simp[okO]at hx
  have oI:∀(x:Option AV) rows i f,okO x≠ .idxfx rows i f:=λx rows i f hx=>by cases x<;>simp[okO]at hx
  constructor
  · intro p x h' he b hb hn
    cases op<;>simp only[opA]at he
    case makeFunc fn a c=>cases fn<;>cases he
    case store t a v=>
      (repeat' split at he)<;>first|(cases he;done)|skip
      rename_i hev _ _ _ _ _;injection he with _ _ he;subst he;exact⟨a,by simp[Op.operands],by rw[hev,set _ _ _ hn];simp[jE]⟩
    case convert src dst x=>
      simp only[Fq,Dr]at he
      (repeat' split at he)<;>first|(cases he;done)|skip
      injection he with _ _ he;subst he;exact(new _ b hb hn).elim
    case makeSlice t l c=>
      simp only[Jb]at he
      (repeat' split at he)<;>first|(cases he;done)|skip
      injection he with _ _ he;subst he;exact(new _ b hb hn).elim
    case alloc t=>
      split at he
      · injection he with _ _ he;subst he
        exact(new _ b hb hn).elim
      · cases he
    case box t x=>
      split at he
      · injection he with _ _ he;subst he
        exact(new _ b hb hn).elim
      · cases he
    case call c =>
      obtain⟨callee,args,ats⟩:=c
      cases callee with
      |value f=>simp only at he;split at he<;>cases he
      |invoke r m=>cases he
      | builtin bi=>
        simp only at he;cases bi<;>try (simp only[bK]at he;cases he;done)
        case append=>
          match hA:args.toList.map ev with
          |[]=>rw[hA]at he;simp only[bK]at he;cases he
          |[_]=>rw[hA]at he;simp only[bK]at he;cases he
          |_::_::_::_=>rw[hA]at he;simp only[bK]at he;cases he
          | [x',y']=>
            rw[hA]at he;simp only[bK]at he;have key:∀(rx ry:Option (Nat×List (List AV))) (blk:Option Blk) (px py:Prop),blk=Ds h x'->qM C s ats.toList x' rx ry blk px py h=.fx p x h'->b∈jE x':=by
              intro rx ry blk px py hbk he;unfold qM at he
              (repeat' split at he)<;>first|(cases he;done)|skip
              · injection he with _ _ he;subst he;exact(new _ b hb hn).elim
              · injection he with _ _ he;subst he;exact(new _ b hb hn).elim
              · injection he with _ _ he;subst he;exact(new _ b hb hn).elim
              · injection he with _ _ he;subst he
                rw[cH _ _ hb]at hn;rw[set _ _ _ hn];simp[jE]
            obtain⟨x1,q1,q2⟩:=sY.1 (show x'∈args.toList.map ev by rw[hA];simp);exact⟨x1,by simp[Op.operands,Call.operands];simpa using q1,by rw[q2];exact key _ _ _ _ _ rfl he⟩
        case copy=>
          match hA:args.toList.map ev with
          |[]=>rw[hA]at he;simp only[bK]at he;cases he
          |[_]=>rw[hA]at he;simp only[bK]at he;cases he
          |_::_::_::_=>rw[hA]at he;simp only[bK]at he;cases he
          | [x',y']=>
            rw[hA]at he;simp only[bK,Eg]at he
            (repeat' split at he)<;>first|(cases he;done)|skip
            injection he with _ _ he;subst he;obtain⟨x1,q1,q2⟩:=sY.1 (show AV.osl _ _ _ _∈args.toList.map ev by rw[hA];exact bI);exact⟨x1,by simp[Op.operands,Call.operands];simpa using q1,by rw[q2,set _ _ _ hn];simp[jE]⟩
        case len=>
          match hA:args.toList.map ev with
          |[]=>rw[hA]at he;simp only[bK]at he;cases he
          |_::_::_=>rw[hA]at he;simp only[bK]at he;cases he
          | [x']=>
            rw[hA]at he
            match hT:ats.toList with
            |[]=>rw[hT]at he;simp only[bK]at he;cases he
            |_::_::_=>rw[hT]at he;simp only[bK]at he;cases he
            | [t']=>
              rw[hT]at he;simp only[bK,Se]at he
              (repeat' split at he)<;>cases he
        case min=>
          match hA:args.toList.map ev with
          |[]=>rw[hA]at he;simp only[bK]at he;cases he
          |[_]=>rw[hA]at he;simp only[bK]at he;cases he
          |_::_::_::_=>rw[hA]at he;simp only[bK]at he;cases he
          | [x',y']=>
            rw[hA]at he;simp only[bK,Sf]at he
            (repeat' split at he)<;>cases he
        case max=>
          match hA:args.toList.map ev with
          |[]=>rw[hA]at he;simp only[bK]at he;cases he
          |[_]=>rw[hA]at he;simp only[bK]at he;cases he
          |_::_::_::_=>rw[hA]at he;simp only[bK]at he;cases he
          | [x',y']=>
            rw[hA]at he;simp only[bK,Sg]at he
            (repeat' split at he)<;>cases he
    all_goals first
      | (simp only[Hm,BP,tJ,Sh,unA,BM,Sd,Hi,Sc,BL,Hj,uU,BN,oH,Ab,jC,pO,BO,sI]at he
         (repeat' split at he)<;>first|(cases he;done)|(exact absurd he (oB _ _ _ _)))
      |((repeat' split at he)<;>first|(cases he;done)|(exact absurd he (oB _ _ _ _)))
      |(cases he;done)
  · intro rows i f he row h' hf b hb hn
    cases op<;>simp only[opA]at he
    case makeFunc fn a c=>cases fn<;>cases he
    case store t a v=>
      (repeat' split at he)<;>first|(cases he;done)|skip
      all_goals
        injection he with _ _ he;subst he;dsimp only at hf
        (repeat' split at hf)<;>first
          |(cases hf;done)
          | (injection hf with hf
             subst hf;refine⟨a,by simp[Op.operands],?_⟩;rw[set _ _ _ hn]
             simp_all[jE])
    case call c=>
      obtain⟨callee,args,ats⟩:=c
      cases callee with
      |value f=>simp only at he;split at he<;>cases he
      |invoke r m=>cases he
      | builtin bi=>
        exfalso;simp only at he;unfold bK at he;simp only[Se,Sf,Sg,Eg,qM]at he
        (repeat' split at he)<;>cases he
    all_goals first
      | (simp only[Hm,BP,tJ,Sh,unA,BM,Sd,Hi,Sc,BL,Hj,Fq,Dr,Jb,uU,BN,oH,Ab,jC,pO,BO,sI]at he
         (repeat' split at he)<;>first|(cases he;done)|(exact absurd he (oI _ _ _ _)))
      |((repeat' split at he)<;>first|(cases he;done)|(exact absurd he (oI _ _ _ _)))
      |(cases he;done)
def Nj{R:FuncId->List AV->AV->Prop}{all:List Oper}{o:Oper}{s:Nat}{t:Nat->AV}{h h':AH}{x:AV}(hs:StepR C R all o s t h x h'):∀b,b≠s->h' b≠h b->b∈oT t o:=by
 intro b hb hn;have fin:(∃x∈o.op.operands,b∈jE (evA C t x))->b∈oT t o:=λ⟨x,h1,h2⟩=>GR h1 h2;unfold StepR at hs;have main:NodeR C R h (opA C (evA C t) h s o.op) x h'->b∈oT t o:=λhs=>by
  obtain⟨H1,H2⟩:=RJ (C:=C) (ev:=evA C t) (h:=h) (s:=s) o.op
  cases hr:opA C (evA C t) h s o.op with
  |bad=>rw[hr]at hs;exact hs.elim
  |ok y=>rw[hr]at hs;obtain⟨_,rfl⟩:=hs;exact absurd rfl hn
  |need p y=>rw[hr]at hs;obtain⟨_,_,rfl⟩:=hs;exact absurd rfl hn
  |idx rows i f=>rw[hr]at hs;obtain⟨_,_,_,_,rfl⟩:=hs;exact absurd rfl hn
  |str p rows=>rw[hr]at hs;obtain⟨_,_,_,_,rfl⟩:=hs;exact absurd rfl hn
  |call f args=>rw[hr]at hs;obtain⟨_,_,_,_,rfl⟩:=hs;exact absurd rfl hn
  |fx p y h2=>rw[hr]at hs;obtain⟨_,_,rfl⟩:=hs;exact fin (H1 p y h' hr b hb hn)
  |idxfx rows i f=>rw[hr]at hs;obtain⟨row,_,_,hf,_⟩:=hs;exact fin (H2 rows i f hr row h' hf b hb hn)
 cases hg:o.guard with
 |some q=>
  obtain⟨i,pol⟩:=q;simp only[hg]at hs;obtain⟨d,g,y,_,_,⟨_,rfl,_⟩|⟨_,hs⟩⟩:=hs
  ·exact absurd rfl hn
  ·exact main hs
 |none=>simp only[hg]at hs;exact main hs
variable {all:List Oper}{o:Oper}{s N:Nat}{t tX:Nat->AV}{h h' hX:AH}{a:Act}{w w0:World}{D:Nat->Prop}{S0:Nat->Prop}{S:Nat->Prop}{β:Bt}{R:FuncId->List AV->AV->Prop}{x:AV}
def OA(M:SimD C V w0 S0 N D tX hX a w S β)(hst:StepR C R all o s t h x h')(hlook:∀i∈pE all o,tX i=t i)(hag:qF o.op=true->AZ (WZ (oT tX o) β) h hX):
  ∃h2,StepR C R all o s tX hX x h2∧RN h hX s (lO o.op) (WZ (oT tX o) β) h' h2:=by
 have hops:∀i,.tmp i∈o.op.operands.toList->tX i=t i:=λi hi=>hlook i (by simp only[pE,al_List_mem_append];exact .inl (.inr (BE _ i hi)));have hev:∀x∈o.op.operands,evA C tX x=evA C t x:=λx hx=>by
  cases x with
  |tmp i=>exact hops i (by simpa using hx)
  |_=>rfl
 have hrep:∀x∈o.op.operands,Rep S w (WZ (oT tX o) β) (evA C tX x) (a.eval x):=λx hx=>Ox (tD M x) λs hs=>GR hx hs;unfold StepR at hst⊢
 cases hg:o.guard with
 |none=>
  simp only[hg]at hst⊢;rw[nK (ev':=evA C tX) o.op λx hx=>(hev x hx).symm]at hst
  exact wN o.op hrep hag hst
 | some q=>
  obtain⟨i,pol⟩:=q;simp only[hg]at hst⊢;obtain⟨d,g,y,q1,q2,⟨q3,rfl,q4⟩|⟨q3,q4⟩⟩:=hst
  case inr=>
   have hd:tX d=t d:=hlook d (by simp only[pE,hg,q1,al_List_mem_append];exact .inr (by simp));rw[nK (ev':=evA C tX) o.op λx hx=>(hev x hx).symm]at q4;obtain⟨h2,e1,e2⟩:=wN o.op hrep hag q4;exact⟨h2,⟨d,g,y,q1,by rw[hd];exact q2,.inr ⟨q3,e1⟩⟩,e2⟩
  have hd:tX d=t d:=hlook d (by simp only[pE,hg,q1,al_List_mem_append];exact .inr (by simp));have hcs:condsO tX o.op=condsO t o.op:=CW _ hops;refine⟨hX,⟨d,g,y,q1,by rw[hd];exact q2,.inl ⟨q3,rfl,?_⟩⟩,RN.refl⟩;rcases q4 with ⟨c1,c2⟩|⟨c,c1,c2,c3⟩
  ·refine .inl ⟨by rw[hcs];exact c1,λhg'=>?_⟩;obtain⟨f1,f2⟩:=c2 hg';rw[nK (ev':=evA C tX) o.op λx hx=>(hev x hx).symm]at f1 f2;obtain⟨h2,e1,_⟩:=wN o.op hrep hag f2;have T:=IR (C:=C) (s:=s) o.op hrep hag;have e2:opA C (evA C tX) hX s o.op=opA C (evA C tX) h' s o.op:=by
    cases hr:opA C (evA C tX) h' s o.op<;>rw[hr]at T f1<;>first|exact T|(simp[isFx]at f1)
   rw[e2]at e1⊢;refine⟨f1,?_⟩;cases hr:opA C (evA C tX) h' s o.op<;>rw[hr]at e1 f1<;>first|(simp[isFx]at f1;done)|skip
   ·obtain⟨rfl,rfl⟩:=e1;exact⟨rfl,rfl⟩
   ·obtain⟨p,rfl,rfl⟩:=e1;exact⟨p,rfl,rfl⟩
   ·obtain⟨row,p1,p2,p3,rfl⟩:=e1;exact⟨row,p1,p2,p3,rfl⟩
   ·obtain⟨l,p1,p2,p3,rfl⟩:=e1;exact⟨l,p1,p2,p3,rfl⟩
   ·obtain⟨p1,p2,p3,p4,rfl⟩:=e1;exact⟨p1,p2,p3,p4,rfl⟩
  ·refine .inr ⟨c,by rw[hcs];exact c1,c2,λhg'=>?_⟩;obtain⟨f1,f2⟩:=c3 hg';rw[nK (ev':=evS C tX o.op) o.op λx hx=>(IP o.op hev x hx).symm]at f1 f2;have hsr:∀x∈o.op.operands,Rep S w (WZ (oT tX o) β) (evS C tX o.op x) (a.eval x):=λx hx=>Ox (Ku M o.op (hcs.trans c1) (c2 hg') x hx) λs hs=>GR hx (Oz o.op hs);obtain⟨h2,e1,_⟩:=wN o.op hsr hag f2;have T:=IR (C:=C) (s:=s) o.op hsr hag;have e2:opA C (evS C tX o.op) hX s o.op=opA C (evS C tX o.op) h' s o.op:=by
    cases hr:opA C (evS C tX o.op) h' s o.op<;>rw[hr]at T f1<;>first|exact T|(simp[isFx]at f1)
   rw[e2]at e1⊢;refine⟨f1,?_⟩;cases hr:opA C (evS C tX o.op) h' s o.op<;>rw[hr]at e1 f1<;>first|(simp[isFx]at f1;done)|skip
   ·obtain⟨rfl,rfl⟩:=e1;exact⟨rfl,rfl⟩
   ·obtain⟨p,rfl,rfl⟩:=e1;exact⟨p,rfl,rfl⟩
   ·obtain⟨row,p1,p2,p3,rfl⟩:=e1;exact⟨row,p1,p2,p3,rfl⟩
   ·obtain⟨l,p1,p2,p3,rfl⟩:=e1;exact⟨l,p1,p2,p3,rfl⟩
   ·obtain⟨p1,p2,p3,p4,rfl⟩:=e1;exact⟨p1,p2,p3,p4,rfl⟩
end
structure DrawOk2(l:List Oper)(tE:Nat->AV):Prop where
 back:∀j oj,l[j]?=some oj->∀e∈oj.after.toList,Region.binds .any e=true->e.on<j
 late:∀(j:Nat) (oj:Oper) (k:Nat) (ok:Oper) (d:Nat),l[j]?=some oj->l[k]?=some ok->qF oj.op=true->j<=k->ok.dst=some d->d ∉ Dv oj.op.operands.toList
 slot:∀i j oi oj d,l[i]?=some oi->l[j]?=some oj->i≠j->oi.dst=some d->d∈pE l oj->Jc (yU l []) i j=true
 mem:∀i j oi oj b,l[i]?=some oi->l[j]?=some oj->i≠j->lO oi.op=true->qF oj.op=true->b∈oT tE oi->b∈oT tE oj->Jc (yU l []) i j=true
def RK{a b:List Nat}{x:Nat}(ha:x∈a)(hb:x∈b):meets a b=true:=
 LP.2 ⟨x,ha,LP.2 ⟨x,hb,by simp⟩⟩
def IM{l:List Oper}{tE:Nat->AV}(h:Ho l tE=true):DrawOk2 l tE:=by
  have main:∀j oj,l[j]?=some oj->((oj.after.toList.all λe=> !Region.binds .any e||Nat.blt e.on j)=true∧(!qF oj.op||(l.drop j).all λo=>match o.dst with|none=>true|some d=> !(Dv oj.op.operands.toList).contains d)=true)∧∀i oi,l[i]?=some oi->(i==j||
          ((match oi.dst with|none=>true|some d=> !(pE l oj).contains d||Jc (yU l []) i j)&&
           (!(lO oi.op&&qF oj.op&&meets (oT tE oi) (oT tE oj))||Jc (yU l []) i j)))=true:=by
    intro j oj hj;have hjl:j<l.length:=(DS.1 hj).1;have h1:=lE.1 h j (by simpa using hjl);simp only[hj,aJ]at h1;refine⟨h1.1,λi oi hi=>?_⟩;have hil:i<l.length:=(DS.1 hi).1;have h2:=lE.1 h1.2 i (by simpa using hil);simp only[hi]at h2;exact h2
  refine⟨λj oj hj e he hb=>?_,λj oj k ok d hj hk hro hjk hd hm=>?_,λi j oi oj d hi hj hne hd hl=>?_,λi j oi oj b hi hj hne hw hr hbi hbj=>?_⟩
  · have:=lE.1 (main j oj hj).1.1 e he
    simp only[hb,lY,eG]at this;exact aP this
  · have hmem:ok∈l.drop j:=aB (i:=k-j) (by rw[cE,show j+(k-j)=k by omega];exact hk)
    have h0:=(main j oj hj).1.2;simp only[hro,lY,eG]at h0;have:=lE.1 h0 ok hmem;simp only[hd]at this;rw[show(Dv oj.op.operands.toList).contains d=true by simpa using hm]at this;cases this
  · have:=(main j oj hj).2 i oi hi
    have hb:(i==j)=false:=by simpa using hne
    simp only[hb,eG,aJ,hd]at this;have h1:=this.1;rw[show(pE l oj).contains d=true by simpa using hl]at h1;simpa using h1
  · have:=(main j oj hj).2 i oi hi
    have hb:(i==j)=false:=by simpa using hne
    simp only[hb,eG,aJ]at this;have h1:=this.2;rw[hw,hr,RK hbi hbj]at h1;simpa using h1
section
variable {C:Ctx}{V:Inv C.fr}{R:FuncId->List AV->AV->Prop}
def OB{l:List Oper}{tE:Nat->AV}(D:DrawOk2 l tE){i j:Nat}{oj:Oper}(hj:l[j]?=some oj)(hi:((yU l []).getD j 0).testBit i=true):i<j:=
 yO (X:=(· <j)) (λk ok hk hok e he hb=>sZ (D.back k ok hok e he hb) hk) hj (λe he hb=>D.back j oj hj e he hb) hi
def GS{l:List Oper}{tE:Nat->AV}(D:DrawOk2 l tE){X:Nat->Prop}(hX:Xa l X){i j:Nat}{oi oj:Oper}(hi:l[i]?=some oi)(hj:l[j]?=some oj)(hp:∀e∈oj.after.toList,Region.binds .any e=true->X e.on)(hnj: ¬X j)(ho:Jc (yU l []) i j=true):X i↔i<j:=by
 simp only[Jc,dI]at ho;rcases ho with ho|ho
 ·exact⟨λ_=>OB D hj ho,λ_=>yO hX hj hp ho⟩
 ·have hlt:=OB D hi ho;refine⟨λhXi=>absurd (yO hX hi (λe he hb=>hX i oi hXi hi e he hb) ho) hnj,λh=>by omega⟩
structure Chn2(C:Ctx)(l:List Oper)(n:Nat)(h:AH)(t:Nat->AV)(xs:Nat->AV)(hh:Nat->AH)(tt:Nat->Nat->AV)(tb:Nat->Nat->Bool):Prop where
 D:DrawOk2 l (tt l.length)
 step:∀k o,l[k]?=some o->StepR C (cA C) l o (n+k) (tt k) (hh k) (xs k) (hh (k+1))
 next:∀k o,l[k]?=some o->tt (k+1)=zQ (tt k) o.dst (xs k)
 t0:tt 0=t
 h0:hh 0=h
 new:∀s,n<=s->h s=none
 tb:∀b i,tb b i=true↔hh (i+1) b≠hh i b
 nH:NoH C
variable {l:List Oper}{n:Nat}{h:AH}{t xs:Nat->AV}{hh:Nat->AH}{tt:Nat->Nat->AV}{tb:Nat->Nat->Bool}
theorem Chn2.live(Z:Chn2 C l n h t xs hh tt tb){i:Nat}(hi:i<l.length){b:Nat}(hb:b≠n+i)(hn:hh i b=none):hh (i+1) b=none:=by
 have ho:l[i]?=some l[i]:=aA hi;by_cases he:hh (i+1) b=hh i b
 ·rw[he,hn]
 ·exact absurd hn (Az (Z.step i _ ho) b hb he).2
theorem Chn2.fresh(Z:Chn2 C l n h t xs hh tt tb){b:Nat}(hb:n<=b):∀k,k<=l.length->n+k<=b->hh k b=none
 |0,_,_=>by rw[Z.h0];exact Z.new b hb
 |k+1,hk,hkb=>Z.live (by omega) (by omega) (Z.fresh hb k (by omega) (by omega))
theorem Chn2.still(Z:Chn2 C l n h t xs hh tt tb){b j k:Nat}(hjk:j<=k)(hq:∀i,j<=i->i<k->tb b i=false):hh k b=hh j b:=
 Bk k hjk λi h1 h2=>Classical.byContradiction λhn=>by
  have:=hq i h1 h2;rw[(Z.tb b i).2 hn]at this;cases this
theorem Chn2.at(Z:Chn2 C l n h t xs hh tt tb){j:Nat}{o:Oper}(hj:l[j]?=some o)(hro:qF o.op=true):oT (tt l.length) o=oT (tt j) o:=by
 have hjl:j<l.length:=(DS.1 hj).1;have key:∀i∈Dv o.op.operands.toList,∀k,j<=k->k<=l.length->tt k i=tt j i:=by
  intro i hi k
  induction k with
  |zero=>intro h1 _;rw[show j=0 by omega]
  | succ k ih=>
   intro h1 h2;by_cases he:j=k+1
   ·rw[he]
   ·have hk:l[k]?=some l[k]:=aA (by omega);rw[Z.next k _ hk,xN (λhd=>Z.D.late j o k _ i hj hk hro (by omega) hd hi)];exact ih (by omega) (by omega)
 unfold oT;exact Cy _ λi hi=>by rw[key i hi l.length (by omega) (aC _)]
structure DInv2(C:Ctx)(V:Inv C.fr)(l:List Oper)(n:Nat)(h:AH)(t xs:Nat->AV)(hh:Nat->AH)(tb:Nat->Nat->Bool)(w0:World)(S0:Nat->Prop)(N:Nat)(X:Nat->Bool)(a:Act)(w:World):Prop where
 down:Xa l (X · =true)
 bnd:∀i,X i=true->i<l.length
 H3:∀k i,X k=true->tb (n+i) k=true->k=i∨X i=true
 sim:∃S β hX,SimD C V w0 S0 N (λs=>s<n∨∃i,X i=true∧s=n+i) (valX X l xs t l.length) hX a w S β∧∀b,hX b=hh (lastW (λi=>X i&&tb b i) l.length) b
def Nk(hC:CtxOk C)(Z:Chn2 C l n h t xs hh tt tb){ops:Array Oper}(hall:ops.toList=l){w0:World}{S0:Nat->Prop}{N:Nat}(hb:vK N l=true){X Y:Nat->Bool}{a:Act}{w:World}(I:DInv2 C V l n h t xs hh tb w0 S0 N X a w){j:Nat}{o:Oper}(hj:l[j]?=some o)
  (hp:∀e∈o.after.toList,Region.binds .any e=true->X e.on=true) (hnj:X j=false) (hYj:Y j=true) (hY:∀i,i≠j->Y i=X i) {K:Act->World->Prop} {Q:Exit->Act->World->Prop} (hK:∀a' w',DInv2 C V l n h t xs hh tb w0 S0 N Y a' w'->K a' w'):
  if Region.wanted o (yielded ops a.tmps)then o.wp C.P a w K Q∨(o.asks C.P a w∧LetsOut Q)else K (a.put o.dst undef) w:=by
 obtain⟨S,β,hX,M,H1⟩:=I.sim;have hjl:j<l.length:=(DS.1 hj).1;have hnj': ¬(X j=true):=by rw[hnj];simp
 have hs:β (n+j)=none:=by
  cases hq:β (n+j)with
  |none=>rfl
  | some loc=>
   rcases M.dom _ _ hq with h|⟨i,hi,he⟩
   ·omega
   ·have:i=j:=by omega
    subst this;rw[hnj]at hi;cases hi
 have slot:∀tmp∈pE l o,valX X l xs t l.length tmp=tt j tmp:=by
  intro tmp htmp;rw[DY Z.t0 (λk o hk=>Z.next k o hk) j (by omega), <-Ud tmp (by omega)];refine uF _ λi oi hi hoi hd=>?_;by_cases he:i=j
  ·subst he;rw[hnj];simp
  ·have:=GS Z.D I.down hoi hj hp hnj' (Z.D.slot i j oi o tmp hoi hj he hd htmp);by_cases hlt:i<j
   ·rw[this.2 hlt];simp[hlt]
   ·have hx: ¬(X i=true):=λh=>hlt (this.1 h);simp only[hlt,decide_false];simpa using hx
 have sites:oT (valX X l xs t l.length) o=oT (tt j) o:=by
  unfold oT;exact Cy _ λi hi=>by rw[slot i (by simp only[pE,al_List_mem_append];exact .inl (.inr hi))]
 have ag:qF o.op=true->∀b loc,β b=some loc->b∈oT (tt j) o->hh j b≠none->hX b=hh j b∧∀k,X k=true->tb b k=true->k<j:=by
  intro hr b loc hbl hbs hbn;have wiff:∀k,k<l.length->k≠j->tb b k=true->(X k=true↔k<j):=by
   intro k hk hne htk;have hok:l[k]?=some l[k]:=aA hk;by_cases hbk:b=n+k
   ·have hkj:k<j:=Nat.lt_of_not_le λhle=>hbn (Z.fresh (by omega) j (by omega) (by omega));refine⟨λ_=>hkj,λ_=>?_⟩;rcases M.dom _ _ hbl with h|⟨i,hi,he⟩
    ·omega
    ·have:i=k:=by omega
     subst this;exact hi
   ·have hn:=(Z.tb b k).1 htk;have hwk:=(Az (Z.step k _ hok) b hbk hn).1;have hsk:=Nj (Z.step k _ hok) b hbk hn;exact GS Z.D I.down hok hj hp hnj' (Z.D.mem k j _ o b hok hj hne hwk hr (by rw[Z.at hok (wL _ hwk)];exact hsk) (by rw[Z.at hj hr];exact hbs))
  have lt:∀k,X k=true->tb b k=true->k<j:=λk hk htk=>(wiff k (I.bnd k hk) (λe=>by subst e;exact hnj' hk) htk).1 hk;refine⟨?_,lt⟩;rw[H1 b];have hple:lastW (λi=>X i&&tb b i) l.length<=j:=tI _ _ λi hi hw=>by
   simp only[aJ]at hw;exact lt i hw.1 hw.2
  refine(Z.still hple λi h1 h2=>?_).symm
  cases hti:tb b i with
  |false=>rfl
  |true=>
   have hXi:=(wiff i (by omega) (by omega) hti).2 h2;have:=yP (W:=λi=>X i&&tb b i) l.length i (by omega) (by simp[hXi,hti]);omega
 have hag:qF o.op=true->AZ (WZ (oT (valX X l xs t l.length) o) β) (hh j) hX:=by
  intro hr b loc hbl hne;have hbl:(if b∈oT (valX X l xs t l.length) o then β b else none)=some loc:=hbl;split at hbl
  ·rename_i hm;rw[sites]at hm;exact(ag hr b loc hbl hm hne).1
  ·cases hbl
 obtain⟨h2,st,hrel⟩:=OA M (Z.step j o hj) slot hag;have turn:∀b,b≠n+j->(hh (j+1) b≠hh j b∨h2 b≠hX b)->(∃loc,β b=some loc)∧hX b=hh j b∧∀k,X k=true->tb b k=true->k<j:=by
  intro b hbj hc;obtain⟨q1,q2,loc,q3⟩:=hrel.2 b hbj hc;have q3:(if b∈oT (valX X l xs t l.length) o then β b else none)=some loc:=q3;split at q3
  ·rename_i hm;rw[sites]at hm;exact⟨⟨loc,q3⟩,ag (wL _ q1) b loc q3 hm q2⟩
  ·cases q3
 refine xP hC M hs hall st (wO hb (aB hj)) (λi pol d _ hd=>BH hb i d hd) λa' w' S' β' M'=>hK a' w' ?_;have XY:∀i,Y i=true↔X i=true∨i=j:=λi=>by
  by_cases he:i=j
  ·subst he;simp[hYj]
  ·rw[hY i he];simp[he]
 have hXnone:hX (n+j)=none:=by
  cases hq:hX (n+j)with
  |none=>rfl
  |some blk=>
   obtain⟨loc,_,_,_,hl,_⟩:=M.H.own _ _ hq;rw[hs]at hl;cases hl
 have hjnone:hh j (n+j)=none:=Z.fresh (by omega) j (by omega) (by omega);have h2new:h2 (n+j)=hh (j+1) (n+j):=hrel.1 _ (by rw[hXnone,hjnone]);refine⟨λk ok hk hok e he hbd=>?_,λi hi=>?_,λk i hk htk=>?_,S',β',h2,?_,λb=>?_⟩
 ·rcases(XY k).1 hk with hk|rfl
  ·exact(XY _).2 (.inl (I.down k ok hk hok e he hbd))
  ·rw[hj]at hok;injection hok with hok;subst hok;exact(XY _).2 (.inl (hp e he hbd))
 ·rcases(XY i).1 hi with hi|rfl
  ·exact I.bnd i hi
  ·exact hjl
 ·rcases(XY k).1 hk with hk|rfl
  ·rcases I.H3 k i hk htk with h|h
   ·exact .inl h
   ·exact .inr ((XY i).2 (.inl h))
  ·by_cases hki:k=i
   ·exact .inl hki
   ·obtain⟨⟨loc,hl⟩,_⟩:=turn (n+i) (by omega) (.inl ((Z.tb _ _).1 htk));rcases M.dom _ _ hl with h|⟨i',hi',he⟩
    ·omega
    ·have:i'=i:=by omega
     subst this;exact .inr ((XY _).2 (.inl hi'))
 ·have hval:zQ (valX X l xs t l.length) o.dst (xs j)=valX Y l xs t l.length:=by
   funext tmp;by_cases hd:o.dst=some tmp
   ·rw[hd,zY];have hlook:tmp∈pE l o:=by simp[pE,hd]
    rw[DF (X:=Y) (j:=j+1) l.length (by omega) λi oi h1 h2 hoi hdi=>?_]
    ·simp only[valX,hj,hYj,hd,zY]
    ·have he:i≠j:=by omega
     have:=GS Z.D I.down hoi hj hp hnj' (Z.D.slot i j oi o tmp hoi hj he hdi hlook)
     cases hx:Y i with
     |false=>rfl
     |true=>
      rcases(XY i).1 hx with h|h
      ·have:=this.1 h;omega
      ·omega
   ·rw[xN hd];refine uF _ λi oi hi hoi hdi=>?_;by_cases he:i=j
    ·subst he;rw[hj]at hoi;injection hoi with hoi;subst hoi;exact absurd hdi hd
    ·exact(hY i he).symm
  rw[<-hval];refine⟨M'.T,M'.H,M'.B,λy loc hy=>?_,M'.df,M'.sz,M'.G,M'.nw,M'.iv⟩;rcases M'.dom y loc hy with (h|⟨i,hi,he⟩)|h
  ·exact .inl h
  ·exact .inr ⟨i,(XY i).2 (.inl hi),he⟩
  ·exact .inr ⟨j,hYj,h⟩
 ·cases htj:tb b j with
  | true=>
   have hlt:∀k,X k=true->tb b k=true->k<j:=by
    intro k hk htk;by_cases hbj:b=n+j
    ·subst hbj;rcases I.H3 k j hk htk with h|h
     ·subst h;exact absurd hk hnj'
     ·exact absurd h hnj'
    ·exact(turn b hbj (.inl ((Z.tb _ _).1 htj))).2.2 k hk htk
   have hL:lastW (λi=>Y i&&tb b i) l.length=j+1:=by
    refine Nat.le_antisymm (tI _ _ λi hi hwi=>?_) (yP _ j hjl (by simp[hYj,htj]));simp only[aJ]at hwi;rcases(XY i).1 hwi.1 with h|h
    ·have:=hlt i h hwi.2;omega
    ·omega
   rw[hL];by_cases hbj:b=n+j
   ·rw[hbj];exact h2new
   ·exact hrel.1 b (turn b hbj (.inl ((Z.tb _ _).1 htj))).2.1
  | false=>
   have hstill:hh (j+1) b=hh j b:=Classical.byContradiction λhn=>by
    rw[(Z.tb b j).2 hn]at htj;cases htj
   have hW:(λi=>Y i&&tb b i)=λi=>X i&&tb b i:=by
    funext i;by_cases he:i=j
    ·subst he;simp[htj]
    ·rw[hY i he]
   rw[hW, <-H1 b];by_cases hbj:b=n+j
   ·rw[hbj,h2new,hXnone, <-hbj,hstill,hbj,hjnone]
   ·refine Classical.byContradiction λhn=>?_;have h5:=(turn b hbj (.inr hn)).2.1;exact hn ((hrel.1 b h5).trans (hstill.trans h5.symm))
def DX(hC:CtxOk C)(nH:NoH C){w0:World}{S0:Nat->Prop}{N:Nat}{ops:Array Oper}(hb:vK N ops.toList=true){K:ASt->Prop}(hr:jY C (cA C) ops.toList ops.toList 0 ⟨t,h,n⟩ (λst=>Ho ops.toList st.t=true∧K st))
  {a:Act} {w:World} {S:Nat->Prop} {β:Bt} (M:SimD C V w0 S0 N (· <n) t h a w S β) {Q:Exit->Act->World->Prop} (hQ:∀st a' w' S' β',K st->SimD C V w0 S0 N (· <st.n) st.t st.h a' w' S' β'->Q .normal a' w'):
  wpAny C.P .any ops Q ops.size (Array.replicate ops.size false) a {w with drawn:=w.drawn+1}:=by
 obtain⟨xs,hh,tt,e1,e2,e3,e4⟩:=GU nH ops.toList 0 t h hr;simp only[bF]at e3 e4;have hnew:∀s,n<=s->h s=none:=λs hs=>by
  cases hq:h s with
  |none=>rfl
  |some blk=>
   obtain⟨l,_,_,_,hl,_⟩:=M.H.own s blk hq;have:s<n:=M.dom s l hl;omega
 obtain⟨hd,e4⟩:=e4;obtain⟨tb,htb⟩:∃tb:Nat->Nat->Bool,∀b i,tb b i=true↔hh (i+1) b≠hh i b:=⟨λb i=> @decide _ (Classical.propDecidable (hh (i+1) b≠hh i b)),λb i=>by simp⟩;have Z:Chn2 C ops.toList n h t xs hh tt tb:=⟨IM hd,λk o hk=>(e3 k o hk).1,λk o hk=>(e3 k o hk).2,e1,e2,hnew,htb,nH⟩;have hm:ops.toList.length=ops.size:=by simp
 have fin:∀(X:Nat->Bool) (a:Act) (w:World),(∀i,i<ops.size->X i=true)->DInv2 C V ops.toList n h t xs hh tb w0 S0 N X a w->Q .normal a w:=by
  intro X a w hall I;obtain⟨S,β,hX,M,H1⟩:=I.sim;have hall':∀i,i<ops.toList.length->X i=true:=λi hi=>hall i (by rw[<-hm];exact hi);refine hQ _ a w S β e4 ?_;have hT:valX X ops.toList xs t ops.toList.length=tt ops.toList.length:=by
   rw[DY Z.t0 (λk o hk=>Z.next k o hk) _ (aC _)];funext tmp;exact uF _ λi o hi _ _=>hall' i hi
  have hH:hX=hh ops.toList.length:=by
   funext b;rw[H1 b];refine(Z.still (DG _ _) λi h1 h2=>?_).symm
   cases hti:tb b i with
   |false=>rfl
   |true=>
    have:=yP (W:=λi=>X i&&tb b i) ops.toList.length i h2 (by simp[hall' i h2,hti]);omega
  rw[<-hT, <-hH];refine⟨M.T,M.H,M.B,λx l hx=>?_,M.df,M.sz,M.G,M.nw,M.iv⟩;show x<n+ops.toList.length;rcases M.dom x l hx with h|⟨i,hi,he⟩
  ·omega
  ·have:=I.bnd i hi;omega
 have done:∀(listed:Array Bool),listed.size=ops.size->Region.ready .any ops listed=[]->∀i,i<ops.size->listed.getD i false=true:=by
  intro listed hsz hnil i hi
  induction i using Nat.strongRecOn with
  | _ i ih=>
   cases hq:listed.getD i false with
   |true=>rfl
   | false=>
    exfalso;have hmem:i∈Region.ready .any ops listed:=by
     refine mem_ready.2 ⟨?_,ops[i],aX hi,λe he hbd=>?_⟩
     ·have:i<listed.size:=by omega
      rw[aI,aX this]at hq⊢;exact hq
     ·have:=Z.D.back i ops[i] (by rw[bH,aX hi]) e (by simpa using he) hbd;exact ih e.on this (by omega)
    rw[hnil]at hmem;cases hmem
 have main:∀(fuel:Nat) (listed:Array Bool) (a:Act) (w:World),listed.size=ops.size->cntX (λi=>listed.getD i false) ops.size=fuel->DInv2 C V ops.toList n h t xs hh tb w0 S0 N (λi=>listed.getD i false) a w->wpAny C.P .any ops Q fuel listed a w:=by
  intro fuel
  induction fuel with
  | zero=>
   intro listed a w hsz hc I;have hall:=DZ _ hc;refine⟨?_,fin _ a w hall I⟩
   cases hr:Region.ready .any ops listed with
   |nil=>rfl
   |cons i rest=>
    exfalso;have hmem:i∈Region.ready .any ops listed:=by rw[hr];exact bI
    obtain⟨h1,o,ho,_⟩:=mem_ready.1 hmem;have hi:i<ops.size:=(DC.1 ho).1;have h2:=hall i hi;have:i<listed.size:=by omega
    rw[aI,aX this]at h1 h2;simp only[gF]at h1 h2
    rw[h1]at h2;cases h2
  | succ fuel ih=>
   intro listed a w hsz hc I;refine⟨λhnil=>fin _ a w (done listed hsz hnil) I,λj hj=>?_⟩;obtain⟨h1,o,ho,hpre⟩:=mem_ready.1 hj;have hjl:j<ops.size:=(DC.1 ho).1;have hjs:j<listed.size:=by omega
   have hoj:ops.toList[j]?=some o:=by rw[bH];exact ho
   have hXj:listed.getD j false=false:=by
    rw[aI,aX hjs]at h1⊢;exact h1
   have hYj:(listed.setIfInBounds j true).getD j false=true:=by
    rw[aI,cY hjs];rfl
   have hY:∀i,i≠j->(listed.setIfInBounds j true).getD i false=listed.getD i false:=λi hi=>by
    rw[aI,aI,cX (Ne.symm hi)]
   unfold wpOp;simp only[ho];refine Nk (X:=λi=>listed.getD i false) (Y:=λi=>(listed.setIfInBounds j true).getD i false) hC Z rfl hb I hoj (λe he hbd=>hpre e (by simpa using he) hbd) hXj hYj hY λa' w' I'=>?_;refine ih _ a' w' (by simp[hsz]) ?_ I';have:=GV (X:=λi=>listed.getD i false) (Y:=λi=>(listed.setIfInBounds j true).getD i false) hXj hYj hY ops.size hjl;omega
 have hfalse:∀i,(Array.replicate ops.size false).getD i false=false:=λi=>by
  rw[aI];by_cases hi:i<ops.size
  ·simp[hi]
  ·rw[iC (by simpa using hi)];rfl
 have hXf:(λi=>(Array.replicate ops.size false).getD i false)=λ_=>false:=funext hfalse;have hcnt:∀k,cntX (λi=>(Array.replicate ops.size false).getD i false) k=k:=by
  rw[hXf];intro k
  induction k with
  |zero=>rfl
  |succ k ih=>simp only[cntX,ih];omega
 refine main ops.size _ a _ (by simp) (hcnt _) ⟨λj oj hj=>?_,λi hi=>?_,λk j hk=>?_,S,β,h,?_,λs=>?_⟩
 ·have:=(hfalse j).symm.trans hj;cases this
 ·have:=(hfalse i).symm.trans hi;cases this
 ·have:=(hfalse k).symm.trans hk;cases this
 ·have hv:valX (λi=>(Array.replicate ops.size false).getD i false) ops.toList xs t ops.toList.length=t:=by
   have:∀k,valX (λi=>(Array.replicate ops.size false).getD i false) ops.toList xs t k=t:=by
    intro k
    induction k with
    |zero=>rfl
    |succ k ih=>
     rw[hXf]at ih⊢;simp only[valX];split<;>exact ih
   exact this _
  rw[hv];have M':=M.drawn (w.drawn+1);exact⟨M'.T,M'.H,M'.B,λx l hx=>.inl (M'.dom x l hx),M'.df,M'.sz,M'.G,M'.nw,M'.iv⟩
 ·have:lastW (λi=>(Array.replicate ops.size false).getD i false&&tb s i) ops.toList.length=0:=by
   refine Nat.le_zero.1 (tI _ _ λi _ hw=>?_);have h1:=hfalse i;rw[h1]at hw;simp at hw
  rw[this,e2]
end
end Go.Proofs.YtgleompefdogkaaGreatDoor
