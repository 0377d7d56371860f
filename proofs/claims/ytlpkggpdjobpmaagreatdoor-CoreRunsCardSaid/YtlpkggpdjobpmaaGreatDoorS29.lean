/- Lemmas. -/
import Derived.Test.YtlpkggpdjobpmaaGreatDoorS1
import Derived.Test.YtlpkggpdjobpmaaGreatDoorS28
set_option linter.all false
namespace Go.Proofs.YtlpkggpdjobpmaaGreatDoor
open Go.RowKit
def Ti(h1 h2:AH)(s:Nat)(wr:Bool)(β:Bt)(h1' h2':AH):Prop:=
 (∀b,h2 b=h1 b->h2' b=h1' b)∧∀b,b≠s->(h1' b≠h1 b∨h2' b≠h2 b)->wr=true∧h1 b≠none∧∃l,β b=some l
def Tr(h1 h2:AH)(s:Nat)(wr:Bool)(β:Bt)(r1 r2:Res):Prop:=
 match r1 with
 | .bad=>True
 | .fx p x h1'=>∃h2',r2=.fx p x h2'∧Ti h1 h2 s wr β h1' h2'
 | .idxfx rows i f=>∃f2,r2=.idxfx rows i f2∧∀row h1',f row=some h1'->∃h2',f2 row=some h2'∧Ti h1 h2 s wr β h1' h2'
 |r=>r2=r
section
variable {C:Ctx}{h1 h2:AH}{s:Nat}{wr:Bool}{β:Bt}{S:Nat->Prop}{w:World}
theorem Tr.refl_of{r}(hr:isFx r=false):Tr h1 h2 s wr β r r:=by
 cases r<;>first|rfl|(simp[isFx]at hr)
theorem Ti.new(blk):Ti h1 h2 s wr β (upd h1 s blk) (upd h2 s blk):=by
 refine⟨λb hb=>?_,λb hb h=>?_⟩
 ·by_cases he:b=s
  ·subst he;rw[dB,dB]
  rw[cI _ _ he,cI _ _ he];exact hb
 rw[cI _ _ hb,cI _ _ hb]at h;rcases h with h|h<;>exact absurd rfl h
theorem Ti.set{b0}{l}(hl:β b0=some l)(hn:h1 b0≠none)(blk):Ti h1 h2 s true β (upd h1 b0 blk) (upd h2 b0 blk):=by
 refine⟨λb hb=>?_,λb hb h=>?_⟩
 ·by_cases he:b=b0
  ·subst he;rw[dB,dB]
  rw[cI _ _ he,cI _ _ he];exact hb
 by_cases he:b=b0
 ·subst he;exact⟨rfl,hn,l,hl⟩
 rw[cI _ _ he,cI _ _ he]at h;rcases h with h|h<;>exact absurd rfl h
theorem Ti.set_new{b0}{l}(hl:β b0=some l)(hn:h1 b0≠none)(blk blk'):Ti h1 h2 s true β (upd (upd h1 b0 blk') s blk) (upd (upd h2 b0 blk') s blk):=by
 refine⟨λb hb=>?_,λb hb h=>?_⟩
 ·by_cases he:b=s
  ·subst he;rw[dB,dB]
  rw[cI _ _ he,cI _ _ he];by_cases he:b=b0
  ·subst he;rw[dB,dB]
  rw[cI _ _ he,cI _ _ he];exact hb
 rw[cI _ _ hb,cI _ _ hb]at h;by_cases he:b=b0
 ·subst he;exact⟨rfl,hn,l,hl⟩
 rw[cI _ _ he,cI _ _ he]at h;rcases h with h|h<;>exact absurd rfl h
def Be(β:Bt)(h1 h2:AH):Prop:=∀b l,β b=some l->h1 b≠none->h2 b=h1 b
def wR{a}{v}(ha:Rep S w β a v)(hag:Be β h1 h2){r}(hr:mY h1 a=some r):mY h2 a=some r∧(xV h2 a↔xV h1 a):=by
 cases ha with
 | osl s lo len clip l A c hl hc hm hcl hA cs e fr hb room=>
  have hn:h1 s≠none:=by
   intro h0;simp only[mY,h0]at hr;cases hr
  have e:=hag s l hl hn;simp only[mY,e]at hr⊢
  exact⟨hr,by simp only[xV,e]⟩
 |v=>exact⟨by cases v<;>exact hr,Iff.rfl⟩
 |_=>exact⟨hr,Iff.rfl⟩
def Wl(t){a}{v}(ha:Rep S w β a v)(hag:Be β h1 h2):Tr h1 h2 s wr β (tG C h1 t a) (tG C h2 t a):=by
 have ok:∀x:Option AV,Tr h1 h2 s wr β (okO x) _:=λx=>by cases x<;>first|trivial|rfl
 cases ha<;>simp only[tG]<;>try (exact trivial)
 case ptr b c l hl=>
  cases hb:h1 b with
  |none=>exact trivial
  |some blk=>
   rw[hag b l hl (by rw[hb];simp),hb]
   cases blk with
   |box cells=>exact ok _
   |arr rows rs=>exact trivial
   |row cells=>exact trivial
 case ptr2 b r c l hl=>
  cases hb:h1 b with
  |none=>exact trivial
  |some blk=>
   rw[hag b l hl (by rw[hb];simp),hb]
   cases blk with
   |box cells=>exact trivial
   |arr rows rs=>rfl
   |row cells=>rfl
 case dp=>exact ok _
theorem Tr.of_eq{r1 r2}(he:r2=r1)(hs:isFx r1=false∨r1=.bad):Tr h1 h2 s wr β r1 r2:=by
 subst he;rcases hs with hs|hs
 ·exact Tr.refl_of hs
 rw[hs];trivial
def blkOf_congr{a}{v}(ha:Rep S w β a v)(hag:Be β h1 h2):DG h2 a=DG h1 a∨DG h1 a=none∧∃b lo len clip,a=.osl b lo len clip:=by
 cases ha with
 |osl b lo len clip l A c hl hc hm hcl hA cs e fr hb room=>
  cases hb:h1 b with
  |none=>exact .inr ⟨hb,b,lo,len,clip,rfl⟩
  |some blk=>exact .inl (hag b l hl (by rw[hb];simp))
 |_=>exact .inl rfl
def JD(t){a i}{v}(ha:Rep S w β a v)(hag:Be β h1 h2):Tr h1 h2 s wr β (iW C h1 t a i) (iW C h2 t a i):=by
 have self:isFx (iW C h1 t a i)=false∨iW C h1 t a i=.bad:=by
  unfold iW pN
  repeat' split
  all_goals first|exact .inl rfl|exact .inr rfl
 rcases blkOf_congr ha hag with he|⟨he,b,lo,len,clip,rfl⟩
 ·exact Tr.of_eq (by unfold iW;rw[he]) self
 have hbad:iW C h1 t (.osl b lo len clip) i=.bad:=by
  unfold iW;rw[he];unfold pN;split
  ·split
   ·rename_i hq;cases hq
   ·rfl
   rfl
  ·split
   ·rename_i hq;cases hq
   ·rename_i hq;cases hq
   ·rename_i hq;cases hq
   rfl
  rfl
 rw[hbad];trivial
def Tj(t){a}{lo hi mx}{v}(ha:Rep S w β a v)(hag:Be β h1 h2):Tr h1 h2 s wr β (uQ C h1 t a lo hi mx) (uQ C h2 t a lo hi mx):=by
 have self:isFx (uQ C h1 t a lo hi mx)=false∨uQ C h1 t a lo hi mx=.bad:=by
  unfold uQ BV
  repeat' split
  all_goals first|exact .inl rfl|exact .inr rfl
 rcases blkOf_congr ha hag with he|⟨he,b,lo',len,clip,rfl⟩
 ·exact Tr.of_eq (by unfold uQ;rw[he]) self
 have hbad:uQ C h1 t (.osl b lo' len clip) lo hi mx=.bad:=by
  unfold uQ;rw[he];unfold BV
  repeat' split
  all_goals first|rfl|(simp_all;done)
 rw[hbad];trivial
def Wm(src dst){a}{v}(ha:Rep S w β a v)(hag:Be β h1 h2):Tr h1 h2 s wr β (FM C h1 s src dst a) (FM C h2 s src dst a):=by
 have cself:isFx (DF C src dst a)=false∨DF C src dst a=.bad:=by
  unfold DF;split<;>first|exact .inl rfl|exact .inr rfl
 unfold FM;split
 ·split
  ·exact⟨_,rfl,Ti.new _⟩
  trivial
 ·split
  ·trivial
  split
  ·rename_i rc rows hq hr;obtain⟨e1,e2⟩:=wR ha hag hr;rw[e1,hq];show _=_;simp only[e2]
  trivial
 exact Tr.of_eq rfl cself
def PG(ts){x y}{vx vy}(hx:Rep S w β x vx)(hy:Rep S w β y vy)(hag:Be β h1 h2):Tr h1 h2 s true β (bR C h1 s .append ts [x,y]) (bR C h2 s .append ts [x,y]):=by
 simp only[bR];have key:∀(rx ry:Option (Nat×List (List AV))) (blk:Option Blk) (px py:Prop),(∀b lo len clip,x=.osl b lo len clip->blk≠none->(∃l,β b=some l)∧h1 b≠none)->Tr h1 h2 s true β (qG C s ts x rx ry blk px py h1) (qG C s ts x rx ry blk px py h2):=by
  intro rx ry blk px py hb;unfold qG;split
  ·split
   ·split
    ·split
     ·split
      ·exact⟨_,rfl,Ti.new _⟩
      ·split
       ·exact Tr.of_eq rfl (.inl rfl)
       ·exact⟨_,rfl,Ti.new _⟩
      ·trivial
     ·split
      ·exact⟨_,rfl,Ti.new _⟩
      ·trivial
     ·rename_i b lo len _ _ _ _ _ _;split
      ·obtain⟨⟨l,hl⟩,hn⟩:=hb _ _ _ _ rfl (by simp);exact⟨_,rfl,Ti.set_new hl hn _ _⟩
      ·trivial
     ·trivial
    ·trivial
   ·trivial
  ·trivial
 have bad1:∀(ry:Option (Nat×List (List AV))) (blk:Option Blk) (px py:Prop),qG C s ts x none ry blk px py h1=.bad:=by
  intro ry blk px py;unfold qG;split
  ·split
   ·split
    ·split<;>first|rfl|(rename_i h _;cases h;done)|(rename_i h;cases h;done)
    ·rfl
   ·rfl
  ·rfl
 have bad2:∀(rx:Option (Nat×List (List AV))) (blk:Option Blk) (px py:Prop),qG C s ts x rx none blk px py h1=.bad:=by
  intro rx blk px py;unfold qG;split
  ·split
   ·split
    ·split<;>first|rfl|(rename_i h _;cases h;done)|(rename_i h;cases h;done)
    ·rfl
   ·rfl
  ·rfl
 cases hrx:mY h1 x with
 |none=>rw[bad1];trivial
 | some rx=>
  cases hry:mY h1 y with
  |none=>rw[bad2];trivial
  | some ry=>
   obtain⟨e1,e2⟩:=wR hx hag hrx;obtain⟨e3,e4⟩:=wR hy hag hry;have hbk:DG h2 x=DG h1 x:=by
    rcases blkOf_congr hx hag with he|⟨he,b,lo,len,clip,rfl⟩
    ·exact he
    ·simp only[DG]at he;simp only[mY,he]at hrx;cases hrx
   rw[e1,e3,hbk,show xV h2 x=xV h1 x from propext e2,show xV h2 y=xV h1 y from propext e4];refine key _ _ _ _ _ λb lo len clip hq hne=>?_;subst hq
   cases hx with
   |osl _ _ _ _ l A c hl hc hm hcl hA cs e fr hb' room=>exact⟨⟨l,hl⟩,hne⟩
def Wn(ts){x y}{vx vy}(hx:Rep S w β x vx)(hy:Rep S w β y vy)(hag:Be β h1 h2):Tr h1 h2 s true β (EB C h1 ts x y) (EB C h2 ts x y):=by
 unfold EB;split
 ·trivial
 ·split
  ·split
   ·rename_i ei b lo len clip he
    cases hb:h1 b with
    |none=>simp only;split<;>trivial
    | some blk=>
     cases hx with
     |osl _ _ _ _ l A c hl hc hm hcl hA cs e fr hb' room=>
     have e:=hag b l hl (by rw[hb];simp)
     cases hr:mY h1 y with
     |none=>cases blk<;>trivial
     | some r=>
      obtain⟨e1,e2⟩:=wR hy hag hr;rw[e,hb,e1]
      cases blk with
      |box=>trivial
      |row=>trivial
      |arr rows rs=>
       simp only;split
       ·exact⟨_,by simp only[e2],Ti.set hl (by rw[hb];simp) _⟩
       ·trivial
   ·trivial
  ·trivial
theorem mE(h:AH):∀(cs:List AV) (i:Nat),(rO h cs)[i]?=(cs[i]?).map (vR h)
 |[],i=>by simp[rO]
 |c::cs,0=>by simp[rO]
 |c::cs,i+1=>by simp[rO,mE h cs i]
theorem pL(h:AH):∀(cs:List AV),jV h cs↔∀(i:Nat) a,cs[i]?=some a->jU h a
 |[]=>⟨λ_ i a h=>by simp at h,λ_=>trivial⟩
 |c::cs=>by
  simp only[jV,pL h cs];refine⟨λ⟨h0,hr⟩ i a hi=>?_,λH=>⟨H 0 c rfl,λi a hi=>H (i+1) a (sU hi)⟩⟩
  cases i with
  |zero=>simp at hi;subst hi;exact h0
  |succ i=>exact hr i a (sU hi)
def Ol{a}{v}(ha:Rep S w β a v):Be β h1 h2->eP (vR h1 a)=true->vR h2 a=vR h1 a∧(jU h2 a↔jU h1 a):=by
 induction ha with
 | agg cs vs hl h1' h ih=>
  intro hag hc;have hc':eW _=true:=hc;have each:∀(i:Nat) a,cs[i]?=some a->vR h2 a=vR h1 a∧(jU h2 a↔jU h1 a):=by
   intro i a hi;have hlt:i<vs.size:=by rw[<-hl];exact(Em.1 hi).1
   exact ih i a vs[i] hi (aT hlt) hag (fW _ hc' i _ (by rw[mE,hi];rfl))
  constructor
  ·show AV.agg _=.agg _;congr 1;apply dD;intro i;rw[mE,mE]
   cases hi:cs[i]? with
   |none=>rfl
   |some a=>simp only[dF,(each i a hi).1]
  ·show jV h2 cs↔jV h1 cs;rw[pL,pL]
   exact⟨λH i a hi=>(each i a hi).2.1 (H i a hi),λH i a hi=>(each i a hi).2.2 (H i a hi)⟩
 | tup cs vs hl h ih=>
  intro hag hc
  cases hq:oU cs with
  |true=>simp[vR,jU,hq]
  |false=>
  have hc':eW (rO h1 cs)=true:=by simpa only[vR,hq,eP]using hc
  have each:∀(i:Nat) a,cs[i]?=some a->vR h2 a=vR h1 a∧(jU h2 a↔jU h1 a):=by
   intro i a hi;have hlt:i<vs.size:=by rw[<-hl];exact(Em.1 hi).1
   exact ih i a vs[i] hi (aT hlt) hag (fW _ hc' i _ (by rw[mE,hi];rfl))
  constructor
  ·simp only[vR,hq];congr 1;apply dD;intro i;rw[mE,mE]
   cases hi:cs[i]? with
   |none=>rfl
   |some a=>simp only[dF,(each i a hi).1]
  ·simp only[jU,hq];rw[pL,pL]
   exact⟨λH i a hi=>(each i a hi).2.1 (H i a hi),λH i a hi=>(each i a hi).2.2 (H i a hi)⟩
 | osl s lo len clip l A c hl hc hm hcl hA cs e fr hb room=>
  intro hag hcl';have hn:h1 s≠none:=by
   intro h0;simp only[vR,h0,eP]at hcl';cases hcl'
  have e:=hag s l hl hn;simp only[vR,jU,e]
  exact⟨trivial,trivial⟩
 | ptr s col l hl=>
  intro hag hcl';have hn:h1 s≠none:=by
   intro h0;simp only[vR,h0,eP]at hcl';cases hcl'
  have e:=hag s l hl hn;simp only[vR,jU,e]
  exact⟨trivial,trivial⟩
 | clo f first caps vs us hl h hl' h' ih ih'=>
  intro hag hc;simp only[vR,eP]at hc;split at hc
  ·rename_i hc1;have each:∀(i:Nat) a,first[i]?=some a->vR h2 a=vR h1 a∧(jU h2 a↔jU h1 a):=by
    intro i a hi;have hlt:i<vs.size:=by rw[<-hl];exact(Em.1 hi).1
    exact ih i a vs[i] hi (aT hlt) hag (fW _ hc1 i _ (by rw[mE,hi];rfl))
   have each':∀(i:Nat) a,caps[i]?=some a->vR h2 a=vR h1 a∧(jU h2 a↔jU h1 a):=by
    intro i a hi;have hlt:i<us.size:=by rw[<-hl'];exact(Em.1 hi).1
    exact ih' i a us[i] hi (aT hlt) hag (fW _ hc i _ (by rw[mE,hi];rfl))
   have ext:∀(cs:List AV),(∀(i:Nat) a,cs[i]?=some a->vR h2 a=vR h1 a∧(jU h2 a↔jU h1 a))->rO h2 cs=rO h1 cs∧(jV h2 cs↔jV h1 cs):=by
    intro cs each;constructor
    ·apply dD;intro i;rw[mE,mE]
     cases hi:cs[i]? with
     |none=>rfl
     |some a=>simp only[dF,(each i a hi).1]
    ·rw[pL,pL];exact⟨λH i a hi=>(each i a hi).2.1 (H i a hi),λH i a hi=>(each i a hi).2.2 (H i a hi)⟩
   obtain⟨p1,p2⟩:=ext first each
   obtain⟨q1,q2⟩:=ext caps each';refine⟨by simp only[vR,p1,q1],?_⟩;show(jV h2 first∧jV h2 caps)↔(jV h1 first∧jV h1 caps);rw[p2,q2]
  ·cases hc
 |_=>intro _ _;exact⟨rfl,Iff.rfl⟩
def Om{args}{vs}(hr:RepL S w β args vs)(hag:Be β h1 h2)(hc:eW (rO h1 args)=true):rO h2 args=rO h1 args∧(jV h2 args↔jV h1 args):=by
 have each:∀(i:Nat) a,args[i]?=some a->vR h2 a=vR h1 a∧(jU h2 a↔jU h1 a):=by
  intro i a hi;have hlt:i<vs.length:=by rw[<-hr.1];exact(Em.1 hi).1
  exact Ol (hr.2 i a _ hi (aA hlt)) hag (fW _ hc i _ (by rw[mE,hi];rfl))
 constructor
 ·apply dD;intro i;rw[mE,mE]
  cases hi:args[i]? with
  |none=>rfl
  |some a=>simp only[dF,(each i a hi).1]
 ·rw[pL,pL];exact⟨λH i a hi=>(each i a hi).2.1 (H i a hi),λH i a hi=>(each i a hi).2.2 (H i a hi)⟩
theorem Ti.refl:Ti h1 h2 s wr β h1 h2:=⟨λ_ h=>h,λb _ h=>by rcases h with h|h<;>exact absurd rfl h⟩
def JE{ev}{ρ:Operand->Value}(op)(hev:∀x∈op.operands,Rep S w β (ev x) (ρ x))(hag:pZ op=true->Be β h1 h2):
  Tr h1 h2 s (lZ op) β (opA C ev h1 s op) (opA C ev h2 s op):=by
 have ok:∀(wr:Bool) (x:Option AV),Tr h1 h2 s wr β (okO x) (okO x):=λwr x=>by cases x<;>first|trivial|rfl
 cases op<;>simp only[Op.operands]at hev<;>simp only[opA]<;>try (exact trivial)
 case move x=>rfl
 case assign x=>rfl
 case pick c a b=>
  refine Tr.of_eq rfl ?_;unfold HL;split<;>first|exact .inl rfl|exact .inr rfl
 case alloc t=>split<;>first|trivial|exact⟨_,rfl,Ti.new _⟩
 case box t x=>split<;>first|trivial|exact⟨_,rfl,Ti.new _⟩
 case build t ps=>
  refine Tr.of_eq rfl ?_;have o:∀x:Option AV,isFx (okO x)=false∨okO x=.bad:=λx=>by cases x<;>first|exact .inl rfl|exact .inr rfl
  unfold BX
  repeat' split
  all_goals first|exact o _|exact .inr rfl
 case buildSlice t n ps=>
  refine Tr.of_eq rfl ?_
  repeat' split
  all_goals first|exact .inl rfl|exact .inr rfl
 case load t a=>exact Wl t (hev a (by simp)) (hag rfl)
 case store t a x=>
  have hag:=hag rfl;have ha:=hev a (by simp);split
  ·split
   ·generalize ev a=av at ha;generalize ρ a=va at ha;cases ha<;>try (exact trivial)
    case ptr b c l hl=>
     simp only
     cases hb:h1 b with
     |none=>exact trivial
     | some blk=>
      rw[hag b l hl (by rw[hb];simp),hb]
      cases blk with
      |arr=>exact trivial
      |row=>exact trivial
      |box cells=>
       simp only;split
       ·exact⟨_,rfl,Ti.set hl (by rw[hb];simp) _⟩
       ·trivial
    case ptr2 b r c l hl=>
     simp only
     cases hb:h1 b with
     |none=>exact trivial
     | some blk=>
      rw[hag b l hl (by rw[hb];simp),hb]
      cases blk with
      |box cells=>exact trivial
      | arr rows rs=>
       refine⟨_,rfl,λrow h1' hf=>?_⟩;dsimp only at hf⊢;split at hf
       ·rename_i e1 e2;injection hf with hf;subst hf;exact⟨_,by simp only,Ti.set hl (by rw[hb];simp) _⟩
       ·cases hf
      | row cells=>
       refine⟨_,rfl,λrow h1' hf=>?_⟩;dsimp only at hf⊢;split at hf
       ·injection hf with hf;subst hf;exact⟨_,rfl,Ti.set hl (by rw[hb];simp) _⟩
       ·cases hf
   ·trivial
  ·trivial
 case nilCheck x=>
  refine Tr.of_eq rfl ?_;unfold TD;split<;>first|exact .inl rfl|exact .inr rfl
 case binOp op t x y yt=>
  refine Tr.of_eq rfl ?_;unfold BU Tz HE Ty BT HG
  repeat' split
  all_goals first|exact .inl rfl|exact .inr rfl
 case unOp op t x=>
  refine Tr.of_eq rfl ?_;unfold unA;split<;>first|exact .inl rfl|exact .inr rfl
 case convert src dst x=>exact Wm src dst (hev x (by simp)) (hag rfl)
 case makeFunc fn first caps=>cases fn<;>first|trivial|rfl
 case makeSlice t l c=>
  unfold JM
  repeat' split
  all_goals first|trivial|exact⟨_,rfl,Ti.new _⟩
 case slice t x lo hi mx=>exact Tj t (hev x (by simp)) (hag rfl)
 case fieldAddr t x f=>
  refine Tr.of_eq rfl ?_;unfold oJ
  repeat' split
  all_goals first|exact .inl rfl|exact .inr rfl
 case field t x f=>
  have o:∀x:Option AV,isFx (okO x)=false∨okO x=.bad:=λx=>by cases x<;>first|exact .inl rfl|exact .inr rfl
  refine Tr.of_eq rfl ?_;unfold Ab
  repeat' split
  all_goals first|exact o _|exact .inr rfl
 case indexAddr t x i=>exact JD t (hev x (by simp)) (hag rfl)
 case index t x i=>
  refine Tr.of_eq rfl ?_;unfold BW
  repeat' split
  all_goals first|exact .inl rfl|exact .inr rfl
 case extract x i=>
  have o:∀x:Option AV,isFx (okO x)=false∨okO x=.bad:=λx=>by cases x<;>first|exact .inl rfl|exact .inr rfl
  refine Tr.of_eq rfl ?_;unfold rY;split<;>first|exact o _|exact .inr rfl
 case call c=>
  obtain⟨callee,args,ats⟩:=c
  cases callee with
  |value f=>
   simp only
   split<;>first|rfl|trivial
  |invoke r m=>trivial
  | builtin b=>
   simp only[Call.operands,Array.empty_append]at hev;have two:∀(x y:AV),args.toList.map ev=[x,y]->∃v u,Rep S w β x v∧Rep S w β y u:=by
    intro x y hx;have hargs:RepL S w β (args.toList.map ev) (args.toList.map ρ):=RepL.of_map _ λx hx=>hev x (sU hx);rw[hx]at hargs;have hl:args.toList.length=2:=sU hargs.1.symm
    match hq:args.toList,hl with
    |[a,b],_=>exact⟨ρ a,ρ b,hargs.2 0 x (ρ a) rfl (by simp[hq]),hargs.2 1 y (ρ b) rfl (by simp[hq])⟩
   simp only;cases b<;>try (simp only[bR];exact trivial)
   case append=>
    match hA:args.toList.map ev with
    |[]=>simp only[bR];exact trivial
    |[_]=>simp only[bR];exact trivial
    |_::_::_::_=>simp only[bR];exact trivial
    |[x,y]=>
     obtain⟨v,u,hx,hy⟩:=two x y hA;exact PG ats.toList hx hy (hag rfl)
   case copy=>
    match hA:args.toList.map ev with
    |[]=>simp only[bR];exact trivial
    |[_]=>simp only[bR];exact trivial
    |_::_::_::_=>simp only[bR];exact trivial
    |[x,y]=>
     obtain⟨v,u,hx,hy⟩:=two x y hA;simp only[bR];exact Wn ats.toList hx hy (hag rfl)
   case len=>
    match hA:args.toList.map ev with
    |[]=>simp only[bR];exact trivial
    |_::_::_=>simp only[bR];exact trivial
    | [x]=>
     match hT:ats.toList with
     |[]=>simp only[bR];exact trivial
     |_::_::_=>simp only[bR];exact trivial
     |[t]=>
      simp only[bR];refine Tr.of_eq rfl ?_;unfold TA;split<;>first|exact .inl rfl|exact .inr rfl
   case min=>
    match hA:args.toList.map ev with
    |[]=>simp only[bR];exact trivial
    |[_]=>simp only[bR];exact trivial
    |_::_::_::_=>simp only[bR];exact trivial
    |[x,y]=>
     simp only[bR];refine Tr.of_eq rfl ?_;unfold TB
     repeat' split
     all_goals first|exact .inl rfl|exact .inr rfl
   case max=>
    match hA:args.toList.map ev with
    |[]=>simp only[bR];exact trivial
    |[_]=>simp only[bR];exact trivial
    |_::_::_::_=>simp only[bR];exact trivial
    |[x,y]=>
     simp only[bR];refine Tr.of_eq rfl ?_;unfold TC
     repeat' split
     all_goals first|exact .inl rfl|exact .inr rfl
def On{ev}(op)(hc:∀c:Call,op≠ .call c){f}{args}:opA C ev h1 s op≠ .call f args:=by
  intro h;have o:∀x:Option AV,okO x≠ .call f args:=λx hx=>by cases x<;>simp[okO]at hx
  cases op<;>simp only[opA]at h
  case call c=>exact hc c rfl
  case makeFunc fn first caps=>cases fn<;>cases h
  all_goals first
    | (simp only[HL,AL,BX,tG,TD,unA,BU,Tz,HE,Ty,BT,HG,FM,DF,JM,uQ,BV,oJ,Ab,iW,pN,BW,rY]at h
       (repeat' split at h)<;>first|(cases h;done)|(exact o _ h))
    |((repeat' split at h)<;>first|(cases h;done)|(exact o _ h))
    |(cases h;done)
def Tk{ev}{ρ:Operand->Value}(op)(hev:∀x∈op.operands,Rep S w β (ev x) (ρ x)){f}{args}(hc:opA C ev h1 s op=.call f args):pZ op=true∧∃vs,RepL S w β args vs:=by
 by_cases h:∃c:Call,op=.call c
 ·obtain⟨c,rfl⟩:=h;refine⟨rfl,?_⟩;obtain⟨callee,as_,ats⟩:=c;simp only[Op.operands]at hev
  cases callee with
  |invoke r m=>simp only[opA]at hc;cases hc
  | value g=>
   simp only[opA]at hc;split at hc
   ·rename_i g' first caps he
    injection hc with q1 q2;subst q2;have hf:=hev g (by simp[Call.operands]);rw[he]at hf;generalize ρ g=v at hf
    cases hf with
    |clo _ _ _ vs us hl hr hl' hr'=>
    exact⟨vs.toList++as_.toList.map ρ++us.toList,RepL.append (RepL.append ⟨sU hl,λi a u p q=>hr i a u p (sU q)⟩ (RepL.of_map _ λx hx=>hev x (by simp[Call.operands];exact .inr (sU hx)))) ⟨sU hl',λi a u p q=>hr' i a u p (sU q)⟩⟩
   ·cases hc
  |builtin b=>
   simp only[opA]at hc;exfalso;unfold bR at hc;simp only[TA,TB,TC,EB,qG]at hc
   (repeat' split at hc)<;>cases hc
 ·exact absurd hc (On op λc hc=>h ⟨c,hc⟩)
def wS{R}{ev}{ρ:Operand->Value}(op)(hev:∀x∈op.operands,Rep S w β (ev x) (ρ x))(hag:pZ op=true->Be β h1 h2){x}{h1'}(hn:NodeR C R h1 (opA C ev h1 s op) x h1'):
  ∃h2',NodeR C R h2 (opA C ev h2 s op) x h2'∧Ti h1 h2 s (lZ op) β h1' h2':=by
 have T:=JE (C:=C) (s:=s) op hev hag
 cases hr:opA C ev h1 s op with
 |bad=>rw[hr]at hn;exact hn.elim
 |ok y=>rw[hr]at hn T;obtain⟨rfl,rfl⟩:=hn;exact⟨h2,by rw[show opA C ev h2 s op=.ok x from T];exact⟨rfl,rfl⟩,Ti.refl⟩
 |need p y=>rw[hr]at hn T;obtain⟨hp,rfl,rfl⟩:=hn;exact⟨h2,by rw[show opA C ev h2 s op=.need p x from T];exact⟨hp,rfl,rfl⟩,Ti.refl⟩
 |idx rows i f=>rw[hr]at hn T;obtain⟨row,h0,h3,h4,rfl⟩:=hn;exact⟨h2,by rw[show opA C ev h2 s op=.idx rows i f from T];exact⟨row,h0,h3,h4,rfl⟩,Ti.refl⟩
 |fx p y k=>rw[hr]at hn T;obtain⟨hp,rfl,rfl⟩:=hn;obtain⟨h2',e1,e2⟩:=T;exact⟨h2',by rw[e1];exact⟨hp,rfl,rfl⟩,e2⟩
 |idxfx rows i f=>rw[hr]at hn T;obtain⟨row,h0,h3,h4,rfl⟩:=hn;obtain⟨f2,e1,e2⟩:=T;obtain⟨h2',e3,e4⟩:=e2 row h1' h4;exact⟨h2',by rw[e1];exact⟨row,h0,h3,e3,rfl⟩,e4⟩
 |str p rows=>rw[hr]at hn T;obtain⟨l,hp,h3,rfl,rfl⟩:=hn;exact⟨h2,by rw[show opA C ev h2 s op=.str p rows from T];exact⟨l,hp,h3,rfl,rfl⟩,Ti.refl⟩
 |call f args=>
  rw[hr]at hn T;obtain⟨c1,c2,c3,c4,rfl⟩:=hn;obtain⟨hrd,vs,hargs⟩:=Tk op hev hr;obtain⟨e1,e2⟩:=Om hargs (hag hrd) c1;refine⟨h2,?_,Ti.refl⟩;rw[show opA C ev h2 s op=.call f args from T];exact⟨by rw[e1];exact c1,c2.imp id (λh=>⟨h.1,e2.2 h.2⟩),c3,by rw[e1];exact c4,rfl⟩
end
theorem maskE_spec(acc:List Nat):∀(es:List Edge) (m i:Nat),(PW acc es m).testBit i=true->m.testBit i=true∨∃e∈es,Region.binds .any e=true∧(i=e.on∨(acc.getD e.on 0).testBit i=true)
 |[],m,i,h=>.inl h
 | e::es,m,i,h=>by
  simp only[PW]at h;rcases maskE_spec acc es _ i h with h|⟨e',h1,h2⟩
  ·split at h
   ·rename_i hb;simp only[Nat.testBit_or,Nat.testBit_two_pow,dE,aY]at h;rcases h with (h|h)|h
    ·exact .inl h
    ·exact .inr ⟨e,al_List_mem_cons_self,hb,.inl h.symm⟩
    ·exact .inr ⟨e,al_List_mem_cons_self,hb,.inr h⟩
   ·exact .inl h
  ·exact .inr ⟨e',bY _ h1,h2⟩
def YI(l:List Oper)(X:Nat->Prop):Prop:=∀j oj,X j->l[j]?=some oj->∀e∈oj.after.toList,Region.binds .any e=true->X e.on
theorem Gt{l:List Oper}{X:Nat->Prop}(hX:YI l X):∀(rest pre:List Oper) (acc:List Nat),l=pre++rest->acc.length=pre.length->
  (∀j oj,j<pre.length->l[j]?=some oj->(∀e∈oj.after.toList,Region.binds .any e=true->X e.on)->∀i,(acc.getD j 0).testBit i=true->X i)->
  ∀j oj,l[j]?=some oj->(∀e∈oj.after.toList,Region.binds .any e=true->X e.on)->∀i,((yV rest acc).getD j 0).testBit i=true->X i
 |[],pre,acc,hl,ha,H,j,oj,hj,hp,i,hi=>by
  have hlt:j<pre.length:=by rw[hl,dY]at hj;exact(Em.1 hj).1
  exact H j oj hlt hj hp i hi
 | o ::rest,pre,acc,hl,ha,H,j,oj,hj,hp,i,hi=>by
  refine Gt hX rest (pre++[o]) (acc++[PW acc o.after.toList 0]) (by rw[hl];simp) (by simp[ha]) ?_ j oj hj hp i hi;intro j oj hlt hj hp i hi;rw[aU]at hlt;by_cases hjp:j<pre.length
  ·rw[aR,cF oT, <-aR]at hi;exact H j oj hjp hj hp i hi
  ·have hje:j=pre.length:=by simp at hlt;omega
   subst hje;have hoj:oj=o:=by
    rw[hl,bM (aC _),eK]at hj;simpa using hj.symm
   subst hoj;rw[aR,bM oT,ha,eK]at hi;simp only[cP,gI]at hi;rcases maskE_spec acc _ _ _ hi with h|⟨e,h1,h2,h3⟩
   ·simp at h
   ·have hXe:=hp e h1 h2;rcases h3 with rfl|h3
    ·exact hXe
    ·rcases al_Nat_lt_or_ge e.on acc.length with hea|hea
     ·have hel:e.on<l.length:=by rw[hl,aU];omega
      exact H e.on l[e.on] oT (aA hel) (hX e.on _ hXe (aA hel)) i h3
     ·rw[aR,bE hea]at h3;simp at h3
def yP{l:List Oper}{X:Nat->Prop}(hX:YI l X){j:Nat}{oj:Oper}(hj:l[j]?=some oj)(hp:∀e∈oj.after.toList,Region.binds .any e=true->X e.on){i:Nat}(hi:((yV l []).getD j 0).testBit i=true):X i:=
 Gt hX l [] [] rfl rfl (λj oj h=>absurd h (by simp)) j oj hj hp i hi
structure DrawOk(l:List Oper):Prop where
 back:∀j oj,l[j]?=some oj->∀e∈oj.after.toList,Region.binds .any e=true->e.on<j
 slot:∀i j oi oj d,l[i]?=some oi->l[j]?=some oj->i≠j->oi.dst=some d->d∈pA l oj->JN (yV l []) i j=true
 mem:∀i j oi oj,l[i]?=some oi->l[j]?=some oj->i≠j->lZ oi.op=true->pZ oj.op=true->JN (yV l []) i j=true
def Lm{l}(h:JO l=true):DrawOk l:=by
  have main:∀j oj,l[j]?=some oj->(oj.after.toList.all λe=> !Region.binds .any e||Nat.blt e.on j)=true∧∀i oi,l[i]?=some oi->(i==j||
          ((match oi.dst with|none=>true|some d=> !(pA l oj).contains d||JN (yV l []) i j)&&
           (!(lZ oi.op&&pZ oj.op)||JN (yV l []) i j)))=true:=by
    intro j oj hj;have hjl:j<l.length:=(Em.1 hj).1;have h1:=rC.1 h j (sU hjl);simp only[hj,aP]at h1;refine⟨h1.1,λi oi hi=>?_⟩;have hil:i<l.length:=(Em.1 hi).1;have h2:=rC.1 h1.2 i (sU hil);simp only[hi]at h2;exact h2
  refine⟨λj oj hj e he hb=>?_,λi j oi oj d hi hj hne hd hl=>?_,λi j oi oj hi hj hne hw hr=>?_⟩
  · have:=rC.1 (main j oj hj).1 e he
    simp only[hb,mD,jD]at this;exact aJ this
  · have:=(main j oj hj).2 i oi hi
    have hb:(i==j)=false:=sU hne;simp only[hb,jD,aP,hd]at this;have h1:=this.1;rw[(sU hl:(pA l oj).contains d=true)]at h1;simpa using h1
  have:=(main j oj hj).2 i oi hi;have hb:(i==j)=false:=sU hne;simp only[hb,jD,aP]at this;have h1:=this.2;simpa [hw,hr]using h1
end Go.Proofs.YtlpkggpdjobpmaaGreatDoor
namespace Go.Proofs.YtlpkggpdjobpmaaGreatDoor
open Go.RowKit
section
variable {C:Ctx}{V:Inv C.fr}{R:FuncId->List AV->AV->Prop}{all:List Oper}{n:Nat}{K:ASt->Prop}
theorem Hp(nH:NoH C):∀(rest:List Oper) (j:Nat) (t:Nat->AV) (h:AH),jS C R all rest j ⟨t,h,n⟩ K->∃(xs:Nat->AV) (hh:Nat->AH) (tt:Nat->Nat->AV),tt j=t∧hh j=h∧
  (∀k o,rest[k]?=some o->StepR C R all o (n+(j+k)) (tt (j+k)) (hh (j+k)) (xs (j+k)) (hh (j+k+1))∧tt (j+k+1)=Aa (tt (j+k)) o.dst (xs (j+k)))∧K ⟨tt (j+rest.length),hh (j+rest.length),n+(j+rest.length)⟩
 |[],j,t,h,hr=>⟨λ_=>.any,λ_=>h,λ_=>t,rfl,rfl,λk o hk=>by simp at hk,hr⟩
 | o::rest,j,t,h,hr=>by
  obtain⟨x,h',h1,h2⟩:=(step_inv hr).resolve_right λ⟨_,f,args,Post,_,hH,_⟩=>nH _ _ _ _ _ hH;obtain⟨xs,hh,tt,e1,e2,e3,e4⟩:=Hp nH rest (j+1) _ h' h2;refine⟨λk=>if k=j then x else xs k,λk=>if k=j then h else hh k,λk=>if k=j then t else tt k,by simp,by simp,λk o' hk=>?_,?_⟩
  ·cases k with
   |zero=>
    simp only[cP,af6]at hk;subst hk;simp only[iU,fD,(oT:¬j+1=j),eE,e1,e2]
    exact⟨h1,trivial⟩
   |succ k=>
    simp only[dL]at hk;have:=e3 k o' hk;simp only[(oT:¬j+(k+1)=j),(oT:¬j+(k+1)+1=j),eE];rw[(oT:j+(k+1)=j+1+k)];exact this
  ·simp only[bN,(oT:¬j+(rest.length+1)=j),eE];rw[(oT:j+(rest.length+1)=j+1+rest.length)];exact e4
def Tg{ev}{h}{s}(op):(∀p x h',opA C ev h s op=.fx p x h'->∀b,b≠s->h' b≠h b->lZ op=true∧h b≠none)∧
    (∀rows i f,opA C ev h s op=.idxfx rows i f->∀row h',f row=some h'->∀b,b≠s->h' b≠h b->lZ op=true∧h b≠none):=by
  have new:∀(blk:Option Blk) b,b≠s->upd h s blk b≠h b->False:=λblk b hb hn=>hn (cI _ _ hb);have set:∀(b0:Nat) (blk:Option Blk) b,upd h b0 blk b≠h b->b=b0:=λb0 blk b hn=>af4 λe=>hn (cI _ _ e);have oB:∀(x:Option AV) p y h',okO x≠ .fx p y h':=λx p y h' hx=>by cases x<;>simp[okO]at hx
  have oI:∀(x:Option AV) rows i f,okO x≠ .idxfx rows i f:=λx rows i f hx=>by cases x<;>simp[okO]at hx
  constructor
  · intro p x h' he b hb hn
    cases op<;>simp only[opA]at he
    case makeFunc fn a c=>cases fn<;>cases he
    case store t a v=>
      refine⟨rfl,?_⟩
      (repeat' split at he)<;>first|(cases he;done)|skip
      rename_i hq _ _;injection he with _ _ he;subst he;rw[set _ _ _ hn,hq];simp
    case convert src dst x=>
      simp only[FM,DF]at he
      (repeat' split at he)<;>first|(cases he;done)|skip
      injection he with _ _ he;subst he;exact(new _ b hb hn).elim
    case makeSlice t l c=>
      simp only[JM]at he
      (repeat' split at he)<;>first|(cases he;done)|skip
      injection he with _ _ he;subst he;exact(new _ b hb hn).elim
    case alloc t=>
      split at he
      · injection he with _ _ he;subst he
        exact(new _ b hb hn).elim
      · cases he
    case box t x=>
      split at he
      · injection he with _ _ he;subst he
        exact(new _ b hb hn).elim
      · cases he
    case call c =>
      obtain⟨callee,args,ats⟩:=c
      cases callee with
      |value f=>simp only at he;split at he<;>cases he
      |invoke r m=>cases he
      | builtin bi=>
        simp only at he;cases bi<;>try (simp only[bR]at he;cases he;done)
        case append=>
          refine⟨rfl,?_⟩
          match hA:args.toList.map ev with
          |[]=>rw[hA]at he;simp only[bR]at he;cases he
          |[_]=>rw[hA]at he;simp only[bR]at he;cases he
          |_::_::_::_=>rw[hA]at he;simp only[bR]at he;cases he
          | [x',y']=>
            rw[hA]at he;simp only[bR]at he;have key:∀(rx ry:Option _) (blk:Option Blk) (px py:Prop),blk=DG h x'->qG C s ats.toList x' rx ry blk px py h=.fx p x h'->h b≠none:=by
              intro rx ry blk px py hbk he;unfold qG at he
              (repeat' split at he)<;>first|(cases he;done)|skip
              · injection he with _ _ he;subst he;exact(new _ b hb hn).elim
              · injection he with _ _ he;subst he;exact(new _ b hb hn).elim
              · injection he with _ _ he;subst he;exact(new _ b hb hn).elim
              · injection he with _ _ he;subst he
                rw[cI _ _ hb]at hn;rw[set _ _ _ hn];simp only[DG]at hbk;rw[<-hbk];simp
            exact key _ _ _ _ _ rfl he
        case copy=>
          refine⟨rfl,?_⟩
          match hA:args.toList.map ev with
          |[]=>rw[hA]at he;simp only[bR]at he;cases he
          |[_]=>rw[hA]at he;simp only[bR]at he;cases he
          |_::_::_::_=>rw[hA]at he;simp only[bR]at he;cases he
          | [x',y']=>
            rw[hA]at he;simp only[bR,EB]at he
            (repeat' split at he)<;>first|(cases he;done)|skip
            rename_i hq _ _ _ _ _;injection he with _ _ he;subst he;rw[set _ _ _ hn,hq];simp
        case len=>
          match hA:args.toList.map ev with
          |[]=>rw[hA]at he;simp only[bR]at he;cases he
          |_::_::_=>rw[hA]at he;simp only[bR]at he;cases he
          | [x']=>
            rw[hA]at he
            match hT:ats.toList with
            |[]=>rw[hT]at he;simp only[bR]at he;cases he
            |_::_::_=>rw[hT]at he;simp only[bR]at he;cases he
            | [t']=>
              rw[hT]at he;simp only[bR,TA]at he
              (repeat' split at he)<;>cases he
        case min=>
          match hA:args.toList.map ev with
          |[]=>rw[hA]at he;simp only[bR]at he;cases he
          |[_]=>rw[hA]at he;simp only[bR]at he;cases he
          |_::_::_::_=>rw[hA]at he;simp only[bR]at he;cases he
          | [x',y']=>
            rw[hA]at he;simp only[bR,TB]at he
            (repeat' split at he)<;>cases he
        case max=>
          match hA:args.toList.map ev with
          |[]=>rw[hA]at he;simp only[bR]at he;cases he
          |[_]=>rw[hA]at he;simp only[bR]at he;cases he
          |_::_::_::_=>rw[hA]at he;simp only[bR]at he;cases he
          | [x',y']=>
            rw[hA]at he;simp only[bR,TC]at he
            (repeat' split at he)<;>cases he
    all_goals first
      | (simp only[HL,BX,tG,TD,unA,BU,Tz,HE,Ty,BT,HG,uQ,BV,oJ,Ab,iW,pN,BW,rY]at he
         (repeat' split at he)<;>first|(cases he;done)|(exact absurd he (oB _ _ _ _)))
      |((repeat' split at he)<;>first|(cases he;done)|(exact absurd he (oB _ _ _ _)))
      |(cases he;done)
  · intro rows i f he row h' hf b hb hn
    cases op<;>simp only[opA]at he
    case makeFunc fn a c=>cases fn<;>cases he
    case store t a v=>
      refine⟨rfl,?_⟩
      (repeat' split at he)<;>first|(cases he;done)|skip
      all_goals
        injection he with _ _ he;subst he;dsimp only at hf
        (repeat' split at hf)<;>first
          |(cases hf;done)
          | (injection hf with hf
             subst hf;rw[set _ _ _ hn];intro h0
             simp_all)
    case call c=>
      obtain⟨callee,args,ats⟩:=c
      cases callee with
      |value f=>simp only at he;split at he<;>cases he
      |invoke r m=>cases he
      | builtin bi=>
        exfalso;simp only at he;unfold bR at he;simp only[TA,TB,TC,EB,qG]at he
        (repeat' split at he)<;>cases he
    all_goals first
      | (simp only[HL,BX,tG,TD,unA,BU,Tz,HE,Ty,BT,HG,FM,DF,JM,uQ,BV,oJ,Ab,iW,pN,BW,rY]at he
         (repeat' split at he)<;>first|(cases he;done)|(exact absurd he (oI _ _ _ _)))
      |((repeat' split at he)<;>first|(cases he;done)|(exact absurd he (oI _ _ _ _)))
      |(cases he;done)
def AC{o}{s}{t}{h h'}{x}(hs:StepR C R all o s t h x h'):∀b,b≠s->h' b≠h b->lZ o.op=true∧h b≠none:=by
 intro b hb hn;have main:NodeR C R h (opA C (evA C t) h s o.op) x h'->lZ o.op=true∧h b≠none:=λhs=>by
  obtain⟨H1,H2⟩:=Tg o.op
  cases hr:opA C _ h s o.op with
  |bad=>rw[hr]at hs;exact hs.elim
  |ok y=>rw[hr]at hs;obtain⟨_,rfl⟩:=hs;exact absurd rfl hn
  |need p y=>rw[hr]at hs;obtain⟨_,_,rfl⟩:=hs;exact absurd rfl hn
  |idx rows i f=>rw[hr]at hs;obtain⟨_,_,_,_,rfl⟩:=hs;exact absurd rfl hn
  |str p rows=>rw[hr]at hs;obtain⟨_,_,_,_,rfl⟩:=hs;exact absurd rfl hn
  |call f args=>rw[hr]at hs;obtain⟨_,_,_,_,rfl⟩:=hs;exact absurd rfl hn
  |fx p y h2=>rw[hr]at hs;obtain⟨_,_,rfl⟩:=hs;exact H1 p y h' hr b hb hn
  |idxfx rows i f=>rw[hr]at hs;obtain⟨row,_,_,hf,_⟩:=hs;exact H2 rows i f hr row h' hf b hb hn
 unfold StepR at hs
 cases hg:o.guard with
 |some q=>
  obtain⟨i,pol⟩:=q;simp only[hg]at hs;obtain⟨d,g,y,_,_,⟨_,rfl,_⟩|⟨_,hs⟩⟩:=hs
  ·exact absurd rfl hn
  ·exact main hs
 |none=>simp only[hg]at hs;exact main hs
def valX(X:Nat->Bool)(l:List Oper)(xs:Nat->AV)(t:Nat->AV):Nat->Nat->AV
 |0=>t
 |k+1=>match l[k]? with
  |some o=>(match X k with|true=>Aa (valX X l xs t k) o.dst (xs k)|false=>valX X l xs t k)
  |none=>valX X l xs t k
variable {l:List Oper}{xs:Nat->AV}{t:Nat->AV}
def xO{f}{d}{x}{i}(h:d≠some i):Aa f d x i=f i:=by
 cases d with
 |none=>rfl
 |some k=>exact cI _ _ (λe=>h (by rw[e]))
def afW{f:Nat->AV}{x:AV}{i:Nat}:Aa f (some i) x i=x:=dB _ _ _
theorem uB{X Y:Nat->Bool}{tmp:Nat}:∀(k:Nat),(∀i o,i<k->l[i]?=some o->o.dst=some tmp->X i=Y i)->valX X l xs t k tmp=valX Y l xs t k tmp
 |0,_=>rfl
 | k+1,H=>by
  have ih:=uB k λi o hi=>H i o oT;simp only[valX]
  cases ho:l[k]? with
  |none=>exact ih
  | some o=>
   by_cases hd:o.dst=some tmp
   ·have:=H k o oT ho hd;rw[this]
    cases Y k with
    |true=>simp only[hd,afW]
    |false=>exact ih
   ·cases X k<;>cases Y k<;>simp only[xO hd,ih]
theorem DR{X:Nat->Bool}{tmp j:Nat}:∀(k:Nat),j<=k->(∀i o,j<=i->i<k->l[i]?=some o->o.dst=some tmp->X i=false)->valX X l xs t k tmp=valX X l xs t j tmp
 |0,hj,_=>by rw[(oT:j=0)]
 | k+1,hj,H=>by
  by_cases he:j=k+1
  ·rw[he]
  ·have ih:=DR (tmp:=tmp) k oT λi o h1 h2=>H i o h1 oT;rw[<-ih];simp only[valX]
   cases ho:l[k]? with
   |none=>rfl
   |some o=>
    by_cases hd:o.dst=some tmp
    ·rw[H k o oT oT ho hd]
    ·cases X k<;>simp only[xO hd]
theorem Et{tt:Nat->Nat->AV}(h0:tt 0=t)(hs:∀k o,l[k]?=some o->tt (k+1)=Aa (tt k) o.dst (xs k)):∀j,j<=l.length->tt j=valX (λ_=>true) l xs t j
 |0,_=>h0
 |j+1,hj=>by
  have ih:=Et h0 hs j oT;have ho:l[j]?=some l[j]:=aA oT;rw[hs j _ ho,ih];simp only[valX,ho]
def Vw{j}(tmp)(hj:j<=l.length):valX (λk=>decide (k<j)) l xs t l.length tmp=valX (λ_=>true) l xs t j tmp:=by
 rw[DR l.length hj (λi o h1 _ _ _=>by simpa using h1)];exact uB j λi o hi _ _=>by simpa using hi
end
end Go.Proofs.YtlpkggpdjobpmaaGreatDoor
namespace Go.Proofs.YtlpkggpdjobpmaaGreatDoor
open Go.RowKit
section
variable {C:Ctx}{V:Inv C.fr}
def nL{ev ev'}{h}{s}(op)(he:∀x∈op.operands,ev x=ev' x):opA C ev h s op=opA C ev' h s op:=by
 cases op<;>simp only[Op.operands]at he<;>simp only[opA]
 case move x=>rw[he x (by simp)]
 case assign x=>rw[he x (by simp)]
 case pick c a b=>rw[he c (by simp),he a (by simp),he b (by simp)]
 case box t x=>rw[he x (by simp)]
 case build t ps=>
  rw[iB λp hp=>by rw[he p.2 (by simp;exact⟨p.1,sU hp⟩)]]
 case buildSlice t n ps=>
  rw[iB λp hp=>by rw[he p.2 (by simp;exact⟨p.1,sU hp⟩)]]
 case load t a=>rw[he a (by simp)]
 case store t a x=>rw[he a (by simp),he x (by simp)]
 case nilCheck x=>rw[he x (by simp)]
 case binOp op t x y yt=>rw[he x (by simp),he y (by simp)]
 case unOp op t x=>rw[he x (by simp)]
 case convert src dst x=>rw[he x (by simp)]
 case makeFunc fn first caps=>
  cases fn<;>try rfl
  simp only;rw[iB λx hx=>he x (by simp;exact .inl (sU hx)),iB λx hx=>he x (by simp;exact .inr (sU hx))]
 case makeSlice t l c=>rw[he l (by simp),he c (by simp)]
 case slice t x lo hi mx=>
  have opt:∀(y:Option Operand),(∀z,y=some z->ev z=ev' z)->y.map ev=y.map ev':=by
   intro y hy
   cases y with
   |none=>rfl
   |some z=>simp only[dF,hy z rfl]
  rw[he x (by simp),opt lo λz hz=>he z (by subst hz;simp),opt hi λz hz=>he z (by subst hz;simp),opt mx λz hz=>he z (by subst hz;simp)]
 case fieldAddr t x f=>rw[he x (by simp)]
 case field t x f=>rw[he x (by simp)]
 case indexAddr t x i=>rw[he x (by simp),he i (by simp)]
 case index t x i=>rw[he x (by simp),he i (by simp)]
 case extract x i=>rw[he x (by simp)]
 case call c=>
  obtain⟨callee,args,ats⟩:=c;have ha:args.toList.map ev=args.toList.map ev':=iB λx hx=>he x (by simp[Call.operands];exact .inr (sU hx))
  cases callee with
  |builtin b=>simp only;rw[ha]
  |invoke r m=>rfl
  |value f=>simp only;rw[he f (by simp[Call.operands]),ha]
theorem BM:∀(l:List Operand) (i:Nat),.tmp i∈l->i∈DJ l
 |[],_,h=>by cases h
 | x::l,i,h=>by
  rcases al_List_mem_cons.1 h with rfl|h
  ·simp[DJ]
  ·have:=BM l i h;cases x<;>simp[DJ,this]
theorem agC{t t':Nat->AV}:∀(l:List Operand),(∀i,.tmp i∈l->t i=t' i)->vQ t l=vQ t' l
 |[],_=>rfl
 |x::l,h=>by
  have ih:=agC l λi hi=>h i (bY _ hi)
  cases x with
  |tmp i=>simp only[vQ,h i (al_List_mem_cons_self),ih]
  |_=>simp only[vQ,ih]
def Dm{t t'}(op)(h:∀i,.tmp i∈op.operands.toList->t i=t' i):condsO t op=condsO t' op:=by
 cases op<;>first|exact agC _ h|skip
 case pick c x y=>exact agC [c] λi hi=>h i (by simp at hi;subst hi;exact al_List_mem_cons_self)
def JC{C}{t t'}(op)(h:∀x∈op.operands,evA C t x=evA C t' x)(x)(hx:x∈op.operands):evS C t op x=evS C t' op x:=by
 have e:=h x hx;cases op<;>first|exact af2 Bz e|skip
 case pick c p q=>show(match Lz c x with|true=>Bz _|false=>evA C t x)=(match Lz c x with|true=>Bz _|false=>evA C t' x);rw[e]
variable {all:List Oper}{o:Oper}{s N:Nat}{t tX:Nat->AV}{h h' hX:AH}{a:Act}{w w0:World}{D:Nat->Prop}{S0:Nat->Prop}{S:Nat->Prop}{β:Bt}{R:FuncId->List AV->AV->Prop}{x:AV}
def Th(M:SimD C V w0 S0 N D tX hX a w S β)(hst:StepR C R all o s t h x h')(hlook:∀i∈pA all o,tX i=t i)(hag:pZ o.op=true->Be β h hX):
  ∃h2,StepR C R all o s tX hX x h2∧Ti h hX s (lZ o.op) β h' h2:=by
 have hops:∀i,.tmp i∈o.op.operands.toList->tX i=t i:=λi hi=>hlook i (by simp only[pA,al_List_mem_append];exact .inl (.inr (BM _ i hi)));have hev:∀x∈o.op.operands,evA C tX x=evA C t x:=λx hx=>by
  cases x with
  |tmp i=>exact hops i (sU hx)
  |_=>rfl
 unfold StepR at hst⊢
 cases hg:o.guard with
 |none=>
  simp only[hg]at hst⊢;rw[nL (ev':=evA C tX) o.op λx hx=>(hev x hx).symm]at hst
  exact wS o.op (λx _=>sY M x) hag hst
 | some q=>
  obtain⟨i,pol⟩:=q;simp only[hg]at hst⊢;obtain⟨d,g,y,q1,q2,⟨q3,rfl,q4⟩|⟨q3,q4⟩⟩:=hst
  case inr=>
   have hd:tX d=t d:=hlook d (by simp only[pA,hg,q1,al_List_mem_append];exact .inr (by simp));rw[nL (ev':=evA C tX) o.op λx hx=>(hev x hx).symm]at q4;obtain⟨h2,e1,e2⟩:=wS o.op (λx _=>sY M x) hag q4;exact⟨h2,⟨d,g,y,q1,by rw[hd];exact q2,.inr ⟨q3,e1⟩⟩,e2⟩
  have hd:tX d=t d:=hlook d (by simp only[pA,hg,q1,al_List_mem_append];exact .inr (by simp));have hcs:condsO tX o.op=condsO t o.op:=Dm _ hops;refine⟨hX,⟨d,g,y,q1,by rw[hd];exact q2,.inl ⟨q3,rfl,?_⟩⟩,Ti.refl⟩;rcases q4 with ⟨c1,c2⟩|⟨c,c1,c2,c3⟩
  ·refine .inl ⟨by rw[hcs];exact c1,λhg'=>?_⟩;obtain⟨f1,f2⟩:=c2 hg';rw[nL (ev':=evA C tX) o.op λx hx=>(hev x hx).symm]at f1 f2;obtain⟨h2,e1,_⟩:=wS o.op (λx _=>sY M x) hag f2;have T:=JE (C:=C) (s:=s) o.op (λx _=>sY M x) hag;have e2:opA C (evA C tX) hX s o.op=opA C (evA C tX) h' s o.op:=by
    cases hr:opA C _ h' s o.op<;>rw[hr]at T f1<;>first|exact T|(simp[isFx]at f1)
   rw[e2]at e1⊢;refine⟨f1,?_⟩;cases hr:opA C _ h' s o.op<;>rw[hr]at e1 f1<;>first|(simp[isFx]at f1;done)|skip
   ·obtain⟨rfl,rfl⟩:=e1;exact⟨rfl,rfl⟩
   ·obtain⟨p,rfl,rfl⟩:=e1;exact⟨p,rfl,rfl⟩
   ·obtain⟨row,p1,p2,p3,rfl⟩:=e1;exact⟨row,p1,p2,p3,rfl⟩
   ·obtain⟨l,p1,p2,p3,rfl⟩:=e1;exact⟨l,p1,p2,p3,rfl⟩
   ·obtain⟨p1,p2,p3,p4,rfl⟩:=e1;exact⟨p1,p2,p3,p4,rfl⟩
  ·refine .inr ⟨c,by rw[hcs];exact c1,c2,λhg'=>?_⟩;obtain⟨f1,f2⟩:=c3 hg';rw[nL (ev':=evS C tX o.op) o.op λx hx=>(JC o.op hev x hx).symm]at f1 f2;have hsr:∀x∈o.op.operands,Rep S w β _ (a.eval x):=Lo M o.op (hcs.trans c1) (c2 hg');obtain⟨h2,e1,_⟩:=wS o.op hsr hag f2;have T:=JE (C:=C) (s:=s) o.op hsr hag;have e2:opA C (evS C tX o.op) hX s o.op=opA C (evS C tX o.op) h' s o.op:=by
    cases hr:opA C _ h' s o.op<;>rw[hr]at T f1<;>first|exact T|(simp[isFx]at f1)
   rw[e2]at e1⊢;refine⟨f1,?_⟩;cases hr:opA C _ h' s o.op<;>rw[hr]at e1 f1<;>first|(simp[isFx]at f1;done)|skip
   ·obtain⟨rfl,rfl⟩:=e1;exact⟨rfl,rfl⟩
   ·obtain⟨p,rfl,rfl⟩:=e1;exact⟨p,rfl,rfl⟩
   ·obtain⟨row,p1,p2,p3,rfl⟩:=e1;exact⟨row,p1,p2,p3,rfl⟩
   ·obtain⟨l,p1,p2,p3,rfl⟩:=e1;exact⟨l,p1,p2,p3,rfl⟩
   ·obtain⟨p1,p2,p3,p4,rfl⟩:=e1;exact⟨p1,p2,p3,p4,rfl⟩
end
end Go.Proofs.YtlpkggpdjobpmaaGreatDoor
namespace Go.Proofs.YtlpkggpdjobpmaaGreatDoor
open Go.RowKit
def lastW(W:Nat->Bool):Nat->Nat
 |0=>0
 |k+1=>match W k with|true=>k+1|false=>lastW W k
theorem DS(W:Nat->Bool):∀k,lastW W k<=k
 |0=>aC _
 |k+1=>by simp only[lastW];split<;>have:=DS W k<;>omega
theorem yQ{W:Nat->Bool}:∀(k i:Nat),i<k->W i=true->i+1<=lastW W k
 |0,i,h,_=>by omega
 | k+1,i,h,hi=>by
  simp only[lastW];split
  ·omega
  ·rename_i hk;by_cases he:i=k
   ·subst he;rw[hi]at hk;cases hk
   ·exact yQ k i oT hi
theorem lastW_mem{W:Nat->Bool}:∀(k:Nat),lastW W k=0∨W (lastW W k-1)=true
 |0=>.inl rfl
 |k+1=>by
  simp only[lastW];split
  ·rename_i hk;exact .inr (sU hk)
  ·exact lastW_mem k
theorem tF{W:Nat->Bool}:∀(k p:Nat),(∀i,i<k->W i=true->i<p)->lastW W k<=p
 |0,_,_=>aE _
 |k+1,p,h=>by
  simp only[lastW];split
  ·rename_i hk;exact h k oT hk
  ·exact tF k p λi hi=>h i oT
def cntX(X:Nat->Bool):Nat->Nat
 |0=>0
 |k+1=>(match X k with|true=>0|false=>1)+cntX X k
theorem Eu{X:Nat->Bool}:∀k,cntX X k=0->∀i,i<k->X i=true
 |0,_,i,hi=>by omega
 |k+1,h,i,hi=>by
  simp only[cntX]at h;by_cases he:i=k
  ·subst he;cases hx:X i<;>rw[hx]at h<;>first|rfl|(simp at h;done)|(simp at h;omega)
  ·exact Eu k oT i oT
theorem Gv{X Y:Nat->Bool}:∀k,(∀i,i<k->X i=Y i)->cntX X k=cntX Y k
 |0,_=>rfl
 |k+1,h=>by simp only[cntX,h k oT,Gv k λi hi=>h i oT]
theorem Hq{X Y:Nat->Bool}{j:Nat}(hj:X j=false)(hy:Y j=true)(ho:∀i,i≠j->Y i=X i):∀k,j<k->cntX Y k+1=cntX X k
 |0,h=>by omega
 | k+1,h=>by
  simp only[cntX];by_cases he:j=k
  ·subst he;rw[hj,hy,Gv (X:=Y) (Y:=X) j λi hi=>ho i oT];simp;omega
  ·have:=Hq hj hy ho k oT;rw[ho k (λe=>he e.symm)];omega
section
variable {C:Ctx}{V:Inv C.fr}{R:FuncId->List AV->AV->Prop}
def PE{l:List Oper}(D:DrawOk l){i j:Nat}{oj:Oper}(hj:l[j]?=some oj)(hi:((yV l []).getD j 0).testBit i=true):i<j:=
 yP (X:=(· <j)) (λk ok hk hok e he hb=>agB (D.back k ok hok e he hb) hk) hj (λe he hb=>D.back j oj hj e he hb) hi
def Ln{l}(D:DrawOk l){X}(hX:YI l X){i j}{oi oj}(hi:l[i]?=some oi)(hj:l[j]?=some oj)(hp:∀e∈oj.after.toList,Region.binds .any e=true->X e.on)(hnj: ¬X j)(ho:JN (yV l []) i j=true):X i↔i<j:=by
 simp only[JN,dE]at ho;rcases ho with ho|ho
 ·exact⟨λ_=>PE D hj ho,λ_=>yP hX hj hp ho⟩
 have hlt:=PE D hi ho;refine⟨λhXi=>absurd (yP hX hi (λe he hb=>hX i oi hXi hi e he hb) ho) hnj,λh=>by omega⟩
theorem Bw{hh:Nat->AH}{b j:Nat}:∀k,j<=k->(∀i,j<=i->i<k->hh (i+1) b=hh i b)->hh k b=hh j b
 |0,hj,_=>by rw[(oT:j=0)]
 | k+1,hj,h=>by
  by_cases he:j=k+1
  ·rw[he]
  ·rw[h k oT oT];exact Bw k oT λi h1 h2=>h i h1 oT
def wrt(l:List Oper)(k:Nat):Bool:=match l[k]? with|some o=>lZ o.op|none=>false
def wQ:∀op,lZ op=true->pZ op=true:=by
 intro op h;cases op<;>first|rfl|(simp[lZ]at h)
structure Chn(C:Ctx)(l:List Oper)(n:Nat)(h:AH)(t:Nat->AV)(xs:Nat->AV)(hh:Nat->AH)(tt:Nat->Nat->AV):Prop where
 D:DrawOk l
 step:∀k o,l[k]?=some o->StepR C (bI C) l o (n+k) (tt k) (hh k) (xs k) (hh (k+1))
 next:∀k o,l[k]?=some o->tt (k+1)=Aa (tt k) o.dst (xs k)
 t0:tt 0=t
 h0:hh 0=h
 new:∀s,n<=s->h s=none
 nH:NoH C
variable {l:List Oper}{n:Nat}{h:AH}{t xs:Nat->AV}{hh:Nat->AH}{tt:Nat->Nat->AV}
theorem Chn.quiet(Z:Chn C l n h t xs hh tt){i}(hi:i<l.length)(hw:wrt l i=false){b}(hb:b≠n+i):hh (i+1) b=hh i b:=by
 refine af4 λhn=>?_;have ho:l[i]?=some l[i]:=aA hi;have:=(AC (Z.step i _ ho) b hb hn).1;simp only[wrt,ho,this]at hw;cases hw
theorem Chn.live(Z:Chn C l n h t xs hh tt){i}(hi:i<l.length){b}(hb:b≠n+i)(hn:hh i b=none):hh (i+1) b=none:=by
 have ho:l[i]?=some l[i]:=aA hi;by_cases he:hh (i+1) b=hh i b
 ·rw[he,hn]
 exact absurd hn (AC (Z.step i _ ho) b hb he).2
theorem Chn.fresh(Z:Chn C l n h t xs hh tt){b:Nat}(hb:n<=b):∀k,k<=l.length->n+k<=b->hh k b=none
 |0,_,_=>by rw[Z.h0];exact Z.new b hb
 |k+1,hk,hkb=>Z.live oT oT (Z.fresh hb k oT oT)
structure DInv(C:Ctx)(V:Inv C.fr)(l:List Oper)(n:Nat)(h:AH)(t xs:Nat->AV)(hh:Nat->AH)(w0:World)(S0:Nat->Prop)(N:Nat)(X:Nat->Bool)(a:Act)(w:World):Prop where
 down:YI l (X · =true)
 bnd:∀i,X i=true->i<l.length
 H3:∀k j,X k=true->wrt l k=true->X j=false->j<l.length->hh (k+1) (n+j)=hh k (n+j)
 sim:∃S β hX,SimD C V w0 S0 N (λs=>s<n∨∃i,X i=true∧s=n+i) (valX X l xs t l.length) hX a w S β∧
  (∀s,s<n->hX s=hh (lastW (λi=>X i&&wrt l i) l.length) s)∧
  (∀i,X i=true->hX (n+i)=hh (max (i+1) (lastW (λi=>X i&&wrt l i) l.length)) (n+i))
def PF(hC : CtxOk C)(Z:Chn C l n h t xs hh tt){ops}(hall:ops.toList=l){w0}{S0}{N}(hb:vK N l=true){X Y}{a}{w}(I:DInv C V l n h t xs hh w0 S0 N X a w){j}{o}(hj:l[j]?=some o)
    (hp:∀e∈o.after.toList,Region.binds .any e=true->X e.on=true) (hnj:X j=false) (hYj:Y j=true) (hY:∀i,i≠j->Y i=X i) {K} {Q} (hK:∀a' w',DInv C V l n h t xs hh w0 S0 N Y a' w'->K a' w'):
    if Region.wanted o (yielded ops a.tmps)then o.wp C.P a w K Q∨(o.asks C.P a w∧LetsOut Q)else K (a.put o.dst undef) w:=by
  obtain⟨S,β,hX,M,H1,H2⟩:=I.sim;have hjl:j<l.length:=(Em.1 hj).1;have hnj': ¬(X j=true):=by rw[hnj];simp
  have hs:β (n+j)=none:=by
    cases hq:β (n+j)with
    |none=>rfl
    | some loc=>
      rcases M.dom _ _ hq with h|⟨i,hi,he⟩
      · omega
      · have:i=j:=oT
        subst this;rw[hnj]at hi;cases hi
  have wiff:pZ o.op=true->∀k,k<l.length->k≠j->wrt l k=true->(X k=true↔k<j):=by
    intro hr k hk hne hw;have hok:l[k]?=some l[k]:=aA hk;have hwk:lZ l[k].op=true:=by simpa only[wrt,hok]using hw
    exact Ln Z.D I.down hok hj hp hnj' (Z.D.mem k j _ o hok hj hne hwk hr)
  generalize hP:lastW (λi=>X i&&wrt l i) l.length=p at H1 H2;have hple:p<=l.length:=by rw[<-hP];exact DS _ _
  have pj:pZ o.op=true->p<=j:=by
    intro hr;rw[<-hP];refine tF _ _ λi hi hw=>?_;simp only[aP]at hw;by_cases he:i=j
    · subst he;rw[hnj]at hw;cases hw.1
    · exact(wiff hr i hi he hw.2).1 hw.1
  have pq:pZ o.op=true->∀i,p<=i->i<j->wrt l i=false:=by
    intro hr i h1 h2
    cases hw:wrt l i with
    |false=>rfl
    | true=>
      have hXi:=(wiff hr i oT oT hw).2 h2;have:=yQ (W:=λi=>X i&&wrt l i) l.length i oT (by simp[hXi,hw]);rw[hP]at this;omega
  have old:pZ o.op=true->∀s,s<n->hX s=hh j s:=by
    intro hr s hsn;rw[H1 s hsn];exact(Bw j (pj hr) λi h1 h2=>Z.quiet oT (pq hr i h1 h2) oT).symm
  have newer:pZ o.op=true->∀i,X i=true->i<j->hX (n+i)=hh j (n+i):=by
    intro hr i hi hij;rw[H2 i hi];exact(Bw j (oH (pj hr)) λk h1 h2=>Z.quiet oT (pq hr k oT h2) oT).symm
  have hag:pZ o.op=true->Be β (hh j) hX:=by
    intro hr b loc hbl hne;rcases M.dom _ _ hbl with hbn|⟨i,hi,rfl⟩
    · exact old hr b hbn
    · rcases al_Nat_lt_or_ge i j with hij|hij
      · exact newer hr i hi hij
      · exact absurd (Z.fresh oT j oT oT) hne
  have slot:∀tmp∈pA l o,valX X l xs t l.length tmp=tt j tmp:=by
    intro tmp htmp;rw[Et Z.t0 (λk o hk=>Z.next k o hk) j oT, <-Vw tmp oT];refine uB _ λi oi hi hoi hd=>?_;by_cases he:i=j
    · subst he;rw[hnj];simp
    · have:=Ln Z.D I.down hoi hj hp hnj' (Z.D.slot i j oi o tmp hoi hj he hd htmp)
      by_cases hlt:i<j
      · rw[this.2 hlt];simp[hlt]
      · have hx: ¬(X i=true):=λh=>hlt (this.1 h)
        simp only[hlt,decide_false];simpa using hx
  obtain⟨h2,st,hrel⟩:=Th M (Z.step j o hj) slot hag;refine xQ hC M hs hall st (wU hb (aB hj)) (λi pol d _ hd=>BP hb i d hd) λa' w' S' β' M'=>hK a' w' ?_;have XY:∀i,Y i=true↔X i=true∨i=j:=λi=>by
    by_cases he:i=j
    · subst he;simp[hYj]
    · rw[hY i he];simp[he]
  have hXnone:hX (n+j)=none:=by
    cases hq:hX (n+j)with
    |none=>rfl
    | some blk=>
      obtain⟨loc,_,_,_,hl,_⟩:=M.H.own _ _ hq;rw[hs]at hl;cases hl
  have hjnone:hh j (n+j)=none:=Z.fresh oT j oT oT;have h2new:h2 (n+j)=hh (j+1) (n+j):=hrel.1 _ (by rw[hXnone,hjnone]);refine⟨λk ok hk hok e he hbd=>?_,λi hi=>?_,λk i hk hw hi hil=>?_,S',β',h2,?_,?_,?_⟩
  · rcases(XY k).1 hk with hk|rfl
    · exact(XY _).2 (.inl (I.down k ok hk hok e he hbd))
    · rw[hj]at hok;injection hok with hok;subst hok
      exact(XY _).2 (.inl (hp e he hbd))
  · rcases(XY i).1 hi with hi|rfl
    · exact I.bnd i hi
    · exact hjl
  · have hXi:X i=false:=by
      cases hx:X i with
      |false=>rfl
      |true=>rw[(XY i).2 (.inl hx)]at hi;cases hi
    have hij:i≠j:=λe=>by subst e;rw[hYj]at hi;cases hi
    rcases(XY k).1 hk with hk|rfl
    · exact I.H3 k i hk hw hXi hil
    · refine af4 λhn=>?_
      obtain⟨_,_,loc,hl⟩:=hrel.2 (n+i) oT (.inl hn);rcases M.dom _ _ hl with h|⟨i',hi',he⟩
      · omega
      · have:i'=i:=oT
        subst this;rw[hXi]at hi';cases hi'
  ·
    have hval:Aa (valX X l xs t l.length) o.dst (xs j)=valX Y l xs t l.length:=by
      funext tmp;by_cases hd:o.dst=some tmp
      · rw [hd,afW]
        have hlook:tmp∈pA l o:=by simp[pA,hd]
        rw[DR (j:=j+1) l.length oT λi oi h1 h2 hoi hdi=>?_]
        · simp only[valX,hj,hYj,hd,afW]
        · have he:i≠j:=oT
          have:=Ln Z.D I.down hoi hj hp hnj' (Z.D.slot i j oi o tmp hoi hj he hdi hlook)
          cases hx:Y i with
          |false=>rfl
          | true=>
            rcases(XY i).1 hx with h|h
            · have:=this.1 h;omega
            · omega
      · rw[xO hd]
        refine uB _ λi oi hi hoi hdi=>?_;by_cases he:i=j
        · subst he;rw[hj]at hoi;injection hoi with hoi;subst hoi;exact absurd hdi hd
        · exact(hY i he).symm
    rw[<-hval];refine⟨M'.T,M'.H,M'.B,λy loc hy=>?_,M'.df,M'.sz,M'.G,M'.nw,M'.iv⟩;rcases M'.dom y loc hy with (h|⟨i,hi,he⟩)|h
    · exact .inl h
    · exact .inr ⟨i,(XY i).2 (.inl hi),he⟩
    · exact .inr ⟨j,hYj,h⟩
  all_goals
    cases hw:wrt l j with
    | true =>
      have hwo:lZ o.op=true:=by simpa only[wrt,hj]using hw
      have hr:=wQ _ hwo;have hp':lastW (λi=>Y i&&wrt l i) l.length=j+1:=by
        refine Nat.le_antisymm (tF _ _ λi hi hwi=>?_) (yQ _ j hjl (by simp[hYj,hw]));simp only[aP]at hwi;rcases(XY i).1 hwi.1 with h|h
        · have hne:i≠j:=λe=>by subst e;rw[hnj]at h;cases h
          have:=(wiff hr i hi hne hwi.2).1 h;omega
        · omega
      rw[hp']
      first
        |(intro s hsn;exact hrel.1 s (old hr s hsn))
        | (intro i hi
           rcases(XY i).1 hi with hi|rfl
           · rcases al_Nat_lt_or_ge i j with hij|hij
             · rw[hrel.1 _ (newer hr i hi hij),Nat.max_eq_right oT]
             · have hne:i≠j:=λe=>by subst e;rw[hnj]at hi;cases hi
               have hpj:=pj hr;rw[Nat.max_eq_left oT];have hfr:hh j (n+i)=none:=Z.fresh oT j oT oT;have h3:h2 (n+i)=hX (n+i):=af4 λhn=>(hrel.2 (n+i) oT (.inr hn)).2.1 hfr;rw[h3,H2 i hi,Nat.max_eq_left oT]
           · rw[h2new,Nat.max_self])
    | false=>
      have hwo:lZ o.op=false:=by simpa only[wrt,hj]using hw
      have hp':lastW (λi=>Y i&&wrt l i) l.length=p:=by
        rw[<-hP];have:(λi=>Y i&&wrt l i)=λi=>X i&&wrt l i:=by
          funext i;by_cases he:i=j
          · subst he;simp[hw]
          · rw[hY i he]
        rw[this]
      rw[hp'];have same:∀b,b≠n+j->h2 b=hX b:=λb hbj=>af4 λhn=>by
        have:=(hrel.2 b hbj (.inr hn)).1;rw[hwo]at this;cases this
      first
        |(intro s hsn;rw[same s oT];exact H1 s hsn)
        | (intro i hi
           rcases(XY i).1 hi with hi|rfl
           · have hne:i≠j:=λe=>by subst e;rw[hnj]at hi;cases hi
             rw[same _ oT];exact H2 i hi
           · rw [h2new]
             refine(Bw _ (Nat.le_max_left _ _) λk h1 h2'=>?_).symm;have hkp:k<p:=oT
             cases hwk:wrt l k with
             |false=>exact Z.quiet oT hwk oT
             | true=>
               refine I.H3 k i ?_ hwk hnj hjl;rcases lastW_mem l.length with h0|h0
               · rw[hP]at h0;omega
               · rw[hP]at h0
                 simp only[aP]at h0;by_cases hke:k=p-1
                 · rw[hke];exact h0.1
                 · have hkl:k<l.length:=oT
                   have hpl:p-1<l.length:=oT;have hok:l[k]?=some l[k]:=aA hkl;have hop:l[p-1]?=some l[p-1]:=aA hpl;have w1:lZ l[k].op=true:=by simpa only[wrt,hok]using hwk
                   have w2:lZ l[p-1].op=true:=by have:=h0.2;simpa only[wrt,hop]using this
                   have ho:=Z.D.mem k (p-1) _ _ hok hop hke w1 (wQ _ w2);simp only[JN,dE]at ho;rcases ho with ho|ho
                   · exact yP I.down hop (λe he hbd=>I.down _ _ h0.1 hop e he hbd) ho
                   · have:=PE Z.D hok ho;omega)
theorem SimD.drawn{w0}{S0}{N}{D}{a}{w}{S}{β}(M:SimD C V w0 S0 N D t h a w S β)(k):SimD C V w0 S0 N D t h a {w with drawn:=k} S β:=by
 have hE:Evo S w {w with drawn:=k}:=⟨λ_ _=>rfl,λb cs e fr hb=>⟨cs,hb,rfl⟩⟩;refine⟨λi=>(M.T i).mono (λ_ h=>h) hE (ME.refl _),⟨λs blk hs=>?_,M.H.inj,M.H.lt,M.H.big⟩,⟨M.B.os,M.B.tape,M.B.output,M.B.size,M.B.block⟩,M.dom,M.df,M.sz,λg cells hg=>(M.G g cells hg).mono (λ_ h=>h) hE (ME.refl _),M.nw,V.heap M.iv rfl⟩;obtain⟨l,cs,e,fr,k1,k2,k3,k4,k5,k6⟩:=M.H.own s blk hs;exact⟨l,cs,e,fr,k1,k2,k3,k4,k5,k6.mono (λ_ h=>h) hE (ME.refl _)⟩
def Gw(hC:CtxOk C)(nH:NoH C){w0}{S0}{N}{ops}(hb:vK N ops.toList=true)(hd:JO ops.toList=true){K}(hr:jS C (bI C) ops.toList ops.toList 0 ⟨t,h,n⟩ K)
  {a} {w} {S} {β} (M:SimD C V w0 S0 N (· <n) t h a w S β) {Q} (hQ:∀st a' w' S' β',K st->SimD C V w0 S0 N (· <st.n) st.t st.h a' w' S' β'->Q .normal a' w'):
  wpAny C.P .any ops Q ops.size (Array.replicate ops.size false) a {w with drawn:=w.drawn+1}:=by
 obtain⟨xs,hh,tt,e1,e2,e3,e4⟩:=Hp nH ops.toList 0 t h hr;simp only[bJ]at e3 e4;have hnew:∀s,n<=s->h s=none:=λs hs=>by
  cases hq:h s with
  |none=>rfl
  |some blk=>
   obtain⟨l,_,_,_,hl,_⟩:=M.H.own s blk hq;have:s<n:=M.dom s l hl;omega
 have Z:Chn C ops.toList n h t xs hh tt:=⟨Lm hd,λk o hk=>(e3 k o hk).1,λk o hk=>(e3 k o hk).2,e1,e2,hnew,nH⟩;have hm:ops.toList.length=ops.size:=by simp
 have fin:∀(X:Nat->Bool) (a:Act) (w:World),(∀i,i<ops.size->X i=true)->DInv C V ops.toList n h t xs hh w0 S0 N X a w->Q .normal a w:=by
  intro X a w hall I;obtain⟨S,β,hX,M,H1,H2⟩:=I.sim;have hall':∀i,i<ops.toList.length->X i=true:=λi hi=>hall i (by rw[<-hm];exact hi);refine hQ _ a w S β e4 ?_;generalize hP:lastW (λi=>X i&&wrt ops.toList i) ops.toList.length=p at H1 H2;have hple:p<=ops.toList.length:=by rw[<-hP];exact DS _ _
  have quiet:∀i,p<=i->i<ops.toList.length->wrt ops.toList i=false:=λi h1 h2=>by
   cases hw:wrt ops.toList i with
   |false=>rfl
   |true=>
    have:=yQ (W:=λi=>X i&&wrt ops.toList i) ops.toList.length i h2 (by simp[hall' i h2,hw]);rw[hP]at this;omega
  have hT:valX X ops.toList xs t ops.toList.length=tt ops.toList.length:=by
   rw[Et Z.t0 (λk o hk=>Z.next k o hk) _ (aC _)];funext tmp;exact uB _ λi o hi _ _=>hall' i hi
  have hH:hX=hh ops.toList.length:=by
   funext b;rcases al_Nat_lt_or_ge b n with hbn|hbn
   ·rw[H1 b hbn];exact(Bw _ hple λi h1 h2=>Z.quiet h2 (quiet i h1 h2) oT).symm
   ·rcases al_Nat_lt_or_ge b (n+ops.toList.length)with hb2|hb2
    ·obtain⟨i,rfl⟩:∃i,b=n+i:=⟨b-n,oT⟩;have hi:i<ops.toList.length:=oT;rw[H2 i (hall' i hi)];exact(Bw _ oT λk h1 h2=>Z.quiet h2 (quiet k oT h2) oT).symm
    ·rw[Z.fresh hbn _ (aC _) hb2]
     cases hq:hX b with
     |none=>rfl
     |some blk=>
      obtain⟨l,_,_,_,hl,_⟩:=M.H.own b blk hq;rcases M.dom b l hl with h|⟨i,hi,he⟩
      ·omega
      ·have:=I.bnd i hi;omega
  rw[<-hT, <-hH];refine⟨M.T,M.H,M.B,λx l hx=>?_,M.df,M.sz,M.G,M.nw,M.iv⟩;show x<n+ops.toList.length;rcases M.dom x l hx with h|⟨i,hi,he⟩
  ·omega
  ·have:=I.bnd i hi;omega
 have done:∀(listed:Array Bool),listed.size=ops.size->Region.ready .any ops listed=[]->∀i,i<ops.size->listed.getD i false=true:=by
  intro listed hsz hnil i hi
  induction i using Nat.strongRecOn with
  | _ i ih=>
   cases hq:listed.getD i false with
   |true=>rfl
   | false=>
    exfalso;have hmem:i∈Region.ready .any ops listed:=by
     refine mem_ready.2 ⟨?_,ops[i],aT hi,λe he hbd=>?_⟩
     ·have:i<listed.size:=oT;rw[aK,aT this]at hq⊢;exact hq
     ·have:=Z.D.back i ops[i] (by rw[bQ,aT hi]) e (sU he) hbd;exact ih e.on this oT
    rw[hnil]at hmem;cases hmem
 have main:∀(fuel:Nat) (listed:Array Bool) (a:Act) (w:World),listed.size=ops.size->cntX (λi=>listed.getD i false) ops.size=fuel->DInv C V ops.toList n h t xs hh w0 S0 N (λi=>listed.getD i false) a w->wpAny C.P .any ops Q fuel listed a w:=by
  intro fuel
  induction fuel with
  | zero=>
   intro listed a w hsz hc I;have hall:=Eu _ hc;refine⟨?_,fin _ a w hall I⟩
   cases hr:Region.ready .any ops listed with
   |nil=>rfl
   |cons i rest=>
    exfalso;have hmem:i∈Region.ready .any ops listed:=by rw[hr];exact al_List_mem_cons_self
    obtain⟨h1,o,ho,_⟩:=mem_ready.1 hmem;have hi:i<ops.size:=(DP.1 ho).1;have h2:=hall i hi;have:i<listed.size:=oT;rw[aK,aT this]at h1 h2;simp only[gI]at h1 h2
    rw[h1]at h2;cases h2
  | succ fuel ih=>
   intro listed a w hsz hc I;refine⟨λhnil=>fin _ a w (done listed hsz hnil) I,λj hj=>?_⟩;obtain⟨h1,o,ho,hpre⟩:=mem_ready.1 hj;have hjl:j<ops.size:=(DP.1 ho).1;have hjs:j<listed.size:=oT;have hoj:ops.toList[j]?=some o:=by rw[bQ];exact ho
   have hXj:listed.getD j false=false:=by
    rw[aK,aT hjs]at h1⊢;exact h1
   have hYj:(listed.setIfInBounds j true).getD j false=true:=by
    rw[aK,cZ hjs];rfl
   have hY:∀i,i≠j->(listed.setIfInBounds j true).getD i false=listed.getD i false:=λi hi=>by
    rw[aK,aK,cY (Ne.symm hi)]
   unfold wpOp;simp only[ho];refine PF hC Z rfl hb I hoj (λe he hbd=>hpre e (sU he) hbd) hXj hYj hY λa' w' I'=>?_;refine ih _ a' w' (by simp[hsz]) ?_ I';have:=Hq hXj hYj hY ops.size hjl;omega
 have hfalse:∀i,(Array.replicate ops.size false).getD i false=false:=λi=>by
  rw[aK];by_cases hi:i<ops.size
  ·simp[hi]
  ·rw[iE (sU hi)];rfl
 have hXf:(λi=>(Array.replicate ops.size false).getD i false)=λ_=>false:=funext hfalse;have hcnt:∀k,cntX (λi=>(Array.replicate ops.size false).getD i false) k=k:=by
  rw[hXf];intro k
  induction k with
  |zero=>rfl
  |succ k ih=>simp only[cntX,ih];omega
 refine main ops.size _ a _ (by simp) (hcnt _) ⟨λj oj hj=>?_,λi hi=>?_,λk j hk=>?_,S,β,h,?_,λs hs=>?_,λi hi=>?_⟩
 ·have:=(hfalse j).symm.trans hj;cases this
 ·have:=(hfalse i).symm.trans hi;cases this
 ·have:=(hfalse k).symm.trans hk;cases this
 ·have hv:valX (λi=>(Array.replicate ops.size false).getD i false) ops.toList xs t ops.toList.length=t:=by
   have:∀k,valX (λi=>(Array.replicate ops.size false).getD i false) ops.toList xs t k=t:=by
    intro k
    induction k with
    |zero=>rfl
    |succ k ih=>
     rw[hXf]at ih⊢;simp only[valX];split<;>exact ih
   exact this _
  rw[hv];have M':=M.drawn (w.drawn+1);exact⟨M'.T,M'.H,M'.B,λx l hx=>.inl (M'.dom x l hx),M'.df,M'.sz,M'.G,M'.nw,M'.iv⟩
 ·have:lastW (λi=>(Array.replicate ops.size false).getD i false&&wrt ops.toList i) ops.toList.length=0:=by
   refine Nat.le_zero.1 (tF _ _ λi _ hw=>?_);have h1:=hfalse i;rw[h1]at hw;simp at hw
  rw[this,e2]
 ·have:=(hfalse i).symm.trans hi;cases this
end
def YH(l:List Nat)(β:Bt):Bt:=λs=>if s∈l then β s else none
theorem CN{α:Type}{f g:Nat->List α}:∀(l:List Nat),(∀i∈l,f i=g i)->l.flatMap f=l.flatMap g
 |[],_=>rfl
 |x::l,h=>by rw[gW,gW,h x al_List_mem_cons_self,CN l λi hi=>h i (bY _ hi)]
theorem xN:∀(cs:List AV) (i:Nat) (a:AV) (s:Nat),cs[i]?=some a->s∈jA a->s∈zO cs
 |[],i,a,s,h,_=>by simp at h
 |c::cs,0,a,s,h,hs=>by simp at h;subst h;simp[zO,hs]
 |c::cs,i+1,a,s,h,hs=>by simp only[zO,al_List_mem_append];exact .inr (xN cs i a s (sU h) hs)
def Td{S}{w}{β}{a}{x}(h:Rep S w β a x):∀{β':Bt},(∀s∈jA a,∀l,β s=some l->β' s=some l)->Rep S w β' a x:=by
 induction h with
 |v x=>intro β' _;exact .v x
 |agg cs vs hl h1 h ih=>intro β' hb;exact .agg cs vs hl h1 λi a u h1 h2=>ih i a u h1 h2 λs hs=>hb s (xN cs i a s h1 hs)
 |tup cs vs hl h ih=>intro β' hb;exact .tup cs vs hl λi a u h1 h2=>ih i a u h1 h2 λs hs=>hb s (xN cs i a s h1 hs)
 |sl rs rows clip A c b o u hc hm hcl hrs hA hw h1 hr ih=>intro β' _;exact .sl rs rows clip A c b o u hc hm hcl hrs hA hw h1 hr
 |dp rs col row b o u hrs hb hw h1 hr ih=>intro β' _;exact .dp rs col row b o u hrs hb hw h1 hr
 |ptr s col l hl=>intro β' hb;exact .ptr s col l (hb s (by simp[jA]) _ hl)
 |ptr2 s row col l hl=>intro β' hb;exact .ptr2 s row col l (hb s (by simp[jA]) _ hl)
 |osl s lo len clip l A c hl hc hm hcl hA cs e fr hb room=>intro β' hβ;exact .osl s lo len clip l A c (hβ s (by simp[jA]) _ hl) hc hm hcl hA cs e fr hb room
 |clo f first caps vs us hl h hl' h' ih ih'=>intro β' hb;exact .clo f first caps vs us hl (λi a u h1 h2=>ih i a u h1 h2 λs hs=>hb s (by simp only[jA,al_List_mem_append];exact .inl (xN _ i a s h1 hs))) hl' λi a u h1 h2=>ih' i a u h1 h2 λs hs=>hb s (by simp only[jA,al_List_mem_append];exact .inr (xN _ i a s h1 hs))
 |optT g a x hg h ih=>intro β' hb;exact .optT g a x hg (ih λs hs=>hb s (by simpa [jA]using hs))
 |optF g a hg=>intro β' _;exact .optF g a hg
 |any x=>intro β' _;exact .any x
def Pz{S:Nat->Prop}{w:World}{β:Bt}{l:List Nat}{a:AV}{x:Value}(h:Rep S w β a x)(hl:∀s∈jA a,s∈l):Rep S w (YH l β) a x:=
 Td h λs hs loc hb=>by show(if s∈l then β s else none)=some loc;rw[af1 (hl s hs)];exact hb
theorem Ep:∀(l:List Value) (s:Nat),s ∉ zO (l.map Za)
 |[],s=>by simp[zO]
 |v::l,s=>by
  simp only[jC,zO,al_List_mem_append,not_or];refine⟨?_,Ep l s⟩;unfold Za;split<;>simp[jA]
def Oi(v)(s):s ∉ jA (Pq v):=by
 unfold Pq;split
 ·simp[jA]
 ·split
  ·simp only[jA];exact Ep _ s
  simp[jA]
 simp[jA]
def PA{C}{t}{x}{s}(h:s∈jA (evA C t x)):∃i,x=.tmp i∧s∈jA (t i):=by
 cases x with
 |tmp i=>exact⟨i,rfl,h⟩
 |const v=>exact absurd h (Oi v s)
 |global g=>
  have h:s∈jA (match C.G g with|some cells=>.dp cells.length 0 cells|none=>.any):=h
  split at h<;>simp[jA]at h
 |func f=>simp[evA,jA,zO]at h
def Hn{C}{t}{o}{x}{s}(hx:x∈o.op.operands)(h:s∈jA (evA C t x)):s∈oV t o:=by
 obtain⟨i,rfl,h⟩:=PA h;exact Mu.2 ⟨i,BM _ i (sU hx),h⟩
def Er{x}{s}(h:s∈jA (Bz x)):s∈jA x:=by
 cases x<;>first|exact h|simpa [jA,Bz]using h
def PB{C}{t}(op){x}{s}(h:s∈jA (evS C t op x)):s∈jA (evA C t x):=by
 cases op<;>first|exact Er h|skip
 case pick c a b=>
  have h:s∈jA (match Lz c x with|true=>Bz (evA C t x)|false=>evA C t x):=h;split at h
  ·exact Er h
  exact h
section
variable {C:Ctx}{V:Inv C.fr}
def Te{ev}{h}{s}(op):(∀p x h',opA C ev h s op=.fx p x h'->∀b,b≠s->h' b≠h b->∃x∈op.operands,b∈jA (ev x))∧
    (∀rows i f,opA C ev h s op=.idxfx rows i f->∀row h',f row=some h'->∀b,b≠s->h' b≠h b->∃x∈op.operands,b∈jA (ev x)):=by
  have new:∀(blk:Option Blk) b,b≠s->upd h s blk b≠h b->False:=λblk b hb hn=>hn (cI _ _ hb);have set:∀(b0:Nat) (blk:Option Blk) b,upd h b0 blk b≠h b->b=b0:=λb0 blk b hn=>af4 λe=>hn (cI _ _ e);have oB:∀(x:Option AV) p y h',okO x≠ .fx p y h':=λx p y h' hx=>by cases x<;>simp[okO]at hx
  have oI:∀(x:Option AV) rows i f,okO x≠ .idxfx rows i f:=λx rows i f hx=>by cases x<;>simp[okO]at hx
  constructor
  · intro p x h' he b hb hn
    cases op<;>simp only[opA]at he
    case makeFunc fn a c=>cases fn<;>cases he
    case store t a v=>
      (repeat' split at he)<;>first|(cases he;done)|skip
      rename_i hev _ _ _ _ _;injection he with _ _ he;subst he;exact⟨a,by simp[Op.operands],by rw[hev,set _ _ _ hn];simp[jA]⟩
    case convert src dst x=>
      simp only[FM,DF]at he
      (repeat' split at he)<;>first|(cases he;done)|skip
      injection he with _ _ he;subst he;exact(new _ b hb hn).elim
    case makeSlice t l c=>
      simp only[JM]at he
      (repeat' split at he)<;>first|(cases he;done)|skip
      injection he with _ _ he;subst he;exact(new _ b hb hn).elim
    case alloc t=>
      split at he
      · injection he with _ _ he;subst he
        exact(new _ b hb hn).elim
      · cases he
    case box t x=>
      split at he
      · injection he with _ _ he;subst he
        exact(new _ b hb hn).elim
      · cases he
    case call c =>
      obtain⟨callee,args,ats⟩:=c
      cases callee with
      |value f=>simp only at he;split at he<;>cases he
      |invoke r m=>cases he
      | builtin bi=>
        simp only at he;cases bi<;>try (simp only[bR]at he;cases he;done)
        case append=>
          match hA:args.toList.map ev with
          |[]=>rw[hA]at he;simp only[bR]at he;cases he
          |[_]=>rw[hA]at he;simp only[bR]at he;cases he
          |_::_::_::_=>rw[hA]at he;simp only[bR]at he;cases he
          | [x',y']=>
            rw[hA]at he;simp only[bR]at he;have key:∀(rx ry:Option _) (blk:Option Blk) (px py:Prop),blk=DG h x'->qG C s ats.toList x' rx ry blk px py h=.fx p x h'->b∈jA x':=by
              intro rx ry blk px py hbk he;unfold qG at he
              (repeat' split at he)<;>first|(cases he;done)|skip
              · injection he with _ _ he;subst he;exact(new _ b hb hn).elim
              · injection he with _ _ he;subst he;exact(new _ b hb hn).elim
              · injection he with _ _ he;subst he;exact(new _ b hb hn).elim
              · injection he with _ _ he;subst he
                rw[cI _ _ hb]at hn;rw[set _ _ _ hn];simp[jA]
            obtain⟨x1,q1,q2⟩:=pG.1 (show x'∈args.toList.map ev by rw[hA];simp);exact⟨x1,by simp[Op.operands,Call.operands];simpa using q1,by rw[q2];exact key _ _ _ _ _ rfl he⟩
        case copy=>
          match hA:args.toList.map ev with
          |[]=>rw[hA]at he;simp only[bR]at he;cases he
          |[_]=>rw[hA]at he;simp only[bR]at he;cases he
          |_::_::_::_=>rw[hA]at he;simp only[bR]at he;cases he
          | [x',y']=>
            rw[hA]at he;simp only[bR,EB]at he
            (repeat' split at he)<;>first|(cases he;done)|skip
            injection he with _ _ he;subst he;obtain⟨x1,q1,q2⟩:=pG.1 (show AV.osl _ _ _ _∈args.toList.map ev by rw[hA];exact al_List_mem_cons_self);exact⟨x1,by simp[Op.operands,Call.operands];simpa using q1,by rw[q2,set _ _ _ hn];simp[jA]⟩
        case len=>
          match hA:args.toList.map ev with
          |[]=>rw[hA]at he;simp only[bR]at he;cases he
          |_::_::_=>rw[hA]at he;simp only[bR]at he;cases he
          | [x']=>
            rw[hA]at he
            match hT:ats.toList with
            |[]=>rw[hT]at he;simp only[bR]at he;cases he
            |_::_::_=>rw[hT]at he;simp only[bR]at he;cases he
            | [t']=>
              rw[hT]at he;simp only[bR,TA]at he
              (repeat' split at he)<;>cases he
        case min=>
          match hA:args.toList.map ev with
          |[]=>rw[hA]at he;simp only[bR]at he;cases he
          |[_]=>rw[hA]at he;simp only[bR]at he;cases he
          |_::_::_::_=>rw[hA]at he;simp only[bR]at he;cases he
          | [x',y']=>
            rw[hA]at he;simp only[bR,TB]at he
            (repeat' split at he)<;>cases he
        case max=>
          match hA:args.toList.map ev with
          |[]=>rw[hA]at he;simp only[bR]at he;cases he
          |[_]=>rw[hA]at he;simp only[bR]at he;cases he
          |_::_::_::_=>rw[hA]at he;simp only[bR]at he;cases he
          | [x',y']=>
            rw[hA]at he;simp only[bR,TC]at he
            (repeat' split at he)<;>cases he
    all_goals first
      | (simp only[HL,BX,tG,TD,unA,BU,Tz,HE,Ty,BT,HG,uQ,BV,oJ,Ab,iW,pN,BW,rY]at he
         (repeat' split at he)<;>first|(cases he;done)|(exact absurd he (oB _ _ _ _)))
      |((repeat' split at he)<;>first|(cases he;done)|(exact absurd he (oB _ _ _ _)))
      |(cases he;done)
  · intro rows i f he row h' hf b hb hn
    cases op<;>simp only[opA]at he
    case makeFunc fn a c=>cases fn<;>cases he
    case store t a v=>
      (repeat' split at he)<;>first|(cases he;done)|skip
      all_goals
        injection he with _ _ he;subst he;dsimp only at hf
        (repeat' split at hf)<;>first
          |(cases hf;done)
          | (injection hf with hf
             subst hf;refine⟨a,by simp[Op.operands],?_⟩;rw[set _ _ _ hn]
             simp_all[jA])
    case call c=>
      obtain⟨callee,args,ats⟩:=c
      cases callee with
      |value f=>simp only at he;split at he<;>cases he
      |invoke r m=>cases he
      | builtin bi=>
        exfalso;simp only at he;unfold bR at he;simp only[TA,TB,TC,EB,qG]at he
        (repeat' split at he)<;>cases he
    all_goals first
      | (simp only[HL,BX,tG,TD,unA,BU,Tz,HE,Ty,BT,HG,FM,DF,JM,uQ,BV,oJ,Ab,iW,pN,BW,rY]at he
         (repeat' split at he)<;>first|(cases he;done)|(exact absurd he (oI _ _ _ _)))
      |((repeat' split at he)<;>first|(cases he;done)|(exact absurd he (oI _ _ _ _)))
      |(cases he;done)
def Oj{R}{all}{o}{s}{t}{h h'}{x}(hs:StepR C R all o s t h x h'):∀b,b≠s->h' b≠h b->b∈oV t o:=by
 intro b hb hn;have fin:(∃x∈o.op.operands,b∈jA (evA C t x))->b∈oV t o:=λ⟨x,h1,h2⟩=>Hn h1 h2;unfold StepR at hs;have main:NodeR C R h (opA C (evA C t) h s o.op) x h'->b∈oV t o:=λhs=>by
  obtain⟨H1,H2⟩:=Te o.op
  cases hr:opA C _ h s o.op with
  |bad=>rw[hr]at hs;exact hs.elim
  |ok y=>rw[hr]at hs;obtain⟨_,rfl⟩:=hs;exact absurd rfl hn
  |need p y=>rw[hr]at hs;obtain⟨_,_,rfl⟩:=hs;exact absurd rfl hn
  |idx rows i f=>rw[hr]at hs;obtain⟨_,_,_,_,rfl⟩:=hs;exact absurd rfl hn
  |str p rows=>rw[hr]at hs;obtain⟨_,_,_,_,rfl⟩:=hs;exact absurd rfl hn
  |call f args=>rw[hr]at hs;obtain⟨_,_,_,_,rfl⟩:=hs;exact absurd rfl hn
  |fx p y h2=>rw[hr]at hs;obtain⟨_,_,rfl⟩:=hs;exact fin (H1 p y h' hr b hb hn)
  |idxfx rows i f=>rw[hr]at hs;obtain⟨row,_,_,hf,_⟩:=hs;exact fin (H2 rows i f hr row h' hf b hb hn)
 cases hg:o.guard with
 |some q=>
  obtain⟨i,pol⟩:=q;simp only[hg]at hs;obtain⟨d,g,y,_,_,⟨_,rfl,_⟩|⟨_,hs⟩⟩:=hs
  ·exact absurd rfl hn
  ·exact main hs
 |none=>simp only[hg]at hs;exact main hs
variable {all:List Oper}{o:Oper}{s N:Nat}{t tX:Nat->AV}{h h' hX:AH}{a:Act}{w w0:World}{D:Nat->Prop}{S0:Nat->Prop}{S:Nat->Prop}{β:Bt}{R:FuncId->List AV->AV->Prop}{x:AV}
def PC(M:SimD C V w0 S0 N D tX hX a w S β)(hst:StepR C R all o s t h x h')(hlook:∀i∈pA all o,tX i=t i)(hag:pZ o.op=true->Be (YH (oV tX o) β) h hX):
  ∃h2,StepR C R all o s tX hX x h2∧Ti h hX s (lZ o.op) (YH (oV tX o) β) h' h2:=by
 have hops:∀i,.tmp i∈o.op.operands.toList->tX i=t i:=λi hi=>hlook i (by simp only[pA,al_List_mem_append];exact .inl (.inr (BM _ i hi)));have hev:∀x∈o.op.operands,evA C tX x=evA C t x:=λx hx=>by
  cases x with
  |tmp i=>exact hops i (sU hx)
  |_=>rfl
 have hrep:∀x∈o.op.operands,Rep S w (YH (oV tX o) β) (evA C tX x) (a.eval x):=λx hx=>Pz (sY M x) λs hs=>Hn hx hs;unfold StepR at hst⊢
 cases hg:o.guard with
 |none=>
  simp only[hg]at hst⊢;rw[nL (ev':=evA C tX) o.op λx hx=>(hev x hx).symm]at hst
  exact wS o.op hrep hag hst
 | some q=>
  obtain⟨i,pol⟩:=q;simp only[hg]at hst⊢;obtain⟨d,g,y,q1,q2,⟨q3,rfl,q4⟩|⟨q3,q4⟩⟩:=hst
  case inr=>
   have hd:tX d=t d:=hlook d (by simp only[pA,hg,q1,al_List_mem_append];exact .inr (by simp));rw[nL (ev':=evA C tX) o.op λx hx=>(hev x hx).symm]at q4;obtain⟨h2,e1,e2⟩:=wS o.op hrep hag q4;exact⟨h2,⟨d,g,y,q1,by rw[hd];exact q2,.inr ⟨q3,e1⟩⟩,e2⟩
  have hd:tX d=t d:=hlook d (by simp only[pA,hg,q1,al_List_mem_append];exact .inr (by simp));have hcs:condsO tX o.op=condsO t o.op:=Dm _ hops;refine⟨hX,⟨d,g,y,q1,by rw[hd];exact q2,.inl ⟨q3,rfl,?_⟩⟩,Ti.refl⟩;rcases q4 with ⟨c1,c2⟩|⟨c,c1,c2,c3⟩
  ·refine .inl ⟨by rw[hcs];exact c1,λhg'=>?_⟩;obtain⟨f1,f2⟩:=c2 hg';rw[nL (ev':=evA C tX) o.op λx hx=>(hev x hx).symm]at f1 f2;obtain⟨h2,e1,_⟩:=wS o.op hrep hag f2;have T:=JE (C:=C) (s:=s) o.op hrep hag;have e2:opA C (evA C tX) hX s o.op=opA C (evA C tX) h' s o.op:=by
    cases hr:opA C _ h' s o.op<;>rw[hr]at T f1<;>first|exact T|(simp[isFx]at f1)
   rw[e2]at e1⊢;refine⟨f1,?_⟩;cases hr:opA C _ h' s o.op<;>rw[hr]at e1 f1<;>first|(simp[isFx]at f1;done)|skip
   ·obtain⟨rfl,rfl⟩:=e1;exact⟨rfl,rfl⟩
   ·obtain⟨p,rfl,rfl⟩:=e1;exact⟨p,rfl,rfl⟩
   ·obtain⟨row,p1,p2,p3,rfl⟩:=e1;exact⟨row,p1,p2,p3,rfl⟩
   ·obtain⟨l,p1,p2,p3,rfl⟩:=e1;exact⟨l,p1,p2,p3,rfl⟩
   ·obtain⟨p1,p2,p3,p4,rfl⟩:=e1;exact⟨p1,p2,p3,p4,rfl⟩
  ·refine .inr ⟨c,by rw[hcs];exact c1,c2,λhg'=>?_⟩;obtain⟨f1,f2⟩:=c3 hg';rw[nL (ev':=evS C tX o.op) o.op λx hx=>(JC o.op hev x hx).symm]at f1 f2;have hsr:∀x∈o.op.operands,Rep S w (YH (oV tX o) β) (evS C tX o.op x) (a.eval x):=λx hx=>Pz (Lo M o.op (hcs.trans c1) (c2 hg') x hx) λs hs=>Hn hx (PB o.op hs);obtain⟨h2,e1,_⟩:=wS o.op hsr hag f2;have T:=JE (C:=C) (s:=s) o.op hsr hag;have e2:opA C (evS C tX o.op) hX s o.op=opA C (evS C tX o.op) h' s o.op:=by
    cases hr:opA C _ h' s o.op<;>rw[hr]at T f1<;>first|exact T|(simp[isFx]at f1)
   rw[e2]at e1⊢;refine⟨f1,?_⟩;cases hr:opA C _ h' s o.op<;>rw[hr]at e1 f1<;>first|(simp[isFx]at f1;done)|skip
   ·obtain⟨rfl,rfl⟩:=e1;exact⟨rfl,rfl⟩
   ·obtain⟨p,rfl,rfl⟩:=e1;exact⟨p,rfl,rfl⟩
   ·obtain⟨row,p1,p2,p3,rfl⟩:=e1;exact⟨row,p1,p2,p3,rfl⟩
   ·obtain⟨l,p1,p2,p3,rfl⟩:=e1;exact⟨l,p1,p2,p3,rfl⟩
   ·obtain⟨p1,p2,p3,p4,rfl⟩:=e1;exact⟨p1,p2,p3,p4,rfl⟩
end
structure DrawOk2(l:List Oper)(tE:Nat->AV):Prop where
 back:∀j oj,l[j]?=some oj->∀e∈oj.after.toList,Region.binds .any e=true->e.on<j
 late:∀(j:Nat) (oj:Oper) (k:Nat) (ok:Oper) (d:Nat),l[j]?=some oj->l[k]?=some ok->pZ oj.op=true->j<=k->ok.dst=some d->d ∉ DJ oj.op.operands.toList
 slot:∀i j oi oj d,l[i]?=some oi->l[j]?=some oj->i≠j->oi.dst=some d->d∈pA l oj->JN (yV l []) i j=true
 mem:∀i j oi oj b,l[i]?=some oi->l[j]?=some oj->i≠j->lZ oi.op=true->pZ oj.op=true->b∈oV tE oi->b∈oV tE oj->JN (yV l []) i j=true
def Tf{a b:List Nat}{x:Nat}(ha:x∈a)(hb:x∈b):meets a b=true:=
 Mv.2 ⟨x,ha,Mv.2 ⟨x,hb,by simp⟩⟩
def JB{l}{tE}(h:HQ l tE=true):DrawOk2 l tE:=by
  have main:∀j oj,l[j]?=some oj->((oj.after.toList.all λe=> !Region.binds .any e||Nat.blt e.on j)=true∧(!pZ oj.op||(l.drop j).all λo=>match o.dst with|none=>true|some d=> !(DJ oj.op.operands.toList).contains d)=true)∧∀i oi,l[i]?=some oi->(i==j||
          ((match oi.dst with|none=>true|some d=> !(pA l oj).contains d||JN (yV l []) i j)&&
           (!(lZ oi.op&&pZ oj.op&&meets (oV tE oi) (oV tE oj))||JN (yV l []) i j)))=true:=by
    intro j oj hj;have hjl:j<l.length:=(Em.1 hj).1;have h1:=rC.1 h j (sU hjl);simp only[hj,aP]at h1;refine⟨h1.1,λi oi hi=>?_⟩;have hil:i<l.length:=(Em.1 hi).1;have h2:=rC.1 h1.2 i (sU hil);simp only[hi]at h2;exact h2
  refine⟨λj oj hj e he hb=>?_,λj oj k ok d hj hk hro hjk hd hm=>?_,λi j oi oj d hi hj hne hd hl=>?_,λi j oi oj b hi hj hne hw hr hbi hbj=>?_⟩
  · have:=rC.1 (main j oj hj).1.1 e he
    simp only[hb,mD,jD]at this;exact aJ this
  · have hmem:ok∈l.drop j:=aB (by rw[cL,(oT:j+(k-j)=k)];exact hk)
    have h0:=(main j oj hj).1.2;simp only[hro,mD,jD]at h0;have:=rC.1 h0 ok hmem;simp only[hd]at this;rw[(sU hm:(DJ oj.op.operands.toList).contains d=true)]at this;cases this
  · have:=(main j oj hj).2 i oi hi
    have hb:(i==j)=false:=sU hne;simp only[hb,jD,aP,hd]at this;have h1:=this.1;rw[(sU hl:(pA l oj).contains d=true)]at h1;simpa using h1
  have:=(main j oj hj).2 i oi hi;have hb:(i==j)=false:=sU hne;simp only[hb,jD,aP]at this;have h1:=this.2;rw[hw,hr,Tf hbi hbj]at h1;simpa using h1
section
variable {C:Ctx}{V:Inv C.fr}{R:FuncId->List AV->AV->Prop}
def PD{l:List Oper}{tE:Nat->AV}(D:DrawOk2 l tE){i j:Nat}{oj:Oper}(hj:l[j]?=some oj)(hi:((yV l []).getD j 0).testBit i=true):i<j:=
 yP (X:=(· <j)) (λk ok hk hok e he hb=>agB (D.back k ok hok e he hb) hk) hj (λe he hb=>D.back j oj hj e he hb) hi
def Ho{l}{tE}(D:DrawOk2 l tE){X}(hX:YI l X){i j}{oi oj}(hi:l[i]?=some oi)(hj:l[j]?=some oj)(hp:∀e∈oj.after.toList,Region.binds .any e=true->X e.on)(hnj: ¬X j)(ho:JN (yV l []) i j=true):X i↔i<j:=by
 simp only[JN,dE]at ho;rcases ho with ho|ho
 ·exact⟨λ_=>PD D hj ho,λ_=>yP hX hj hp ho⟩
 have hlt:=PD D hi ho;refine⟨λhXi=>absurd (yP hX hi (λe he hb=>hX i oi hXi hi e he hb) ho) hnj,λh=>by omega⟩
structure Chn2(C:Ctx)(l:List Oper)(n:Nat)(h:AH)(t:Nat->AV)(xs:Nat->AV)(hh:Nat->AH)(tt:Nat->Nat->AV)(tb:Nat->Nat->Bool):Prop where
 D:DrawOk2 l (tt l.length)
 step:∀k o,l[k]?=some o->StepR C (bI C) l o (n+k) (tt k) (hh k) (xs k) (hh (k+1))
 next:∀k o,l[k]?=some o->tt (k+1)=Aa (tt k) o.dst (xs k)
 t0:tt 0=t
 h0:hh 0=h
 new:∀s,n<=s->h s=none
 tb:∀b i,tb b i=true↔hh (i+1) b≠hh i b
 nH:NoH C
variable {l:List Oper}{n:Nat}{h:AH}{t xs:Nat->AV}{hh:Nat->AH}{tt:Nat->Nat->AV}{tb:Nat->Nat->Bool}
theorem Chn2.live(Z:Chn2 C l n h t xs hh tt tb){i}(hi:i<l.length){b}(hb:b≠n+i)(hn:hh i b=none):hh (i+1) b=none:=by
 have ho:l[i]?=some l[i]:=aA hi;by_cases he:hh (i+1) b=hh i b
 ·rw[he,hn]
 exact absurd hn (AC (Z.step i _ ho) b hb he).2
theorem Chn2.fresh(Z:Chn2 C l n h t xs hh tt tb){b:Nat}(hb:n<=b):∀k,k<=l.length->n+k<=b->hh k b=none
 |0,_,_=>by rw[Z.h0];exact Z.new b hb
 |k+1,hk,hkb=>Z.live oT oT (Z.fresh hb k oT oT)
theorem Chn2.still(Z:Chn2 C l n h t xs hh tt tb){b j k}(hjk:j<=k)(hq:∀i,j<=i->i<k->tb b i=false):hh k b=hh j b:=
 Bw k hjk λi h1 h2=>af4 λhn=>by
  have:=hq i h1 h2;rw[(Z.tb b i).2 hn]at this;cases this
theorem Chn2.at(Z:Chn2 C l n h t xs hh tt tb){j}{o}(hj:l[j]?=some o)(hro:pZ o.op=true):oV (tt l.length) o=oV (tt j) o:=by
 have hjl:j<l.length:=(Em.1 hj).1;have key:∀i∈DJ o.op.operands.toList,∀k,j<=k->k<=l.length->tt k i=tt j i:=by
  intro i hi k
  induction k with
  |zero=>intro h1 _;rw[(oT:j=0)]
  | succ k ih=>
   intro h1 h2;by_cases he:j=k+1
   ·rw[he]
   ·have hk:l[k]?=some l[k]:=aA oT;rw[Z.next k _ hk,xO (λhd=>Z.D.late j o k _ i hj hk hro oT hd hi)];exact ih oT oT
 unfold oV;exact CN _ λi hi=>by rw[key i hi l.length oT (aC _)]
structure DInv2(C:Ctx)(V:Inv C.fr)(l:List Oper)(n:Nat)(h:AH)(t xs:Nat->AV)(hh:Nat->AH)(tb:Nat->Nat->Bool)(w0:World)(S0:Nat->Prop)(N:Nat)(X:Nat->Bool)(a:Act)(w:World):Prop where
 down:YI l (X · =true)
 bnd:∀i,X i=true->i<l.length
 H3:∀k i,X k=true->tb (n+i) k=true->k=i∨X i=true
 sim:∃S β hX,SimD C V w0 S0 N (λs=>s<n∨∃i,X i=true∧s=n+i) (valX X l xs t l.length) hX a w S β∧∀b,hX b=hh (lastW (λi=>X i&&tb b i) l.length) b
def Ok(hC:CtxOk C)(Z:Chn2 C l n h t xs hh tt tb){ops}(hall:ops.toList=l){w0}{S0}{N}(hb:vK N l=true){X Y}{a}{w}(I:DInv2 C V l n h t xs hh tb w0 S0 N X a w){j}{o}(hj:l[j]?=some o)
  (hp:∀e∈o.after.toList,Region.binds .any e=true->X e.on=true) (hnj:X j=false) (hYj:Y j=true) (hY:∀i,i≠j->Y i=X i) {K} {Q} (hK:∀a' w',DInv2 C V l n h t xs hh tb w0 S0 N Y a' w'->K a' w'):
  if Region.wanted o (yielded ops a.tmps)then o.wp C.P a w K Q∨(o.asks C.P a w∧LetsOut Q)else K (a.put o.dst undef) w:=by
 obtain⟨S,β,hX,M,H1⟩:=I.sim;have hjl:j<l.length:=(Em.1 hj).1;have hnj': ¬(X j=true):=by rw[hnj];simp
 have hs:β (n+j)=none:=by
  cases hq:β (n+j)with
  |none=>rfl
  | some loc=>
   rcases M.dom _ _ hq with h|⟨i,hi,he⟩
   ·omega
   ·have:i=j:=oT;subst this;rw[hnj]at hi;cases hi
 have slot:∀tmp∈pA l o,valX X l xs t l.length tmp=tt j tmp:=by
  intro tmp htmp;rw[Et Z.t0 (λk o hk=>Z.next k o hk) j oT, <-Vw tmp oT];refine uB _ λi oi hi hoi hd=>?_;by_cases he:i=j
  ·subst he;rw[hnj];simp
  ·have:=Ho Z.D I.down hoi hj hp hnj' (Z.D.slot i j oi o tmp hoi hj he hd htmp);by_cases hlt:i<j
   ·rw[this.2 hlt];simp[hlt]
   ·have hx: ¬(X i=true):=λh=>hlt (this.1 h);simp only[hlt,decide_false];simpa using hx
 have sites:oV (valX X l xs t l.length) o=oV (tt j) o:=by
  unfold oV;exact CN _ λi hi=>by rw[slot i (by simp only[pA,al_List_mem_append];exact .inl (.inr hi))]
 have ag:pZ o.op=true->∀b loc,β b=some loc->b∈oV (tt j) o->hh j b≠none->hX b=hh j b∧∀k,X k=true->tb b k=true->k<j:=by
  intro hr b loc hbl hbs hbn;have wiff:∀k,k<l.length->k≠j->tb b k=true->(X k=true↔k<j):=by
   intro k hk hne htk;have hok:l[k]?=some l[k]:=aA hk;by_cases hbk:b=n+k
   ·have hkj:k<j:=Nat.lt_of_not_le λhle=>hbn (Z.fresh oT j oT oT);refine⟨λ_=>hkj,λ_=>?_⟩;rcases M.dom _ _ hbl with h|⟨i,hi,he⟩
    ·omega
    ·have:i=k:=oT;subst this;exact hi
   ·have hn:=(Z.tb b k).1 htk;have hwk:=(AC (Z.step k _ hok) b hbk hn).1;have hsk:=Oj (Z.step k _ hok) b hbk hn;exact Ho Z.D I.down hok hj hp hnj' (Z.D.mem k j _ o b hok hj hne hwk hr (by rw[Z.at hok (wQ _ hwk)];exact hsk) (by rw[Z.at hj hr];exact hbs))
  have lt:∀k,X k=true->tb b k=true->k<j:=λk hk htk=>(wiff k (I.bnd k hk) (λe=>by subst e;exact hnj' hk) htk).1 hk;refine⟨?_,lt⟩;rw[H1 b];have hple:lastW (λi=>X i&&tb b i) l.length<=j:=tF _ _ λi hi hw=>by
   simp only[aP]at hw;exact lt i hw.1 hw.2
  refine(Z.still hple λi h1 h2=>?_).symm
  cases hti:tb b i with
  |false=>rfl
  |true=>
   have hXi:=(wiff i oT oT hti).2 h2;have:=yQ (W:=λi=>X i&&tb b i) l.length i oT (by simp[hXi,hti]);omega
 have hag:pZ o.op=true->Be (YH (oV (valX X l xs t l.length) o) β) (hh j) hX:=by
  intro hr b loc hbl hne;have hbl:(if b∈oV (valX X l xs t l.length) o then β b else none)=some loc:=hbl;split at hbl
  ·rename_i hm;rw[sites]at hm;exact(ag hr b loc hbl hm hne).1
  ·cases hbl
 obtain⟨h2,st,hrel⟩:=PC M (Z.step j o hj) slot hag;have turn:∀b,b≠n+j->(hh (j+1) b≠hh j b∨h2 b≠hX b)->(∃loc,β b=some loc)∧hX b=hh j b∧∀k,X k=true->tb b k=true->k<j:=by
  intro b hbj hc;obtain⟨q1,q2,loc,q3⟩:=hrel.2 b hbj hc;have q3:(if b∈oV (valX X l xs t l.length) o then β b else none)=some loc:=q3;split at q3
  ·rename_i hm;rw[sites]at hm;exact⟨⟨loc,q3⟩,ag (wQ _ q1) b loc q3 hm q2⟩
  ·cases q3
 refine xQ hC M hs hall st (wU hb (aB hj)) (λi pol d _ hd=>BP hb i d hd) λa' w' S' β' M'=>hK a' w' ?_;have XY:∀i,Y i=true↔X i=true∨i=j:=λi=>by
  by_cases he:i=j
  ·subst he;simp[hYj]
  ·rw[hY i he];simp[he]
 have hXnone:hX (n+j)=none:=by
  cases hq:hX (n+j)with
  |none=>rfl
  |some blk=>
   obtain⟨loc,_,_,_,hl,_⟩:=M.H.own _ _ hq;rw[hs]at hl;cases hl
 have hjnone:hh j (n+j)=none:=Z.fresh oT j oT oT;have h2new:h2 (n+j)=hh (j+1) (n+j):=hrel.1 _ (by rw[hXnone,hjnone]);refine⟨λk ok hk hok e he hbd=>?_,λi hi=>?_,λk i hk htk=>?_,S',β',h2,?_,λb=>?_⟩
 ·rcases(XY k).1 hk with hk|rfl
  ·exact(XY _).2 (.inl (I.down k ok hk hok e he hbd))
  ·rw[hj]at hok;injection hok with hok;subst hok;exact(XY _).2 (.inl (hp e he hbd))
 ·rcases(XY i).1 hi with hi|rfl
  ·exact I.bnd i hi
  ·exact hjl
 ·rcases(XY k).1 hk with hk|rfl
  ·rcases I.H3 k i hk htk with h|h
   ·exact .inl h
   ·exact .inr ((XY i).2 (.inl h))
  ·by_cases hki:k=i
   ·exact .inl hki
   ·obtain⟨⟨loc,hl⟩,_⟩:=turn (n+i) oT (.inl ((Z.tb _ _).1 htk));rcases M.dom _ _ hl with h|⟨i',hi',he⟩
    ·omega
    ·have:i'=i:=oT;subst this;exact .inr ((XY _).2 (.inl hi'))
 ·have hval:Aa (valX X l xs t l.length) o.dst (xs j)=valX Y l xs t l.length:=by
   funext tmp;by_cases hd:o.dst=some tmp
   ·rw[hd,afW];have hlook:tmp∈pA l o:=by simp[pA,hd]
    rw[DR (j:=j+1) l.length oT λi oi h1 h2 hoi hdi=>?_]
    ·simp only[valX,hj,hYj,hd,afW]
    ·have he:i≠j:=oT;have:=Ho Z.D I.down hoi hj hp hnj' (Z.D.slot i j oi o tmp hoi hj he hdi hlook)
     cases hx:Y i with
     |false=>rfl
     |true=>
      rcases(XY i).1 hx with h|h
      ·have:=this.1 h;omega
      ·omega
   ·rw[xO hd];refine uB _ λi oi hi hoi hdi=>?_;by_cases he:i=j
    ·subst he;rw[hj]at hoi;injection hoi with hoi;subst hoi;exact absurd hdi hd
    ·exact(hY i he).symm
  rw[<-hval];refine⟨M'.T,M'.H,M'.B,λy loc hy=>?_,M'.df,M'.sz,M'.G,M'.nw,M'.iv⟩;rcases M'.dom y loc hy with (h|⟨i,hi,he⟩)|h
  ·exact .inl h
  ·exact .inr ⟨i,(XY i).2 (.inl hi),he⟩
  ·exact .inr ⟨j,hYj,h⟩
 ·cases htj:tb b j with
  | true=>
   have hlt:∀k,X k=true->tb b k=true->k<j:=by
    intro k hk htk;by_cases hbj:b=n+j
    ·subst hbj;rcases I.H3 k j hk htk with h|h
     ·subst h;exact absurd hk hnj'
     ·exact absurd h hnj'
    ·exact(turn b hbj (.inl ((Z.tb _ _).1 htj))).2.2 k hk htk
   have hL:lastW (λi=>Y i&&tb b i) l.length=j+1:=by
    refine Nat.le_antisymm (tF _ _ λi hi hwi=>?_) (yQ _ j hjl (by simp[hYj,htj]));simp only[aP]at hwi;rcases(XY i).1 hwi.1 with h|h
    ·have:=hlt i h hwi.2;omega
    ·omega
   rw[hL];by_cases hbj:b=n+j
   ·rw[hbj];exact h2new
   ·exact hrel.1 b (turn b hbj (.inl ((Z.tb _ _).1 htj))).2.1
  | false=>
   have hstill:hh (j+1) b=hh j b:=af4 λhn=>by
    rw[(Z.tb b j).2 hn]at htj;cases htj
   have hW:(λi=>Y i&&tb b i)=λi=>X i&&tb b i:=by
    funext i;by_cases he:i=j
    ·subst he;simp[htj]
    ·rw[hY i he]
   rw[hW, <-H1 b];by_cases hbj:b=n+j
   ·rw[hbj,h2new,hXnone, <-hbj,hstill,hbj,hjnone]
   ·refine af4 λhn=>?_;have h5:=(turn b hbj (.inr hn)).2.1;exact hn ((hrel.1 b h5).trans (hstill.trans h5.symm))
def Es(hC:CtxOk C)(nH:NoH C){w0}{S0}{N}{ops}(hb:vK N ops.toList=true){K:ASt->Prop}(hr:jS C (bI C) ops.toList ops.toList 0 ⟨t,h,n⟩ (λst=>HQ ops.toList st.t=true∧K st))
  {a} {w} {S} {β} (M:SimD C V w0 S0 N (· <n) t h a w S β) {Q} (hQ:∀st a' w' S' β',K st->SimD C V w0 S0 N (· <st.n) st.t st.h a' w' S' β'->Q .normal a' w'):
  wpAny C.P .any ops Q ops.size (Array.replicate ops.size false) a {w with drawn:=w.drawn+1}:=by
 obtain⟨xs,hh,tt,e1,e2,e3,e4⟩:=Hp nH ops.toList 0 t h hr;simp only[bJ]at e3 e4;have hnew:∀s,n<=s->h s=none:=λs hs=>by
  cases hq:h s with
  |none=>rfl
  |some blk=>
   obtain⟨l,_,_,_,hl,_⟩:=M.H.own s blk hq;have:s<n:=M.dom s l hl;omega
 obtain⟨hd,e4⟩:=e4;obtain⟨tb,htb⟩:∃tb:Nat->Nat->Bool,∀b i,tb b i=true↔hh (i+1) b≠hh i b:=⟨λb i=> @decide _ (Classical.propDecidable (hh (i+1) b≠hh i b)),λb i=>by simp⟩;have Z:Chn2 C ops.toList n h t xs hh tt tb:=⟨JB hd,λk o hk=>(e3 k o hk).1,λk o hk=>(e3 k o hk).2,e1,e2,hnew,htb,nH⟩;have hm:ops.toList.length=ops.size:=by simp
 have fin:∀(X:Nat->Bool) (a:Act) (w:World),(∀i,i<ops.size->X i=true)->DInv2 C V ops.toList n h t xs hh tb w0 S0 N X a w->Q .normal a w:=by
  intro X a w hall I;obtain⟨S,β,hX,M,H1⟩:=I.sim;have hall':∀i,i<ops.toList.length->X i=true:=λi hi=>hall i (by rw[<-hm];exact hi);refine hQ _ a w S β e4 ?_;have hT:valX X ops.toList xs t ops.toList.length=tt ops.toList.length:=by
   rw[Et Z.t0 (λk o hk=>Z.next k o hk) _ (aC _)];funext tmp;exact uB _ λi o hi _ _=>hall' i hi
  have hH:hX=hh ops.toList.length:=by
   funext b;rw[H1 b];refine(Z.still (DS _ _) λi h1 h2=>?_).symm
   cases hti:tb b i with
   |false=>rfl
   |true=>
    have:=yQ (W:=λi=>X i&&tb b i) ops.toList.length i h2 (by simp[hall' i h2,hti]);omega
  rw[<-hT, <-hH];refine⟨M.T,M.H,M.B,λx l hx=>?_,M.df,M.sz,M.G,M.nw,M.iv⟩;show x<n+ops.toList.length;rcases M.dom x l hx with h|⟨i,hi,he⟩
  ·omega
  ·have:=I.bnd i hi;omega
 have done:∀(listed:Array Bool),listed.size=ops.size->Region.ready .any ops listed=[]->∀i,i<ops.size->listed.getD i false=true:=by
  intro listed hsz hnil i hi
  induction i using Nat.strongRecOn with
  | _ i ih=>
   cases hq:listed.getD i false with
   |true=>rfl
   | false=>
    exfalso;have hmem:i∈Region.ready .any ops listed:=by
     refine mem_ready.2 ⟨?_,ops[i],aT hi,λe he hbd=>?_⟩
     ·have:i<listed.size:=oT;rw[aK,aT this]at hq⊢;exact hq
     ·have:=Z.D.back i ops[i] (by rw[bQ,aT hi]) e (sU he) hbd;exact ih e.on this oT
    rw[hnil]at hmem;cases hmem
 have main:∀(fuel:Nat) (listed:Array Bool) (a:Act) (w:World),listed.size=ops.size->cntX (λi=>listed.getD i false) ops.size=fuel->DInv2 C V ops.toList n h t xs hh tb w0 S0 N (λi=>listed.getD i false) a w->wpAny C.P .any ops Q fuel listed a w:=by
  intro fuel
  induction fuel with
  | zero=>
   intro listed a w hsz hc I;have hall:=Eu _ hc;refine⟨?_,fin _ a w hall I⟩
   cases hr:Region.ready .any ops listed with
   |nil=>rfl
   |cons i rest=>
    exfalso;have hmem:i∈Region.ready .any ops listed:=by rw[hr];exact al_List_mem_cons_self
    obtain⟨h1,o,ho,_⟩:=mem_ready.1 hmem;have hi:i<ops.size:=(DP.1 ho).1;have h2:=hall i hi;have:i<listed.size:=oT;rw[aK,aT this]at h1 h2;simp only[gI]at h1 h2
    rw[h1]at h2;cases h2
  | succ fuel ih=>
   intro listed a w hsz hc I;refine⟨λhnil=>fin _ a w (done listed hsz hnil) I,λj hj=>?_⟩;obtain⟨h1,o,ho,hpre⟩:=mem_ready.1 hj;have hjl:j<ops.size:=(DP.1 ho).1;have hjs:j<listed.size:=oT;have hoj:ops.toList[j]?=some o:=by rw[bQ];exact ho
   have hXj:listed.getD j false=false:=by
    rw[aK,aT hjs]at h1⊢;exact h1
   have hYj:(listed.setIfInBounds j true).getD j false=true:=by
    rw[aK,cZ hjs];rfl
   have hY:∀i,i≠j->(listed.setIfInBounds j true).getD i false=listed.getD i false:=λi hi=>by
    rw[aK,aK,cY (Ne.symm hi)]
   unfold wpOp;simp only[ho];refine Ok hC Z rfl hb I hoj (λe he hbd=>hpre e (sU he) hbd) hXj hYj hY λa' w' I'=>?_;refine ih _ a' w' (by simp[hsz]) ?_ I';have:=Hq hXj hYj hY ops.size hjl;omega
 have hfalse:∀i,(Array.replicate ops.size false).getD i false=false:=λi=>by
  rw[aK];by_cases hi:i<ops.size
  ·simp[hi]
  ·rw[iE (sU hi)];rfl
 have hXf:(λi=>(Array.replicate ops.size false).getD i false)=λ_=>false:=funext hfalse;have hcnt:∀k,cntX (λi=>(Array.replicate ops.size false).getD i false) k=k:=by
  rw[hXf];intro k
  induction k with
  |zero=>rfl
  |succ k ih=>simp only[cntX,ih];omega
 refine main ops.size _ a _ (by simp) (hcnt _) ⟨λj oj hj=>?_,λi hi=>?_,λk j hk=>?_,S,β,h,?_,λs=>?_⟩
 ·have:=(hfalse j).symm.trans hj;cases this
 ·have:=(hfalse i).symm.trans hi;cases this
 ·have:=(hfalse k).symm.trans hk;cases this
 ·have hv:valX (λi=>(Array.replicate ops.size false).getD i false) ops.toList xs t ops.toList.length=t:=by
   have:∀k,valX (λi=>(Array.replicate ops.size false).getD i false) ops.toList xs t k=t:=by
    intro k
    induction k with
    |zero=>rfl
    |succ k ih=>
     rw[hXf]at ih⊢;simp only[valX];split<;>exact ih
   exact this _
  rw[hv];have M':=M.drawn (w.drawn+1);exact⟨M'.T,M'.H,M'.B,λx l hx=>.inl (M'.dom x l hx),M'.df,M'.sz,M'.G,M'.nw,M'.iv⟩
 ·have:lastW (λi=>(Array.replicate ops.size false).getD i false&&tb s i) ops.toList.length=0:=by
   refine Nat.le_zero.1 (tF _ _ λi _ hw=>?_);have h1:=hfalse i;rw[h1]at hw;simp at hw
  rw[this,e2]
end
def rU(N:Nat):Code->Bool
 | .region _ ops dr=>vK N ops.toList&&(!dr||FN ops.toList||JO ops.toList)
 | .seq a b=>rU N a&&rU N b
 | .cond _ a b=>rU N a&&rU N b
 | .block _ b=>rU N b
 | .loop b=>rU N b
 |_=>true
def Gq:AEx->Exit
 | .normal=>.normal
 | .exit i=>.exit i
 | .ret=>.ret
def Aft(C:Ctx)(V:Inv C.fr)(w0:World)(S0:Nat->Prop)(N:Nat)(Q:AEx->ASt->Prop)(e:Exit)(a:Act)(w:World):Prop:=∃e' st S β,e=Gq e'∧Q e' st∧SimD C V w0 S0 N (· <st.n) st.t st.h a w S β
section
variable {C:Ctx}{V:Inv C.fr}{N:Nat}{w0:World}{S0:Nat->Prop}
theorem pJ(σ:Nat->Nat):∀(cs:List AV) (i:Nat),(Bg σ cs)[i]?=(cs[i]?).map (uW σ)
 |[],i=>by simp[Bg]
 |c::cs,0=>by simp[Bg]
 |c::cs,i+1=>by simp[Bg,pJ σ cs i]
theorem tS(σ:Nat->Nat):∀(cs:List AV),(Bg σ cs).length=cs.length
 |[]=>rfl
 |c::cs=>by simp[Bg,tS σ cs]
theorem tD(n:Nat):∀(cs:List AV),mS n cs=true->∀(i:Nat) a,cs[i]?=some a->mR n a=true
 |[],_,i,a,h=>by simp at h
 | c::cs,hb,i,a,hi=>by
  simp only[mS]at hb;split at hb
  ·rename_i hc
   cases i with
   |zero=>simp at hi;subst hi;exact hc
   |succ i=>exact tD n cs hb i a (sU hi)
  ·cases hb
theorem Gr:∀(cs:List AV) (i:Nat) a,cs[i]?=some a->SizeOf.sizeOf a<SizeOf.sizeOf cs
 |[],i,a,h=>by simp at h
 |c::cs,0,a,h=>by simp at h;subst h;simp;omega
 |c::cs,i+1,a,h=>by
  have:=Gr cs i a (sU h);simp;omega
def Bv{S}{w}{β}{n}{σ}:∀k a v,SizeOf.sizeOf a<=k->mR n a=true->Rep S w β (uW σ a) v->Rep S w (λs=>if s<n then β (σ s)else none) a v:=by
 intro k
 induction k with
 |zero=>intro a v hk;cases a<;>simp at hk
 | succ k ih=>
  intro a v hk hb hr;have site:∀s l,Nat.blt s n=true->β (σ s)=some l->(λs=>if s<n then β (σ s)else none) s=some l:=λs l h1 h2=>by
   have:s<n:=aJ h1;simp only[this,fD,h2]
  have list:∀(cs:List AV) (us:Array Value),SizeOf.sizeOf cs<=k->mS n cs=true->(∀(i:Nat) a u,(Bg σ cs)[i]?=some a->us[i]?=some u->Rep S w β a u)->∀(i:Nat) a u,cs[i]?=some a->us[i]?=some u->Rep S w (λs=>if s<n then β (σ s)else none) a u:=by
   intro cs us hs hb h i a u p q;have:=Gr cs i a p;exact ih a u oT (tD n cs hb i a p) (h i (uW σ a) u (by rw[pJ,p];rfl) q)
  cases a with
  |v x=>
   simp only[uW]at hr;cases hr
   exact .v _
  |agg cs=>
   simp only[uW]at hr
   cases hr with
   |agg _ vs hl h1 h=>exact .agg cs vs (by rw[<-tS σ cs];exact hl) h1 (list cs vs (by simp at hk;omega) (by simpa [mR]using hb) h)
  |tup cs=>
   simp only[uW]at hr
   cases hr with
   |tup _ vs hl h=>exact .tup cs vs (by rw[<-tS σ cs];exact hl) (list cs vs (by simp at hk;omega) (by simpa [mR]using hb) h)
  |sl rs rows clip=>
   simp only[uW]at hr
   cases hr with
   |sl _ _ _ A c b o u hc hm hcl hrs hA hw h1 hr=>exact .sl rs rows clip A c b o u hc hm hcl hrs hA hw h1 hr
  |dp rs col row=>
   simp only[uW]at hr
   cases hr with
   |dp _ _ _ b o u hrs hb hw h1 hr=>exact .dp rs col row b o u hrs hb hw h1 hr
  |ptr s c=>
   simp only[uW]at hr
   cases hr with
   |ptr _ _ l hl=>exact .ptr s c l (site s l hb hl)
  |ptr2 s r c=>
   simp only[uW]at hr
   cases hr with
   |ptr2 _ _ _ l hl=>exact .ptr2 s r c l (site s l hb hl)
  |osl s lo len clip=>
   simp only[uW]at hr
   cases hr with
   |osl _ _ _ _ l A c hl hc hm hcl hA cs e fr hb' room=>exact .osl s lo len clip l A c (site s l hb hl) hc hm hcl hA cs e fr hb' room
  | clo f a b=>
   simp only[uW]at hr;simp only[mR]at hb;split at hb
   ·rename_i ha
    cases hr with
    |clo _ _ _ vs us hl h hl' h'=>exact .clo f a b vs us (by rw[<-tS σ a];exact hl) (list a vs (by simp at hk;omega) ha h) (by rw[<-tS σ b];exact hl') (list b us (by simp at hk;omega) hb h')
   ·cases hb
  |opt g x=>
   simp only[uW]at hr
   cases hr with
   |optT _ _ _ hg h=>exact .optT g x v hg (ih x v (by simp at hk;omega) (by simpa [mR]using hb) h)
   |optF _ _ hg=>exact .optF g x hg
  |any=>exact .any v
def pK{st st'}{σ}(W:Weak st st' σ)(hf:keepB C.fr σ st'.n=true){a}{w}{S}{β}(M:SimD C V w0 S0 N (· <st.n) st.t st.h a w S β):SimD C V w0 S0 N (· <st'.n) st'.t st'.h a w S (λs=>if s<st'.n then β (σ s)else none):=by
 refine⟨λi=>?_,⟨λs blk hs=>?_,λs s' l l' h1 h2 e1 e2 hb=>?_,M.H.lt,M.H.big⟩,M.B,λx l hx=>?_,M.df,M.sz,M.G,M.nw,V.weak M.iv hf⟩
 ·rcases W.t i with h|⟨h,hb⟩
  ·rw[h];exact .any _
  ·have:=M.T i;rw[h]at this;exact Bv _ _ _ (aC _) hb this
 ·obtain⟨h1,h2,h3⟩:=W.h s blk hs;obtain⟨l,cs,e,fr,k1,k2,k3,k4,k5,k6⟩:=M.H.own _ _ h2;refine⟨l,cs,e,fr,by simp only[h1,fD];exact k1,k2,k3,k4,k5,?_⟩
  cases blk with
  |box cells=>
   intro j a hj;obtain⟨u,q1,q2,q3⟩:=k6 j _ (by rw[pJ,hj];rfl)
   exact⟨u,q1,q2,Bv _ _ _ (aC _) (tD _ cells (by simpa [qM]using h3) j a hj) q3⟩
  |arr rows rs=>exact k6
  |row cells=>
   refine⟨k6.1,λj a hj=>?_⟩;obtain⟨u,q1,q2,q3⟩:=k6.2 j _ (by rw[pJ,hj];rfl);exact⟨u,q1,q2,Bv _ _ _ (aC _) (tD _ cells (by simpa [qM]using h3) j a hj) q3⟩
 ·have get:∀s l,st'.h s≠none->(if s<st'.n then β (σ s)else none)=some l->st.h (σ s)≠none∧β (σ s)=some l:=by
   intro s l hs hl
   cases hq:st'.h s with
   |none=>exact absurd hq hs
   |some blk=>
    obtain⟨h1,h2,h3⟩:=W.h s blk hq;rw[af1 h1]at hl;exact⟨by rw[h2];simp,hl⟩
  obtain⟨a1,a2⟩:=get s l h1 e1;obtain⟨b1,b2⟩:=get s' l' h2 e2;exact W.inj s s' h1 h2 (M.H.inj _ _ _ _ a1 b1 a2 b2 hb)
 ·show x<st'.n;by_cases h:x<st'.n
  ·exact h
  ·simp only[h,eE]at hx;cases hx
def Hm{fz}{S S'}{w}{β}(hS:∀b,S b->S' b)
  (hz:∀x rs rows,fz=some (x,rs,rows)->∀l,β x=some l->S' l.blk∧∃cs e fr,w.heap[l.blk]?=some (.cells cs e fr)∧Bf S w β l cs (.arr rows rs)):
  ∀{a b:AV} {v:Value},LeZ fz a b->Rep S w β a v->Rep S' w β b v:=by
 intro a b v hab
 induction hab generalizing v with
 |refl a=>intro h;exact h.mono hS (Evo.refl _ _) (ME.refl _)
 |any a=>intro _;exact .any _
 | nil rs c=>
  intro h
  cases h with
  |sl _ _ _ A c0 b o u hc hm hcl hrs hA hw h1 hr=>
   exact .sl rs [] c A c0 b o u hc hm (λ_=>hcl rfl) (λ_ h=>by cases h) (λh=>absurd h (iI 0)) (λi row j a h=>by simp at h) h1 λi row j a h=>by simp at h
 |emp rs A k c hk hc=>
  intro h;cases lV h
  exact .sl rs [] c A k 0 0 (λ_ _=>.bool false) (aE _) hk hc (λ_ h=>by cases h) (λh=>absurd h (iI 0)) (λi row j a h=>by simp at h) (λ_ _=>rfl) λi row j a h=>by simp at h
 | clip rs rows=>
  intro h
  cases h with
  |sl _ _ _ A c0 b o u hc hm hcl hrs hA hw h1 hr=>
   exact(Rep.sl rs rows false A c0 b o u hc hm (λh=>by cases h) hrs hA hw h1 hr).mono hS (Evo.refl _ _) (ME.refl _)
 |oclip s lo len=>
  intro h
  cases h with
  |osl _ _ _ _ l A c hl hc hm hcl hA cs e fr hb room=>exact .osl s lo len false l A c hl hc hm (λh=>by cases h) hA cs e fr hb room
 | frz b rs lo len rows c c' hfz hl hcc=>
  intro h
  cases h with
  | osl _ _ _ _ l A cp hl' hc hm hcl hA cs0 e0 fr0 hb0 room=>
   obtain⟨hSb,cs,e,fr,hb,k1,k2,k3⟩:=hz b rs rows hfz l hl';rw[hb0]at hb;injection hb with hb;injection hb with q1 q2 q3;subst q1;subst q2;subst q3;have hlen:((rows.drop lo).take len).length=len:=by rw[aM,bD];omega
   have get:∀(i:Nat) row,((rows.drop lo).take len)[i]?=some row->rows[lo+i]?=some row:=λi row hi=>by
    have hil:i<len:=oH ((Em.1 hi).1)
    rwa [cU,af1 hil,cL]at hi
   have key:=Rep.sl (S:=S') (w:=w) (β:=β) rs ((rows.drop lo).take len) c' A cp l.blk (l.base+lo*l.rs) (λi j=>if(cs0[l.base+(lo+i)*rs+j]?.getD (.bool false)).oneCell'=true then cs0[l.base+(lo+i)*rs+j]?.getD (.bool false)else .bool false)
    (by rw[hlen];exact hc) hm (λh=>by rw[hlen];exact hcl (hcc h)) (λrow hr=>k2 row (eT (cQ hr)))
    (λh0=>⟨hA oT,hSb⟩) (λi row j a hi hj=>?_) (λi j=>?_) (λi row j a hi hj=>?_)
   ·rw[hlen]at key;exact key
   ·obtain⟨u,p1,p2,p3⟩:=k3 (lo+i) row j a (get i row hi) hj;rw[gP hb0,k1,show l.base+lo*rs+i*rs+j=l.base+(lo+i)*rs+j by rw[cG];omega,p1];simp[p2]
   ·split
    ·assumption
    ·rfl
   ·obtain⟨u,p1,p2,p3⟩:=k3 (lo+i) row j a (get i row hi) hj;simp only[p1,gI,p2,fD]
    exact p3.mono hS (Evo.refl _ _) (ME.refl _)
 | agg cs ds hl h ih=>
  intro hr
  cases hr with
  |agg _ vs hl' h1 h'=>
   refine .agg ds vs (hl ▸ hl') h1 λi a u p q=>?_;have hi:i<cs.length:=by rw[hl];exact(Em.1 p).1
   exact ih i cs[i] a (aA hi) p (h' i _ u (aA hi) q)
 | tup cs ds hl h ih=>
  intro hr
  cases hr with
  |tup _ vs hl' h'=>
   refine .tup ds vs (hl ▸ hl') λi a u p q=>?_;have hi:i<cs.length:=by rw[hl];exact(Em.1 p).1
   exact ih i cs[i] a (aA hi) p (h' i _ u (aA hi) q)
def Py{fz}{S S'}{w}{β}(hS:∀b,S b->S' b)
  (hz:∀x rs rows,fz=some (x,rs,rows)->∀l,β x=some l->S' l.blk∧∃cs e fr,w.heap[l.blk]?=some (.cells cs e fr)∧Bf S w β l cs (.arr rows rs))
  {b0 b1} {l} {cs} (h:LeB fz b0 b1) (k:Bf S w β l cs b0):Bf S' w β l cs b1:=by
 cases h with
 |refl=>exact k.mono hS (Evo.refl _ _) (ME.refl _)
 |box c d hl hh=>
  intro j a hj;have hi:j<c.length:=by rw[hl];exact(Em.1 hj).1
  obtain⟨u,p1,p2,p3⟩:=k j c[j] (aA hi)
  exact⟨u,p1,p2,Hm hS hz (hh j _ a (aA hi) hj) p3⟩
 |row c d hl hh=>
  refine⟨k.1,λj a hj=>?_⟩;have hi:j<c.length:=by rw[hl];exact(Em.1 hj).1
  obtain⟨u,p1,p2,p3⟩:=k.2 j c[j] (aA hi)
  exact⟨u,p1,p2,Hm hS hz (hh j _ a (aA hi) hj) p3⟩
 |toRow c=>
  refine⟨k.1,λj a hj=>?_⟩;obtain⟨u,p1,p2,p3⟩:=k.2.2 j [a] 0 a (by rw[aX,hj];rfl) rfl;rw[iD,iU]at p1
  exact⟨u,p1,p2,p3.mono hS (Evo.refl _ _) (λs l x=>by cases x)⟩
 | toArr c hc=>
  refine⟨k.1,λrow hr=>?_,λi row j a hi hj=>?_⟩
  ·obtain⟨x,_,rfl⟩:=pG.1 hr;rfl
  ·rw[aX]at hi;obtain⟨x,hx,rfl⟩:=Gi.1 hi
   cases j with
   |zero=>
    simp only[cP,af6]at hj;subst hj;obtain⟨u,p1,p2,p3⟩:=k.2 i x hx
    exact⟨u,by rw[iD,iU];exact p1,p2,(mB p3 (hc x (aB hx)) noB).mono hS (Evo.refl _ _) (ME.refl _)⟩
   |succ j=>simp at hj
theorem Ghost.old{st st'}{fz}(hg:Ghost st st' fz)(s)(h:st'.h s≠none):st.h s≠none:=by
 cases hq:st'.h s with
 |none=>exact absurd hq h
 |some blk=>obtain⟨_,blk0,h0,_⟩:=hg.h s blk hq;rw[h0];simp
def Ll{st st'}{fz}(hg:Ghost st st' fz){a}{w}{S}{β}(M:SimD C V w0 S0 N (· <st.n) st.t st.h a w S β):∃S',SimD C V w0 S0 N (· <st'.n) st'.t st'.h a w S' β:=by
 cases fz with
 |none=>
  have hz:∀x rs rows,(none:Fz)=some (x,rs,rows)->∀l,β x=some l->S l.blk∧∃cs e fr,w.heap[l.blk]?=some (.cells cs e fr)∧Bf S w β l cs (.arr rows rs):=λ_ _ _ h=>by cases h
  refine⟨S,λi=>Hm (λ_ h=>h) hz (hg.t i) (M.T i),⟨λs blk hs=>?_,λs s' l l' h1 h2=>M.H.inj s s' l l' (hg.old s h1) (hg.old s' h2),M.H.lt,M.H.big⟩,M.B,by rw[hg.n];exact M.dom,M.df,M.sz,M.G,M.nw,M.iv⟩;obtain⟨_,blk0,h0,hb⟩:=hg.h s blk hs;obtain⟨l,cs,e,fr,k1,k2,k3,k4,k5,k6⟩:=M.H.own s blk0 h0
  exact⟨l,cs,e,fr,k1,k2,k3,k4,k5,Py (λ_ h=>h) hz hb k6⟩
 | some z=>
  obtain⟨x,rs,rows⟩:=z;have hx:=hg.b x rs rows rfl;obtain⟨lx,csx,ex,frx,x1,x2,x3,x4,x5,x6⟩:=M.H.own x _ hx;have hS:∀b,S b->S b∨b=lx.blk:=λ_ h=>.inl h;have hz:∀y rs' rows',some (x,rs,rows)=some (y,rs',rows')->∀l,β y=some l->(S l.blk∨l.blk=lx.blk)∧∃cs e fr,w.heap[l.blk]?=some (.cells cs e fr)∧Bf S w β l cs (.arr rows' rs'):=λy rs' rows' h l hl=>by
   simp only[af6,Prod.mk.injEq]at h;obtain⟨rfl,rfl,rfl⟩:=h;rw[x1]at hl;injection hl with hl;subst hl;exact⟨.inr rfl,csx,ex,frx,x2,x6⟩
  refine⟨λb=>S b∨b=lx.blk,λi=>Hm hS hz (hg.t i) (M.T i),⟨λs blk hs=>?_,λs s' l l' h1 h2=>M.H.inj s s' l l' (hg.old s h1) (hg.old s' h2),λb hb=>hb.elim (M.H.lt b) λe=>e ▸ fJ x2,M.H.big⟩,M.B,by rw[hg.n];exact M.dom,M.df,M.sz,λg cells hgc=>(M.G g cells hgc).mono hS (Evo.refl _ _) (ME.refl _),λb hb=>hb.elim (M.nw b) λe=>.inr (e ▸ x4),V.frz M.iv x1⟩;obtain⟨hne,blk0,h0,hb⟩:=hg.h s blk hs;obtain⟨l,cs,e,fr,k1,k2,k3,k4,k5,k6⟩:=M.H.own s blk0 h0;refine⟨l,cs,e,fr,k1,k2,k3,k4,λh=>h.elim k5 λq=>?_,Py hS hz hb k6⟩;exact hne x rs rows rfl (M.H.inj s x l lx (by rw[h0];simp) (by rw[hx];simp) k1 x1 q)
def nK{st st'}(hg:Ghosts st st'):∀{a:Act} {w:World} {S:Nat->Prop} {β:Bt},SimD C V w0 S0 N (· <st.n) st.t st.h a w S β->∃S',SimD C V w0 S0 N (· <st'.n) st'.t st'.h a w S' β:=by
 induction hg with
 |refl=>intro a w S β M;exact⟨S,M⟩
 |step fz h k ih=>intro a w S β M;obtain⟨S',M'⟩:=Ll h M;exact ih M'
theorem CtxOk.noH(h:CtxOk C):CtxOk C.noH:=⟨h.ty,h.mixed,λ_ _ _ _ _ h=>h.elim⟩
theorem SimD.noH{D}{t}{h}{a}{w}{S}{β}(M:SimD C V w0 S0 N D t h a w S β):SimD C.noH V w0 S0 N D t h a w S β:=⟨M.T,M.H,M.B,M.dom,M.df,M.sz,M.G,M.nw,M.iv⟩
theorem SimD.ofNoH{D}{t}{h}{a}{w}{S}{β}(M:SimD C.noH V w0 S0 N D t h a w S β):SimD C V w0 S0 N D t h a w S β:=⟨M.T,M.H,M.B,M.dom,M.df,M.sz,M.G,M.nw,M.iv⟩
theorem CL(hC:CtxOk C)(nH:NoH C){ops:Array Oper}(hb:vK N ops.toList=true){K:ASt->Prop}{Q:Exit->Act->World->Prop}{n:Nat}(hQ:∀st a' w' S' β',K st->SimD C V w0 S0 N (· <st.n) st.t st.h a' w' S' β'->Q .normal a' w'):
  ∀(fuel:Nat) (listed:Array Bool) (t:Nat->AV) (h:AH) (a:Act) (w:World) (S:Nat->Prop) (β:Bt),listed.size=ops.size->Wx C (bI C) ops K fuel listed ⟨t,h,n⟩->SimD C V w0 S0 N (λs=>s<n∨∃i,listed.getD i false=true∧s=n+i) t h a w S β->wpAny C.P .any ops Q fuel listed a w
 | 0,listed,t,h,a,w,S,β,hsz,hr,M=>by
  refine⟨hr.1,hQ _ a w S β hr.2 ⟨M.T,M.H,M.B,λy l hy=>?_,M.df,M.sz,M.G,M.nw,M.iv⟩⟩;show y<n+ops.size;rcases M.dom y l hy with h|⟨i,hi,rfl⟩
  ·omega
  ·rcases al_Nat_lt_or_ge i listed.size with k|k
   ·omega
   ·rw[aK,iE k]at hi;cases hi
 | fuel+1,listed,t,h,a,w,S,β,hsz,hr,M=>by
  refine⟨λhn=>absurd hn hr.1,λi hi=>?_⟩;have hall:∀(l:List Nat),forL (Zc C (bI C) ops (Wx C (bI C) ops K fuel) listed t h n) l->∀i∈l,Zc C (bI C) ops (Wx C (bI C) ops K fuel) listed t h n i:=by
   intro l
   induction l with
   |nil=>intro _ i hi;cases hi
   |cons x l ih=>
    intro hl i hi;rcases al_List_mem_cons.1 hi with rfl|hi
    ·exact hl.1
    ·exact ih hl.2 i hi
  have h1:=hall _ hr.2 i hi;obtain⟨k1,o,ho,_⟩:=mem_ready.1 hi;have hil:i<listed.size:=oH ((DP.1 ho).1);have hni:listed.getD i false=false:=by
   rw[aK,aT hil]at k1⊢;exact k1
  have hoi:ops.toList[i]?=some o:=by rw[bQ];exact ho
  have hmem:o∈ops.toList:=aB hoi;have hs:β (n+i)=none:=by
   cases hq:β (n+i)with
   |none=>rfl
   | some l=>
    rcases M.dom _ _ hq with h|⟨j,hj,he⟩
    ·omega
    ·have:j=i:=oT;subst this;rw[hni]at hj;cases hj
  simp only[Zc,ho]at h1;obtain⟨x,h',e1,e2⟩:=(step_inv h1).resolve_right λ⟨_,f,args,Post,_,hH,_⟩=>nH _ _ _ _ _ hH;unfold wpOp;simp only[ho];refine xQ hC M hs rfl e1 (wU hb hmem) (λi pol d _ hd=>BP hb i d hd) λa' w' S' β' M'=>?_;refine CL hC nH hb hQ fuel _ _ h' a' w' S' β' (by simp[hsz]) e2 ⟨M'.T,M'.H,M'.B,λy l hy=>?_,M'.df,M'.sz,M'.G,M'.nw,M'.iv⟩;have hset:∀j,(listed.setIfInBounds i true).getD j false=true↔listed.getD j false=true∨j=i:=λj=>by
   by_cases hj:j=i
   ·subst hj;rw[aK,cZ hil];simp
   ·rw[aK,cY (Ne.symm hj), <-aK];simp[hj]
  rcases M'.dom y l hy with (h|⟨j,hj,he⟩)|h
  ·exact .inl h
  ·exact .inr ⟨j,(hset j).2 (.inl hj),he⟩
  ·exact .inr ⟨i,(hset i).2 (.inr rfl),h⟩
def CM(hC:CtxOk C):∀c,rU N c=true->∀st Q,eA C (bI C) c st Q->∀a w S β,SimD C V w0 S0 N (· <st.n) st.t st.h a w S β->
  c.wp C.P (Aft C V w0 S0 N Q) a w:=by
 intro c
 induction c with
 |skip=>intro _ st Q hq a w S β M;exact wp_skip ⟨.normal,st,S,β,rfl,hq,M⟩
 |label l=>intro _ st Q hq a w S β M;exact wp_label ⟨.normal,st,S,β,rfl,hq,M⟩
 |exit id=>intro _ st Q hq a w S β M;exact wp_exit ⟨.exit id,st,S,β,rfl,hq,M⟩
 |ret=>intro _ st Q hq a w S β M;exact wp_ret ⟨.ret,st,S,β,rfl,hq,M⟩
 | region id ops dr=>
  intro hk st Q hq a w S β M;simp only[rU,aP]at hk;obtain⟨t,h,n⟩:=st;simp only[eA]at hq
  cases dr with
  |false=>
   simp only[pW]at hq;refine wp_region ?_;have:=Ev (Q:=Aft C V w0 S0 N Q) (K:=Q .normal) hC (ops:=ops) rfl hk.1 ops.toList 0 t h a w S β rfl hq M (λst' a' w' S' β' hk' M'=>⟨.normal,st',S',β',rfl,hk',M'⟩);rw[show List.range' 0 ops.toList.length=List.range ops.size by rw[nZ,cV]]at this
   exact this
  | true=>
   refine wp_region_any hC.mixed ?_;simp only[kL]at hq
   cases hl:FN ops.toList with
   |true=>
    rw[hl]at hq;rcases hq with hq|⟨_,hq⟩
    rotate_left
    ·exact Es hC.noH (λ_ _ _ _ _ h=>h) hk.1 hq (SimD.noH M) (λst' a' w' S' β' hk' M'=>⟨.normal,st',S',β',rfl,hk',SimD.ofNoH M'⟩)
    have M':=M.drawn (w.drawn+1)
    refine CL hC.noH (λ_ _ _ _ _ h=>h) hk.1 (λst' a' w' S' β' hk' M'=>⟨.normal,st',S',β',rfl,hk',SimD.ofNoH M'⟩) ops.size _ t h a _ S β (by simp) hq ⟨M'.T,M'.H,M'.B,λy l hy=>.inl (M'.dom y l hy),M'.df,M'.sz,M'.G,M'.nw,M'.iv⟩
   |false=>
   rw[hl]at hq;have hd:JO ops.toList=true:=by simp only[FN,dP,mJ]at hl;exact hl.2
   exact Gw hC.noH (λ_ _ _ _ _ h=>h) hk.1 hd hq (SimD.noH M) (λst' a' w' S' β' hk' M'=>⟨.normal,st',S',β',rfl,hk',SimD.ofNoH M'⟩)
 | seq x y ihx ihy=>
  intro hk st Q hq a w S β M;simp only[rU,aP]at hk;simp only[eA]at hq;rcases hq with hq|hq|hq
  ·refine wp_seq (wp_mono (ihx hk.1 st _ hq a w S β M) ?_);rintro e a' w' ⟨e',st',S',β',rfl,h1,h2⟩
   cases e' with
   |normal=>exact ihy hk.2 st' Q h1 a' w' S' β' h2
   |exit i=>exact⟨.exit i,st',S',β',rfl,h1,h2⟩
   |ret=>exact⟨.ret,st',S',β',rfl,h1,h2⟩
  ·refine wp_seq (wp_mono (ihx hk.1 st _ hq a w S β M) ?_);rintro e a' w' ⟨e',st',S',β',rfl,h1,h2⟩
   cases e' with
   |normal=>
    obtain⟨st2,g1,g2⟩:=h1;obtain⟨S2,h3⟩:=nK g1 h2
    exact ihy hk.2 st2 Q g2 a' w' S2 β' h3
   |exit i=>exact⟨.exit i,st',S',β',rfl,h1,h2⟩
   |ret=>exact⟨.ret,st',S',β',rfl,h1,h2⟩
  ·refine wp_seq (wp_mono (ihx hk.1 st _ hq a w S β M) ?_);rintro e a' w' ⟨e',st',S',β',rfl,h1,h2⟩
   cases e' with
   |normal=>
    obtain⟨st2,g1,st3,σ,hW,hf,g2⟩:=h1;obtain⟨S2,h3⟩:=nK g1 h2
    exact ihy hk.2 st3 Q g2 a' w' S2 _ (pK hW hf h3)
   |exit i=>exact⟨.exit i,st',S',β',rfl,h1,h2⟩
   |ret=>exact⟨.ret,st',S',β',rfl,h1,h2⟩
 | cond c x y ihx ihy=>
  intro hk st Q hq a w S β M;simp only[rU,aP]at hk;simp only[eA]at hq;split at hq
  ·rename_i b hb;obtain⟨h1,h2⟩:=hq;have hv:=sY M c;rw[hb]at hv;refine wp_cond_split (lV hv) (λht=>ihx hk.1 st Q (h1 ht) a w S β M) (λhf=>ihy hk.2 st Q (h2 hf) a w S β M)
  ·exact hq.elim
 | block id b ih=>
  intro hk st Q hq a w S β M;simp only[rU]at hk;simp only[eA]at hq;refine wp_block (wp_mono (ih hk st _ hq a w S β M) ?_);rintro e a' w' ⟨e',st',S',β',rfl,h1,h2⟩
  cases e' with
  |normal=>exact⟨.normal,st',S',β',rfl,h1,h2⟩
  |ret=>exact⟨.ret,st',S',β',rfl,h1,h2⟩
  | exit i=>
   show Exit.inBlock id _ (.exit i) a' w';simp only at h1;simp only[Exit.inBlock];by_cases hi:i=id
   ·subst hi;rw[af1 rfl];rw[show Nat.beq i i=true from nG i]at h1;exact⟨.normal,st',S',β',rfl,h1,h2⟩
   ·rw[dZ hi];have:Nat.beq i id=false:=by rw[<-eJ];exact λe=>hi (aO e)
    rw[this]at h1
    exact⟨.exit i,st',S',β',rfl,h1,h2⟩
 | loop b ih=>
  intro hk st Q hq a w S β M;simp only[rU]at hk;simp only[eA]at hq;obtain⟨I,μ,st0,σ,hw,hf0,h0,round⟩:=hq;have key:∀(m:Nat) (st:ASt) (a:Act) (w:World) (S:Nat->Prop) (β:Bt),μ st=m->I st->SimD C V w0 S0 N (· <st.n) st.t st.h a w S β->∀(fb:Frame) (k:List Item) (cs:List Frame),
    ∃e a' w',Aft C V w0 S0 N Q e a' w'∧Arrives C.P (lone (fb.at a (.code b:: .inLoop b::k)) cs w) fb k cs e a' w':=by
   intro m
   induction m using Nat.strongRecOn with
   | _ m ihm=>
    intro st a w S β hm hI M fb k cs;obtain⟨e,a₁,w₁,hq,harr⟩:=ih hk st _ (round st hI) a w S β M fb (.inLoop b::k) cs;obtain⟨e',st1,S1,β1,rfl,hq1,M1⟩:=hq
    cases e' with
    |normal=>
     obtain⟨stg,g1,stw,σ',W,hf1,hIw,hlt⟩:=hq1;obtain⟨S1,M1⟩:=nK g1 M1;obtain⟨e₂,a₂,w₂,hq₂,harr₂⟩:=ihm (μ stw) (hm ▸ hlt) stw a₁ w₁ S1 _ rfl hIw (pK W hf1 M1) fb k cs
     exact⟨e₂,a₂,w₂,hq₂,.of_steps (Steps.trans harr (.one step_inLoop)) harr₂⟩
    |exit id=>exact⟨_,a₁,w₁,⟨.exit id,st1,S1,β1,rfl,hq1,M1⟩,.pass rfl (λ_ _=>.inl (by simp[Gq])) harr⟩
    |ret=>exact⟨_,a₁,w₁,⟨.ret,st1,S1,β1,rfl,hq1,M1⟩,.pass rfl (λ_ _=>.inl (by simp[Gq])) harr⟩
  intro fb k cs;obtain⟨e,a',w',hq,harr⟩:=key _ st0 a w S _ rfl h0 (pK hw hf0 M) fb k cs
  exact⟨e,a',w',hq,.of_steps (.one step_loop) harr⟩
 |_=>intro _ st Q hq;exact hq.elim
def Sub(a b:AV):Prop:=∀(S:Nat->Prop) (w:World) (v:Value),Rep S w noB a v->Rep S w noB b v
theorem Sub.refl(a):Sub a a:=λ_ _ _ h=>h
def ST(C:Ctx)(fn:Func)(r:AV)(st:ASt):Prop:=
 ∃rs,resA C st fn.results.toList=some rs∧jU st.h (Dp rs)∧eP (vR st.h (Dp rs))=true∧Sub (vR st.h (Dp rs)) r
def Fin(C:Ctx)(fn:Func)(r:AV):AEx->ASt->Prop
 | .exit _,_=>False
 |_,st=>ST C fn r st
def YT(tmps:Array Value):ResultVar->Sem Value
 | .tmp t=>pure (tmps.getD t undef)
 | .cell a t=>do loadVar t (<-asAddr (tmps.getD a undef))
def Oh(fn:Func)(tmps:Array Value):results fn tmps=(do let vs<-fn.results.mapM (YT tmps);pure (if h:vs.size=1 then vs[0]else .tuple vs)):=rfl
def yO{P}{w}{tmps}(l)(vs)(h:(l.mapM (YT tmps)).run P w=.ok vs w)(fn)(hl:fn.results.toList=l):
  (results fn tmps).run P w=.ok (if h:vs.toArray.size=1 then vs.toArray[0]else .tuple vs.toArray) w:=by
 rw[Oh,Array.mapM_eq_mapM_toList,hl];simp only[Sem.run_bind,map_eq_pure_bind,Sem.run_pure];rw[h];simp only[Result.andThen_ok,Sem.run_pure]
theorem JA(hC:CtxOk C){t:Nat->AV}{h:AH}{n:Nat}{a:Act}{w:World}{D:Nat->Prop}{S:Nat->Prop}{β:Bt}(M:SimD C V w0 S0 N D t h a w S β):∀(l:List ResultVar) (rs:List AV),resA C ⟨t,h,n⟩ l=some rs->
  ∃vs,(l.mapM (YT a.tmps)).run C.P w=.ok vs w∧RepL S w β rs vs
 |[],rs,hr=>by simp only[resA]at hr;injection hr with hr;subst hr;exact⟨[],rfl,RepL.nil _ _ _⟩
 | .tmp i::l,rs,hr=>by
  simp only[resA]at hr;split at hr
  ·rename_i r hl;injection hr with hr;subst hr;obtain⟨vs,h1,h2⟩:=JA hC M l r hl;exact⟨a.tmps.getD i undef::vs,by simp only[tR,Sem.run_bind,YT,Sem.run_pure,Result.andThen_ok,h1],RepL.cons (M.T i) h2⟩
  ·cases hr
 | .cell c ty::l,rs,hr=>by
  simp only[resA]at hr;split at hr
  ·rename_i b col r hp hl;split at hr
   ·rename_i cells hb;split at hr
    ·rename_i x hx;injection hr with hr;subst hr;obtain⟨vs,h1,h2⟩:=JA hC M l r hl;obtain⟨lo,cs,e,fr,k1,k2,k3⟩:=PR M.H hb;have hT:=M.T c;rw[hp]at hT;generalize hv:a.tmps.getD c undef=v at hT
     cases hT with
     |ptr _ _ l' hl'=>
     obtain rfl:l'=lo:=by rw[hl']at k1;exact af5 k1
     obtain⟨u,p1,p2⟩:=BS hC k3 rfl hx;exact⟨u::vs,by simp only[tR,Sem.run_bind,YT,hv,asAddr,Sem.run_pure,Result.andThen_ok,p1,h1],RepL.cons p2 h2⟩
    ·cases hr
   ·cases hr
  ·cases hr
theorem afV:∀(args:List AV) (i:Nat),argsT args i=(args[i]?).getD .any
 |[],i=>by simp[argsT]
 |x::xs,0=>by simp[argsT]
 |x::xs,i+1=>by simp[argsT,afV xs i]
theorem bI.intro(hC:CtxOk C){f}{fn}{body}{args}{r}(hf:C.P.funcs[f]?=some fn)(hb:fn.body=some body)(hnm:(fn.name== "runtime.NumGoroutine")=false)
  (hN:rU fn.ntmps body=true) (hlen:Nat.ble args.length fn.ntmps=true) (hw:eA C (bI C) body ⟨argsT args,λ_=>none,0⟩ (Fin C fn r)) (hdf:C.df=[]:=by rfl):bI C f args r:=by
 refine⟨⟨fn,hf,by rw[hb];rfl,hnm⟩,λS w vs hS hG hargs=>?_⟩;have hlen:=aJ hlen;refine calls_of_wp hf hb ?_;have M0:SimD C (Inv.any C.fr) w S fn.ntmps (· <(0:Nat)) (argsT args) (λ_=>none) {tmps:=vs.toArray++Array.replicate (fn.ntmps-vs.toArray.size) undef,defers:=[]} w S noB:=by
  have hl:vs.length=args.length:=hargs.1.symm;refine⟨λi=>?_,⟨λs blk h=>(by cases h),λs s' l l' h=>absurd rfl h,hS,aC _⟩,Below.refl _ _,λx l h=>(by cases h),hdf.symm,by simp;omega,hG,λ_ h=>.inl h,trivial⟩;rw[afV]
  cases ha:args[i]? with
  |none=>exact .any _
  | some x=>
   have hi:i<vs.length:=by rw[hl];exact(Em.1 ha).1
   have hv:vs[i]?=some vs[i]:=aA hi;have:(vs.toArray++Array.replicate (fn.ntmps-vs.toArray.size) undef).getD i undef=vs[i]:=by
    rw[aK,dS (sU hi),eM,hv];rfl
   rw[this];exact hargs.2 i x _ ha hv
 refine wp_mono (CM hC body hN ⟨argsT args,λ_=>none,0⟩ _ hw _ w S noB M0) ?_;rintro e a' w' ⟨e',st,S',β',rfl,hfin,M⟩;have fin:ST C fn r st->a'.defers=[]∧∃v,(results fn a'.tmps).run C.P w'=.ok v w'∧∃v',Ending.returned v=.returned v'∧Below w.heap.size w w'∧Rep (λb=>S b∨(w.heap.size<=b∧b<w'.heap.size)) w' noB r v':=by
  rintro⟨rs,h1,h2,h3,h4⟩;obtain⟨t,h,n⟩:=st;obtain⟨us,g1,g2⟩:=JA hC M _ rs h1;refine⟨M.df.trans hdf,_,yO _ us g1 fn rfl,_,rfl,M.B,?_⟩;have hret:Rep S' w' β' (Dp rs) (if h:us.toArray.size=1 then us.toArray[0]else .tuple us.toArray):=by
   match rs,us,g2 with
   |[],us,g2=>
    have:us=[]:=afC g2.1.symm;subst this
    exact .tup [] #[] rfl λi a u p=>by simp at p
   |[x],us,g2=>
    match us,g2 with
    |[u],g2=>simpa [Dp]using g2.2 0 x u rfl rfl
    |[],g2=>exact absurd g2.1 (by simp)
    |_::_::_,g2=>exact absurd g2.1 (by simp)
   | x::y::zs,us,g2=>
    have hne: ¬us.toArray.size=1:=by
     have:=g2.1;simp at this⊢;omega
    rw[dif_neg hne];exact .tup _ _ (sU g2.1) λi a u p q=>g2.2 i a u p (sU q)
  have hd:=BO M.H hret h2;refine h4 _ _ _ ?_;exact(mB hd h3 noB).mono (λb hb=>hb.elim (λhb=>(M.nw b hb).imp id λh=>⟨h,M.H.lt b hb⟩) .inr) (Evo.refl _ _) (ME.refl _)
 cases e' with
 |normal=>exact fin hfin
 |ret=>exact fin hfin
 |exit i=>exact hfin.elim
end
end Go.Proofs.YtlpkggpdjobpmaaGreatDoor
