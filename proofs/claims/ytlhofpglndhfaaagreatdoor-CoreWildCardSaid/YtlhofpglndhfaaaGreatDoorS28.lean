/- Joined texts. -/
import Derived.Test.YtlhofpglndhfaaaGreatDoorS1
import Derived.Test.YtlhofpglndhfaaaGreatDoorS27
set_option linter.unusedVariables false
set_option linter.unusedSimpArgs false
namespace Go.Proofs.YtlhofpglndhfaaaGreatDoor
open Go.RowKit
def Qp(h1 h2:AH)(s:Nat)(wr:Bool)(β:Bt)(h1' h2':AH):Prop:=
 (∀ b,h2 b=h1 b→h2' b=h1' b)∧∀ b,b≠s→(h1' b≠h1 b∨h2' b≠h2 b)→wr=true∧h1 b≠none∧∃ l,β b=some l
def Tr(h1 h2:AH)(s:Nat)(wr:Bool)(β:Bt)(r1 r2:Res):Prop:=
 match r1 with
 | .bad=>True
 | .fx p x h1'=>∃ h2',r2=.fx p x h2'∧Qp h1 h2 s wr β h1' h2'
 | .idxfx rows i f=>∃ f2,r2=.idxfx rows i f2∧∀ row h1',f row=some h1'→∃ h2',f2 row=some h2'∧Qp h1 h2 s wr β h1' h2'
 |r=>r2=r
section
variable {C:Ctx}{h1 h2:AH}{s:Nat}{wr:Bool}{β:Bt}{S:Nat→Prop}{w:World}
theorem Tr.refl_of{r:Res}(hr:isFx r=false):Tr h1 h2 s wr β r r:=by
 cases r<;>first|rfl|(simp[isFx]at hr)
theorem Qp.new(blk:Option Blk):Qp h1 h2 s wr β (upd h1 s blk) (upd h2 s blk):=by
 refine⟨λ b hb=>?_,λ b hb h=>?_⟩
 ·by_cases he:b=s
  ·subst he;rw[dA,dA]
  ·rw[cE _ _ he,cE _ _ he];exact hb
 ·rw[cE _ _ hb,cE _ _ hb]at h;rcases h with h|h<;>exact absurd rfl h
theorem Qp.set{b0:Nat}{l:Loc}(hl:β b0=some l)(hn:h1 b0≠none)(blk:Option Blk):Qp h1 h2 s true β (upd h1 b0 blk) (upd h2 b0 blk):=by
 refine⟨λ b hb=>?_,λ b hb h=>?_⟩
 ·by_cases he:b=b0
  ·subst he;rw[dA,dA]
  ·rw[cE _ _ he,cE _ _ he];exact hb
 ·by_cases he:b=b0
  ·subst he;exact⟨rfl,hn,l,hl⟩
  ·rw[cE _ _ he,cE _ _ he]at h;rcases h with h|h<;>exact absurd rfl h
theorem Qp.set_new{b0:Nat}{l:Loc}(hl:β b0=some l)(hn:h1 b0≠none)(blk blk':Option Blk):Qp h1 h2 s true β (upd (upd h1 b0 blk') s blk) (upd (upd h2 b0 blk') s blk):=by
 refine⟨λ b hb=>?_,λ b hb h=>?_⟩
 ·by_cases he:b=s
  ·subst he;rw[dA,dA]
  ·rw[cE _ _ he,cE _ _ he];by_cases he:b=b0
   ·subst he;rw[dA,dA]
   ·rw[cE _ _ he,cE _ _ he];exact hb
 ·rw[cE _ _ hb,cE _ _ hb]at h;by_cases he:b=b0
  ·subst he;exact⟨rfl,hn,l,hl⟩
  ·rw[cE _ _ he,cE _ _ he]at h;rcases h with h|h<;>exact absurd rfl h
def Ah(β:Bt)(h1 h2:AH):Prop:=∀ b l,β b=some l→h1 b≠none→h2 b=h1 b
theorem vH{a:AV}{v:Value}(ha:Rep S w β a v)(hag:Ah β h1 h2){r:Nat×List (List AV)}(hr:mO h1 a=some r):mO h2 a=some r∧(wK h2 a↔wK h1 a):=by
 cases ha with
 | osl s lo len clip l A c hl hc hm hcl hA cs e fr hb room=>
  have hn:h1 s≠none:=by
   intro h0;simp only[mO,h0]at hr;cases hr
  have e:=hag s l hl hn;simp only[mO,e]at hr⊢
  exact⟨hr,by simp only[wK,e]⟩
 |v=>exact⟨by cases v<;>exact hr,Iff.rfl⟩
 |_=>exact⟨hr,Iff.rfl⟩
theorem Ta(t:TypeId){a:AV}{v:Value}(ha:Rep S w β a v)(hag:Ah β h1 h2):Tr h1 h2 s wr β (rX C h1 t a) (rX C h2 t a):=by
 have ok:∀ x:Option AV,Tr h1 h2 s wr β (okO x) (okO x):=λ x=>by cases x<;>first|trivial|rfl
 cases ha<;>simp only[rX]<;>try (exact trivial)
 case ptr b c l hl=>
  cases hb:h1 b with
  |none=>exact trivial
  |some blk=>
   rw[hag b l hl (by rw[hb];simp),hb]
   cases blk with
   |box cells=>exact ok _
   |arr rows rs=>exact trivial
   |row cells=>exact trivial
 case ptr2 b r c l hl=>
  cases hb:h1 b with
  |none=>exact trivial
  |some blk=>
   rw[hag b l hl (by rw[hb];simp),hb]
   cases blk with
   |box cells=>exact trivial
   |arr rows rs=>rfl
   |row cells=>rfl
 case dp=>exact ok _
theorem Tr.of_eq{r1 r2:Res}(he:r2=r1)(hs:isFx r1=false∨r1=.bad):Tr h1 h2 s wr β r1 r2:=by
 subst he;rcases hs with hs|hs
 ·exact Tr.refl_of hs
 ·rw[hs];trivial
theorem blkOf_congr{a:AV}{v:Value}(ha:Rep S w β a v)(hag:Ah β h1 h2):Cx h2 a=Cx h1 a∨Cx h1 a=none∧∃ b lo len clip,a=.osl b lo len clip:=by
 cases ha with
 |osl b lo len clip l A c hl hc hm hcl hA cs e fr hb room=>
  cases hb:h1 b with
  |none=>exact .inr ⟨hb,b,lo,len,clip,rfl⟩
  |some blk=>exact .inl (hag b l hl (by rw[hb];simp))
 |_=>exact .inl rfl
theorem Hv(t:TypeId){a i:AV}{v:Value}(ha:Rep S w β a v)(hag:Ah β h1 h2):Tr h1 h2 s wr β (iP C h1 t a i) (iP C h2 t a i):=by
 have self:isFx (iP C h1 t a i)=false∨iP C h1 t a i=.bad:=by
  unfold iP pB
  repeat' split
  all_goals first|exact .inl rfl|exact .inr rfl
 rcases blkOf_congr ha hag with he|⟨he,b,lo,len,clip,rfl⟩
 ·exact Tr.of_eq (by unfold iP;rw[he]) self
 ·have hbad:iP C h1 t (.osl b lo len clip) i=.bad:=by
   unfold iP;rw[he];unfold pB;split
   ·split
    ·rename_i hq;cases hq
    ·rfl
    ·rfl
   ·split
    ·rename_i hq;cases hq
    ·rename_i hq;cases hq
    ·rename_i hq;cases hq
    ·rfl
   ·rfl
  rw[hbad];trivial
theorem Qq(t:TypeId){a:AV}{lo hi mx:Option AV}{v:Value}(ha:Rep S w β a v)(hag:Ah β h1 h2):Tr h1 h2 s wr β (tS C h1 t a lo hi mx) (tS C h2 t a lo hi mx):=by
 have self:isFx (tS C h1 t a lo hi mx)=false∨tS C h1 t a lo hi mx=.bad:=by
  unfold tS AW
  repeat' split
  all_goals first|exact .inl rfl|exact .inr rfl
 rcases blkOf_congr ha hag with he|⟨he,b,lo',len,clip,rfl⟩
 ·exact Tr.of_eq (by unfold tS;rw[he]) self
 ·have hbad:tS C h1 t (.osl b lo' len clip) lo hi mx=.bad:=by
   unfold tS;rw[he];unfold AW
   repeat' split
   all_goals first|rfl|(simp_all;done)
  rw[hbad];trivial
theorem Tb(src dst:TypeId){a:AV}{v:Value}(ha:Rep S w β a v)(hag:Ah β h1 h2):Tr h1 h2 s wr β (Ev C h1 s src dst a) (Ev C h2 s src dst a):=by
 have cself:isFx (Cw C src dst a)=false∨Cw C src dst a=.bad:=by
  unfold Cw;split<;>first|exact .inl rfl|exact .inr rfl
 unfold Ev;split
 ·split
  ·exact⟨_,rfl,Qp.new _⟩
  ·trivial
 ·split
  ·trivial
  ·split
   ·rename_i rc rows hq hr;obtain⟨e1,e2⟩:=vH ha hag hr;rw[e1,hq];show _=_;simp only[e2]
   ·trivial
 ·exact Tr.of_eq rfl cself
theorem Nl(ts:List TypeId){x y:AV}{vx vy:Value}(hx:Rep S w β x vx)(hy:Rep S w β y vy)(hag:Ah β h1 h2):Tr h1 h2 s true β (bL C h1 s .append ts [x,y]) (bL C h2 s .append ts [x,y]):=by
 simp only[bL];have key:∀ (rx ry:Option (Nat×List (List AV))) (blk:Option Blk) (px py:Prop),(∀ b lo len clip,x=.osl b lo len clip→blk≠none→(∃ l,β b=some l)∧h1 b≠none)→Tr h1 h2 s true β (pQ C s ts x rx ry blk px py h1) (pQ C s ts x rx ry blk px py h2):=by
  intro rx ry blk px py hb;unfold pQ;split
  ·split
   ·split
    ·split
     ·split
      ·exact⟨_,rfl,Qp.new _⟩
      ·split
       ·exact Tr.of_eq rfl (.inl rfl)
       ·exact⟨_,rfl,Qp.new _⟩
      ·trivial
     ·split
      ·exact⟨_,rfl,Qp.new _⟩
      ·trivial
     ·rename_i b lo len _ _ _ _ _ _;split
      ·obtain⟨⟨l,hl⟩,hn⟩:=hb _ _ _ _ rfl (by simp);exact⟨_,rfl,Qp.set_new hl hn _ _⟩
      ·trivial
     ·trivial
    ·trivial
   ·trivial
  ·trivial
 have bad1:∀ (ry:Option (Nat×List (List AV))) (blk:Option Blk) (px py:Prop),pQ C s ts x none ry blk px py h1=.bad:=by
  intro ry blk px py;unfold pQ;split
  ·split
   ·split
    ·split<;>first|rfl|(rename_i h _;cases h;done)|(rename_i h;cases h;done)
    ·rfl
   ·rfl
  ·rfl
 have bad2:∀ (rx:Option (Nat×List (List AV))) (blk:Option Blk) (px py:Prop),pQ C s ts x rx none blk px py h1=.bad:=by
  intro rx blk px py;unfold pQ;split
  ·split
   ·split
    ·split<;>first|rfl|(rename_i h _;cases h;done)|(rename_i h;cases h;done)
    ·rfl
   ·rfl
  ·rfl
 cases hrx:mO h1 x with
 |none=>rw[bad1];trivial
 | some rx=>
  cases hry:mO h1 y with
  |none=>rw[bad2];trivial
  | some ry=>
   obtain⟨e1,e2⟩:=vH hx hag hrx;obtain⟨e3,e4⟩:=vH hy hag hry;have hbk:Cx h2 x=Cx h1 x:=by
    rcases blkOf_congr hx hag with he|⟨he,b,lo,len,clip,rfl⟩
    ·exact he
    ·simp only[Cx]at he;simp only[mO,he]at hrx;cases hrx
   rw[e1,e3,hbk,show wK h2 x=wK h1 x from propext e2,show wK h2 y=wK h1 y from propext e4];refine key _ _ _ _ _ λ b lo len clip hq hne=>?_;subst hq
   cases hx with
   |osl _ _ _ _ l A c hl hc hm hcl hA cs e fr hb' room=>exact⟨⟨l,hl⟩,hne⟩
theorem Tc(ts:List TypeId){x y:AV}{vx vy:Value}(hx:Rep S w β x vx)(hy:Rep S w β y vy)(hag:Ah β h1 h2):Tr h1 h2 s true β (Do C h1 ts x y) (Do C h2 ts x y):=by
 unfold Do;split
 ·trivial
 ·split
  ·split
   ·rename_i ei b lo len clip he
    cases hb:h1 b with
    |none=>simp only;split<;>trivial
    | some blk=>
     cases hx with
     |osl _ _ _ _ l A c hl hc hm hcl hA cs e fr hb' room=>
     have e:=hag b l hl (by rw[hb];simp)
     cases hr:mO h1 y with
     |none=>cases blk<;>trivial
     | some r=>
      obtain⟨e1,e2⟩:=vH hy hag hr;rw[e,hb,e1]
      cases blk with
      |box=>trivial
      |row=>trivial
      |arr rows rs=>
       simp only;split
       ·exact⟨_,by simp only[e2],Qp.set hl (by rw[hb];simp) _⟩
       ·trivial
   ·trivial
  ·trivial
theorem lU(h:AH):∀ (cs:List AV) (i:Nat),(qB h cs)[i]?=(cs[i]?).map (uJ h)
 |[],i=>by simp[qB]
 |c::cs,0=>by simp[qB]
 |c::cs,i+1=>by simp[qB,lU h cs i]
theorem pA(h:AH):∀ (cs:List AV),jH h cs↔∀ (i:Nat) a,cs[i]?=some a→jG h a
 |[]=>⟨λ _ i a h=>by simp at h,λ _=>trivial⟩
 |c::cs=>by
  simp only[jH,pA h cs];refine⟨λ⟨h0,hr⟩ i a hi=>?_,λ H=>⟨H 0 c rfl,λ i a hi=>H (i+1) a (by simpa using hi)⟩⟩
  cases i with
  |zero=>simp at hi;subst hi;exact h0
  |succ i=>exact hr i a (by simpa using hi)
theorem LY{a:AV}{v:Value}(ha:Rep S w β a v):Ah β h1 h2→eM (uJ h1 a)=true→uJ h2 a=uJ h1 a∧(jG h2 a↔jG h1 a):=by
 induction ha with
 | agg cs vs hl h1' h ih=>
  intro hag hc;have hc':fR (qB h1 cs)=true:=hc;have each:∀ (i:Nat) a,cs[i]?=some a→uJ h2 a=uJ h1 a∧(jG h2 a↔jG h1 a):=by
   intro i a hi;have hlt:i<vs.size:=by rw[←hl];exact (Db.1 hi).1
   exact ih i a vs[i] hi (aS hlt) hag (fQ _ hc' i _ (by rw[lU,hi];rfl))
  constructor
  ·show AV.agg (qB h2 cs)=.agg (qB h1 cs);congr 1;apply dQ;intro i;rw[lU,lU]
   cases hi:cs[i]? with
   |none=>rfl
   |some a=>simp only[dH,(each i a hi).1]
  ·show jH h2 cs↔jH h1 cs;rw[pA,pA]
   exact⟨λ H i a hi=>(each i a hi).2.1 (H i a hi),λ H i a hi=>(each i a hi).2.2 (H i a hi)⟩
 | tup cs vs hl h ih=>
  intro hag hc
  cases hq:nL cs with
  |true=>simp[uJ,jG,hq]
  |false=>
  have hc':fR (qB h1 cs)=true:=by simpa only[uJ,hq,eM]using hc
  have each:∀ (i:Nat) a,cs[i]?=some a→uJ h2 a=uJ h1 a∧(jG h2 a↔jG h1 a):=by
   intro i a hi;have hlt:i<vs.size:=by rw[←hl];exact (Db.1 hi).1
   exact ih i a vs[i] hi (aS hlt) hag (fQ _ hc' i _ (by rw[lU,hi];rfl))
  constructor
  ·simp only[uJ,hq];congr 1;apply dQ;intro i;rw[lU,lU]
   cases hi:cs[i]? with
   |none=>rfl
   |some a=>simp only[dH,(each i a hi).1]
  ·simp only[jG,hq];rw[pA,pA]
   exact⟨λ H i a hi=>(each i a hi).2.1 (H i a hi),λ H i a hi=>(each i a hi).2.2 (H i a hi)⟩
 | osl s lo len clip l A c hl hc hm hcl hA cs e fr hb room=>
  intro hag hcl';have hn:h1 s≠none:=by
   intro h0;simp only[uJ,h0,eM]at hcl';cases hcl'
  have e:=hag s l hl hn;simp only[uJ,jG,e]
  exact⟨trivial,trivial⟩
 | ptr s col l hl=>
  intro hag hcl';have hn:h1 s≠none:=by
   intro h0;simp only[uJ,h0,eM]at hcl';cases hcl'
  have e:=hag s l hl hn;simp only[uJ,jG,e]
  exact⟨trivial,trivial⟩
 | clo f first caps vs us hl h hl' h' ih ih'=>
  intro hag hc;simp only[uJ,eM]at hc;split at hc
  ·rename_i hc1;have each:∀ (i:Nat) a,first[i]?=some a→uJ h2 a=uJ h1 a∧(jG h2 a↔jG h1 a):=by
    intro i a hi;have hlt:i<vs.size:=by rw[←hl];exact (Db.1 hi).1
    exact ih i a vs[i] hi (aS hlt) hag (fQ _ hc1 i _ (by rw[lU,hi];rfl))
   have each':∀ (i:Nat) a,caps[i]?=some a→uJ h2 a=uJ h1 a∧(jG h2 a↔jG h1 a):=by
    intro i a hi;have hlt:i<us.size:=by rw[←hl'];exact (Db.1 hi).1
    exact ih' i a us[i] hi (aS hlt) hag (fQ _ hc i _ (by rw[lU,hi];rfl))
   have ext:∀ (cs:List AV),(∀ (i:Nat) a,cs[i]?=some a→uJ h2 a=uJ h1 a∧(jG h2 a↔jG h1 a))→qB h2 cs=qB h1 cs∧(jH h2 cs↔jH h1 cs):=by
    intro cs each;constructor
    ·apply dQ;intro i;rw[lU,lU]
     cases hi:cs[i]? with
     |none=>rfl
     |some a=>simp only[dH,(each i a hi).1]
    ·rw[pA,pA];exact⟨λ H i a hi=>(each i a hi).2.1 (H i a hi),λ H i a hi=>(each i a hi).2.2 (H i a hi)⟩
   obtain⟨p1,p2⟩:=ext first each
   obtain⟨q1,q2⟩:=ext caps each';refine⟨by simp only[uJ,p1,q1],?_⟩;show (jH h2 first∧jH h2 caps)↔(jH h1 first∧jH h1 caps);rw[p2,q2]
  ·cases hc
 |_=>intro _ _;exact⟨rfl,Iff.rfl⟩
theorem LZ{args:List AV}{vs:List Value}(hr:RepL S w β args vs)(hag:Ah β h1 h2)(hc:fR (qB h1 args)=true):qB h2 args=qB h1 args∧(jH h2 args↔jH h1 args):=by
 have each:∀ (i:Nat) a,args[i]?=some a→uJ h2 a=uJ h1 a∧(jG h2 a↔jG h1 a):=by
  intro i a hi;have hlt:i<vs.length:=by rw[←hr.1];exact (Db.1 hi).1
  exact LY (hr.2 i a _ hi (aA hlt)) hag (fQ _ hc i _ (by rw[lU,hi];rfl))
 constructor
 ·apply dQ;intro i;rw[lU,lU]
  cases hi:args[i]? with
  |none=>rfl
  |some a=>simp only[dH,(each i a hi).1]
 ·rw[pA,pA];exact⟨λ H i a hi=>(each i a hi).2.1 (H i a hi),λ H i a hi=>(each i a hi).2.2 (H i a hi)⟩
theorem Qp.refl:Qp h1 h2 s wr β h1 h2:=⟨λ _ h=>h,λ b _ h=>by rcases h with h|h<;>exact absurd rfl h⟩
theorem Hw{ev:Operand→AV}{ρ:Operand→Value}(op:Op)(hev:∀ x∈op.operands,Rep S w β (ev x) (ρ x))(hag:pL op=true→Ah β h1 h2):
  Tr h1 h2 s (mE op) β (opA C ev h1 s op) (opA C ev h2 s op):=by
 have ok:∀ (wr:Bool) (x:Option AV),Tr h1 h2 s wr β (okO x) (okO x):=λ wr x=>by cases x<;>first|trivial|rfl
 cases op<;>simp only[Op.operands]at hev<;>simp only[opA]<;>try (exact trivial)
 case move x=>rfl
 case assign x=>rfl
 case pick c a b=>
  refine Tr.of_eq rfl ?_;unfold Gd;split<;>first|exact .inl rfl|exact .inr rfl
 case alloc t=>split<;>first|trivial|exact⟨_,rfl,Qp.new _⟩
 case box t x=>split<;>first|trivial|exact⟨_,rfl,Qp.new _⟩
 case build t ps=>
  refine Tr.of_eq rfl ?_;have o:∀ x:Option AV,isFx (okO x)=false∨okO x=.bad:=λ x=>by cases x<;>first|exact .inl rfl|exact .inr rfl
  unfold AY
  repeat' split
  all_goals first|exact o _|exact .inr rfl
 case buildSlice t n ps=>
  refine Tr.of_eq rfl ?_
  repeat' split
  all_goals first|exact .inl rfl|exact .inr rfl
 case load t a=>exact Ta t (hev a (by simp)) (hag rfl)
 case store t a x=>
  have hag:=hag rfl;have ha:=hev a (by simp);split
  ·split
   ·generalize ev a=av at ha;generalize ρ a=va at ha;cases ha<;>try (exact trivial)
    case ptr b c l hl=>
     simp only
     cases hb:h1 b with
     |none=>exact trivial
     | some blk=>
      rw[hag b l hl (by rw[hb];simp),hb]
      cases blk with
      |arr=>exact trivial
      |row=>exact trivial
      |box cells=>
       simp only;split
       ·exact⟨_,rfl,Qp.set hl (by rw[hb];simp) _⟩
       ·trivial
    case ptr2 b r c l hl=>
     simp only
     cases hb:h1 b with
     |none=>exact trivial
     | some blk=>
      rw[hag b l hl (by rw[hb];simp),hb]
      cases blk with
      |box cells=>exact trivial
      | arr rows rs=>
       refine⟨_,rfl,λ row h1' hf=>?_⟩;dsimp only at hf⊢;split at hf
       ·rename_i e1 e2;injection hf with hf;subst hf;exact⟨_,by simp only,Qp.set hl (by rw[hb];simp) _⟩
       ·cases hf
      | row cells=>
       refine⟨_,rfl,λ row h1' hf=>?_⟩;dsimp only at hf⊢;split at hf
       ·injection hf with hf;subst hf;exact⟨_,rfl,Qp.set hl (by rw[hb];simp) _⟩
       ·cases hf
   ·trivial
  ·trivial
 case nilCheck x=>
  refine Tr.of_eq rfl ?_;unfold QJ;split<;>first|exact .inl rfl|exact .inr rfl
 case binOp op t x y yt=>
  refine Tr.of_eq rfl ?_;unfold AU QF FZ QE AR Ga
  repeat' split
  all_goals first|exact .inl rfl|exact .inr rfl
 case unOp op t x=>
  refine Tr.of_eq rfl ?_;unfold unA;split<;>first|exact .inl rfl|exact .inr rfl
 case convert src dst x=>exact Tb src dst (hev x (by simp)) (hag rfl)
 case makeFunc fn first caps=>cases fn<;>first|trivial|rfl
 case makeSlice t l c=>
  unfold HG
  repeat' split
  all_goals first|trivial|exact⟨_,rfl,Qp.new _⟩
 case slice t x lo hi mx=>exact Qq t (hev x (by simp)) (hag rfl)
 case fieldAddr t x f=>
  refine Tr.of_eq rfl ?_;unfold nO
  repeat' split
  all_goals first|exact .inl rfl|exact .inr rfl
 case field t x f=>
  have o:∀ x:Option AV,isFx (okO x)=false∨okO x=.bad:=λ x=>by cases x<;>first|exact .inl rfl|exact .inr rfl
  refine Tr.of_eq rfl ?_;unfold yU
  repeat' split
  all_goals first|exact o _|exact .inr rfl
 case indexAddr t x i=>exact Hv t (hev x (by simp)) (hag rfl)
 case index t x i=>
  refine Tr.of_eq rfl ?_;unfold AX
  repeat' split
  all_goals first|exact .inl rfl|exact .inr rfl
 case extract x i=>
  have o:∀ x:Option AV,isFx (okO x)=false∨okO x=.bad:=λ x=>by cases x<;>first|exact .inl rfl|exact .inr rfl
  refine Tr.of_eq rfl ?_;unfold qY;split<;>first|exact o _|exact .inr rfl
 case call c=>
  obtain⟨callee,args,ats⟩:=c
  cases callee with
  |value f=>
   simp only
   split<;>first|rfl|trivial
  |invoke r m=>trivial
  | builtin b=>
   simp only[Call.operands,Array.empty_append]at hev;have two:∀ (x y:AV),args.toList.map ev=[x,y]→∃ v u,Rep S w β x v∧Rep S w β y u:=by
    intro x y hx;have hargs:RepL S w β (args.toList.map ev) (args.toList.map ρ):=RepL.of_map _ λ x hx=>hev x (by simpa using hx);rw[hx]at hargs;have hl:args.toList.length=2:=by simpa using hargs.1.symm
    match hq:args.toList,hl with
    |[a,b],_=>exact⟨ρ a,ρ b,hargs.2 0 x (ρ a) rfl (by simp[hq]),hargs.2 1 y (ρ b) rfl (by simp[hq])⟩
   simp only;cases b<;>try (simp only[bL];exact trivial)
   case append=>
    match hA:args.toList.map ev with
    |[]=>simp only[bL];exact trivial
    |[_]=>simp only[bL];exact trivial
    |_::_::_::_=>simp only[bL];exact trivial
    |[x,y]=>
     obtain⟨v,u,hx,hy⟩:=two x y hA;exact Nl ats.toList hx hy (hag rfl)
   case copy=>
    match hA:args.toList.map ev with
    |[]=>simp only[bL];exact trivial
    |[_]=>simp only[bL];exact trivial
    |_::_::_::_=>simp only[bL];exact trivial
    |[x,y]=>
     obtain⟨v,u,hx,hy⟩:=two x y hA;simp only[bL];exact Tc ats.toList hx hy (hag rfl)
   case len=>
    match hA:args.toList.map ev with
    |[]=>simp only[bL];exact trivial
    |_::_::_=>simp only[bL];exact trivial
    | [x]=>
     match hT:ats.toList with
     |[]=>simp only[bL];exact trivial
     |_::_::_=>simp only[bL];exact trivial
     |[t]=>
      simp only[bL];refine Tr.of_eq rfl ?_;unfold QG;split<;>first|exact .inl rfl|exact .inr rfl
   case min=>
    match hA:args.toList.map ev with
    |[]=>simp only[bL];exact trivial
    |[_]=>simp only[bL];exact trivial
    |_::_::_::_=>simp only[bL];exact trivial
    |[x,y]=>
     simp only[bL];refine Tr.of_eq rfl ?_;unfold QH
     repeat' split
     all_goals first|exact .inl rfl|exact .inr rfl
   case max=>
    match hA:args.toList.map ev with
    |[]=>simp only[bL];exact trivial
    |[_]=>simp only[bL];exact trivial
    |_::_::_::_=>simp only[bL];exact trivial
    |[x,y]=>
     simp only[bL];refine Tr.of_eq rfl ?_;unfold QI
     repeat' split
     all_goals first|exact .inl rfl|exact .inr rfl
theorem Ma{ev:Operand→AV}(op:Op)(hc:∀ c:Call,op≠ .call c){f:FuncId}{args:List AV}:opA C ev h1 s op≠ .call f args:=by
  intro h;have o:∀ x:Option AV,okO x≠ .call f args:=λ x hx=>by cases x<;>simp[okO]at hx
  cases op<;>simp only[opA]at h
  case call c=>exact hc c rfl
  case makeFunc fn first caps=>cases fn<;>cases h
  all_goals first
    | (simp only[Gd,zW,AY,rX,QJ,unA,AU,QF,FZ,QE,AR,Ga,Ev,Cw,HG,tS,AW,nO,yU,iP,pB,AX,qY]at h
       (repeat' split at h)<;>first|(cases h;done)|(exact o _ h))
    |((repeat' split at h)<;>first|(cases h;done)|(exact o _ h))
    |(cases h;done)
theorem Qr{ev:Operand→AV}{ρ:Operand→Value}(op:Op)(hev:∀ x∈op.operands,Rep S w β (ev x) (ρ x)){f:FuncId}{args:List AV}(hc:opA C ev h1 s op=.call f args):pL op=true∧∃ vs,RepL S w β args vs:=by
 by_cases h:∃ c:Call,op=.call c
 ·obtain⟨c,rfl⟩:=h;refine⟨rfl,?_⟩;obtain⟨callee,as_,ats⟩:=c;simp only[Op.operands]at hev
  cases callee with
  |invoke r m=>simp only[opA]at hc;cases hc
  | value g=>
   simp only[opA]at hc;split at hc
   ·rename_i g' first caps he
    injection hc with q1 q2;subst q2;have hf:=hev g (by simp[Call.operands]);rw[he]at hf;generalize ρ g=v at hf
    cases hf with
    |clo _ _ _ vs us hl hr hl' hr'=>
    exact⟨vs.toList++as_.toList.map ρ++us.toList,RepL.append (RepL.append ⟨by simpa using hl,λ i a u p q=>hr i a u p (by simpa using q)⟩ (RepL.of_map _ λ x hx=>hev x (by simp[Call.operands];exact .inr (by simpa using hx)))) ⟨by simpa using hl',λ i a u p q=>hr' i a u p (by simpa using q)⟩⟩
   ·cases hc
  |builtin b=>
   simp only[opA]at hc;exfalso;unfold bL at hc;simp only[QG,QH,QI,Do,pQ]at hc
   (repeat' split at hc)<;>cases hc
 ·exact absurd hc (Ma op λ c hc=>h ⟨c,hc⟩)
theorem zP{R:FuncId→List AV→AV→Prop}{ev:Operand→AV}{ρ:Operand→Value}(op:Op)(hev:∀ x∈op.operands,Rep S w β (ev x) (ρ x))(hag:pL op=true→Ah β h1 h2){x:AV}{h1':AH}(hn:NodeR C R h1 (opA C ev h1 s op) x h1'):
  ∃ h2',NodeR C R h2 (opA C ev h2 s op) x h2'∧Qp h1 h2 s (mE op) β h1' h2':=by
 have T:=Hw (C:=C) (s:=s) op hev hag
 cases hr:opA C ev h1 s op with
 |bad=>rw[hr]at hn;exact hn.elim
 |ok y=>rw[hr]at hn T;obtain⟨rfl,rfl⟩:=hn;exact⟨h2,by rw[show opA C ev h2 s op=.ok x from T];exact⟨rfl,rfl⟩,Qp.refl⟩
 |need p y=>rw[hr]at hn T;obtain⟨hp,rfl,rfl⟩:=hn;exact⟨h2,by rw[show opA C ev h2 s op=.need p x from T];exact⟨hp,rfl,rfl⟩,Qp.refl⟩
 |idx rows i f=>rw[hr]at hn T;obtain⟨row,h0,h3,h4,rfl⟩:=hn;exact⟨h2,by rw[show opA C ev h2 s op=.idx rows i f from T];exact⟨row,h0,h3,h4,rfl⟩,Qp.refl⟩
 |fx p y k=>rw[hr]at hn T;obtain⟨hp,rfl,rfl⟩:=hn;obtain⟨h2',e1,e2⟩:=T;exact⟨h2',by rw[e1];exact⟨hp,rfl,rfl⟩,e2⟩
 |idxfx rows i f=>rw[hr]at hn T;obtain⟨row,h0,h3,h4,rfl⟩:=hn;obtain⟨f2,e1,e2⟩:=T;obtain⟨h2',e3,e4⟩:=e2 row h1' h4;exact⟨h2',by rw[e1];exact⟨row,h0,h3,e3,rfl⟩,e4⟩
 |str p rows=>rw[hr]at hn T;obtain⟨l,hp,h3,rfl,rfl⟩:=hn;exact⟨h2,by rw[show opA C ev h2 s op=.str p rows from T];exact⟨l,hp,h3,rfl,rfl⟩,Qp.refl⟩
 |call f args=>
  rw[hr]at hn T;obtain⟨c1,c2,c3,c4,rfl⟩:=hn;obtain⟨hrd,vs,hargs⟩:=Qr (C:=C) (s:=s) op hev hr;obtain⟨e1,e2⟩:=LZ hargs (hag hrd) c1;refine⟨h2,?_,Qp.refl⟩;rw[show opA C ev h2 s op=.call f args from T];exact⟨by rw[e1];exact c1,c2.imp id (λ h=>⟨h.1,e2.2 h.2⟩),c3,by rw[e1];exact c4,rfl⟩
end
end Go.Proofs.YtlhofpglndhfaaaGreatDoor
