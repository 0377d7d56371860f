/- Joined texts. -/
import Derived.Test.YtlhofpglndhfaaaGreatDoorS1
import Derived.Test.YtlhofpglndhfaaaGreatDoorS28
namespace Go.Proofs.YtlhofpglndhfaaaGreatDoor
open Go.RowKit
def Lf(h1 h2:AH)(s:Nat)(wr:Bool)(β:Bt)(h1' h2':AH):Prop:=
 (∀ b,h2 b=h1 b→h2' b=h1' b)∧∀ b,b≠s→(h1' b≠h1 b∨h2' b≠h2 b)→wr=true∧h1 b≠none∧∃ l,β b=some l
def Tr(h1 h2:AH)(s:Nat)(wr:Bool)(β:Bt)(r1 r2:Res):Prop:=
 match r1 with
 | .bad=>True
 | .fx p x h1'=>∃ h2',r2=.fx p x h2'∧Lf h1 h2 s wr β h1' h2'
 | .idxfx rows i f=>∃ f2,r2=.idxfx rows i f2∧∀ row h1',f row=some h1'→∃ h2',f2 row=some h2'∧Lf h1 h2 s wr β h1' h2'
 |r=>r2=r
section
variable {C:Ctx}{h1 h2:AH}{s:Nat}{wr:Bool}{β:Bt}{S:Nat→Prop}{w:World}
theorem Tr.refl_of{r:Res}(hr:isFx r=false):Tr h1 h2 s wr β r r:=by
 cases r<;>first|rfl|(simp[isFx]at hr)
theorem Lf.new(blk:Option Blk):Lf h1 h2 s wr β (upd h1 s blk) (upd h2 s blk):=by
 refine⟨λ b hb=>?_,λ b hb h=>?_⟩
 ·by_cases he:b=s
  ·subst he;rw[bG,bG]
  ·rw[aU _ _ he,aU _ _ he];exact hb
 ·rw[aU _ _ hb,aU _ _ hb]at h;rcases h with h|h<;>exact absurd rfl h
theorem Lf.set{b0:Nat}{l:Loc}(hl:β b0=some l)(hn:h1 b0≠none)(blk:Option Blk):Lf h1 h2 s true β (upd h1 b0 blk) (upd h2 b0 blk):=by
 refine⟨λ b hb=>?_,λ b hb h=>?_⟩
 ·by_cases he:b=b0
  ·subst he;rw[bG,bG]
  ·rw[aU _ _ he,aU _ _ he];exact hb
 ·by_cases he:b=b0
  ·subst he;exact⟨rfl,hn,l,hl⟩
  ·rw[aU _ _ he,aU _ _ he]at h;rcases h with h|h<;>exact absurd rfl h
theorem Lf.set_new{b0:Nat}{l:Loc}(hl:β b0=some l)(hn:h1 b0≠none)(blk blk':Option Blk):Lf h1 h2 s true β (upd (upd h1 b0 blk') s blk) (upd (upd h2 b0 blk') s blk):=by
 refine⟨λ b hb=>?_,λ b hb h=>?_⟩
 ·by_cases he:b=s
  ·subst he;rw[bG,bG]
  ·rw[aU _ _ he,aU _ _ he];by_cases he:b=b0
   ·subst he;rw[bG,bG]
   ·rw[aU _ _ he,aU _ _ he];exact hb
 ·rw[aU _ _ hb,aU _ _ hb]at h;by_cases he:b=b0
  ·subst he;exact⟨rfl,hn,l,hl⟩
  ·rw[aU _ _ he,aU _ _ he]at h;rcases h with h|h<;>exact absurd rfl h
def sM(β:Bt)(h1 h2:AH):Prop:=∀ b l,β b=some l→h1 b≠none→h2 b=h1 b
theorem nD{a:AV}{v:Value}(ha:Rep S w β a v)(hag:sM β h1 h2){r:Nat×List (List AV)}(hr:fJ h1 a=some r):fJ h2 a=some r∧(oM h2 a↔oM h1 a):=by
 cases ha with
 | osl s lo len clip l A c hl hc hm hcl hA cs e fr hb room=>
  have hn:h1 s≠none:=by
   intro h0;simp only[fJ,h0]at hr;cases hr
  have e:=hag s l hl hn;simp only[fJ,e]at hr⊢
  exact⟨hr,by simp only[oM,e]⟩
 |v=>exact⟨by cases v<;>exact hr,Iff.rfl⟩
 |_=>exact⟨hr,Iff.rfl⟩
theorem NH(t:TypeId){a:AV}{v:Value}(ha:Rep S w β a v)(hag:sM β h1 h2):Tr h1 h2 s wr β (jZ C h1 t a) (jZ C h2 t a):=by
 have ok:∀ x:Option AV,Tr h1 h2 s wr β (okO x) (okO x):=λ x=>by cases x<;>first|trivial|rfl
 cases ha<;>simp only[jZ]<;>try (exact trivial)
 case ptr b c l hl=>
  cases hb:h1 b with
  |none=>exact trivial
  |some blk=>
   rw[hag b l hl (by rw[hb];simp),hb]
   cases blk with
   |box cells=>exact ok _
   |arr rows rs=>exact trivial
   |row cells=>exact trivial
 case ptr2 b r c l hl=>
  cases hb:h1 b with
  |none=>exact trivial
  |some blk=>
   rw[hag b l hl (by rw[hb];simp),hb]
   cases blk with
   |box cells=>exact trivial
   |arr rows rs=>rfl
   |row cells=>rfl
 case dp=>exact ok _
theorem Tr.of_eq{r1 r2:Res}(he:r2=r1)(hs:isFx r1=false∨r1=.bad):Tr h1 h2 s wr β r1 r2:=by
 subst he;rcases hs with hs|hs
 ·exact Tr.refl_of hs
 ·rw[hs];trivial
theorem blkOf_congr{a:AV}{v:Value}(ha:Rep S w β a v)(hag:sM β h1 h2):wO h2 a=wO h1 a∨wO h1 a=none∧∃ b lo len clip,a=.osl b lo len clip:=by
 cases ha with
 |osl b lo len clip l A c hl hc hm hcl hA cs e fr hb room=>
  cases hb:h1 b with
  |none=>exact .inr ⟨hb,b,lo,len,clip,rfl⟩
  |some blk=>exact .inl (hag b l hl (by rw[hb];simp))
 |_=>exact .inl rfl
theorem CY(t:TypeId){a i:AV}{v:Value}(ha:Rep S w β a v)(hag:sM β h1 h2):Tr h1 h2 s wr β (dJ C h1 t a i) (dJ C h2 t a i):=by
 have self:isFx (dJ C h1 t a i)=false∨dJ C h1 t a i=.bad:=by
  unfold dJ iB
  repeat' split
  all_goals first|exact .inl rfl|exact .inr rfl
 rcases blkOf_congr ha hag with he|⟨he,b,lo,len,clip,rfl⟩
 ·exact Tr.of_eq (by unfold dJ;rw[he]) self
 ·have hbad:dJ C h1 t (.osl b lo len clip) i=.bad:=by
   unfold dJ;rw[he];unfold iB;split
   ·split
    ·rename_i hq;cases hq
    ·rfl
    ·rfl
   ·split
    ·rename_i hq;cases hq
    ·rename_i hq;cases hq
    ·rename_i hq;cases hq
    ·rfl
   ·rfl
  rw[hbad];trivial
theorem Lg(t:TypeId){a:AV}{lo hi mx:Option AV}{v:Value}(ha:Rep S w β a v)(hag:sM β h1 h2):Tr h1 h2 s wr β (lL C h1 t a lo hi mx) (lL C h2 t a lo hi mx):=by
 have self:isFx (lL C h1 t a lo hi mx)=false∨lL C h1 t a lo hi mx=.bad:=by
  unfold lL tW
  repeat' split
  all_goals first|exact .inl rfl|exact .inr rfl
 rcases blkOf_congr ha hag with he|⟨he,b,lo',len,clip,rfl⟩
 ·exact Tr.of_eq (by unfold lL;rw[he]) self
 ·have hbad:lL C h1 t (.osl b lo' len clip) lo hi mx=.bad:=by
   unfold lL;rw[he];unfold tW
   repeat' split
   all_goals first|rfl|(simp_all;done)
  rw[hbad];trivial
theorem NI(src dst:TypeId){a:AV}{v:Value}(ha:Rep S w β a v)(hag:sM β h1 h2):Tr h1 h2 s wr β (Ad C h1 s src dst a) (Ad C h2 s src dst a):=by
 have cself:isFx (wN C src dst a)=false∨wN C src dst a=.bad:=by
  unfold wN;split<;>first|exact .inl rfl|exact .inr rfl
 unfold Ad;split
 ·split
  ·exact⟨_,rfl,Lf.new _⟩
  ·trivial
 ·split
  ·trivial
  ·split
   ·rename_i rc rows hq hr;obtain⟨e1,e2⟩:=nD ha hag hr;rw[e1,hq];show _=_;simp only[e2]
   ·trivial
 ·exact Tr.of_eq rfl cself
theorem Il(ts:List TypeId){x y:AV}{vx vy:Value}(hx:Rep S w β x vx)(hy:Rep S w β y vy)(hag:sM β h1 h2):Tr h1 h2 s true β (aJ C h1 s .append ts [x,y]) (aJ C h2 s .append ts [x,y]):=by
 simp only[aJ];have key:∀ (rx ry:Option (Nat×List (List AV))) (blk:Option Blk) (px py:Prop),(∀ b lo len clip,x=.osl b lo len clip→blk≠none→(∃ l,β b=some l)∧h1 b≠none)→Tr h1 h2 s true β (iL C s ts x rx ry blk px py h1) (iL C s ts x rx ry blk px py h2):=by
  intro rx ry blk px py hb;unfold iL;split
  ·split
   ·split
    ·split
     ·split
      ·exact⟨_,rfl,Lf.new _⟩
      ·split
       ·exact Tr.of_eq rfl (.inl rfl)
       ·exact⟨_,rfl,Lf.new _⟩
      ·trivial
     ·split
      ·exact⟨_,rfl,Lf.new _⟩
      ·trivial
     ·rename_i b lo len _ _ _ _ _ _;split
      ·obtain⟨⟨l,hl⟩,hn⟩:=hb _ _ _ _ rfl (by simp);exact⟨_,rfl,Lf.set_new hl hn _ _⟩
      ·trivial
     ·trivial
    ·trivial
   ·trivial
  ·trivial
 have bad1:∀ (ry:Option (Nat×List (List AV))) (blk:Option Blk) (px py:Prop),iL C s ts x none ry blk px py h1=.bad:=by
  intro ry blk px py;unfold iL;split
  ·split
   ·split
    ·split<;>first|rfl|(rename_i h _;cases h;done)|(rename_i h;cases h;done)
    ·rfl
   ·rfl
  ·rfl
 have bad2:∀ (rx:Option (Nat×List (List AV))) (blk:Option Blk) (px py:Prop),iL C s ts x rx none blk px py h1=.bad:=by
  intro rx blk px py;unfold iL;split
  ·split
   ·split
    ·split<;>first|rfl|(rename_i h _;cases h;done)|(rename_i h;cases h;done)
    ·rfl
   ·rfl
  ·rfl
 cases hrx:fJ h1 x with
 |none=>rw[bad1];trivial
 | some rx=>
  cases hry:fJ h1 y with
  |none=>rw[bad2];trivial
  | some ry=>
   obtain⟨e1,e2⟩:=nD hx hag hrx;obtain⟨e3,e4⟩:=nD hy hag hry;have hbk:wO h2 x=wO h1 x:=by
    rcases blkOf_congr hx hag with he|⟨he,b,lo,len,clip,rfl⟩
    ·exact he
    ·simp only[wO]at he;simp only[fJ,he]at hrx;cases hrx
   rw[e1,e3,hbk,show oM h2 x=oM h1 x from propext e2,show oM h2 y=oM h1 y from propext e4];refine key _ _ _ _ _ λ b lo len clip hq hne=>?_;subst hq
   cases hx with
   |osl _ _ _ _ l A c hl hc hm hcl hA cs e fr hb' room=>exact⟨⟨l,hl⟩,hne⟩
theorem NJ(ts:List TypeId){x y:AV}{vx vy:Value}(hx:Rep S w β x vx)(hy:Rep S w β y vy)(hag:sM β h1 h2):Tr h1 h2 s true β (yB C h1 ts x y) (yB C h2 ts x y):=by
 unfold yB;split
 ·trivial
 ·split
  ·split
   ·rename_i ei b lo len clip he
    cases hb:h1 b with
    |none=>simp only;split<;>trivial
    | some blk=>
     cases hx with
     |osl _ _ _ _ l A c hl hc hm hcl hA cs e fr hb' room=>
     have e:=hag b l hl (by rw[hb];simp)
     cases hr:fJ h1 y with
     |none=>cases blk<;>trivial
     | some r=>
      obtain⟨e1,e2⟩:=nD hy hag hr;rw[e,hb,e1]
      cases blk with
      |box=>trivial
      |row=>trivial
      |arr rows rs=>
       simp only;split
       ·exact⟨_,by simp only[e2],Lf.set hl (by rw[hb];simp) _⟩
       ·trivial
   ·trivial
  ·trivial
theorem eY(h:AH):∀ (cs:List AV) (i:Nat),(jK h cs)[i]?=(cs[i]?).map (mX h)
 |[],i=>by simp[jK]
 |c::cs,0=>by simp[jK]
 |c::cs,i+1=>by simp[jK,eY h cs i]
theorem iA(h:AH):∀ (cs:List AV),dY h cs↔∀ (i:Nat) a,cs[i]?=some a→dX h a
 |[]=>⟨λ _ i a h=>by simp at h,λ _=>trivial⟩
 |c::cs=>by
  simp only[dY,iA h cs];refine⟨λ⟨h0,hr⟩ i a hi=>?_,λ H=>⟨H 0 c rfl,λ i a hi=>H (i+1) a (by simpa using hi)⟩⟩
  cases i with
  |zero=>simp at hi;subst hi;exact h0
  |succ i=>exact hr i a (by simpa using hi)
theorem GS{a:AV}{v:Value}(ha:Rep S w β a v):sM β h1 h2→cA (mX h1 a)=true→mX h2 a=mX h1 a∧(dX h2 a↔dX h1 a):=by
 induction ha with
 | agg cs vs hl h1' h ih=>
  intro hag hc;have hc':cO (jK h1 cs)=true:=hc;have each:∀ (i:Nat) a,cs[i]?=some a→mX h2 a=mX h1 a∧(dX h2 a↔dX h1 a):=by
   intro i a hi;have hlt:i<vs.size:=by rw[←hl];exact (WB.1 hi).1
   exact ih i a vs[i] hi (Th hlt) hag (cI _ hc' i _ (by rw[eY,hi];rfl))
  constructor
  ·show AV.agg (jK h2 cs)=.agg (jK h1 cs);congr 1;apply Ua;intro i;rw[eY,eY]
   cases hi:cs[i]? with
   |none=>rfl
   |some a=>simp only[TV,(each i a hi).1]
  ·show dY h2 cs↔dY h1 cs;rw[iA,iA]
   exact⟨λ H i a hi=>(each i a hi).2.1 (H i a hi),λ H i a hi=>(each i a hi).2.2 (H i a hi)⟩
 | tup cs vs hl h ih=>
  intro hag hc
  cases hq:gP cs with
  |true=>simp[mX,dX,hq]
  |false=>
  have hc':cO (jK h1 cs)=true:=by simpa only[mX,hq,cA]using hc
  have each:∀ (i:Nat) a,cs[i]?=some a→mX h2 a=mX h1 a∧(dX h2 a↔dX h1 a):=by
   intro i a hi;have hlt:i<vs.size:=by rw[←hl];exact (WB.1 hi).1
   exact ih i a vs[i] hi (Th hlt) hag (cI _ hc' i _ (by rw[eY,hi];rfl))
  constructor
  ·simp only[mX,hq];congr 1;apply Ua;intro i;rw[eY,eY]
   cases hi:cs[i]? with
   |none=>rfl
   |some a=>simp only[TV,(each i a hi).1]
  ·simp only[dX,hq];rw[iA,iA]
   exact⟨λ H i a hi=>(each i a hi).2.1 (H i a hi),λ H i a hi=>(each i a hi).2.2 (H i a hi)⟩
 | osl s lo len clip l A c hl hc hm hcl hA cs e fr hb room=>
  intro hag hcl';have hn:h1 s≠none:=by
   intro h0;simp only[mX,h0,cA]at hcl';cases hcl'
  have e:=hag s l hl hn;simp only[mX,dX,e]
  exact⟨trivial,trivial⟩
 | ptr s col l hl=>
  intro hag hcl';have hn:h1 s≠none:=by
   intro h0;simp only[mX,h0,cA]at hcl';cases hcl'
  have e:=hag s l hl hn;simp only[mX,dX,e]
  exact⟨trivial,trivial⟩
 | clo f first caps vs us hl h hl' h' ih ih'=>
  intro hag hc;simp only[mX,cA]at hc;split at hc
  ·rename_i hc1;have each:∀ (i:Nat) a,first[i]?=some a→mX h2 a=mX h1 a∧(dX h2 a↔dX h1 a):=by
    intro i a hi;have hlt:i<vs.size:=by rw[←hl];exact (WB.1 hi).1
    exact ih i a vs[i] hi (Th hlt) hag (cI _ hc1 i _ (by rw[eY,hi];rfl))
   have each':∀ (i:Nat) a,caps[i]?=some a→mX h2 a=mX h1 a∧(dX h2 a↔dX h1 a):=by
    intro i a hi;have hlt:i<us.size:=by rw[←hl'];exact (WB.1 hi).1
    exact ih' i a us[i] hi (Th hlt) hag (cI _ hc i _ (by rw[eY,hi];rfl))
   have ext:∀ (cs:List AV),(∀ (i:Nat) a,cs[i]?=some a→mX h2 a=mX h1 a∧(dX h2 a↔dX h1 a))→jK h2 cs=jK h1 cs∧(dY h2 cs↔dY h1 cs):=by
    intro cs each;constructor
    ·apply Ua;intro i;rw[eY,eY]
     cases hi:cs[i]? with
     |none=>rfl
     |some a=>simp only[TV,(each i a hi).1]
    ·rw[iA,iA];exact⟨λ H i a hi=>(each i a hi).2.1 (H i a hi),λ H i a hi=>(each i a hi).2.2 (H i a hi)⟩
   obtain⟨p1,p2⟩:=ext first each
   obtain⟨q1,q2⟩:=ext caps each';refine⟨by simp only[mX,p1,q1],?_⟩;show (dY h2 first∧dY h2 caps)↔(dY h1 first∧dY h1 caps);rw[p2,q2]
  ·cases hc
 |_=>intro _ _;exact⟨rfl,Iff.rfl⟩
theorem GU{args:List AV}{vs:List Value}(hr:RepL S w β args vs)(hag:sM β h1 h2)(hc:cO (jK h1 args)=true):jK h2 args=jK h1 args∧(dY h2 args↔dY h1 args):=by
 have each:∀ (i:Nat) a,args[i]?=some a→mX h2 a=mX h1 a∧(dX h2 a↔dX h1 a):=by
  intro i a hi;have hlt:i<vs.length:=by rw[←hr.1];exact (WB.1 hi).1
  exact GS (hr.2 i a _ hi (SS hlt)) hag (cI _ hc i _ (by rw[eY,hi];rfl))
 constructor
 ·apply Ua;intro i;rw[eY,eY]
  cases hi:args[i]? with
  |none=>rfl
  |some a=>simp only[TV,(each i a hi).1]
 ·rw[iA,iA];exact⟨λ H i a hi=>(each i a hi).2.1 (H i a hi),λ H i a hi=>(each i a hi).2.2 (H i a hi)⟩
theorem Lf.refl:Lf h1 h2 s wr β h1 h2:=⟨λ _ h=>h,λ b _ h=>by rcases h with h|h<;>exact absurd rfl h⟩
theorem CZ{ev:Operand→AV}{ρ:Operand→Value}(op:Op)(hev:∀ x∈op.operands,Rep S w β (ev x) (ρ x))(hag:iF op=true→sM β h1 h2):
  Tr h1 h2 s (fE op) β (opA C ev h1 s op) (opA C ev h2 s op):=by
 have ok:∀ (wr:Bool) (x:Option AV),Tr h1 h2 s wr β (okO x) (okO x):=λ wr x=>by cases x<;>first|trivial|rfl
 cases op<;>simp only[Op.operands]at hev<;>simp only[opA]<;>try (exact trivial)
 case move x=>rfl
 case assign x=>rfl
 case pick c a b=>
  refine Tr.of_eq rfl ?_;unfold BL;split<;>first|exact .inl rfl|exact .inr rfl
 case alloc t=>split<;>first|trivial|exact⟨_,rfl,Lf.new _⟩
 case box t x=>split<;>first|trivial|exact⟨_,rfl,Lf.new _⟩
 case build t ps=>
  refine Tr.of_eq rfl ?_;have o:∀ x:Option AV,isFx (okO x)=false∨okO x=.bad:=λ x=>by cases x<;>first|exact .inl rfl|exact .inr rfl
  unfold tZ
  repeat' split
  all_goals first|exact o _|exact .inr rfl
 case buildSlice t n ps=>
  refine Tr.of_eq rfl ?_
  repeat' split
  all_goals first|exact .inl rfl|exact .inr rfl
 case load t a=>exact NH t (hev a (by simp)) (hag rfl)
 case store t a x=>
  have hag:=hag rfl;have ha:=hev a (by simp);split
  ·split
   ·generalize ev a=av at ha;generalize ρ a=va at ha;cases ha<;>try (exact trivial)
    case ptr b c l hl=>
     simp only
     cases hb:h1 b with
     |none=>exact trivial
     | some blk=>
      rw[hag b l hl (by rw[hb];simp),hb]
      cases blk with
      |arr=>exact trivial
      |row=>exact trivial
      |box cells=>
       simp only;split
       ·exact⟨_,rfl,Lf.set hl (by rw[hb];simp) _⟩
       ·trivial
    case ptr2 b r c l hl=>
     simp only
     cases hb:h1 b with
     |none=>exact trivial
     | some blk=>
      rw[hag b l hl (by rw[hb];simp),hb]
      cases blk with
      |box cells=>exact trivial
      | arr rows rs=>
       refine⟨_,rfl,λ row h1' hf=>?_⟩;dsimp only at hf⊢;split at hf
       ·rename_i e1 e2;injection hf with hf;subst hf;exact⟨_,by simp only,Lf.set hl (by rw[hb];simp) _⟩
       ·cases hf
      | row cells=>
       refine⟨_,rfl,λ row h1' hf=>?_⟩;dsimp only at hf⊢;split at hf
       ·injection hf with hf;subst hf;exact⟨_,rfl,Lf.set hl (by rw[hb];simp) _⟩
       ·cases hf
   ·trivial
  ·trivial
 case nilCheck x=>
  refine Tr.of_eq rfl ?_;unfold Lz;split<;>first|exact .inl rfl|exact .inr rfl
 case binOp op t x y yt=>
  refine Tr.of_eq rfl ?_;unfold tV Lv BH Lu tU BI
  repeat' split
  all_goals first|exact .inl rfl|exact .inr rfl
 case unOp op t x=>
  refine Tr.of_eq rfl ?_;unfold unA;split<;>first|exact .inl rfl|exact .inr rfl
 case convert src dst x=>exact NI src dst (hev x (by simp)) (hag rfl)
 case makeFunc fn first caps=>cases fn<;>first|trivial|rfl
 case makeSlice t l c=>
  unfold Dh
  repeat' split
  all_goals first|trivial|exact⟨_,rfl,Lf.new _⟩
 case slice t x lo hi mx=>exact Lg t (hev x (by simp)) (hag rfl)
 case fieldAddr t x f=>
  refine Tr.of_eq rfl ?_;unfold gA
  repeat' split
  all_goals first|exact .inl rfl|exact .inr rfl
 case field t x f=>
  have o:∀ x:Option AV,isFx (okO x)=false∨okO x=.bad:=λ x=>by cases x<;>first|exact .inl rfl|exact .inr rfl
  refine Tr.of_eq rfl ?_;unfold qT
  repeat' split
  all_goals first|exact o _|exact .inr rfl
 case indexAddr t x i=>exact CY t (hev x (by simp)) (hag rfl)
 case index t x i=>
  refine Tr.of_eq rfl ?_;unfold tY
  repeat' split
  all_goals first|exact .inl rfl|exact .inr rfl
 case extract x i=>
  have o:∀ x:Option AV,isFx (okO x)=false∨okO x=.bad:=λ x=>by cases x<;>first|exact .inl rfl|exact .inr rfl
  refine Tr.of_eq rfl ?_;unfold jJ;split<;>first|exact o _|exact .inr rfl
 case call c=>
  obtain⟨callee,args,ats⟩:=c
  cases callee with
  |value f=>
   simp only
   split<;>first|rfl|trivial
  |invoke r m=>trivial
  | builtin b=>
   simp only[Call.operands,Array.empty_append]at hev;have two:∀ (x y:AV),args.toList.map ev=[x,y]→∃ v u,Rep S w β x v∧Rep S w β y u:=by
    intro x y hx;have hargs:RepL S w β (args.toList.map ev) (args.toList.map ρ):=RepL.of_map _ λ x hx=>hev x (by simpa using hx);rw[hx]at hargs;have hl:args.toList.length=2:=by simpa using hargs.1.symm
    match hq:args.toList,hl with
    |[a,b],_=>exact⟨ρ a,ρ b,hargs.2 0 x (ρ a) rfl (by simp[hq]),hargs.2 1 y (ρ b) rfl (by simp[hq])⟩
   simp only;cases b<;>try (simp only[aJ];exact trivial)
   case append=>
    match hA:args.toList.map ev with
    |[]=>simp only[aJ];exact trivial
    |[_]=>simp only[aJ];exact trivial
    |_::_::_::_=>simp only[aJ];exact trivial
    |[x,y]=>
     obtain⟨v,u,hx,hy⟩:=two x y hA;exact Il ats.toList hx hy (hag rfl)
   case copy=>
    match hA:args.toList.map ev with
    |[]=>simp only[aJ];exact trivial
    |[_]=>simp only[aJ];exact trivial
    |_::_::_::_=>simp only[aJ];exact trivial
    |[x,y]=>
     obtain⟨v,u,hx,hy⟩:=two x y hA;simp only[aJ];exact NJ ats.toList hx hy (hag rfl)
   case len=>
    match hA:args.toList.map ev with
    |[]=>simp only[aJ];exact trivial
    |_::_::_=>simp only[aJ];exact trivial
    | [x]=>
     match hT:ats.toList with
     |[]=>simp only[aJ];exact trivial
     |_::_::_=>simp only[aJ];exact trivial
     |[t]=>
      simp only[aJ];refine Tr.of_eq rfl ?_;unfold Lw;split<;>first|exact .inl rfl|exact .inr rfl
   case min=>
    match hA:args.toList.map ev with
    |[]=>simp only[aJ];exact trivial
    |[_]=>simp only[aJ];exact trivial
    |_::_::_::_=>simp only[aJ];exact trivial
    |[x,y]=>
     simp only[aJ];refine Tr.of_eq rfl ?_;unfold Lx
     repeat' split
     all_goals first|exact .inl rfl|exact .inr rfl
   case max=>
    match hA:args.toList.map ev with
    |[]=>simp only[aJ];exact trivial
    |[_]=>simp only[aJ];exact trivial
    |_::_::_::_=>simp only[aJ];exact trivial
    |[x,y]=>
     simp only[aJ];refine Tr.of_eq rfl ?_;unfold Ly
     repeat' split
     all_goals first|exact .inl rfl|exact .inr rfl
theorem GV{ev:Operand→AV}(op:Op)(hc:∀ c:Call,op≠ .call c){f:FuncId}{args:List AV}:opA C ev h1 s op≠ .call f args:=by
  intro h;have o:∀ x:Option AV,okO x≠ .call f args:=λ x hx=>by cases x<;>simp[okO]at hx
  cases op<;>simp only[opA]at h
  case call c=>exact hc c rfl
  case makeFunc fn first caps=>cases fn<;>cases h
  all_goals first
    | (simp only[BL,rZ,tZ,jZ,Lz,unA,tV,Lv,BH,Lu,tU,BI,Ad,wN,Dh,lL,tW,gA,qT,dJ,iB,tY,jJ]at h
       (repeat' split at h)<;>first|(cases h;done)|(exact o _ h))
    |((repeat' split at h)<;>first|(cases h;done)|(exact o _ h))
    |(cases h;done)
theorem Lh{ev:Operand→AV}{ρ:Operand→Value}(op:Op)(hev:∀ x∈op.operands,Rep S w β (ev x) (ρ x)){f:FuncId}{args:List AV}(hc:opA C ev h1 s op=.call f args):iF op=true∧∃ vs,RepL S w β args vs:=by
 by_cases h:∃ c:Call,op=.call c
 ·obtain⟨c,rfl⟩:=h;refine⟨rfl,?_⟩;obtain⟨callee,as_,ats⟩:=c;simp only[Op.operands]at hev
  cases callee with
  |invoke r m=>simp only[opA]at hc;cases hc
  | value g=>
   simp only[opA]at hc;split at hc
   ·rename_i g' first caps he
    injection hc with q1 q2;subst q2;have hf:=hev g (by simp[Call.operands]);rw[he]at hf;generalize ρ g=v at hf
    cases hf with
    |clo _ _ _ vs us hl hr hl' hr'=>
    exact⟨vs.toList++as_.toList.map ρ++us.toList,RepL.append (RepL.append ⟨by simpa using hl,λ i a u p q=>hr i a u p (by simpa using q)⟩ (RepL.of_map _ λ x hx=>hev x (by simp[Call.operands];exact .inr (by simpa using hx)))) ⟨by simpa using hl',λ i a u p q=>hr' i a u p (by simpa using q)⟩⟩
   ·cases hc
  |builtin b=>
   simp only[opA]at hc;exfalso;unfold aJ at hc;simp only[Lw,Lx,Ly,yB,iL]at hc
   (repeat' split at hc)<;>cases hc
 ·exact absurd hc (GV op λ c hc=>h ⟨c,hc⟩)
theorem rQ{R:FuncId→List AV→AV→Prop}{ev:Operand→AV}{ρ:Operand→Value}(op:Op)(hev:∀ x∈op.operands,Rep S w β (ev x) (ρ x))(hag:iF op=true→sM β h1 h2){x:AV}{h1':AH}(hn:NodeR C R h1 (opA C ev h1 s op) x h1'):
  ∃ h2',NodeR C R h2 (opA C ev h2 s op) x h2'∧Lf h1 h2 s (fE op) β h1' h2':=by
 have T:=CZ (C:=C) (s:=s) op hev hag
 cases hr:opA C ev h1 s op with
 |bad=>rw[hr]at hn;exact hn.elim
 |ok y=>rw[hr]at hn T;obtain⟨rfl,rfl⟩:=hn;exact⟨h2,by rw[show opA C ev h2 s op=.ok x from T];exact⟨rfl,rfl⟩,Lf.refl⟩
 |need p y=>rw[hr]at hn T;obtain⟨hp,rfl,rfl⟩:=hn;exact⟨h2,by rw[show opA C ev h2 s op=.need p x from T];exact⟨hp,rfl,rfl⟩,Lf.refl⟩
 |idx rows i f=>rw[hr]at hn T;obtain⟨row,h0,h3,h4,rfl⟩:=hn;exact⟨h2,by rw[show opA C ev h2 s op=.idx rows i f from T];exact⟨row,h0,h3,h4,rfl⟩,Lf.refl⟩
 |fx p y k=>rw[hr]at hn T;obtain⟨hp,rfl,rfl⟩:=hn;obtain⟨h2',e1,e2⟩:=T;exact⟨h2',by rw[e1];exact⟨hp,rfl,rfl⟩,e2⟩
 |idxfx rows i f=>rw[hr]at hn T;obtain⟨row,h0,h3,h4,rfl⟩:=hn;obtain⟨f2,e1,e2⟩:=T;obtain⟨h2',e3,e4⟩:=e2 row h1' h4;exact⟨h2',by rw[e1];exact⟨row,h0,h3,e3,rfl⟩,e4⟩
 |str p rows=>rw[hr]at hn T;obtain⟨l,hp,h3,rfl,rfl⟩:=hn;exact⟨h2,by rw[show opA C ev h2 s op=.str p rows from T];exact⟨l,hp,h3,rfl,rfl⟩,Lf.refl⟩
 |call f args=>
  rw[hr]at hn T;obtain⟨c1,c2,c3,c4,rfl⟩:=hn;obtain⟨hrd,vs,hargs⟩:=Lh (C:=C) (s:=s) op hev hr;obtain⟨e1,e2⟩:=GU hargs (hag hrd) c1;refine⟨h2,?_,Lf.refl⟩;rw[show opA C ev h2 s op=.call f args from T];exact⟨by rw[e1];exact c1,c2.imp id (λ h=>⟨h.1,e2.2 h.2⟩),c3,by rw[e1];exact c4,rfl⟩
end
end Go.Proofs.YtlhofpglndhfaaaGreatDoor
