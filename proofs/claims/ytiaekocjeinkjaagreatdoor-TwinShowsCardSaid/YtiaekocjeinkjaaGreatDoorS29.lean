import Derived.Test.YtiaekocjeinkjaaGreatDoorS28
set_option linter.all false
namespace Go.Proofs.YtiaekocjeinkjaaGreatDoor
open Go.RowKit
def Ti(h1 h2:AH)(s:Nat)(wr:Bool)(β:Bt)(c d:AH):Prop:=
 (∀b,h2 b=h1 b->d b=c b)/\∀b,b≠s->(c b≠h1 b\/d b≠h2 b)->wr=true/\h1 b≠none/\∃l,β b=some l
def Tr(h1 h2:AH)(s:Nat)(wr:Bool)(β:Bt)(e d:b1):Prop:=
 match e with
 | .bad=>True
 | .fx p x c=>∃b,d=.fx p x b/\Ti h1 h2 s wr β c b
 | .ZS rows i f=>∃f2,d=.ZS rows i f2/\∀row c,f row=some c->∃b,f2 row=some b/\Ti h1 h2 s wr β c b
 |r=>d=r
section
variable {C:a5}{h1 h2:AH}{s:Nat}{wr:Bool}{β:Bt}{S:Nat->Prop}{w:World}
theorem Tr.YZ{r:b1}(z:g8 r=false):Tr h1 h2 s wr β r r:=by
 cases r<;>first|rfl|(simp[g8]at z)
theorem Ti.new(blk:Option a'):Ti h1 h2 s wr β (an h1 s blk) (an h2 s blk):=by
 refine⟨λb c=>?_,λb c h=>?_⟩
 .by_cases d:b=s
  .subst d;rw[dB,dB]
  rw[cI _ _ d,cI _ _ d];exact c
 rw[cI _ _ c,cI _ _ c]at h;rcases h with h|h<;>exact absurd rfl h
theorem Ti.set{d:Nat}{l:Loc}(f:β d=some l)(g:h1 d≠none)(blk:Option a'):Ti h1 h2 s true β (an h1 d blk) (an h2 d blk):=by
 refine⟨λb e=>?_,λb e h=>?_⟩
 .by_cases c:b=d
  .subst c;rw[dB,dB]
  rw[cI _ _ c,cI _ _ c];exact e
 by_cases c:b=d
 .subst c;exact⟨R,g,l,f⟩
 rw[cI _ _ c,cI _ _ c]at h;rcases h with h|h<;>exact absurd rfl h
theorem Ti.YX{d:Nat}{l:Loc}(g:β d=some l)(i:h1 d≠none)(blk e:Option a'):Ti h1 h2 s true β (an (an h1 d e) s blk) (an (an h2 d e) s blk):=by
 refine⟨λb f=>?_,λb f h=>?_⟩
 .by_cases c:b=s
  .subst c;rw[dB,dB]
  rw[cI _ _ c,cI _ _ c];by_cases c:b=d
  .subst c;rw[dB,dB]
  rw[cI _ _ c,cI _ _ c];exact f
 rw[cI _ _ f,cI _ _ f]at h;by_cases c:b=d
 .subst c;exact⟨R,i,l,g⟩
 rw[cI _ _ c,cI _ _ c]at h;rcases h with h|h<;>exact absurd rfl h
def Be(β:Bt)(h1 h2:AH):Prop:=∀b l,β b=some l->h1 b≠none->h2 b=h1 b
def wR{a:AV}{v:Value}(i:av S w β a v)(d:Be β h1 h2){r:Nat×List (List AV)}(b:mY h1 a=some r):mY h2 a=some r/\(xV h2 a↔xV h1 a):=by
 cases i with
 | X s lo len f l A c j B E p y q e u z m=>
  have k:h1 s≠none:=by
   intro g;simp only[mY,g]at b;cases b
  have e:=d s l j k;simp only[mY,e]at b⊢
  exact⟨b,by simp only[xV,e]⟩
 |v=>exact⟨by cases v<;>exact b,Iff.rfl⟩
 |_=>exact⟨b,Iff.rfl⟩
def Wl(t:TypeId){a:AV}{v:Value}(g:av S w β a v)(e:Be β h1 h2):Tr h1 h2 s wr β (tG C h1 t a) (tG C h2 t a):=by
 have ok:∀x:Option AV,Tr h1 h2 s wr β (et x) (et x):=λx=>by cases x<;>first|trivial|rfl
 cases g<;>simp only[tG]<;>try (exact trivial)
 case ptr b c l f=>
  cases d:h1 b with
  |none=>exact tr
  |some blk=>
   rw[e b l f (by rw[d];simp),d]
   cases blk with
   |box cells=>exact ok _
   |arr rows rs=>exact tr
   |row cells=>exact tr
 case x b r c l f=>
  cases d:h1 b with
  |none=>exact tr
  |some blk=>
   rw[e b l f (by rw[d];simp),d]
   cases blk with
   |box cells=>exact tr
   |arr rows rs=>rfl
   |row cells=>rfl
 case k=>exact ok _
theorem Tr.of_eq{b c:b1}(d:c=b)(hs:g8 b=false\/b=.bad):Tr h1 h2 s wr β b c:=by
 subst d;rcases hs with hs|hs
 .exact Tr.YZ hs
 rw[hs];trivial
def rv{a:AV}{v:Value}(i:av S w β a v)(g:Be β h1 h2):DG h2 a=DG h1 a\/DG h1 a=none/\∃b lo len d,a=.X b lo len d:=by
 cases i with
 |X b lo len d l A c j u y m r p e q f k=>
  cases f:h1 b with
  |none=>exact .inr ⟨f,b,lo,len,d,R⟩
  |some blk=>exact .inl (g b l j (by rw[f];simp))
 |_=>exact .inl R
def JD(t:TypeId){a i:AV}{v:Value}(j:av S w β a v)(g:Be β h1 h2):Tr h1 h2 s wr β (iW C h1 t a i) (iW C h2 t a i):=by
 have self:g8 (iW C h1 t a i)=false\/iW C h1 t a i=.bad:=by
  unfold iW pN
  repeat' split
  all_goals first|exact .inl rfl|exact .inr rfl
 rcases rv j g with f|⟨f,b,lo,len,d,rfl⟩
 .exact Tr.of_eq (by unfold iW;rw[f]) self
 have e:iW C h1 t (.X b lo len d) i=.bad:=by
  unfold iW;rw[f];unfold pN;split
  .split
   .rename_i c;cases c
   .rfl
   rfl
  .split
   .rename_i c;cases c
   .rename_i c;cases c
   .rename_i c;cases c
   rfl
  rfl
 rw[e];trivial
def Tj(t:TypeId){a:AV}{lo c d:Option AV}{v:Value}(k:av S w β a v)(i:Be β h1 h2):Tr h1 h2 s wr β (uQ C h1 t a lo c d) (uQ C h2 t a lo c d):=by
 have self:g8 (uQ C h1 t a lo c d)=false\/uQ C h1 t a lo c d=.bad:=by
  unfold uQ BV
  repeat' split
  all_goals first|exact .inl rfl|exact .inr rfl
 rcases rv k i with g|⟨g,b,j,len,e,rfl⟩
 .exact Tr.of_eq (by unfold uQ;rw[g]) self
 have f:uQ C h1 t (.X b j len e) lo c d=.bad:=by
  unfold uQ;rw[g];unfold BV
  repeat' split
  all_goals first|rfl|(simp_all;done)
 rw[f];trivial
def Wm(src b:TypeId){a:AV}{v:Value}(g:av S w β a v)(d:Be β h1 h2):Tr h1 h2 s wr β (FM C h1 s src b a) (FM C h2 s src b a):=by
 have c:g8 (DF C src b a)=false\/DF C src b a=.bad:=by
  unfold DF;split<;>first|exact .inl rfl|exact .inr rfl
 unfold FM;split
 .split
  .exact⟨_,rfl,Ti.new _⟩
  trivial
 .split
  .trivial
  split
  .rename_i rc rows i j;obtain⟨e,f⟩:=wR g d j;rw[e,i];show _=_;simp only[f]
  trivial
 exact Tr.of_eq R c
def PG(k:List TypeId){x y:AV}{vx U:Value}(z:av S w β x vx)(Q:av S w β y U)(m:Be β h1 h2):Tr h1 h2 s true β (bR C h1 s .append k [x,y]) (bR C h2 s .append k [x,y]):=by
 simp only[bR];have G:∀(i j:Option (Nat×List (List AV))) (blk:Option a') (d f:Prop),(∀b lo len g,x=.X b lo len g->blk≠none->(∃l,β b=some l)/\h1 b≠none)->Tr h1 h2 s true β (qG C s k x i j blk d f h1) (qG C s k x i j blk d f h2):=by
  intro i j blk d f M;unfold qG;split
  .split
   .split
    .split
     .split
      .exact⟨_,R,Ti.new _⟩
      .split
       .exact Tr.of_eq R (.inl R)
       .exact⟨_,R,Ti.new _⟩
      .trivial
     .split
      .exact⟨_,R,Ti.new _⟩
      .trivial
     .rename_i b lo len _ _ _ _ _ _;split
      .obtain⟨⟨l,v⟩,O⟩:=M _ _ _ _ R (by simp);exact⟨_,R,Ti.YX v O _ _⟩
      .trivial
     .trivial
    .trivial
   .trivial
  .trivial
 have r:∀(j:Option (Nat×List (List AV))) (blk:Option a') (d f:Prop),qG C s k x none j blk d f h1=.bad:=by
  intro j blk d f;unfold qG;split
  .split
   .split
    .split<;>first|rfl|(rename_i h _;cases h;done)|(rename_i h;cases h;done)
    .rfl
   .rfl
  .rfl
 have u:∀(i:Option (Nat×List (List AV))) (blk:Option a') (d f:Prop),qG C s k x i none blk d f h1=.bad:=by
  intro i blk d f;unfold qG;split
  .split
   .split
    .split<;>first|rfl|(rename_i h _;cases h;done)|(rename_i h;cases h;done)
    .rfl
   .rfl
  .rfl
 cases p:mY h1 x with
 |none=>rw[r];trivial
 | some i=>
  cases F:mY h1 y with
  |none=>rw[u];trivial
  | some j=>
   obtain⟨H,I⟩:=wR z m p;obtain⟨J,L⟩:=wR Q m F;have B:DG h2 x=DG h1 x:=by
    rcases rv z m with q|⟨q,b,lo,len,g,rfl⟩
    .exact q
    .simp only[DG]at q;simp only[mY,q]at p;cases p
   rw[H,J,B,show xV h2 x=xV h1 x from propext I,show xV h2 y=xV h1 y from propext L];refine G _ _ _ _ _ λb lo len g P E=>?_;subst P
   cases z with
   |X _ _ _ _ l A c v hc hm X hA Y e Z W T=>exact⟨⟨l,v⟩,E⟩
def Wn(i:List TypeId){x y:AV}{vx z:Value}(q:av S w β x vx)(u:av S w β y z)(d:Be β h1 h2):Tr h1 h2 s true β (EB C h1 i x y) (EB C h2 i x y):=by
 unfold EB;split
 .trivial
 .split
  .split
   .rename_i G b lo len j L
    cases f:h1 b with
    |none=>simp only;split<;>trivial
    | some blk=>
     cases q with
     |X _ _ _ _ l A c g J M E I F e H B v=>
     have e:=d b l g (by rw[f];simp)
     cases p:mY h1 y with
     |none=>cases blk<;>trivial
     | some r=>
      obtain⟨k,m⟩:=wR u d p;rw[e,f,k]
      cases blk with
      |box=>trivial
      |row=>trivial
      |arr rows rs=>
       simp only;split
       .exact⟨_,by simp only[m],Ti.set g (by rw[f];simp) _⟩
       .trivial
   .trivial
  .trivial
theorem mE(h:AH):∀(b:List AV) (i:Nat),(rO h b)[i]?=(b[i]?).map (vR h)
 |[],i=>by simp[rO]
 |c::b,0=>by simp[rO]
 |c::b,i+1=>by simp[rO,mE h b i]
theorem pL(h:AH):∀(d:List AV),jV h d↔∀(i:Nat) a,d[i]?=some a->jU h a
 |[]=>⟨λ_ i a h=>by simp at h,λ_=>trivial⟩
 |c::d=>by
  simp only[jV,pL h d];refine⟨λ⟨e,f⟩ i a b=>?_,λH=>⟨H 0 c R,λi a b=>H (i+1) a (sU b)⟩⟩
  cases i with
  |zero=>simp at b;subst b;exact e
  |succ i=>exact f i a (sU b)
def Ol{a:AV}{v:Value}(O:av S w β a v):Be β h1 h2->eP (vR h1 a)=true->vR h2 a=vR h1 a/\(jU h2 a↔jU h1 a):=by
 induction O with
 | agg g u r Y h ih=>
  intro j q;have y:eW (rO h1 g)=true:=q;have d:∀(i:Nat) a,g[i]?=some a->vR h2 a=vR h1 a/\(jU h2 a↔jU h1 a):=by
   intro i a b;have m:i<u.size:=by rw[<-r];exact(Em.1 b).1
   exact ih i a u[i] b (aT m) j (fW _ y i _ (by rw[mE,b];rfl))
  constructor
  .show AV.agg (rO h2 g)=.agg (rO h1 g);congr 1;apply dD;intro i;rw[mE,mE]
   cases b:g[i]? with
   |none=>rfl
   |some a=>simp only[dF,(d i a b).1]
  .show jV h2 g↔jV h1 g;rw[pL,pL]
   exact⟨λH i a b=>(d i a b).2.1 (H i a b),λH i a b=>(d i a b).2.2 (H i a b)⟩
 | F g u r h ih=>
  intro j q
  cases B:oU g with
  |true=>simp[vR,jU,B]
  |false=>
  have y:eW (rO h1 g)=true:=by simpa only[vR,B,eP]using q
  have d:∀(i:Nat) a,g[i]?=some a->vR h2 a=vR h1 a/\(jU h2 a↔jU h1 a):=by
   intro i a b;have m:i<u.size:=by rw[<-r];exact(Em.1 b).1
   exact ih i a u[i] b (aT m) j (fW _ y i _ (by rw[mE,b];rfl))
  constructor
  .simp only[vR,B];congr 1;apply dD;intro i;rw[mE,mE]
   cases b:g[i]? with
   |none=>rfl
   |some a=>simp only[dF,(d i a b).1]
  .simp only[jU,B];rw[pL,pL]
   exact⟨λH i a b=>(d i a b).2.1 (H i a b),λH i a b=>(d i a b).2.2 (H i a b)⟩
 | X s lo len M l A c r q hm Z hA g e fr hb W=>
  intro j k;have F:h1 s≠none:=by
   intro E;simp only[vR,E,eP]at k;cases k
  have e:=j s l r F;simp only[vR,jU,e]
  exact⟨tr,tr⟩
 | ptr s X l r=>
  intro j k;have F:h1 s≠none:=by
   intro E;simp only[vR,E,eP]at k;cases k
  have e:=j s l r F;simp only[vR,jU,e]
  exact⟨tr,tr⟩
 | a f first p u L r h I h' ih J=>
  intro j q;simp only[vR,eP]at q;split at q
  .rename_i G;have d:∀(i:Nat) a,first[i]?=some a->vR h2 a=vR h1 a/\(jU h2 a↔jU h1 a):=by
    intro i a b;have m:i<u.size:=by rw[<-r];exact(Em.1 b).1
    exact ih i a u[i] b (aT m) j (fW _ G i _ (by rw[mE,b];rfl))
   have z:∀(i:Nat) a,p[i]?=some a->vR h2 a=vR h1 a/\(jU h2 a↔jU h1 a):=by
    intro i a b;have m:i<L.size:=by rw[<-I];exact(Em.1 b).1
    exact J i a L[i] b (aT m) j (fW _ q i _ (by rw[mE,b];rfl))
   have ext:∀(g:List AV),(∀(i:Nat) a,g[i]?=some a->vR h2 a=vR h1 a/\(jU h2 a↔jU h1 a))->rO h2 g=rO h1 g/\(jV h2 g↔jV h1 g):=by
    intro g d;constructor
    .apply dD;intro i;rw[mE,mE]
     cases b:g[i]? with
     |none=>rfl
     |some a=>simp only[dF,(d i a b).1]
    .rw[pL,pL];exact⟨λH i a b=>(d i a b).2.1 (H i a b),λH i a b=>(d i a b).2.2 (H i a b)⟩
   obtain⟨P,Q⟩:=ext first d
   obtain⟨T,U⟩:=ext p z;refine⟨by simp only[vR,P,T],?_⟩;show(jV h2 first/\jV h2 p)↔(jV h1 first/\jV h1 p);rw[Q,U]
  .cases q
 |_=>intro _ _;exact⟨R,Iff.rfl⟩
def Om{args:List AV}{g:List Value}(f:b6 S w β args g)(d:Be β h1 h2)(j:eW (rO h1 args)=true):rO h2 args=rO h1 args/\(jV h2 args↔jV h1 args):=by
 have c:∀(i:Nat) a,args[i]?=some a->vR h2 a=vR h1 a/\(jU h2 a↔jU h1 a):=by
  intro i a b;have e:i<g.length:=by rw[<-f.1];exact(Em.1 b).1
  exact Ol (f.2 i a _ b (aA e)) d (fW _ j i _ (by rw[mE,b];rfl))
 constructor
 .apply dD;intro i;rw[mE,mE]
  cases b:args[i]? with
  |none=>rfl
  |some a=>simp only[dF,(c i a b).1]
 .rw[pL,pL];exact⟨λH i a b=>(c i a b).2.1 (H i a b),λH i a b=>(c i a b).2.2 (H i a b)⟩
theorem Ti.refl:Ti h1 h2 s wr β h1 h2:=⟨λ_ h=>h,λb _ h=>by rcases h with h|h<;>exact absurd rfl h⟩
def JE{ev:Operand->AV}{ρ:Operand->Value}(q:Op)(g:∀x∈q.operands,av S w β (ev x) (ρ x))(d:pZ q=true->Be β h1 h2):
  Tr h1 h2 s (lZ q) β (bj C ev h1 s q) (bj C ev h2 s q):=by
 have ok:∀(wr:Bool) (x:Option AV),Tr h1 h2 s wr β (et x) (et x):=λwr x=>by cases x<;>first|trivial|rfl
 cases q<;>simp only[Op.operands]at g<;>simp only[bj]<;>try (exact trivial)
 case move x=>rfl
 case assign x=>rfl
 case pick c a b=>
  refine Tr.of_eq R ?_;unfold v6;split<;>first|exact .inl rfl|exact .inr rfl
 case alloc t=>split<;>first|trivial|exact⟨_,rfl,Ti.new _⟩
 case box t x=>split<;>first|trivial|exact⟨_,rfl,Ti.new _⟩
 case build t O=>
  refine Tr.of_eq R ?_;have o:∀x:Option AV,g8 (et x)=false\/et x=.bad:=λx=>by cases x<;>first|exact .inl rfl|exact .inr rfl
  unfold BX
  repeat' split
  all_goals first|exact o _|exact .inr rfl
 case buildSlice t n O=>
  refine Tr.of_eq R ?_
  repeat' split
  all_goals first|exact .inl rfl|exact .inr rfl
 case load t a=>exact Wl t (g a (by simp)) (d R)
 case store t a x=>
  have d:=d R;have F:=g a (by simp);split
  .split
   .generalize ev a=P at F;generalize ρ a=Y at F;cases F<;>try (exact tr)
    case ptr b c l p=>
     simp only
     cases k:h1 b with
     |none=>exact tr
     | some blk=>
      rw[d b l p (by rw[k];simp),k]
      cases blk with
      |arr=>exact tr
      |row=>exact tr
      |box cells=>
       simp only;split
       .exact⟨_,R,Ti.set p (by rw[k];simp) _⟩
       .trivial
    case x b r c l p=>
     simp only
     cases k:h1 b with
     |none=>exact tr
     | some blk=>
      rw[d b l p (by rw[k];simp),k]
      cases blk with
      |box cells=>exact tr
      | arr rows rs=>
       refine⟨_,R,λrow I e=>?_⟩;dsimp only at e⊢;split at e
       .rename_i Q T;injection e with e;subst e;exact⟨_,by simp only,Ti.set p (by rw[k];simp) _⟩
       .cases e
      | row cells=>
       refine⟨_,R,λrow I e=>?_⟩;dsimp only at e⊢;split at e
       .injection e with e;subst e;exact⟨_,R,Ti.set p (by rw[k];simp) _⟩
       .cases e
   .trivial
  .trivial
 case nilCheck x=>
  refine Tr.of_eq R ?_;unfold TD;split<;>first|exact .inl rfl|exact .inr rfl
 case binOp q t x y Z=>
  refine Tr.of_eq R ?_;unfold BU Tz HE Ty BT HG
  repeat' split
  all_goals first|exact .inl rfl|exact .inr rfl
 case unOp q t x=>
  refine Tr.of_eq R ?_;unfold j5;split<;>first|exact .inl rfl|exact .inr rfl
 case convert src H x=>exact Wm src H (g x (by simp)) (d R)
 case makeFunc M first L=>cases M<;>first|trivial|rfl
 case makeSlice t l c=>
  unfold JM
  repeat' split
  all_goals first|trivial|exact⟨_,rfl,Ti.new _⟩
 case slice t x lo W X=>exact Tj t (g x (by simp)) (d R)
 case fieldAddr t x f=>
  refine Tr.of_eq R ?_;unfold oJ
  repeat' split
  all_goals first|exact .inl rfl|exact .inr rfl
 case field t x f=>
  have o:∀x:Option AV,g8 (et x)=false\/et x=.bad:=λx=>by cases x<;>first|exact .inl rfl|exact .inr rfl
  refine Tr.of_eq rfl ?_;unfold Ab
  repeat' split
  all_goals first|exact o _|exact .inr rfl
 case indexAddr t x i=>exact JD t (g x (by simp)) (d R)
 case index t x i=>
  refine Tr.of_eq R ?_;unfold BW
  repeat' split
  all_goals first|exact .inl rfl|exact .inr rfl
 case extract x i=>
  have o:∀x:Option AV,g8 (et x)=false\/et x=.bad:=λx=>by cases x<;>first|exact .inl rfl|exact .inr rfl
  refine Tr.of_eq rfl ?_;unfold rY;split<;>first|exact o _|exact .inr rfl
 case call c=>
  obtain⟨E,args,B⟩:=c
  cases E with
  |value f=>
   simp only
   split<;>first|rfl|trivial
  |invoke r m=>trivial
  | builtin b=>
   simp only[Call.operands,Array.empty_append]at g;have jl:∀(x y:AV),args.toList.map ev=[x,y]->∃v u,av S w β x v/\av S w β y u:=by
    intro x y z;have j:b6 S w β (args.toList.map ev) (args.toList.map ρ):=b6.of_map _ λx z=>g x (sU z);rw[z]at j;have p:args.toList.length=2:=sU j.1.symm
    match J:args.toList,p with
    |[a,b],_=>exact⟨ρ a,ρ b,j.2 0 x (ρ a) R (by simp[J]),j.2 1 y (ρ b) R (by simp[J])⟩
   simp only;cases b<;>try (simp only[bR];exact tr)
   case append=>
    match A:args.toList.map ev with
    |[]=>simp only[bR];exact tr
    |[_]=>simp only[bR];exact tr
    |_::_::_::_=>simp only[bR];exact tr
    |[x,y]=>
     obtain⟨v,u,z,G⟩:=jl x y A;exact PG B.toList z G (d R)
   case copy=>
    match A:args.toList.map ev with
    |[]=>simp only[bR];exact tr
    |[_]=>simp only[bR];exact tr
    |_::_::_::_=>simp only[bR];exact tr
    |[x,y]=>
     obtain⟨v,u,z,G⟩:=jl x y A;simp only[bR];exact Wn B.toList z G (d R)
   case len=>
    match A:args.toList.map ev with
    |[]=>simp only[bR];exact tr
    |_::_::_=>simp only[bR];exact tr
    | [x]=>
     match U:B.toList with
     |[]=>simp only[bR];exact tr
     |_::_::_=>simp only[bR];exact tr
     |[t]=>
      simp only[bR];refine Tr.of_eq R ?_;unfold TA;split<;>first|exact .inl rfl|exact .inr rfl
   case min=>
    match A:args.toList.map ev with
    |[]=>simp only[bR];exact tr
    |[_]=>simp only[bR];exact tr
    |_::_::_::_=>simp only[bR];exact tr
    |[x,y]=>
     simp only[bR];refine Tr.of_eq R ?_;unfold TB
     repeat' split
     all_goals first|exact .inl rfl|exact .inr rfl
   case max=>
    match A:args.toList.map ev with
    |[]=>simp only[bR];exact tr
    |[_]=>simp only[bR];exact tr
    |_::_::_::_=>simp only[bR];exact tr
    |[x,y]=>
     simp only[bR];refine Tr.of_eq R ?_;unfold TC
     repeat' split
     all_goals first|exact .inl rfl|exact .inr rfl
def On{ev:Operand->AV}(b:Op)(g:∀c:Call,b≠ .call c){f:FuncId}{args:List AV}:bj C ev h1 s b≠ .call f args:=by
  intro h;have o:∀x:Option AV,et x≠ .call f args:=λx i=>by cases x<;>simp[et]at i
  cases b<;>simp only[bj]at h
  case call c=>exact g c R
  case makeFunc e first d=>cases e<;>cases h
  all_goals first
    | (simp only[v6,AL,BX,tG,TD,j5,BU,Tz,HE,Ty,BT,HG,FM,DF,JM,uQ,BV,oJ,Ab,iW,pN,BW,rY]at h
       (repeat' split at h)<;>first|(cases h;done)|(exact o _ h))
    |((repeat' split at h)<;>first|(cases h;done)|(exact o _ h))
    |(cases h;done)
def Tk{ev:Operand->AV}{ρ:Operand->Value}(k:Op)(j:∀x∈k.operands,av S w β (ev x) (ρ x)){f:FuncId}{args:List AV}(d:bj C ev h1 s k=.call f args):pZ k=true/\∃z,b6 S w β args z:=by
 by_cases h:∃c:Call,k=.call c
 .obtain⟨c,rfl⟩:=h;refine⟨R,?_⟩;obtain⟨e,as_,M⟩:=c;simp only[Op.operands]at j
  cases e with
  |invoke r m=>simp only[bj]at d;cases d
  | value g=>
   simp only[bj]at d;split at d
   .rename_i O first E F
    injection d with P J;subst J;have y:=j g (by simp[Call.operands]);rw[F]at y;generalize ρ g=v at y
    cases y with
    |a _ _ _ z L G H A B=>
    exact⟨z.toList++as_.toList.map ρ++L.toList,b6.append (b6.append ⟨sU G,λi a u p q=>H i a u p (sU q)⟩ (b6.of_map _ λx I=>j x (by simp[Call.operands];exact .inr (sU I)))) ⟨sU A,λi a u p q=>B i a u p (sU q)⟩⟩
   .cases d
  |builtin b=>
   simp only[bj]at d;exfalso;unfold bR at d;simp only[TA,TB,TC,EB,qG]at d
   (repeat' split at d)<;>cases d
 .exact absurd d (On k λc d=>h ⟨c,d⟩)
def wS{R:FuncId->List AV->AV->Prop}{ev:Operand->AV}{ρ:Operand->Value}(c:Op)(v:∀x∈c.operands,av S w β (ev x) (ρ x))(u:pZ c=true->Be β h1 h2){x:AV}{m:AH}(b:jq C R h1 (bj C ev h1 s c) x m):
  ∃d,jq C R h2 (bj C ev h2 s c) x d∧Ti h1 h2 s (lZ c) β m d:=by
 have T:=JE (C:=C) (s:=s) c v u
 cases e:bj C ev h1 s c with
 |bad=>rw[e]at b;exact b.elim
 |ok y=>rw[e]at b T;obtain⟨rfl,rfl⟩:=b;exact⟨h2,by rw[show bj C ev h2 s c=.ok x from T];exact⟨rfl,rfl⟩,Ti.refl⟩
 |Z9 p y=>rw[e]at b T;obtain⟨hp,rfl,rfl⟩:=b;exact⟨h2,by rw[show bj C ev h2 s c=.Z9 p x from T];exact⟨hp,rfl,rfl⟩,Ti.refl⟩
 |idx rows i f=>rw[e]at b T;obtain⟨row,z,q,A,rfl⟩:=b;exact⟨h2,by rw[show bj C ev h2 s c=.idx rows i f from T];exact⟨row,z,q,A,rfl⟩,Ti.refl⟩
 |fx p y k=>rw[e]at b T;obtain⟨hp,rfl,rfl⟩:=b;obtain⟨d,g,j⟩:=T;exact⟨d,by rw[g];exact⟨hp,rfl,rfl⟩,j⟩
 |ZS rows i f=>rw[e]at b T;obtain⟨row,z,q,A,rfl⟩:=b;obtain⟨f2,g,j⟩:=T;obtain⟨d,H,I⟩:=j row m A;exact⟨d,by rw[g];exact⟨row,z,q,H,rfl⟩,I⟩
 |str p rows=>rw[e]at b T;obtain⟨l,hp,q,rfl,rfl⟩:=b;exact⟨h2,by rw[show bj C ev h2 s c=.str p rows from T];exact⟨l,hp,q,rfl,rfl⟩,Ti.refl⟩
 |call f args=>
  rw[e]at b T;obtain⟨B,c2,F,G,rfl⟩:=b;obtain⟨E,J,r⟩:=Tk (C:=C) (s:=s) c v e;obtain⟨g,j⟩:=Om r (u E) B;refine⟨h2,?_,Ti.refl⟩;rw[show bj C ev h2 s c=.call f args from T];exact⟨by rw[g];exact B,c2.imp id (λh=>⟨h.1,j.2 h.2⟩),F,by rw[g];exact G,rfl⟩
end
theorem xp(b:List Nat):∀(c:List Edge) (m i:Nat),(PW b c m).testBit i=true->m.testBit i=true\/∃e∈c,Region.binds .any e=true/\(i=e.on\/(b.getD e.on 0).testBit i=true)
 |[],m,i,h=>.inl h
 | e::c,m,i,h=>by
  simp only[PW]at h;rcases xp b c _ i h with h|⟨f,h1,h2⟩
  .split at h
   .rename_i d;simp only[Nat.testBit_or,Nat.testBit_two_pow,dE,aY]at h;rcases h with (h|h)|h
    .exact .inl h
    .exact .inr ⟨e,ce,d,.inl h.symm⟩
    .exact .inr ⟨e,ce,d,.inr h⟩
   .exact .inl h
  .exact .inr ⟨f,bY _ h1,h2⟩
def lz(l:List Oper)(X:Nat->Prop):Prop:=∀j b,X j->l[j]?=some b->∀e∈b.after.toList,Region.binds .any e=true->X e.on
theorem Gt{l:List Oper}{X:Nat->Prop}(hX:lz l X):∀(rest pre:List Oper) (b:List Nat),l=pre++rest->b.length=pre.length->
  (∀j c,j<pre.length->l[j]?=some c->(∀e∈c.after.toList,Region.binds .any e=true->X e.on)->∀i,(b.getD j 0).testBit i=true->X i)->
  ∀j c,l[j]?=some c->(∀e∈c.after.toList,Region.binds .any e=true->X e.on)->∀i,((yV rest b).getD j 0).testBit i=true->X i
 |[],pre,b,k,q,H,j,c,f,hp,i,d=>by
  have g:j<pre.length:=by rw[k,dY]at f;exact(Em.1 f).1
  exact H j c g f hp i d
 | o ::rest,pre,b,k,q,H,j,c,f,hp,i,d=>by
  refine Gt hX rest (pre++[o]) (b++[PW b o.after.toList 0]) (by rw[k];simp) (by simp[q]) ?_ j c f hp i d;intro j c g f hp i d;rw[aU]at g;by_cases u:j<pre.length
  .rw[aR,cF oT, <-aR]at d;exact H j c u f hp i d
  .have r:j=pre.length:=by simp at g;omega
   subst r;have v:c=o:=by
    rw[k,bM (aC _),eK]at f;simpa using f.symm
   subst v;rw[aR,bM oT,q,eK]at d;simp only[cP,gI]at d;rcases xp b _ _ _ d with h|⟨e,h1,h2,h3⟩
   .simp at h
   .have m:=hp e h1 h2;rcases h3 with rfl|h3
    .exact m
    .rcases fb e.on b.length with hea|hea
     .have p:e.on<l.length:=by rw[k,aU];omega
      exact H e.on l[e.on] oT (aA p) (hX e.on _ m (aA p)) i h3
     .rw[aR,bE hea]at h3;simp at h3
def yP{l:List Oper}{X:Nat->Prop}(hX:lz l X){j:Nat}{b:Oper}(d:l[j]?=some b)(hp:∀e∈b.after.toList,Region.binds .any e=true->X e.on){i:Nat}(c:((yV l []).getD j 0).testBit i=true):X i:=
 Gt hX l [] [] R R (λj b h=>absurd h (by simp)) j b d hp i c
structure ns(l:List Oper):Prop where
 back:∀j oj,l[j]?=some oj->∀e∈oj.after.toList,Region.binds .any e=true->e.on<j
 slot:∀i j oi oj d,l[i]?=some oi->l[j]?=some oj->i≠j->oi.dst=some d->d∈pA l oj->JN (yV l []) i j=true
 mem:∀i j oi oj,l[i]?=some oi->l[j]?=some oj->i≠j->lZ oi.op=true->pZ oj.op=true->JN (yV l []) i j=true
def Lm{l:List Oper}(h:JO l=true):ns l:=by
  have g:∀j b,l[j]?=some b->(b.after.toList.all λe=> !Region.binds .any e||Nat.blt e.on j)=true/\∀i f,l[i]?=some f->(i==j||
          ((match f.dst with|none=>true|some d=> !(pA l b).contains d||JN (yV l []) i j)&&
           (!(lZ f.op&&pZ b.op)||JN (yV l []) i j)))=true:=by
    intro j b c;have r:j<l.length:=(Em.1 c).1;have h1:=rC.1 h j (sU r);simp only[c,aP]at h1;refine⟨h1.1,λi f k=>?_⟩;have q:i<l.length:=(Em.1 k).1;have h2:=rC.1 h1.2 i (sU q);simp only[k]at h2;exact h2
  refine⟨λj b c e v m=>?_,λi j f b d k c p u y=>?_,λi j f b k c p A z=>?_⟩
  · have:=rC.1 (g j b c).1 e v
    simp only[m,mD,jD]at this;exact aJ this
  · have:=(g j b c).2 i f k
    have m:(i==j)=false:=sU p;simp only[m,jD,aP,u]at this;have h1:=this.1;rw[(sU y:(pA l b).contains d=true)]at h1;simpa using h1
  have:=(g j b c).2 i f k;have m:(i==j)=false:=sU p;simp only[m,jD,aP]at this;have h1:=this.2;simpa [A,z]using h1
end Go.Proofs.YtiaekocjeinkjaaGreatDoor
namespace Go.Proofs.YtiaekocjeinkjaaGreatDoor
open Go.RowKit
section
variable {C:a5}{V:Inv C.fr}{R:FuncId->List AV->AV->Prop}{all:List Oper}{n:Nat}{K:a4->Prop}
theorem Hp(d:li C):∀(rest:List Oper) (j:Nat) (t:Nat->AV) (h:AH),jS C R all rest j ⟨t,h,n⟩ K->∃(xs:Nat->AV) (hh:Nat->AH) (tt:Nat->Nat->AV),tt j=t∧hh j=h∧
  (∀k o,rest[k]?=some o->h7 C R all o (n+(j+k)) (tt (j+k)) (hh (j+k)) (xs (j+k)) (hh (j+k+1))∧tt (j+k+1)=Aa (tt (j+k)) o.dst (xs (j+k)))∧K ⟨tt (j+rest.length),hh (j+rest.length),n+(j+rest.length)⟩
 |[],j,t,h,c=>⟨λ_=>.any,λ_=>h,λ_=>t,rfl,rfl,λk o b=>by simp at b,c⟩
 | o::rest,j,t,h,c=>by
  obtain⟨x,h',h1,h2⟩:=(pd c).resolve_right λ⟨_,f,args,bs,_,p,_⟩=>d _ _ _ _ _ p;obtain⟨xs,hh,tt,e,g,i,m⟩:=Hp d rest (j+1) _ h' h2;refine⟨λk=>if k=j then x else xs k,λk=>if k=j then h else hh k,λk=>if k=j then t else tt k,by simp,by simp,λk q b=>?_,?_⟩
  .cases k with
   |zero=>
    simp only[cP,jc]at b;subst b;simp only[iU,fD,(oT:¬j+1=j),eE,e,g]
    exact⟨h1,trivial⟩
   |succ k=>
    simp only[dL]at b;have:=i k q b;simp only[(oT:¬j+(k+1)=j),(oT:¬j+(k+1)+1=j),eE];rw[(oT:j+(k+1)=j+1+k)];exact this
  .simp only[bN,(oT:¬j+(rest.length+1)=j),eE];rw[(oT:j+(rest.length+1)=j+1+rest.length)];exact m
def Tg{ev:Operand->AV}{h:AH}{s:Nat}(A:Op):(∀p x h',bj C ev h s A=.fx p x h'->∀b,b≠s->h' b≠h b->lZ A=true∧h b≠none)∧
    (∀rows i f,bj C ev h s A=.ZS rows i f->∀row h',f row=some h'->∀b,b≠s->h' b≠h b->lZ A=true∧h b≠none):=by
  have u:∀(blk:Option a') b,b≠s->an h s blk b≠h b->False:=λblk b q j=>j (cI _ _ q);have set:∀(G:Nat) (blk:Option a') b,an h G blk b≠h b->b=G:=λG blk b j=>dw λe=>j (cI _ _ e);have Q:∀(x:Option AV) p y h',et x≠ .fx p y h':=λx p y h' L=>by cases x<;>simp[et]at L
  have T:∀(x:Option AV) rows i f,et x≠ .ZS rows i f:=λx rows i f L=>by cases x<;>simp[et]at L
  constructor
  · intro p x h' d b q j
    cases A<;>simp only[bj]at d
    case makeFunc H a c=>cases H<;>cases d
    case store t a v=>
      refine⟨rfl,?_⟩
      (repeat' split at d)<;>first|(cases d;done)|skip
      rename_i J _ _;injection d with _ _ d;subst d;rw[set _ _ _ j,J];simp
    case convert src Z x=>
      simp only[FM,DF]at d
      (repeat' split at d)<;>first|(cases d;done)|skip
      injection d with _ _ d;subst d;exact(u _ b q j).elim
    case makeSlice t l c=>
      simp only[JM]at d
      (repeat' split at d)<;>first|(cases d;done)|skip
      injection d with _ _ d;subst d;exact(u _ b q j).elim
    case alloc t=>
      split at d
      · injection d with _ _ d;subst d
        exact(u _ b q j).elim
      · cases d
    case box t x=>
      split at d
      · injection d with _ _ d;subst d
        exact(u _ b q j).elim
      · cases d
    case call c =>
      obtain⟨k,args,E⟩:=c
      cases k with
      |value f=>simp only at d;split at d<;>cases d
      |invoke r m=>cases d
      | builtin O=>
        simp only at d;cases O<;>try (simp only[bR]at d;cases d;done)
        case append=>
          refine⟨rfl,?_⟩
          match g:args.toList.map ev with
          |[]=>rw[g]at d;simp only[bR]at d;cases d
          |[_]=>rw[g]at d;simp only[bR]at d;cases d
          |_::_::_::_=>rw[g]at d;simp only[bR]at d;cases d
          | [B,M]=>
            rw[g]at d;simp only[bR]at d;have P:∀(X Y:Option (Nat×List (List AV))) (blk:Option a') (U W:Prop),blk=DG h B->qG C s E.toList B X Y blk U W h=.fx p x h'->h b≠none:=by
              intro X Y blk U W F d;unfold qG at d
              (repeat' split at d)<;>first|(cases d;done)|skip
              · injection d with _ _ d;subst d;exact(u _ b q j).elim
              · injection d with _ _ d;subst d;exact(u _ b q j).elim
              · injection d with _ _ d;subst d;exact(u _ b q j).elim
              · injection d with _ _ d;subst d
                rw[cI _ _ q]at j;rw[set _ _ _ j];simp only[DG]at F;rw[<-F];simp
            exact P _ _ _ _ _ rfl d
        case copy=>
          refine⟨rfl,?_⟩
          match g:args.toList.map ev with
          |[]=>rw[g]at d;simp only[bR]at d;cases d
          |[_]=>rw[g]at d;simp only[bR]at d;cases d
          |_::_::_::_=>rw[g]at d;simp only[bR]at d;cases d
          | [B,M]=>
            rw[g]at d;simp only[bR,EB]at d
            (repeat' split at d)<;>first|(cases d;done)|skip
            rename_i J _ _ _ _ _;injection d with _ _ d;subst d;rw[set _ _ _ j,J];simp
        case len=>
          match g:args.toList.map ev with
          |[]=>rw[g]at d;simp only[bR]at d;cases d
          |_::_::_=>rw[g]at d;simp only[bR]at d;cases d
          | [B]=>
            rw[g]at d
            match I:E.toList with
            |[]=>rw[I]at d;simp only[bR]at d;cases d
            |_::_::_=>rw[I]at d;simp only[bR]at d;cases d
            | [ag]=>
              rw[I]at d;simp only[bR,TA]at d
              (repeat' split at d)<;>cases d
        case min=>
          match g:args.toList.map ev with
          |[]=>rw[g]at d;simp only[bR]at d;cases d
          |[_]=>rw[g]at d;simp only[bR]at d;cases d
          |_::_::_::_=>rw[g]at d;simp only[bR]at d;cases d
          | [B,M]=>
            rw[g]at d;simp only[bR,TB]at d
            (repeat' split at d)<;>cases d
        case max=>
          match g:args.toList.map ev with
          |[]=>rw[g]at d;simp only[bR]at d;cases d
          |[_]=>rw[g]at d;simp only[bR]at d;cases d
          |_::_::_::_=>rw[g]at d;simp only[bR]at d;cases d
          | [B,M]=>
            rw[g]at d;simp only[bR,TC]at d
            (repeat' split at d)<;>cases d
    all_goals first
      | (simp only[v6,BX,tG,TD,j5,BU,Tz,HE,Ty,BT,HG,uQ,BV,oJ,Ab,iW,pN,BW,rY]at d
         (repeat' split at d)<;>first|(cases d;done)|(exact absurd d (Q _ _ _ _)))
      |((repeat' split at d)<;>first|(cases d;done)|(exact absurd d (Q _ _ _ _)))
      |(cases d;done)
  · intro rows i f d row h' z b q j
    cases A<;>simp only[bj]at d
    case makeFunc H a c=>cases H<;>cases d
    case store t a v=>
      refine⟨rfl,?_⟩
      (repeat' split at d)<;>first|(cases d;done)|skip
      all_goals
        injection d with _ _ d;subst d;dsimp only at z
        (repeat' split at z)<;>first
          |(cases z;done)
          | (injection z with z
             subst z;rw[set _ _ _ j];intro h0
             simp_all)
    case call c=>
      obtain⟨k,args,E⟩:=c
      cases k with
      |value f=>simp only at d;split at d<;>cases d
      |invoke r m=>cases d
      | builtin O=>
        exfalso;simp only at d;unfold bR at d;simp only[TA,TB,TC,EB,qG]at d
        (repeat' split at d)<;>cases d
    all_goals first
      | (simp only[v6,BX,tG,TD,j5,BU,Tz,HE,Ty,BT,HG,FM,DF,JM,uQ,BV,oJ,Ab,iW,pN,BW,rY]at d
         (repeat' split at d)<;>first|(cases d;done)|(exact absurd d (T _ _ _ _)))
      |((repeat' split at d)<;>first|(cases d;done)|(exact absurd d (T _ _ _ _)))
      |(cases d;done)
def AC{o:Oper}{s:Nat}{t:Nat->AV}{h h':AH}{x:AV}(c:h7 C R all o s t h x h'):∀b,b≠s->h' b≠h b->lZ o.op=true∧h b≠none:=by
 intro b m j;have k:jq C R h (bj C (bi C t) h s o.op) x h'->lZ o.op=true∧h b≠none:=λc=>by
  obtain⟨u,v⟩:=Tg (C:=C) (ev:=bi C t) (h:=h) (s:=s) o.op
  cases e:bj C (bi C t) h s o.op with
  |bad=>rw[e]at c;exact c.elim
  |ok y=>rw[e]at c;obtain⟨_,rfl⟩:=c;exact absurd rfl j
  |Z9 p y=>rw[e]at c;obtain⟨_,_,rfl⟩:=c;exact absurd rfl j
  |idx rows i f=>rw[e]at c;obtain⟨_,_,_,_,rfl⟩:=c;exact absurd rfl j
  |str p rows=>rw[e]at c;obtain⟨_,_,_,_,rfl⟩:=c;exact absurd rfl j
  |call f args=>rw[e]at c;obtain⟨_,_,_,_,rfl⟩:=c;exact absurd rfl j
  |fx p y h2=>rw[e]at c;obtain⟨_,_,rfl⟩:=c;exact u p y h' e b m j
  |ZS rows i f=>rw[e]at c;obtain⟨row,_,_,z,_⟩:=c;exact v rows i f e row h' z b m j
 unfold h7 at c
 cases r:o.guard with
 |some q=>
  obtain⟨i,A⟩:=q;simp only[r]at c;obtain⟨d,g,y,_,_,⟨_,rfl,_⟩|⟨_,c⟩⟩:=c
  .exact absurd rfl j
  .exact k c
 |none=>simp only[r]at c;exact k c
def d'(X:Nat->Bool)(l:List Oper)(xs:Nat->AV)(t:Nat->AV):Nat->Nat->AV
 |0=>t
 |k+1=>match l[k]? with
  |some o=>(match X k with|true=>Aa (d' X l xs t k) o.dst (xs k)|false=>d' X l xs t k)
  |none=>d' X l xs t k
variable {l:List Oper}{xs:Nat->AV}{t:Nat->AV}
def xO{f:Nat->AV}{d:Option Nat}{x:AV}{i:Nat}(h:d≠some i):Aa f d x i=f i:=by
 cases d with
 |none=>rfl
 |some k=>exact cI _ _ (λe=>h (by rw[e]))
def mw{f:Nat->AV}{x:AV}{i:Nat}:Aa f (some i) x i=x:=dB _ _ _
theorem uB{X Y:Nat->Bool}{tmp:Nat}:∀(k:Nat),(∀i o,i<k->l[i]?=some o->o.dst=some tmp->X i=Y i)->d' X l xs t k tmp=d' Y l xs t k tmp
 |0,_=>rfl
 | k+1,H=>by
  have ih:=uB k λi o d=>H i o oT;simp only[d']
  cases c:l[k]? with
  |none=>exact ih
  | some o=>
   by_cases b:o.dst=some tmp
   .have:=H k o oT c b;rw[this]
    cases Y k with
    |true=>simp only[b,mw]
    |false=>exact ih
   .cases X k<;>cases Y k<;>simp only[xO b,ih]
theorem DR{X:Nat->Bool}{tmp j:Nat}:∀(k:Nat),j<=k->(∀i o,j<=i->i<k->l[i]?=some o->o.dst=some tmp->X i=false)->d' X l xs t k tmp=d' X l xs t j tmp
 |0,d,_=>by rw[(oT:j=0)]
 | k+1,d,H=>by
  by_cases c:j=k+1
  .rw[c]
  .have ih:=DR (tmp:=tmp) k oT λi o h1 h2=>H i o h1 oT;rw[<-ih];simp only[d']
   cases e:l[k]? with
   |none=>rfl
   |some o=>
    by_cases b:o.dst=some tmp
    .rw[H k o oT oT e b]
    .cases X k<;>simp only[xO b]
theorem Et{tt:Nat->Nat->AV}(b:tt 0=t)(d:∀k o,l[k]?=some o->tt (k+1)=Aa (tt k) o.dst (xs k)):∀j,j<=l.length->tt j=d' (λ_=>true) l xs t j
 |0,_=>b
 |j+1,e=>by
  have ih:=Et b d j oT;have c:l[j]?=some l[j]:=aA oT;rw[d j _ c,ih];simp only[d',c]
def Vw{j:Nat}(tmp:Nat)(c:j<=l.length):d' (λk=>decide (k<j)) l xs t l.length tmp=d' (λ_=>true) l xs t j tmp:=by
 rw[DR (j:=j) l.length c (λi o h1 _ _ _=>by simpa using h1)];exact uB j λi o b _ _=>by simpa using b
end
end Go.Proofs.YtiaekocjeinkjaaGreatDoor
namespace Go.Proofs.YtiaekocjeinkjaaGreatDoor
open Go.RowKit
section
variable {C:a5}{V:Inv C.fr}
def nL{ev ev':Operand->AV}{h:AH}{s:Nat}(e:Op)(d:∀x∈e.operands,ev x=ev' x):bj C ev h s e=bj C ev' h s e:=by
 cases e<;>simp only[Op.operands]at d<;>simp only[bj]
 case move x=>rw[d x (by simp)]
 case assign x=>rw[d x (by simp)]
 case pick c a b=>rw[d c (by simp),d a (by simp),d b (by simp)]
 case box t x=>rw[d x (by simp)]
 case build t G=>
  rw[iB (f:=λp:Nat×Operand=>(p.1,ev p.2)) (g:=λp:Nat×Operand=>(p.1,ev' p.2)) λp hp=>by rw[d p.2 (by simp;exact⟨p.1,sU hp⟩)]]
 case buildSlice t n G=>
  rw[iB (f:=λp:Nat×Operand=>(p.1,ev p.2)) (g:=λp:Nat×Operand=>(p.1,ev' p.2)) λp hp=>by rw[d p.2 (by simp;exact⟨p.1,sU hp⟩)]]
 case load t a=>rw[d a (by simp)]
 case store t a x=>rw[d a (by simp),d x (by simp)]
 case nilCheck x=>rw[d x (by simp)]
 case binOp e t x y J=>rw[d x (by simp),d y (by simp)]
 case unOp e t x=>rw[d x (by simp)]
 case convert src I x=>rw[d x (by simp)]
 case makeFunc A first u=>
  cases A<;>try rfl
  simp only;rw[iB (f:=ev) (g:=ev') (l:=first.toList) λx j=>d x (by simp;exact .inl (sU j)),iB (f:=ev) (g:=ev') (l:=u.toList) λx j=>d x (by simp;exact .inr (sU j))]
 case makeSlice t l c=>rw[d l (by simp),d c (by simp)]
 case slice t x lo B F=>
  have q:∀(y:Option Operand),(∀z,y=some z->ev z=ev' z)->y.map ev=y.map ev':=by
   intro y E
   cases y with
   |none=>rfl
   |some z=>simp only[dF,E z R]
  rw[d x (by simp),q lo λz k=>d z (by subst k;simp),q B λz k=>d z (by subst k;simp),q F λz k=>d z (by subst k;simp)]
 case fieldAddr t x f=>rw[d x (by simp)]
 case field t x f=>rw[d x (by simp)]
 case indexAddr t x i=>rw[d x (by simp),d i (by simp)]
 case index t x i=>rw[d x (by simp),d i (by simp)]
 case extract x i=>rw[d x (by simp)]
 case call c=>
  obtain⟨g,args,H⟩:=c;have v:args.toList.map ev=args.toList.map ev':=iB λx j=>d x (by simp[Call.operands];exact .inr (sU j))
  cases g with
  |builtin b=>simp only;rw[v]
  |invoke r m=>rfl
  |value f=>simp only;rw[d f (by simp[Call.operands]),v]
theorem BM:∀(l:List Operand) (i:Nat),.tmp i∈l->i∈DJ l
 |[],_,h=>by cases h
 | x::l,i,h=>by
  rcases eu.1 h with rfl|h
  .simp[DJ]
  .have:=BM l i h;cases x<;>simp[DJ,this]
theorem qa{t b:Nat->AV}:∀(l:List Operand),(∀i,.tmp i∈l->t i=b i)->vQ t l=vQ b l
 |[],_=>rfl
 |x::l,h=>by
  have ih:=qa l λi c=>h i (bY _ c)
  cases x with
  |tmp i=>simp only[vQ,h i (ce),ih]
  |_=>simp only[vQ,ih]
def Dm{t e:Nat->AV}(b:Op)(h:∀i,.tmp i∈b.operands.toList->t i=e i):hU t b=hU e b:=by
 cases b<;>first|exact qa _ h|skip
 case pick c x y=>exact qa [c] λi d=>h i (by simp at d;subst d;exact ce)
def JC{C:a5}{t d:Nat->AV}(b:Op)(h:∀x∈b.operands,bi C t x=bi C d x)(x:Operand)(f:x∈b.operands):gv C t b x=gv C d b x:=by
 have e:=h x f;cases b<;>first|exact am Bz e|skip
 case pick c p q=>show(match Lz c x with|true=>Bz (bi C t x)|false=>bi C t x)=(match Lz c x with|true=>Bz (bi C d x)|false=>bi C d x);rw[e]
variable {all:List Oper}{o:Oper}{s N:Nat}{t tX:Nat->AV}{h h' hX:AH}{a:Act}{w w0:World}{D:Nat->Prop}{S0:Nat->Prop}{S:Nat->Prop}{β:Bt}{R:FuncId->List AV->AV->Prop}{x:AV}
def Th(M:bt C V w0 S0 N D tX hX a w S β)(m:h7 C R all o s t h x h')(r:∀i∈pA all o,tX i=t i)(k:pZ o.op=true->Be β h hX):
  ∃h2,h7 C R all o s tX hX x h2∧Ti h hX s (lZ o.op) β h' h2:=by
 have F:∀i,.tmp i∈o.op.operands.toList->tX i=t i:=λi X=>r i (by simp only[pA,dz];exact .inl (.inr (BM _ i X)));have z:∀x∈o.op.operands,bi C tX x=bi C t x:=λx u=>by
  cases x with
  |tmp i=>exact F i (sU u)
  |_=>rfl
 unfold h7 at m⊢
 cases H:o.guard with
 |none=>
  simp only[H]at m⊢;rw[nL (ev':=bi C tX) o.op λx u=>(z x u).symm]at m
  exact wS o.op (λx _=>sY M x) k m
 | some q=>
  obtain⟨i,Y⟩:=q;simp only[H]at m⊢;obtain⟨d,g,y,I,U,⟨Q,rfl,J⟩|⟨Q,J⟩⟩:=m
  case inr=>
   have O:tX d=t d:=r d (by simp only[pA,H,I,dz];exact .inr (by simp));rw[nL (ev':=bi C tX) o.op λx u=>(z x u).symm]at J;obtain⟨h2,b,B⟩:=wS o.op (λx _=>sY M x) k J;exact⟨h2,⟨d,g,y,I,by rw[O];exact U,.inr ⟨Q,b⟩⟩,B⟩
  have O:tX d=t d:=r d (by simp only[pA,H,I,dz];exact .inr (by simp));have E:hU tX o.op=hU t o.op:=Dm _ F;refine⟨hX,⟨d,g,y,I,by rw[O];exact U,.inl ⟨Q,rfl,?_⟩⟩,Ti.refl⟩;rcases J with ⟨G,c2⟩|⟨c,G,c2,W⟩
  .refine .inl ⟨by rw[E];exact G,λA=>?_⟩;obtain⟨f1,f2⟩:=c2 A;rw[nL (ev':=bi C tX) o.op λx u=>(z x u).symm]at f1 f2;obtain⟨h2,b,_⟩:=wS o.op (λx _=>sY M x) k f2;have T:=JE (C:=C) (s:=s) o.op (λx _=>sY M x) k;have B:bj C (bi C tX) hX s o.op=bj C (bi C tX) h' s o.op:=by
    cases v:bj C (bi C tX) h' s o.op<;>rw[v]at T f1<;>first|exact T|(simp[g8]at f1)
   rw[B]at b⊢;refine⟨f1,?_⟩;cases v:bj C (bi C tX) h' s o.op<;>rw[v]at b f1<;>first|(simp[g8]at f1;done)|skip
   .obtain⟨rfl,rfl⟩:=b;exact⟨rfl,rfl⟩
   .obtain⟨p,rfl,rfl⟩:=b;exact⟨p,rfl,rfl⟩
   .obtain⟨row,e,f,j,rfl⟩:=b;exact⟨row,e,f,j,rfl⟩
   .obtain⟨l,e,f,j,rfl⟩:=b;exact⟨l,e,f,j,rfl⟩
   .obtain⟨e,f,j,P,rfl⟩:=b;exact⟨e,f,j,P,rfl⟩
  .refine .inr ⟨c,by rw[E];exact G,c2,λA=>?_⟩;obtain⟨f1,f2⟩:=W A;rw[nL (ev':=gv C tX o.op) o.op λx u=>(JC o.op z x u).symm]at f1 f2;have L:∀x∈o.op.operands,av S w β (gv C tX o.op x) (a.eval x):=rn M o.op (E.trans G) (c2 A);obtain⟨h2,b,_⟩:=wS o.op L k f2;have T:=JE (C:=C) (s:=s) o.op L k;have B:bj C (gv C tX o.op) hX s o.op=bj C (gv C tX o.op) h' s o.op:=by
    cases v:bj C (gv C tX o.op) h' s o.op<;>rw[v]at T f1<;>first|exact T|(simp[g8]at f1)
   rw[B]at b⊢;refine⟨f1,?_⟩;cases v:bj C (gv C tX o.op) h' s o.op<;>rw[v]at b f1<;>first|(simp[g8]at f1;done)|skip
   .obtain⟨rfl,rfl⟩:=b;exact⟨rfl,rfl⟩
   .obtain⟨p,rfl,rfl⟩:=b;exact⟨p,rfl,rfl⟩
   .obtain⟨row,e,f,j,rfl⟩:=b;exact⟨row,e,f,j,rfl⟩
   .obtain⟨l,e,f,j,rfl⟩:=b;exact⟨l,e,f,j,rfl⟩
   .obtain⟨e,f,j,P,rfl⟩:=b;exact⟨e,f,j,P,rfl⟩
end
end Go.Proofs.YtiaekocjeinkjaaGreatDoor
namespace Go.Proofs.YtiaekocjeinkjaaGreatDoor
open Go.RowKit
def g3(W:Nat->Bool):Nat->Nat
 |0=>0
 |k+1=>match W k with|true=>k+1|false=>g3 W k
theorem DS(W:Nat->Bool):∀k,g3 W k<=k
 |0=>aC _
 |k+1=>by simp only[g3];split<;>have:=DS W k<;>omega
theorem yQ{W:Nat->Bool}:∀(k i:Nat),i<k->W i=true->i+1<=g3 W k
 |0,i,h,_=>by omega
 | k+1,i,h,b=>by
  simp only[g3];split
  .omega
  .rename_i c;by_cases d:i=k
   .subst d;rw[b]at c;cases c
   .exact yQ k i oT b
theorem xn{W:Nat->Bool}:∀(k:Nat),g3 W k=0\/W (g3 W k-1)=true
 |0=>.inl R
 |k+1=>by
  simp only[g3];split
  .rename_i b;exact .inr (sU b)
  .exact xn k
theorem tF{W:Nat->Bool}:∀(k p:Nat),(∀i,i<k->W i=true->i<p)->g3 W k<=p
 |0,_,_=>aE _
 |k+1,p,h=>by
  simp only[g3];split
  .rename_i b;exact h k oT b
  .exact tF k p λi c=>h i oT
def i5(X:Nat->Bool):Nat->Nat
 |0=>0
 |k+1=>(match X k with|true=>0|false=>1)+i5 X k
theorem Eu{X:Nat->Bool}:∀k,i5 X k=0->∀i,i<k->X i=true
 |0,_,i,c=>by omega
 |k+1,h,i,c=>by
  simp only[i5]at h;by_cases b:i=k
  .subst b;cases d:X i<;>rw[d]at h<;>first|rfl|(simp at h;done)|(simp at h;omega)
  .exact Eu k oT i oT
theorem Gv{X Y:Nat->Bool}:∀k,(∀i,i<k->X i=Y i)->i5 X k=i5 Y k
 |0,_=>rfl
 |k+1,h=>by simp only[i5,h k oT,Gv k λi b=>h i oT]
theorem Hq{X Y:Nat->Bool}{j:Nat}(d:X j=false)(f:Y j=true)(b:∀i,i≠j->Y i=X i):∀k,j<k->i5 Y k+1=i5 X k
 |0,h=>by omega
 | k+1,h=>by
  simp only[i5];by_cases c:j=k
  .subst c;rw[d,f,Gv (X:=Y) (Y:=X) j λi g=>b i oT];simp;omega
  .have:=Hq d f b k oT;rw[b k (λe=>c e.symm)];omega
section
variable {C:a5}{V:Inv C.fr}{R:FuncId->List AV->AV->Prop}
def PE{l:List Oper}(D:ns l){i j:Nat}{g:Oper}(d:l[j]?=some g)(m:((yV l []).getD j 0).testBit i=true):i<j:=
 yP (X:=(· <j)) (λk ok p f e c b=>oe (D.back k ok f e c b) p) d (λe c b=>D.back j g d e c b) m
def Ln{l:List Oper}(D:ns l){X:Nat->Prop}(hX:lz l X){i j:Nat}{g k:Oper}(b:l[i]?=some g)(d:l[j]?=some k)(hp:∀e∈k.after.toList,Region.binds .any e=true->X e.on)(f: ¬X j)(ho:JN (yV l []) i j=true):X i↔i<j:=by
 simp only[JN,dE]at ho;rcases ho with ho|ho
 .exact⟨λ_=>PE D d ho,λ_=>yP hX d hp ho⟩
 have q:=PE D b ho;refine⟨λc=>absurd (yP hX b (λe p m=>hX i g c b e p m) ho) f,λh=>by omega⟩
theorem Bw{hh:Nat->AH}{b j:Nat}:∀k,j<=k->(∀i,j<=i->i<k->hh (i+1) b=hh i b)->hh k b=hh j b
 |0,d,_=>by rw[(oT:j=0)]
 | k+1,d,h=>by
  by_cases c:j=k+1
  .rw[c]
  .rw[h k oT oT];exact Bw k oT λi h1 h2=>h i h1 oT
def fo(l:List Oper)(k:Nat):Bool:=match l[k]? with|some o=>lZ o.op|none=>false
def wQ:∀(b:Op),lZ b=true->pZ b=true:=by
 intro b h;cases b<;>first|rfl|(simp[lZ]at h)
structure kw(C:a5)(l:List Oper)(n:Nat)(h:AH)(t:Nat->AV)(xs:Nat->AV)(hh:Nat->AH)(tt:Nat->Nat->AV):Prop where
 D:ns l
 step:∀k o,l[k]?=some o->h7 C (bI C) l o (n+k) (tt k) (hh k) (xs k) (hh (k+1))
 next:∀k o,l[k]?=some o->tt (k+1)=Aa (tt k) o.dst (xs k)
 t0:tt 0=t
 h0:hh 0=h
 new:∀s,n<=s->h s=none
 nH:li C
variable {l:List Oper}{n:Nat}{h:AH}{t xs:Nat->AV}{hh:Nat->AH}{tt:Nat->Nat->AV}
theorem kw.quiet(Z:kw C l n h t xs hh tt){i:Nat}(f:i<l.length)(d:fo l i=false){b:Nat}(e:b≠n+i):hh (i+1) b=hh i b:=by
 refine dw λg=>?_;have c:l[i]?=some l[i]:=aA f;have:=(AC (Z.step i _ c) b e g).1;simp only[fo,c,this]at d;cases d
theorem kw.live(Z:kw C l n h t xs hh tt){i:Nat}(f:i<l.length){b:Nat}(e:b≠n+i)(d:hh i b=none):hh (i+1) b=none:=by
 have g:l[i]?=some l[i]:=aA f;by_cases c:hh (i+1) b=hh i b
 .rw[c,d]
 exact absurd d (AC (Z.step i _ g) b e c).2
theorem kw.fresh(Z:kw C l n h t xs hh tt){b:Nat}(c:n<=b):∀k,k<=l.length->n+k<=b->hh k b=none
 |0,_,_=>by rw[Z.h0];exact Z.new b c
 |k+1,hk,z=>Z.live oT oT (Z.fresh c k oT oT)
structure nq(C:a5)(V:Inv C.fr)(l:List Oper)(n:Nat)(h:AH)(t xs:Nat->AV)(hh:Nat->AH)(w0:World)(S0:Nat->Prop)(N:Nat)(X:Nat->Bool)(a:Act)(w:World):Prop where
 down:lz l (X · =true)
 Zb:∀i,X i=true->i<l.length
 H3:∀k j,X k=true->fo l k=true->X j=false->j<l.length->hh (k+1) (n+j)=hh k (n+j)
 YW:∃S β hX,bt C V w0 S0 N (λs=>s<n∨∃i,X i=true∧s=n+i) (d' X l xs t l.length) hX a w S β∧
  (∀s,s<n->hX s=hh (g3 (λi=>X i&&fo l i) l.length) s)∧
  (∀i,X i=true->hX (n+i)=hh (max (i+1) (g3 (λi=>X i&&fo l i) l.length)) (n+i))
def PF(hC : cb C)(Z:kw C l n h t xs hh tt){ops:Array Oper}(aw:ops.toList=l){w0:World}{S0:Nat->Prop}{N:Nat}(hb:vK N l=true){X Y:Nat->Bool}{a:Act}{w:World}(I:nq C V l n h t xs hh w0 S0 N X a w){j:Nat}{o:Oper}(u:l[j]?=some o)
    (hp:∀e∈o.after.toList,Region.binds .any e=true->X e.on=true) (z:X j=false) (H:Y j=true) (hY:∀i,i≠j->Y i=X i) {K:Act->World->Prop} {Q:Exit->Act->World->Prop} (hK:∀a' w',nq C V l n h t xs hh w0 S0 N Y a' w'->K a' w'):
    if Region.wanted o (yielded ops a.tmps)then o.wp C.P a w K Q∨(o.asks C.P a w∧LetsOut Q)else K (a.put o.dst undef) w:=by
  obtain⟨S,β,hX,M,H1,H2⟩:=I.YW;have al:j<l.length:=(Em.1 u).1;have P: ¬(X j=true):=by rw[z];simp
  have hs:β (n+j)=none:=by
    cases hq:β (n+j)with
    |none=>rfl
    | some O=>
      rcases M.Z2 _ _ hq with h|⟨i,c,f⟩
      · omega
      · have:i=j:=oT
        subst this;rw[z]at c;cases c
  have T:pZ o.op=true->∀k,k<l.length->k≠j->fo l k=true->(X k=true↔k<j):=by
    intro m k B E q;have g:l[k]?=some l[k]:=aA B;have L:lZ l[k].op=true:=by simpa only[fo,g]using q
    exact Ln Z.D I.down g u hp P (Z.D.mem k j _ o g u E L m)
  generalize hP:g3 (λi=>X i&&fo l i) l.length=p at H1 H2;have aO:p<=l.length:=by rw[<-hP];exact DS _ _
  have pj:pZ o.op=true->p<=j:=by
    intro m;rw[<-hP];refine tF _ _ λi c q=>?_;simp only[aP]at q;by_cases f:i=j
    · subst f;rw[z]at q;cases q.1
    · exact(T m i c f q.2).1 q.1
  have pq:pZ o.op=true->∀i,p<=i->i<j->fo l i=false:=by
    intro m i h1 h2
    cases q:fo l i with
    |false=>rfl
    | true=>
      have W:=(T m i oT oT q).2 h2;have:=yQ (W:=λi=>X i&&fo l i) l.length i oT (by simp[W,q]);rw[hP]at this;omega
  have av:pZ o.op=true->∀s,s<n->hX s=hh j s:=by
    intro m s J;rw[H1 s J];exact(Bw j (pj m) λi h1 h2=>Z.quiet oT (pq m i h1 h2) oT).symm
  have ai:pZ o.op=true->∀i,X i=true->i<j->hX (n+i)=hh j (n+i):=by
    intro m i c hij;rw[H2 i c];exact(Bw j (oH (pj m)) λk h1 h2=>Z.quiet oT (pq m k oT h2) oT).symm
  have aC:pZ o.op=true->Be β (hh j) hX:=by
    intro m b O aE E;rcases M.Z2 _ _ aE with aF|⟨i,c,rfl⟩
    · exact av m b aF
    · rcases fb i j with hij|hij
      · exact ai m i c hij
      · exact absurd (Z.fresh oT j oT oT) E
  have az:∀tmp∈pA l o,d' X l xs t l.length tmp=tt j tmp:=by
    intro tmp ax;rw[Et Z.t0 (λk o B=>Z.next k o B) j oT, <-Vw tmp oT];refine uB _ λi oi c r G=>?_;by_cases f:i=j
    · subst f;rw[z];simp
    · have:=Ln Z.D I.down r u hp P (Z.D.slot i j oi o tmp r u f G ax)
      by_cases ab:i<j
      · rw[this.2 ab];simp[ab]
      · have hx: ¬(X i=true):=λh=>ab (this.1 h)
        simp only[ab,decide_false];simpa using hx
  obtain⟨h2,st,v⟩:=Th M (Z.step j o u) az aC;refine xQ hC M hs aw st (wU hb (aB u)) (λi aT d _ G=>BP hb i d G) λa' w' S' aN F=>hK a' w' ?_;have A:∀i,Y i=true↔X i=true∨i=j:=λi=>by
    by_cases f:i=j
    · subst f;simp[H]
    · rw[hY i f];simp[f]
  have aj:hX (n+j)=none:=by
    cases hq:hX (n+j)with
    |none=>rfl
    | some blk=>
      obtain⟨O,_,_,_,hl,_⟩:=M.H.own _ _ hq;rw[hs]at hl;cases hl
  have am:hh j (n+j)=none:=Z.fresh oT j oT oT;have U:h2 (n+j)=hh (j+1) (n+j):=v.1 _ (by rw[aj,am]);refine⟨λk ok B g e f aa=>?_,λi c=>?_,λk i B q c aJ=>?_,S',aN,h2,?_,?_,?_⟩
  · rcases(A k).1 B with B|rfl
    · exact(A _).2 (.inl (I.down k ok B g e f aa))
    · rw[u]at g;injection g with g;subst g
      exact(A _).2 (.inl (hp e f aa))
  · rcases(A i).1 c with c|rfl
    · exact I.Zb i c
    · exact al
  · have W:X i=false:=by
      cases hx:X i with
      |false=>rfl
      |true=>rw[(A i).2 (.inl hx)]at c;cases c
    have hij:i≠j:=λe=>by subst e;rw[H]at c;cases c
    rcases(A k).1 B with B|rfl
    · exact I.H3 k i B q W aJ
    · refine dw λhn=>?_
      obtain⟨_,_,O,hl⟩:=v.2 (n+i) oT (.inl hn);rcases M.Z2 _ _ hl with h|⟨bd,bb,f⟩
      · omega
      · have:bd=i:=oT
        subst this;rw[W]at bb;cases bb
  ·
    have ay:Aa (d' X l xs t l.length) o.dst (xs j)=d' Y l xs t l.length:=by
      funext tmp;by_cases G:o.dst=some tmp
      · rw [G,mw]
        have ar:tmp∈pA l o:=by simp[pA,G]
        rw[DR (X:=Y) (j:=j+1) l.length oT λi oi h1 h2 r ak=>?_]
        · simp only[d',u,H,G,mw]
        · have f:i≠j:=oT
          have:=Ln Z.D I.down r u hp P (Z.D.slot i j oi o tmp r u f ak ar)
          cases hx:Y i with
          |false=>rfl
          | true=>
            rcases(A i).1 hx with h|h
            · have:=this.1 h;omega
            · omega
      · rw[xO G]
        refine uB _ λi oi c r ak=>?_;by_cases f:i=j
        · subst f;rw[u]at r;injection r with r;subst r;exact absurd ak G
        · exact(hY i f).symm
    rw[<-ay];refine⟨F.T,F.H,F.B,λy O hy=>?_,F.df,F.j,F.G,F.nw,F.iv⟩;rcases F.Z2 y O hy with (h|⟨i,c,f⟩)|h
    · exact .inl h
    · exact .inr ⟨i,(A i).2 (.inl c),f⟩
    · exact .inr ⟨j,H,h⟩
  all_goals
    cases q:fo l j with
    | true =>
      have ap:lZ o.op=true:=by simpa only[fo,u]using q
      have m:=wQ _ ap;have an:g3 (λi=>Y i&&fo l i) l.length=j+1:=by
        refine Nat.le_antisymm (tF _ _ λi c ao=>?_) (yQ _ j al (by simp[H,q]));simp only[aP]at ao;rcases(A i).1 ao.1 with h|h
        · have E:i≠j:=λe=>by subst e;rw[z]at h;cases h
          have:=(T m i c E ao.2).1 h;omega
        · omega
      rw[an]
      first
        |(intro s J;exact v.1 s (av m s J))
        | (intro i c
           rcases(A i).1 c with c|rfl
           · rcases fb i j with hij|hij
             · rw[v.1 _ (ai m i c hij),Nat.max_eq_right oT]
             · have E:i≠j:=λe=>by subst e;rw[z]at c;cases c
               have aS:=pj m;rw[Nat.max_eq_left oT];have aI:hh j (n+i)=none:=Z.fresh oT j oT oT;have h3:h2 (n+i)=hX (n+i):=dw λhn=>(v.2 (n+i) oT (.inr hn)).2.1 aI;rw[h3,H2 i c,Nat.max_eq_left oT]
           · rw[U,Nat.max_self])
    | false=>
      have ap:lZ o.op=false:=by simpa only[fo,u]using q
      have an:g3 (λi=>Y i&&fo l i) l.length=p:=by
        rw[<-hP];have:(λi=>Y i&&fo l i)=λi=>X i&&fo l i:=by
          funext i;by_cases f:i=j
          · subst f;simp[q]
          · rw[hY i f]
        rw[this]
      rw[an];have aq:∀b,b≠n+j->h2 b=hX b:=λb aD=>dw λhn=>by
        have:=(v.2 b aD (.inr hn)).1;rw[ap]at this;cases this
      first
        |(intro s J;rw[aq s oT];exact H1 s J)
        | (intro i c
           rcases(A i).1 c with c|rfl
           · have E:i≠j:=λe=>by subst e;rw[z]at c;cases c
             rw[aq _ oT];exact H2 i c
           · rw [U]
             refine(Bw _ (Nat.le_max_left _ _) λk h1 aQ=>?_).symm;have aR:k<p:=oT
             cases L:fo l k with
             |false=>exact Z.quiet oT L oT
             | true=>
               refine I.H3 k i ?_ L z al;rcases xn (W:=λi=>X i&&fo l i) l.length with h0|h0
               · rw[hP]at h0;omega
               · rw[hP]at h0
                 simp only[aP]at h0;by_cases au:k=p-1
                 · rw[au];exact h0.1
                 · have aK:k<l.length:=oT
                   have aL:p-1<l.length:=oT;have g:l[k]?=some l[k]:=aA aK;have ag:l[p-1]?=some l[p-1]:=aA aL;have w1:lZ l[k].op=true:=by simpa only[fo,g]using L
                   have w2:lZ l[p-1].op=true:=by have:=h0.2;simpa only[fo,ag]using this
                   have ho:=Z.D.mem k (p-1) _ _ g ag au w1 (wQ _ w2);simp only[JN,dE]at ho;rcases ho with ho|ho
                   · exact yP I.down ag (λe f aa=>I.down _ _ h0.1 ag e f aa) ho
                   · have:=PE Z.D g ho;omega)
theorem bt.drawn{w0:World}{S0:Nat->Prop}{N:Nat}{D:Nat->Prop}{a:Act}{w:World}{S:Nat->Prop}{β:Bt}(M:bt C V w0 S0 N D t h a w S β)(k:Nat):bt C V w0 S0 N D t h a {w with drawn:=k} S β:=by
 have d:cp S w {w with drawn:=k}:=⟨λ_ _=>rfl,λb c e f j=>⟨c,j,rfl⟩⟩;refine⟨λi=>(M.T i).mono (λ_ h=>h) d (ME.refl _),⟨λs blk p=>?_,M.H.inj,M.H.lt,M.H.ZT⟩,⟨M.B.os,M.B.tape,M.B.output,M.B.size,M.B.block⟩,M.Z2,M.df,M.j,λg cells m=>(M.G g cells m).mono (λ_ h=>h) d (ME.refl _),M.nw,V.heap M.iv rfl⟩;obtain⟨l,c,e,f,q,r,u,v,y,z⟩:=M.H.own s blk p;exact⟨l,c,e,f,q,r,u,v,y,z.mono (λ_ h=>h) d (ME.refl _)⟩
def Gw(hC:cb C)(nH:li C){w0:World}{S0:Nat->Prop}{N:Nat}{ops:Array Oper}(hb:vK N ops.toList=true)(hd:JO ops.toList=true){K:a4->Prop}(hr:jS C (bI C) ops.toList ops.toList 0 ⟨t,h,n⟩ K)
  {a:Act} {w:World} {S:Nat->Prop} {β:Bt} (M:bt C V w0 S0 N (· <n) t h a w S β) {Q:Exit->Act->World->Prop} (hQ:∀st F w' S' al,K st->bt C V w0 S0 N (· <st.n) st.t st.h F w' S' al->Q .normal F w'):
  wpAny C.P .any ops Q ops.size (Array.replicate ops.size false) a {w with drawn:=w.drawn+1}:=by
 obtain⟨xs,hh,tt,e1,e2,T,e4⟩:=Hp nH ops.toList 0 t h hr;simp only[bJ]at T e4;have aa:∀s,n<=s->h s=none:=λs hs=>by
  cases z:h s with
  |none=>rfl
  |some blk=>
   obtain⟨l,_,_,_,Y,_⟩:=M.H.own s blk z;have:s<n:=M.Z2 s l Y;omega
 have Z:kw C ops.toList n h t xs hh tt:=⟨Lm hd,λk o u=>(T k o u).1,λk o u=>(T k o u).2,e1,e2,aa,nH⟩;have hm:ops.toList.length=ops.size:=by simp
 have H:∀(X:Nat->Bool) (a:Act) (w:World),(∀i,i<ops.size->X i=true)->nq C V ops.toList n h t xs hh w0 S0 N X a w->Q .normal a w:=by
  intro X a w m I;obtain⟨S,β,hX,M,H1,H2⟩:=I.YW;have q:∀i,i<ops.toList.length->X i=true:=λi d=>m i (by rw[<-hm];exact d);refine hQ _ a w S β e4 ?_;generalize hP:g3 (λi=>X i&&fo ops.toList i) ops.toList.length=p at H1 H2;have ab:p<=ops.toList.length:=by rw[<-hP];exact DS _ _
  have quiet:∀i,p<=i->i<ops.toList.length->fo ops.toList i=false:=λi h1 h2=>by
   cases G:fo ops.toList i with
   |false=>rfl
   |true=>
    have:=yQ (W:=λi=>X i&&fo ops.toList i) ops.toList.length i h2 (by simp[q i h2,G]);rw[hP]at this;omega
  have hT:d' X ops.toList xs t ops.toList.length=tt ops.toList.length:=by
   rw[Et Z.t0 (λk o u=>Z.next k o u) _ (aC _)];funext tmp;exact uB _ λi o d _ _=>q i d
  have hH:hX=hh ops.toList.length:=by
   funext b;rcases fb b n with hbn|hbn
   .rw[H1 b hbn];exact(Bw _ ab λi h1 h2=>Z.quiet h2 (quiet i h1 h2) oT).symm
   .rcases fb b (n+ops.toList.length)with hb2|hb2
    .obtain⟨i,rfl⟩:∃i,b=n+i:=⟨b-n,oT⟩;have d:i<ops.toList.length:=oT;rw[H2 i (q i d)];exact(Bw _ oT λk h1 h2=>Z.quiet h2 (quiet k oT h2) oT).symm
    .rw[Z.fresh hbn _ (aC _) hb2]
     cases z:hX b with
     |none=>rfl
     |some blk=>
      obtain⟨l,_,_,_,Y,_⟩:=M.H.own b blk z;rcases M.Z2 b l Y with h|⟨i,d,B⟩
      .omega
      .have:=I.Zb i d;omega
  rw[<-hT, <-hH];refine⟨M.T,M.H,M.B,λx l hx=>?_,M.df,M.j,M.G,M.nw,M.iv⟩;show x<n+ops.toList.length;rcases M.Z2 x l hx with h|⟨i,d,B⟩
  .omega
  .have:=I.Zb i d;omega
 have done:∀(c:Array Bool),c.size=ops.size->Region.ready .any ops c=[]->∀i,i<ops.size->c.getD i false=true:=by
  intro c y v i d
  induction i using Nat.strongRecOn with
  | _ i ih=>
   cases z:c.getD i false with
   |true=>rfl
   | false=>
    exfalso;have r:i∈Region.ready .any ops c:=by
     refine mem_ready.2 ⟨?_,ops[i],aT d,λe B A=>?_⟩
     .have:i<c.size:=oT;rw[aK,aT this]at z⊢;exact z
     .have:=Z.D.back i ops[i] (by rw[bQ,aT d]) e (sU B) A;exact ih e.on this oT
    rw[v]at r;cases r
 have ai:∀(fuel:Nat) (c:Array Bool) (a:Act) (w:World),c.size=ops.size->i5 (λi=>c.getD i false) ops.size=fuel->nq C V ops.toList n h t xs hh w0 S0 N (λi=>c.getD i false) a w->wpAny C.P .any ops Q fuel c a w:=by
  intro fuel
  induction fuel with
  | zero=>
   intro c a w y hc I;have m:=Eu _ hc;refine⟨?_,H _ a w m I⟩
   cases hr:Region.ready .any ops c with
   |nil=>rfl
   |cons i rest=>
    exfalso;have r:i∈Region.ready .any ops c:=by rw[hr];exact ce
    obtain⟨h1,o,E,_⟩:=mem_ready.1 r;have d:i<ops.size:=(DP.1 E).1;have h2:=m i d;have:i<c.size:=oT;rw[aK,aT this]at h1 h2;simp only[gI]at h1 h2
    rw[h1]at h2;cases h2
  | succ fuel ih=>
   intro c a w y hc I;refine⟨λv=>H _ a w (done c y v) I,λj W=>?_⟩;obtain⟨h1,o,E,ag⟩:=mem_ready.1 W;have aj:j<ops.size:=(DP.1 E).1;have P:j<c.size:=oT;have ak:ops.toList[j]?=some o:=by rw[bQ];exact E
   have L:c.getD j false=false:=by
    rw[aK,aT P]at h1⊢;exact h1
   have O:(c.setIfInBounds j true).getD j false=true:=by
    rw[aK,cZ P];rfl
   have hY:∀i,i≠j->(c.setIfInBounds j true).getD i false=c.getD i false:=λi d=>by
    rw[aK,aK,cY (Ne.symm d)]
   unfold wpOp;simp only[E];refine PF (X:=λi=>c.getD i false) (Y:=λi=>(c.setIfInBounds j true).getD i false) hC Z rfl hb I ak (λe B A=>ag e (sU B) A) L O hY λF w' I'=>?_;refine ih _ F w' (by simp[y]) ?_ I';have:=Hq (X:=λi=>c.getD i false) (Y:=λi=>(c.setIfInBounds j true).getD i false) L O hY ops.size aj;omega
 have f:∀i,(Array.replicate ops.size false).getD i false=false:=λi=>by
  rw[aK];by_cases d:i<ops.size
  .simp[d]
  .rw[iE (sU d)];rfl
 have J:(λi=>(Array.replicate ops.size false).getD i false)=λ_=>false:=funext f;have U:∀k,i5 (λi=>(Array.replicate ops.size false).getD i false) k=k:=by
  rw[J];intro k
  induction k with
  |zero=>rfl
  |succ k ih=>simp only[i5,ih];omega
 refine ai ops.size _ a _ (by simp) (U _) ⟨λj oj W=>?_,λi d=>?_,λk j u=>?_,S,β,h,?_,λs hs=>?_,λi d=>?_⟩
 .have:=(f j).symm.trans W;cases this
 .have:=(f i).symm.trans d;cases this
 .have:=(f k).symm.trans u;cases this
 .have hv:d' (λi=>(Array.replicate ops.size false).getD i false) ops.toList xs t ops.toList.length=t:=by
   have:∀k,d' (λi=>(Array.replicate ops.size false).getD i false) ops.toList xs t k=t:=by
    intro k
    induction k with
    |zero=>rfl
    |succ k ih=>
     rw[J]at ih⊢;simp only[d'];split<;>exact ih
   exact this _
  rw[hv];have g:=M.drawn (w.drawn+1);exact⟨g.T,g.H,g.B,λx l hx=>.inl (g.Z2 x l hx),g.df,g.j,g.G,g.nw,g.iv⟩
 .have:g3 (λi=>(Array.replicate ops.size false).getD i false&&fo ops.toList i) ops.toList.length=0:=by
   refine Nat.le_zero.1 (tF _ _ λi _ G=>?_);have h1:=f i;rw[h1]at G;simp at G
  rw[this,e2]
 .have:=(f i).symm.trans d;cases this
end
def ly(l:List Nat)(β:Bt):Bt:=λs=>if s∈l then β s else none
theorem CN{c:Type}{f g:Nat->List c}:∀(l:List Nat),(∀i∈l,f i=g i)->l.flatMap f=l.flatMap g
 |[],_=>rfl
 |x::l,h=>by rw[gW,gW,h x ce,CN l λi b=>h i (bY _ b)]
theorem xN:∀(b:List AV) (i:Nat) (a:AV) (s:Nat),b[i]?=some a->s∈jA a->s∈zO b
 |[],i,a,s,h,_=>by simp at h
 |c::b,0,a,s,h,d=>by simp at h;subst h;simp[zO,d]
 |c::b,i+1,a,s,h,d=>by simp only[zO,dz];exact .inr (xN b i a s (sU h) d)
def Td{S:Nat->Prop}{w:World}{β:Bt}{a:AV}{x:Value}(h:av S w β a x):∀{d:Bt},(∀s∈jA a,∀l,β s=some l->d s=some l)->av S w d a x:=by
 induction h with
 |v x=>intro d _;exact .v x
 |agg r B k h1 h ih=>intro d j;exact .agg r B k h1 λi a u h1 h2=>ih i a u h1 h2 λs m=>j s (xN r i a s h1 m)
 |F r B k h ih=>intro d j;exact .F r B k λi a u h1 h2=>ih i a u h1 h2 λs m=>j s (xN r i a s h1 m)
 |Y rs rows q A c b o u G I y z F L h1 J ih=>intro d _;exact .Y rs rows q A c b o u G I y z F L h1 J
 |k rs p row b o u z j L h1 J ih=>intro d _;exact .k rs p row b o u z j L h1 J
 |ptr s p l k=>intro d j;exact .ptr s p l (j s (by simp[jA]) _ k)
 |x s row p l k=>intro d j;exact .x s row p l (j s (by simp[jA]) _ k)
 |X s lo len q l A c k G I y F r e T j M=>intro d P;exact .X s lo len q l A c (P s (by simp[jA]) _ k) G I y F r e T j M
 |a f first E B U k h O h' ih Q=>intro d j;exact .a f first E B U k (λi a u h1 h2=>ih i a u h1 h2 λs m=>j s (by simp only[jA,dz];exact .inl (xN _ i a s h1 m))) O λi a u h1 h2=>Q i a u h1 h2 λs m=>j s (by simp only[jA,dz];exact .inr (xN _ i a s h1 m))
 |Zr g a x H h ih=>intro d j;exact .Zr g a x H (ih λs m=>j s (by simpa [jA]using m))
 |Zm g a H=>intro d _;exact .Zm g a H
 |any x=>intro d _;exact .any x
def Pz{S:Nat->Prop}{w:World}{β:Bt}{l:List Nat}{a:AV}{x:Value}(h:av S w β a x)(d:∀s∈jA a,s∈l):av S w (ly l β) a x:=
 Td h λs e b c=>by show(if s∈l then β s else none)=some b;rw[aa (d s e)];exact c
theorem Ep:∀(l:List Value) (s:Nat),s ∉ zO (l.map ml)
 |[],s=>by simp[zO]
 |v::l,s=>by
  simp only[jC,zO,dz,not_or];refine⟨?_,Ep l s⟩;unfold ml;split<;>simp[jA]
def Oi(v:Value)(s:Nat):s ∉ jA (Pq v):=by
 unfold Pq;split
 .simp[jA]
 .split
  .simp only[jA];exact Ep _ s
  simp[jA]
 simp[jA]
def PA{C:a5}{t:Nat->AV}{x:Operand}{s:Nat}(h:s∈jA (bi C t x)):∃i,x=.tmp i/\s∈jA (t i):=by
 cases x with
 |tmp i=>exact⟨i,R,h⟩
 |const v=>exact absurd h (Oi v s)
 |global g=>
  have h:s∈jA (match C.G g with|some cells=>.k cells.length 0 cells|none=>.any):=h
  split at h<;>simp[jA]at h
 |func f=>simp[bi,jA,zO]at h
def Hn{C:a5}{t:Nat->AV}{o:Oper}{x:Operand}{s:Nat}(b:x∈o.op.operands)(h:s∈jA (bi C t x)):s∈oV t o:=by
 obtain⟨i,rfl,h⟩:=PA h;exact List.mem_flatMap.2 ⟨i,BM _ i (sU b),h⟩
def Er{x:AV}{s:Nat}(h:s∈jA (Bz x)):s∈jA x:=by
 cases x<;>first|exact h|simpa [jA,Bz]using h
def PB{C:a5}{t:Nat->AV}(d:Op){x:Operand}{s:Nat}(h:s∈jA (gv C t d x)):s∈jA (bi C t x):=by
 cases d<;>first|exact Er h|skip
 case pick c a b=>
  have h:s∈jA (match Lz c x with|true=>Bz (bi C t x)|false=>bi C t x):=h;split at h
  .exact Er h
  exact h
section
variable {C:a5}{V:Inv C.fr}
def Te{ev:Operand->AV}{h:AH}{s:Nat}(B:Op):(∀p x h',bj C ev h s B=.fx p x h'->∀b,b≠s->h' b≠h b->∃x∈B.operands,b∈jA (ev x))/\
    (∀rows i f,bj C ev h s B=.ZS rows i f->∀row h',f row=some h'->∀b,b≠s->h' b≠h b->∃x∈B.operands,b∈jA (ev x)):=by
  have u:∀(blk:Option a') b,b≠s->an h s blk b≠h b->False:=λblk b q j=>j (cI _ _ q);have set:∀(F:Nat) (blk:Option a') b,an h F blk b≠h b->b=F:=λF blk b j=>dw λe=>j (cI _ _ e);have U:∀(x:Option AV) p y h',et x≠ .fx p y h':=λx p y h' I=>by cases x<;>simp[et]at I
  have W:∀(x:Option AV) rows i f,et x≠ .ZS rows i f:=λx rows i f I=>by cases x<;>simp[et]at I
  constructor
  · intro p x h' d b q j
    cases B<;>simp only[bj]at d
    case makeFunc G a c=>cases G<;>cases d
    case store t a v=>
      (repeat' split at d)<;>first|(cases d;done)|skip
      rename_i Q _ _ _ _ _;injection d with _ _ d;subst d;exact⟨a,by simp[Op.operands],by rw[Q,set _ _ _ j];simp[jA]⟩
    case convert src aa x=>
      simp only[FM,DF]at d
      (repeat' split at d)<;>first|(cases d;done)|skip
      injection d with _ _ d;subst d;exact(u _ b q j).elim
    case makeSlice t l c=>
      simp only[JM]at d
      (repeat' split at d)<;>first|(cases d;done)|skip
      injection d with _ _ d;subst d;exact(u _ b q j).elim
    case alloc t=>
      split at d
      · injection d with _ _ d;subst d
        exact(u _ b q j).elim
      · cases d
    case box t x=>
      split at d
      · injection d with _ _ d;subst d
        exact(u _ b q j).elim
      · cases d
    case call c =>
      obtain⟨k,args,E⟩:=c
      cases k with
      |value f=>simp only at d;split at d<;>cases d
      |invoke r m=>cases d
      | builtin P=>
        simp only at d;cases P<;>try (simp only[bR]at d;cases d;done)
        case append=>
          match g:args.toList.map ev with
          |[]=>rw[g]at d;simp only[bR]at d;cases d
          |[_]=>rw[g]at d;simp only[bR]at d;cases d
          |_::_::_::_=>rw[g]at d;simp only[bR]at d;cases d
          | [z,O]=>
            rw[g]at d;simp only[bR]at d;have T:∀(Z ry:Option (Nat×List (List AV))) (blk:Option a') (X Y:Prop),blk=DG h z->qG C s E.toList z Z ry blk X Y h=.fx p x h'->b∈jA z:=by
              intro Z ry blk X Y ab d;unfold qG at d
              (repeat' split at d)<;>first|(cases d;done)|skip
              · injection d with _ _ d;subst d;exact(u _ b q j).elim
              · injection d with _ _ d;subst d;exact(u _ b q j).elim
              · injection d with _ _ d;subst d;exact(u _ b q j).elim
              · injection d with _ _ d;subst d
                rw[cI _ _ q]at j;rw[set _ _ _ j];simp[jA]
            obtain⟨M,J,L⟩:=pG.1 (show z∈args.toList.map ev by rw[g];simp);exact⟨M,by simp[Op.operands,Call.operands];simpa using J,by rw[L];exact T _ _ _ _ _ R d⟩
        case copy=>
          match g:args.toList.map ev with
          |[]=>rw[g]at d;simp only[bR]at d;cases d
          |[_]=>rw[g]at d;simp only[bR]at d;cases d
          |_::_::_::_=>rw[g]at d;simp only[bR]at d;cases d
          | [z,O]=>
            rw[g]at d;simp only[bR,EB]at d
            (repeat' split at d)<;>first|(cases d;done)|skip
            injection d with _ _ d;subst d;obtain⟨M,J,L⟩:=pG.1 (show AV.X _ _ _ _∈args.toList.map ev by rw[g];exact ce);exact⟨M,by simp[Op.operands,Call.operands];simpa using J,by rw[L,set _ _ _ j];simp[jA]⟩
        case len=>
          match g:args.toList.map ev with
          |[]=>rw[g]at d;simp only[bR]at d;cases d
          |_::_::_=>rw[g]at d;simp only[bR]at d;cases d
          | [z]=>
            rw[g]at d
            match H:E.toList with
            |[]=>rw[H]at d;simp only[bR]at d;cases d
            |_::_::_=>rw[H]at d;simp only[bR]at d;cases d
            | [ag]=>
              rw[H]at d;simp only[bR,TA]at d
              (repeat' split at d)<;>cases d
        case min=>
          match g:args.toList.map ev with
          |[]=>rw[g]at d;simp only[bR]at d;cases d
          |[_]=>rw[g]at d;simp only[bR]at d;cases d
          |_::_::_::_=>rw[g]at d;simp only[bR]at d;cases d
          | [z,O]=>
            rw[g]at d;simp only[bR,TB]at d
            (repeat' split at d)<;>cases d
        case max=>
          match g:args.toList.map ev with
          |[]=>rw[g]at d;simp only[bR]at d;cases d
          |[_]=>rw[g]at d;simp only[bR]at d;cases d
          |_::_::_::_=>rw[g]at d;simp only[bR]at d;cases d
          | [z,O]=>
            rw[g]at d;simp only[bR,TC]at d
            (repeat' split at d)<;>cases d
    all_goals first
      | (simp only[v6,BX,tG,TD,j5,BU,Tz,HE,Ty,BT,HG,uQ,BV,oJ,Ab,iW,pN,BW,rY]at d
         (repeat' split at d)<;>first|(cases d;done)|(exact absurd d (U _ _ _ _)))
      |((repeat' split at d)<;>first|(cases d;done)|(exact absurd d (U _ _ _ _)))
      |(cases d;done)
  · intro rows i f d row h' A b q j
    cases B<;>simp only[bj]at d
    case makeFunc G a c=>cases G<;>cases d
    case store t a v=>
      (repeat' split at d)<;>first|(cases d;done)|skip
      all_goals
        injection d with _ _ d;subst d;dsimp only at A
        (repeat' split at A)<;>first
          |(cases A;done)
          | (injection A with A
             subst A;refine⟨a,by simp[Op.operands],?_⟩;rw[set _ _ _ j]
             simp_all[jA])
    case call c=>
      obtain⟨k,args,E⟩:=c
      cases k with
      |value f=>simp only at d;split at d<;>cases d
      |invoke r m=>cases d
      | builtin P=>
        exfalso;simp only at d;unfold bR at d;simp only[TA,TB,TC,EB,qG]at d
        (repeat' split at d)<;>cases d
    all_goals first
      | (simp only[v6,BX,tG,TD,j5,BU,Tz,HE,Ty,BT,HG,FM,DF,JM,uQ,BV,oJ,Ab,iW,pN,BW,rY]at d
         (repeat' split at d)<;>first|(cases d;done)|(exact absurd d (W _ _ _ _)))
      |((repeat' split at d)<;>first|(cases d;done)|(exact absurd d (W _ _ _ _)))
      |(cases d;done)
def Oj{R:FuncId->List AV->AV->Prop}{all:List Oper}{o:Oper}{s:Nat}{t:Nat->AV}{h h':AH}{x:AV}(c:h7 C R all o s t h x h'):∀b,b≠s->h' b≠h b->b∈oV t o:=by
 intro b r j;have m:(∃x∈o.op.operands,b∈jA (bi C t x))->b∈oV t o:=λ⟨x,h1,h2⟩=>Hn h1 h2;unfold h7 at c;have k:jq C R h (bj C (bi C t) h s o.op) x h'->b∈oV t o:=λc=>by
  obtain⟨v,z⟩:=Te (C:=C) (ev:=bi C t) (h:=h) (s:=s) o.op
  cases e:bj C (bi C t) h s o.op with
  |bad=>rw[e]at c;exact c.elim
  |ok y=>rw[e]at c;obtain⟨_,rfl⟩:=c;exact absurd rfl j
  |Z9 p y=>rw[e]at c;obtain⟨_,_,rfl⟩:=c;exact absurd rfl j
  |idx rows i f=>rw[e]at c;obtain⟨_,_,_,_,rfl⟩:=c;exact absurd rfl j
  |str p rows=>rw[e]at c;obtain⟨_,_,_,_,rfl⟩:=c;exact absurd rfl j
  |call f args=>rw[e]at c;obtain⟨_,_,_,_,rfl⟩:=c;exact absurd rfl j
  |fx p y h2=>rw[e]at c;obtain⟨_,_,rfl⟩:=c;exact m (v p y h' e b r j)
  |ZS rows i f=>rw[e]at c;obtain⟨row,_,_,A,_⟩:=c;exact m (z rows i f e row h' A b r j)
 cases u:o.guard with
 |some q=>
  obtain⟨i,B⟩:=q;simp only[u]at c;obtain⟨d,g,y,_,_,⟨_,rfl,_⟩|⟨_,c⟩⟩:=c
  .exact absurd rfl j
  .exact k c
 |none=>simp only[u]at c;exact k c
variable {all:List Oper}{o:Oper}{s N:Nat}{t tX:Nat->AV}{h h' hX:AH}{a:Act}{w w0:World}{D:Nat->Prop}{S0:Nat->Prop}{S:Nat->Prop}{β:Bt}{R:FuncId->List AV->AV->Prop}{x:AV}
def PC(M:bt C V w0 S0 N D tX hX a w S β)(r:h7 C R all o s t h x h')(u:∀i∈pA all o,tX i=t i)(m:pZ o.op=true->Be (ly (oV tX o) β) h hX):
  ∃h2,h7 C R all o s tX hX x h2∧Ti h hX s (lZ o.op) (ly (oV tX o) β) h' h2:=by
 have G:∀i,.tmp i∈o.op.operands.toList->tX i=t i:=λi Z=>u i (by simp only[pA,dz];exact .inl (.inr (BM _ i Z)));have A:∀x∈o.op.operands,bi C tX x=bi C t x:=λx e=>by
  cases x with
  |tmp i=>exact G i (sU e)
  |_=>rfl
 have v:∀x∈o.op.operands,av S w (ly (oV tX o) β) (bi C tX x) (a.eval x):=λx e=>Pz (sY M x) λs Q=>Hn e Q;unfold h7 at r⊢
 cases I:o.guard with
 |none=>
  simp only[I]at r⊢;rw[nL (ev':=bi C tX) o.op λx e=>(A x e).symm]at r
  exact wS o.op v m r
 | some q=>
  obtain⟨i,aa⟩:=q;simp only[I]at r⊢;obtain⟨d,g,y,J,X,⟨W,rfl,L⟩|⟨W,L⟩⟩:=r
  case inr=>
   have P:tX d=t d:=u d (by simp only[pA,I,J,dz];exact .inr (by simp));rw[nL (ev':=bi C tX) o.op λx e=>(A x e).symm]at L;obtain⟨h2,b,E⟩:=wS o.op v m L;exact⟨h2,⟨d,g,y,J,by rw[P];exact X,.inr ⟨W,b⟩⟩,E⟩
  have P:tX d=t d:=u d (by simp only[pA,I,J,dz];exact .inr (by simp));have F:hU tX o.op=hU t o.op:=Dm _ G;refine⟨hX,⟨d,g,y,J,by rw[P];exact X,.inl ⟨W,rfl,?_⟩⟩,Ti.refl⟩;rcases L with ⟨H,c2⟩|⟨c,H,c2,Y⟩
  .refine .inl ⟨by rw[F];exact H,λB=>?_⟩;obtain⟨f1,f2⟩:=c2 B;rw[nL (ev':=bi C tX) o.op λx e=>(A x e).symm]at f1 f2;obtain⟨h2,b,_⟩:=wS o.op v m f2;have T:=JE (C:=C) (s:=s) o.op v m;have E:bj C (bi C tX) hX s o.op=bj C (bi C tX) h' s o.op:=by
    cases z:bj C (bi C tX) h' s o.op<;>rw[z]at T f1<;>first|exact T|(simp[g8]at f1)
   rw[E]at b⊢;refine⟨f1,?_⟩;cases z:bj C (bi C tX) h' s o.op<;>rw[z]at b f1<;>first|(simp[g8]at f1;done)|skip
   .obtain⟨rfl,rfl⟩:=b;exact⟨rfl,rfl⟩
   .obtain⟨p,rfl,rfl⟩:=b;exact⟨p,rfl,rfl⟩
   .obtain⟨row,f,j,k,rfl⟩:=b;exact⟨row,f,j,k,rfl⟩
   .obtain⟨l,f,j,k,rfl⟩:=b;exact⟨l,f,j,k,rfl⟩
   .obtain⟨f,j,k,U,rfl⟩:=b;exact⟨f,j,k,U,rfl⟩
  .refine .inr ⟨c,by rw[F];exact H,c2,λB=>?_⟩;obtain⟨f1,f2⟩:=Y B;rw[nL (ev':=gv C tX o.op) o.op λx e=>(JC o.op A x e).symm]at f1 f2;have O:∀x∈o.op.operands,av S w (ly (oV tX o) β) (gv C tX o.op x) (a.eval x):=λx e=>Pz (rn M o.op (F.trans H) (c2 B) x e) λs Q=>Hn e (PB o.op Q);obtain⟨h2,b,_⟩:=wS o.op O m f2;have T:=JE (C:=C) (s:=s) o.op O m;have E:bj C (gv C tX o.op) hX s o.op=bj C (gv C tX o.op) h' s o.op:=by
    cases z:bj C (gv C tX o.op) h' s o.op<;>rw[z]at T f1<;>first|exact T|(simp[g8]at f1)
   rw[E]at b⊢;refine⟨f1,?_⟩;cases z:bj C (gv C tX o.op) h' s o.op<;>rw[z]at b f1<;>first|(simp[g8]at f1;done)|skip
   .obtain⟨rfl,rfl⟩:=b;exact⟨rfl,rfl⟩
   .obtain⟨p,rfl,rfl⟩:=b;exact⟨p,rfl,rfl⟩
   .obtain⟨row,f,j,k,rfl⟩:=b;exact⟨row,f,j,k,rfl⟩
   .obtain⟨l,f,j,k,rfl⟩:=b;exact⟨l,f,j,k,rfl⟩
   .obtain⟨f,j,k,U,rfl⟩:=b;exact⟨f,j,k,U,rfl⟩
end
structure nt(l:List Oper)(tE:Nat->AV):Prop where
 back:∀j oj,l[j]?=some oj->∀e∈oj.after.toList,Region.binds .any e=true->e.on<j
 late:∀(j:Nat) (oj:Oper) (k:Nat) (ok:Oper) (d:Nat),l[j]?=some oj->l[k]?=some ok->pZ oj.op=true->j<=k->ok.dst=some d->d ∉ DJ oj.op.operands.toList
 slot:∀i j oi oj d,l[i]?=some oi->l[j]?=some oj->i≠j->oi.dst=some d->d∈pA l oj->JN (yV l []) i j=true
 mem:∀i j oi oj b,l[i]?=some oi->l[j]?=some oj->i≠j->lZ oi.op=true->pZ oj.op=true->b∈oV tE oi->b∈oV tE oj->JN (yV l []) i j=true
def Tf{a b:List Nat}{x:Nat}(c:x∈a)(d:x∈b):meets a b=true:=
 Mv.2 ⟨x,c,Mv.2 ⟨x,d,by simp⟩⟩
def JB{l:List Oper}{u:Nat->AV}(h:HQ l u=true):nt l u:=by
  have g:∀j c,l[j]?=some c->((c.after.toList.all λe=> !Region.binds .any e||Nat.blt e.on j)=true/\(!pZ c.op||(l.drop j).all λo=>match o.dst with|none=>true|some d=> !(DJ c.op.operands.toList).contains d)=true)/\∀i m,l[i]?=some m->(i==j||
          ((match m.dst with|none=>true|some d=> !(pA l c).contains d||JN (yV l []) i j)&&
           (!(lZ m.op&&pZ c.op&&meets (oV u m) (oV u c))||JN (yV l []) i j)))=true:=by
    intro j c f;have F:j<l.length:=(Em.1 f).1;have h1:=rC.1 h j (sU F);simp only[f,aP]at h1;refine⟨h1.1,λi m p=>?_⟩;have E:i<l.length:=(Em.1 p).1;have h2:=rC.1 h1.2 i (sU E);simp only[p]at h2;exact h2
  refine⟨λj c f e H q=>?_,λj c k ok d f I G P v L=>?_,λi j m c d p f r v J=>?_,λi j m c b p f r O M A B=>?_⟩
  · have:=rC.1 (g j c f).1.1 e H
    simp only[q,mD,jD]at this;exact aJ this
  · have y:ok∈l.drop j:=aB (i:=k-j) (by rw[cL,(oT:j+(k-j)=k)];exact I)
    have z:=(g j c f).1.2;simp only[G,mD,jD]at z;have:=rC.1 z ok y;simp only[v]at this;rw[(sU L:(DJ c.op.operands.toList).contains d=true)]at this;cases this
  · have:=(g j c f).2 i m p
    have q:(i==j)=false:=sU r;simp only[q,jD,aP,v]at this;have h1:=this.1;rw[(sU J:(pA l c).contains d=true)]at h1;simpa using h1
  have:=(g j c f).2 i m p;have q:(i==j)=false:=sU r;simp only[q,jD,aP]at this;have h1:=this.2;rw[O,M,Tf A B]at h1;simpa using h1
section
variable {C:a5}{V:Inv C.fr}{R:FuncId->List AV->AV->Prop}
def PD{l:List Oper}{q:Nat->AV}(D:nt l q){i j:Nat}{g:Oper}(d:l[j]?=some g)(m:((yV l []).getD j 0).testBit i=true):i<j:=
 yP (X:=(· <j)) (λk ok p f e c b=>oe (D.back k ok f e c b) p) d (λe c b=>D.back j g d e c b) m
def Ho{l:List Oper}{q:Nat->AV}(D:nt l q){X:Nat->Prop}(hX:lz l X){i j:Nat}{g k:Oper}(b:l[i]?=some g)(d:l[j]?=some k)(hp:∀e∈k.after.toList,Region.binds .any e=true->X e.on)(f: ¬X j)(ho:JN (yV l []) i j=true):X i↔i<j:=by
 simp only[JN,dE]at ho;rcases ho with ho|ho
 .exact⟨λ_=>PD D d ho,λ_=>yP hX d hp ho⟩
 have r:=PD D b ho;refine⟨λc=>absurd (yP hX b (λe p m=>hX i g c b e p m) ho) f,λh=>by omega⟩
structure j7(C:a5)(l:List Oper)(n:Nat)(h:AH)(t:Nat->AV)(xs:Nat->AV)(hh:Nat->AH)(tt:Nat->Nat->AV)(tb:Nat->Nat->Bool):Prop where
 D:nt l (tt l.length)
 step:∀k o,l[k]?=some o->h7 C (bI C) l o (n+k) (tt k) (hh k) (xs k) (hh (k+1))
 next:∀k o,l[k]?=some o->tt (k+1)=Aa (tt k) o.dst (xs k)
 t0:tt 0=t
 h0:hh 0=h
 new:∀s,n<=s->h s=none
 tb:∀b i,tb b i=true↔hh (i+1) b≠hh i b
 nH:li C
variable {l:List Oper}{n:Nat}{h:AH}{t xs:Nat->AV}{hh:Nat->AH}{tt:Nat->Nat->AV}{tb:Nat->Nat->Bool}
theorem j7.live(Z:j7 C l n h t xs hh tt tb){i:Nat}(f:i<l.length){b:Nat}(e:b≠n+i)(d:hh i b=none):hh (i+1) b=none:=by
 have g:l[i]?=some l[i]:=aA f;by_cases c:hh (i+1) b=hh i b
 .rw[c,d]
 exact absurd d (AC (Z.step i _ g) b e c).2
theorem j7.fresh(Z:j7 C l n h t xs hh tt tb){b:Nat}(c:n<=b):∀k,k<=l.length->n+k<=b->hh k b=none
 |0,_,_=>by rw[Z.h0];exact Z.new b c
 |k+1,hk,z=>Z.live oT oT (Z.fresh c k oT oT)
theorem j7.still(Z:j7 C l n h t xs hh tt tb){b j k:Nat}(c:j<=k)(e:∀i,j<=i->i<k->tb b i=false):hh k b=hh j b:=
 Bw k c λi h1 h2=>dw λd=>by
  have:=e i h1 h2;rw[(Z.tb b i).2 d]at this;cases this
theorem j7.at(Z:j7 C l n h t xs hh tt tb){j:Nat}{o:Oper}(c:l[j]?=some o)(e:pZ o.op=true):oV (tt l.length) o=oV (tt j) o:=by
 have p:j<l.length:=(Em.1 c).1;have f:∀i∈DJ o.op.operands.toList,∀k,j<=k->k<=l.length->tt k i=tt j i:=by
  intro i b k
  induction k with
  |zero=>intro h1 _;rw[(oT:j=0)]
  | succ k ih=>
   intro h1 h2;by_cases m:j=k+1
   .rw[m]
   .have d:l[k]?=some l[k]:=aA oT;rw[Z.next k _ d,xO (λg=>Z.D.late j o k _ i c d e oT g b)];exact ih oT oT
 unfold oV;exact CN _ λi b=>by rw[f i b l.length oT (aC _)]
structure nr(C:a5)(V:Inv C.fr)(l:List Oper)(n:Nat)(h:AH)(t xs:Nat->AV)(hh:Nat->AH)(tb:Nat->Nat->Bool)(w0:World)(S0:Nat->Prop)(N:Nat)(X:Nat->Bool)(a:Act)(w:World):Prop where
 down:lz l (X · =true)
 Zb:∀i,X i=true->i<l.length
 H3:∀k i,X k=true->tb (n+i) k=true->k=i∨X i=true
 YW:∃S β hX,bt C V w0 S0 N (λs=>s<n∨∃i,X i=true∧s=n+i) (d' X l xs t l.length) hX a w S β∧∀b,hX b=hh (g3 (λi=>X i&&tb b i) l.length) b
def Ok(hC:cb C)(Z:j7 C l n h t xs hh tt tb){ops:Array Oper}(aw:ops.toList=l){w0:World}{S0:Nat->Prop}{N:Nat}(hb:vK N l=true){X Y:Nat->Bool}{a:Act}{w:World}(I:nr C V l n h t xs hh tb w0 S0 N X a w){j:Nat}{o:Oper}(v:l[j]?=some o)
  (hp:∀e∈o.after.toList,Region.binds .any e=true->X e.on=true) (ak:X j=false) (aa:Y j=true) (hY:∀i,i≠j->Y i=X i) {K:Act->World->Prop} {Q:Exit->Act->World->Prop} (hK:∀a' w',nr C V l n h t xs hh tb w0 S0 N Y a' w'->K a' w'):
  if Region.wanted o (yielded ops a.tmps)then o.wp C.P a w K Q∨(o.asks C.P a w∧LetsOut Q)else K (a.put o.dst undef) w:=by
 obtain⟨S,β,hX,M,H1⟩:=I.YW;have ar:j<l.length:=(Em.1 v).1;have z: ¬(X j=true):=by rw[ak];simp
 have hs:β (n+j)=none:=by
  cases hq:β (n+j)with
  |none=>rfl
  | some c=>
   rcases M.Z2 _ _ hq with h|⟨i,q,f⟩
   .omega
   .have:i=j:=oT;subst this;rw[ak]at q;cases q
 have am:∀tmp∈pA l o,d' X l xs t l.length tmp=tt j tmp:=by
  intro tmp ay;rw[Et Z.t0 (λk o g=>Z.next k o g) j oT, <-Vw tmp oT];refine uB _ λi oi q r H=>?_;by_cases f:i=j
  .subst f;rw[ak];simp
  .have:=Ho Z.D I.down r v hp z (Z.D.slot i j oi o tmp r v f H ay);by_cases E:i<j
   .rw[this.2 E];simp[E]
   .have hx: ¬(X i=true):=λh=>E (this.1 h);simp only[E,decide_false];simpa using hx
 have ab:oV (d' X l xs t l.length) o=oV (tt j) o:=by
  unfold oV;exact CN _ λi q=>by rw[am i (by simp only[pA,dz];exact .inl (.inr q))]
 have ag:pZ o.op=true->∀b c,β b=some c->b∈oV (tt j) o->hh j b≠none->hX b=hh j b∧∀k,X k=true->tb b k=true->k<j:=by
  intro hr b c A aF aE;have an:∀k,k<l.length->k≠j->tb b k=true->(X k=true↔k<j):=by
   intro k g aj u;have p:l[k]?=some l[k]:=aA g;by_cases aq:b=n+k
   .have aJ:k<j:=Nat.lt_of_not_le λaN=>aE (Z.fresh oT j oT oT);refine⟨λ_=>aJ,λ_=>?_⟩;rcases M.Z2 _ _ A with h|⟨i,q,f⟩
    .omega
    .have:i=k:=oT;subst this;exact q
   .have U:=(Z.tb b k).1 u;have av:=(AC (Z.step k _ p) b aq U).1;have aK:=Oj (Z.step k _ p) b aq U;exact Ho Z.D I.down p v hp z (Z.D.mem k j _ o b p v aj av hr (by rw[Z.at p (wQ _ av)];exact aK) (by rw[Z.at v hr];exact aF))
  have lt:∀k,X k=true->tb b k=true->k<j:=λk g u=>(an k (I.Zb k g) (λe=>by subst e;exact z g) u).1 g;refine⟨?_,lt⟩;rw[H1 b];have ax:g3 (λi=>X i&&tb b i) l.length<=j:=tF _ _ λi q hw=>by
   simp only[aP]at hw;exact lt i hw.1 hw.2
  refine(Z.still ax λi h1 h2=>?_).symm
  cases au:tb b i with
  |false=>rfl
  |true=>
   have aC:=(an i oT oT au).2 h2;have:=yQ (W:=λi=>X i&&tb b i) l.length i oT (by simp[aC,au]);omega
 have aD:pZ o.op=true->Be (ly (oV (d' X l xs t l.length) o) β) (hh j) hX:=by
  intro hr b c A aj;have A:(if b∈oV (d' X l xs t l.length) o then β b else none)=some c:=A;split at A
  .rename_i hm;rw[ab]at hm;exact(ag hr b c A hm aj).1
  .cases A
 obtain⟨h2,st,J⟩:=PC M (Z.step j o v) am aD;have L:∀b,b≠n+j->(hh (j+1) b≠hh j b∨h2 b≠hX b)->(∃c,β b=some c)∧hX b=hh j b∧∀k,X k=true->tb b k=true->k<j:=by
  intro b m hc;obtain⟨q1,q2,c,q3⟩:=J.2 b m hc;have q3:(if b∈oV (d' X l xs t l.length) o then β b else none)=some c:=q3;split at q3
  .rename_i hm;rw[ab]at hm;exact⟨⟨c,q3⟩,ag (wQ _ q1) b c q3 hm q2⟩
  .cases q3
 refine xQ hC M hs aw st (wU hb (aB v)) (λi aO d _ H=>BP hb i d H) λa' w' S' aL G=>hK a' w' ?_;have B:∀i,Y i=true↔X i=true∨i=j:=λi=>by
  by_cases f:i=j
  .subst f;simp[aa]
  .rw[hY i f];simp[f]
 have O:hX (n+j)=none:=by
  cases hq:hX (n+j)with
  |none=>rfl
  |some blk=>
   obtain⟨c,_,_,_,hl,_⟩:=M.H.own _ _ hq;rw[hs]at hl;cases hl
 have P:hh j (n+j)=none:=Z.fresh oT j oT oT;have W:h2 (n+j)=hh (j+1) (n+j):=J.1 _ (by rw[O,P]);refine⟨λk ok g p e f ap=>?_,λi q=>?_,λk i g u=>?_,S',aL,h2,?_,λb=>?_⟩
 .rcases(B k).1 g with g|rfl
  .exact(B _).2 (.inl (I.down k ok g p e f ap))
  .rw[v]at p;injection p with p;subst p;exact(B _).2 (.inl (hp e f ap))
 .rcases(B i).1 q with q|rfl
  .exact I.Zb i q
  .exact ar
 .rcases(B k).1 g with g|rfl
  .rcases I.H3 k i g u with h|h
   .exact .inl h
   .exact .inr ((B i).2 (.inl h))
  .by_cases aI:k=i
   .exact .inl aI
   .obtain⟨⟨c,hl⟩,_⟩:=L (n+i) oT (.inl ((Z.tb _ _).1 u));rcases M.Z2 _ _ hl with h|⟨bd,bb,f⟩
    .omega
    .have:bd=i:=oT;subst this;exact .inr ((B _).2 (.inl bb))
 .have az:Aa (d' X l xs t l.length) o.dst (xs j)=d' Y l xs t l.length:=by
   funext tmp;by_cases H:o.dst=some tmp
   .rw[H,mw];have ao:tmp∈pA l o:=by simp[pA,H]
    rw[DR (X:=Y) (j:=j+1) l.length oT λi oi h1 h2 r ai=>?_]
    .simp only[d',v,aa,H,mw]
    .have f:i≠j:=oT;have:=Ho Z.D I.down r v hp z (Z.D.slot i j oi o tmp r v f ai ao)
     cases hx:Y i with
     |false=>rfl
     |true=>
      rcases(B i).1 hx with h|h
      .have:=this.1 h;omega
      .omega
   .rw[xO H];refine uB _ λi oi q r ai=>?_;by_cases f:i=j
    .subst f;rw[v]at r;injection r with r;subst r;exact absurd ai H
    .exact(hY i f).symm
  rw[<-az];refine⟨G.T,G.H,G.B,λy c hy=>?_,G.df,G.j,G.G,G.nw,G.iv⟩;rcases G.Z2 y c hy with (h|⟨i,q,f⟩)|h
  .exact .inl h
  .exact .inr ⟨i,(B i).2 (.inl q),f⟩
  .exact .inr ⟨j,aa,h⟩
 .cases F:tb b j with
  | true=>
   have E:∀k,X k=true->tb b k=true->k<j:=by
    intro k g u;by_cases m:b=n+j
    .subst m;rcases I.H3 k j g u with h|h
     .subst h;exact absurd g z
     .exact absurd h z
    .exact(L b m (.inl ((Z.tb _ _).1 F))).2.2 k g u
   have hL:g3 (λi=>Y i&&tb b i) l.length=j+1:=by
    refine Nat.le_antisymm (tF _ _ λi q al=>?_) (yQ _ j ar (by simp[aa,F]));simp only[aP]at al;rcases(B i).1 al.1 with h|h
    .have:=E i h al.2;omega
    .omega
   rw[hL];by_cases m:b=n+j
   .rw[m];exact W
   .exact J.1 b (L b m (.inl ((Z.tb _ _).1 F))).2.1
  | false=>
   have T:hh (j+1) b=hh j b:=dw λU=>by
    rw[(Z.tb b j).2 U]at F;cases F
   have hW:(λi=>Y i&&tb b i)=λi=>X i&&tb b i:=by
    funext i;by_cases f:i=j
    .subst f;simp[F]
    .rw[hY i f]
   rw[hW, <-H1 b];by_cases m:b=n+j
   .rw[m,W,O, <-m,T,m,P]
   .refine dw λU=>?_;have h5:=(L b m (.inr U)).2.1;exact U ((J.1 b h5).trans (T.trans h5.symm))
def Es(hC:cb C)(nH:li C){w0:World}{S0:Nat->Prop}{N:Nat}{ops:Array Oper}(hb:vK N ops.toList=true){K:a4->Prop}(hr:jS C (bI C) ops.toList ops.toList 0 ⟨t,h,n⟩ (λst=>HQ ops.toList st.t=true∧K st))
  {a:Act} {w:World} {S:Nat->Prop} {β:Bt} (M:bt C V w0 S0 N (· <n) t h a w S β) {Q:Exit->Act->World->Prop} (hQ:∀st A w' S' ak,K st->bt C V w0 S0 N (· <st.n) st.t st.h A w' S' ak->Q .normal A w'):
  wpAny C.P .any ops Q ops.size (Array.replicate ops.size false) a {w with drawn:=w.drawn+1}:=by
 obtain⟨xs,hh,tt,e1,e2,P,B⟩:=Hp nH ops.toList 0 t h hr;simp only[bJ]at P B;have W:∀s,n<=s->h s=none:=λs hs=>by
  cases F:h s with
  |none=>rfl
  |some blk=>
   obtain⟨l,_,_,_,hl,_⟩:=M.H.own s blk F;have:s<n:=M.Z2 s l hl;omega
 obtain⟨hd,B⟩:=B;obtain⟨tb,ai⟩:∃tb:Nat->Nat->Bool,∀b i,tb b i=true↔hh (i+1) b≠hh i b:=⟨λb i=> @decide _ (Classical.propDecidable (hh (i+1) b≠hh i b)),λb i=>by simp⟩;have Z:j7 C ops.toList n h t xs hh tt tb:=⟨JB hd,λk o q=>(P k o q).1,λk o q=>(P k o q).2,e1,e2,W,ai,nH⟩;have hm:ops.toList.length=ops.size:=by simp
 have G:∀(X:Nat->Bool) (a:Act) (w:World),(∀i,i<ops.size->X i=true)->nr C V ops.toList n h t xs hh tb w0 S0 N X a w->Q .normal a w:=by
  intro X a w m I;obtain⟨S,β,hX,M,H1⟩:=I.YW;have u:∀i,i<ops.toList.length->X i=true:=λi f=>m i (by rw[<-hm];exact f);refine hQ _ a w S β B ?_;have hT:d' X ops.toList xs t ops.toList.length=tt ops.toList.length:=by
   rw[Et Z.t0 (λk o q=>Z.next k o q) _ (aC _)];funext tmp;exact uB _ λi o f _ _=>u i f
  have hH:hX=hh ops.toList.length:=by
   funext b;rw[H1 b];refine(Z.still (DS _ _) λi h1 h2=>?_).symm
   cases aj:tb b i with
   |false=>rfl
   |true=>
    have:=yQ (W:=λi=>X i&&tb b i) ops.toList.length i h2 (by simp[u i h2,aj]);omega
  rw[<-hT, <-hH];refine⟨M.T,M.H,M.B,λx l hx=>?_,M.df,M.j,M.G,M.nw,M.iv⟩;show x<n+ops.toList.length;rcases M.Z2 x l hx with h|⟨i,f,E⟩
  .omega
  .have:=I.Zb i f;omega
 have done:∀(c:Array Bool),c.size=ops.size->Region.ready .any ops c=[]->∀i,i<ops.size->c.getD i false=true:=by
  intro c v r i f
  induction i using Nat.strongRecOn with
  | _ i ih=>
   cases F:c.getD i false with
   |true=>rfl
   | false=>
    exfalso;have p:i∈Region.ready .any ops c:=by
     refine mem_ready.2 ⟨?_,ops[i],aT f,λe E y=>?_⟩
     .have:i<c.size:=oT;rw[aK,aT this]at F⊢;exact F
     .have:=Z.D.back i ops[i] (by rw[bQ,aT f]) e (sU E) y;exact ih e.on this oT
    rw[r]at p;cases p
 have aa:∀(fuel:Nat) (c:Array Bool) (a:Act) (w:World),c.size=ops.size->i5 (λi=>c.getD i false) ops.size=fuel->nr C V ops.toList n h t xs hh tb w0 S0 N (λi=>c.getD i false) a w->wpAny C.P .any ops Q fuel c a w:=by
  intro fuel
  induction fuel with
  | zero=>
   intro c a w v hc I;have m:=Eu _ hc;refine⟨?_,G _ a w m I⟩
   cases hr:Region.ready .any ops c with
   |nil=>rfl
   |cons i rest=>
    exfalso;have p:i∈Region.ready .any ops c:=by rw[hr];exact ce
    obtain⟨h1,o,z,_⟩:=mem_ready.1 p;have f:i<ops.size:=(DP.1 z).1;have h2:=m i f;have:i<c.size:=oT;rw[aK,aT this]at h1 h2;simp only[gI]at h1 h2
    rw[h1]at h2;cases h2
  | succ fuel ih=>
   intro c a w v hc I;refine⟨λr=>G _ a w (done c v r) I,λj U=>?_⟩;obtain⟨h1,o,z,Y⟩:=mem_ready.1 U;have ab:j<ops.size:=(DP.1 z).1;have O:j<c.size:=oT;have ag:ops.toList[j]?=some o:=by rw[bQ];exact z
   have J:c.getD j false=false:=by
    rw[aK,aT O]at h1⊢;exact h1
   have L:(c.setIfInBounds j true).getD j false=true:=by
    rw[aK,cZ O];rfl
   have hY:∀i,i≠j->(c.setIfInBounds j true).getD i false=c.getD i false:=λi f=>by
    rw[aK,aK,cY (Ne.symm f)]
   unfold wpOp;simp only[z];refine Ok (X:=λi=>c.getD i false) (Y:=λi=>(c.setIfInBounds j true).getD i false) hC Z rfl hb I ag (λe E y=>Y e (sU E) y) J L hY λA w' I'=>?_;refine ih _ A w' (by simp[v]) ?_ I';have:=Hq (X:=λi=>c.getD i false) (Y:=λi=>(c.setIfInBounds j true).getD i false) J L hY ops.size ab;omega
 have d:∀i,(Array.replicate ops.size false).getD i false=false:=λi=>by
  rw[aK];by_cases f:i<ops.size
  .simp[f]
  .rw[iE (sU f)];rfl
 have H:(λi=>(Array.replicate ops.size false).getD i false)=λ_=>false:=funext d;have T:∀k,i5 (λi=>(Array.replicate ops.size false).getD i false) k=k:=by
  rw[H];intro k
  induction k with
  |zero=>rfl
  |succ k ih=>simp only[i5,ih];omega
 refine aa ops.size _ a _ (by simp) (T _) ⟨λj oj U=>?_,λi f=>?_,λk j q=>?_,S,β,h,?_,λs=>?_⟩
 .have:=(d j).symm.trans U;cases this
 .have:=(d i).symm.trans f;cases this
 .have:=(d k).symm.trans q;cases this
 .have hv:d' (λi=>(Array.replicate ops.size false).getD i false) ops.toList xs t ops.toList.length=t:=by
   have:∀k,d' (λi=>(Array.replicate ops.size false).getD i false) ops.toList xs t k=t:=by
    intro k
    induction k with
    |zero=>rfl
    |succ k ih=>
     rw[H]at ih⊢;simp only[d'];split<;>exact ih
   exact this _
  rw[hv];have g:=M.drawn (w.drawn+1);exact⟨g.T,g.H,g.B,λx l hx=>.inl (g.Z2 x l hx),g.df,g.j,g.G,g.nw,g.iv⟩
 .have:g3 (λi=>(Array.replicate ops.size false).getD i false&&tb s i) ops.toList.length=0:=by
   refine Nat.le_zero.1 (tF _ _ λi _ hw=>?_);have h1:=d i;rw[h1]at hw;simp at hw
  rw[this,e2]
end
def rU(N:Nat):Code->Bool
 | .region _ ops dr=>vK N ops.toList&&(!dr||FN ops.toList||JO ops.toList)
 | .seq a b=>rU N a&&rU N b
 | .cond _ a b=>rU N a&&rU N b
 | .block _ b=>rU N b
 | .loop b=>rU N b
 |_=>true
def Gq:c8->Exit
 | .normal=>.normal
 | .exit i=>.exit i
 | .ret=>.ret
def pe(C:a5)(V:Inv C.fr)(w0:World)(S0:Nat->Prop)(N:Nat)(Q:c8->a4->Prop)(e:Exit)(a:Act)(w:World):Prop:=∃b st S β,e=Gq b/\Q b st/\bt C V w0 S0 N (· <st.n) st.t st.h a w S β
section
variable {C:a5}{V:Inv C.fr}{N:Nat}{w0:World}{S0:Nat->Prop}
theorem pJ(σ:Nat->Nat):∀(b:List AV) (i:Nat),(Bg σ b)[i]?=(b[i]?).map (uW σ)
 |[],i=>by simp[Bg]
 |c::b,0=>by simp[Bg]
 |c::b,i+1=>by simp[Bg,pJ σ b i]
theorem tS(σ:Nat->Nat):∀(b:List AV),(Bg σ b).length=b.length
 |[]=>rfl
 |c::b=>by simp[Bg,tS σ b]
theorem tD(n:Nat):∀(b:List AV),mS n b=true->∀(i:Nat) a,b[i]?=some a->mR n a=true
 |[],_,i,a,h=>by simp at h
 | c::b,d,i,a,e=>by
  simp only[mS]at d;split at d
  .rename_i f
   cases i with
   |zero=>simp at e;subst e;exact f
   |succ i=>exact tD n b d i a (sU e)
  .cases d
theorem Gr:∀(b:List AV) (i:Nat) a,b[i]?=some a->SizeOf.sizeOf a<SizeOf.sizeOf b
 |[],i,a,h=>by simp at h
 |c::b,0,a,h=>by simp at h;subst h;simp;omega
 |c::b,i+1,a,h=>by
  have:=Gr b i a (sU h);simp;omega
def Bv{S:Nat->Prop}{w:World}{β:Bt}{n:Nat}{σ:Nat->Nat}:∀(k:Nat) (a:AV) (v:Value),SizeOf.sizeOf a<=k->mR n a=true->av S w β (uW σ a) v->av S w (λs=>if s<n then β (σ s)else none) a v:=by
 intro k
 induction k with
 |zero=>intro a v F;cases a<;>simp at F
 | succ k ih=>
  intro a v F m d;have G:∀s l,Nat.blt s n=true->β (σ s)=some l->(λs=>if s<n then β (σ s)else none) s=some l:=λs l h1 h2=>by
   have:s<n:=aJ h1;simp only[this,fD,h2]
  have z:∀(j:List AV) (H:Array Value),SizeOf.sizeOf j<=k->mS n j=true->(∀(i:Nat) a u,(Bg σ j)[i]?=some a->H[i]?=some u->av S w β a u)->∀(i:Nat) a u,j[i]?=some a->H[i]?=some u->av S w (λs=>if s<n then β (σ s)else none) a u:=by
   intro j H hs m h i a u p q;have:=Gr j i a p;exact ih a u oT (tD n j m i a p) (h i (uW σ a) u (by rw[pJ,p];rfl) q)
  cases a with
  |v x=>
   simp only[uW]at d;cases d
   exact .v _
  |agg j=>
   simp only[uW]at d
   cases d with
   |agg _ B y h1 h=>exact .agg j B (by rw[<-tS σ j];exact y) h1 (z j B (by simp at F;omega) (by simpa [mR]using m) h)
  |F j=>
   simp only[uW]at d
   cases d with
   |F _ B y h=>exact .F j B (by rw[<-tS σ j];exact y) (z j B (by simp at F;omega) (by simpa [mR]using m) h)
  |Y rs rows E=>
   simp only[uW]at d
   cases d with
   |Y _ _ _ A c b o u M P I J L Q h1 d=>exact .Y rs rows E A c b o u M P I J L Q h1 d
  |k rs U row=>
   simp only[uW]at d
   cases d with
   |k _ _ _ b o u J m Q h1 d=>exact .k rs U row b o u J m Q h1 d
  |ptr s c=>
   simp only[uW]at d
   cases d with
   |ptr _ _ l y=>exact .ptr s c l (G s l m y)
  |x s r c=>
   simp only[uW]at d
   cases d with
   |x _ _ _ l y=>exact .x s r c l (G s l m y)
  |X s lo len E=>
   simp only[uW]at d
   cases d with
   |X _ _ _ _ l A c y M P I L j e Y W T=>exact .X s lo len E l A c (G s l m y) M P I L j e Y W T
  | a f a b=>
   simp only[uW]at d;simp only[mR]at m;split at m
   .rename_i Z
    cases d with
    |a _ _ _ B H y h X h'=>exact .a f a b B H (by rw[<-tS σ a];exact y) (z a B (by simp at F;omega) Z h) (by rw[<-tS σ b];exact X) (z b H (by simp at F;omega) m h')
   .cases m
  |ZY g x=>
   simp only[uW]at d
   cases d with
   |Zr _ _ _ O h=>exact .Zr g x v O (ih x v (by simp at F;omega) (by simpa [mR]using m) h)
   |Zm _ _ O=>exact .Zm g x O
  |any=>exact .any v
def pK{st b:a4}{σ:Nat->Nat}(W:di st b σ)(L:ef C.fr σ b.n=true){a:Act}{w:World}{S:Nat->Prop}{β:Bt}(M:bt C V w0 S0 N (· <st.n) st.t st.h a w S β):bt C V w0 S0 N (· <b.n) b.t b.h a w S (λs=>if s<b.n then β (σ s)else none):=by
 refine⟨λi=>?_,⟨λs blk k=>?_,λs z l X h1 h2 H I g=>?_,M.H.lt,M.H.ZT⟩,M.B,λx l y=>?_,M.df,M.j,M.G,M.nw,V.Zd M.iv L⟩
 .rcases W.t i with h|⟨h,g⟩
  .rw[h];exact .any _
  .have:=M.T i;rw[h]at this;exact Bv _ _ _ (aC _) g this
 .obtain⟨h1,h2,f⟩:=W.h s blk k;obtain⟨l,G,e,J,O,P,Q,T,U,d⟩:=M.H.own _ _ h2;refine⟨l,G,e,J,by simp only[h1,fD];exact O,P,Q,T,U,?_⟩
  cases blk with
  |box cells=>
   intro j a c;obtain⟨u,m,p,q⟩:=d j (uW σ a) (by rw[pJ,c];rfl)
   exact⟨u,m,p,Bv _ _ _ (aC _) (tD _ cells (by simpa [qM]using f) j a c) q⟩
  |arr rows rs=>exact d
  |row cells=>
   refine⟨d.1,λj a c=>?_⟩;obtain⟨u,m,p,q⟩:=d.2 j (uW σ a) (by rw[pJ,c];rfl);exact⟨u,m,p,Bv _ _ _ (aC _) (tD _ cells (by simpa [qM]using f) j a c) q⟩
 .have get:∀s l,b.h s≠none->(if s<b.n then β (σ s)else none)=some l->st.h (σ s)≠none/\β (σ s)=some l:=by
   intro s l k r
   cases v:b.h s with
   |none=>exact absurd v k
   |some blk=>
    obtain⟨h1,h2,f⟩:=W.h s blk v;rw[aa h1]at r;exact⟨by rw[h2];simp,r⟩
  obtain⟨A,B⟩:=get s l h1 H;obtain⟨E,F⟩:=get z X h2 I;exact W.inj s z h1 h2 (M.H.inj _ _ _ _ A E B F g)
 .show x<b.n;by_cases h:x<b.n
  .exact h
  .simp only[h,eE]at y;cases y
def Hm{fz:Fz}{S I:Nat->Prop}{w:World}{β:Bt}(U:∀b,S b->I b)
  (hz:∀x rs rows,fz=some (x,rs,rows)->∀l,β x=some l->I l.l/\∃f e J,w.heap[l.l]?=some (.cells f e J)/\Bf S w β l f (.arr rows rs)):
  ∀{a b:AV} {v:Value},e4 fz a b->av S w β a v->av I w β b v:=by
 intro a b v ag
 induction ag generalizing v with
 |refl a=>intro h;exact h.mono U (cp.refl _ _) (ME.refl _)
 |any a=>intro _;exact .any _
 | nil rs c=>
  intro h
  cases h with
  |Y _ _ _ A Q b o u g E m O F hw h1 z=>
   exact .Y rs [] c A Q b o u g E (λ_=>m R) (λ_ h=>by cases h) (λh=>absurd h (iI 0)) (λi row j a h=>by simp at h) h1 λi row j a h=>by simp at h
 |Yy rs A k c hk g=>
  intro h;cases lV h
  exact .Y rs [] c A k 0 0 (λ_ _=>.bool false) (aE _) hk g (λ_ h=>by cases h) (λh=>absurd h (iI 0)) (λi row j a h=>by simp at h) (λ_ _=>rfl) λi row j a h=>by simp at h
 | clip rs rows=>
  intro h
  cases h with
  |Y _ _ _ A Q b o u g E m O F hw h1 z=>
   exact(av.Y rs rows false A Q b o u g E (λh=>by cases h) O F hw h1 z).mono U (cp.refl _ _) (ME.refl _)
 |YB s lo len=>
  intro h
  cases h with
  |X _ _ _ _ l A c r g E m F f e J G H=>exact .X s lo len false l A c r g E (λh=>by cases h) F f e J G H
 | Y2 b rs lo len rows c c' bd r bb=>
  intro h
  cases h with
  | X _ _ _ _ l A b4 y g E m F L e0 cf M H=>
   obtain⟨ab,f,e,J,G,k1,k2,k3⟩:=hz b rs rows bd l y;rw[M]at G;injection G with G;injection G with q1 q2 q3;subst q1;subst q2;subst q3;have B:((rows.drop lo).take len).length=len:=by rw[aM,bD];omega
   have get:∀(i:Nat) row,((rows.drop lo).take len)[i]?=some row->rows[lo+i]?=some row:=λi row d=>by
    have ai:i<len:=oH ((Em.1 d).1)
    rwa [cU,aa ai,cL]at d
   have P:=av.Y (S:=I) (w:=w) (β:=β) rs ((rows.drop lo).take len) c' A b4 l.l (l.base+lo*l.rs) (λi j=>if(L[l.base+(lo+i)*rs+j]?.getD (.bool false)).oneCell'=true then L[l.base+(lo+i)*rs+j]?.getD (.bool false)else .bool false)
    (by rw[B];exact g) E (λh=>by rw[B];exact m (bb h)) (λrow z=>k2 row (eT (cQ z)))
    (λh0=>⟨F oT,ab⟩) (λi row j a d W=>?_) (λi j=>?_) (λi row j a d W=>?_)
   .rw[B]at P;exact P
   .obtain⟨u,X,Y,p3⟩:=k3 (lo+i) row j a (get i row d) W;rw[gP M,k1,show l.base+lo*rs+i*rs+j=l.base+(lo+i)*rs+j by rw[cG];omega,X];simp[Y]
   .split
    .assumption
    .rfl
   .obtain⟨u,X,Y,p3⟩:=k3 (lo+i) row j a (get i row d) W;simp only[X,gI,Y,fD]
    exact p3.mono U (cp.refl _ _) (ME.refl _)
 | agg f T r h ih=>
  intro z
  cases z with
  |agg _ Z y h1 h'=>
   refine .agg T Z (r ▸ y) h1 λi a u p q=>?_;have d:i<f.length:=by rw[r];exact(Em.1 p).1
   exact ih i f[i] a (aA d) p (h' i _ u (aA d) q)
 | F f T r h ih=>
  intro z
  cases z with
  |F _ Z y h'=>
   refine .F T Z (r ▸ y) λi a u p q=>?_;have d:i<f.length:=by rw[r];exact(Em.1 p).1
   exact ih i f[i] a (aA d) p (h' i _ u (aA d) q)
def Py{fz:Fz}{S y:Nat->Prop}{w:World}{β:Bt}(v:∀b,S b->y b)
  (F:∀x rs rows,fz=some (x,rs,rows)->∀l,β x=some l->y l.l/\∃r e G,w.heap[l.l]?=some (.cells r e G)/\Bf S w β l r (.arr rows rs))
  {A B:a'} {l:Loc} {r:Array Value} (h:eg fz A B) (k:Bf S w β l r A):Bf y w β l r B:=by
 cases h with
 |refl=>exact k.mono v (cp.refl _ _) (ME.refl _)
 |box c d z hh=>
  intro j a f;have g:j<c.length:=by rw[z];exact(Em.1 f).1
  obtain⟨u,m,p,q⟩:=k j c[j] (aA g)
  exact⟨u,m,p,Hm v F (hh j _ a (aA g) f) q⟩
 |row c d z hh=>
  refine⟨k.1,λj a f=>?_⟩;have g:j<c.length:=by rw[z];exact(Em.1 f).1
  obtain⟨u,m,p,q⟩:=k.2 j c[j] (aA g)
  exact⟨u,m,p,Hm v F (hh j _ a (aA g) f) q⟩
 |YN c=>
  refine⟨k.1,λj a f=>?_⟩;obtain⟨u,m,p,q⟩:=k.2.2 j [a] 0 a (by rw[aX,f];rfl) R;rw[iD,iU]at m
  exact⟨u,m,p,q.mono v (cp.refl _ _) (λs l x=>by cases x)⟩
 | YO c H=>
  refine⟨k.1,λrow I=>?_,λi row j a g f=>?_⟩
  .obtain⟨x,_,rfl⟩:=pG.1 I;rfl
  .rw[aX]at g;obtain⟨x,E,rfl⟩:=Gi.1 g
   cases j with
   |zero=>
    simp only[cP,jc]at f;subst f;obtain⟨u,m,p,q⟩:=k.2 i x E
    exact⟨u,by rw[iD,iU];exact m,p,(mB q (H x (aB E)) cy).mono v (cp.refl _ _) (ME.refl _)⟩
   |succ j=>simp at f
theorem kx.YS{st b:a4}{fz:Fz}(f:kx st b fz)(s:Nat)(h:b.h s≠none):st.h s≠none:=by
 cases c:b.h s with
 |none=>exact absurd c h
 |some blk=>obtain⟨_,d,e,_⟩:=f.h s blk c;rw[e];simp
def Ll{st m:a4}{fz:Fz}(c:kx st m fz){a:Act}{w:World}{S:Nat->Prop}{β:Bt}(M:bt C V w0 S0 N (· <st.n) st.t st.h a w S β):∃S',bt C V w0 S0 N (· <m.n) m.t m.h a w S' β:=by
 cases fz with
 |none=>
  have p:∀x rs rows,(none:Fz)=some (x,rs,rows)->∀l,β x=some l->S l.l/\∃d e j,w.heap[l.l]?=some (.cells d e j)/\Bf S w β l d (.arr rows rs):=λ_ _ _ h=>by cases h
  refine⟨S,λi=>Hm (λ_ h=>h) p (c.t i) (M.T i),⟨λs blk G=>?_,λs u l P h1 h2=>M.H.inj s u l P (c.YS s h1) (c.YS u h2),M.H.lt,M.H.ZT⟩,M.B,by rw[c.n];exact M.Z2,M.df,M.j,M.G,M.nw,M.iv⟩;obtain⟨_,f,v,k⟩:=c.h s blk G;obtain⟨l,d,e,j,B,H,I,J,L,O⟩:=M.H.own s f v
  exact⟨l,d,e,j,B,H,I,J,L,Py (λ_ h=>h) p k O⟩
 | some z=>
  obtain⟨x,rs,rows⟩:=z;have Y:=c.b x rs rows R;obtain⟨E,T,ex,U,Q,Z,x3,x4,x5,x6⟩:=M.H.own x _ Y;have F:∀b,S b->S b\/b=E.l:=λ_ h=>.inl h;have p:∀y r rows',some (x,rs,rows)=some (y,r,rows')->∀l,β y=some l->(S l.l\/l.l=E.l)/\∃d e j,w.heap[l.l]?=some (.cells d e j)/\Bf S w β l d (.arr rows' r):=λy r rows' h l A=>by
   simp only[jc,Prod.mk.injEq]at h;obtain⟨rfl,rfl,rfl⟩:=h;rw[Q]at A;injection A with A;subst A;exact⟨.inr R,T,ex,U,Z,x6⟩
  refine⟨λb=>S b\/b=E.l,λi=>Hm F p (c.t i) (M.T i),⟨λs blk G=>?_,λs u l P h1 h2=>M.H.inj s u l P (c.YS s h1) (c.YS u h2),λb k=>k.elim (M.H.lt b) λe=>e ▸ fJ Z,M.H.ZT⟩,M.B,by rw[c.n];exact M.Z2,M.df,M.j,λg cells W=>(M.G g cells W).mono F (cp.refl _ _) (ME.refl _),λb k=>k.elim (M.nw b) λe=>.inr (e ▸ x4),V.Y2 M.iv Q⟩;obtain⟨X,f,v,k⟩:=c.h s blk G;obtain⟨l,d,e,j,B,H,I,J,L,O⟩:=M.H.own s f v;refine⟨l,d,e,j,B,H,I,J,λh=>h.elim L λq=>?_,Py F p k O⟩;exact X x rs rows R (M.H.inj s x l E (by rw[v];simp) (by rw[Y];simp) B Q q)
def nK{st b:a4}(e:j9 st b):∀{a:Act} {w:World} {S:Nat->Prop} {β:Bt},bt C V w0 S0 N (· <st.n) st.t st.h a w S β->∃c,bt C V w0 S0 N (· <b.n) b.t b.h a w c β:=by
 induction e with
 |refl=>intro a w S β M;exact⟨S,M⟩
 |step fz h k ih=>intro a w S β M;obtain⟨c,d⟩:=Ll h M;exact ih d
theorem cb.ZZ(h:cb C):cb C.ZZ:=⟨h.ty,h.mixed,λ_ _ _ _ _ h=>h.elim⟩
theorem bt.ZZ{D:Nat->Prop}{t:Nat->AV}{h:AH}{a:Act}{w:World}{S:Nat->Prop}{β:Bt}(M:bt C V w0 S0 N D t h a w S β):bt C.ZZ V w0 S0 N D t h a w S β:=⟨M.T,M.H,M.B,M.Z2,M.df,M.j,M.G,M.nw,M.iv⟩
theorem bt.ZI{D:Nat->Prop}{t:Nat->AV}{h:AH}{a:Act}{w:World}{S:Nat->Prop}{β:Bt}(M:bt C.ZZ V w0 S0 N D t h a w S β):bt C V w0 S0 N D t h a w S β:=⟨M.T,M.H,M.B,M.Z2,M.df,M.j,M.G,M.nw,M.iv⟩
theorem CL(G:cb C)(T:li C){ops:Array Oper}(B:vK N ops.toList=true){K:a4->Prop}{Q:Exit->Act->World->Prop}{n:Nat}(H:∀st q w' z p,K st->bt C V w0 S0 N (· <st.n) st.t st.h q w' z p->Q .normal q w'):
  ∀(fuel:Nat) (b:Array Bool) (t:Nat->AV) (h:AH) (a:Act) (w:World) (S:Nat->Prop) (β:Bt),b.size=ops.size->Wx C (bI C) ops K fuel b ⟨t,h,n⟩->bt C V w0 S0 N (λs=>s<n\/∃i,b.getD i false=true/\s=n+i) t h a w S β->wpAny C.P .any ops Q fuel b a w
 | 0,b,t,h,a,w,S,β,v,g,M=>by
  refine⟨g.1,H _ a w S β g.2 ⟨M.T,M.H,M.B,λy l F=>?_,M.df,M.j,M.G,M.nw,M.iv⟩⟩;show y<n+ops.size;rcases M.Z2 y l F with h|⟨i,hi,rfl⟩
  .omega
  .rcases fb i b.size with k|k
   .omega
   .rw[aK,iE k]at hi;cases hi
 | fuel+1,b,t,h,a,w,S,β,v,g,M=>by
  refine⟨λZ=>absurd Z g.1,λi hi=>?_⟩;have A:∀(l:List Nat),ni (mn C (bI C) ops (Wx C (bI C) ops K fuel) b t h n) l->∀i∈l,mn C (bI C) ops (Wx C (bI C) ops K fuel) b t h n i:=by
   intro l
   induction l with
   |nil=>intro _ i hi;cases hi
   |cons x l ih=>
    intro J i hi;rcases eu.1 hi with rfl|hi
    .exact J.1
    .exact ih J.2 i hi
  have h1:=A _ g.2 i hi;obtain⟨P,o,r,_⟩:=mem_ready.1 hi;have u:i<b.size:=oH ((DP.1 r).1);have L:b.getD i false=false:=by
   rw[aK,aT u]at P⊢;exact P
  have O:ops.toList[i]?=some o:=by rw[bQ];exact r
  have E:o∈ops.toList:=aB O;have hs:β (n+i)=none:=by
   cases hq:β (n+i)with
   |none=>rfl
   | some l=>
    rcases M.Z2 _ _ hq with h|⟨j,e,I⟩
    .omega
    .have:j=i:=oT;subst this;rw[L]at e;cases e
  simp only[mn,r]at h1;obtain⟨x,h',U,W⟩:=(pd h1).resolve_right λ⟨_,f,args,bs,_,X,_⟩=>T _ _ _ _ _ X;unfold wpOp;simp only[r];refine xQ G M hs R U (wU B E) (λi aa d _ Y=>BP B i d Y) λq w' z p c=>?_;refine CL G T B H fuel _ _ h' q w' z p (by simp[v]) W ⟨c.T,c.H,c.B,λy l F=>?_,c.df,c.j,c.G,c.nw,c.iv⟩;have m:∀j,(b.setIfInBounds i true).getD j false=true↔b.getD j false=true\/j=i:=λj=>by
   by_cases e:j=i
   .subst e;rw[aK,cZ u];simp
   .rw[aK,cY (Ne.symm e), <-aK];simp[e]
  rcases c.Z2 y l F with (h|⟨j,e,I⟩)|h
  .exact .inl h
  .exact .inr ⟨j,(m j).2 (.inl e),I⟩
  .exact .inr ⟨i,(m i).2 (.inr rfl),h⟩
def CM(L:cb C):∀(c:Code),rU N c=true->∀(st:a4) (Q:c8->a4->Prop),eA C (bI C) c st Q->∀(a:Act) (w:World) (S:Nat->Prop) (β:Bt),bt C V w0 S0 N (· <st.n) st.t st.h a w S β->
  c.wp C.P (pe C V w0 S0 N Q) a w:=by
 intro c
 induction c with
 |skip=>intro _ st Q hq a w S β M;exact wp_skip ⟨.normal,st,S,β,R,hq,M⟩
 |label l=>intro _ st Q hq a w S β M;exact wp_label ⟨.normal,st,S,β,R,hq,M⟩
 |exit id=>intro _ st Q hq a w S β M;exact wp_exit ⟨.exit id,st,S,β,R,hq,M⟩
 |ret=>intro _ st Q hq a w S β M;exact wp_ret ⟨.ret,st,S,β,R,hq,M⟩
 | region id ops dr=>
  intro g st Q hq a w S β M;simp only[rU,aP]at g;obtain⟨t,h,n⟩:=st;simp only[eA]at hq
  cases dr with
  |false=>
   simp only[pW]at hq;refine wp_region ?_;have:=Ev (Q:=pe C V w0 S0 N Q) (K:=Q .normal) L (ops:=ops) R g.1 ops.toList 0 t h a w S β R hq M (λf q w' j d u p=>⟨.normal,f,j,d,R,u,p⟩);rw[show List.range' 0 ops.toList.length=List.range ops.size by rw[nZ,cV]]at this
   exact this
  | true=>
   refine wp_region_any L.mixed ?_;simp only[kL]at hq
   cases T:FN ops.toList with
   |true=>
    rw[T]at hq;rcases hq with hq|⟨_,hq⟩
    rotate_left
    .exact Es (C:=C.ZZ) (V:=V) L.ZZ (λ_ _ _ _ _ h=>h) g.1 hq (bt.ZZ M) (λf q w' j d u p=>⟨.normal,f,j,d,R,u,bt.ZI p⟩)
    have p:=M.drawn (w.drawn+1)
    refine CL (C:=C.ZZ) (V:=V) L.ZZ (λ_ _ _ _ _ h=>h) g.1 (λf q w' j d u p=>⟨.normal,f,j,d,R,u,bt.ZI p⟩) ops.size _ t h a _ S β (by simp) hq ⟨p.T,p.H,p.B,λy l hy=>.inl (p.Z2 y l hy),p.df,p.j,p.G,p.nw,p.iv⟩
   |false=>
   rw[T]at hq;have hd:JO ops.toList=true:=by simp only[FN,dP,mJ]at T;exact T.2
   exact Gw (C:=C.ZZ) (V:=V) L.ZZ (λ_ _ _ _ _ h=>h) g.1 hd hq (bt.ZZ M) (λf q w' j d u p=>⟨.normal,f,j,d,R,u,bt.ZI p⟩)
 | seq x y z A=>
  intro g st Q hq a w S β M;simp only[rU,aP]at g;simp only[eA]at hq;rcases hq with hq|hq|hq
  .refine wp_seq (wp_mono (z g.1 st _ hq a w S β M) ?_);rintro e q w' ⟨v,f,j,d,rfl,h1,h2⟩
   cases v with
   |normal=>exact A g.2 f Q h1 q w' j d h2
   |exit i=>exact⟨.exit i,f,j,d,R,h1,h2⟩
   |ret=>exact⟨.ret,f,j,d,R,h1,h2⟩
  .refine wp_seq (wp_mono (z g.1 st _ hq a w S β M) ?_);rintro e q w' ⟨v,f,j,d,rfl,h1,h2⟩
   cases v with
   |normal=>
    obtain⟨Y,g1,g2⟩:=h1;obtain⟨S2,h3⟩:=nK g1 h2
    exact A g.2 Y Q g2 q w' S2 d h3
   |exit i=>exact⟨.exit i,f,j,d,R,h1,h2⟩
   |ret=>exact⟨.ret,f,j,d,R,h1,h2⟩
  .refine wp_seq (wp_mono (z g.1 st _ hq a w S β M) ?_);rintro e q w' ⟨v,f,j,d,rfl,h1,h2⟩
   cases v with
   |normal=>
    obtain⟨Y,g1,ap,σ,hW,hf,g2⟩:=h1;obtain⟨S2,h3⟩:=nK g1 h2
    exact A g.2 ap Q g2 q w' S2 _ (pK hW hf h3)
   |exit i=>exact⟨.exit i,f,j,d,R,h1,h2⟩
   |ret=>exact⟨.ret,f,j,d,R,h1,h2⟩
 | cond c x y z A=>
  intro g st Q hq a w S β M;simp only[rU,aP]at g;simp only[eA]at hq;split at hq
  .rename_i b hb;obtain⟨h1,h2⟩:=hq;have hv:=sY M c;rw[hb]at hv;refine wp_cond_split (lV hv) (λht=>z g.1 st Q (h1 ht) a w S β M) (λhf=>A g.2 st Q (h2 hf) a w S β M)
  .exact hq.elim
 | block id b ih=>
  intro g st Q hq a w S β M;simp only[rU]at g;simp only[eA]at hq;refine wp_block (wp_mono (ih g st _ hq a w S β M) ?_);rintro e q w' ⟨v,f,j,d,rfl,h1,h2⟩
  cases v with
  |normal=>exact⟨.normal,f,j,d,R,h1,h2⟩
  |ret=>exact⟨.ret,f,j,d,R,h1,h2⟩
  | exit i=>
   show Exit.inBlock id _ (.exit i) q w';simp only at h1;simp only[Exit.inBlock];by_cases hi:i=id
   .subst hi;rw[aa R];rw[show Nat.beq i i=true from nG i]at h1;exact⟨.normal,f,j,d,R,h1,h2⟩
   .rw[dZ hi];have:Nat.beq i id=false:=by rw[<-eJ];exact λe=>hi (aO e)
    rw[this]at h1
    exact⟨.exit i,f,j,d,R,h1,h2⟩
 | loop b ih=>
  intro g st Q hq a w S β M;simp only[rU]at g;simp only[eA]at hq;obtain⟨au,μ,ao,σ,hw,ak,h0,round⟩:=hq;have an:∀(m:Nat) (st:a4) (a:Act) (w:World) (S:Nat->Prop) (β:Bt),μ st=m->au st->bt C V w0 S0 N (· <st.n) st.t st.h a w S β->∀(F:Frame) (k:List Item) (E:List Frame),
    ∃e q w',pe C V w0 S0 N Q e q w'/\Arrives C.P (lone (F.at a (.code b:: .inLoop b::k)) E w) F k E e q w':=by
   intro m
   induction m using Nat.strongRecOn with
   | _ m bb=>
    intro st a w S β hm hI M F k E;obtain⟨e,B,G,hq,r⟩:=ih g st _ (round st hI) a w S β M F (.inLoop b::k) E;obtain⟨v,X,P,I,rfl,O,J⟩:=hq
    cases v with
    |normal=>
     obtain⟨aq,g1,Z,ar,W,al,aj,am⟩:=O;obtain⟨P,J⟩:=nK g1 J;obtain⟨ag,ab,ai,U,H⟩:=bb (μ Z) (hm ▸ am) Z B G P _ R aj (pK W al J) F k E
     exact⟨ag,ab,ai,U,.of_steps (Steps.trans r (.one step_inLoop)) H⟩
    |exit id=>exact⟨_,B,G,⟨.exit id,X,P,I,R,O,J⟩,.pass (x:=.inLoop b) R (λ_ _=>.inl (by simp[Gq])) r⟩
    |ret=>exact⟨_,B,G,⟨.ret,X,P,I,R,O,J⟩,.pass (x:=.inLoop b) R (λ_ _=>.inl (by simp[Gq])) r⟩
  intro F k E;obtain⟨e,q,w',hq,r⟩:=an _ ao a w S _ R h0 (pK hw ak M) F k E
  exact⟨e,q,w',hq,.of_steps (.one step_loop) r⟩
 |_=>intro _ st Q hq;exact hq.elim
def Sub(a b:AV):Prop:=∀(S:Nat->Prop) (w:World) (v:Value),av S w cy a v->av S w cy b v
theorem Sub.refl(a:AV):Sub a a:=λ_ _ _ h=>h
def ST(C:a5)(b:Func)(r:AV)(st:a4):Prop:=
 ∃rs,gx C st b.results.toList=some rs/\jU st.h (Dp rs)/\eP (vR st.h (Dp rs))=true/\Sub (vR st.h (Dp rs)) r
def Fin(C:a5)(b:Func)(r:AV):c8->a4->Prop
 | .exit _,_=>False
 |_,st=>ST C b r st
def mi(b:Array Value):ResultVar->Sem Value
 | .tmp t=>pure (b.getD t undef)
 | .cell a t=>do loadVar t (<-asAddr (b.getD a undef))
def Oh(d:Func)(b:Array Value):results d b=(do let c<-d.results.mapM (mi b);pure (if h:c.size=1 then c[0]else .tuple c)):=rfl
def yO{P:Program}{w:World}{b:Array Value}(l:List ResultVar)(c:List Value)(h:(l.mapM (mi b)).run P w=.ok c w)(d:Func)(e:d.results.toList=l):
  (results d b).run P w=.ok (if h:c.toArray.size=1 then c.toArray[0]else .tuple c.toArray) w:=by
 rw[Oh,Array.mapM_eq_mapM_toList,e];simp only[Sem.run_bind,map_eq_pure_bind,Sem.run_pure];rw[h];simp only[Result.andThen_ok,Sem.run_pure]
theorem JA(g:cb C){t:Nat->AV}{h:AH}{n:Nat}{a:Act}{w:World}{D:Nat->Prop}{S:Nat->Prop}{β:Bt}(M:bt C V w0 S0 N D t h a w S β):∀(l:List ResultVar) (rs:List AV),gx C ⟨t,h,n⟩ l=some rs->
  ∃f,(l.mapM (mi a.tmps)).run C.P w=.ok f w/\b6 S w β rs f
 |[],rs,d=>by simp only[gx]at d;injection d with d;subst d;exact⟨[],R,b6.nil _ _ _⟩
 | .tmp i::l,rs,d=>by
  simp only[gx]at d;split at d
  .rename_i r k;injection d with d;subst d;obtain⟨f,h1,h2⟩:=JA g M l r k;exact⟨a.tmps.getD i undef::f,by simp only[tR,Sem.run_bind,mi,Sem.run_pure,Result.andThen_ok,h1],b6.cons (M.T i) h2⟩
  .cases d
 | .cell c ty::l,rs,d=>by
  simp only[gx]at d;split at d
  .rename_i b G r hp k;split at d
   .rename_i cells q;split at d
    .rename_i x z;injection d with d;subst d;obtain⟨f,h1,h2⟩:=JA g M l r k;obtain⟨lo,H,e,I,p,J,A⟩:=PR M.H q;have j:=M.T c;rw[hp]at j;generalize y:a.tmps.getD c undef=v at j
     cases j with
     |ptr _ _ B m=>
     obtain rfl:B=lo:=by rw[m]at p;exact fj p
     obtain⟨u,E,F⟩:=BS g A R z;exact⟨u::f,by simp only[tR,Sem.run_bind,mi,y,asAddr,Sem.run_pure,Result.andThen_ok,E,h1],b6.cons F h2⟩
    .cases d
   .cases d
  .cases d
theorem mv:∀(args:List AV) (i:Nat),gj args i=(args[i]?).getD .any
 |[],i=>by simp[gj]
 |x::xs,0=>by simp[gj]
 |x::xs,i+1=>by simp[gj,mv xs i]
theorem bI.intro(H:cb C){f:FuncId}{c:Func}{d:Code}{args:List AV}{r:AV}(J:C.P.funcs[f]?=some c)(j:c.body=some d)(P:(c.name== "runtime.NumGoroutine")=false)
  (hN:rU c.ntmps d=true) (A:Nat.ble args.length c.ntmps=true) (hw:eA C (bI C) d ⟨gj args,λ_=>none,0⟩ (Fin C c r)) (E:C.df=[]:=by rfl):bI C f args r:=by
 refine⟨⟨c,J,by rw[j];rfl,P⟩,λS w g hS hG m=>?_⟩;have A:=aJ A;refine calls_of_wp J j ?_;have W:bt C (Inv.any C.fr) w S c.ntmps (· <(0:Nat)) (gj args) (λ_=>none) {tmps:=g.toArray++Array.replicate (c.ntmps-g.toArray.size) undef,defers:=[]} w S cy:=by
  have hl:g.length=args.length:=m.1.symm;refine⟨λi=>?_,⟨λs blk h=>(by cases h),λs s' l l' h=>absurd R h,hS,aC _⟩,Below.refl _ _,λx l h=>(by cases h),E.symm,by simp;omega,hG,λ_ h=>.inl h,tr⟩;rw[mv]
  cases I:args[i]? with
  |none=>exact .any _
  | some x=>
   have L:i<g.length:=by rw[hl];exact(Em.1 I).1
   have Q:g[i]?=some g[i]:=aA L;have:(g.toArray++Array.replicate (c.ntmps-g.toArray.size) undef).getD i undef=g[i]:=by
    rw[aK,dS (sU L),eM,Q];rfl
   rw[this];exact m.2 i x _ I Q
 refine wp_mono (CM H d hN ⟨gj args,λ_=>none,0⟩ _ hw _ w S cy W) ?_;rintro e G w' ⟨Y,st,X,U,rfl,k,M⟩;have B:ST C c r st->G.defers=[]/\∃v,(results c G.tmps).run C.P w'=.ok v w'/\∃T,Ending.returned v=.returned T/\Below w.heap.size w w'/\av (λb=>S b\/(w.heap.size<=b/\b<w'.heap.size)) w' cy r T:=by
  rintro⟨rs,h1,h2,Z,h4⟩;obtain⟨t,h,n⟩:=st;obtain⟨z,g1,g2⟩:=JA H M _ rs h1;refine⟨M.df.trans E,_,yO _ z g1 c R,_,R,M.B,?_⟩;have F:av X w' U (Dp rs) (if h:z.toArray.size=1 then z.toArray[0]else .tuple z.toArray):=by
   match rs,z,g2 with
   |[],z,g2=>
    have:z=[]:=gq g2.1.symm;subst this
    exact .F [] #[] R λi a bb p=>by simp at p
   |[x],z,g2=>
    match z,g2 with
    |[bb],g2=>simpa [Dp]using g2.2 0 x bb R R
    |[],g2=>exact absurd g2.1 (by simp)
    |_::_::_,g2=>exact absurd g2.1 (by simp)
   | x::y::b4,z,g2=>
    have O: ¬z.toArray.size=1:=by
     have:=g2.1;simp at this⊢;omega
    rw[dif_neg O];exact .F _ _ (sU g2.1) λi a bb p q=>g2.2 i a bb p (sU q)
  have hd:=BO M.H F h2;refine h4 _ _ _ ?_;exact(mB hd Z cy).mono (λb j=>j.elim (λj=>(M.nw b j).imp id λh=>⟨h,M.H.lt b j⟩) .inr) (cp.refl _ _) (ME.refl _)
 cases Y with
 |normal=>exact B k
 |ret=>exact B k
 |exit i=>exact k.elim
end
end Go.Proofs.YtiaekocjeinkjaaGreatDoor
