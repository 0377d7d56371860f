/- Joined texts. -/
import Derived.Test.YtgleompefdogkaaGreatDoorS1
import Derived.Test.YtgleompefdogkaaGreatDoorS28
import Derived.Test.YtgleompefdogkaaGreatDoorS33
set_option linter.unusedVariables false
set_option linter.unusedSimpArgs false
set_option linter.defProp false
namespace Go.Proofs.YtgleompefdogkaaGreatDoor
open Go.RowKit
def Um(s:Nat)(c:Co)(F S T:AV)(h':AH):Prop:=
 (c.rob=[]∧h'=heapF [(0,.box (mcX c (.sl 17 [] false) F S T))])∨
 ∃(b:Nat) (A B:List Ent) (k:Bool),(b=1∧1<s∨b=s)∧A.length+c.rob.length+B.length<=1000∧h'=heapF [(0,.box (mcX c (.osl b A.length c.rob.length k) F S T)),(b,.arr ((A++c.rob++B).map enL) 17)]
def Gf{c:Co}{R F S S' T T':AV}(hS:S=S')(hT:T=T'):some (Blk.box (mcX c R F S T))=some (Blk.box (mcX c R F S' T')):=by rw[hS,hT]
def fH{e:Ent}(h:e.ok):(bS e).ok:=by
 have hz:(0:Nat)<=4294967295:=aE _;have hv:(if wr e.i≠0 then e.value else 0)<=4294967295:=by
  split
  ·exact h.value
  ·exact hz
 have ha:(if e.halt=4∨e.halt=5 then e.addr else 0)<=4294967295:=by
  split
  ·exact h.addr
  ·exact hz
 unfold bS
 repeat' split
 all_goals first
  |exact⟨h.pc,h.pc,hz,ha⟩
  |exact⟨h.pc,zP _,h.value,h.addr⟩
  |exact⟨h.pc,zP _,hv,h.addr⟩
  |exact⟨h.pc,zP _,hv,hz⟩
  |exact⟨h.pc,h.next,hv,hz⟩
  |(refine⟨h.pc,?_,?_,?_⟩<;>first|exact zP _|exact h.next|exact h.pc|exact hz|exact h.value|exact h.addr)
def De{s:Sp}(h:(gD s).isSome=true):s.store=true∧s.halt=0∧(gD s).getD ⟨0,oX⟩=⟨s.addr,jH s.value s.size.toNat⟩:=by
 unfold gD at h⊢;split at h
 ·cases h
 ·rename_i hq;rw[if_neg hq];refine⟨?_,?_,rfl⟩
  ·cases hs:s.store with
   |true=>rfl
   |false=>exact absurd (.inl hs) hq
  ·exact Classical.byContradiction λe=>hq (.inr (.inl e))
def NA{s:Sp}(h:s.ok):((gD s).getD ⟨0,oX⟩).ok:=by
 unfold gD;split
 ·exact⟨aE _⟩
 ·exact⟨h.addr⟩
def Pp{r:Nat->Nat}{s:Sp}(hr:∀k,r k<=4294967295)(hs:s.ok)(k:Nat):lL r s k<=4294967295:=by
 unfold lL;split
 ·unfold setR;split
  ·exact hs.value
  ·exact hr k
 ·exact hr k
def NB{g:Gu}{pc next:Nat}{i:SI}(h:g.ok)(hR:sR g=true)(hpc:pc<=4294967295)(hn:next<=4294967295):(fR g pc next i).ok∧sR (fR g pc next i)=true:=by
 obtain⟨h1,h2,h3⟩:=Wo.1 hR;have happ:∀x∈g.rets++[up4 pc],x<=4294967295:=sM (P:=λx=>x<=4294967295) h.ro (sN (P:=λx=>x<=4294967295) (zP pc));unfold fR;split
 ·have hs:∀x∈g.slots.set (gL g pc) ⟨pc,next⟩,x.ok:=zC (P:=Gs.ok) h.so ⟨hpc,hn⟩;have hh:(2*g.hist+(if next≠up4 pc then 1 else 0))%8<8:=bE _ (by decide);refine⟨⟨?_,?_,?_,hs,?_⟩,Wo.2 ⟨?_,hh,?_⟩⟩
  ·show(g.slots.set _ _).length<=_;rw[bY,h1];decide
  ·dsimp only;repeat' split
   ·rw[aU,aQ,kB];omega
   ·rw[aQ,kB];omega
   ·rw[oC];omega
   ·omega
  ·exact aN (Nat.le_of_lt hh) (by decide)
  ·dsimp only;repeat' split
   ·exact HY (P:=λx=>x<=4294967295) happ
   ·exact happ
   ·intro x hx;exact h.ro x (oD _ hx)
   ·exact h.ro
  ·show(g.slots.set _ _).length=8;rw[bY,h1]
  ·dsimp only;repeat' split
   ·rename_i q1 q2;rw[aU];rw[aQ,kB]at q2⊢;omega
   ·rename_i q1 q2;omega
   ·rw[oC];omega
   ·exact h3
 ·exact⟨h,hR⟩
def mJ{c:Co}{s:Sp}(h:(gD s).isSome=true):(fM c s).stores=c.stores++[(gD s).getD ⟨0,oX⟩]:=by
 unfold fM;obtain⟨p,hp⟩:=Fk.1 h;rw[hp];rfl
def qW{c:Co}{s:Sp}(h:(gD s).isSome=false):(fM c s).stores=c.stores:=by
 unfold fM;have hp:gD s=none:=by simpa using h
 rw[hp]
def Jn{s:Sp}:((gD s).getD ⟨0,oX⟩).data.size<=4:=by
 unfold gD;split
 ·exact aE _
 ·show(jH s.value s.size.toNat).size<=4;rw[tW];omega
def sJ{c:Co}{n:Nat}{s:Sp}(h:c.okM n)(hb:n+1<=890000)(hs:s.ok)(hst:s.store=true->c.stores.length<=999):(fM c s).okM (n+1):=by
 have hS:(fM c s).stores.length<=1000∧(∀x∈(fM c s).stores,x.ok)∧∀x∈(fM c s).stores,x.data.size<=4:=by
  cases hq:(gD s).isSome with
  |true=>
   rw[mJ hq];have:=hst (De hq).1
   exact⟨by simp;omega,sM h.ok.stoo (sN (P:=Pt.ok) (NA hs)),λx hx=>(al_List_mem_append.1 hx).elim (h.std x) λhx=>uO.1 hx ▸ Jn⟩
  |false=>rw[qW hq];exact⟨h.sto,h.ok.stoo,h.std⟩
 have hr:(c.retired++[s]).length<=n+1:=by have:=h.ok.ret;simp;omega
 exact⟨⟨h.ok.conf,h.ok.prog,h.ok.progo,h.ok.r,h.ok.fetch,h.ok.fet,h.ok.feto,h.ok.rob,h.ok.robo,aN hS.1 (by decide),hS.2.1,h.ok.data,h.ok.words,qT h.ok.bus,h.ok.buso,h.ok.asked,h.ok.guessed,h.ok.mem,h.ok.guess,hr,sM h.ok.reto (sN (P:=Sp.ok) hs)⟩,hb,h.cf,h.data,h.words,h.guess,h.rob,h.fet,hS.1,h.prog,h.mem,hS.2.2⟩
def Es(c:Co)(line:Nat):Co:={c with data:=(fC c line).data,bus:=(fC c line).bus,asked:=(fC c line).asked}
def oU(c:Co)(line:Nat):Es c line=fC c line:=by
 unfold Es fC;generalize gV c.data c.bus c.mem line (kM c.conf c.asked)=t;obtain⟨d,q,a⟩:=t;rfl
def xX(d:Co)(e:Ent):Co:={fM d (bS e)with r:=lL d.r (bS e),guess:=fR d.guess (bS e).pc (bS e).next e.i,rob:=d.rob.drop 1}
def Et(d:Co)(e:Ent):Co:={Es (fM d (bS e)) (bS e).addr with r:=lL d.r (bS e),guess:=fR d.guess (bS e).pc (bS e).next e.i,rob:=d.rob.drop 1}
def jF{d:Co}{n:Nat}(h:d.halt≠0∨d.rob.length=0):dW n d=d:=by
 cases n with
 |zero=>rfl
 | succ n=>
  unfold dW;by_cases h1:d.halt≠0
  ·exact if_pos h1
  ·rw[if_neg h1];have hz:d.rob=[]:=aR (h.resolve_left h1);rw[hz]
def gO{d:Co}{n:Nat}{e:Ent}(hn:0<n)(h: ¬d.halt≠0)(he:d.rob[0]?=some e):dW n d=if e.is≠3 then d else if(bS e).halt≠0 then tS d (bS e)else if(bS e).store=true∧(d.stores.length:Int)>=d.conf.stores then d else dW (n-1) (vZ d e (bS e) (d.rob.drop 1)):=by
 cases n with
 |zero=>cases hn
 |succ n=>
  conv=>lhs;unfold dW
  rw[if_neg h]
  cases hz:d.rob with
  |nil=>rw[hz]at he;cases he
  |cons y l=>rw[hz]at he;injection he with he;subst he;rfl
def uJ{d:Co}{e:Ent}(h: ¬kindOf e.i.op=3):vZ d e (bS e) (d.rob.drop 1)=xX d e:=by
 unfold vZ vG xX;rw[if_neg h]
def Ao{d:Co}{e:Ent}(h:kindOf e.i.op=3):vZ d e (bS e) (d.rob.drop 1)=Et d e:=by
 unfold vZ vG Et;rw[if_pos h,oU]
def Jo{d x:Co}{n:Nat}{e:Ent}(hx:x.okM n)(hd:d.okM n)(he:e.ok)(hr:x.rob=d.rob):Co.okM {x with r:=lL d.r (bS e),guess:=fR d.guess (bS e).pc (bS e).next e.i,rob:=d.rob.drop 1} n:=by
 have hs:=fH he;have hg:=NB (i:=e.i) hd.ok.guess hd.guess hs.pc hs.next;have hl:(d.rob.drop 1).length<=1000:=by have:=hd.rob;rw[aU];omega
 exact⟨⟨hx.ok.conf,hx.ok.prog,hx.ok.progo,Pp hd.ok.r hs,hx.ok.fetch,hx.ok.fet,hx.ok.feto,aN hl (by decide),HY hd.ok.robo,hx.ok.sto,hx.ok.stoo,hx.ok.data,hx.ok.words,hx.ok.bus,hx.ok.buso,hx.ok.asked,hx.ok.guessed,hx.ok.mem,hg.1,hx.ok.ret,hx.ok.reto⟩,hx.nb,hx.cf,hx.data,hx.words,hg.2,hl,hx.fet,hx.sto,hx.prog,hx.mem,hx.std⟩
def xY{d:Co}{n:Nat}{e:Ent}(hd:d.okM n)(hb:n+2<=890000)(he:e.ok)(hst:(bS e).store=true->d.stores.length<=999):(xX d e).okM (n+2):=
 Jo ((sJ hd omT (fH he) hst).mono omT hb) (hd.mono omT hb) he rfl
def Gg{d:Co}{n:Nat}{e:Ent}(hd:d.okM n)(hb:n+2<=890000)(he:e.ok)(hst:(bS e).store=true->d.stores.length<=999):(Et d e).okM (n+2):=by
 have h:=Ex (sJ hd omT (fH he) hst) omT (fH he).addr;rw[<-oU]at h;exact Jo h (hd.mono omT hb) he rfl
set_option maxRecDepth 100000
set_option maxHeartbeats 4000000
def xW{α:Type}{A l B:List α}{x:α}(h:l[0]?=some x):A++l++B=(A++[x])++l.drop 1++B:=by
 cases l with
 |nil=>cases h
 |cons y l=>injection h with h;subst h;simp
def Hw{α:Type}[Inhabited α](l:List α):∃e:α,0<l.length->l[0]?=some e:=by
 cases l with
 |nil=>exact⟨default,λh=>absurd h (dU 0)⟩
 |cons y l=>exact⟨y,λ_=>rfl⟩
def Ge{p:Prop}{s lo lo' n n':Nat}{c:Bool}(e:lo=lo')(e':n=n'):Res.need p (.osl s lo n (c&&true))=.need p (.osl s lo' n' c):=by rw[e,e',Bool.and_true]
instance:Inhabited Ent:=⟨Ck⟩
def tN{e:Ent}(h:(gD (bS e)).isSome=true): ¬kindOf e.i.op=3:=by
 intro q;have z:=(De h).1;unfold bS at z;rw[q]at z;split at z<;>simp at z
def mI(d:Co)(e:Ent):Co:=vG (fM d (bS e)) e (bS e)
def BV{d:Co}{e:Ent}(h:kindOf e.i.op=3):mI d e=fC (fM d (bS e)) (bS e).addr:=by unfold mI vG;rw[if_pos h]
def BW{d:Co}{e:Ent}(h: ¬kindOf e.i.op=3):mI d e=fM d (bS e):=by unfold mI vG;rw[if_neg h]
def Bc(d:Co)(e:Ent):Co:={fM d (bS e)with data:=(mI d e).data,bus:=(mI d e).bus,asked:=(mI d e).asked,r:=lL d.r (bS e),guess:=fR d.guess (bS e).pc (bS e).next e.i,rob:=d.rob.drop 1}
def Jm(d:Co)(e:Ent):Bc d e=if kindOf e.i.op=3 then Et d e else xX d e:=by
 unfold Bc;by_cases h:kindOf e.i.op=3
 ·rw[if_pos h,BV h];rfl
 ·rw[if_neg h,BW h];rfl
def Er{d:Co}{e:Ent}:vZ d e (bS e) (d.rob.drop 1)=Bc d e:=by
 rw[Jm];by_cases h:kindOf e.i.op=3
 ·rw[if_pos h,Ao h]
 ·rw[if_neg h,uJ h]
def CE{d:Co}{n:Nat}{e:Ent}(hd:d.okM n)(hb:n+2<=890000)(he:e.ok)(hst:(bS e).store=true->d.stores.length<=999):(Bc d e).okM (n+2):=by
 rw[Jm];split
 ·exact Gg hd hb he hst
 ·exact xY hd hb he hst
def Pn(c:Co)(n:Nat)(hm:c.okM n)(line:Nat)(hline:line<=4294967295)(lR nR:Nat)(kR:Bool)(rR:List (List AV))(kF:Bool)(xF:List (List AV))(kS:Bool)(xS:List (List AV))(lT nT:Nat)(kT:Bool)(rT:List (List AV)):qE C0.P C0.G 56 [.ptr 0 0,vU line] (heapF [(0,.box (mcX c (.osl 1 lR nR kR) (.sl 2 xF kF) (.sl 2 xS kS) (.osl 2 lT nT kT))),(1,.arr rR 17),(2,.arr rT 9)]) 3 (λx h'=>x=.tup []∧h'=heapF [(0,.box (mcX (Es c line) (.osl 1 lR nR kR) (.sl 2 xF kF) (.sl 2 xS kS) (.osl 2 lT nT kT))),(1,.arr rR 17),(2,.arr rT 9)]):=by rw[oU];exact XP c n hm line hline lR nR kR rR kF xF kS xS lT nT kT rT
def SC(c:Co)(n:Nat)(hm:c.okM n)(line:Nat)(hline:line<=4294967295)(lR nR:Nat)(kR:Bool)(rR:List (List AV))(kF:Bool)(xF:List (List AV))(lS nS:Nat)(kS:Bool)(rS:List (List AV))(lT nT:Nat)(kT:Bool)(rT:List (List AV)):qE C0.P C0.G 56 [.ptr 0 0,vU line] (heapF [(0,.box (mcX c (.osl 1 lR nR kR) (.sl 2 xF kF) (.osl 2 lS nS kS) (.osl 3 lT nT kT))),(1,.arr rR 17),(2,.arr rS 2),(3,.arr rT 9)]) 4 (λx h'=>x=.tup []∧h'=heapF [(0,.box (mcX (Es c line) (.osl 1 lR nR kR) (.sl 2 xF kF) (.osl 2 lS nS kS) (.osl 3 lT nT kT))),(1,.arr rR 17),(2,.arr rS 2),(3,.arr rT 9)]):=by rw[oU];exact VC c n hm line hline lR nR kR rR kF xF lS nS kS rS lT nT kT rT
def SD(c:Co)(nb:Nat)(hm:c.okM nb)(hb:nb+6<=890000)(A B:List Ent)(lo n:Nat)(kR:Bool)(hlo:A.length=lo)(hn:c.rob.length=n)(hA:A.length+n+B.length<=1000):qE C0.P C0.G 27 [.ptr 0 0] (heapF [(0,.box (mcX c (.osl 1 lo n kR) (.sl 2 (c.fetched.map ftL) true) (.sl 2 (c.stores.map ptL) true) (.sl 9 (c.retired.map spL) true))),(1,.arr ((A++c.rob++B).map enL) 17)]) 2 (λx h'=>x=.tup []∧Um 2 (dP c) (.sl 2 ((dP c).fetched.map ftL) true) (.sl 2 ((dP c).stores.map ptL) false) (.sl 9 ((dP c).retired.map spL) false) h'):=by
 refine HCall.intro (C:=C1) (s:=2) c1Ok.at Tryz.func27 rfl rfl (by kernel_rfl) rfl rfl ?_;obtain⟨W,hW,hW2⟩:∃W:Nat,c.conf.width=(W:Int)∧W<=2:=⟨c.conf.width.toNat,by have:=nN hm.cf;omega,by have:=nN hm.cf;omega⟩;refine qSC 0 rfl<|tC (κ:=Nat×Co×List Ent×Nat×Nat×Option Bool) (λz_=>match z_ with|(k,d,A,lo,n,none)=>⟨slotsF [(0,.ptr 0 0),(11,vI c.conf.width),(12,vN k)],heapF [(0,.box (mcX d (.osl 1 lo n kR) (.sl 2 (d.fetched.map ftL) true) (.sl 2 (d.stores.map ptL) true) (.sl 9 (d.retired.map spL) true))),(1,.arr ((A++d.rob++B).map enL) 17)],11⟩|(k,d,A,lo,n,some false)=>⟨slotsF [(0,.ptr 0 0),(11,vI c.conf.width),(12,vN k)],heapF [(0,.box (mcX d (.osl 1 lo n kR) (.sl 2 (d.fetched.map ftL) true) (.sl 2 (d.stores.map ptL) true) (.osl 9 0 d.retired.length false))),(1,.arr ((A++d.rob++B).map enL) 17),(9,.arr (d.retired.map spL) 9)],11⟩|(k,d,A,lo,n,some true)=>⟨slotsF [(0,.ptr 0 0),(11,vI c.conf.width),(12,vN k)],heapF [(0,.box (mcX d (.osl 1 lo n kR) (.sl 2 (d.fetched.map ftL) true) (.osl 10 0 d.stores.length false) (.osl 9 0 d.retired.length false))),(1,.arr ((A++d.rob++B).map enL) 17),(9,.arr (d.retired.map spL) 9),(10,.arr (d.stores.map ptL) 2)],11⟩) (λz_=>match z_ with|(k,d,A,lo,n,_)=>k<=W∧d.okM (nb+2*k)∧A.length=lo∧d.rob.length=n∧A.length+n+B.length<=1000∧dW (W-k) d=dW W c) (λz_=>W-z_.1) (0,c,A,lo,n,none) (λs=>s) (Weak.of_lists (λs=>s) wT wH rfl) rfl (⟨aE _,hm,hlo,hn,hA,rfl⟩) ?_;intro z_ hk;obtain⟨k,d,A,lo,n,o_⟩:=z_;rcases o_ with _|_|_
 ·have hkn:k<=W:=hk.1;have hkB:k<=2:=by omega
  have hd:d.okM (nb+2*k):=hk.2.1;have hlo:A.length=lo:=hk.2.2.1;have hn:d.rob.length=n:=hk.2.2.2.1;have hA:A.length+n+B.length<=1000:=hk.2.2.2.2.1;have hG:dW (W-k) d=dW W c:=hk.2.2.2.2.2;obtain⟨e,he0⟩:=Hw d.rob;have hrt:=hd.ret;have hsl:=hd.sto;refine qS 0 rfl<|rV (vB (decide ((k:Int)<c.conf.width))) rfl<|qRC 0 rfl<|aS rfl (λh1=>?_) (λh1=>?_)
  ·have h1p:=of_decide_eq_true h1;refine qC 0 rfl<|rV (vB (d.halt != 0)) rfl<|qR 0 rfl<|gS rfl id<|gS rfl id<|gS rfl id<|gS rfl id<|gBS rfl id rfl<|gBS rfl id (okB (eqN _ _))<|cU rfl rfl rfl (by simp)<|qR 0 rfl<|gS rfl id<|gS rfl id<|gS rfl id<|gS rfl id<|uV (x:=.ptr2 1 (lo+0) 0) (g:= !(cR (d.halt != 0) true (n==0))) rfl rfl rfl rfl (λh=>h) rfl rfl (λhg=>by refine⟨by decide,Fi.2 ?_⟩;have z:=hg;show 0<n;simp[c2o]at z;omega)<|gS rfl id<|Hp (enL e) (x:=vI e.is) (g:= !(cR (d.halt != 0) true (n==0))) rfl rfl rfl rfl (λh=>h) rfl rfl (λhg=>⟨aH _,fW (jM hlo (he0 (by have z:=hg;simp[c2o]at z;omega)))⟩) rfl<|gBS rfl id rfl<|cU rfl rfl rfl (by simp)<|qRC 0 rfl<|aS rfl (λh2=>?_) (λh2=>?_)
   ·have hc:((d.halt≠0∨n=0)∨e.is≠3):=by have z:=h2;simpa [c2o]using z
    refine qCF 0 rfl<|qXF 0 rfl ?_;have e0:dP c=dW (W-k) d:=by rw[hG];show dW c.conf.width.toNat c=_;rw[hW];rfl
    have ee:dP c=d:=e0.trans (hc.elim (λq=>jF (by rw[hn];exact q)) (λq=>(Classical.em (d.halt≠0∨d.rob.length=0)).elim jF λhz=>(gO omT (λq=>hz (.inl q)) (he0 (eP λz=>hz (.inr z)))).trans (if_pos q)));rw[ee];subst hlo;subst hn;exact Iy (.refl _) none ⟨rfl,.inr ⟨1,A,B,kR,.inl ⟨rfl,by decide⟩,by omega,rfl⟩⟩ (ghX rfl (rA (.refl _) (.refl _) (.clip _ _) (.clip _ _)) (ghA rfl trivial))
   ·have hc: ¬((d.halt≠0∨n=0)∨e.is≠3):=by have z:=h2;simpa [c2o]using z
    have hh: ¬d.halt≠0:=λq=>hc (.inl (.inl q));have hnz: ¬n=0:=λq=>hc (.inl (.inr q));have hpos:0<d.rob.length:=by omega
    have he:=he0 hpos;have heo:=hd.ok.robo e (aB he);refine qC 0 rfl<|nW (.ptr2 1 (lo+0) 0) rfl rfl (⟨by decide,Fi.2 (by show 0<n;exact omT)⟩)<|rIx (enL e) (.agg (enL e)) rfl rfl (fW (jM hlo he)) rfl<|qR 0 rfl<|rCi rfl (QX e heo)<|qR 0 rfl<|rV (vB (((bS e).halt) != 0)) rfl<|qRC 0 rfl<|aS rfl (λh3=>?_) (λh3=>?_)
    ·have h3p:=xH h3;refine qCC 0 rfl<|cRg<|oR 7 rfl<|rV (.sl 9 ([spL (bS e)]) true) rfl<|rFx (x:=.osl 62 0 (d.retired.length+1) false) (h':=upd _ 62 (some (.arr ((d.retired++([(bS e)])).map spL) 9))) rfl rfl (At spL d.retired ([(bS e)]) omT) (⟨by exact omT,by exact omT,trivial,trivial⟩)<|oR 3 rfl<|rSx 0 (mcX d (.osl 1 lo n kR) (.sl 2 (d.fetched.map ftL) true) (.sl 2 (d.stores.map ptL) true) (.osl 62 0 (d.retired.length+1) false)) rfl rfl rfl<|rE 67<|qXN 0 rfl<|rSx 0 (mcX ({d with halt:=(bS e).halt}:Co) (.osl 1 lo n kR) (.sl 2 (d.fetched.map ftL) true) (.sl 2 (d.stores.map ptL) true) (.osl 62 0 (d.retired.length+1) false)) rfl rfl rfl<|qRN 0 rfl<|rSx 0 (mcX ({d with halt:=(bS e).halt}:Co) (.sl 0 ([]) true) (.sl 2 (d.fetched.map ftL) true) (.sl 2 (d.stores.map ptL) true) (.osl 62 0 (d.retired.length+1) false)) rfl rfl rfl<|qRN 0 rfl<|rSx 0 (mcX ({d with halt:=(bS e).halt}:Co) (.sl 0 ([]) true) (.sl 0 ([]) true) (.sl 2 (d.stores.map ptL) true) (.osl 62 0 (d.retired.length+1) false)) rfl rfl rfl<|qRN 0 rfl<|rSx 0 (mcX ({d with stop:=true,halt:=(bS e).halt}:Co) (.sl 0 ([]) true) (.sl 0 ([]) true) (.sl 2 (d.stores.map ptL) true) (.osl 62 0 (d.retired.length+1) false)) rfl rfl rfl<|qRF 0 rfl<|qXF 0 rfl ?_;have e0:dP c=dW (W-k) d:=by rw[hG];show dW c.conf.width.toNat c=_;rw[hW];rfl
     have ee:dP c=tS d (bS e):=by rw[e0,gO omT hh he,if_neg (λq=>hc (.inr q)),if_pos h3p]
     rw[ee];exact Iy (.refl _) (some (62,9,(d.retired++([(bS e)])).map spL)) ⟨rfl,.inl ⟨rfl,rfl⟩⟩ (ghX rfl (rA (.nil 17 false) (.nil 2 true) (.clip _ _) (mY (by exact omT))) trivial)
    ·have h3p:=xI h3;refine qCC 0 rfl<|cRg<|oR 3 rfl<|gN rfl<|gS rfl id<|gS rfl id<|gS rfl id<|gS rfl id<|gBS rfl id (bT ptL d.stores)<|gN rfl<|gS rfl id<|gS rfl id<|gS rfl id<|gS rfl id<|gS rfl id<|gBS rfl hsT rfl<|cU rfl rfl rfl (λh=>h)<|rE 71<|qXC 0 rfl<|aS rfl (λh4=>?_) (λh4=>?_)
     ·have hsf:((bS e).store=true∧(d.stores.length:Int)>=d.conf.stores):=by have z:=h4;simpa [c2a]using z
      refine qCF 0 rfl<|qXF 0 rfl ?_;have e0:dP c=dW (W-k) d:=by rw[hG];show dW c.conf.width.toNat c=_;rw[hW];rfl
      have ee:dP c=d:=by rw[e0,gO omT hh he,if_neg (λq=>hc (.inr q)),if_neg (λq=>q h3p),if_pos hsf]
      rw[ee];subst hlo;subst hn;exact Iy (.refl _) none ⟨rfl,.inr ⟨1,A,B,kR,.inl ⟨rfl,by decide⟩,by omega,rfl⟩⟩ (ghX rfl (rA (.refl _) (.refl _) (.clip _ _) (.clip _ _)) (ghA rfl trivial))
     ·have hsf: ¬((bS e).store=true∧(d.stores.length:Int)>=d.conf.stores):=by have z:=h4;simpa [c2a]using z
      have hsl9:(bS e).store=true->d.stores.length<=999:=λq=>by have:=nN hd.cf;have: ¬(d.stores.length:Int)>=d.conf.stores:=λz=>hsf ⟨q,z⟩;omega
      refine qCC 0 rfl<|cRg<|oR 7 rfl<|rV (.sl 9 ([spL (bS e)]) true) rfl<|rFx (x:=.osl 79 0 (d.retired.length+1) false) (h':=upd _ 79 (some (.arr ((d.retired++([(bS e)])).map spL) 9))) rfl rfl (At spL d.retired ([(bS e)]) omT) (⟨by exact omT,by exact omT,trivial,trivial⟩)<|oR 3 rfl<|rSx 0 (mcX d (.osl 1 lo n kR) (.sl 2 (d.fetched.map ftL) true) (.sl 2 (d.stores.map ptL) true) (.osl 79 0 (d.retired.length+1) false)) rfl rfl rfl<|rE 84<|qX 0 rfl<|rCi rfl (KW (bS e) (fH heo))<|qRC 0 rfl<|aS rfl (λh5=>?_) (λh5=>?_)
      ·refine cRg<|oR 7 rfl<|rV (.sl 2 ([[vU (((gD (bS e)).getD ⟨0,oX⟩).addr),.v (.string (((gD (bS e)).getD ⟨0,oX⟩).data))]]) true) rfl<|rFx (x:=.osl 101 0 (d.stores.length+1) false) (h':=upd _ 101 (some (.arr ((d.stores++([((gD (bS e)).getD ⟨0,oX⟩)])).map ptL) 2))) rfl rfl (At ptL d.stores ([((gD (bS e)).getD ⟨0,oX⟩)]) omT) (⟨by exact omT,by exact omT,trivial,trivial⟩)<|oR 3 rfl<|rSx 0 (mcX d (.osl 1 lo n kR) (.sl 2 (d.fetched.map ftL) true) (.osl 101 0 (d.stores.length+1) false) (.osl 79 0 (d.retired.length+1) false)) rfl rfl rfl<|rE 106<|qX 0 rfl<|rCi rfl (pV e.i)<|rW (vB ((kindOf e.i.op)==3)) rfl (okB (eqN _ _))<|qRC 0 rfl<|aS rfl (λh6=>by exact absurd (eq_of_beq h6) (tN h5)) (λ_=>?_);refine qCC 0 rfl<|cRg<|oR 7 rfl<|rCi rfl (Gp d.r (bS e) hd.ok.r (fH heo))<|oR 3 rfl<|rSx 0 (mcX ({d with r:=lL d.r (bS e)}:Co) (.osl 1 lo n kR) (.sl 2 (d.fetched.map ftL) true) (.osl 101 0 (d.stores.length+1) false) (.osl 79 0 (d.retired.length+1) false)) rfl rfl rfl<|rE 122<|qXC 0 rfl<|cRg<|oR 12 rfl<|rCi rfl (AW d.guess (bS e).pc (bS e).next e.i hd.ok.guess (fH heo).pc (fH heo).next heo.imm)<|oR 3 rfl<|rSx 0 (mcX ({d with r:=lL d.r (bS e),guess:=(fR d.guess (bS e).pc (bS e).next e.i)}:Co) (.osl 1 lo n kR) (.sl 2 (d.fetched.map ftL) true) (.osl 101 0 (d.stores.length+1) false) (.osl 79 0 (d.retired.length+1) false)) rfl rfl rfl<|rE 139<|qX 0 rfl<|nW (.osl 1 (lo+1) (n-1) kR) rfl (Ge rfl (by simp only[Option.getD];omega)) slT<|qRN 0 rfl<|rSx 0 (mcX ({d with r:=lL d.r (bS e),guess:=(fR d.guess (bS e).pc (bS e).next e.i)}:Co) (.osl 1 (lo+1) (n-1) kR) (.sl 2 (d.fetched.map ftL) true) (.osl 101 0 (d.stores.length+1) false) (.osl 79 0 (d.retired.length+1) false)) rfl rfl rfl ?_;have b1:k+1<=3:=aF hkB (aC 1);refine qR 0 rfl<|rW (vN (k+1)) rfl (okI (bJ b1 rfl))<|qRF 0 rfl<| .mk _ (.refl _) ⟨(k+1,(xX d e),A++[e],lo+1,n-1,some true),λi=>match i with|9=>79|10=>101|i=>i,Weak.of_lists _ wT ⟨⟨rfl,(Gf (c:=(xX d e)) (congrArg (λz=>AV.osl 101 0 z false) (show d.stores.length+1=(fM d (bS e)).stores.length from by rw[(mJ h5)];simp)) (congrArg (λz=>AV.osl 79 0 z false) (show d.retired.length+1=(d.retired++[bS e]).length from by simp))),rfl⟩,⟨rfl,(congrArg (λz:List Ent=>some (Blk.arr (z.map enL) 17)) (xW he)),rfl⟩,⟨rfl,rfl,rfl⟩,⟨rfl,(congrArg (λz:List Pt=>some (Blk.arr (z.map ptL) 2)) (mJ h5).symm),rfl⟩,trivial⟩ rfl,rfl,⟨by omega,(by have q:=xY hd omT heo hsl9;rwa [show nb+2*k+2=nb+2*(k+1) by omega]at q),by simp;omega,(by show(d.rob.drop 1).length=n-1;rw[aU];omega),by simp;omega,Eq.trans (by rw[gO (n:=W-k) omT hh he,if_neg (λq=>hc (.inr q)),if_neg (λq=>q h3p),if_neg hsf,uJ (tN h5)];congr 1) hG⟩,by show W-(k+1)<W-k;omega⟩
      ·skip
       refine qCJ 0 0 rfl<|CO (κ:=Unit) (λu_=>⟨slotsF [(0,.ptr 0 0),(11,vI c.conf.width),(12,vN k),(2,.ptr 45 0),(3,.ptr 49 0)],heapF [(0,.box (mcX ({d with data:=(mI d e).data,bus:=(mI d e).bus,asked:=(mI d e).asked}:Co) (.osl 1 lo n kR) (.sl 2 (d.fetched.map ftL) true) (.sl 2 (d.stores.map ptL) true) (.osl 79 0 (d.retired.length+1) false))),(1,.arr ((A++d.rob++B).map enL) 17),(45,.box (enL e)),(49,.box (spL (bS e))),(79,.arr ((d.retired++([(bS e)])).map spL) 9)],93⟩) (λu_=>True) ?_ ?_
       ·refine qS 0 rfl<|rCi rfl (pV e.i)<|rW (vB ((kindOf e.i.op)==3)) rfl (okB (eqN _ _))<|qRC 0 rfl<|aS rfl (λh7=>?_) (λh7=>?_)
        ·have h7p:=mW h7;refine qC 0 rfl<|fV _ rfl rfl rfl ((Pn (fM d (bS e)) (nb+2*k+1) (sJ hd omT (fH heo) hsl9) (bS e).addr (fH heo).addr lo n kR ((A++d.rob++B).map enL) true (d.fetched.map ftL) true (d.stores.map ptL) 0 (d.retired.length+1) false ((d.retired++([(bS e)])).map spL)).frameB (λz=>match z with|2=>79|z=>z) _ _ rfl ⟨⟨rfl,rfl,rfl,rfl⟩,⟨rfl,rfl,rfl,rfl⟩,⟨rfl,rfl,rfl,rfl⟩,trivial⟩ rfl rfl rfl rfl) ?_;rintro _ _ ⟨rfl,rfl⟩;refine qRF 0 rfl<| .mk _ (.refl _) ⟨(),λs=>s,Weak.of_lists _ wT ⟨⟨rfl,(by rw[BV h7p];rfl),rfl⟩,⟨rfl,rfl,rfl⟩,⟨rfl,rfl,rfl⟩,⟨rfl,rfl,rfl⟩,⟨rfl,rfl,rfl⟩,trivial⟩ rfl,rfl,trivial⟩
        ·have h7p:=mX h7;refine qCF 0 rfl<| .mk _ (.refl _) ⟨(),λs=>s,Weak.of_lists _ wT ⟨⟨rfl,(by rw[BW h7p];rfl),rfl⟩,⟨rfl,rfl,rfl⟩,⟨rfl,rfl,rfl⟩,⟨rfl,rfl,rfl⟩,⟨rfl,rfl,rfl⟩,trivial⟩ rfl,rfl,trivial⟩
       ·intro u_ _;refine qCC 0 rfl<|cRg<|oR 7 rfl<|rCi rfl (Gp d.r (bS e) hd.ok.r (fH heo))<|oR 3 rfl<|rSx 0 (mcX ({d with r:=lL d.r (bS e),data:=(mI d e).data,bus:=(mI d e).bus,asked:=(mI d e).asked}:Co) (.osl 1 lo n kR) (.sl 2 (d.fetched.map ftL) true) (.sl 2 (d.stores.map ptL) true) (.osl 79 0 (d.retired.length+1) false)) rfl rfl rfl<|rE 105<|qXC 0 rfl<|cRg<|oR 12 rfl<|rCi rfl (AW d.guess (bS e).pc (bS e).next e.i hd.ok.guess (fH heo).pc (fH heo).next heo.imm)<|oR 3 rfl<|rSx 0 (mcX ({d with r:=lL d.r (bS e),data:=(mI d e).data,bus:=(mI d e).bus,asked:=(mI d e).asked,guess:=(fR d.guess (bS e).pc (bS e).next e.i)}:Co) (.osl 1 lo n kR) (.sl 2 (d.fetched.map ftL) true) (.sl 2 (d.stores.map ptL) true) (.osl 79 0 (d.retired.length+1) false)) rfl rfl rfl<|rE 122<|qX 0 rfl<|nW (.osl 1 (lo+1) (n-1) kR) rfl (Ge rfl (by simp only[Option.getD];omega)) slT<|qRN 0 rfl<|rSx 0 (mcX ({d with r:=lL d.r (bS e),data:=(mI d e).data,bus:=(mI d e).bus,asked:=(mI d e).asked,guess:=(fR d.guess (bS e).pc (bS e).next e.i)}:Co) (.osl 1 (lo+1) (n-1) kR) (.sl 2 (d.fetched.map ftL) true) (.sl 2 (d.stores.map ptL) true) (.osl 79 0 (d.retired.length+1) false)) rfl rfl rfl ?_;have b2:k+1<=3:=aF hkB (aC 1);refine qR 0 rfl<|rW (vN (k+1)) rfl (okI (bJ b2 rfl))<|qRF 0 rfl<| .mk _ (.refl _) ⟨(k+1,(Bc d e),A++[e],lo+1,n-1,some false),λi=>match i with|9=>79|i=>i,Weak.of_lists _ wT ⟨⟨rfl,(Gf (c:=(Bc d e)) (congrArg (λz:List Pt=>AV.sl 2 (z.map ptL) true) (show d.stores=(fM d (bS e)).stores from(qW h5).symm)) (congrArg (λz=>AV.osl 79 0 z false) (show d.retired.length+1=(d.retired++[bS e]).length from by simp))),rfl⟩,⟨rfl,(congrArg (λz:List Ent=>some (Blk.arr (z.map enL) 17)) (xW he)),rfl⟩,⟨rfl,rfl,rfl⟩,trivial⟩ rfl,rfl,⟨by omega,(by have q:=CE hd omT heo hsl9;rwa [show nb+2*k+2=nb+2*(k+1) by omega]at q),by simp;omega,(by show(d.rob.drop 1).length=n-1;rw[aU];omega),by simp;omega,Eq.trans (by rw[gO (n:=W-k) omT hh he,if_neg (λq=>hc (.inr q)),if_neg (λq=>q h3p),if_neg hsf,Er];congr 1) hG⟩,by show W-(k+1)<W-k;omega⟩
  ·have h1p:=aD h1;refine qCF 0 rfl ?_;have e0:dP c=dW (W-k) d:=by rw[hG];show dW c.conf.width.toNat c=_;rw[hW];rfl
   have ee:dP c=d:=by rw[e0,show W-k=0 by omega];rfl
   rw[ee];exact qXF 0 rfl<|RD (rs:=[]) rfl (.step none (Ghost.of_lists (l:=[(0,.tup [])]) (hp:=[(0,.box (mcX (d) (.osl 1 lo n kR) (.sl 2 (d.fetched.map ftL) true) (.sl 2 (d.stores.map ptL) false) (.sl 9 (d.retired.map spL) false))),(1,.arr ((A++d.rob++B).map enL) 17)]) trivial ⟨.refl _,trivial⟩ ⟨⟨trivial,_,rfl,LeB.boxL (rA (.refl _) (.refl _) (.clip _ _) (.clip _ _))⟩,⟨trivial,_,rfl,.refl _⟩,trivial⟩) (.refl _)) (r:=.tup []) (h':=heapF [(0,.box (mcX (d) (.osl 1 lo n kR) (.sl 2 (d.fetched.map ftL) true) (.sl 2 (d.stores.map ptL) false) (.sl 9 (d.retired.map spL) false))),(1,.arr ((A++d.rob++B).map enL) 17)]) (σ:=λz=>z) ⟨rfl,.inr ⟨1,A,B,kR,.inl ⟨rfl,by decide⟩,by omega,by rw[hlo,hn]⟩⟩ rfl (rB (λz=>z) rfl rfl wH rfl)
 ·have hkn:k<=W:=hk.1;have hkB:k<=2:=by omega
  have hd:d.okM (nb+2*k):=hk.2.1;have hlo:A.length=lo:=hk.2.2.1;have hn:d.rob.length=n:=hk.2.2.2.1;have hA:A.length+n+B.length<=1000:=hk.2.2.2.2.1;have hG:dW (W-k) d=dW W c:=hk.2.2.2.2.2;obtain⟨e,he0⟩:=Hw d.rob;have hrt:=hd.ret;have hsl:=hd.sto;refine qS 0 rfl<|rV (vB (decide ((k:Int)<c.conf.width))) rfl<|qRC 0 rfl<|aS rfl (λh8=>?_) (λh8=>?_)
  ·have h8p:=of_decide_eq_true h8;refine qC 0 rfl<|rV (vB (d.halt != 0)) rfl<|qR 0 rfl<|gS rfl id<|gS rfl id<|gS rfl id<|gS rfl id<|gBS rfl id rfl<|gBS rfl id (okB (eqN _ _))<|cU rfl rfl rfl (by simp)<|qR 0 rfl<|gS rfl id<|gS rfl id<|gS rfl id<|gS rfl id<|uV (x:=.ptr2 1 (lo+0) 0) (g:= !(cR (d.halt != 0) true (n==0))) rfl rfl rfl rfl (λh=>h) rfl rfl (λhg=>by refine⟨by decide,Fi.2 ?_⟩;have z:=hg;show 0<n;simp[c2o]at z;omega)<|gS rfl id<|Hp (enL e) (x:=vI e.is) (g:= !(cR (d.halt != 0) true (n==0))) rfl rfl rfl rfl (λh=>h) rfl rfl (λhg=>⟨aH _,fW (jM hlo (he0 (by have z:=hg;simp[c2o]at z;omega)))⟩) rfl<|gBS rfl id rfl<|cU rfl rfl rfl (by simp)<|qRC 0 rfl<|aS rfl (λh9=>?_) (λh9=>?_)
   ·have hc:((d.halt≠0∨n=0)∨e.is≠3):=by have z:=h9;simpa [c2o]using z
    refine qCF 0 rfl<|qXF 0 rfl ?_;have e0:dP c=dW (W-k) d:=by rw[hG];show dW c.conf.width.toNat c=_;rw[hW];rfl
    have ee:dP c=d:=e0.trans (hc.elim (λq=>jF (by rw[hn];exact q)) (λq=>(Classical.em (d.halt≠0∨d.rob.length=0)).elim jF λhz=>(gO omT (λq=>hz (.inl q)) (he0 (eP λz=>hz (.inr z)))).trans (if_pos q)));rw[ee];subst hlo;subst hn;exact Iy (.refl _) (some (9,9,d.retired.map spL)) ⟨rfl,.inr ⟨1,A,B,kR,.inl ⟨rfl,by decide⟩,by omega,rfl⟩⟩ (ghX rfl (rA (.refl _) (.refl _) (.clip _ _) (mY (by exact omT))) (ghA rfl trivial))
   ·have hc: ¬((d.halt≠0∨n=0)∨e.is≠3):=by have z:=h9;simpa [c2o]using z
    have hh: ¬d.halt≠0:=λq=>hc (.inl (.inl q));have hnz: ¬n=0:=λq=>hc (.inl (.inr q));have hpos:0<d.rob.length:=by omega
    have he:=he0 hpos;have heo:=hd.ok.robo e (aB he);refine qC 0 rfl<|nW (.ptr2 1 (lo+0) 0) rfl rfl (⟨by decide,Fi.2 (by show 0<n;exact omT)⟩)<|rIx (enL e) (.agg (enL e)) rfl rfl (fW (jM hlo he)) rfl<|qR 0 rfl<|rCi rfl (QX e heo)<|qR 0 rfl<|rV (vB (((bS e).halt) != 0)) rfl<|qRC 0 rfl<|aS rfl (λh10=>?_) (λh10=>?_)
    ·have h10p:=xH h10;refine qCC 0 rfl<|cRg<|oR 7 rfl<|rV (.sl 9 ([spL (bS e)]) true) rfl<|rFx (x:=.osl 62 0 (d.retired.length+1) false) (h':=upd (upd _ 9 none) 62 (some (.arr ((d.retired++([(bS e)])).map spL) 9))) rfl rfl (jN spL d.retired ([(bS e)]) omT omT) (⟨by exact omT,by exact omT,trivial⟩)<|oR 3 rfl<|rSx 0 (mcX d (.osl 1 lo n kR) (.sl 2 (d.fetched.map ftL) true) (.sl 2 (d.stores.map ptL) true) (.osl 62 0 (d.retired.length+1) false)) rfl rfl rfl<|rE 67<|qXN 0 rfl<|rSx 0 (mcX ({d with halt:=(bS e).halt}:Co) (.osl 1 lo n kR) (.sl 2 (d.fetched.map ftL) true) (.sl 2 (d.stores.map ptL) true) (.osl 62 0 (d.retired.length+1) false)) rfl rfl rfl<|qRN 0 rfl<|rSx 0 (mcX ({d with halt:=(bS e).halt}:Co) (.sl 0 ([]) true) (.sl 2 (d.fetched.map ftL) true) (.sl 2 (d.stores.map ptL) true) (.osl 62 0 (d.retired.length+1) false)) rfl rfl rfl<|qRN 0 rfl<|rSx 0 (mcX ({d with halt:=(bS e).halt}:Co) (.sl 0 ([]) true) (.sl 0 ([]) true) (.sl 2 (d.stores.map ptL) true) (.osl 62 0 (d.retired.length+1) false)) rfl rfl rfl<|qRN 0 rfl<|rSx 0 (mcX ({d with stop:=true,halt:=(bS e).halt}:Co) (.sl 0 ([]) true) (.sl 0 ([]) true) (.sl 2 (d.stores.map ptL) true) (.osl 62 0 (d.retired.length+1) false)) rfl rfl rfl<|qRF 0 rfl<|qXF 0 rfl ?_;have e0:dP c=dW (W-k) d:=by rw[hG];show dW c.conf.width.toNat c=_;rw[hW];rfl
     have ee:dP c=tS d (bS e):=by rw[e0,gO omT hh he,if_neg (λq=>hc (.inr q)),if_pos h10p]
     rw[ee];exact Iy (.refl _) (some (62,9,(d.retired++([(bS e)])).map spL)) ⟨rfl,.inl ⟨rfl,rfl⟩⟩ (ghX rfl (rA (.nil 17 false) (.nil 2 true) (.clip _ _) (mY (by exact omT))) trivial)
    ·have h10p:=xI h10;refine qCC 0 rfl<|cRg<|oR 3 rfl<|gN rfl<|gS rfl id<|gS rfl id<|gS rfl id<|gS rfl id<|gBS rfl id (bT ptL d.stores)<|gN rfl<|gS rfl id<|gS rfl id<|gS rfl id<|gS rfl id<|gS rfl id<|gBS rfl hsT rfl<|cU rfl rfl rfl (λh=>h)<|rE 71<|qXC 0 rfl<|aS rfl (λh11=>?_) (λh11=>?_)
     ·have hsf:((bS e).store=true∧(d.stores.length:Int)>=d.conf.stores):=by have z:=h11;simpa [c2a]using z
      refine qCF 0 rfl<|qXF 0 rfl ?_;have e0:dP c=dW (W-k) d:=by rw[hG];show dW c.conf.width.toNat c=_;rw[hW];rfl
      have ee:dP c=d:=by rw[e0,gO omT hh he,if_neg (λq=>hc (.inr q)),if_neg (λq=>q h10p),if_pos hsf]
      rw[ee];subst hlo;subst hn;exact Iy (.refl _) (some (9,9,d.retired.map spL)) ⟨rfl,.inr ⟨1,A,B,kR,.inl ⟨rfl,by decide⟩,by omega,rfl⟩⟩ (ghX rfl (rA (.refl _) (.refl _) (.clip _ _) (mY (by exact omT))) (ghA rfl trivial))
     ·have hsf: ¬((bS e).store=true∧(d.stores.length:Int)>=d.conf.stores):=by have z:=h11;simpa [c2a]using z
      have hsl9:(bS e).store=true->d.stores.length<=999:=λq=>by have:=nN hd.cf;have: ¬(d.stores.length:Int)>=d.conf.stores:=λz=>hsf ⟨q,z⟩;omega
      refine qCC 0 rfl<|cRg<|oR 7 rfl<|rV (.sl 9 ([spL (bS e)]) true) rfl<|rFx (x:=.osl 79 0 (d.retired.length+1) false) (h':=upd (upd _ 9 none) 79 (some (.arr ((d.retired++([(bS e)])).map spL) 9))) rfl rfl (jN spL d.retired ([(bS e)]) omT omT) (⟨by exact omT,by exact omT,trivial⟩)<|oR 3 rfl<|rSx 0 (mcX d (.osl 1 lo n kR) (.sl 2 (d.fetched.map ftL) true) (.sl 2 (d.stores.map ptL) true) (.osl 79 0 (d.retired.length+1) false)) rfl rfl rfl<|rE 84<|qX 0 rfl<|rCi rfl (KW (bS e) (fH heo))<|qRC 0 rfl<|aS rfl (λh12=>?_) (λh12=>?_)
      ·refine cRg<|oR 7 rfl<|rV (.sl 2 ([[vU (((gD (bS e)).getD ⟨0,oX⟩).addr),.v (.string (((gD (bS e)).getD ⟨0,oX⟩).data))]]) true) rfl<|rFx (x:=.osl 101 0 (d.stores.length+1) false) (h':=upd _ 101 (some (.arr ((d.stores++([((gD (bS e)).getD ⟨0,oX⟩)])).map ptL) 2))) rfl rfl (At ptL d.stores ([((gD (bS e)).getD ⟨0,oX⟩)]) omT) (⟨by exact omT,by exact omT,trivial,trivial⟩)<|oR 3 rfl<|rSx 0 (mcX d (.osl 1 lo n kR) (.sl 2 (d.fetched.map ftL) true) (.osl 101 0 (d.stores.length+1) false) (.osl 79 0 (d.retired.length+1) false)) rfl rfl rfl<|rE 106<|qX 0 rfl<|rCi rfl (pV e.i)<|rW (vB ((kindOf e.i.op)==3)) rfl (okB (eqN _ _))<|qRC 0 rfl<|aS rfl (λh13=>by exact absurd (eq_of_beq h13) (tN h12)) (λ_=>?_);refine qCC 0 rfl<|cRg<|oR 7 rfl<|rCi rfl (Gp d.r (bS e) hd.ok.r (fH heo))<|oR 3 rfl<|rSx 0 (mcX ({d with r:=lL d.r (bS e)}:Co) (.osl 1 lo n kR) (.sl 2 (d.fetched.map ftL) true) (.osl 101 0 (d.stores.length+1) false) (.osl 79 0 (d.retired.length+1) false)) rfl rfl rfl<|rE 122<|qXC 0 rfl<|cRg<|oR 12 rfl<|rCi rfl (AW d.guess (bS e).pc (bS e).next e.i hd.ok.guess (fH heo).pc (fH heo).next heo.imm)<|oR 3 rfl<|rSx 0 (mcX ({d with r:=lL d.r (bS e),guess:=(fR d.guess (bS e).pc (bS e).next e.i)}:Co) (.osl 1 lo n kR) (.sl 2 (d.fetched.map ftL) true) (.osl 101 0 (d.stores.length+1) false) (.osl 79 0 (d.retired.length+1) false)) rfl rfl rfl<|rE 139<|qX 0 rfl<|nW (.osl 1 (lo+1) (n-1) kR) rfl (Ge rfl (by simp only[Option.getD];omega)) slT<|qRN 0 rfl<|rSx 0 (mcX ({d with r:=lL d.r (bS e),guess:=(fR d.guess (bS e).pc (bS e).next e.i)}:Co) (.osl 1 (lo+1) (n-1) kR) (.sl 2 (d.fetched.map ftL) true) (.osl 101 0 (d.stores.length+1) false) (.osl 79 0 (d.retired.length+1) false)) rfl rfl rfl ?_;have b3:k+1<=3:=aF hkB (aC 1);refine qR 0 rfl<|rW (vN (k+1)) rfl (okI (bJ b3 rfl))<|qRF 0 rfl<| .mk _ (.refl _) ⟨(k+1,(xX d e),A++[e],lo+1,n-1,some true),λi=>match i with|9=>79|10=>101|i=>i,Weak.of_lists _ wT ⟨⟨rfl,(Gf (c:=(xX d e)) (congrArg (λz=>AV.osl 101 0 z false) (show d.stores.length+1=(fM d (bS e)).stores.length from by rw[(mJ h12)];simp)) (congrArg (λz=>AV.osl 79 0 z false) (show d.retired.length+1=(d.retired++[bS e]).length from by simp))),rfl⟩,⟨rfl,(congrArg (λz:List Ent=>some (Blk.arr (z.map enL) 17)) (xW he)),rfl⟩,⟨rfl,rfl,rfl⟩,⟨rfl,(congrArg (λz:List Pt=>some (Blk.arr (z.map ptL) 2)) (mJ h12).symm),rfl⟩,trivial⟩ rfl,rfl,⟨by omega,(by have q:=xY hd omT heo hsl9;rwa [show nb+2*k+2=nb+2*(k+1) by omega]at q),by simp;omega,(by show(d.rob.drop 1).length=n-1;rw[aU];omega),by simp;omega,Eq.trans (by rw[gO (n:=W-k) omT hh he,if_neg (λq=>hc (.inr q)),if_neg (λq=>q h10p),if_neg hsf,uJ (tN h12)];congr 1) hG⟩,by show W-(k+1)<W-k;omega⟩
      ·skip
       refine qCJ 0 0 rfl<|CO (κ:=Unit) (λu_=>⟨slotsF [(0,.ptr 0 0),(11,vI c.conf.width),(12,vN k),(2,.ptr 45 0),(3,.ptr 49 0)],heapF [(0,.box (mcX ({d with data:=(mI d e).data,bus:=(mI d e).bus,asked:=(mI d e).asked}:Co) (.osl 1 lo n kR) (.sl 2 (d.fetched.map ftL) true) (.sl 2 (d.stores.map ptL) true) (.osl 79 0 (d.retired.length+1) false))),(1,.arr ((A++d.rob++B).map enL) 17),(45,.box (enL e)),(49,.box (spL (bS e))),(79,.arr ((d.retired++([(bS e)])).map spL) 9)],93⟩) (λu_=>True) ?_ ?_
       ·refine qS 0 rfl<|rCi rfl (pV e.i)<|rW (vB ((kindOf e.i.op)==3)) rfl (okB (eqN _ _))<|qRC 0 rfl<|aS rfl (λh14=>?_) (λh14=>?_)
        ·have h14p:=mW h14;refine qC 0 rfl<|fV _ rfl rfl rfl ((Pn (fM d (bS e)) (nb+2*k+1) (sJ hd omT (fH heo) hsl9) (bS e).addr (fH heo).addr lo n kR ((A++d.rob++B).map enL) true (d.fetched.map ftL) true (d.stores.map ptL) 0 (d.retired.length+1) false ((d.retired++([(bS e)])).map spL)).frameB (λz=>match z with|2=>79|z=>z) _ _ rfl ⟨⟨rfl,rfl,rfl,rfl⟩,⟨rfl,rfl,rfl,rfl⟩,⟨rfl,rfl,rfl,rfl⟩,trivial⟩ rfl rfl rfl rfl) ?_;rintro _ _ ⟨rfl,rfl⟩;refine qRF 0 rfl<| .mk _ (.refl _) ⟨(),λs=>s,Weak.of_lists _ wT ⟨⟨rfl,(by rw[BV h14p];rfl),rfl⟩,⟨rfl,rfl,rfl⟩,⟨rfl,rfl,rfl⟩,⟨rfl,rfl,rfl⟩,⟨rfl,rfl,rfl⟩,trivial⟩ rfl,rfl,trivial⟩
        ·have h14p:=mX h14;refine qCF 0 rfl<| .mk _ (.refl _) ⟨(),λs=>s,Weak.of_lists _ wT ⟨⟨rfl,(by rw[BW h14p];rfl),rfl⟩,⟨rfl,rfl,rfl⟩,⟨rfl,rfl,rfl⟩,⟨rfl,rfl,rfl⟩,⟨rfl,rfl,rfl⟩,trivial⟩ rfl,rfl,trivial⟩
       ·intro u_ _;refine qCC 0 rfl<|cRg<|oR 7 rfl<|rCi rfl (Gp d.r (bS e) hd.ok.r (fH heo))<|oR 3 rfl<|rSx 0 (mcX ({d with r:=lL d.r (bS e),data:=(mI d e).data,bus:=(mI d e).bus,asked:=(mI d e).asked}:Co) (.osl 1 lo n kR) (.sl 2 (d.fetched.map ftL) true) (.sl 2 (d.stores.map ptL) true) (.osl 79 0 (d.retired.length+1) false)) rfl rfl rfl<|rE 105<|qXC 0 rfl<|cRg<|oR 12 rfl<|rCi rfl (AW d.guess (bS e).pc (bS e).next e.i hd.ok.guess (fH heo).pc (fH heo).next heo.imm)<|oR 3 rfl<|rSx 0 (mcX ({d with r:=lL d.r (bS e),data:=(mI d e).data,bus:=(mI d e).bus,asked:=(mI d e).asked,guess:=(fR d.guess (bS e).pc (bS e).next e.i)}:Co) (.osl 1 lo n kR) (.sl 2 (d.fetched.map ftL) true) (.sl 2 (d.stores.map ptL) true) (.osl 79 0 (d.retired.length+1) false)) rfl rfl rfl<|rE 122<|qX 0 rfl<|nW (.osl 1 (lo+1) (n-1) kR) rfl (Ge rfl (by simp only[Option.getD];omega)) slT<|qRN 0 rfl<|rSx 0 (mcX ({d with r:=lL d.r (bS e),data:=(mI d e).data,bus:=(mI d e).bus,asked:=(mI d e).asked,guess:=(fR d.guess (bS e).pc (bS e).next e.i)}:Co) (.osl 1 (lo+1) (n-1) kR) (.sl 2 (d.fetched.map ftL) true) (.sl 2 (d.stores.map ptL) true) (.osl 79 0 (d.retired.length+1) false)) rfl rfl rfl ?_;have b4:k+1<=3:=aF hkB (aC 1);refine qR 0 rfl<|rW (vN (k+1)) rfl (okI (bJ b4 rfl))<|qRF 0 rfl<| .mk _ (.refl _) ⟨(k+1,(Bc d e),A++[e],lo+1,n-1,some false),λi=>match i with|9=>79|i=>i,Weak.of_lists _ wT ⟨⟨rfl,(Gf (c:=(Bc d e)) (congrArg (λz:List Pt=>AV.sl 2 (z.map ptL) true) (show d.stores=(fM d (bS e)).stores from(qW h12).symm)) (congrArg (λz=>AV.osl 79 0 z false) (show d.retired.length+1=(d.retired++[bS e]).length from by simp))),rfl⟩,⟨rfl,(congrArg (λz:List Ent=>some (Blk.arr (z.map enL) 17)) (xW he)),rfl⟩,⟨rfl,rfl,rfl⟩,trivial⟩ rfl,rfl,⟨by omega,(by have q:=CE hd omT heo hsl9;rwa [show nb+2*k+2=nb+2*(k+1) by omega]at q),by simp;omega,(by show(d.rob.drop 1).length=n-1;rw[aU];omega),by simp;omega,Eq.trans (by rw[gO (n:=W-k) omT hh he,if_neg (λq=>hc (.inr q)),if_neg (λq=>q h10p),if_neg hsf,Er];congr 1) hG⟩,by show W-(k+1)<W-k;omega⟩
  ·have h8p:=aD h8;refine qCF 0 rfl ?_;have e0:dP c=dW (W-k) d:=by rw[hG];show dW c.conf.width.toNat c=_;rw[hW];rfl
   have ee:dP c=d:=by rw[e0,show W-k=0 by omega];rfl
   rw[ee];exact qXF 0 rfl<|RD (rs:=[]) rfl (.step (some (9,9,d.retired.map spL)) (Ghost.of_lists (l:=[(0,.tup [])]) (hp:=[(0,.box (mcX (d) (.osl 1 lo n kR) (.sl 2 (d.fetched.map ftL) true) (.sl 2 (d.stores.map ptL) true) (.sl 9 (d.retired.map spL) false))),(1,.arr ((A++d.rob++B).map enL) 17)]) rfl ⟨.refl _,trivial⟩ ⟨⟨rfl,_,rfl,LeB.boxL (rA (.refl _) (.refl _) (.refl _) (mY (by exact omT)))⟩,⟨rfl,_,rfl,.refl _⟩,trivial⟩) (.step none (Ghost.of_lists (l:=[(0,.tup [])]) (hp:=[(0,.box (mcX (d) (.osl 1 lo n kR) (.sl 2 (d.fetched.map ftL) true) (.sl 2 (d.stores.map ptL) false) (.sl 9 (d.retired.map spL) false))),(1,.arr ((A++d.rob++B).map enL) 17)]) trivial ⟨.refl _,trivial⟩ ⟨⟨trivial,_,rfl,LeB.boxL (rA (.refl _) (.refl _) (.clip _ _) (.refl _))⟩,⟨trivial,_,rfl,.refl _⟩,trivial⟩) (.refl _))) (r:=.tup []) (h':=heapF [(0,.box (mcX (d) (.osl 1 lo n kR) (.sl 2 (d.fetched.map ftL) true) (.sl 2 (d.stores.map ptL) false) (.sl 9 (d.retired.map spL) false))),(1,.arr ((A++d.rob++B).map enL) 17)]) (σ:=λz=>z) ⟨rfl,.inr ⟨1,A,B,kR,.inl ⟨rfl,by decide⟩,by omega,by rw[hlo,hn]⟩⟩ rfl (rB (λz=>z) rfl rfl wH rfl)
 ·have hkn:k<=W:=hk.1;have hkB:k<=2:=by omega
  have hd:d.okM (nb+2*k):=hk.2.1;have hlo:A.length=lo:=hk.2.2.1;have hn:d.rob.length=n:=hk.2.2.2.1;have hA:A.length+n+B.length<=1000:=hk.2.2.2.2.1;have hG:dW (W-k) d=dW W c:=hk.2.2.2.2.2;obtain⟨e,he0⟩:=Hw d.rob;have hrt:=hd.ret;have hsl:=hd.sto;refine qS 0 rfl<|rV (vB (decide ((k:Int)<c.conf.width))) rfl<|qRC 0 rfl<|aS rfl (λh15=>?_) (λh15=>?_)
  ·have h15p:=of_decide_eq_true h15;refine qC 0 rfl<|rV (vB (d.halt != 0)) rfl<|qR 0 rfl<|gS rfl id<|gS rfl id<|gS rfl id<|gS rfl id<|gBS rfl id rfl<|gBS rfl id (okB (eqN _ _))<|cU rfl rfl rfl (by simp)<|qR 0 rfl<|gS rfl id<|gS rfl id<|gS rfl id<|gS rfl id<|uV (x:=.ptr2 1 (lo+0) 0) (g:= !(cR (d.halt != 0) true (n==0))) rfl rfl rfl rfl (λh=>h) rfl rfl (λhg=>by refine⟨by decide,Fi.2 ?_⟩;have z:=hg;show 0<n;simp[c2o]at z;omega)<|gS rfl id<|Hp (enL e) (x:=vI e.is) (g:= !(cR (d.halt != 0) true (n==0))) rfl rfl rfl rfl (λh=>h) rfl rfl (λhg=>⟨aH _,fW (jM hlo (he0 (by have z:=hg;simp[c2o]at z;omega)))⟩) rfl<|gBS rfl id rfl<|cU rfl rfl rfl (by simp)<|qRC 0 rfl<|aS rfl (λh16=>?_) (λh16=>?_)
   ·have hc:((d.halt≠0∨n=0)∨e.is≠3):=by have z:=h16;simpa [c2o]using z
    refine qCF 0 rfl<|qXF 0 rfl ?_;have e0:dP c=dW (W-k) d:=by rw[hG];show dW c.conf.width.toNat c=_;rw[hW];rfl
    have ee:dP c=d:=e0.trans (hc.elim (λq=>jF (by rw[hn];exact q)) (λq=>(Classical.em (d.halt≠0∨d.rob.length=0)).elim jF λhz=>(gO omT (λq=>hz (.inl q)) (he0 (eP λz=>hz (.inr z)))).trans (if_pos q)));rw[ee];subst hlo;subst hn;exact Iy (.step (some (9,9,d.retired.map spL)) (Ghost.of_lists (l:=[(0,.tup [])]) (hp:=[(0,.box (mcX (d) (.osl 1 A.length d.rob.length kR) (.sl 2 (d.fetched.map ftL) true) (.osl 10 0 d.stores.length false) (.sl 9 (d.retired.map spL) false))),(1,.arr ((A++d.rob++B).map enL) 17),(10,.arr (d.stores.map ptL) 2)]) rfl ⟨.refl _,trivial⟩ ⟨⟨rfl,_,rfl,LeB.boxL (rA (.refl _) (.refl _) (.refl _) (mY (by exact omT)))⟩,⟨rfl,_,rfl,.refl _⟩,⟨rfl,_,rfl,.refl _⟩,trivial⟩) (.refl _)) (some (10,2,d.stores.map ptL)) ⟨rfl,.inr ⟨1,A,B,kR,.inl ⟨rfl,by decide⟩,by omega,rfl⟩⟩ (ghX rfl (rA (.refl _) (.refl _) (mY (by exact omT)) (.refl _)) (ghA rfl trivial))
   ·have hc: ¬((d.halt≠0∨n=0)∨e.is≠3):=by have z:=h16;simpa [c2o]using z
    have hh: ¬d.halt≠0:=λq=>hc (.inl (.inl q));have hnz: ¬n=0:=λq=>hc (.inl (.inr q));have hpos:0<d.rob.length:=by omega
    have he:=he0 hpos;have heo:=hd.ok.robo e (aB he);refine qC 0 rfl<|nW (.ptr2 1 (lo+0) 0) rfl rfl (⟨by decide,Fi.2 (by show 0<n;exact omT)⟩)<|rIx (enL e) (.agg (enL e)) rfl rfl (fW (jM hlo he)) rfl<|qR 0 rfl<|rCi rfl (QX e heo)<|qR 0 rfl<|rV (vB (((bS e).halt) != 0)) rfl<|qRC 0 rfl<|aS rfl (λh17=>?_) (λh17=>?_)
    ·have h17p:=xH h17;refine qCC 0 rfl<|cRg<|oR 7 rfl<|rV (.sl 9 ([spL (bS e)]) true) rfl<|rFx (x:=.osl 62 0 (d.retired.length+1) false) (h':=upd (upd _ 9 none) 62 (some (.arr ((d.retired++([(bS e)])).map spL) 9))) rfl rfl (jN spL d.retired ([(bS e)]) omT omT) (⟨by exact omT,by exact omT,trivial⟩)<|oR 3 rfl<|rSx 0 (mcX d (.osl 1 lo n kR) (.sl 2 (d.fetched.map ftL) true) (.osl 10 0 d.stores.length false) (.osl 62 0 (d.retired.length+1) false)) rfl rfl rfl<|rE 67<|qXN 0 rfl<|rSx 0 (mcX ({d with halt:=(bS e).halt}:Co) (.osl 1 lo n kR) (.sl 2 (d.fetched.map ftL) true) (.osl 10 0 d.stores.length false) (.osl 62 0 (d.retired.length+1) false)) rfl rfl rfl<|qRN 0 rfl<|rSx 0 (mcX ({d with halt:=(bS e).halt}:Co) (.sl 0 ([]) true) (.sl 2 (d.fetched.map ftL) true) (.osl 10 0 d.stores.length false) (.osl 62 0 (d.retired.length+1) false)) rfl rfl rfl<|qRN 0 rfl<|rSx 0 (mcX ({d with halt:=(bS e).halt}:Co) (.sl 0 ([]) true) (.sl 0 ([]) true) (.osl 10 0 d.stores.length false) (.osl 62 0 (d.retired.length+1) false)) rfl rfl rfl<|qRN 0 rfl<|rSx 0 (mcX ({d with stop:=true,halt:=(bS e).halt}:Co) (.sl 0 ([]) true) (.sl 0 ([]) true) (.osl 10 0 d.stores.length false) (.osl 62 0 (d.retired.length+1) false)) rfl rfl rfl<|qRF 0 rfl<|qXF 0 rfl ?_;have e0:dP c=dW (W-k) d:=by rw[hG];show dW c.conf.width.toNat c=_;rw[hW];rfl
     have ee:dP c=tS d (bS e):=by rw[e0,gO omT hh he,if_neg (λq=>hc (.inr q)),if_pos h17p]
     rw[ee];exact Iy (.step (some (62,9,(d.retired++([(bS e)])).map spL)) (Ghost.of_lists (l:=[(0,.tup [])]) (hp:=[(0,.box (mcX (tS d (bS e)) (.sl 0 ([]) true) (.sl 0 ([]) true) (.osl 10 0 d.stores.length false) (.sl 9 ((d.retired++([(bS e)])).map spL) false))),(1,.arr ((A++d.rob++B).map enL) 17),(10,.arr (d.stores.map ptL) 2)]) rfl ⟨.refl _,trivial⟩ ⟨⟨rfl,_,rfl,LeB.boxL (rA (.refl _) (.refl _) (.refl _) (mY (by exact omT)))⟩,⟨rfl,_,rfl,.refl _⟩,⟨rfl,_,rfl,.refl _⟩,trivial⟩) (.refl _)) (some (10,2,d.stores.map ptL)) ⟨rfl,.inl ⟨rfl,rfl⟩⟩ (ghX rfl (rA (.nil 17 false) (.nil 2 true) (mY (by exact omT)) (.refl _)) trivial)
    ·have h17p:=xI h17;refine qCC 0 rfl<|cRg<|oR 3 rfl<|gN rfl<|gS rfl id<|gS rfl id<|gS rfl id<|gS rfl id<|gBS rfl id rfl<|gN rfl<|gS rfl id<|gS rfl id<|gS rfl id<|gS rfl id<|gS rfl id<|gBS rfl hsT rfl<|cU rfl rfl rfl (λh=>h)<|rE 71<|qXC 0 rfl<|aS rfl (λh18=>?_) (λh18=>?_)
     ·have hsf:((bS e).store=true∧(d.stores.length:Int)>=d.conf.stores):=by have z:=h18;simpa [c2a]using z
      refine qCF 0 rfl<|qXF 0 rfl ?_;have e0:dP c=dW (W-k) d:=by rw[hG];show dW c.conf.width.toNat c=_;rw[hW];rfl
      have ee:dP c=d:=by rw[e0,gO omT hh he,if_neg (λq=>hc (.inr q)),if_neg (λq=>q h17p),if_pos hsf]
      rw[ee];subst hlo;subst hn;exact Iy (.step (some (9,9,d.retired.map spL)) (Ghost.of_lists (l:=[(0,.tup [])]) (hp:=[(0,.box (mcX (d) (.osl 1 A.length d.rob.length kR) (.sl 2 (d.fetched.map ftL) true) (.osl 10 0 d.stores.length false) (.sl 9 (d.retired.map spL) false))),(1,.arr ((A++d.rob++B).map enL) 17),(10,.arr (d.stores.map ptL) 2)]) rfl ⟨.refl _,trivial⟩ ⟨⟨rfl,_,rfl,LeB.boxL (rA (.refl _) (.refl _) (.refl _) (mY (by exact omT)))⟩,⟨rfl,_,rfl,.refl _⟩,⟨rfl,_,rfl,.refl _⟩,trivial⟩) (.refl _)) (some (10,2,d.stores.map ptL)) ⟨rfl,.inr ⟨1,A,B,kR,.inl ⟨rfl,by decide⟩,by omega,rfl⟩⟩ (ghX rfl (rA (.refl _) (.refl _) (mY (by exact omT)) (.refl _)) (ghA rfl trivial))
     ·have hsf: ¬((bS e).store=true∧(d.stores.length:Int)>=d.conf.stores):=by have z:=h18;simpa [c2a]using z
      have hsl9:(bS e).store=true->d.stores.length<=999:=λq=>by have:=nN hd.cf;have: ¬(d.stores.length:Int)>=d.conf.stores:=λz=>hsf ⟨q,z⟩;omega
      refine qCC 0 rfl<|cRg<|oR 7 rfl<|rV (.sl 9 ([spL (bS e)]) true) rfl<|rFx (x:=.osl 79 0 (d.retired.length+1) false) (h':=upd (upd _ 9 none) 79 (some (.arr ((d.retired++([(bS e)])).map spL) 9))) rfl rfl (jN spL d.retired ([(bS e)]) omT omT) (⟨by exact omT,by exact omT,trivial⟩)<|oR 3 rfl<|rSx 0 (mcX d (.osl 1 lo n kR) (.sl 2 (d.fetched.map ftL) true) (.osl 10 0 d.stores.length false) (.osl 79 0 (d.retired.length+1) false)) rfl rfl rfl<|rE 84<|qX 0 rfl<|rCi rfl (KW (bS e) (fH heo))<|qRC 0 rfl<|aS rfl (λh19=>?_) (λh19=>?_)
      ·refine cRg<|oR 7 rfl<|rV (.sl 2 ([[vU (((gD (bS e)).getD ⟨0,oX⟩).addr),.v (.string (((gD (bS e)).getD ⟨0,oX⟩).data))]]) true) rfl<|rFx (x:=.osl 101 0 (d.stores.length+1) false) (h':=upd (upd _ 10 none) 101 (some (.arr ((d.stores++([((gD (bS e)).getD ⟨0,oX⟩)])).map ptL) 2))) rfl rfl (jN ptL d.stores ([((gD (bS e)).getD ⟨0,oX⟩)]) omT omT) (⟨by exact omT,by exact omT,trivial⟩)<|oR 3 rfl<|rSx 0 (mcX d (.osl 1 lo n kR) (.sl 2 (d.fetched.map ftL) true) (.osl 101 0 (d.stores.length+1) false) (.osl 79 0 (d.retired.length+1) false)) rfl rfl rfl<|rE 106<|qX 0 rfl<|rCi rfl (pV e.i)<|rW (vB ((kindOf e.i.op)==3)) rfl (okB (eqN _ _))<|qRC 0 rfl<|aS rfl (λh20=>by exact absurd (eq_of_beq h20) (tN h19)) (λ_=>?_);refine qCC 0 rfl<|cRg<|oR 7 rfl<|rCi rfl (Gp d.r (bS e) hd.ok.r (fH heo))<|oR 3 rfl<|rSx 0 (mcX ({d with r:=lL d.r (bS e)}:Co) (.osl 1 lo n kR) (.sl 2 (d.fetched.map ftL) true) (.osl 101 0 (d.stores.length+1) false) (.osl 79 0 (d.retired.length+1) false)) rfl rfl rfl<|rE 122<|qXC 0 rfl<|cRg<|oR 12 rfl<|rCi rfl (AW d.guess (bS e).pc (bS e).next e.i hd.ok.guess (fH heo).pc (fH heo).next heo.imm)<|oR 3 rfl<|rSx 0 (mcX ({d with r:=lL d.r (bS e),guess:=(fR d.guess (bS e).pc (bS e).next e.i)}:Co) (.osl 1 lo n kR) (.sl 2 (d.fetched.map ftL) true) (.osl 101 0 (d.stores.length+1) false) (.osl 79 0 (d.retired.length+1) false)) rfl rfl rfl<|rE 139<|qX 0 rfl<|nW (.osl 1 (lo+1) (n-1) kR) rfl (Ge rfl (by simp only[Option.getD];omega)) slT<|qRN 0 rfl<|rSx 0 (mcX ({d with r:=lL d.r (bS e),guess:=(fR d.guess (bS e).pc (bS e).next e.i)}:Co) (.osl 1 (lo+1) (n-1) kR) (.sl 2 (d.fetched.map ftL) true) (.osl 101 0 (d.stores.length+1) false) (.osl 79 0 (d.retired.length+1) false)) rfl rfl rfl ?_;have b5:k+1<=3:=aF hkB (aC 1);refine qR 0 rfl<|rW (vN (k+1)) rfl (okI (bJ b5 rfl))<|qRF 0 rfl<| .mk _ (.refl _) ⟨(k+1,(xX d e),A++[e],lo+1,n-1,some true),λi=>match i with|9=>79|10=>101|i=>i,Weak.of_lists _ wT ⟨⟨rfl,(Gf (c:=(xX d e)) (congrArg (λz=>AV.osl 101 0 z false) (show d.stores.length+1=(fM d (bS e)).stores.length from by rw[(mJ h19)];simp)) (congrArg (λz=>AV.osl 79 0 z false) (show d.retired.length+1=(d.retired++[bS e]).length from by simp))),rfl⟩,⟨rfl,(congrArg (λz:List Ent=>some (Blk.arr (z.map enL) 17)) (xW he)),rfl⟩,⟨rfl,rfl,rfl⟩,⟨rfl,(congrArg (λz:List Pt=>some (Blk.arr (z.map ptL) 2)) (mJ h19).symm),rfl⟩,trivial⟩ rfl,rfl,⟨by omega,(by have q:=xY hd omT heo hsl9;rwa [show nb+2*k+2=nb+2*(k+1) by omega]at q),by simp;omega,(by show(d.rob.drop 1).length=n-1;rw[aU];omega),by simp;omega,Eq.trans (by rw[gO (n:=W-k) omT hh he,if_neg (λq=>hc (.inr q)),if_neg (λq=>q h17p),if_neg hsf,uJ (tN h19)];congr 1) hG⟩,by show W-(k+1)<W-k;omega⟩
      ·skip
       refine qCJ 0 0 rfl<|CO (κ:=Unit) (λu_=>⟨slotsF [(0,.ptr 0 0),(11,vI c.conf.width),(12,vN k),(2,.ptr 45 0),(3,.ptr 49 0)],heapF [(0,.box (mcX ({d with data:=(mI d e).data,bus:=(mI d e).bus,asked:=(mI d e).asked}:Co) (.osl 1 lo n kR) (.sl 2 (d.fetched.map ftL) true) (.osl 10 0 d.stores.length false) (.osl 79 0 (d.retired.length+1) false))),(1,.arr ((A++d.rob++B).map enL) 17),(10,.arr (d.stores.map ptL) 2),(45,.box (enL e)),(49,.box (spL (bS e))),(79,.arr ((d.retired++([(bS e)])).map spL) 9)],93⟩) (λu_=>True) ?_ ?_
       ·refine qS 0 rfl<|rCi rfl (pV e.i)<|rW (vB ((kindOf e.i.op)==3)) rfl (okB (eqN _ _))<|qRC 0 rfl<|aS rfl (λh21=>?_) (λh21=>?_)
        ·have h21p:=mW h21;refine qC 0 rfl<|fV _ rfl rfl rfl ((SC (fM d (bS e)) (nb+2*k+1) (sJ hd omT (fH heo) hsl9) (bS e).addr (fH heo).addr lo n kR ((A++d.rob++B).map enL) true (d.fetched.map ftL) 0 (d.stores.length) false (d.stores.map ptL) 0 (d.retired.length+1) false ((d.retired++([(bS e)])).map spL)).frameB (λz=>match z with|2=>10|3=>79|z=>z) _ _ rfl ⟨⟨rfl,rfl,rfl,rfl⟩,⟨rfl,rfl,rfl,rfl⟩,⟨rfl,rfl,rfl,rfl⟩,⟨rfl,rfl,rfl,rfl⟩,trivial⟩ rfl rfl rfl rfl) ?_;rintro _ _ ⟨rfl,rfl⟩;refine qRF 0 rfl<| .mk _ (.refl _) ⟨(),λs=>s,Weak.of_lists _ wT ⟨⟨rfl,(by rw[BV h21p];rfl),rfl⟩,⟨rfl,rfl,rfl⟩,⟨rfl,rfl,rfl⟩,⟨rfl,rfl,rfl⟩,⟨rfl,rfl,rfl⟩,⟨rfl,rfl,rfl⟩,trivial⟩ rfl,rfl,trivial⟩
        ·have h21p:=mX h21;refine qCF 0 rfl<| .mk _ (.refl _) ⟨(),λs=>s,Weak.of_lists _ wT ⟨⟨rfl,(by rw[BW h21p];rfl),rfl⟩,⟨rfl,rfl,rfl⟩,⟨rfl,rfl,rfl⟩,⟨rfl,rfl,rfl⟩,⟨rfl,rfl,rfl⟩,⟨rfl,rfl,rfl⟩,trivial⟩ rfl,rfl,trivial⟩
       ·intro u_ _;refine qCC 0 rfl<|cRg<|oR 7 rfl<|rCi rfl (Gp d.r (bS e) hd.ok.r (fH heo))<|oR 3 rfl<|rSx 0 (mcX ({d with r:=lL d.r (bS e),data:=(mI d e).data,bus:=(mI d e).bus,asked:=(mI d e).asked}:Co) (.osl 1 lo n kR) (.sl 2 (d.fetched.map ftL) true) (.osl 10 0 d.stores.length false) (.osl 79 0 (d.retired.length+1) false)) rfl rfl rfl<|rE 105<|qXC 0 rfl<|cRg<|oR 12 rfl<|rCi rfl (AW d.guess (bS e).pc (bS e).next e.i hd.ok.guess (fH heo).pc (fH heo).next heo.imm)<|oR 3 rfl<|rSx 0 (mcX ({d with r:=lL d.r (bS e),data:=(mI d e).data,bus:=(mI d e).bus,asked:=(mI d e).asked,guess:=(fR d.guess (bS e).pc (bS e).next e.i)}:Co) (.osl 1 lo n kR) (.sl 2 (d.fetched.map ftL) true) (.osl 10 0 d.stores.length false) (.osl 79 0 (d.retired.length+1) false)) rfl rfl rfl<|rE 122<|qX 0 rfl<|nW (.osl 1 (lo+1) (n-1) kR) rfl (Ge rfl (by simp only[Option.getD];omega)) slT<|qRN 0 rfl<|rSx 0 (mcX ({d with r:=lL d.r (bS e),data:=(mI d e).data,bus:=(mI d e).bus,asked:=(mI d e).asked,guess:=(fR d.guess (bS e).pc (bS e).next e.i)}:Co) (.osl 1 (lo+1) (n-1) kR) (.sl 2 (d.fetched.map ftL) true) (.osl 10 0 d.stores.length false) (.osl 79 0 (d.retired.length+1) false)) rfl rfl rfl ?_;have b6:k+1<=3:=aF hkB (aC 1);refine qR 0 rfl<|rW (vN (k+1)) rfl (okI (bJ b6 rfl))<|qRF 0 rfl<| .mk _ (.refl _) ⟨(k+1,(Bc d e),A++[e],lo+1,n-1,some true),λi=>match i with|9=>79|10=>10|i=>i,Weak.of_lists _ wT ⟨⟨rfl,(Gf (c:=(Bc d e)) (congrArg (λz=>AV.osl 10 0 z false) (show d.stores.length=(fM d (bS e)).stores.length from by rw[(qW h19)])) (congrArg (λz=>AV.osl 79 0 z false) (show d.retired.length+1=(d.retired++[bS e]).length from by simp))),rfl⟩,⟨rfl,(congrArg (λz:List Ent=>some (Blk.arr (z.map enL) 17)) (xW he)),rfl⟩,⟨rfl,rfl,rfl⟩,⟨rfl,(congrArg (λz:List Pt=>some (Blk.arr (z.map ptL) 2)) (qW h19).symm),rfl⟩,trivial⟩ rfl,rfl,⟨by omega,(by have q:=CE hd omT heo hsl9;rwa [show nb+2*k+2=nb+2*(k+1) by omega]at q),by simp;omega,(by show(d.rob.drop 1).length=n-1;rw[aU];omega),by simp;omega,Eq.trans (by rw[gO (n:=W-k) omT hh he,if_neg (λq=>hc (.inr q)),if_neg (λq=>q h17p),if_neg hsf,Er];congr 1) hG⟩,by show W-(k+1)<W-k;omega⟩
  ·have h15p:=aD h15;refine qCF 0 rfl ?_;have e0:dP c=dW (W-k) d:=by rw[hG];show dW c.conf.width.toNat c=_;rw[hW];rfl
   have ee:dP c=d:=by rw[e0,show W-k=0 by omega];rfl
   rw[ee];exact qXF 0 rfl<|RD (rs:=[]) rfl (.step (some (9,9,d.retired.map spL)) (Ghost.of_lists (l:=[(0,.tup [])]) (hp:=[(0,.box (mcX (d) (.osl 1 lo n kR) (.sl 2 (d.fetched.map ftL) true) (.osl 10 0 d.stores.length false) (.sl 9 (d.retired.map spL) false))),(1,.arr ((A++d.rob++B).map enL) 17),(10,.arr (d.stores.map ptL) 2)]) rfl ⟨.refl _,trivial⟩ ⟨⟨rfl,_,rfl,LeB.boxL (rA (.refl _) (.refl _) (.refl _) (mY (by exact omT)))⟩,⟨rfl,_,rfl,.refl _⟩,⟨rfl,_,rfl,.refl _⟩,trivial⟩) (.step (some (10,2,d.stores.map ptL)) (Ghost.of_lists (l:=[(0,.tup [])]) (hp:=[(0,.box (mcX (d) (.osl 1 lo n kR) (.sl 2 (d.fetched.map ftL) true) (.sl 2 (d.stores.map ptL) false) (.sl 9 (d.retired.map spL) false))),(1,.arr ((A++d.rob++B).map enL) 17)]) rfl ⟨.refl _,trivial⟩ ⟨⟨rfl,_,rfl,LeB.boxL (rA (.refl _) (.refl _) (mY (by exact omT)) (.refl _))⟩,⟨rfl,_,rfl,.refl _⟩,trivial⟩) (.refl _))) (r:=.tup []) (h':=heapF [(0,.box (mcX (d) (.osl 1 lo n kR) (.sl 2 (d.fetched.map ftL) true) (.sl 2 (d.stores.map ptL) false) (.sl 9 (d.retired.map spL) false))),(1,.arr ((A++d.rob++B).map enL) 17)]) (σ:=λz=>z) ⟨rfl,.inr ⟨1,A,B,kR,.inl ⟨rfl,by decide⟩,by omega,by rw[hlo,hn]⟩⟩ rfl (rB (λz=>z) rfl rfl wH rfl)
def Po(c:Co)(nb:Nat)(hm:c.okM nb)(h0:c.rob=[]):qE C0.P C0.G 27 [.ptr 0 0] (heapF [(0,.box (mcX c (.sl 17 [] false) (.sl 2 (c.fetched.map ftL) true) (.sl 2 (c.stores.map ptL) true) (.sl 9 (c.retired.map spL) true)))]) 1 (λx h'=>x=.tup []∧Um 1 (dP c) (.sl 2 ((dP c).fetched.map ftL) true) (.sl 2 ((dP c).stores.map ptL) false) (.sl 9 ((dP c).retired.map spL) false) h'):=by
 refine HCall.intro (C:=C1) (s:=1) c1Ok.at Tryz.func27 rfl rfl (by kernel_rfl) rfl rfl<|qSC 0 rfl<|tC (κ:=Nat) (λk=>⟨slotsF [(0,.ptr 0 0),(11,vI c.conf.width),(12,vN k)],heapF [(0,.box (mcX c (.sl 17 (([]:List Ent).map enL) false) (.sl 2 (c.fetched.map ftL) true) (.sl 2 (c.stores.map ptL) true) (.sl 9 (c.retired.map spL) true)))],8⟩) (λk=>k<=2) (λk=>2-k) 0 (λs=>s) (Weak.of_lists (λs=>s) wT wH rfl) rfl (aE _) ?_;intro k hk;refine qS 0 rfl<|rV (vB (decide ((k:Int)<c.conf.width))) rfl<|qRC 0 rfl<|aS rfl (λh1=>?_) (λh1=>?_)
 ·refine qC 0 rfl<|rV (vB (c.halt != 0)) rfl<|qR 0 rfl<|gS rfl id<|gS rfl id<|gS rfl id<|gS rfl id<|gBS rfl id (vX enL ([]:List Ent) omT)<|gBS rfl id (okB (eqN _ _))<|cU rfl rfl rfl (by simp)<|qR 0 rfl<|gS rfl id<|gS rfl id<|gS rfl id<|gS rfl id<|Hp (enL Ck) (x:=.dp 17 0 (enL Ck)) (g:= !(cR (c.halt != 0) true (0==0))) rfl rfl rfl rfl (λh=>h) rfl rfl (λhg=>(by have z:=hg;simp[c2o]at z)) rfl<|gS rfl id<|gS rfl id<|gBS rfl id rfl<|cU rfl rfl rfl (by simp)<|qRC 0 rfl<|aS rfl (λ_=>?_) (λh2=>by simp[c2o]at h2);refine qCF 0 rfl<|qXF 0 rfl ?_;have e:dP c=c:=jF (.inr (by rw[h0];rfl));rw[e];exact Iy (.refl _) none ⟨rfl,.inl ⟨h0,rfl⟩⟩ (ghX rfl (rA (.refl _) (.refl _) (.clip _ _) (.clip _ _)) trivial)
 ·refine qCF 0 rfl ?_;have e:dP c=c:=jF (.inr (by rw[h0];rfl));rw[e];exact qXF 0 rfl<|RD (rs:=[]) rfl (.step none (Ghost.of_lists (l:=[(0,.tup [])]) (hp:=[(0,.box (mcX (c) (.sl 17 (([]:List Ent).map enL) false) (.sl 2 (c.fetched.map ftL) true) (.sl 2 (c.stores.map ptL) false) (.sl 9 (c.retired.map spL) false)))]) trivial ⟨.refl _,trivial⟩ ⟨⟨trivial,_,rfl,LeB.boxL (rA (.refl _) (.refl _) (.clip _ _) (.clip _ _))⟩,trivial⟩) (.refl _)) (r:=.tup []) (h':=heapF [(0,.box (mcX (c) (.sl 17 (([]:List Ent).map enL) false) (.sl 2 (c.fetched.map ftL) true) (.sl 2 (c.stores.map ptL) false) (.sl 9 (c.retired.map spL) false)))]) (σ:=λz=>z) ⟨rfl,.inl ⟨h0,rfl⟩⟩ rfl (rB (λz=>z) rfl rfl wH rfl)
def pA{α:Type}(f:α->α)(l:List α)(k:Nat):List α:=(l.take k).map f++l.drop k
def XL{α:Type}{f:α->α}{l:List α}{k:Nat}:(pA f l k).length=l.length:=by unfold pA;simp;omega
def Eo{α:Type}{f:α->α}{l:List α}{k:Nat}(h:l.length<=k):pA f l k=l.map f:=by
 unfold pA;rw[aM h,cC h,dR]
def SB{α:Type}{f:α->α}{l:List α}{k:Nat}:(pA f l k)[k]?=l[k]? :=by
 unfold pA;rcases al_Nat_lt_or_ge k l.length with h|h
 ·have hl:((l.take k).map f).length=k:=by rw[aG,aL];omega
  rw[bU omT,hl,fG,cE,iW]
 ·rw[cC h,dR,bO (by simp;omega),bO h]
def BU{α:Type}{f:α->α}{l:List α}{k:Nat}{x:α}(h:(pA f l k)[k]?=some x):(pA f l k).set k (f x)=pA f l (k+1):=by
 rw[SB]at h;obtain⟨hk,rfl⟩:=DS.1 h;have hl:((l.take k).map f).length=k:=by rw[aG,aL];omega
 unfold pA;rw[bR hk,iO _ _ omT,hl,fG,gI,bV,aA hk,dY,eY];rfl
def Nz{α:Type}{f:α->α}{l:List α}{k:Nat}{x:α}(h:(pA f l k)[k]?=some x)(he:f x=x):pA f l k=pA f l (k+1):=by
 rw[<-BU h,he];obtain⟨hk,rfl⟩:=DS.1 h;exact(List.set_getElem_self hk).symm
def Hv{α:Type}{P:α->Prop}{f:α->α}{l:List α}(hf:∀x,P x->P (f x))(h:∀x∈l,P x)(k:Nat):∀x∈pA f l k,P x:=by
 intro x hx;rcases al_List_mem_append.1 hx with hx|hx
 ·obtain⟨y,hy,rfl⟩:=sY.1 hx;exact hf y (h y (cQ hy))
 ·exact h x (eO hx)
def Pl{e:Ent}(h:e.ok){b:Nat}(hb:b<=4294967295):(qY e b).ok:=by
 have hv:valB b (bC e.i.op)<=4294967295:=by
  have h4:=rG e.i.op;unfold valB;have:=ES (jH b (bC e.i.op)) (by rw[tW];exact h4);omega
 unfold qY;split
 ·exact h
 ·exact⟨h.pc,h.imm,h.guess,hv,h.next,h.addr⟩
def CD{r:Nat->Nat}{l:List Ent}{j:Nat}{x:Ent}(hx:l[j]?=some x)(h: ¬kindOf x.i.op=4):storeAt r l j=l:=by unfold storeAt;rw[hx];exact if_neg h
def Am{r:Nat->Nat}{l:List Ent}{j:Nat}{x:Ent}(hx:l[j]?=some x)(h:(kZ l r j x.i.rs2).isSome=false):storeAt r l j=l:=by
 unfold storeAt;rw[hx];dsimp only;split
 ·rw[show kZ l r j x.i.rs2=none by simpa using h]
 ·rfl
def An{r:Nat->Nat}{l:List Ent}{j:Nat}{x:Ent}(hx:l[j]?=some x)(hk:kindOf x.i.op=4)(h:(kZ l r j x.i.rs2).isSome=true):storeAt r l j=l.set j (qY x ((kZ l r j x.i.rs2).getD 0)):=by
 unfold storeAt;rw[hx];dsimp only;rw[if_pos hk];obtain⟨b,hb⟩:=Fk.1 h;rw[hb];rfl
def KR(r:Nat->Nat)(l:List Ent)(j:Nat):(storeAt r l j).length=l.length:=by
 unfold storeAt;repeat' split
 all_goals simp
theorem Dd{r:Nat->Nat}{l:List Ent}:∀{k:Nat},(cK r l k).length=l.length
 |0=>rfl
 |k+1=>(KR ..).trans Dd
theorem pG{r:Nat->Nat}{l:List Ent}(h:∀x∈l,x.ok)(hr:∀k,r k<=4294967295):∀k,∀x∈cK r l k,x.ok
 |0=>h
 | k+1=>by
  have ih:=pG h hr k;show ∀x∈storeAt r (cK r l k) k,x.ok
  cases hx:(cK r l k)[k]? with
  |none=>unfold storeAt;rw[hx];exact ih
  | some x=>
   by_cases hk:kindOf x.i.op=4
   ·cases hq:(kZ (cK r l k) r k x.i.rs2).isSome with
    |true=>rw[An hx hk hq];exact zC (P:=Ent.ok) ih (Pl (ih x (aB hx)) (BX ih hr _ _))
    |false=>rw[Am hx hq];exact ih
   ·rw[CD hx hk];exact ih
def tM{l:List Ent}(h:∀x∈l,x.ok):∀x∈l.map goE,x.ok:=by
 intro x hx;obtain⟨y,hy,rfl⟩:=sY.1 hx;exact PD (h y hy)
def mB(c:Co):(dA c).length=c.rob.length:=by unfold dA;rw[Dd,aG]
def vV{c:Co}{n:Nat}(h:c.okM n):∀x∈dA c,x.ok:=pG (tM h.ok.robo) h.ok.r _
def Ep{l:List Ent}{i:Nat}(h:yB l=some i):i<l.length:=(List.findIdx?_eq_some_iff_getElem.1 h).1
def Mh{l:List Ent}{i:Nat}(h:i<l.length):(Ce l i).length=i+1:=by
 unfold Ce;rw[aA h];simp;omega
def Vt{l:List Ent}{i:Nat}(h:∀x∈l,x.ok):∀x∈Ce l i,x.ok:=by
 unfold Ce
 cases hx:l[i]? with
 |none=>exact h
 |some e=>
  have he:=h e (aB hx);exact sM (AQ h) (sN (P:=Ent.ok) ⟨he.pc,he.imm,he.next,he.value,he.next,he.addr⟩)
def Pm{α:Type}{A l B:List α}{lo n:Nat}(hlo:A.length=lo)(hn:l.length=n):((A++l++B).drop lo).take n=l:=by
 subst hlo;subst hn;rw[eY,List.drop_left,List.take_left]
def Gc{c:Co}(hh: ¬c.halt≠0)(h:yB (dA c)=none):gZ c={c with rob:=dA c}:=by
 unfold gZ;rw[if_neg hh,h]
def Gd{c:Co}{i:Nat}{x:Ent}(hh: ¬c.halt≠0)(h:yB (dA c)=some i)(hx:(dA c)[i]?=some x):gZ c={c with rob:=Ce (dA c) i,fetch:=x.next,fetched:=[],stop:=false}:=by
 unfold gZ;rw[if_neg hh,h];dsimp only;rw[hx]
def Jl{c:Co}(h:c.rob=[]):gZ c=c:=by
 unfold gZ dA;rw[h];split
 ·rfl
 ·show {c with rob:=[]}=c;rw[<-h]
def KS{c:Co}{n:Nat}(h:c.okM n):(gZ c).okM n:=by
 have hl:=mB c;have ho:=vV h;by_cases hh:c.halt≠0
 ·rw[show gZ c=c from if_pos hh];exact h
 ·cases hw:yB (dA c)with
  |none=>
   rw[Gc hh hw]
   exact⟨⟨h.ok.conf,h.ok.prog,h.ok.progo,h.ok.r,h.ok.fetch,h.ok.fet,h.ok.feto,by rw[hl];exact h.ok.rob,ho,h.ok.sto,h.ok.stoo,h.ok.data,h.ok.words,h.ok.bus,h.ok.buso,h.ok.asked,h.ok.guessed,h.ok.mem,h.ok.guess,h.ok.ret,h.ok.reto⟩,h.nb,h.cf,h.data,h.words,h.guess,by rw[hl];exact h.rob,h.fet,h.sto,h.prog,h.mem,h.std⟩
  |some i=>
   have hi:=Ep hw;have hx:=aA hi;have hc:=Mh hi;have hr:=h.rob;rw[Gd hh hw hx];exact⟨⟨h.ok.conf,h.ok.prog,h.ok.progo,h.ok.r,(ho _ (lH hi)).next,aE _,(λx hx=>by cases hx),by show(Ce _ _).length<=_;rw[hc];omega,Vt ho,h.ok.sto,h.ok.stoo,h.ok.data,h.ok.words,h.ok.bus,h.ok.buso,h.ok.asked,h.ok.guessed,h.ok.mem,h.ok.guess,h.ok.ret,h.ok.reto⟩,h.nb,h.cf,h.data,h.words,h.guess,by show(Ce _ _).length<=_;rw[hc];omega,aE _,h.sto,h.prog,h.mem,h.std⟩
def Vq(c:Co)(nb:Nat)(hm:c.okM nb)(A B:List Ent)(lo n:Nat)(kR:Bool)(hlo:A.length=lo)(hn:c.rob.length=n)(hA:A.length+n+B.length<=1000)(hAo:∀x∈A,x.ok)(hBo:∀x∈B,x.ok)(hw:yB (dA c)=none)(kS kT:Bool)(xS xT:List (List AV)):qE C0.P C0.G 26 [.ptr 0 0] (heapF [(0,.box (mcX c (.osl 1 lo n kR) (.sl 2 (c.fetched.map ftL) true) (.sl 2 xS kS) (.sl 9 xT kT))),(1,.arr ((A++c.rob++B).map enL) 17)]) 2 (λx h'=>x=.tup []∧Um 2 (gZ c) (.sl 2 ((gZ c).fetched.map ftL) true) (.sl 2 xS kS) (.sl 9 xT kT) h'):=by
 refine HCall.intro (C:=C1) (s:=2) c1Ok.at Tryz.func26 rfl rfl (by kernel_rfl) rfl rfl<|qS 0 rfl<|rV (vB (c.halt != 0)) rfl<|qRC 0 rfl<|aS rfl (λh1=>?_) (λh1=>?_)
 ·have h1p:=xH h1;refine qCF 0 rfl ?_;have ee:gZ c=c:=if_pos h1p;rw[ee];exact pK (rs:=[]) rfl (r:=.tup []) (h':=heapF [(0,.box (mcX (c) (.osl 1 lo n kR) (.sl 2 (c.fetched.map ftL) true) (.sl 2 xS kS) (.sl 9 xT kT))),(1,.arr ((A++c.rob++B).map enL) 17)]) (σ:=λz=>z) ⟨rfl,.inr ⟨1,A,B,kR,.inl ⟨rfl,by decide⟩,(by show A.length+(c.rob).length+B.length<=1000;omega),(by show _=heapF [(0,.box (mcX (c) (.osl 1 A.length (c.rob).length kR) _ _ _)),_];rw[hlo,hn])⟩⟩ rfl (cI (λz=>z) rfl rfl wH rfl)
 ·have h1p:=xI h1;refine qC 0 rfl<|rV (vN n) rfl<|qRC 0 rfl<|tC (κ:=Nat) (λk=>⟨slotsF [(0,.ptr 0 0),(16,vB (c.halt != 0)),(21,.osl 1 lo n kR),(22,vN n),(23,vN k)],heapF [(0,.box (mcX c (.osl 1 lo n kR) (.sl 2 (c.fetched.map ftL) true) (.sl 2 xS kS) (.sl 9 xT kT))),(1,.arr ((A++(pA goE c.rob k)++B).map enL) 17)],15⟩) (λk=>k<=n) (λk=>n-k) 0 (λs=>s) (Weak.of_lists (λs=>s) wT wH rfl) rfl (aE _) ?_;intro k hk;have hkn:k<=n:=hk;have hkB:k<=1000:=by have:=hm.rob;omega
  have hml:(pA goE c.rob k).length=n:=XL.trans hn;refine qS 0 rfl<|rW (vB (decide (k<n))) rfl (okB (ltN _ _))<|qRC 0 rfl<|aS rfl (λh2=>?_) (λh2=>?_)
  ·have h2p:=of_decide_eq_true h2;refine qC 0 rfl<|nW (.ptr2 1 (lo+k) 0) rfl rfl ixT ?_;obtain⟨x,hx⟩:∃y_,(pA goE c.rob k)[k]?=some y_:=⟨_,aA omT⟩;have hxo:=(Hv (λx h=>PD h) hm.ok.robo k) x (aB hx);refine rIx (enL x) (.agg (enL x)) rfl rfl (fW (jM hlo hx)) rfl<|qRC 0 rfl<|cRg<|oR 7 rfl<|rCi rfl (aaX x hxo)<|nW (.ptr2 1 (lo+k) 0) rfl rfl ixT ?_;have hx1:((pA goE c.rob k).set k (goE x))[k]?=some (goE x):=aT omT;refine nL (enL x) (h':=upd _ 1 (some (.arr ((A++((pA goE c.rob k).set k (goE x))++B).map enL) 17))) rfl rfl rfl (⟨aH _,fW ((jM hlo hx))⟩) (uQ (f:=enL) (x:=(goE x)) (l:=pA goE c.rob k) (i:=k) hlo omT)<|rE 32 ?_;have b1:k+1<=1001:=aF hkB (aC 1);refine qX 0 rfl<|rW (vN (k+1)) rfl (okI (bJ b1 rfl))<|qRF 0 rfl<| .mk _ (.refl _) ⟨k+1,λs=>s,Weak.of_lists _ wT ⟨⟨rfl,rfl,rfl⟩,⟨rfl,(congrArg (λz:List Ent=>some (Blk.arr ((A++z++B).map enL) 17)) (BU hx)),rfl⟩,trivial⟩ rfl,rfl,by omega,by show n-(k+1)<n-k;omega⟩
  ·have h2p:=aD h2;refine qCF 0 rfl<|qX 0 rfl<|rV (vN n) rfl<|qRC 0 rfl<|tC (κ:=Nat) (λj=>⟨slotsF [(0,.ptr 0 0),(16,vB (c.halt != 0)),(24,vB (decide (k<n))),(42,.osl 1 lo n kR),(43,vN n),(44,vN j)],heapF [(0,.box (mcX c (.osl 1 lo n kR) (.sl 2 (c.fetched.map ftL) true) (.sl 2 xS kS) (.sl 9 xT kT))),(1,.arr ((A++(cK c.r (c.rob.map goE) j)++B).map enL) 17)],23⟩) (λj=>j<=n) (λj=>n-j) 0 (λs=>s) (Weak.of_lists (λs=>s) wT ⟨⟨rfl,rfl,rfl⟩,⟨rfl,(congrArg (λz:List Ent=>some (Blk.arr ((A++z++B).map enL) 17)) (Eo (f:=goE) (l:=c.rob) omT)),rfl⟩,trivial⟩ rfl) rfl (aE _) ?_;intro j hj;have hjn:j<=n:=hj;have hjB:j<=1000:=by have:=hm.rob;omega
   have hsl:(cK c.r (c.rob.map goE) j).length=n:=Dd.trans ((aG ..).trans hn);refine qS 0 rfl<|rW (vB (decide (j<n))) rfl (okB (ltN _ _))<|qRC 0 rfl<|aS rfl (λh3=>?_) (λh3=>?_)
   ·have h3p:=of_decide_eq_true h3;refine qC 0 rfl<|nW (.ptr2 1 (lo+j) 0) rfl rfl ixT ?_;obtain⟨x,hx⟩:∃y_,(cK c.r (c.rob.map goE) j)[j]?=some y_:=⟨_,aA omT⟩;have hxo:=(pG (tM hm.ok.robo) hm.ok.r j) x (aB hx);refine rIx (enL x) (.agg (enL x)) rfl rfl (fW (jM hlo hx)) rfl<|qR 0 rfl<|rCi rfl (pV x.i)<|rW (vB ((kindOf x.i.op) != 4)) rfl (okB (neN _ _))<|qRC 0 rfl<|aS rfl (λh4=>?_) (λh4=>?_)
    ·have h4p:=xH h4;have b2:j+1<=1001:=aF hjB (aC 1);refine qC 0 rfl<|rW (vN (j+1)) rfl (okI (bJ b2 rfl))<|qRF 0 rfl<| .mk _ (.refl _) ⟨j+1,λs=>s,Weak.of_lists _ wT ⟨⟨rfl,rfl,rfl⟩,⟨rfl,(congrArg (λz:List Ent=>some (Blk.arr ((A++z++B).map enL) 17)) (show cK c.r (c.rob.map goE) j=cK c.r (c.rob.map goE) (j+1)from(CD hx h4p).symm)),rfl⟩,trivial⟩ rfl,rfl,by omega,by show n-(j+1)<n-j;omega⟩
    ·have h4p:=xI h4;refine qC 0 rfl<|rCi rfl (EV x.i)<|qRC 0 rfl<|cRg<|oR 12 rfl<|rCl (x:=.tup [vU ((kZ (cK c.r (c.rob.map goE) j) c.r j x.i.rs2).getD 0),vB ((kZ (cK c.r (c.rob.map goE) j) c.r j x.i.rs2).isSome)]) rfl (.inr ⟨rfl,⟨(by show lo+n<=((A++(cK c.r (c.rob.map goE) j)++B).map enL).length;exact omT),tvT,trivial,trivial,trivial⟩⟩) ((show cA C0 61 [.sl 17 (List.take n (List.drop lo ((A++(cK c.r (c.rob.map goE) j)++B).map enL))) kR,.agg (Jz c.r),vN j,vI x.i.rs2] _ from by rw[uC (l:=cK c.r (c.rob.map goE) j) hlo (by first|assumption|exact hn)];exact Jt (cK c.r (c.rob.map goE) j) c.r kR j x.i.rs2 (by have:=hm.rob;omega) (pG (tM hm.ok.robo) hm.ok.r j) hm.ok.r (by have:=hm.rob;omega)))<|oR 5 rfl<|rE 60<|qXC 0 rfl<|aS rfl (λh5=>?_) (λh5=>?_)
     ·refine cRg<|oR 8 rfl<|rCi rfl (QW x ((kZ (cK c.r (c.rob.map goE) j) c.r j x.i.rs2).getD 0) hxo (BX (pG (tM hm.ok.robo) hm.ok.r j) hm.ok.r j x.i.rs2))<|nW (.ptr2 1 (lo+j) 0) rfl rfl ixT ?_;have hx2:((cK c.r (c.rob.map goE) j).set j (qY x ((kZ (cK c.r (c.rob.map goE) j) c.r j x.i.rs2).getD 0)))[j]?=some (qY x ((kZ (cK c.r (c.rob.map goE) j) c.r j x.i.rs2).getD 0)):=aT omT;refine nL (enL x) (h':=upd _ 1 (some (.arr ((A++((cK c.r (c.rob.map goE) j).set j (qY x ((kZ (cK c.r (c.rob.map goE) j) c.r j x.i.rs2).getD 0)))++B).map enL) 17))) rfl rfl rfl (⟨aH _,fW ((jM hlo hx))⟩) (uQ (f:=enL) (x:=(qY x ((kZ (cK c.r (c.rob.map goE) j) c.r j x.i.rs2).getD 0))) (l:=cK c.r (c.rob.map goE) j) (i:=j) hlo omT)<|rE 72 ?_;have b3:j+1<=1001:=aF hjB (aC 1);refine qX 0 rfl<|rW (vN (j+1)) rfl (okI (bJ b3 rfl))<|qRF 0 rfl<| .mk _ (.refl _) ⟨j+1,λs=>s,Weak.of_lists _ wT ⟨⟨rfl,rfl,rfl⟩,⟨rfl,(congrArg (λz:List Ent=>some (Blk.arr ((A++z++B).map enL) 17)) (show(cK c.r (c.rob.map goE) j).set j (qY x ((kZ (cK c.r (c.rob.map goE) j) c.r j x.i.rs2).getD 0))=cK c.r (c.rob.map goE) (j+1)from(An hx (h4p) h5).symm)),rfl⟩,trivial⟩ rfl,rfl,by omega,by show n-(j+1)<n-j;omega⟩
     ·skip
      have b4:j+1<=1001:=aF hjB (aC 1);refine qC 0 rfl<|rW (vN (j+1)) rfl (okI (bJ b4 rfl))<|qRF 0 rfl<| .mk _ (.refl _) ⟨j+1,λs=>s,Weak.of_lists _ wT ⟨⟨rfl,rfl,rfl⟩,⟨rfl,(congrArg (λz:List Ent=>some (Blk.arr ((A++z++B).map enL) 17)) (show cK c.r (c.rob.map goE) j=cK c.r (c.rob.map goE) (j+1)from(Am hx h5).symm)),rfl⟩,trivial⟩ rfl,rfl,by omega,by show n-(j+1)<n-j;omega⟩
   ·have h3p:=aD h3;have hWj:cK c.r (c.rob.map goE) j=dA c:=by have q:j=c.rob.length:=omT;rw[q];rfl
    have hWl:(dA c).length=n:=(mB c).trans hn;refine qCF 0 rfl<|qX 0 rfl<|rCl (x:=vI (-1)) rfl (.inr ⟨rfl,⟨(by show lo+n<=((A++(cK c.r (c.rob.map goE) j)++B).map enL).length;exact omT),trivial⟩⟩) ((show cA C0 _ [.sl 17 (List.take n (List.drop lo ((A++(cK c.r (c.rob.map goE) j)++B).map enL))) kR] (vI (-1))from by rw[show vI (-1)=vI (Dx (yB (dA c)))from by rw[hw];rfl,uC (l:=cK c.r (c.rob.map goE) j) hlo (by first|assumption|exact hn),hWj];exact PN (dA c) kR (by rw[mB];have:=hm.rob;omega) (vV hm)))<|qR 0 rfl<|rV (vB (decide ((-1)>=0))) rfl<|qRC 0 rfl<|aS rfl (λh6=>by exact absurd h6 (by decide)) (λ_=>?_);have ee:gZ c={c with rob:=dA c}:=Gc (λq=>q h1p) hw;rw[ee];exact qCF 0 rfl<|pK (rs:=[]) rfl (r:=.tup []) (h':=heapF [(0,.box (mcX ({c with rob:=dA c}) (.osl 1 lo n kR) (.sl 2 (c.fetched.map ftL) true) (.sl 2 xS kS) (.sl 9 xT kT))),(1,.arr ((A++dA c++B).map enL) 17)]) (σ:=λz=>z) ⟨rfl,.inr ⟨1,A,B,kR,.inl ⟨rfl,by decide⟩,(by show A.length+(dA c).length+B.length<=1000;omega),(by show _=heapF [(0,.box (mcX ({c with rob:=dA c}) (.osl 1 A.length (dA c).length kR) _ _ _)),_];rw[hlo,hWl])⟩⟩ rfl (cI (λz=>z) rfl rfl ⟨⟨rfl,rfl,rfl⟩,⟨rfl,(by show some (Blk.arr ((A++cK c.r (c.rob.map goE) j++B).map enL) 17)=_;rw[hWj];rfl),rfl⟩,trivial⟩ rfl)
def Vr(c:Co)(nb:Nat)(hm:c.okM nb)(A B:List Ent)(lo n:Nat)(kR:Bool)(hlo:A.length=lo)(hn:c.rob.length=n)(hA:A.length+n+B.length<=1000)(hAo:∀x∈A,x.ok)(hBo:∀x∈B,x.ok)(i:Nat)(hw:yB (dA c)=some i)(kS kT:Bool)(xS xT:List (List AV)):qE C0.P C0.G 26 [.ptr 0 0] (heapF [(0,.box (mcX c (.osl 1 lo n kR) (.sl 2 (c.fetched.map ftL) true) (.sl 2 xS kS) (.sl 9 xT kT))),(1,.arr ((A++c.rob++B).map enL) 17)]) 2 (λx h'=>x=.tup []∧Um 2 (gZ c) (.sl 2 ((gZ c).fetched.map ftL) true) (.sl 2 xS kS) (.sl 9 xT kT) h'):=by
 refine HCall.intro (C:=C1) (s:=2) c1Ok.at Tryz.func26 rfl rfl (by kernel_rfl) rfl rfl ?_;have hi1:i<n:=by have q:=Ep hw;rw[mB]at q;omega
 refine qS 0 rfl<|rV (vB (c.halt != 0)) rfl<|qRC 0 rfl<|aS rfl (λh1=>?_) (λh1=>?_)
 ·have h1p:=xH h1;refine qCF 0 rfl ?_;have ee:gZ c=c:=if_pos h1p;rw[ee];exact pK (rs:=[]) rfl (r:=.tup []) (h':=heapF [(0,.box (mcX (c) (.osl 1 lo n kR) (.sl 2 (c.fetched.map ftL) true) (.sl 2 xS kS) (.sl 9 xT kT))),(1,.arr ((A++c.rob++B).map enL) 17)]) (σ:=λz=>z) ⟨rfl,.inr ⟨1,A,B,kR,.inl ⟨rfl,by decide⟩,(by show A.length+(c.rob).length+B.length<=1000;omega),(by show _=heapF [(0,.box (mcX (c) (.osl 1 A.length (c.rob).length kR) _ _ _)),_];rw[hlo,hn])⟩⟩ rfl (cI (λz=>z) rfl rfl wH rfl)
 ·have h1p:=xI h1;refine qC 0 rfl<|rV (vN n) rfl<|qRC 0 rfl<|tC (κ:=Nat) (λk=>⟨slotsF [(0,.ptr 0 0),(16,vB (c.halt != 0)),(21,.osl 1 lo n kR),(22,vN n),(23,vN k)],heapF [(0,.box (mcX c (.osl 1 lo n kR) (.sl 2 (c.fetched.map ftL) true) (.sl 2 xS kS) (.sl 9 xT kT))),(1,.arr ((A++(pA goE c.rob k)++B).map enL) 17)],15⟩) (λk=>k<=n) (λk=>n-k) 0 (λs=>s) (Weak.of_lists (λs=>s) wT wH rfl) rfl (aE _) ?_;intro k hk;have hkn:k<=n:=hk;have hkB:k<=1000:=by have:=hm.rob;omega
  have hml:(pA goE c.rob k).length=n:=XL.trans hn;refine qS 0 rfl<|rW (vB (decide (k<n))) rfl (okB (ltN _ _))<|qRC 0 rfl<|aS rfl (λh2=>?_) (λh2=>?_)
  ·have h2p:=of_decide_eq_true h2;refine qC 0 rfl<|nW (.ptr2 1 (lo+k) 0) rfl rfl ixT ?_;obtain⟨x,hx⟩:∃y_,(pA goE c.rob k)[k]?=some y_:=⟨_,aA omT⟩;have hxo:=(Hv (λx h=>PD h) hm.ok.robo k) x (aB hx);refine rIx (enL x) (.agg (enL x)) rfl rfl (fW (jM hlo hx)) rfl<|qRC 0 rfl<|cRg<|oR 7 rfl<|rCi rfl (aaX x hxo)<|nW (.ptr2 1 (lo+k) 0) rfl rfl ixT ?_;have hx1:((pA goE c.rob k).set k (goE x))[k]?=some (goE x):=aT omT;refine nL (enL x) (h':=upd _ 1 (some (.arr ((A++((pA goE c.rob k).set k (goE x))++B).map enL) 17))) rfl rfl rfl (⟨aH _,fW ((jM hlo hx))⟩) (uQ (f:=enL) (x:=(goE x)) (l:=pA goE c.rob k) (i:=k) hlo omT)<|rE 32 ?_;have b1:k+1<=1001:=aF hkB (aC 1);refine qX 0 rfl<|rW (vN (k+1)) rfl (okI (bJ b1 rfl))<|qRF 0 rfl<| .mk _ (.refl _) ⟨k+1,λs=>s,Weak.of_lists _ wT ⟨⟨rfl,rfl,rfl⟩,⟨rfl,(congrArg (λz:List Ent=>some (Blk.arr ((A++z++B).map enL) 17)) (BU hx)),rfl⟩,trivial⟩ rfl,rfl,by omega,by show n-(k+1)<n-k;omega⟩
  ·have h2p:=aD h2;refine qCF 0 rfl<|qX 0 rfl<|rV (vN n) rfl<|qRC 0 rfl<|tC (κ:=Nat) (λj=>⟨slotsF [(0,.ptr 0 0),(16,vB (c.halt != 0)),(24,vB (decide (k<n))),(42,.osl 1 lo n kR),(43,vN n),(44,vN j)],heapF [(0,.box (mcX c (.osl 1 lo n kR) (.sl 2 (c.fetched.map ftL) true) (.sl 2 xS kS) (.sl 9 xT kT))),(1,.arr ((A++(cK c.r (c.rob.map goE) j)++B).map enL) 17)],23⟩) (λj=>j<=n) (λj=>n-j) 0 (λs=>s) (Weak.of_lists (λs=>s) wT ⟨⟨rfl,rfl,rfl⟩,⟨rfl,(congrArg (λz:List Ent=>some (Blk.arr ((A++z++B).map enL) 17)) (Eo (f:=goE) (l:=c.rob) omT)),rfl⟩,trivial⟩ rfl) rfl (aE _) ?_;intro j hj;have hjn:j<=n:=hj;have hjB:j<=1000:=by have:=hm.rob;omega
   have hsl:(cK c.r (c.rob.map goE) j).length=n:=Dd.trans ((aG ..).trans hn);refine qS 0 rfl<|rW (vB (decide (j<n))) rfl (okB (ltN _ _))<|qRC 0 rfl<|aS rfl (λh3=>?_) (λh3=>?_)
   ·have h3p:=of_decide_eq_true h3;refine qC 0 rfl<|nW (.ptr2 1 (lo+j) 0) rfl rfl ixT ?_;obtain⟨x,hx⟩:∃y_,(cK c.r (c.rob.map goE) j)[j]?=some y_:=⟨_,aA omT⟩;have hxo:=(pG (tM hm.ok.robo) hm.ok.r j) x (aB hx);refine rIx (enL x) (.agg (enL x)) rfl rfl (fW (jM hlo hx)) rfl<|qR 0 rfl<|rCi rfl (pV x.i)<|rW (vB ((kindOf x.i.op) != 4)) rfl (okB (neN _ _))<|qRC 0 rfl<|aS rfl (λh4=>?_) (λh4=>?_)
    ·have h4p:=xH h4;have b2:j+1<=1001:=aF hjB (aC 1);refine qC 0 rfl<|rW (vN (j+1)) rfl (okI (bJ b2 rfl))<|qRF 0 rfl<| .mk _ (.refl _) ⟨j+1,λs=>s,Weak.of_lists _ wT ⟨⟨rfl,rfl,rfl⟩,⟨rfl,(congrArg (λz:List Ent=>some (Blk.arr ((A++z++B).map enL) 17)) (show cK c.r (c.rob.map goE) j=cK c.r (c.rob.map goE) (j+1)from(CD hx h4p).symm)),rfl⟩,trivial⟩ rfl,rfl,by omega,by show n-(j+1)<n-j;omega⟩
    ·have h4p:=xI h4;refine qC 0 rfl<|rCi rfl (EV x.i)<|qRC 0 rfl<|cRg<|oR 12 rfl<|rCl (x:=.tup [vU ((kZ (cK c.r (c.rob.map goE) j) c.r j x.i.rs2).getD 0),vB ((kZ (cK c.r (c.rob.map goE) j) c.r j x.i.rs2).isSome)]) rfl (.inr ⟨rfl,⟨(by show lo+n<=((A++(cK c.r (c.rob.map goE) j)++B).map enL).length;exact omT),tvT,trivial,trivial,trivial⟩⟩) ((show cA C0 61 [.sl 17 (List.take n (List.drop lo ((A++(cK c.r (c.rob.map goE) j)++B).map enL))) kR,.agg (Jz c.r),vN j,vI x.i.rs2] _ from by rw[uC (l:=cK c.r (c.rob.map goE) j) hlo (by first|assumption|exact hn)];exact Jt (cK c.r (c.rob.map goE) j) c.r kR j x.i.rs2 (by have:=hm.rob;omega) (pG (tM hm.ok.robo) hm.ok.r j) hm.ok.r (by have:=hm.rob;omega)))<|oR 5 rfl<|rE 60<|qXC 0 rfl<|aS rfl (λh5=>?_) (λh5=>?_)
     ·refine cRg<|oR 8 rfl<|rCi rfl (QW x ((kZ (cK c.r (c.rob.map goE) j) c.r j x.i.rs2).getD 0) hxo (BX (pG (tM hm.ok.robo) hm.ok.r j) hm.ok.r j x.i.rs2))<|nW (.ptr2 1 (lo+j) 0) rfl rfl ixT ?_;have hx2:((cK c.r (c.rob.map goE) j).set j (qY x ((kZ (cK c.r (c.rob.map goE) j) c.r j x.i.rs2).getD 0)))[j]?=some (qY x ((kZ (cK c.r (c.rob.map goE) j) c.r j x.i.rs2).getD 0)):=aT omT;refine nL (enL x) (h':=upd _ 1 (some (.arr ((A++((cK c.r (c.rob.map goE) j).set j (qY x ((kZ (cK c.r (c.rob.map goE) j) c.r j x.i.rs2).getD 0)))++B).map enL) 17))) rfl rfl rfl (⟨aH _,fW ((jM hlo hx))⟩) (uQ (f:=enL) (x:=(qY x ((kZ (cK c.r (c.rob.map goE) j) c.r j x.i.rs2).getD 0))) (l:=cK c.r (c.rob.map goE) j) (i:=j) hlo omT)<|rE 72 ?_;have b3:j+1<=1001:=aF hjB (aC 1);refine qX 0 rfl<|rW (vN (j+1)) rfl (okI (bJ b3 rfl))<|qRF 0 rfl<| .mk _ (.refl _) ⟨j+1,λs=>s,Weak.of_lists _ wT ⟨⟨rfl,rfl,rfl⟩,⟨rfl,(congrArg (λz:List Ent=>some (Blk.arr ((A++z++B).map enL) 17)) (show(cK c.r (c.rob.map goE) j).set j (qY x ((kZ (cK c.r (c.rob.map goE) j) c.r j x.i.rs2).getD 0))=cK c.r (c.rob.map goE) (j+1)from(An hx (h4p) h5).symm)),rfl⟩,trivial⟩ rfl,rfl,by omega,by show n-(j+1)<n-j;omega⟩
     ·skip
      have b4:j+1<=1001:=aF hjB (aC 1);refine qC 0 rfl<|rW (vN (j+1)) rfl (okI (bJ b4 rfl))<|qRF 0 rfl<| .mk _ (.refl _) ⟨j+1,λs=>s,Weak.of_lists _ wT ⟨⟨rfl,rfl,rfl⟩,⟨rfl,(congrArg (λz:List Ent=>some (Blk.arr ((A++z++B).map enL) 17)) (show cK c.r (c.rob.map goE) j=cK c.r (c.rob.map goE) (j+1)from(Am hx h5).symm)),rfl⟩,trivial⟩ rfl,rfl,by omega,by show n-(j+1)<n-j;omega⟩
   ·have h3p:=aD h3;have hWj:cK c.r (c.rob.map goE) j=dA c:=by have q:j=c.rob.length:=omT;rw[q];rfl
    have hWl:(dA c).length=n:=(mB c).trans hn;have hil:i<n:=by have:=Ep hw;omega
    obtain⟨y,hy⟩:∃y,(dA c)[i]?=some y:=⟨_,aA omT⟩;have hyo:=vV hm y (aB hy);have hOKA:∀x∈A++dA c++B,x.ok:=sM (sM hAo (vV hm)) hBo;have hyj:(cK c.r (c.rob.map goE) j)[i]?=some y:=by rw[hWj];exact hy
    refine qCF 0 rfl<|qX 0 rfl<|rCl (x:=vN i) rfl (.inr ⟨rfl,⟨(by show lo+n<=((A++(cK c.r (c.rob.map goE) j)++B).map enL).length;exact omT),trivial⟩⟩) ((show cA C0 _ [.sl 17 (List.take n (List.drop lo ((A++(cK c.r (c.rob.map goE) j)++B).map enL))) kR] (vN i)from by rw[show vN i=vI (Dx (yB (dA c)))from by rw[hw];rfl,uC (l:=cK c.r (c.rob.map goE) j) hlo (by first|assumption|exact hn),hWj];exact PN (dA c) kR (by rw[mB];have:=hm.rob;omega) (vV hm)))<|qR 0 rfl<|rW (vB (decide (i>=0))) rfl (okB (geN _ _))<|qRC 0 rfl<|aS rfl (λ_=>?_) (λh6=>by exact absurd h6 (by simp));refine qC 0 rfl<|nW (.ptr2 1 (lo+i) 0) rfl rfl ixT<|qR 0 rfl<|rIx (enL y) (vU y.next) rfl rfl (fW (jM hlo hyj)) rfl<|qRN 0 rfl<|rSx 0 (mcX ({c with fetch:=y.next}:Co) (.osl 1 lo n kR) (.sl 2 (c.fetched.map ftL) true) (.sl 2 xS kS) (.sl 9 xT kT)) rfl rfl rfl<|qR 0 rfl<|fV _ rfl rfl rfl ((show qE C0.P C0.G 64 [.osl 0 lo n kR,vN i] (heapF [(0,.arr ((A++dA c++B).map enL) 17)]) 1 (λx h'=>x=.osl 1 0 (i+1) false∧h'=heapF [(0,.arr ((A++dA c++B).map enL) 17),(1,.arr ((Ce (dA c) i).map enL) 17)])from by have q:=aa7 (A++dA c++B) lo n i kR (by simp only[aQ,mB];omega) (by simp only[aQ,mB];omega) omT hOKA;rwa [Pm hlo hWl]at q).frameO 1 _ _ rfl (by show some (Blk.arr ((A++cK c.r (c.rob.map goE) j++B).map enL) 17)=_;rw[hWj]) rfl) ?_;rintro _ _ ⟨rfl,rfl⟩;refine qRN 0 rfl<|rSx 0 (mcX ({c with fetch:=y.next}:Co) (.osl 54 0 (i+1) false) (.sl 2 (c.fetched.map ftL) true) (.sl 2 xS kS) (.sl 9 xT kT)) rfl rfl rfl<|qRN 0 rfl<|rSx 0 (mcX ({c with fetch:=y.next}:Co) (.osl 54 0 (i+1) false) (.sl 0 ([]) true) (.sl 2 xS kS) (.sl 9 xT kT)) rfl rfl rfl<|qRN 0 rfl<|rSx 0 (mcX ({c with fetch:=y.next,stop:=false}:Co) (.osl 54 0 (i+1) false) (.sl 0 ([]) true) (.sl 2 xS kS) (.sl 9 xT kT)) rfl rfl rfl ?_;have ee:gZ c={c with rob:=Ce (dA c) i,fetch:=y.next,fetched:=[],stop:=false}:=Gd (λq=>q h1p) hw hy;have hcl:(Ce (dA c) i).length=i+1:=Mh omT;rw[ee];exact qRF 0 rfl<|RD (rs:=[]) rfl (.step none (Ghost.of_lists (l:=[(0,.tup [])]) (hp:=[(0,.box (mcX ({c with rob:=Ce (dA c) i,fetch:=y.next,fetched:=[],stop:=false}) (.osl 54 0 (i+1) false) (.sl 2 [] true) (.sl 2 xS kS) (.sl 9 xT kT))),(54,.arr ((Ce (dA c) i).map enL) 17)]) trivial ⟨.refl _,trivial⟩ ⟨⟨trivial,_,rfl,LeB.boxL (rA (.refl _) (.nil 2 true) (.refl _) (.refl _))⟩,⟨trivial,_,rfl,.refl _⟩,trivial⟩) (.refl _)) (r:=.tup []) (h':=heapF [(0,.box (mcX ({c with rob:=Ce (dA c) i,fetch:=y.next,fetched:=[],stop:=false}) (.osl 2 0 (i+1) false) (.sl 2 [] true) (.sl 2 xS kS) (.sl 9 xT kT))),(2,.arr ((Ce (dA c) i).map enL) 17)]) (σ:=λz=>match z with|2=>54|z=>z) ⟨rfl,.inr ⟨2,[],[],false,.inr rfl,(by show 0+(Ce (dA c) i).length+0<=1000;have:=hm.rob;omega),(by show _=heapF [(0,.box (mcX ({c with rob:=Ce (dA c) i,fetch:=y.next,fetched:=[],stop:=false}) (.osl 2 0 (Ce (dA c) i).length false) _ _ _)),(2,.arr (([]++Ce (dA c) i++[]).map enL) 17)];rw[hcl,iZ,dR];rfl)⟩⟩ rfl (rB (λz=>match z with|2=>54|z=>z) rfl rfl wH rfl)
def Vs(c:Co)(nb:Nat)(hm:c.okM nb)(h0:c.rob=[])(kS kT:Bool)(xS xT:List (List AV)):qE C0.P C0.G 26 [.ptr 0 0] (heapF [(0,.box (mcX c (.sl 17 [] false) (.sl 2 (c.fetched.map ftL) true) (.sl 2 xS kS) (.sl 9 xT kT)))]) 1 (λx h'=>x=.tup []∧Um 1 (gZ c) (.sl 2 ((gZ c).fetched.map ftL) true) (.sl 2 xS kS) (.sl 9 xT kT) h'):=by
 refine HCall.intro (C:=C1) (s:=1) c1Ok.at Tryz.func26 rfl rfl (by kernel_rfl) rfl rfl<|qS 0 rfl<|rV (vB (c.halt != 0)) rfl<|qRC 0 rfl<|aS rfl (λh1=>?_) (λh1=>?_)
 ·refine qCF 0 rfl ?_;rw[Jl h0];exact pK (rs:=[]) rfl (r:=.tup []) (σ:=λz=>z) ⟨rfl,.inl ⟨h0,rfl⟩⟩ rfl (cI (λz=>z) rfl rfl wH rfl)
 ·refine qC 0 rfl<|rW (vN 0) rfl (vX enL ([]:List Ent) omT)<|qRC 0 rfl<|tC (κ:=Nat) (λk=>⟨slotsF [(0,.ptr 0 0),(16,vB (c.halt != 0)),(21,.sl 17 (([]:List Ent).map enL) false),(22,vN 0),(23,vN k)],heapF [(0,.box (mcX c (.sl 17 (([]:List Ent).map enL) false) (.sl 2 (c.fetched.map ftL) true) (.sl 2 xS kS) (.sl 9 xT kT)))],14⟩) (λk=>k<=0) (λk=>0-k) 0 (λs=>s) (Weak.of_lists (λs=>s) wT wH rfl) rfl (aE _) ?_;intro k hk;have hkB:k<=1000:=by omega
  refine qS 0 rfl<|rW (vB (decide (k<0))) rfl (okB (ltN _ _))<|qRC 0 rfl<|aS rfl (λh2=>by exact absurd (of_decide_eq_true h2) (dD _)) (λ_=>?_);refine qCF 0 rfl<|qX 0 rfl<|rW (vN 0) rfl (vX enL ([]:List Ent) omT)<|qRC 0 rfl<|tC (κ:=Nat) (λj=>⟨slotsF [(0,.ptr 0 0),(16,vB (c.halt != 0)),(24,vB (decide (k<0))),(42,.sl 17 (([]:List Ent).map enL) false),(43,vN 0),(44,vN j)],heapF [(0,.box (mcX c (.sl 17 (([]:List Ent).map enL) false) (.sl 2 (c.fetched.map ftL) true) (.sl 2 xS kS) (.sl 9 xT kT)))],22⟩) (λj=>j<=0) (λj=>0-j) 0 (λs=>s) (Weak.of_lists (λs=>s) wT wH rfl) rfl (aE _) ?_;intro j hj;have hjB:j<=1000:=by omega
  refine qS 0 rfl<|rW (vB (decide (j<0))) rfl (okB (ltN _ _))<|qRC 0 rfl<|aS rfl (λh3=>by exact absurd (of_decide_eq_true h3) (dD _)) (λ_=>?_);refine qCF 0 rfl<|qX 0 rfl<|rCl (x:=vI (-1)) rfl (.inl rfl) ((show cA C0 _ [.sl 17 [] false] (vI (-1))from PN [] false (by decide) (λx h=>by cases h)))<|qR 0 rfl<|rV (vB (decide ((-1)>=0))) rfl<|qRC 0 rfl<|aS rfl (λh4=>by exact absurd h4 (by decide)) (λ_=>?_);rw[Jl h0];exact qCF 0 rfl<|pK (rs:=[]) rfl (r:=.tup []) (σ:=λz=>z) ⟨rfl,.inl ⟨h0,rfl⟩⟩ rfl (cI (λz=>z) rfl rfl wH rfl)
def iS(c:Co):Co:={c with bus:=(eA c.bus).1}
def iL(c:Co):jO c=if(eA c.bus).2.2=true then Bp (iS c) (eA c.bus).2.1 else iS c:=rfl
def wU{q:List Req}(h:∀x∈q,x.ok):(eA q).1.length<=q.length∧(∀x∈(eA q).1,x.ok)∧(eA q).2.1.line<=4294967295:=by
 unfold eA
 cases q with
 |nil=>exact⟨aC _,h,aE _⟩
 |cons y l=>
  have hy:=h y (bI ..);have hl:∀x∈l,x.ok:=λx hx=>h x (bP _ hx);dsimp only;split
  ·exact⟨aC _,(λx hx=>(al_List_mem_cons.1 hx).elim (λe=>e ▸ ⟨hy.line⟩) (hl x)),aE _⟩
  ·exact⟨fI _,hl,hy.line⟩
def Al{c:Co}{n:Nat}(h:c.okM n):(iS c).okM n:=by
 have ht:=wU h.ok.buso;exact⟨⟨h.ok.conf,h.ok.prog,h.ok.progo,h.ok.r,h.ok.fetch,h.ok.fet,h.ok.feto,h.ok.rob,h.ok.robo,h.ok.sto,h.ok.stoo,h.ok.data,h.ok.words,aN ht.1 h.ok.bus,ht.2.1,h.ok.asked,h.ok.guessed,h.ok.mem,h.ok.guess,h.ok.ret,h.ok.reto⟩,h.nb,h.cf,h.data,h.words,h.guess,h.rob,h.fet,h.sto,h.prog,h.mem,h.std⟩
def En{e:Ent}(h:e.ok):({e with filled:=true}:Ent).ok:=⟨h.pc,h.imm,h.guess,h.value,h.next,h.addr⟩
def Mg{c:Co}{line:Nat}{e:Ent}(h:e.ok):(uL c line e).ok:=by
 unfold uL;split
 ·exact Hy (En h) _
 ·exact h
def Sz{c:Co}{line:Nat}{e:Ent}(h:e.is=2∧lineOf e.addr=line):uL c line e=sQ {e with filled:=true} (oJ c e):=if_pos h
def Vo{c:Co}{line:Nat}{e:Ent}(h: ¬(e.is=2∧lineOf e.addr=line)):uL c line e=e:=if_neg h
def KQ{c:Co}{n:Nat}(h:c.okM n)(hb:n+1<=890000):(jO c).okM (n+1):=by
 have h1:=(Al h).mono (fI n) hb;have hl:=(wU h.ok.buso).2.2;rw[iL];split
 ·unfold Bp
  repeat' split
  ·have ho:∀x∈(iS c).rob.map (uL (iS c) (eA c.bus).2.1.line),x.ok:=by
    intro x hx;obtain⟨y,hy,rfl⟩:=sY.1 hx;exact Mg (h1.ok.robo y hy)
   exact⟨⟨h1.ok.conf,h1.ok.prog,h1.ok.progo,h1.ok.r,h1.ok.fetch,h1.ok.fet,h1.ok.feto,by rw[aG];exact h1.ok.rob,ho,h1.ok.sto,h1.ok.stoo,h1.ok.data,h1.ok.words,h1.ok.bus,h1.ok.buso,h1.ok.asked,h1.ok.guessed,h1.ok.mem,h1.ok.guess,h1.ok.ret,h1.ok.reto⟩,h1.nb,h1.cf,h1.data,h1.words,h1.guess,by rw[aG];exact h1.rob,h1.fet,h1.sto,h1.prog,h1.mem,h1.std⟩
  ·have g:=Zw.1 (h1.gw.put hl oX false);exact⟨⟨h1.ok.conf,h1.ok.prog,h1.ok.progo,h1.ok.r,h1.ok.fetch,h1.ok.fet,h1.ok.feto,h1.ok.rob,h1.ok.robo,h1.ok.sto,h1.ok.stoo,h1.ok.data,g.2,h1.ok.bus,h1.ok.buso,h1.ok.asked,h1.ok.guessed,h1.ok.mem,h1.ok.guess,h1.ok.ret,h1.ok.reto⟩,h1.nb,h1.cf,h1.data,g.1,h1.guess,h1.rob,h1.fet,h1.sto,h1.prog,h1.mem,h1.std⟩
  ·exact Ex (Al h) hb hl
  ·exact⟨⟨h1.ok.conf,h1.ok.prog,h1.ok.progo,h1.ok.r,h1.ok.fetch,h1.ok.fet,h1.ok.feto,h1.ok.rob,h1.ok.robo,h1.ok.sto,h1.ok.stoo,h1.ok.data,h1.ok.words,h1.ok.bus,h1.ok.buso,h1.ok.asked,h1.ok.guessed,by rw[gW];exact h1.ok.mem,h1.ok.guess,h1.ok.ret,h1.ok.reto⟩,h1.nb,h1.cf,h1.data,h1.words,h1.guess,h1.rob,h1.fet,h1.sto,h1.prog,by rw[gW];exact h1.mem,h1.std⟩
  ·exact h1
 ·exact h1
def Zv(c:Co)(n:Nat)(hm:c.okM n)(line:Nat)(hline:line<=4294967295)(kR:Bool)(xR:List (List AV))(kF:Bool)(xF:List (List AV))(kS:Bool)(xS:List (List AV))(kT:Bool)(xT:List (List AV)):qE C0.P C0.G 56 [.ptr 0 0,vU line] (heapF [(0,.box (mcX c (.sl 17 xR kR) (.sl 2 xF kF) (.sl 2 xS kS) (.sl 9 xT kT)))]) 1 (λx h'=>x=.tup []∧h'=heapF [(0,.box (mcX (Es c line) (.sl 17 xR kR) (.sl 2 xF kF) (.sl 2 xS kS) (.sl 9 xT kT)))]):=by rw[oU];exact aa4 c n hm line hline kR xR kF xF kS xS kT xT
def XJ(c:Co)(n:Nat)(hm:c.okM n)(line:Nat)(hline:line<=4294967295)(lR nR:Nat)(kR:Bool)(rR:List (List AV))(kF:Bool)(xF:List (List AV))(kS:Bool)(xS:List (List AV))(kT:Bool)(xT:List (List AV)):qE C0.P C0.G 56 [.ptr 0 0,vU line] (heapF [(0,.box (mcX c (.osl 1 lR nR kR) (.sl 2 xF kF) (.sl 2 xS kS) (.sl 9 xT kT))),(1,.arr rR 17)]) 2 (λx h'=>x=.tup []∧h'=heapF [(0,.box (mcX (Es c line) (.osl 1 lR nR kR) (.sl 2 xF kF) (.sl 2 xS kS) (.sl 9 xT kT))),(1,.arr rR 17)]):=by rw[oU];exact ZA c n hm line hline lR nR kR rR kF xF kS xS kT xT
def XK(c:Co)(nb:Nat)(hm:c.okM nb)(A B:List Ent)(lo n:Nat)(kR:Bool)(hlo:A.length=lo)(hn:c.rob.length=n)(hA:A.length+n+B.length<=1000)(kF kS kT:Bool)(xF xT:List (List AV)):qE C0.P C0.G 25 [.ptr 0 0] (heapF [(0,.box (mcX c (.osl 1 lo n kR) (.sl 2 xF kF) (.sl 2 (c.stores.map ptL) kS) (.sl 9 xT kT))),(1,.arr ((A++c.rob++B).map enL) 17)]) 2 (λx h'=>x=.tup []∧h'=heapF [(0,.box (mcX (jO c) (.osl 1 lo n kR) (.sl 2 xF kF) (.sl 2 (c.stores.map ptL) kS) (.sl 9 xT kT))),(1,.arr ((A++(jO c).rob++B).map enL) 17)]):=by
 refine HCall.intro (C:=C1) (s:=2) c1Ok.at Tryz.func25 rfl rfl (by kernel_rfl) rfl rfl<|cSR<|oR 5 rfl<|rCi rfl (Ur c.bus false (by have:=hm.bus;omega) hm.ok.buso)<|oR 4 rfl<|rAl 12 rfl rfl<|oR 1 rfl<|rSt rfl<|oR 1 rfl<|rE 16<|cSR<|oR 5 rfl<|rSt rfl<|rE 22<|fZ<|cSR<|oR 2 rfl<|rE 24<|aS rfl (λh1=>?_) (λh1=>?_)
 ·refine rL ?_;have e0:=iL c;have ee:jO c=(iS c):=e0.trans (if_neg (by rw[Fx h1];decide));rw[ee];exact pK (rs:=[]) rfl (r:=.tup []) (σ:=λz=>z) ⟨rfl,rfl⟩ rfl (cI (λz=>z) rfl rfl wH rfl)
 ·refine mH<|cSR<|oR 2 rfl<|rE 26<|qV<|cSR<|rV (vB (((eA c.bus).2.1.kind)==1)) rfl<|oR 1 rfl<|rE 28<|aS rfl (λh2=>?_) (λh2=>?_)
  ·have h2p:=mW h2;refine cSR<|oR 5 rfl<|rV (vN n) rfl<|oR 1 rfl<|rE 35<|qV<|tC (κ:=Nat) (λk=>⟨slotsF [(0,.ptr 0 0),(3,.ptr 12 0),(23,vB (!((eA c.bus).2.2))),(25,vI ((eA c.bus).2.1.kind)),(26,vB (((eA c.bus).2.1.kind)==1)),(32,.osl 1 lo n kR),(33,vN n),(34,vN k)],heapF [(0,.box (mcX ({c with bus:=(eA c.bus).1}:Co) (.osl 1 lo n kR) (.sl 2 xF kF) (.sl 2 (c.stores.map ptL) kS) (.sl 9 xT kT))),(1,.arr ((A++(pA (uL (iS c) (eA c.bus).2.1.line) c.rob k)++B).map enL) 17),(12,.box (rqL ((eA c.bus).2.1)))],35⟩) (λk=>k<=n) (λk=>n-k) 0 (λs=>s) (Weak.of_lists (λs=>s) wT wH rfl) rfl (aE _) ?_;intro k hk;have hkn:k<=n:=hk;have hkB:k<=1000:=by have:=hm.rob;omega
   have hml:(pA (uL (iS c) (eA c.bus).2.1.line) c.rob k).length=n:=XL.trans hn;refine cSR<|rW (vB (decide (k<n))) rfl (okB (ltN _ _))<|rE 36<|fZ<|aS rfl (λh3=>?_) (λh3=>?_)
   ·have h3p:=of_decide_eq_true h3;refine mH<|fZ<|qV<|cSR<|oR 1 rfl<|nW (.ptr2 1 (lo+k) 0) rfl rfl ixT ?_;obtain⟨x,hx⟩:∃y_,(pA (uL (iS c) (eA c.bus).2.1.line) c.rob k)[k]?=some y_:=⟨_,aA omT⟩;have hxo:=(Hv (λx h=>Mg h) hm.ok.robo k) x (aB hx);refine rIx (enL x) (.agg (enL x)) rfl rfl (fW (jM hlo hx)) rfl<|rAl 39 rfl rfl<|oR 1 rfl<|rSt rfl<|rE 42<|cSR<|oR 2 rfl<|rV (vB (x.is==2)) rfl<|oR 1 rfl<|gN rfl<|gS rfl id<|jU (x:=vU (lineOf x.addr)) (g:=x.is==2) rfl rfl rfl rfl (λh=>h) rfl rfl rfl (.inl rfl) rfl (λhg=>tT x.addr hxo.addr)<|gN rfl<|gS rfl id<|gBS rfl hsT (okB (eqN _ _))<|cU rfl rfl rfl (λh=>h)<|rE 53<|aS rfl (λh4=>?_) (λh4=>?_)
    ·have hfc:(x.is=2∧lineOf x.addr=(eA c.bus).2.1.line):=by have z:=h4;simpa [c2a]using z
     refine cSR<|oR 1 rfl<|rSt rfl<|rE 55<|cRg<|oR 9 rfl<|rCl rfl (.inr ⟨rfl,⟨trivial,tvT,trivial⟩⟩) (Mm (iS c) nb (Al hm) .any (.sl 2 xF kF) (.sl 9 xT kT) kS ({x with filled:=true}:Ent) (En hxo))<|rCi rfl (QV ({x with filled:=true}:Ent) (oJ (iS c) x) (En hxo) (by have:=Gl (c:=(iS c)) (by have:=hm.mem;exact this) x;omega))<|nW (.ptr2 1 (lo+k) 0) rfl rfl ixT ?_;have hx1:((pA (uL (iS c) (eA c.bus).2.1.line) c.rob k).set k (sQ ({x with filled:=true}:Ent) (oJ (iS c) x)))[k]?=some (sQ ({x with filled:=true}:Ent) (oJ (iS c) x)):=aT omT;refine nL (enL x) (h':=upd _ 1 (some (.arr ((A++((pA (uL (iS c) (eA c.bus).2.1.line) c.rob k).set k (sQ ({x with filled:=true}:Ent) (oJ (iS c) x)))++B).map enL) 17))) rfl rfl rfl (⟨aH _,fW ((jM hlo hx))⟩) (uQ (f:=enL) (x:=(sQ ({x with filled:=true}:Ent) (oJ (iS c) x))) (l:=pA (uL (iS c) (eA c.bus).2.1.line) c.rob k) (i:=k) hlo omT)<|rE 68<|cRg ?_;have b1:k+1<=1001:=aF hkB (aC 1);refine rW (vN (k+1)) rfl (okI (bJ b1 rfl))<|oR 1 rfl<|rE 70<|.mk _ (.refl _) ⟨k+1,λs=>s,Weak.of_lists _ wT ⟨⟨rfl,rfl,rfl⟩,⟨rfl,(congrArg (λz:List Ent=>some (Blk.arr ((A++z++B).map enL) 17)) (show(pA (uL (iS c) (eA c.bus).2.1.line) c.rob k).set k (sQ ({x with filled:=true}:Ent) (oJ (iS c) x))=pA (uL (iS c) (eA c.bus).2.1.line) c.rob (k+1)from by rw[<-BU hx,Sz hfc])),rfl⟩,⟨rfl,rfl,rfl⟩,trivial⟩ rfl,rfl,by omega,by show n-(k+1)<n-k;omega⟩
    ·have hfc: ¬(x.is=2∧lineOf x.addr=(eA c.bus).2.1.line):=by have z:=h4;simpa [c2a]using z
     refine mH<|cRg ?_;have b2:k+1<=1001:=aF hkB (aC 1);refine rW (vN (k+1)) rfl (okI (bJ b2 rfl))<|oR 1 rfl<|rE 55<|.mk _ (.refl _) ⟨k+1,λs=>s,Weak.of_lists _ wT ⟨⟨rfl,rfl,rfl⟩,⟨rfl,(congrArg (λz:List Ent=>some (Blk.arr ((A++z++B).map enL) 17)) (show pA (uL (iS c) (eA c.bus).2.1.line) c.rob k=pA (uL (iS c) (eA c.bus).2.1.line) c.rob (k+1)from Nz hx (Vo hfc))),rfl⟩,⟨rfl,rfl,rfl⟩,trivial⟩ rfl,rfl,by omega,by show n-(k+1)<n-k;omega⟩
   ·have h3p:=aD h3;refine Je ?_;have e0:=iL c;have ee:jO c={iS c with rob:=c.rob.map (uL (iS c) (eA c.bus).2.1.line)}:=((e0.trans (if_pos (dK (sL h1)))).trans (if_pos h2p));rw[ee];exact pK (rs:=[]) rfl (r:=.tup []) (σ:=λz=>z) ⟨rfl,rfl⟩ rfl (cI (λz=>z) rfl rfl ⟨⟨rfl,rfl,rfl⟩,⟨rfl,(congrArg (λz:List Ent=>some (Blk.arr ((A++z++B).map enL) 17)) (Eo (f:=uL (iS c) (eA c.bus).2.1.line) (l:=c.rob) omT)),rfl⟩,trivial⟩ rfl)
  ·have h2p:=mX h2;refine cSR<|rV (vB (((eA c.bus).2.1.kind)==2)) rfl<|oR 1 rfl<|rE 30<|aS rfl (λh5=>?_) (λh5=>?_)
   ·have h5p:=mW h5;refine cRg<|oR 8 rfl<|rCi rfl (PY c.words (eA c.bus).2.1.line oX false hm.ok.words (wU hm.ok.buso).2.2)<|oR 7 rfl<|rSt rfl<|rE 47 ?_;have e0:=iL c;have ee:jO c={iS c with words:=(pC c.words (eA c.bus).2.1.line oX false).1}:=(((e0.trans (if_pos (dK (sL h1)))).trans (if_neg h2p)).trans (if_pos h5p));rw[ee];exact pK (rs:=[]) rfl (r:=.tup []) (σ:=λz=>z) ⟨rfl,rfl⟩ rfl (cI (λz=>z) rfl rfl wH rfl)
   ·have h5p:=mX h5;refine cSR<|rV (vB (((eA c.bus).2.1.kind)==3)) rfl<|oR 1 rfl<|rE 32<|aS rfl (λh6=>?_) (λh6=>?_)
    ·have h6p:=mW h6;refine cRg<|oR 3 rfl<|fV _ rfl rfl rfl ((XJ (iS c) nb (Al hm) (eA c.bus).2.1.line (wU hm.ok.buso).2.2 lo n kR ((A++c.rob++B).map enL) kF xF kS (c.stores.map ptL) kT xT).frameB (λz=>z) _ _ rfl ⟨⟨rfl,rfl,rfl,rfl⟩,⟨rfl,rfl,rfl,rfl⟩,trivial⟩ rfl rfl rfl rfl) ?_;rintro _ _ ⟨rfl,rfl⟩;refine rE 36 ?_;have e0:=iL c;have ee:jO c=Es (iS c) (eA c.bus).2.1.line:=(((((e0.trans (if_pos (dK (sL h1)))).trans (if_neg h2p)).trans (if_neg h5p)).trans (if_pos h6p))).trans (oU _ _).symm;rw[ee];exact pK (rs:=[]) rfl (r:=.tup []) (σ:=λz=>z) ⟨rfl,rfl⟩ rfl (cI (λz=>z) rfl rfl wH rfl)
    ·have h6p:=mX h6;refine cSR<|rV (vB (((eA c.bus).2.1.kind)==4)) rfl<|oR 1 rfl<|rE 34<|aS rfl (λh7=>?_) (λh7=>?_)
     ·have h7p:=mW h7;refine cRg<|oR 10 rfl<|rV (.agg [vU ((eA c.bus).2.1.line),.v (.string ((eA c.bus).2.1.data))]) rfl<|rV (.sl 2 ([[vU ((eA c.bus).2.1.line),.v (.string ((eA c.bus).2.1.data))]]) true) rfl<|rCi rfl (PT c.mem [⟨(eA c.bus).2.1.line,(eA c.bus).2.1.data⟩] true (by have:=hm.mem;omega) (by show 1<=1000000;decide) (sN (P:=Pt.ok) ⟨(wU hm.ok.buso).2.2⟩))<|oR 3 rfl<|rSt rfl<|rE 51 ?_;have e0:=iL c;have ee:jO c={iS c with mem:=qP c.mem [⟨(eA c.bus).2.1.line,(eA c.bus).2.1.data⟩]}:=(((((e0.trans (if_pos (dK (sL h1)))).trans (if_neg h2p)).trans (if_neg h5p)).trans (if_neg h6p)).trans (if_pos h7p));rw[ee];exact pK (rs:=[]) rfl (r:=.tup []) (σ:=λz=>z) ⟨rfl,rfl⟩ rfl (cI (λz=>z) rfl rfl wH rfl)
     ·have h7p:=mX h7;refine mH ?_;have e0:=iL c;have ee:jO c=(iS c):=(((((e0.trans (if_pos (dK (sL h1)))).trans (if_neg h2p)).trans (if_neg h5p)).trans (if_neg h6p)).trans (if_neg h7p));rw[ee];exact pK (rs:=[]) rfl (r:=.tup []) (σ:=λz=>z) ⟨rfl,rfl⟩ rfl (cI (λz=>z) rfl rfl wH rfl)
def Vp(c:Co)(nb:Nat)(hm:c.okM nb)(h0:c.rob=[])(kF kS kT:Bool)(xF xT:List (List AV)):qE C0.P C0.G 25 [.ptr 0 0] (heapF [(0,.box (mcX c (.sl 17 [] false) (.sl 2 xF kF) (.sl 2 (c.stores.map ptL) kS) (.sl 9 xT kT)))]) 1 (λx h'=>x=.tup []∧h'=heapF [(0,.box (mcX (jO c) (.sl 17 [] false) (.sl 2 xF kF) (.sl 2 (c.stores.map ptL) kS) (.sl 9 xT kT)))]):=by
 refine HCall.intro (C:=C1) (s:=1) c1Ok.at Tryz.func25 rfl rfl (by kernel_rfl) rfl rfl<|cSR<|oR 5 rfl<|rCi rfl (Ur c.bus false (by have:=hm.bus;omega) hm.ok.buso)<|oR 4 rfl<|rAl 11 rfl rfl<|oR 1 rfl<|rSt rfl<|oR 1 rfl<|rE 15<|cSR<|oR 5 rfl<|rSt rfl<|rE 21<|fZ<|cSR<|oR 2 rfl<|rE 23<|aS rfl (λh1=>?_) (λh1=>?_)
 ·refine rL ?_;have e0:=iL c;have ee:jO c=(iS c):=e0.trans (if_neg (by rw[Fx h1];decide));rw[ee];exact pK (rs:=[]) rfl (r:=.tup []) (σ:=λz=>z) ⟨rfl,rfl⟩ rfl (cI (λz=>z) rfl rfl wH rfl)
 ·refine mH<|cSR<|oR 2 rfl<|rE 25<|qV<|cSR<|rV (vB (((eA c.bus).2.1.kind)==1)) rfl<|oR 1 rfl<|rE 27<|aS rfl (λh2=>?_) (λh2=>?_)
  ·have h2p:=mW h2;refine cSR<|oR 5 rfl<|rW (vN 0) rfl (vX enL ([]:List Ent) omT)<|oR 1 rfl<|rE 34<|qV<|tC (κ:=Nat) (λk=>⟨slotsF [(0,.ptr 0 0),(3,.ptr 11 0),(23,vB (!((eA c.bus).2.2))),(25,vI ((eA c.bus).2.1.kind)),(26,vB (((eA c.bus).2.1.kind)==1)),(32,.sl 17 (([]:List Ent).map enL) false),(33,vN 0),(34,vN k)],heapF [(0,.box (mcX ({c with bus:=(eA c.bus).1}:Co) (.sl 17 (([]:List Ent).map enL) false) (.sl 2 xF kF) (.sl 2 (c.stores.map ptL) kS) (.sl 9 xT kT))),(11,.box (rqL ((eA c.bus).2.1)))],34⟩) (λk=>k<=0) (λk=>0-k) 0 (λs=>s) (Weak.of_lists (λs=>s) wT wH rfl) rfl (aE _) ?_;intro k hk;have hkB:k<=1000:=by omega
   refine cSR<|rW (vB (decide (k<0))) rfl (okB (ltN _ _))<|rE 35<|fZ<|aS rfl (λh3=>by exact absurd (of_decide_eq_true h3) (dD _)) (λ_=>?_);refine Je ?_;have e0:=iL c;have ee:jO c={iS c with rob:=c.rob.map (uL (iS c) (eA c.bus).2.1.line)}:=((e0.trans (if_pos (dK (sL h1)))).trans (if_pos h2p));rw[ee];exact pK (rs:=[]) rfl (r:=.tup []) (σ:=λz=>z) ⟨rfl,rfl⟩ rfl (cI (λz=>z) rfl rfl wH rfl)
  ·have h2p:=mX h2;refine cSR<|rV (vB (((eA c.bus).2.1.kind)==2)) rfl<|oR 1 rfl<|rE 29<|aS rfl (λh4=>?_) (λh4=>?_)
   ·have h4p:=mW h4;refine cRg<|oR 8 rfl<|rCi rfl (PY c.words (eA c.bus).2.1.line oX false hm.ok.words (wU hm.ok.buso).2.2)<|oR 7 rfl<|rSt rfl<|rE 46 ?_;have e0:=iL c;have ee:jO c={iS c with words:=(pC c.words (eA c.bus).2.1.line oX false).1}:=(((e0.trans (if_pos (dK (sL h1)))).trans (if_neg h2p)).trans (if_pos h4p));rw[ee];exact pK (rs:=[]) rfl (r:=.tup []) (σ:=λz=>z) ⟨rfl,rfl⟩ rfl (cI (λz=>z) rfl rfl wH rfl)
   ·have h4p:=mX h4;refine cSR<|rV (vB (((eA c.bus).2.1.kind)==3)) rfl<|oR 1 rfl<|rE 31<|aS rfl (λh5=>?_) (λh5=>?_)
    ·have h5p:=mW h5;refine cRg<|oR 3 rfl<|fV _ rfl rfl rfl ((Zv (iS c) nb (Al hm) (eA c.bus).2.1.line (wU hm.ok.buso).2.2 false [] kF xF kS (c.stores.map ptL) kT xT).frameB (λz=>z) _ _ rfl ⟨⟨rfl,rfl,rfl,rfl⟩,trivial⟩ rfl rfl rfl rfl) ?_;rintro _ _ ⟨rfl,rfl⟩;refine rE 35 ?_;have e0:=iL c;have ee:jO c=Es (iS c) (eA c.bus).2.1.line:=(((((e0.trans (if_pos (dK (sL h1)))).trans (if_neg h2p)).trans (if_neg h4p)).trans (if_pos h5p))).trans (oU _ _).symm;rw[ee];exact pK (rs:=[]) rfl (r:=.tup []) (σ:=λz=>z) ⟨rfl,rfl⟩ rfl (cI (λz=>z) rfl rfl wH rfl)
    ·have h5p:=mX h5;refine cSR<|rV (vB (((eA c.bus).2.1.kind)==4)) rfl<|oR 1 rfl<|rE 33<|aS rfl (λh6=>?_) (λh6=>?_)
     ·have h6p:=mW h6;refine cRg<|oR 10 rfl<|rV (.agg [vU ((eA c.bus).2.1.line),.v (.string ((eA c.bus).2.1.data))]) rfl<|rV (.sl 2 ([[vU ((eA c.bus).2.1.line),.v (.string ((eA c.bus).2.1.data))]]) true) rfl<|rCi rfl (PT c.mem [⟨(eA c.bus).2.1.line,(eA c.bus).2.1.data⟩] true (by have:=hm.mem;omega) (by show 1<=1000000;decide) (sN (P:=Pt.ok) ⟨(wU hm.ok.buso).2.2⟩))<|oR 3 rfl<|rSt rfl<|rE 50 ?_;have e0:=iL c;have ee:jO c={iS c with mem:=qP c.mem [⟨(eA c.bus).2.1.line,(eA c.bus).2.1.data⟩]}:=(((((e0.trans (if_pos (dK (sL h1)))).trans (if_neg h2p)).trans (if_neg h4p)).trans (if_neg h5p)).trans (if_pos h6p));rw[ee];exact pK (rs:=[]) rfl (r:=.tup []) (σ:=λz=>z) ⟨rfl,rfl⟩ rfl (cI (λz=>z) rfl rfl wH rfl)
     ·have h6p:=mX h6;refine mH ?_;have e0:=iL c;have ee:jO c=(iS c):=(((((e0.trans (if_pos (dK (sL h1)))).trans (if_neg h2p)).trans (if_neg h4p)).trans (if_neg h5p)).trans (if_neg h6p));rw[ee];exact pK (rs:=[]) rfl (r:=.tup []) (σ:=λz=>z) ⟨rfl,rfl⟩ rfl (cI (λz=>z) rfl rfl wH rfl)
def Fw{c:Co}{n:Nat}{s:Sp}(h:c.okM n)(hb:n+1<=890000)(hs:s.ok):(tS c s).okM (n+1):=by
 have hr:(c.retired++[s]).length<=n+1:=by have:=h.ok.ret;simp;omega
 exact⟨⟨h.ok.conf,h.ok.prog,h.ok.progo,h.ok.r,h.ok.fetch,aE _,(λx hx=>by cases hx),aE _,(λx hx=>by cases hx),h.ok.sto,h.ok.stoo,h.ok.data,h.ok.words,qT h.ok.bus,h.ok.buso,h.ok.asked,h.ok.guessed,h.ok.mem,h.ok.guess,hr,sM h.ok.reto (sN (P:=Sp.ok) hs)⟩,hb,h.cf,h.data,h.words,h.guess,aE _,aE _,h.sto,h.prog,h.mem,h.std⟩
theorem Ai:∀{n:Nat} {c:Co} {m:Nat},c.okM m->m+2*n<=890000->(dW n c).okM (m+2*n)
 |0,_,_,h,_=>h
 | n + 1,c,m,h,hb=>by
  have hmn:m<=m+2*(n+1):=by omega
  by_cases h0:c.halt≠0∨c.rob.length=0
  ·rw[jF h0];exact h.mono hmn hb
  ·have hx:c.rob[0]?=some (c.rob[0]'omT):=aA omT;have he:=Vv h hx;rw[gO omT (λq=>h0 (.inl q)) hx];split
   ·exact h.mono hmn hb
   ·split
    ·exact(Fw h omT (fH he)).mono omT hb
    ·split
     ·exact h.mono hmn hb
     ·rename_i hs;have hst:(bS (c.rob[0]'omT)).store=true->c.stores.length<=999:=λq=>by
       have:=nN h.cf;have: ¬(c.stores.length:Int)>=c.conf.stores:=λz=>hs ⟨q,z⟩;omega
      rw[gG,show m+2*(n+1)=(m+2)+2*n by omega];by_cases hk:kindOf (c.rob[0]'omT).i.op=3
      ·rw[Ao hk];exact Ai (Gg h omT he hst) omT
      ·rw[uJ hk];exact Ai (xY h omT he hst) omT
def Sy{c:Co}{n:Nat}(h:c.okM n):c.conf.width.toNat<=2:=by have:=nN h.cf;omega
def Hu{c:Co}{m:Nat}(h:c.okM m)(hb:m+4<=890000):(dP c).okM (m+4):=by
 have hw:=Sy h;exact(Ai h omT).mono omT hb
theorem Ek:∀{p:List Nat} {c:Co} {m:Nat},c.okM m->m+p.length<=890000->(p.foldl fD c).okM (m+p.length)
 |[],_,_,h,_=>h
 |i::p,c,m,h,hb=>by
  have hl:(i::p).length=p.length+1:=rfl;rw[hl]at hb⊢;rw[show m+(p.length+1)=(m+1)+p.length by omega];exact Ek (vW h omT i).1 omT
def Ji{c:Co}{m:Nat}(h:c.okM m)(hb:m+2<=890000):(eW c).okM (m+2):=by
 by_cases hh:c.halt≠0
 ·rw[show eW c=c from if_pos hh];exact h.mono omT hb
 ·obtain⟨p, -,hp, -,hl⟩:=Ap (k:=c.rob.length) h.cf hh rfl;rw[hp];exact(Ek h omT).mono omT hb
theorem Db:∀{p:List Nat} {c:Co} {m:Nat},c.okM m->m+p.length<=890000->(p.foldl fD c).rob.length=c.rob.length∧(p.foldl fD c).stores=c.stores∧(p.foldl fD c).fetched=c.fetched∧(p.foldl fD c).retired=c.retired
 |[],_,_,_,_=>⟨rfl,rfl,rfl,rfl⟩
 |i::p,c,m,h,hb=>by
  have hl:(i::p).length=p.length+1:=rfl;rw[hl]at hb;have hs:=vW h omT i;have ih:=Db (p:=p) hs.1 omT;exact⟨ih.1.trans hs.2.1,ih.2.1.trans hs.2.2.2.1,ih.2.2.1.trans hs.2.2.2.2.1,ih.2.2.2.trans hs.2.2.2.2.2⟩
def nP{c:Co}{m:Nat}(h:c.okM m)(hb:m+2<=890000):(eW c).rob.length=c.rob.length∧(eW c).stores=c.stores∧(eW c).fetched=c.fetched∧(eW c).retired=c.retired:=by
 by_cases hh:c.halt≠0
 ·rw[show eW c=c from if_pos hh];exact⟨rfl,rfl,rfl,rfl⟩
 ·obtain⟨p, -,hp, -,hl⟩:=Ap (k:=c.rob.length) h.cf hh rfl;rw[hp];exact Db h omT
theorem El:∀{n:Nat} {c:Co} {m:Nat},c.okM m->(jP n c).okM m∧(jP n c).stores=c.stores∧(jP n c).retired=c.retired
 |0,_,_,h=>⟨h,rfl,rfl⟩
 | n+1,c,m,h=>by
  by_cases h0:(c.rob.length:Int)>=c.conf.rob∨c.fetched.length=0
  ·rw[rP h0];exact⟨h,rfl,rfl⟩
  ·have hx:c.fetched[0]?=some (c.fetched[0]'omT):=aA omT;have hf:=h.ok.feto _ (aB hx);have hr:c.rob.length<=999:=by have:=nN h.cf;omega
   have e:=vF (n:=n+1) (k:=0) omT (λq=>h0 (.inl q)) hx;rw[show n+1-(0+1)=n by omega,show n+1-0=n+1 by omega]at e;rw[<-e];have ih:=El (n:=n) (CF h hf hr);exact⟨ih.1,ih.2.1,ih.2.2⟩
def Aj{c:Co}{m:Nat}(h:c.okM m):(iP c).okM m∧(iP c).stores=c.stores∧(iP c).retired=c.retired:=by
 unfold iP;split
 ·exact⟨h,rfl,rfl⟩
 ·exact El h
def KO(c:Co)(w:Nat):(cN c w).1.stores=c.stores∧(cN c w).1.retired=c.retired∧(cN c w).1.rob=c.rob:=by
 unfold cN;split
 ·exact⟨rfl,rfl,rfl⟩
 ·split<;>exact⟨rfl,rfl,rfl⟩
def KP(d:Co):(xZ d).stores=d.stores∧(xZ d).retired=d.retired∧(xZ d).rob=d.rob:=KO (gK d) (fetchW d.prog d.fetch)
def Jj{c:Co}{m:Nat}(h:c.okM m)(hf:c.fetched.length<=999):Co.okM {c with fetched:=c.fetched++[⟨c.fetch,up4 c.fetch⟩],stop:=true} m:=by
 have hl:(c.fetched++[(⟨c.fetch,up4 c.fetch⟩:Ft)]).length<=1000:=by simp;omega
 exact⟨⟨h.ok.conf,h.ok.prog,h.ok.progo,h.ok.r,h.ok.fetch,aN hl (by decide),sM h.ok.feto (sN ⟨h.ok.fetch,zP _⟩),h.ok.rob,h.ok.robo,h.ok.sto,h.ok.stoo,h.ok.data,h.ok.words,h.ok.bus,h.ok.buso,h.ok.asked,h.ok.guessed,h.ok.mem,h.ok.guess,h.ok.ret,h.ok.reto⟩,h.nb,h.cf,h.data,h.words,h.guess,h.rob,hl,h.sto,h.prog,h.mem,h.std⟩
theorem Dc:∀{n:Nat} {c:Co} {m:Nat},c.okM m->m+1<=890000->(eC n c).okM (m+1)∧(eC n c).stores=c.stores∧(eC n c).retired=c.retired∧(eC n c).rob=c.rob
 |0,_,_,h,hb=>⟨h.mono (fI _) hb,rfl,rfl,rfl⟩
 | n +1,c,m,h,hb=>by
  have h1:=h.mono (fI m) hb;by_cases h0:c.stop=true∨(c.fetched.length:Int)>=c.conf.queue
  ·rw[pP h0];exact⟨h1,rfl,rfl,rfl⟩
  ·have hl:c.fetched.length<=999:=by have:=nN h.cf;omega
   by_cases hf:(fetchP c.prog c.fetch).isSome=false
   ·rw[rQ omT h0 hf];exact⟨Jj h1 hl,rfl,rfl,rfl⟩
   ·by_cases hw:(bG c.words (lineOf c.fetch)).2.isSome=false
    ·rw[nM omT h0 hf hw];split
     ·exact⟨sK h hb 2 (dT h.ok.fetch) oX,rfl,rfl,rfl⟩
     ·exact⟨h1,rfl,rfl,rfl⟩
    ·have e:=tO (n:=n+1) (k:=0) omT h0 hf hw;rw[show n+1-(0+1)=n by omega,show n+1-0=n+1 by omega]at e;rw[<-e];have ih:=Dc (n:=n) (CG h hl) hb;have hk:=KP c;exact⟨ih.1,ih.2.1.trans hk.1,ih.2.2.1.trans hk.2.1,ih.2.2.2.trans hk.2.2⟩
def uY{c:Co}{m:Nat}(h:c.okM m)(hb:m+1<=890000):(dS c).okM (m+1)∧(dS c).stores=c.stores∧(dS c).retired=c.retired∧(dS c).rob=c.rob:=by
 unfold dS;split
 ·exact⟨h.mono (fI _) hb,rfl,rfl,rfl⟩
 ·exact Dc h hb
def Jk{c:Co}{m:Nat}(h:c.okM m)(hb:m+1<=890000):(mO c).okM (m+1)∧(mO c).fetched=c.fetched∧(mO c).retired=c.retired∧(mO c).rob=c.rob∧(mO c).stores=c.stores:=by
 unfold mO
 cases hs:c.stores with
 |nil=>exact⟨h.mono (fI _) hb,rfl,rfl,rfl,hs⟩
 |cons p l=>
  dsimp only;split
  ·exact⟨sK h hb 3 (dT (h.ok.stoo p (by rw[hs];exact bI ..)).addr) oX,rfl,rfl,rfl,hs⟩
  ·exact⟨h.mono (fI _) hb,rfl,rfl,rfl,hs⟩
def Em{c:Co}{m:Nat}(h:c.okM m)(hb:m+1<=890000):(kH c).okM (m+1)∧(kH c).fetched=c.fetched∧(kH c).retired=c.retired∧(kH c).rob=c.rob∧(kH c).stores=c.stores:=by
 have h1:=h.mono (fI m) hb;unfold kH;split
 ·exact⟨h1,rfl,rfl,rfl,rfl⟩
 ·by_cases hq:(cT c.data).isSome=true∧((cT c.data).getD qI).data.size≠0
  ·rw[uZ hq];have ha:=sK h hb 4 h.gd.dirtyLe ((cT c.data).getD qI).data;have g:=Zw.1 (h.gd.clean ((cT c.data).getD qI).line);exact⟨⟨⟨ha.ok.conf,ha.ok.prog,ha.ok.progo,ha.ok.r,ha.ok.fetch,ha.ok.fet,ha.ok.feto,ha.ok.rob,ha.ok.robo,ha.ok.sto,ha.ok.stoo,g.2,ha.ok.words,ha.ok.bus,ha.ok.buso,ha.ok.asked,ha.ok.guessed,ha.ok.mem,ha.ok.guess,ha.ok.ret,ha.ok.reto⟩,hb,ha.cf,g.1,ha.words,ha.guess,ha.rob,ha.fet,ha.sto,ha.prog,ha.mem,ha.std⟩,rfl,rfl,rfl,rfl⟩
  ·rw[wV hq];exact⟨h1,rfl,rfl,rfl,rfl⟩
def wS{c:Co}{m:Nat}(h:c.okM m)(hb:m+2<=890000):(pT c).okM (m+2)∧(pT c).fetched=c.fetched∧(pT c).retired=c.retired∧(pT c).rob=c.rob:=by
 rw[jL];have h0:=eM h;split
 ·have ha:=Jk h0 omT;have hB:=Em ha.1 omT;exact⟨hB.1,hB.2.1.trans ha.2.1,hB.2.2.1.trans ha.2.2.1,hB.2.2.2.1.trans ha.2.2.2.1⟩
 ·have hB:=Em h0 omT;exact⟨hB.1.mono omT hb,hB.2.1,hB.2.2.1,hB.2.2.2.1⟩
def rN(c:Co):(jO c).fetched=c.fetched∧(jO c).stores=c.stores∧(jO c).retired=c.retired∧(jO c).rob.length=c.rob.length:=by
 rw[iL];split
 ·unfold Bp
  repeat' split
  ·exact⟨rfl,rfl,rfl,aG ..⟩
  ·exact⟨rfl,rfl,rfl,rfl⟩
  ·rw[<-oU];exact⟨rfl,rfl,rfl,rfl⟩
  ·exact⟨rfl,rfl,rfl,rfl⟩
  ·exact⟨rfl,rfl,rfl,rfl⟩
 ·exact⟨rfl,rfl,rfl,rfl⟩
def lX(c:Co):(gZ c).stores=c.stores∧(gZ c).retired=c.retired:=by
 unfold gZ;split
 ·exact⟨rfl,rfl⟩
 ·split<;>exact⟨rfl,rfl⟩
def BT{c:Co}{n:Nat}(h:c.ok n)(hb:n<=890000)(hr:iA c=true):c.okM n:=by
 unfold iA at hr;simp only[aJ,bB]at hr;obtain⟨⟨⟨⟨⟨⟨⟨⟨⟨⟨⟨h1,h2⟩,h3⟩,h4⟩,h5⟩,h6⟩,h7⟩,h8⟩,h9⟩,h10⟩,h11⟩,h12⟩:=hr;unfold yC at h7 h8;simp only[aJ,bB]at h7 h8;have hc:=nN h1;have hm:c.mem.size<=256:=by
  have e:c.mem.toList=(sW c.mem).toList:=by simpa using h3
  have e2:c.mem.size=(sW c.mem).size:=by rw[<-zA, <-zA (sW c.mem),e]
  rw[e2,EW];unfold upS;repeat' split
  all_goals omega
 have hs:∀x∈c.stores,x.data.size<=4:=λx hx=>by
  have:=lE.1 h12 x hx;unfold iR at this;simp only[aJ,bB]at this;omega
 exact⟨h,hb,h1,h7.1.1,h8.1.1,h9,by omega,by omega,by omega,by omega,hm,hs⟩
def Zu(K:AH)(m b1 s2:Nat)(c:Co)(F S T:AV)(h':AH):Prop:=
 (c.rob=[]∧h'=upd K m (some (.box (mcX c (.sl 17 [] false) F S T))))∨
 ∃(b:Nat) (A B:List Ent) (k:Bool),(b=b1∨b=s2)∧A.length+c.rob.length+B.length<=1000∧h'=upd (upd K m (some (.box (mcX c (.osl b A.length c.rob.length k) F S T)))) b (some (.arr ((A++c.rob++B).map enL) 17))
def Pj{f:FuncId}{b0:Blk}{c:Co}{kF kS kT:Bool}{xF xS xT:List (List AV)}(H:qE C0.P C0.G f [.ptr 0 0] (heapF [(0,b0)]) 1 (λx h'=>x=.tup []∧Um 1 c (.sl 2 xF kF) (.sl 2 xS kS) (.sl 9 xT kT) h'))(m:Nat)(K:AH)(s2:Nat)(hL:FrL (λ_=>m) K 1 s2 [(0,b0)]):
  qE C0.P C0.G f [.ptr m 0] K s2 (λx h'=>x=.tup []∧Zu K m s2 s2 c (.sl 2 xF kF) (.sl 2 xS kS) (.sl 9 xT kT) h'):=by
 refine H.frameL (λ_=>m) K s2 rfl hL rfl rfl _ λr' h' hP=>?_;obtain⟨rfl,hP⟩:=hP;rcases hP with ⟨h0,rfl⟩|⟨b,A,B,k,hb,hl,rfl⟩
 ·refine⟨_,⟨rfl,.inl ⟨h0,rfl⟩⟩,λy blk hy=>?_⟩;by_cases he:y=m
  ·subst he;rw[cZ]at hy;injection hy with hy;subst hy;exact .inl ⟨0,_,rfl,rfl,rfl⟩
  ·rw[cH _ _ he]at hy;exact .inr ⟨hy,λx _ e=>he e.symm⟩
 ·have hb1:b=1:=by omega
  subst hb1;refine⟨_,⟨rfl,.inr ⟨s2,A,B,k,.inr rfl,hl,rfl⟩⟩,λy blk hy=>?_⟩;by_cases hs:y=s2
  ·subst hs;rw[cZ]at hy;injection hy with hy;subst hy;exact .inl ⟨1,_,rfl,(wD _ _ _).symm,rfl⟩
  ·rw[cH _ _ hs]at hy;by_cases he:y=m
   ·subst he;rw[cZ]at hy;injection hy with hy;subst hy;exact .inl ⟨0,_,rfl,rfl,rfl⟩
   ·rw[cH _ _ he]at hy;exact .inr ⟨hy,λx _ e=>he e.symm⟩
def Pk{f:FuncId}{b0 b1:Blk}{c:Co}{kF kS kT:Bool}{xF xS xT:List (List AV)}(H:qE C0.P C0.G f [.ptr 0 0] (heapF [(0,b0),(1,b1)]) 2 (λx h'=>x=.tup []∧Um 2 c (.sl 2 xF kF) (.sl 2 xS kS) (.sl 9 xT kT) h'))(m nb:Nat)(K:AH)(s2:Nat)(hL:FrL (λz=>match z with|0=>m|_=>nb) K 2 s2 [(0,b0),(1,b1)])(hne:m≠nb):
  qE C0.P C0.G f [.ptr m 0] K s2 (λx h'=>x=.tup []∧Zu (upd K nb none) m nb s2 c (.sl 2 xF kF) (.sl 2 xS kS) (.sl 9 xT kT) h'):=by
 have hi:Ty (λz=>match z with|0=>m|_=>nb) 2=true:=by
  have:Nat.beq m nb=false:=by rw[<-eI];exact λe=>hne (aK e)
  simp[Ty,List.range,List.range.loop,this]
 have hr0:∀y, ¬y=m-> ¬y=nb->∀x,x<2->(λz=>match z with|0=>m|_=>nb) x≠y:=by
  intro y h1 h2 x _ e
  cases x with
  |zero=>exact h1 e.symm
  |succ x=>exact h2 e.symm
 refine H.frameL (λz=>match z with|0=>m|_=>nb) K s2 rfl hL hi rfl _ λr' h' hP=>?_;obtain⟨rfl,hP⟩:=hP;rcases hP with ⟨h0,rfl⟩|⟨b,A,B,k,hb,hl,rfl⟩
 ·refine⟨_,⟨rfl,.inl ⟨h0,rfl⟩⟩,λy blk hy=>?_⟩;by_cases he:y=m
  ·subst he;rw[cZ]at hy;injection hy with hy;subst hy;exact .inl ⟨0,_,rfl,rfl,rfl⟩
  ·rw[cH _ _ he]at hy;by_cases hq:y=nb
   ·subst hq;rw[cZ]at hy;cases hy
   ·rw[cH _ _ hq]at hy;exact .inr ⟨hy,hr0 y he hq⟩
 ·have hb2:b=1∨b=2:=by omega
  have key:∀bn,bn=FH (λz=>match z with|0=>m|_=>nb) 2 s2 b->(bn=nb∨bn=s2)->∃K',((uX (FH (λz=>match z with|0=>m|_=>nb) 2 s2) (.tup [])=.tup [])∧Zu (upd K nb none) m nb s2 c (.sl 2 xF kF) (.sl 2 xS kS) (.sl 9 xT kT) K')∧∀y blk,K' y=some blk->(∃x blk0,heapF [(0,.box (mcX c (.osl b A.length c.rob.length k) (.sl 2 xF kF) (.sl 2 xS kS) (.sl 9 xT kT))),(b,.arr ((A++c.rob++B).map enL) 17)] x=some blk0∧y=FH (λz=>match z with|0=>m|_=>nb) 2 s2 x∧blk=Du (FH (λz=>match z with|0=>m|_=>nb) 2 s2) blk0)∨(K y=some blk∧∀x,x<2->(λz=>match z with|0=>m|_=>nb) x≠y):=by
   intro bn hbn hor;refine⟨_,⟨rfl,.inr ⟨bn,A,B,k,hor,hl,rfl⟩⟩,λy blk hy=>?_⟩;by_cases hs:y=bn
   ·subst hs;rw[cZ]at hy;injection hy with hy;subst hy;refine .inl ⟨b,.arr ((A++c.rob++B).map enL) 17,?_,hbn,rfl⟩;rcases hb2 with rfl|rfl<;>rfl
   ·rw[cH _ _ hs]at hy;by_cases he:y=m
    ·subst he;rw[cZ]at hy;injection hy with hy;subst hy;refine .inl ⟨0,_,rfl,rfl,?_⟩;rw[hbn];rfl
    ·rw[cH _ _ he]at hy;by_cases hq:y=nb
     ·subst hq;rw[cZ]at hy;cases hy
     ·rw[cH _ _ hq]at hy;exact .inr ⟨hy,hr0 y he hq⟩
  rcases hb2 with rfl|rfl
  ·exact key nb rfl (.inl rfl)
  ·exact key s2 rfl (.inr rfl)
def XI{f:FuncId}{b0:Blk}{n:Nat}{c:Co}{kF kS kT:Bool}{xF xS xT:List (List AV)}{rows:List (List AV)}(H:qE C0.P C0.G f [.ptr 0 0] (heapF [(0,b0)]) 1 (λx h'=>x=.tup []∧h'=heapF [(0,.box (mcX c (.osl 1 0 n false) (.sl 2 xF kF) (.sl 2 xS kS) (.sl 9 xT kT))),(1,.arr rows 17)]))(m:Nat)(K:AH)(s2:Nat)(hL:FrL (λ_=>m) K 1 s2 [(0,b0)]):
  qE C0.P C0.G f [.ptr m 0] K s2 (λx h'=>x=.tup []∧h'=upd (upd K m (some (.box (mcX c (.osl s2 0 n false) (.sl 2 xF kF) (.sl 2 xS kS) (.sl 9 xT kT))))) s2 (some (.arr rows 17))):=by
 refine H.frameL (λ_=>m) K s2 rfl hL rfl rfl _ λr' h' hP=>?_;obtain⟨rfl,rfl⟩:=hP;refine⟨_,⟨rfl,rfl⟩,λy blk hy=>?_⟩;by_cases hs:y=s2
 ·subst hs;rw[cZ]at hy;injection hy with hy;subst hy;exact .inl ⟨1,_,rfl,(wD _ _ _).symm,rfl⟩
 ·rw[cH _ _ hs]at hy;by_cases he:y=m
  ·subst he;rw[cZ]at hy;injection hy with hy;subst hy;exact .inl ⟨0,_,rfl,rfl,rfl⟩
  ·rw[cH _ _ he]at hy;exact .inr ⟨hy,λx _ e=>he e.symm⟩
end Go.Proofs.YtgleompefdogkaaGreatDoor
