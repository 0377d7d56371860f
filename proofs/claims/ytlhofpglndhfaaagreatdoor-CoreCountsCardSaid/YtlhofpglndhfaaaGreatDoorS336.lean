/- Joined texts. -/
import Derived.WideShapes
import Derived.Test.YtlhofpglndhfaaaGreatDoorS301
import Derived.Test.YtlhofpglndhfaaaGreatDoorS308
import Derived.Test.YtlhofpglndhfaaaGreatDoorS328
import Derived.Test.YtlhofpglndhfaaaGreatDoorS329
import Derived.Test.YtlhofpglndhfaaaGreatDoorS335
set_option linter.unusedVariables false
set_option linter.unusedSimpArgs false
namespace Go.Proofs.YtlhofpglndhfaaaGreatDoor
open Go.RowKit
theorem EB{c:Co}{n:Nat}{s:Sp}(h:c.okM n)(hb:n+1≤890000)(hs:s.ok):(iS c s).okM (n+1):=by
 have hr:(c.retired++[s]).length≤n+1:=by have:=h.ok.ret;simp;omega
 exact⟨⟨h.ok.conf,h.ok.prog,h.ok.progo,h.ok.r,h.ok.fetch,aF _,(λ x hx=>by cases hx),aF _,(λ x hx=>by cases hx),h.ok.sto,h.ok.stoo,h.ok.data,h.ok.words,pT h.ok.bus,h.ok.buso,h.ok.asked,h.ok.guessed,h.ok.mem,h.ok.guess,hr,nQ h.ok.reto (nU (P:=Sp.ok) hs)⟩,hb,h.cf,h.data,h.words,h.guess,aF _,aF _,h.sto,h.prog,h.mem,h.std⟩
theorem zA:∀ {n:Nat} {c:Co} {m:Nat},c.okM m→m+2 * n≤890000→(dV n c).okM (m+2 * n)
 |0,_,_,h,_=>h
 | n + 1,c,m,h,hb=>by
  have hmn:m≤m+2 * (n+1):=by omega
  by_cases h0:c.halt≠0∨c.rob.length=0
  ·rw[jJ h0];exact h.mono hmn hb
  ·have hx:c.rob[0]?=some (c.rob[0]'omT):=aA omT;have he:=Tz h hx;rw[eV omT (λ q=>h0 (.inl q)) hx];split
   ·exact h.mono hmn hb
   ·split
    ·exact (EB h omT (cV he)).mono omT hb
    ·split
     ·exact h.mono hmn hb
     ·rename_i hs;have hst:(aP (c.rob[0]'omT)).store=true→c.stores.length≤999:=λ q=>by
       have:=oQ h.cf;have: ¬ (c.stores.length:Int)≥c.conf.stores:=λ z=>hs ⟨q,z⟩;omega
      rw[iC,show m+2 * (n+1)=(m+2)+2 * n by omega];by_cases hk:kindOf (c.rob[0]'omT).i.op=3
      ·rw[rB hk];exact zA (sF h omT he hst) omT
      ·rw[rA hk];exact zA (sE h omT he hst) omT
theorem QV{c:Co}{n:Nat}(h:c.okM n):c.conf.width.toNat≤2:=by have:=oQ h.cf;omega
theorem Gt{c:Co}{m:Nat}(h:c.okM m)(hb:m+4≤890000):(dN c).okM (m+4):=by
 have hw:=QV h;exact (zA h omT).mono omT hb
theorem Dy:∀ {p:List Nat} {c:Co} {m:Nat},c.okM m→m+p.length≤890000→(p.foldl gF c).okM (m+p.length)
 |[],_,_,h,_=>h
 |i::p,c,m,h,hb=>by
  have hl:(i::p).length=p.length+1:=rfl;rw[hl]at hb⊢;rw[show m+(p.length+1)=(m+1)+p.length by omega];exact Dy (xJ h omT i).1 omT
theorem Id{c:Co}{m:Nat}(h:c.okM m)(hb:m+2≤890000):(fJ c).okM (m+2):=by
 by_cases hh:c.halt≠0
 ·rw[show fJ c=c from if_pos hh];exact h.mono omT hb
 ·obtain⟨p, -,hp, -,hl⟩:=zE (k:=c.rob.length) h.cf hh rfl;rw[hp];exact (Dy h omT).mono omT hb
theorem Ci:∀ {p:List Nat} {c:Co} {m:Nat},c.okM m→m+p.length≤890000→(p.foldl gF c).rob.length=c.rob.length∧(p.foldl gF c).stores=c.stores∧(p.foldl gF c).fetched=c.fetched∧(p.foldl gF c).retired=c.retired
 |[],_,_,_,_=>⟨rfl,rfl,rfl,rfl⟩
 |i::p,c,m,h,hb=>by
  have hl:(i::p).length=p.length+1:=rfl;rw[hl]at hb;have hs:=xJ h omT i;have ih:=Ci (p:=p) hs.1 omT;exact⟨ih.1.trans hs.2.1,ih.2.1.trans hs.2.2.2.1,ih.2.2.1.trans hs.2.2.2.2.1,ih.2.2.2.trans hs.2.2.2.2.2⟩
theorem fV{c:Co}{m:Nat}(h:c.okM m)(hb:m+2≤890000):(fJ c).rob.length=c.rob.length∧(fJ c).stores=c.stores∧(fJ c).fetched=c.fetched∧(fJ c).retired=c.retired:=by
 by_cases hh:c.halt≠0
 ·rw[show fJ c=c from if_pos hh];exact⟨rfl,rfl,rfl,rfl⟩
 ·obtain⟨p, -,hp, -,hl⟩:=zE (k:=c.rob.length) h.cf hh rfl;rw[hp];exact Ci h omT
theorem Dz:∀ {n:Nat} {c:Co} {m:Nat},c.okM m→(jL n c).okM m∧(jL n c).stores=c.stores∧(jL n c).retired=c.retired
 |0,_,_,h=>⟨h,rfl,rfl⟩
 | n+1,c,m,h=>by
  by_cases h0:(c.rob.length:Int)≥c.conf.rob∨c.fetched.length=0
  ·rw[tH h0];exact⟨h,rfl,rfl⟩
  ·have hx:c.fetched[0]?=some (c.fetched[0]'omT):=aA omT;have hf:=h.ok.feto _ (aB hx);have hr:c.rob.length≤999:=by have:=oQ h.cf;omega
   have e:=wM (n:=n+1) (k:=0) omT (λ q=>h0 (.inl q)) hx;rw[show n+1 - (0+1)=n by omega,show n+1 - 0=n+1 by omega]at e;rw[←e];have ih:=Dz (n:=n) (BM h hf hr);exact⟨ih.1,ih.2.1,ih.2.2⟩
theorem tD{c:Co}{m:Nat}(h:c.okM m):(iY c).okM m∧(iY c).stores=c.stores∧(iY c).retired=c.retired:=by
 unfold iY;split
 ·exact⟨h,rfl,rfl⟩
 ·exact Dz h
theorem JN(c:Co)(w:Nat):(cN c w).1.stores=c.stores∧(cN c w).1.retired=c.retired∧(cN c w).1.rob=c.rob:=by
 unfold cN;split
 ·exact⟨rfl,rfl,rfl⟩
 ·split<;>exact⟨rfl,rfl,rfl⟩
theorem JO(d:Co):(wN d).stores=d.stores∧(wN d).retired=d.retired∧(wN d).rob=d.rob:=JN (gP d) (fetchW d.prog d.fetch)
theorem Ie{c:Co}{m:Nat}(h:c.okM m)(hf:c.fetched.length≤999):Co.okM {c with fetched:=c.fetched++[⟨c.fetch,up4 c.fetch⟩],stop:=true} m:=by
 have hl:(c.fetched++[(⟨c.fetch,up4 c.fetch⟩:Ft)]).length≤1000:=by simp;omega
 exact⟨⟨h.ok.conf,h.ok.prog,h.ok.progo,h.ok.r,h.ok.fetch,aL hl (by decide),nQ h.ok.feto (nU ⟨h.ok.fetch,yJ _⟩),h.ok.rob,h.ok.robo,h.ok.sto,h.ok.stoo,h.ok.data,h.ok.words,h.ok.bus,h.ok.buso,h.ok.asked,h.ok.guessed,h.ok.mem,h.ok.guess,h.ok.ret,h.ok.reto⟩,h.nb,h.cf,h.data,h.words,h.guess,h.rob,hl,h.sto,h.prog,h.mem,h.std⟩
theorem Cj:∀ {n:Nat} {c:Co} {m:Nat},c.okM m→m+1≤890000→(eB n c).okM (m+1)∧(eB n c).stores=c.stores∧(eB n c).retired=c.retired∧(eB n c).rob=c.rob
 |0,_,_,h,hb=>⟨h.mono (fF _) hb,rfl,rfl,rfl⟩
 | n +1,c,m,h,hb=>by
  have h1:=h.mono (fF m) hb;by_cases h0:c.stop=true∨(c.fetched.length:Int)≥c.conf.queue
  ·rw[rC h0];exact⟨h1,rfl,rfl,rfl⟩
  ·have hl:c.fetched.length≤999:=by have:=oQ h.cf;omega
   by_cases hf:(fetchP c.prog c.fetch).isSome=false
   ·rw[tI omT h0 hf];exact⟨Ie h1 hl,rfl,rfl,rfl⟩
   ·by_cases hw:(bE c.words (lineOf c.fetch)).2.isSome=false
    ·rw[oP omT h0 hf hw];split
     ·exact⟨rD h hb 2 (dF h.ok.fetch) mH,rfl,rfl,rfl⟩
     ·exact⟨h1,rfl,rfl,rfl⟩
    ·have e:=uN (n:=n+1) (k:=0) omT h0 hf hw;rw[show n+1 - (0+1)=n by omega,show n+1 - 0=n+1 by omega]at e;rw[←e];have ih:=Cj (n:=n) (BN h hl) hb;have hk:=JO c;exact⟨ih.1,ih.2.1.trans hk.1,ih.2.2.1.trans hk.2.1,ih.2.2.2.trans hk.2.2⟩
theorem mX{c:Co}{m:Nat}(h:c.okM m)(hb:m+1≤890000):(dW c).okM (m+1)∧(dW c).stores=c.stores∧(dW c).retired=c.retired∧(dW c).rob=c.rob:=by
 unfold dW;split
 ·exact⟨h.mono (fF _) hb,rfl,rfl,rfl⟩
 ·exact Cj h hb
theorem Ig{c:Co}{m:Nat}(h:c.okM m)(hb:m+1≤890000):(oG c).okM (m+1)∧(oG c).fetched=c.fetched∧(oG c).retired=c.retired∧(oG c).rob=c.rob∧(oG c).stores=c.stores:=by
 unfold oG
 cases hs:c.stores with
 |nil=>exact⟨h.mono (fF _) hb,rfl,rfl,rfl,hs⟩
 |cons p l=>
  dsimp only;split
  ·exact⟨rD h hb 3 (dF (h.ok.stoo p (by rw[hs];exact bO ..)).addr) mH,rfl,rfl,rfl,hs⟩
  ·exact⟨h.mono (fF _) hb,rfl,rfl,rfl,hs⟩
theorem DA{c:Co}{m:Nat}(h:c.okM m)(hb:m+1≤890000):(kP c).okM (m+1)∧(kP c).fetched=c.fetched∧(kP c).retired=c.retired∧(kP c).rob=c.rob∧(kP c).stores=c.stores:=by
 have h1:=h.mono (fF m) hb;unfold kP;split
 ·exact⟨h1,rfl,rfl,rfl,rfl⟩
 ·by_cases hq:(cP c.data).isSome=true∧((cP c.data).getD pC).data.size≠0
  ·rw[tV hq];have ha:=rD h hb 4 h.gd.dirtyLe ((cP c.data).getD pC).data;have g:=WS.1 (h.gd.clean ((cP c.data).getD pC).line);exact⟨⟨⟨ha.ok.conf,ha.ok.prog,ha.ok.progo,ha.ok.r,ha.ok.fetch,ha.ok.fet,ha.ok.feto,ha.ok.rob,ha.ok.robo,ha.ok.sto,ha.ok.stoo,g.2,ha.ok.words,ha.ok.bus,ha.ok.buso,ha.ok.asked,ha.ok.guessed,ha.ok.mem,ha.ok.guess,ha.ok.ret,ha.ok.reto⟩,hb,ha.cf,g.1,ha.words,ha.guess,ha.rob,ha.fet,ha.sto,ha.prog,ha.mem,ha.std⟩,rfl,rfl,rfl,rfl⟩
  ·rw[vP hq];exact⟨h1,rfl,rfl,rfl,rfl⟩
theorem oN{c:Co}{m:Nat}(h:c.okM m)(hb:m+2≤890000):(pZ c).okM (m+2)∧(pZ c).fetched=c.fetched∧(pZ c).retired=c.retired∧(pZ c).rob=c.rob:=by
 rw[jW];have h0:=eN h;split
 ·have ha:=Ig h0 omT;have hB:=DA ha.1 omT;exact⟨hB.1,hB.2.1.trans ha.2.1,hB.2.2.1.trans ha.2.2.1,hB.2.2.2.1.trans ha.2.2.2.1⟩
 ·have hB:=DA h0 omT;exact⟨hB.1.mono omT hb,hB.2.1,hB.2.2.1,hB.2.2.2.1⟩
theorem iQ(c:Co):(jK c).fetched=c.fetched∧(jK c).stores=c.stores∧(jK c).retired=c.retired∧(jK c).rob.length=c.rob.length:=by
 rw[iR];split
 ·unfold BR
  repeat' split
  ·exact⟨rfl,rfl,rfl,aO ..⟩
  ·exact⟨rfl,rfl,rfl,rfl⟩
  ·rw[←pY];exact⟨rfl,rfl,rfl,rfl⟩
  ·exact⟨rfl,rfl,rfl,rfl⟩
  ·exact⟨rfl,rfl,rfl,rfl⟩
 ·exact⟨rfl,rfl,rfl,rfl⟩
theorem eU(c:Co):(iE c).stores=c.stores∧(iE c).retired=c.retired:=by
 unfold iE;split
 ·exact⟨rfl,rfl⟩
 ·split<;>exact⟨rfl,rfl⟩
theorem Dx{c:Co}{n:Nat}(h:c.ok n)(hb:n≤890000)(hr:fK c=true):c.okM n:=by
 unfold fK at hr;simp only[aK,bC]at hr;obtain⟨⟨⟨⟨⟨⟨⟨⟨⟨⟨⟨h1,h2⟩,h3⟩,h4⟩,h5⟩,h6⟩,h7⟩,h8⟩,h9⟩,h10⟩,h11⟩,h12⟩:=hr;unfold zK at h7 h8;simp only[aK,bC]at h7 h8;have hc:=oQ h1;have hm:c.mem.size≤256:=by
  have e:c.mem.toList=(qQ c.mem).toList:=by simpa using h3
  have e2:c.mem.size=(qQ c.mem).size:=by rw[←sI, ←sI (qQ c.mem),e]
  rw[e2,xY];unfold upS;repeat' split
  all_goals omega
 have hs:∀ x∈c.stores,x.data.size≤4:=λ x hx=>by
  have:=qI.1 h12 x hx;unfold oU at this;simp only[aK,bC]at this;omega
 exact⟨h,hb,h1,h7.1.1,h8.1.1,h9,by omega,by omega,by omega,by omega,hm,hs⟩
def WQ(K:AH)(m b1 s2:Nat)(c:Co)(F S T:AV)(h':AH):Prop:=
 (c.rob=[]∧h'=upd K m (some (.box (mcX c (.sl 17 [] false) F S T))))∨
 ∃ (b:Nat) (A B:List Ent) (k:Bool),(b=b1∨b=s2)∧A.length+c.rob.length+B.length≤1000∧h'=upd (upd K m (some (.box (mcX c (.osl b A.length c.rob.length k) F S T)))) b (some (.arr ((A++c.rob++B).map enL) 17))
theorem Gq{f:FuncId}{b0:Blk}{c:Co}{kF kS kT:Bool}{xF xS xT:List (List AV)}(H:pJ C0.P C0.G f [.ptr 0 0] (heapF [(0,b0)]) 1 (λ x h'=>x=.tup []∧Sw 1 c (.sl 2 xF kF) (.sl 2 xS kS) (.sl 9 xT kT) h'))(m:Nat)(K:AH)(s2:Nat)(hL:FrL (λ _=>m) K 1 s2 [(0,b0)]):
  pJ C0.P C0.G f [.ptr m 0] K s2 (λ x h'=>x=.tup []∧WQ K m s2 s2 c (.sl 2 xF kF) (.sl 2 xS kS) (.sl 9 xT kT) h'):=by
 have hm:m<s2:=aR hL.1.1;refine H.frameL (λ _=>m) K s2 rfl hL rfl rfl _ λ r' h' hP=>?_;obtain⟨rfl,hP⟩:=hP;rcases hP with ⟨h0,rfl⟩|⟨b,A,B,k,hb,hl,rfl⟩
 ·refine⟨_,⟨rfl,.inl ⟨h0,rfl⟩⟩,λ y blk hy=>?_⟩;by_cases he:y=m
  ·subst he;rw[dA]at hy;injection hy with hy;subst hy;exact .inl ⟨0,_,rfl,rfl,rfl⟩
  ·rw[cE _ _ he]at hy;exact .inr ⟨hy,λ x _ e=>he e.symm⟩
 ·have hb1:b=1:=by omega
  subst hb1;refine⟨_,⟨rfl,.inr ⟨s2,A,B,k,.inr rfl,hl,rfl⟩⟩,λ y blk hy=>?_⟩;by_cases hs:y=s2
  ·subst hs;rw[dA]at hy;injection hy with hy;subst hy;exact .inl ⟨1,_,rfl,(uT _ _ _).symm,rfl⟩
  ·rw[cE _ _ hs]at hy;by_cases he:y=m
   ·subst he;rw[dA]at hy;injection hy with hy;subst hy;exact .inl ⟨0,_,rfl,rfl,rfl⟩
   ·rw[cE _ _ he]at hy;exact .inr ⟨hy,λ x _ e=>he e.symm⟩
theorem Gr{f:FuncId}{b0 b1:Blk}{c:Co}{kF kS kT:Bool}{xF xS xT:List (List AV)}(H:pJ C0.P C0.G f [.ptr 0 0] (heapF [(0,b0),(1,b1)]) 2 (λ x h'=>x=.tup []∧Sw 2 c (.sl 2 xF kF) (.sl 2 xS kS) (.sl 9 xT kT) h'))(m nb:Nat)(K:AH)(s2:Nat)(hL:FrL (λ z=>match z with|0=>m|_=>nb) K 2 s2 [(0,b0),(1,b1)])(hne:m≠nb):
  pJ C0.P C0.G f [.ptr m 0] K s2 (λ x h'=>x=.tup []∧WQ (upd K nb none) m nb s2 c (.sl 2 xF kF) (.sl 2 xS kS) (.sl 9 xT kT) h'):=by
 have hm:m<s2:=aR hL.1.1;have hn:nb<s2:=aR hL.2.1.1;have hi:RI (λ z=>match z with|0=>m|_=>nb) 2=true:=by
  have:Nat.beq m nb=false:=by rw[←eI];exact λ e=>hne (aM e)
  simp[RI,List.range,List.range.loop,this]
 have hr0:∀ y, ¬ y=m→ ¬ y=nb→∀ x,x<2→(λ z=>match z with|0=>m|_=>nb) x≠y:=by
  intro y h1 h2 x _ e
  cases x with
  |zero=>exact h1 e.symm
  |succ x=>exact h2 e.symm
 refine H.frameL (λ z=>match z with|0=>m|_=>nb) K s2 rfl hL hi rfl _ λ r' h' hP=>?_;obtain⟨rfl,hP⟩:=hP;rcases hP with ⟨h0,rfl⟩|⟨b,A,B,k,hb,hl,rfl⟩
 ·refine⟨_,⟨rfl,.inl ⟨h0,rfl⟩⟩,λ y blk hy=>?_⟩;by_cases he:y=m
  ·subst he;rw[dA]at hy;injection hy with hy;subst hy;exact .inl ⟨0,_,rfl,rfl,rfl⟩
  ·rw[cE _ _ he]at hy;by_cases hq:y=nb
   ·subst hq;rw[dA]at hy;cases hy
   ·rw[cE _ _ hq]at hy;exact .inr ⟨hy,hr0 y he hq⟩
 ·have hb2:b=1∨b=2:=by omega
  have key:∀ bn,bn=EJ (λ z=>match z with|0=>m|_=>nb) 2 s2 b→(bn=nb∨bn=s2)→∃ K',((uK (EJ (λ z=>match z with|0=>m|_=>nb) 2 s2) (.tup [])=.tup [])∧WQ (upd K nb none) m nb s2 c (.sl 2 xF kF) (.sl 2 xS kS) (.sl 9 xT kT) K')∧∀ y blk,K' y=some blk→(∃ x blk0,heapF [(0,.box (mcX c (.osl b A.length c.rob.length k) (.sl 2 xF kF) (.sl 2 xS kS) (.sl 9 xT kT))),(b,.arr ((A++c.rob++B).map enL) 17)] x=some blk0∧y=EJ (λ z=>match z with|0=>m|_=>nb) 2 s2 x∧blk=Ew (EJ (λ z=>match z with|0=>m|_=>nb) 2 s2) blk0)∨(K y=some blk∧∀ x,x<2→(λ z=>match z with|0=>m|_=>nb) x≠y):=by
   intro bn hbn hor;refine⟨_,⟨rfl,.inr ⟨bn,A,B,k,hor,hl,rfl⟩⟩,λ y blk hy=>?_⟩;by_cases hs:y=bn
   ·subst hs;rw[dA]at hy;injection hy with hy;subst hy;refine .inl ⟨b,.arr ((A++c.rob++B).map enL) 17,?_,hbn,rfl⟩;rcases hb2 with rfl|rfl<;>rfl
   ·rw[cE _ _ hs]at hy;by_cases he:y=m
    ·subst he;rw[dA]at hy;injection hy with hy;subst hy;refine .inl ⟨0,_,rfl,rfl,?_⟩;rw[hbn];rfl
    ·rw[cE _ _ he]at hy;by_cases hq:y=nb
     ·subst hq;rw[dA]at hy;cases hy
     ·rw[cE _ _ hq]at hy;exact .inr ⟨hy,hr0 y he hq⟩
  rcases hb2 with rfl|rfl
  ·exact key nb rfl (.inl rfl)
  ·exact key s2 rfl (.inr rfl)
theorem Vq{f:FuncId}{b0:Blk}{n:Nat}{c:Co}{kF kS kT:Bool}{xF xS xT:List (List AV)}{rows:List (List AV)}(H:pJ C0.P C0.G f [.ptr 0 0] (heapF [(0,b0)]) 1 (λ x h'=>x=.tup []∧h'=heapF [(0,.box (mcX c (.osl 1 0 n false) (.sl 2 xF kF) (.sl 2 xS kS) (.sl 9 xT kT))),(1,.arr rows 17)]))(m:Nat)(K:AH)(s2:Nat)(hL:FrL (λ _=>m) K 1 s2 [(0,b0)]):
  pJ C0.P C0.G f [.ptr m 0] K s2 (λ x h'=>x=.tup []∧h'=upd (upd K m (some (.box (mcX c (.osl s2 0 n false) (.sl 2 xF kF) (.sl 2 xS kS) (.sl 9 xT kT))))) s2 (some (.arr rows 17))):=by
 have hm:m<s2:=aR hL.1.1;refine H.frameL (λ _=>m) K s2 rfl hL rfl rfl _ λ r' h' hP=>?_;obtain⟨rfl,rfl⟩:=hP;refine⟨_,⟨rfl,rfl⟩,λ y blk hy=>?_⟩;by_cases hs:y=s2
 ·subst hs;rw[dA]at hy;injection hy with hy;subst hy;exact .inl ⟨1,_,rfl,(uT _ _ _).symm,rfl⟩
 ·rw[cE _ _ hs]at hy;by_cases he:y=m
  ·subst he;rw[dA]at hy;injection hy with hy;subst hy;exact .inl ⟨0,_,rfl,rfl,rfl⟩
  ·rw[cE _ _ he]at hy;exact .inr ⟨hy,λ x _ e=>he e.symm⟩
set_option maxRecDepth 100000
set_option maxHeartbeats 4000000
def s0(c:Co):Co:={c with cycle:=wrap64 (c.cycle+1)}
def s1(c:Co):Co:=jK (s0 c)
def s2(c:Co):Co:=iE (s1 c)
def s3(c:Co):Co:=dN (s2 c)
def s4(c:Co):Co:=fJ (s3 c)
def s5(c:Co):Co:=iY (s4 c)
def s6(c:Co):Co:=dW (s5 c)
def s7(c:Co):Co:=pZ (s6 c)
theorem QU(c:Co):TW c=s7 c:=rfl
theorem Vm{c:Co}{n:Nat}(h:c.okM n):(s0 c).okM n:=⟨⟨h.ok.conf,h.ok.prog,h.ok.progo,h.ok.r,h.ok.fetch,h.ok.fet,h.ok.feto,h.ok.rob,h.ok.robo,h.ok.sto,h.ok.stoo,h.ok.data,h.ok.words,h.ok.bus,h.ok.buso,h.ok.asked,h.ok.guessed,h.ok.mem,h.ok.guess,h.ok.ret,h.ok.reto⟩,h.nb,h.cf,h.data,h.words,h.guess,h.rob,h.fet,h.sto,h.prog,h.mem,h.std⟩
structure StepOk(c:Co)(n:Nat):Prop where
 k0:(s0 c).okM n
 k1:(s1 c).okM (n+1)
 k2:(s2 c).okM (n+1)
 k3:(s3 c).okM (n+5)
 k4:(s4 c).okM (n+7)
 k5:(s5 c).okM (n+7)
 k6:(s6 c).okM (n+8)
 k7:(s7 c).okM (n+10)
theorem NT{c:Co}{n:Nat}(h:c.okM n)(hb:n+20≤890000):StepOk c n:=by
 have k0:=Vm h;have k1:(s1 c).okM (n+1):=JP k0 omT;have k2:(s2 c).okM (n+1):=JS k1;have k3:(s3 c).okM (n+5):=Gt k2 omT;have k4:(s4 c).okM (n+7):=Id k3 omT;have k5:(s5 c).okM (n+7):=(tD k4).1;have k6:(s6 c).okM (n+8):=(mX k5 omT).1;exact⟨k0,k1,k2,k3,k4,k5,k6,(oN k6 omT).1⟩
theorem Ic{c:Co}{n:Nat}(h:c.ok n)(hb:n+20≤890000):(dP c).ok (n+10):=by
 unfold dP;split
 ·rename_i hr;rw[QU];exact (NT (Dx h omT hr) hb).k7.ok
 ·exact⟨h.conf,h.prog,h.progo,h.r,h.fetch,h.fet,h.feto,h.rob,h.robo,h.sto,h.stoo,h.data,h.words,aL h.bus omT,h.buso,h.asked,h.guessed,h.mem,h.guess,aL h.ret omT,h.reto⟩
theorem yE{c:Co}{R R' F F' S S' T T':AV}(hR:R=R')(hF:F=F')(hS:S=S')(hT:T=T'):some (Blk.box (mcX c R F S T))=some (Blk.box (mcX c R' F' S' T')):=by rw[hR,hF,hS,hT]
inductive Stg where
 |e0|o0|e1|o1|e2
 |o2 (A B:List Ent) (k:Bool)
 |e3
 |o3 (A B:List Ent) (k:Bool)
 |s4|s5|s6|s7
theorem WP(c:Co)(nb:Nat)(hm:c.okM nb)(hne:c.rob≠[])(kR kF kS kT:Bool):pJ C0.P C0.G 51 [.ptr 0 0] (heapF [(0,.box (mcX c (.sl 17 (c.rob.map enL) kR) (.sl 2 (c.fetched.map ftL) kF) (.sl 2 (c.stores.map ptL) kS) (.sl 9 (c.retired.map spL) kT)))]) 1 (λ x h'=>x=.tup []∧h'=heapF [(0,.box (mcX c (.osl 1 0 c.rob.length false) (.sl 2 (c.fetched.map ftL) true) (.sl 2 (c.stores.map ptL) true) (.sl 9 (c.retired.map spL) true))),(1,.arr (c.rob.map enL) 17)]):=by
 obtain⟨e,l,hel⟩:=List.exists_cons_of_ne_nil hne;have hl:=hm.rob;rw[hel]at hl⊢;exact Xm c nb hm e l hl kR kF kS kT
theorem NU(c:Co)(nb:Nat)(hm:c.okM nb)(A B:List Ent)(lo n:Nat)(kR:Bool)(hlo:A.length=lo)(hn:c.rob.length=n)(hA:A.length+n+B.length≤1000)(hAo:∀ x∈A,x.ok)(hBo:∀ x∈B,x.ok)(kS kT:Bool)(xS xT:List (List AV)):pJ C0.P C0.G 53 [.ptr 0 0] (heapF [(0,.box (mcX c (.osl 1 lo n kR) (.sl 2 (c.fetched.map ftL) true) (.sl 2 xS kS) (.sl 9 xT kT))),(1,.arr ((A++c.rob++B).map enL) 17)]) 2 (λ x h'=>x=.tup []∧Sw 2 (iE c) (.sl 2 ((iE c).fetched.map ftL) true) (.sl 2 xS kS) (.sl 9 xT kT) h'):=by
 cases hw:wO (dC c)with
 |none=>exact Tw c nb hm A B lo n kR hlo hn hA hAo hBo hw kS kT xS xT
 |some i=>exact Tx c nb hm A B lo n kR hlo hn hA hAo hBo i hw kS kT xS xT
theorem Gp{α:Type}{l m:List α}(h:l=[])(e:m.length=l.length):[]=m:=by
 subst h;exact (bF e).symm
theorem Su{b:Bool}(h:(!b)=true): ¬ b=true:=by cases b<;>simp_all
abbrev Xt(c:Co):Stg→ASt:=λ z_=>match z_ with| .e0=>⟨cI [(2,.ptr 1 0),(9,vB (!(fK c))),(3,.ptr 7 0),(21,.agg [.clo 52 [] [],.clo 53 [] [],.clo 54 [] [],.clo 55 [] [],.clo 56 [] [],.clo 57 [] [],.clo 58 [] []]),(22,vI 0)],heapF [(1,.box zCo),(7,.box (mcX (s0 c) (.sl 17 ([]) false) (.sl 2 ((s0 c).fetched.map ftL) true) (.sl 2 ((s0 c).stores.map ptL) true) (.sl 9 ((s0 c).retired.map spL) true)))],23⟩| .o0=>⟨cI [(2,.ptr 1 0),(9,vB (!(fK c))),(3,.ptr 7 0),(21,.agg [.clo 52 [] [],.clo 53 [] [],.clo 54 [] [],.clo 55 [] [],.clo 56 [] [],.clo 57 [] [],.clo 58 [] []]),(22,vI 0)],heapF [(1,.box zCo),(7,.box (mcX (s0 c) (.osl 22 0 c.rob.length false) (.sl 2 ((s0 c).fetched.map ftL) true) (.sl 2 ((s0 c).stores.map ptL) true) (.sl 9 ((s0 c).retired.map spL) true))),(22,.arr ((([]:List Ent)++(s0 c).rob++[]).map enL) 17)],23⟩| .e1=>⟨cI [(2,.ptr 1 0),(9,vB (!(fK c))),(3,.ptr 7 0),(21,.agg [.clo 52 [] [],.clo 53 [] [],.clo 54 [] [],.clo 55 [] [],.clo 56 [] [],.clo 57 [] [],.clo 58 [] []]),(22,vI 1)],heapF [(1,.box zCo),(7,.box (mcX (s1 c) (.sl 17 ([]) false) (.sl 2 ((s1 c).fetched.map ftL) true) (.sl 2 ((s1 c).stores.map ptL) true) (.sl 9 ((s1 c).retired.map spL) true)))],23⟩| .o1=>⟨cI [(2,.ptr 1 0),(9,vB (!(fK c))),(3,.ptr 7 0),(21,.agg [.clo 52 [] [],.clo 53 [] [],.clo 54 [] [],.clo 55 [] [],.clo 56 [] [],.clo 57 [] [],.clo 58 [] []]),(22,vI 1)],heapF [(1,.box zCo),(7,.box (mcX (s1 c) (.osl 22 0 c.rob.length false) (.sl 2 ((s1 c).fetched.map ftL) true) (.sl 2 ((s1 c).stores.map ptL) true) (.sl 9 ((s1 c).retired.map spL) true))),(22,.arr ((([]:List Ent)++(s1 c).rob++[]).map enL) 17)],23⟩| .e2=>⟨cI [(2,.ptr 1 0),(9,vB (!(fK c))),(3,.ptr 7 0),(21,.agg [.clo 52 [] [],.clo 53 [] [],.clo 54 [] [],.clo 55 [] [],.clo 56 [] [],.clo 57 [] [],.clo 58 [] []]),(22,vI 2)],heapF [(1,.box zCo),(7,.box (mcX (s2 c) (.sl 17 ([]) false) (.sl 2 ((s2 c).fetched.map ftL) true) (.sl 2 ((s2 c).stores.map ptL) true) (.sl 9 ((s2 c).retired.map spL) true)))],23⟩| .o2 A B kk=>⟨cI [(2,.ptr 1 0),(9,vB (!(fK c))),(3,.ptr 7 0),(21,.agg [.clo 52 [] [],.clo 53 [] [],.clo 54 [] [],.clo 55 [] [],.clo 56 [] [],.clo 57 [] [],.clo 58 [] []]),(22,vI 2)],heapF [(1,.box zCo),(7,.box (mcX (s2 c) (.osl 22 A.length ((s2 c).rob.length) kk) (.sl 2 ((s2 c).fetched.map ftL) true) (.sl 2 ((s2 c).stores.map ptL) true) (.sl 9 ((s2 c).retired.map spL) true))),(22,.arr ((A++(s2 c).rob++B).map enL) 17)],23⟩| .e3=>⟨cI [(2,.ptr 1 0),(9,vB (!(fK c))),(3,.ptr 7 0),(21,.agg [.clo 52 [] [],.clo 53 [] [],.clo 54 [] [],.clo 55 [] [],.clo 56 [] [],.clo 57 [] [],.clo 58 [] []]),(22,vI 3)],heapF [(1,.box zCo),(7,.box (mcX (s3 c) (.sl 17 ([]) false) (.sl 2 ((s3 c).fetched.map ftL) true) (.sl 2 ((s3 c).stores.map ptL) false) (.sl 9 ((s3 c).retired.map spL) false)))],23⟩| .o3 A B kk=>⟨cI [(2,.ptr 1 0),(9,vB (!(fK c))),(3,.ptr 7 0),(21,.agg [.clo 52 [] [],.clo 53 [] [],.clo 54 [] [],.clo 55 [] [],.clo 56 [] [],.clo 57 [] [],.clo 58 [] []]),(22,vI 3)],heapF [(1,.box zCo),(7,.box (mcX (s3 c) (.osl 22 A.length ((s3 c).rob.length) kk) (.sl 2 ((s3 c).fetched.map ftL) true) (.sl 2 ((s3 c).stores.map ptL) false) (.sl 9 ((s3 c).retired.map spL) false))),(22,.arr ((A++(s3 c).rob++B).map enL) 17)],23⟩| .s4=>⟨cI [(2,.ptr 1 0),(9,vB (!(fK c))),(3,.ptr 7 0),(21,.agg [.clo 52 [] [],.clo 53 [] [],.clo 54 [] [],.clo 55 [] [],.clo 56 [] [],.clo 57 [] [],.clo 58 [] []]),(22,vI 4)],heapF [(1,.box zCo),(7,.box (mcX (s4 c) (.sl 17 ((s4 c).rob.map enL) false) (.sl 2 ((s4 c).fetched.map ftL) true) (.sl 2 ((s4 c).stores.map ptL) false) (.sl 9 ((s4 c).retired.map spL) false)))],23⟩| .s5=>⟨cI [(2,.ptr 1 0),(9,vB (!(fK c))),(3,.ptr 7 0),(21,.agg [.clo 52 [] [],.clo 53 [] [],.clo 54 [] [],.clo 55 [] [],.clo 56 [] [],.clo 57 [] [],.clo 58 [] []]),(22,vI 5)],heapF [(1,.box zCo),(7,.box (mcX (s5 c) (.sl 17 ((s5 c).rob.map enL) false) (.sl 2 ((s5 c).fetched.map ftL) true) (.sl 2 ((s5 c).stores.map ptL) false) (.sl 9 ((s5 c).retired.map spL) false)))],23⟩| .s6=>⟨cI [(2,.ptr 1 0),(9,vB (!(fK c))),(3,.ptr 7 0),(21,.agg [.clo 52 [] [],.clo 53 [] [],.clo 54 [] [],.clo 55 [] [],.clo 56 [] [],.clo 57 [] [],.clo 58 [] []]),(22,vI 6)],heapF [(1,.box zCo),(7,.box (mcX (s6 c) (.sl 17 ((s6 c).rob.map enL) false) (.sl 2 ((s6 c).fetched.map ftL) false) (.sl 2 ((s6 c).stores.map ptL) false) (.sl 9 ((s6 c).retired.map spL) false)))],23⟩| .s7=>⟨cI [(2,.ptr 1 0),(9,vB (!(fK c))),(3,.ptr 7 0),(21,.agg [.clo 52 [] [],.clo 53 [] [],.clo 54 [] [],.clo 55 [] [],.clo 56 [] [],.clo 57 [] [],.clo 58 [] []]),(22,vI 7)],heapF [(1,.box zCo),(7,.box (mcX (s7 c) (.sl 17 ((s7 c).rob.map enL) false) (.sl 2 ((s7 c).fetched.map ftL) false) (.sl 2 ((s7 c).stores.map ptL) false) (.sl 9 ((s7 c).retired.map spL) false)))],23⟩
abbrev Xu(c:Co):Stg→Prop:=λ z_=>match z_ with| .e0=>(s0 c).rob=[]| .e1=>(s1 c).rob=[]| .e2=>(s2 c).rob=[]| .e3=>(s3 c).rob=[]| .o2 A B _=>A.length+(s2 c).rob.length+B.length≤1000| .o3 A B _=>A.length+(s3 c).rob.length+B.length≤1000|_=>True
abbrev Xv:Stg→Nat:=λ z_=>match z_ with| .e0| .o0=>7| .e1| .o1=>6| .e2| .o2 _ _ _=>5| .e3| .o3 _ _ _=>4| .s4=>3| .s5=>2| .s6=>1| .s7=>0
theorem Vn(c:Co)(nb:Nat)(hok:c.ok nb)(hb:nb+20≤890000)(hr:fK c=true)(h0:c.rob=[]):bY C0 25 [.agg (coL c)] (.agg (coL (dP c))):=by
 refine dc1 (bY.intro c1Ok Tryz.func25 rfl rfl (by kernel_rfl) rfl ?_);have hm:=Dx hok omT hr;have hk:=NT hm hb;refine cSR<|rAl 0 rfl rfl<|rAl 1 rfl rfl<|rE 2<|aE<|cSR<|oR 1 rfl<|rCi rfl (Bi c nb hok omT)<|oR 1 rfl<|rE 5 ?_;refine aU rfl (λ h1=>by exact absurd hr (Su h1)) (λ _=>?_);refine aZ<|cSR<|oR 1 rfl<|rV (.agg (coL c)) rfl<|rAl 7 rfl rfl<|rSx 7 (coL c) rfl rfl rfl<|rE 9<|cSR<|eE (args:=[.ptr 7 0]) (d:=13) _ rfl rfl rfl ((show pJ C0.P C0.G 51 [.ptr 0 0] (heapF [(0,.box (mcX c (.sl 17 (c.rob.map enL) false) (.sl 2 (c.fetched.map ftL) false) (.sl 2 (c.stores.map ptL) false) (.sl 9 (c.retired.map spL) false)))]) 1 _ from by rw[h0];exact Xl c nb hm false false false false).frameB (λ _=>7) _ _ rfl ⟨⟨rfl,rfl,rfl,rfl⟩,trivial⟩ rfl rfl rfl rfl) ?_;rintro _ _ ⟨rfl,rfl⟩;refine rE 10<|cSR<|oR 3 rfl<|rW (vI (wrap64 (c.cycle+1))) rfl (okI (w64 _))<|oR 2 rfl<|rSx 7 (mcX ({c with cycle:=wrap64 (c.cycle+1)}:Co) (.sl 17 ([]) false) (.sl 2 (c.fetched.map ftL) true) (.sl 2 (c.stores.map ptL) true) (.sl 9 (c.retired.map spL) true)) rfl rfl rfl<|rE 17<|cSR<|rV (.agg [.clo 52 [] [],.clo 53 [] [],.clo 54 [] [],.clo 55 [] [],.clo 56 [] [],.clo 57 [] [],.clo 58 [] []]) rfl<|rAl 18 rfl rfl<|rSt rfl<|rE 20<|aE<|aE ?_;refine cRg<|oR 2 rfl<|rE 22<|bI<|qW (κ:=Stg) (Xt c) (Xu c) Xv .e0 (λ s=>s) (Weak.of_lists (λ s=>s) wT wH rfl) rfl h0 ?_;intro z_ hq;rcases z_ with _|_|_|_|_|⟨A,B,kk⟩|_|⟨A,B,kk⟩|_|_|_|_
 ·have hG:(s0 c).rob=[]:=hq;refine cSR<|rV (vB true) rfl<|rE 24<|aE ?_;refine aU rfl (λ _=>?_) (λ h=>by cases h);refine aZ<|aE<|bI<|cSR<|nW (.clo 52 [] []) rfl rfl (⟨by decide,by decide⟩)<|oR 1 rfl<|rE 26<|cRg<|oR 1 rfl<|eE (args:=[.ptr 7 0]) (d:=26) _ rfl rfl rfl ((NW (s0 c) nb hk.k0 hG true true true ((s0 c).fetched.map ftL) ((s0 c).retired.map spL)).frameB (λ _=>7) _ _ rfl ⟨⟨rfl,rfl,rfl,rfl⟩,trivial⟩ rfl rfl rfl rfl) ?_;rintro _ _ ⟨rfl,rfl⟩;refine rE 28<|cRg<|rV (vI 1) rfl<|oR 1 rfl<|rE 30 ?_;refine .mk _ (.refl _) ⟨.e1,λ i=>i,Weak.of_lists _ wT ⟨⟨rfl,rfl,rfl⟩,⟨rfl,(yE (c:=s1 c) rfl (congrArg (λ z:List Ft=>AV.sl 2 (z.map ftL) true) (show (s0 c).fetched=(s1 c).fetched from ((iQ (s0 c)).1).symm)) (congrArg (λ z:List Pt=>AV.sl 2 (z.map ptL) true) (show (s0 c).stores=(s1 c).stores from ((iQ (s0 c)).2.1).symm)) (congrArg (λ z:List Sp=>AV.sl 9 (z.map spL) true) (show (s0 c).retired=(s1 c).retired from ((iQ (s0 c)).2.2.1).symm))),rfl⟩,trivial⟩ rfl,rfl,(Gp hG (iQ (s0 c)).2.2.2).symm,by show (6:Nat)<7;decide⟩
 ·refine cSR<|rV (vB true) rfl<|rE 24<|aE ?_;refine aU rfl (λ _=>?_) (λ h=>by cases h);refine aZ<|aE<|bI<|cSR<|nW (.clo 52 [] []) rfl rfl (⟨by decide,by decide⟩)<|oR 1 rfl<|rE 26<|cRg<|oR 1 rfl<|eE (args:=[.ptr 7 0]) (d:=26) _ rfl rfl rfl ((Sv (s0 c) nb hk.k0 [] [] 0 c.rob.length false rfl rfl (by have:=hm.rob;simpa using this) true true true ((s0 c).fetched.map ftL) ((s0 c).retired.map spL)).frameB2 (λ z=>match z with|0=>7|_=>22) _ _ rfl ⟨⟨rfl,rfl,rfl,rfl⟩,⟨rfl,rfl,rfl,rfl⟩,trivial⟩ rfl rfl rfl rfl rfl) ?_;rintro _ _ ⟨rfl,rfl⟩;refine rE 28<|cRg<|rV (vI 1) rfl<|oR 1 rfl<|rE 30 ?_;refine .mk _ (.refl _) ⟨.o1,λ i=>i,Weak.of_lists _ wT ⟨⟨rfl,rfl,rfl⟩,⟨rfl,(yE (c:=s1 c) rfl (congrArg (λ z:List Ft=>AV.sl 2 (z.map ftL) true) (show (s0 c).fetched=(s1 c).fetched from ((iQ (s0 c)).1).symm)) (congrArg (λ z:List Pt=>AV.sl 2 (z.map ptL) true) (show (s0 c).stores=(s1 c).stores from ((iQ (s0 c)).2.1).symm)) (congrArg (λ z:List Sp=>AV.sl 9 (z.map spL) true) (show (s0 c).retired=(s1 c).retired from ((iQ (s0 c)).2.2.1).symm))),rfl⟩,⟨rfl,rfl,rfl⟩,trivial⟩ rfl,rfl,trivial,by show (6:Nat)<7;decide⟩
 ·have hG:(s1 c).rob=[]:=hq;refine cSR<|rV (vB true) rfl<|rE 24<|aE ?_;refine aU rfl (λ _=>?_) (λ h=>by cases h);refine aZ<|aE<|bI<|cSR<|nW (.clo 53 [] []) rfl rfl (⟨by decide,by decide⟩)<|oR 1 rfl<|rE 26<|cRg<|oR 1 rfl<|eE (args:=[.ptr 7 0]) (d:=26) _ rfl rfl rfl (Gq (NY (s1 c) (nb+1) hk.k1 hG true true ((s1 c).stores.map ptL) ((s1 c).retired.map spL)) 7 _ _ ⟨⟨rfl,rfl,rfl,rfl⟩,trivial⟩) ?_;rintro _ _ ⟨rfl,⟨hz,rfl⟩|⟨_,A,B,kk,rfl|rfl,hl,rfl⟩⟩
  ·refine rE 28<|cRg<|rV (vI 2) rfl<|oR 1 rfl<|rE 30 ?_;refine .mk _ (.refl _) ⟨.e2,λ i=>i,Weak.of_lists _ wT ⟨⟨rfl,rfl,rfl⟩,⟨rfl,(yE (c:=s2 c) rfl rfl (congrArg (λ z:List Pt=>AV.sl 2 (z.map ptL) true) (show (s1 c).stores=(s2 c).stores from ((eU (s1 c)).1).symm)) (congrArg (λ z:List Sp=>AV.sl 9 (z.map spL) true) (show (s1 c).retired=(s2 c).retired from ((eU (s1 c)).2).symm))),rfl⟩,trivial⟩ rfl,rfl,hz,by show (5:Nat)<6;decide⟩
  ·refine rE 28<|cRg<|rV (vI 2) rfl<|oR 1 rfl<|rE 30 ?_;refine .mk _ (.refl _) ⟨(.o2 A B kk),λ i=>match i with|22=>27|i=>i,Weak.of_lists _ wT ⟨⟨rfl,rfl,rfl⟩,⟨rfl,(yE (c:=s2 c) rfl rfl (congrArg (λ z:List Pt=>AV.sl 2 (z.map ptL) true) (show (s1 c).stores=(s2 c).stores from ((eU (s1 c)).1).symm)) (congrArg (λ z:List Sp=>AV.sl 9 (z.map spL) true) (show (s1 c).retired=(s2 c).retired from ((eU (s1 c)).2).symm))),rfl⟩,⟨rfl,rfl,rfl⟩,trivial⟩ rfl,rfl,hl,by show (5:Nat)<6;decide⟩
  ·refine rE 28<|cRg<|rV (vI 2) rfl<|oR 1 rfl<|rE 30 ?_;refine .mk _ (.refl _) ⟨(.o2 A B kk),λ i=>match i with|22=>27|i=>i,Weak.of_lists _ wT ⟨⟨rfl,rfl,rfl⟩,⟨rfl,(yE (c:=s2 c) rfl rfl (congrArg (λ z:List Pt=>AV.sl 2 (z.map ptL) true) (show (s1 c).stores=(s2 c).stores from ((eU (s1 c)).1).symm)) (congrArg (λ z:List Sp=>AV.sl 9 (z.map spL) true) (show (s1 c).retired=(s2 c).retired from ((eU (s1 c)).2).symm))),rfl⟩,⟨rfl,rfl,rfl⟩,trivial⟩ rfl,rfl,hl,by show (5:Nat)<6;decide⟩
 ·refine cSR<|rV (vB true) rfl<|rE 24<|aE ?_;refine aU rfl (λ _=>?_) (λ h=>by cases h);refine aZ<|aE<|bI<|cSR<|nW (.clo 53 [] []) rfl rfl (⟨by decide,by decide⟩)<|oR 1 rfl<|rE 26<|cRg<|oR 1 rfl<|eE (args:=[.ptr 7 0]) (d:=26) _ rfl rfl rfl (Gr (NU (s1 c) (nb+1) hk.k1 [] [] 0 c.rob.length false rfl (iQ (s0 c)).2.2.2 (by have:=hm.rob;simpa using this) (λ x h=>by cases h) (λ x h=>by cases h) true true ((s1 c).stores.map ptL) ((s1 c).retired.map spL)) 7 22 _ _ ⟨⟨rfl,rfl,rfl,rfl⟩,⟨rfl,rfl,rfl,rfl⟩,trivial⟩ (by decide)) ?_;rintro _ _ ⟨rfl,⟨hz,rfl⟩|⟨_,A,B,kk,rfl|rfl,hl,rfl⟩⟩
  ·refine rE 28<|cRg<|rV (vI 2) rfl<|oR 1 rfl<|rE 30 ?_;refine .mk _ (.refl _) ⟨.e2,λ i=>i,Weak.of_lists _ wT ⟨⟨rfl,rfl,rfl⟩,⟨rfl,(yE (c:=s2 c) rfl rfl (congrArg (λ z:List Pt=>AV.sl 2 (z.map ptL) true) (show (s1 c).stores=(s2 c).stores from ((eU (s1 c)).1).symm)) (congrArg (λ z:List Sp=>AV.sl 9 (z.map spL) true) (show (s1 c).retired=(s2 c).retired from ((eU (s1 c)).2).symm))),rfl⟩,trivial⟩ rfl,rfl,hz,by show (5:Nat)<6;decide⟩
  ·refine rE 28<|cRg<|rV (vI 2) rfl<|oR 1 rfl<|rE 30 ?_;refine .mk _ (.refl _) ⟨(.o2 A B kk),λ i=>i,Weak.of_lists _ wT ⟨⟨rfl,rfl,rfl⟩,⟨rfl,(yE (c:=s2 c) rfl rfl (congrArg (λ z:List Pt=>AV.sl 2 (z.map ptL) true) (show (s1 c).stores=(s2 c).stores from ((eU (s1 c)).1).symm)) (congrArg (λ z:List Sp=>AV.sl 9 (z.map spL) true) (show (s1 c).retired=(s2 c).retired from ((eU (s1 c)).2).symm))),rfl⟩,⟨rfl,rfl,rfl⟩,trivial⟩ rfl,rfl,hl,by show (5:Nat)<6;decide⟩
  ·refine rE 28<|cRg<|rV (vI 2) rfl<|oR 1 rfl<|rE 30 ?_;refine .mk _ (.refl _) ⟨(.o2 A B kk),λ i=>match i with|22=>27|i=>i,Weak.of_lists _ wT ⟨⟨rfl,rfl,rfl⟩,⟨rfl,(yE (c:=s2 c) rfl rfl (congrArg (λ z:List Pt=>AV.sl 2 (z.map ptL) true) (show (s1 c).stores=(s2 c).stores from ((eU (s1 c)).1).symm)) (congrArg (λ z:List Sp=>AV.sl 9 (z.map spL) true) (show (s1 c).retired=(s2 c).retired from ((eU (s1 c)).2).symm))),rfl⟩,⟨rfl,rfl,rfl⟩,trivial⟩ rfl,rfl,hl,by show (5:Nat)<6;decide⟩
 ·have hG:(s2 c).rob=[]:=hq;refine cSR<|rV (vB true) rfl<|rE 24<|aE ?_;refine aU rfl (λ _=>?_) (λ h=>by cases h);refine aZ<|aE<|bI<|cSR<|nW (.clo 54 [] []) rfl rfl (⟨by decide,by decide⟩)<|oR 1 rfl<|rE 26<|cRg<|oR 1 rfl<|eE (args:=[.ptr 7 0]) (d:=26) _ rfl rfl rfl (Gq (Ii (s2 c) (nb+1) hk.k2 hG) 7 _ _ ⟨⟨rfl,rfl,rfl,rfl⟩,trivial⟩) ?_;rintro _ _ ⟨rfl,⟨hz,rfl⟩|⟨_,A,B,kk,rfl|rfl,hl,rfl⟩⟩
  ·refine rE 28<|cRg<|rV (vI 3) rfl<|oR 1 rfl<|rE 30 ?_;refine .mk _ (.refl _) ⟨.e3,λ i=>i,Weak.of_lists _ wT ⟨⟨rfl,rfl,rfl⟩,⟨rfl,(yE (c:=s3 c) rfl rfl rfl rfl),rfl⟩,trivial⟩ rfl,rfl,hz,by show (4:Nat)<5;decide⟩
  ·refine rE 28<|cRg<|rV (vI 3) rfl<|oR 1 rfl<|rE 30 ?_;refine .mk _ (.refl _) ⟨(.o3 A B kk),λ i=>match i with|22=>27|i=>i,Weak.of_lists _ wT ⟨⟨rfl,rfl,rfl⟩,⟨rfl,(yE (c:=s3 c) rfl rfl rfl rfl),rfl⟩,⟨rfl,rfl,rfl⟩,trivial⟩ rfl,rfl,hl,by show (4:Nat)<5;decide⟩
  ·refine rE 28<|cRg<|rV (vI 3) rfl<|oR 1 rfl<|rE 30 ?_;refine .mk _ (.refl _) ⟨(.o3 A B kk),λ i=>match i with|22=>27|i=>i,Weak.of_lists _ wT ⟨⟨rfl,rfl,rfl⟩,⟨rfl,(yE (c:=s3 c) rfl rfl rfl rfl),rfl⟩,⟨rfl,rfl,rfl⟩,trivial⟩ rfl,rfl,hl,by show (4:Nat)<5;decide⟩
 ·have hG:A.length+(s2 c).rob.length+B.length≤1000:=hq;refine cSR<|rV (vB true) rfl<|rE 24<|aE ?_;refine aU rfl (λ _=>?_) (λ h=>by cases h);refine aZ<|aE<|bI<|cSR<|nW (.clo 54 [] []) rfl rfl (⟨by decide,by decide⟩)<|oR 1 rfl<|rE 26<|cRg<|oR 1 rfl<|eE (args:=[.ptr 7 0]) (d:=26) _ rfl rfl rfl (Gr (KT (s2 c) (nb+1) hk.k2 omT A B A.length (s2 c).rob.length kk rfl rfl hG) 7 22 _ _ ⟨⟨rfl,rfl,rfl,rfl⟩,⟨rfl,rfl,rfl,rfl⟩,trivial⟩ (by decide)) ?_;rintro _ _ ⟨rfl,⟨hz,rfl⟩|⟨_,A,B,kk,rfl|rfl,hl,rfl⟩⟩
  ·refine rE 28<|cRg<|rV (vI 3) rfl<|oR 1 rfl<|rE 30 ?_;refine .mk _ (.refl _) ⟨.e3,λ i=>i,Weak.of_lists _ wT ⟨⟨rfl,rfl,rfl⟩,⟨rfl,(yE (c:=s3 c) rfl rfl rfl rfl),rfl⟩,trivial⟩ rfl,rfl,hz,by show (4:Nat)<5;decide⟩
  ·refine rE 28<|cRg<|rV (vI 3) rfl<|oR 1 rfl<|rE 30 ?_;refine .mk _ (.refl _) ⟨(.o3 A B kk),λ i=>i,Weak.of_lists _ wT ⟨⟨rfl,rfl,rfl⟩,⟨rfl,(yE (c:=s3 c) rfl rfl rfl rfl),rfl⟩,⟨rfl,rfl,rfl⟩,trivial⟩ rfl,rfl,hl,by show (4:Nat)<5;decide⟩
  ·refine rE 28<|cRg<|rV (vI 3) rfl<|oR 1 rfl<|rE 30 ?_;refine .mk _ (.refl _) ⟨(.o3 A B kk),λ i=>match i with|22=>27|i=>i,Weak.of_lists _ wT ⟨⟨rfl,rfl,rfl⟩,⟨rfl,(yE (c:=s3 c) rfl rfl rfl rfl),rfl⟩,⟨rfl,rfl,rfl⟩,trivial⟩ rfl,rfl,hl,by show (4:Nat)<5;decide⟩
 ·have hG:(s3 c).rob=[]:=hq;refine cSR<|rV (vB true) rfl<|rE 24<|aE ?_;refine aU rfl (λ _=>?_) (λ h=>by cases h);refine aZ<|aE<|bI<|cSR<|nW (.clo 55 [] []) rfl rfl (⟨by decide,by decide⟩)<|oR 1 rfl<|rE 26<|cRg<|oR 1 rfl<|eE (args:=[.ptr 7 0]) (d:=26) _ rfl rfl rfl ((KU (s3 c) (nb+5) hk.k3 hG true false false ((s3 c).fetched.map ftL) ((s3 c).retired.map spL)).frameB (λ _=>7) _ _ rfl ⟨⟨rfl,rfl,rfl,rfl⟩,trivial⟩ rfl rfl rfl rfl) ?_;rintro _ _ ⟨rfl,rfl⟩;refine rE 28<|cRg<|rV (vI 4) rfl<|oR 1 rfl<|rE 30 ?_;refine .mk _ (.refl _) ⟨.s4,λ i=>i,Weak.of_lists _ wT ⟨⟨rfl,rfl,rfl⟩,⟨rfl,(yE (c:=s4 c) (congrArg (λ z:List Ent=>AV.sl 17 (z.map enL) false) (Gp hG (fV hk.k3 omT).1)) (congrArg (λ z:List Ft=>AV.sl 2 (z.map ftL) true) (show (s3 c).fetched=(s4 c).fetched from ((fV hk.k3 omT).2.2.1).symm)) rfl (congrArg (λ z:List Sp=>AV.sl 9 (z.map spL) false) (show (s3 c).retired=(s4 c).retired from ((fV hk.k3 omT).2.2.2).symm))),rfl⟩,trivial⟩ rfl,rfl,trivial,by show (3:Nat)<4;decide⟩
 ·have hG:A.length+(s3 c).rob.length+B.length≤1000:=hq;refine cSR<|rV (vB true) rfl<|rE 24<|aE ?_;refine aU rfl (λ _=>?_) (λ h=>by cases h);refine aZ<|aE<|bI<|cSR<|nW (.clo 55 [] []) rfl rfl (⟨by decide,by decide⟩)<|oR 1 rfl<|rE 26<|cRg<|oR 1 rfl<|eE (args:=[.ptr 7 0]) (d:=26) _ rfl rfl rfl ((Oc (s3 c) (nb+5) hk.k3 omT A B A.length (s3 c).rob.length kk true false false ((s3 c).fetched.map ftL) ((s3 c).retired.map spL) rfl rfl hG).frameB2 (λ z=>match z with|0=>7|_=>22) _ _ rfl ⟨⟨rfl,rfl,rfl,rfl⟩,⟨rfl,rfl,rfl,rfl⟩,trivial⟩ rfl rfl rfl rfl rfl) ?_;rintro _ _ ⟨rfl,rfl⟩;refine rE 28<|cRg<|rV (vI 4) rfl<|oR 1 rfl<|rE 30 ?_;refine .mk _ (.step (some (22,17,(A++(s4 c).rob++B).map enL)) (Ghost.of_lists (l:=[(2,.ptr 1 0),(9,vB (!(fK c))),(3,.ptr 7 0),(21,.agg [.clo 52 [] [],.clo 53 [] [],.clo 54 [] [],.clo 55 [] [],.clo 56 [] [],.clo 57 [] [],.clo 58 [] []]),(22,vI 4)]) (hp:=[(1,.box zCo),(7,.box (mcX (s4 c) (.sl 17 ((((A++(s4 c).rob++B).drop A.length).take (s3 c).rob.length).map enL) false) (.sl 2 ((s3 c).fetched.map ftL) true) (.sl 2 ((s4 c).stores.map ptL) false) (.sl 9 ((s3 c).retired.map spL) false)))]) rfl rfT ⟨⟨rfl,_,rfl,.refl _⟩,⟨rfl,_,rfl,LeB.boxL (nN (CV (by simp only[aY];have:=(fV hk.k3 omT).1;show A.length+(s3 c).rob.length≤A.length+(fJ (s3 c)).rob.length+B.length;omega)) (.refl _) (.refl _) (.refl _))⟩,trivial⟩) (.refl _)) ⟨.s4,λ i=>i,Weak.of_lists _ wT ⟨⟨rfl,rfl,rfl⟩,⟨rfl,(yE (c:=s4 c) (congrArg (λ z:List Ent=>AV.sl 17 (z.map enL) false) (JR rfl (fV hk.k3 omT).1)) (congrArg (λ z:List Ft=>AV.sl 2 (z.map ftL) true) (show (s3 c).fetched=(s4 c).fetched from ((fV hk.k3 omT).2.2.1).symm)) rfl (congrArg (λ z:List Sp=>AV.sl 9 (z.map spL) false) (show (s3 c).retired=(s4 c).retired from ((fV hk.k3 omT).2.2.2).symm))),rfl⟩,trivial⟩ rfl,rfl,trivial,by show (3:Nat)<4;decide⟩
 ·refine cSR<|rV (vB true) rfl<|rE 24<|aE ?_;refine aU rfl (λ _=>?_) (λ h=>by cases h);refine aZ<|aE<|bI<|cSR<|nW (.clo 56 [] []) rfl rfl (⟨by decide,by decide⟩)<|oR 1 rfl<|rE 26<|cRg<|oR 1 rfl<|eE (args:=[.ptr 7 0]) (d:=26) _ rfl rfl rfl ((Og (s4 c) (nb+7) hk.k4 false ((s4 c).stores.map ptL) false ((s4 c).retired.map spL)).frameB (λ _=>7) _ _ rfl ⟨⟨rfl,rfl,rfl,rfl⟩,trivial⟩ rfl rfl rfl rfl) ?_;rintro _ _ ⟨rfl,rfl⟩;refine rE 28<|cRg<|rV (vI 5) rfl<|oR 1 rfl<|rE 30 ?_;refine .mk _ (.refl _) ⟨.s5,λ i=>i,Weak.of_lists _ wT ⟨⟨rfl,rfl,rfl⟩,⟨rfl,(yE (c:=s5 c) rfl rfl (congrArg (λ z:List Pt=>AV.sl 2 (z.map ptL) false) (show (s4 c).stores=(s5 c).stores from ((tD hk.k4).2.1).symm)) (congrArg (λ z:List Sp=>AV.sl 9 (z.map spL) false) (show (s4 c).retired=(s5 c).retired from ((tD hk.k4).2.2).symm))),rfl⟩,trivial⟩ rfl,rfl,trivial,by show (2:Nat)<3;decide⟩
 ·refine cSR<|rV (vB true) rfl<|rE 24<|aE ?_;refine aU rfl (λ _=>?_) (λ h=>by cases h);refine aZ<|aE<|bI<|cSR<|nW (.clo 57 [] []) rfl rfl (⟨by decide,by decide⟩)<|oR 1 rfl<|rE 26<|cRg<|oR 1 rfl<|eE (args:=[.ptr 7 0]) (d:=26) _ rfl rfl rfl ((KX (s5 c) (nb+7) hk.k5 false ((s5 c).rob.map enL) false ((s5 c).stores.map ptL) false ((s5 c).retired.map spL)).frameB (λ _=>7) _ _ rfl ⟨⟨rfl,rfl,rfl,rfl⟩,trivial⟩ rfl rfl rfl rfl) ?_;rintro _ _ ⟨rfl,rfl⟩;refine rE 28<|cRg<|rV (vI 6) rfl<|oR 1 rfl<|rE 30 ?_;refine .mk _ (.refl _) ⟨.s6,λ i=>i,Weak.of_lists _ wT ⟨⟨rfl,rfl,rfl⟩,⟨rfl,(yE (c:=s6 c) (congrArg (λ z:List Ent=>AV.sl 17 (z.map enL) false) (show (s5 c).rob=(s6 c).rob from ((mX hk.k5 omT).2.2.2).symm)) rfl (congrArg (λ z:List Pt=>AV.sl 2 (z.map ptL) false) (show (s5 c).stores=(s6 c).stores from ((mX hk.k5 omT).2.1).symm)) (congrArg (λ z:List Sp=>AV.sl 9 (z.map spL) false) (show (s5 c).retired=(s6 c).retired from ((mX hk.k5 omT).2.2.1).symm))),rfl⟩,trivial⟩ rfl,rfl,trivial,by show (1:Nat)<2;decide⟩
 ·refine cSR<|rV (vB true) rfl<|rE 24<|aE ?_;refine aU rfl (λ _=>?_) (λ h=>by cases h);refine aZ<|aE<|bI<|cSR<|nW (.clo 58 [] []) rfl rfl (⟨by decide,by decide⟩)<|oR 1 rfl<|rE 26<|cRg<|oR 1 rfl<|eE (args:=[.ptr 7 0]) (d:=26) _ rfl rfl rfl ((Ok (s6 c) (nb+8) hk.k6 omT false ((s6 c).rob.map enL) false ((s6 c).fetched.map ftL) false ((s6 c).retired.map spL)).frameB (λ _=>7) _ _ rfl ⟨⟨rfl,rfl,rfl,rfl⟩,trivial⟩ rfl rfl rfl rfl) ?_;rintro _ _ ⟨rfl,rfl⟩;refine rE 28<|cRg<|rV (vI 7) rfl<|oR 1 rfl<|rE 30 ?_;refine .mk _ (.refl _) ⟨.s7,λ i=>i,Weak.of_lists _ wT ⟨⟨rfl,rfl,rfl⟩,⟨rfl,(yE (c:=s7 c) (congrArg (λ z:List Ent=>AV.sl 17 (z.map enL) false) (show (s6 c).rob=(s7 c).rob from ((oN hk.k6 omT).2.2.2).symm)) (congrArg (λ z:List Ft=>AV.sl 2 (z.map ftL) false) (show (s6 c).fetched=(s7 c).fetched from ((oN hk.k6 omT).2.1).symm)) rfl (congrArg (λ z:List Sp=>AV.sl 9 (z.map spL) false) (show (s6 c).retired=(s7 c).retired from ((oN hk.k6 omT).2.2.1).symm))),rfl⟩,trivial⟩ rfl,rfl,trivial,by show (0:Nat)<1;decide⟩
 ·refine cSR<|rV (vB false) rfl<|rE 24<|aE ?_;refine aU rfl (λ h=>by cases h) (λ _=>?_);refine eA<|cSR<|oR 2 rfl<|rSx 1 (mcX (s7 c) (.sl 17 ((s7 c).rob.map enL) false) (.sl 2 ((s7 c).fetched.map ftL) false) (.sl 2 ((s7 c).stores.map ptL) false) (.sl 9 ((s7 c).retired.map spL) false)) rfl rfl rfl<|rE 27<|cT ?_;rw[show dP c=s7 c from if_pos hr];exact eW rfl tvT rfl rfl
theorem Vo(c:Co)(nb:Nat)(hok:c.ok nb)(hb:nb+20≤890000)(hr:fK c=true)(hne:c.rob≠[]):bY C0 25 [.agg (coL c)] (.agg (coL (dP c))):=by
 refine dc1 (bY.intro c1Ok Tryz.func25 rfl rfl (by kernel_rfl) rfl ?_);have hm:=Dx hok omT hr;have hk:=NT hm hb;refine cSR<|rAl 0 rfl rfl<|rAl 1 rfl rfl<|rE 2<|aE<|cSR<|oR 1 rfl<|rCi rfl (Bi c nb hok omT)<|oR 1 rfl<|rE 5 ?_;refine aU rfl (λ h1=>by exact absurd hr (Su h1)) (λ _=>?_);refine aZ<|cSR<|oR 1 rfl<|rV (.agg (coL c)) rfl<|rAl 7 rfl rfl<|rSx 7 (coL c) rfl rfl rfl<|rE 9<|cSR<|eE (args:=[.ptr 7 0]) (d:=13) _ rfl rfl rfl (Vq (WP c nb hm hne false false false false) 7 _ _ ⟨⟨rfl,rfl,rfl,rfl⟩,trivial⟩) ?_;rintro _ _ ⟨rfl,rfl⟩;refine rE 10<|cSR<|oR 3 rfl<|rW (vI (wrap64 (c.cycle+1))) rfl (okI (w64 _))<|oR 2 rfl<|rSx 7 (mcX ({c with cycle:=wrap64 (c.cycle+1)}:Co) (.osl 9 0 c.rob.length false) (.sl 2 (c.fetched.map ftL) true) (.sl 2 (c.stores.map ptL) true) (.sl 9 (c.retired.map spL) true)) rfl rfl rfl<|rE 17<|cSR<|rV (.agg [.clo 52 [] [],.clo 53 [] [],.clo 54 [] [],.clo 55 [] [],.clo 56 [] [],.clo 57 [] [],.clo 58 [] []]) rfl<|rAl 18 rfl rfl<|rSt rfl<|rE 20<|aE<|aE ?_;refine cRg<|oR 2 rfl<|rE 22<|bI<|qW (κ:=Stg) (Xt c) (Xu c) Xv .o0 (λ i=>match i with|22=>9|i=>i) (Weak.of_lists (λ i=>match i with|22=>9|i=>i) wT ⟨⟨rfl,rfl,rfl⟩,⟨rfl,rfl,rfl⟩,⟨rfl,(by show some (Blk.arr (c.rob.map enL) 17)=some (Blk.arr (([]++c.rob++[]).map enL) 17);rw[iN,eQ]),rfl⟩,trivial⟩ rfl) rfl trivial ?_;intro z_ hq;rcases z_ with _|_|_|_|_|⟨A,B,kk⟩|_|⟨A,B,kk⟩|_|_|_|_
 ·have hG:(s0 c).rob=[]:=hq;refine cSR<|rV (vB true) rfl<|rE 24<|aE ?_;refine aU rfl (λ _=>?_) (λ h=>by cases h);refine aZ<|aE<|bI<|cSR<|nW (.clo 52 [] []) rfl rfl (⟨by decide,by decide⟩)<|oR 1 rfl<|rE 26<|cRg<|oR 1 rfl<|eE (args:=[.ptr 7 0]) (d:=26) _ rfl rfl rfl ((NW (s0 c) nb hk.k0 hG true true true ((s0 c).fetched.map ftL) ((s0 c).retired.map spL)).frameB (λ _=>7) _ _ rfl ⟨⟨rfl,rfl,rfl,rfl⟩,trivial⟩ rfl rfl rfl rfl) ?_;rintro _ _ ⟨rfl,rfl⟩;refine rE 28<|cRg<|rV (vI 1) rfl<|oR 1 rfl<|rE 30 ?_;refine .mk _ (.refl _) ⟨.e1,λ i=>i,Weak.of_lists _ wT ⟨⟨rfl,rfl,rfl⟩,⟨rfl,(yE (c:=s1 c) rfl (congrArg (λ z:List Ft=>AV.sl 2 (z.map ftL) true) (show (s0 c).fetched=(s1 c).fetched from ((iQ (s0 c)).1).symm)) (congrArg (λ z:List Pt=>AV.sl 2 (z.map ptL) true) (show (s0 c).stores=(s1 c).stores from ((iQ (s0 c)).2.1).symm)) (congrArg (λ z:List Sp=>AV.sl 9 (z.map spL) true) (show (s0 c).retired=(s1 c).retired from ((iQ (s0 c)).2.2.1).symm))),rfl⟩,trivial⟩ rfl,rfl,(Gp hG (iQ (s0 c)).2.2.2).symm,by show (6:Nat)<7;decide⟩
 ·refine cSR<|rV (vB true) rfl<|rE 24<|aE ?_;refine aU rfl (λ _=>?_) (λ h=>by cases h);refine aZ<|aE<|bI<|cSR<|nW (.clo 52 [] []) rfl rfl (⟨by decide,by decide⟩)<|oR 1 rfl<|rE 26<|cRg<|oR 1 rfl<|eE (args:=[.ptr 7 0]) (d:=26) _ rfl rfl rfl ((Sv (s0 c) nb hk.k0 [] [] 0 c.rob.length false rfl rfl (by have:=hm.rob;simpa using this) true true true ((s0 c).fetched.map ftL) ((s0 c).retired.map spL)).frameB2 (λ z=>match z with|0=>7|_=>22) _ _ rfl ⟨⟨rfl,rfl,rfl,rfl⟩,⟨rfl,rfl,rfl,rfl⟩,trivial⟩ rfl rfl rfl rfl rfl) ?_;rintro _ _ ⟨rfl,rfl⟩;refine rE 28<|cRg<|rV (vI 1) rfl<|oR 1 rfl<|rE 30 ?_;refine .mk _ (.refl _) ⟨.o1,λ i=>i,Weak.of_lists _ wT ⟨⟨rfl,rfl,rfl⟩,⟨rfl,(yE (c:=s1 c) rfl (congrArg (λ z:List Ft=>AV.sl 2 (z.map ftL) true) (show (s0 c).fetched=(s1 c).fetched from ((iQ (s0 c)).1).symm)) (congrArg (λ z:List Pt=>AV.sl 2 (z.map ptL) true) (show (s0 c).stores=(s1 c).stores from ((iQ (s0 c)).2.1).symm)) (congrArg (λ z:List Sp=>AV.sl 9 (z.map spL) true) (show (s0 c).retired=(s1 c).retired from ((iQ (s0 c)).2.2.1).symm))),rfl⟩,⟨rfl,rfl,rfl⟩,trivial⟩ rfl,rfl,trivial,by show (6:Nat)<7;decide⟩
 ·have hG:(s1 c).rob=[]:=hq;refine cSR<|rV (vB true) rfl<|rE 24<|aE ?_;refine aU rfl (λ _=>?_) (λ h=>by cases h);refine aZ<|aE<|bI<|cSR<|nW (.clo 53 [] []) rfl rfl (⟨by decide,by decide⟩)<|oR 1 rfl<|rE 26<|cRg<|oR 1 rfl<|eE (args:=[.ptr 7 0]) (d:=26) _ rfl rfl rfl (Gq (NY (s1 c) (nb+1) hk.k1 hG true true ((s1 c).stores.map ptL) ((s1 c).retired.map spL)) 7 _ _ ⟨⟨rfl,rfl,rfl,rfl⟩,trivial⟩) ?_;rintro _ _ ⟨rfl,⟨hz,rfl⟩|⟨_,A,B,kk,rfl|rfl,hl,rfl⟩⟩
  ·refine rE 28<|cRg<|rV (vI 2) rfl<|oR 1 rfl<|rE 30 ?_;refine .mk _ (.refl _) ⟨.e2,λ i=>i,Weak.of_lists _ wT ⟨⟨rfl,rfl,rfl⟩,⟨rfl,(yE (c:=s2 c) rfl rfl (congrArg (λ z:List Pt=>AV.sl 2 (z.map ptL) true) (show (s1 c).stores=(s2 c).stores from ((eU (s1 c)).1).symm)) (congrArg (λ z:List Sp=>AV.sl 9 (z.map spL) true) (show (s1 c).retired=(s2 c).retired from ((eU (s1 c)).2).symm))),rfl⟩,trivial⟩ rfl,rfl,hz,by show (5:Nat)<6;decide⟩
  ·refine rE 28<|cRg<|rV (vI 2) rfl<|oR 1 rfl<|rE 30 ?_;refine .mk _ (.refl _) ⟨(.o2 A B kk),λ i=>match i with|22=>27|i=>i,Weak.of_lists _ wT ⟨⟨rfl,rfl,rfl⟩,⟨rfl,(yE (c:=s2 c) rfl rfl (congrArg (λ z:List Pt=>AV.sl 2 (z.map ptL) true) (show (s1 c).stores=(s2 c).stores from ((eU (s1 c)).1).symm)) (congrArg (λ z:List Sp=>AV.sl 9 (z.map spL) true) (show (s1 c).retired=(s2 c).retired from ((eU (s1 c)).2).symm))),rfl⟩,⟨rfl,rfl,rfl⟩,trivial⟩ rfl,rfl,hl,by show (5:Nat)<6;decide⟩
  ·refine rE 28<|cRg<|rV (vI 2) rfl<|oR 1 rfl<|rE 30 ?_;refine .mk _ (.refl _) ⟨(.o2 A B kk),λ i=>match i with|22=>27|i=>i,Weak.of_lists _ wT ⟨⟨rfl,rfl,rfl⟩,⟨rfl,(yE (c:=s2 c) rfl rfl (congrArg (λ z:List Pt=>AV.sl 2 (z.map ptL) true) (show (s1 c).stores=(s2 c).stores from ((eU (s1 c)).1).symm)) (congrArg (λ z:List Sp=>AV.sl 9 (z.map spL) true) (show (s1 c).retired=(s2 c).retired from ((eU (s1 c)).2).symm))),rfl⟩,⟨rfl,rfl,rfl⟩,trivial⟩ rfl,rfl,hl,by show (5:Nat)<6;decide⟩
 ·refine cSR<|rV (vB true) rfl<|rE 24<|aE ?_;refine aU rfl (λ _=>?_) (λ h=>by cases h);refine aZ<|aE<|bI<|cSR<|nW (.clo 53 [] []) rfl rfl (⟨by decide,by decide⟩)<|oR 1 rfl<|rE 26<|cRg<|oR 1 rfl<|eE (args:=[.ptr 7 0]) (d:=26) _ rfl rfl rfl (Gr (NU (s1 c) (nb+1) hk.k1 [] [] 0 c.rob.length false rfl (iQ (s0 c)).2.2.2 (by have:=hm.rob;simpa using this) (λ x h=>by cases h) (λ x h=>by cases h) true true ((s1 c).stores.map ptL) ((s1 c).retired.map spL)) 7 22 _ _ ⟨⟨rfl,rfl,rfl,rfl⟩,⟨rfl,rfl,rfl,rfl⟩,trivial⟩ (by decide)) ?_;rintro _ _ ⟨rfl,⟨hz,rfl⟩|⟨_,A,B,kk,rfl|rfl,hl,rfl⟩⟩
  ·refine rE 28<|cRg<|rV (vI 2) rfl<|oR 1 rfl<|rE 30 ?_;refine .mk _ (.refl _) ⟨.e2,λ i=>i,Weak.of_lists _ wT ⟨⟨rfl,rfl,rfl⟩,⟨rfl,(yE (c:=s2 c) rfl rfl (congrArg (λ z:List Pt=>AV.sl 2 (z.map ptL) true) (show (s1 c).stores=(s2 c).stores from ((eU (s1 c)).1).symm)) (congrArg (λ z:List Sp=>AV.sl 9 (z.map spL) true) (show (s1 c).retired=(s2 c).retired from ((eU (s1 c)).2).symm))),rfl⟩,trivial⟩ rfl,rfl,hz,by show (5:Nat)<6;decide⟩
  ·refine rE 28<|cRg<|rV (vI 2) rfl<|oR 1 rfl<|rE 30 ?_;refine .mk _ (.refl _) ⟨(.o2 A B kk),λ i=>i,Weak.of_lists _ wT ⟨⟨rfl,rfl,rfl⟩,⟨rfl,(yE (c:=s2 c) rfl rfl (congrArg (λ z:List Pt=>AV.sl 2 (z.map ptL) true) (show (s1 c).stores=(s2 c).stores from ((eU (s1 c)).1).symm)) (congrArg (λ z:List Sp=>AV.sl 9 (z.map spL) true) (show (s1 c).retired=(s2 c).retired from ((eU (s1 c)).2).symm))),rfl⟩,⟨rfl,rfl,rfl⟩,trivial⟩ rfl,rfl,hl,by show (5:Nat)<6;decide⟩
  ·refine rE 28<|cRg<|rV (vI 2) rfl<|oR 1 rfl<|rE 30 ?_;refine .mk _ (.refl _) ⟨(.o2 A B kk),λ i=>match i with|22=>27|i=>i,Weak.of_lists _ wT ⟨⟨rfl,rfl,rfl⟩,⟨rfl,(yE (c:=s2 c) rfl rfl (congrArg (λ z:List Pt=>AV.sl 2 (z.map ptL) true) (show (s1 c).stores=(s2 c).stores from ((eU (s1 c)).1).symm)) (congrArg (λ z:List Sp=>AV.sl 9 (z.map spL) true) (show (s1 c).retired=(s2 c).retired from ((eU (s1 c)).2).symm))),rfl⟩,⟨rfl,rfl,rfl⟩,trivial⟩ rfl,rfl,hl,by show (5:Nat)<6;decide⟩
 ·have hG:(s2 c).rob=[]:=hq;refine cSR<|rV (vB true) rfl<|rE 24<|aE ?_;refine aU rfl (λ _=>?_) (λ h=>by cases h);refine aZ<|aE<|bI<|cSR<|nW (.clo 54 [] []) rfl rfl (⟨by decide,by decide⟩)<|oR 1 rfl<|rE 26<|cRg<|oR 1 rfl<|eE (args:=[.ptr 7 0]) (d:=26) _ rfl rfl rfl (Gq (Ii (s2 c) (nb+1) hk.k2 hG) 7 _ _ ⟨⟨rfl,rfl,rfl,rfl⟩,trivial⟩) ?_;rintro _ _ ⟨rfl,⟨hz,rfl⟩|⟨_,A,B,kk,rfl|rfl,hl,rfl⟩⟩
  ·refine rE 28<|cRg<|rV (vI 3) rfl<|oR 1 rfl<|rE 30 ?_;refine .mk _ (.refl _) ⟨.e3,λ i=>i,Weak.of_lists _ wT ⟨⟨rfl,rfl,rfl⟩,⟨rfl,(yE (c:=s3 c) rfl rfl rfl rfl),rfl⟩,trivial⟩ rfl,rfl,hz,by show (4:Nat)<5;decide⟩
  ·refine rE 28<|cRg<|rV (vI 3) rfl<|oR 1 rfl<|rE 30 ?_;refine .mk _ (.refl _) ⟨(.o3 A B kk),λ i=>match i with|22=>27|i=>i,Weak.of_lists _ wT ⟨⟨rfl,rfl,rfl⟩,⟨rfl,(yE (c:=s3 c) rfl rfl rfl rfl),rfl⟩,⟨rfl,rfl,rfl⟩,trivial⟩ rfl,rfl,hl,by show (4:Nat)<5;decide⟩
  ·refine rE 28<|cRg<|rV (vI 3) rfl<|oR 1 rfl<|rE 30 ?_;refine .mk _ (.refl _) ⟨(.o3 A B kk),λ i=>match i with|22=>27|i=>i,Weak.of_lists _ wT ⟨⟨rfl,rfl,rfl⟩,⟨rfl,(yE (c:=s3 c) rfl rfl rfl rfl),rfl⟩,⟨rfl,rfl,rfl⟩,trivial⟩ rfl,rfl,hl,by show (4:Nat)<5;decide⟩
 ·have hG:A.length+(s2 c).rob.length+B.length≤1000:=hq;refine cSR<|rV (vB true) rfl<|rE 24<|aE ?_;refine aU rfl (λ _=>?_) (λ h=>by cases h);refine aZ<|aE<|bI<|cSR<|nW (.clo 54 [] []) rfl rfl (⟨by decide,by decide⟩)<|oR 1 rfl<|rE 26<|cRg<|oR 1 rfl<|eE (args:=[.ptr 7 0]) (d:=26) _ rfl rfl rfl (Gr (KT (s2 c) (nb+1) hk.k2 omT A B A.length (s2 c).rob.length kk rfl rfl hG) 7 22 _ _ ⟨⟨rfl,rfl,rfl,rfl⟩,⟨rfl,rfl,rfl,rfl⟩,trivial⟩ (by decide)) ?_;rintro _ _ ⟨rfl,⟨hz,rfl⟩|⟨_,A,B,kk,rfl|rfl,hl,rfl⟩⟩
  ·refine rE 28<|cRg<|rV (vI 3) rfl<|oR 1 rfl<|rE 30 ?_;refine .mk _ (.refl _) ⟨.e3,λ i=>i,Weak.of_lists _ wT ⟨⟨rfl,rfl,rfl⟩,⟨rfl,(yE (c:=s3 c) rfl rfl rfl rfl),rfl⟩,trivial⟩ rfl,rfl,hz,by show (4:Nat)<5;decide⟩
  ·refine rE 28<|cRg<|rV (vI 3) rfl<|oR 1 rfl<|rE 30 ?_;refine .mk _ (.refl _) ⟨(.o3 A B kk),λ i=>i,Weak.of_lists _ wT ⟨⟨rfl,rfl,rfl⟩,⟨rfl,(yE (c:=s3 c) rfl rfl rfl rfl),rfl⟩,⟨rfl,rfl,rfl⟩,trivial⟩ rfl,rfl,hl,by show (4:Nat)<5;decide⟩
  ·refine rE 28<|cRg<|rV (vI 3) rfl<|oR 1 rfl<|rE 30 ?_;refine .mk _ (.refl _) ⟨(.o3 A B kk),λ i=>match i with|22=>27|i=>i,Weak.of_lists _ wT ⟨⟨rfl,rfl,rfl⟩,⟨rfl,(yE (c:=s3 c) rfl rfl rfl rfl),rfl⟩,⟨rfl,rfl,rfl⟩,trivial⟩ rfl,rfl,hl,by show (4:Nat)<5;decide⟩
 ·have hG:(s3 c).rob=[]:=hq;refine cSR<|rV (vB true) rfl<|rE 24<|aE ?_;refine aU rfl (λ _=>?_) (λ h=>by cases h);refine aZ<|aE<|bI<|cSR<|nW (.clo 55 [] []) rfl rfl (⟨by decide,by decide⟩)<|oR 1 rfl<|rE 26<|cRg<|oR 1 rfl<|eE (args:=[.ptr 7 0]) (d:=26) _ rfl rfl rfl ((KU (s3 c) (nb+5) hk.k3 hG true false false ((s3 c).fetched.map ftL) ((s3 c).retired.map spL)).frameB (λ _=>7) _ _ rfl ⟨⟨rfl,rfl,rfl,rfl⟩,trivial⟩ rfl rfl rfl rfl) ?_;rintro _ _ ⟨rfl,rfl⟩;refine rE 28<|cRg<|rV (vI 4) rfl<|oR 1 rfl<|rE 30 ?_;refine .mk _ (.refl _) ⟨.s4,λ i=>i,Weak.of_lists _ wT ⟨⟨rfl,rfl,rfl⟩,⟨rfl,(yE (c:=s4 c) (congrArg (λ z:List Ent=>AV.sl 17 (z.map enL) false) (Gp hG (fV hk.k3 omT).1)) (congrArg (λ z:List Ft=>AV.sl 2 (z.map ftL) true) (show (s3 c).fetched=(s4 c).fetched from ((fV hk.k3 omT).2.2.1).symm)) rfl (congrArg (λ z:List Sp=>AV.sl 9 (z.map spL) false) (show (s3 c).retired=(s4 c).retired from ((fV hk.k3 omT).2.2.2).symm))),rfl⟩,trivial⟩ rfl,rfl,trivial,by show (3:Nat)<4;decide⟩
 ·have hG:A.length+(s3 c).rob.length+B.length≤1000:=hq;refine cSR<|rV (vB true) rfl<|rE 24<|aE ?_;refine aU rfl (λ _=>?_) (λ h=>by cases h);refine aZ<|aE<|bI<|cSR<|nW (.clo 55 [] []) rfl rfl (⟨by decide,by decide⟩)<|oR 1 rfl<|rE 26<|cRg<|oR 1 rfl<|eE (args:=[.ptr 7 0]) (d:=26) _ rfl rfl rfl ((Oc (s3 c) (nb+5) hk.k3 omT A B A.length (s3 c).rob.length kk true false false ((s3 c).fetched.map ftL) ((s3 c).retired.map spL) rfl rfl hG).frameB2 (λ z=>match z with|0=>7|_=>22) _ _ rfl ⟨⟨rfl,rfl,rfl,rfl⟩,⟨rfl,rfl,rfl,rfl⟩,trivial⟩ rfl rfl rfl rfl rfl) ?_;rintro _ _ ⟨rfl,rfl⟩;refine rE 28<|cRg<|rV (vI 4) rfl<|oR 1 rfl<|rE 30 ?_;refine .mk _ (.step (some (22,17,(A++(s4 c).rob++B).map enL)) (Ghost.of_lists (l:=[(2,.ptr 1 0),(9,vB (!(fK c))),(3,.ptr 7 0),(21,.agg [.clo 52 [] [],.clo 53 [] [],.clo 54 [] [],.clo 55 [] [],.clo 56 [] [],.clo 57 [] [],.clo 58 [] []]),(22,vI 4)]) (hp:=[(1,.box zCo),(7,.box (mcX (s4 c) (.sl 17 ((((A++(s4 c).rob++B).drop A.length).take (s3 c).rob.length).map enL) false) (.sl 2 ((s3 c).fetched.map ftL) true) (.sl 2 ((s4 c).stores.map ptL) false) (.sl 9 ((s3 c).retired.map spL) false)))]) rfl rfT ⟨⟨rfl,_,rfl,.refl _⟩,⟨rfl,_,rfl,LeB.boxL (nN (CV (by simp only[aY];have:=(fV hk.k3 omT).1;show A.length+(s3 c).rob.length≤A.length+(fJ (s3 c)).rob.length+B.length;omega)) (.refl _) (.refl _) (.refl _))⟩,trivial⟩) (.refl _)) ⟨.s4,λ i=>i,Weak.of_lists _ wT ⟨⟨rfl,rfl,rfl⟩,⟨rfl,(yE (c:=s4 c) (congrArg (λ z:List Ent=>AV.sl 17 (z.map enL) false) (JR rfl (fV hk.k3 omT).1)) (congrArg (λ z:List Ft=>AV.sl 2 (z.map ftL) true) (show (s3 c).fetched=(s4 c).fetched from ((fV hk.k3 omT).2.2.1).symm)) rfl (congrArg (λ z:List Sp=>AV.sl 9 (z.map spL) false) (show (s3 c).retired=(s4 c).retired from ((fV hk.k3 omT).2.2.2).symm))),rfl⟩,trivial⟩ rfl,rfl,trivial,by show (3:Nat)<4;decide⟩
 ·refine cSR<|rV (vB true) rfl<|rE 24<|aE ?_;refine aU rfl (λ _=>?_) (λ h=>by cases h);refine aZ<|aE<|bI<|cSR<|nW (.clo 56 [] []) rfl rfl (⟨by decide,by decide⟩)<|oR 1 rfl<|rE 26<|cRg<|oR 1 rfl<|eE (args:=[.ptr 7 0]) (d:=26) _ rfl rfl rfl ((Og (s4 c) (nb+7) hk.k4 false ((s4 c).stores.map ptL) false ((s4 c).retired.map spL)).frameB (λ _=>7) _ _ rfl ⟨⟨rfl,rfl,rfl,rfl⟩,trivial⟩ rfl rfl rfl rfl) ?_;rintro _ _ ⟨rfl,rfl⟩;refine rE 28<|cRg<|rV (vI 5) rfl<|oR 1 rfl<|rE 30 ?_;refine .mk _ (.refl _) ⟨.s5,λ i=>i,Weak.of_lists _ wT ⟨⟨rfl,rfl,rfl⟩,⟨rfl,(yE (c:=s5 c) rfl rfl (congrArg (λ z:List Pt=>AV.sl 2 (z.map ptL) false) (show (s4 c).stores=(s5 c).stores from ((tD hk.k4).2.1).symm)) (congrArg (λ z:List Sp=>AV.sl 9 (z.map spL) false) (show (s4 c).retired=(s5 c).retired from ((tD hk.k4).2.2).symm))),rfl⟩,trivial⟩ rfl,rfl,trivial,by show (2:Nat)<3;decide⟩
 ·refine cSR<|rV (vB true) rfl<|rE 24<|aE ?_;refine aU rfl (λ _=>?_) (λ h=>by cases h);refine aZ<|aE<|bI<|cSR<|nW (.clo 57 [] []) rfl rfl (⟨by decide,by decide⟩)<|oR 1 rfl<|rE 26<|cRg<|oR 1 rfl<|eE (args:=[.ptr 7 0]) (d:=26) _ rfl rfl rfl ((KX (s5 c) (nb+7) hk.k5 false ((s5 c).rob.map enL) false ((s5 c).stores.map ptL) false ((s5 c).retired.map spL)).frameB (λ _=>7) _ _ rfl ⟨⟨rfl,rfl,rfl,rfl⟩,trivial⟩ rfl rfl rfl rfl) ?_;rintro _ _ ⟨rfl,rfl⟩;refine rE 28<|cRg<|rV (vI 6) rfl<|oR 1 rfl<|rE 30 ?_;refine .mk _ (.refl _) ⟨.s6,λ i=>i,Weak.of_lists _ wT ⟨⟨rfl,rfl,rfl⟩,⟨rfl,(yE (c:=s6 c) (congrArg (λ z:List Ent=>AV.sl 17 (z.map enL) false) (show (s5 c).rob=(s6 c).rob from ((mX hk.k5 omT).2.2.2).symm)) rfl (congrArg (λ z:List Pt=>AV.sl 2 (z.map ptL) false) (show (s5 c).stores=(s6 c).stores from ((mX hk.k5 omT).2.1).symm)) (congrArg (λ z:List Sp=>AV.sl 9 (z.map spL) false) (show (s5 c).retired=(s6 c).retired from ((mX hk.k5 omT).2.2.1).symm))),rfl⟩,trivial⟩ rfl,rfl,trivial,by show (1:Nat)<2;decide⟩
 ·refine cSR<|rV (vB true) rfl<|rE 24<|aE ?_;refine aU rfl (λ _=>?_) (λ h=>by cases h);refine aZ<|aE<|bI<|cSR<|nW (.clo 58 [] []) rfl rfl (⟨by decide,by decide⟩)<|oR 1 rfl<|rE 26<|cRg<|oR 1 rfl<|eE (args:=[.ptr 7 0]) (d:=26) _ rfl rfl rfl ((Ok (s6 c) (nb+8) hk.k6 omT false ((s6 c).rob.map enL) false ((s6 c).fetched.map ftL) false ((s6 c).retired.map spL)).frameB (λ _=>7) _ _ rfl ⟨⟨rfl,rfl,rfl,rfl⟩,trivial⟩ rfl rfl rfl rfl) ?_;rintro _ _ ⟨rfl,rfl⟩;refine rE 28<|cRg<|rV (vI 7) rfl<|oR 1 rfl<|rE 30 ?_;refine .mk _ (.refl _) ⟨.s7,λ i=>i,Weak.of_lists _ wT ⟨⟨rfl,rfl,rfl⟩,⟨rfl,(yE (c:=s7 c) (congrArg (λ z:List Ent=>AV.sl 17 (z.map enL) false) (show (s6 c).rob=(s7 c).rob from ((oN hk.k6 omT).2.2.2).symm)) (congrArg (λ z:List Ft=>AV.sl 2 (z.map ftL) false) (show (s6 c).fetched=(s7 c).fetched from ((oN hk.k6 omT).2.1).symm)) rfl (congrArg (λ z:List Sp=>AV.sl 9 (z.map spL) false) (show (s6 c).retired=(s7 c).retired from ((oN hk.k6 omT).2.2.1).symm))),rfl⟩,trivial⟩ rfl,rfl,trivial,by show (0:Nat)<1;decide⟩
 ·refine cSR<|rV (vB false) rfl<|rE 24<|aE ?_;refine aU rfl (λ h=>by cases h) (λ _=>?_);refine eA<|cSR<|oR 2 rfl<|rSx 1 (mcX (s7 c) (.sl 17 ((s7 c).rob.map enL) false) (.sl 2 ((s7 c).fetched.map ftL) false) (.sl 2 ((s7 c).stores.map ptL) false) (.sl 9 ((s7 c).retired.map spL) false)) rfl rfl rfl<|rE 27<|cT ?_;rw[show dP c=s7 c from if_pos hr];exact eW rfl tvT rfl rfl
theorem Vp(c:Co)(nb:Nat)(hok:c.ok nb)(hb:nb+20≤890000)(hr:fK c=false):bY C0 25 [.agg (coL c)] (.agg (coL (dP c))):=by
 refine dc1 (bY.intro c1Ok Tryz.func25 rfl rfl (by kernel_rfl) rfl ?_);refine cSR<|rAl 0 rfl rfl<|rAl 1 rfl rfl<|rE 2<|aE<|cSR<|oR 1 rfl<|rCi rfl (Bi c nb hok omT)<|oR 1 rfl<|rE 5 ?_;refine aU rfl (λ _=>?_) (λ h1=>by exact absurd (dB (qU h1)) (by rw[hr];decide));refine cSR<|oR 1 rfl<|rSx 1 (coL c) rfl rfl rfl<|rE 7<|cT ?_;rw[show dP c=c from if_neg (by rw[hr];decide)];exact eW rfl tvT rfl rfl
theorem NV(c:Co)(nb:Nat)(hok:c.ok nb)(hb:nb+20≤890000):bY C0 25 [.agg (coL c)] (.agg (coL (dP c))):=by
 cases hr:fK c with
 |false=>exact Vp c nb hok hb hr
 |true=>
  by_cases h0:c.rob=[]
  ·exact Vn c nb hok hb hr h0
  ·exact Vo c nb hok hb hr h0
def EA(n:Int):Nat:=(min n 2000).toNat
theorem Vl(a b:Int):(if b<a then b else a)=min a b:=by split<;>omega
theorem KQ(a b:Int):(BT a b).ok:=by
 unfold BT;refine⟨?_,λ s hs=>?_⟩
 ·have h:(if aV a 1 4=3 then 2 else aV a 1 4).toNat≤4:=by unfold aV;(repeat' split)<;>omega
  show (List.replicate _ _).length≤_;rw[cU];omega
 ·rw[iM hs];exact⟨aF _,λ x hx=>by cases hx⟩
theorem QT:VQ.ok:=by
 refine⟨by decide,by decide,by decide,?_,?_⟩
 ·intro x hx;have:x=⟨0,0⟩:=iM (n:=8) hx;subst this;exact⟨aF _,aF _⟩
 ·intro x hx;cases hx
theorem Gn(c:Cf)(prog:List Nat)(m:ByteArray)(hc:c.ok)(hp:∀ x∈prog,x≤4294967295):(vE c prog m).ok 0:=by
 have hm:(qQ m).size≤256:=by
  rw[xY];unfold upS;repeat' split
  all_goals omega
 have hl:(prog.take (min prog.length 64)).length≤9223372036854775807:=by rw[aQ];omega
 refine⟨⟨aL (OG c) (by decide),aL (Mu c) (by decide),GB hc.tp⟩,hl,sW (P:=λ x=>x≤4294967295) hp,λ _=>aF _,aF _,aF _,(λ x hx=>by cases hx),aF _,(λ x hx=>by cases hx),aF _,(λ x hx=>by cases hx),KQ _ _,KQ _ _,aF _,(λ x hx=>by cases hx),(by show (0:Int)≤9223372036854775807;decide),(by show (0:Int)≤9223372036854775807;decide),?_,QT,aF _,(λ x hx=>by cases hx)⟩;show (qQ m).size≤1000000;omega
theorem vM{c:Co}{n:Nat}(h:c.ok n):∀ k,n+10 * k+20≤890000→(dJ c k).ok (n+10 * k)
 |0,_=>h
 |k+1,hb=>by
  have ih:=Ic (vM h k omT) omT;rw[show n+10 * (k+1)=n+10 * k+10 by omega];exact ih
theorem Xs(c:Cf)(prog:List Nat)(m:ByteArray)(n:Int)(hc:c.ok)(hp:∀ x∈prog,x≤4294967295)(hl:prog.length≤1000):bY C0 28 [.agg (cfL c false false),.sl 1 (prog.map eJ) false,.v (.string m),vI n] (.agg (coL (dJ (vE c prog m) (EA n)))):=by
 refine dc1 (bY.intro c1Ok Tryz.func28 rfl rfl (by kernel_rfl) rfl ?_);have hX:=Gn c prog m hc hp;refine cSR<|rAl 0 rfl rfl<|rAl 1 rfl rfl<|rE 2<|cSR<|oR 3 rfl<|rCi rfl (SF c prog m hc omT)<|rAl 6 rfl rfl<|rSx 6 (coL (vE c prog m)) rfl rfl rfl<|rE 8<|aE<|cSR<|oR 1 rfl ?_;refine rW (vI (min n 2000)) rfl (okI (Vl n 2000))<|oR 1 rfl<|rE 11<|bI<|kZ (κ:=Nat) (λ k=>⟨cI [(8,.ptr 1 0),(9,.ptr 6 0),(15,vI (min n 2000)),(16,vN k)],heapF [(0,.box [vI c.mode,vI c.width,vI c.rob,vI c.queue,vI c.stores,vI c.slots,vI c.sets,vI c.ways,.sl 1 (c.lat.map fD) false,vB c.tables,.sl 1 (c.tape.map eJ) false]),(1,.box zCo),(6,.box (coL (dJ (vE c prog m) k)))],11⟩) (λ k=>k≤EA n) (λ k=>EA n - k) 0 (λ s=>s) (Weak.of_lists (λ s=>s) wT wH rfl) (aF _) ?_;intro k hk;have hkn:k≤EA n:=hk;have hkB:k≤2000:=by have:EA n≤2000:=(by unfold EA;omega);omega
 have hN:EA n=(min n 2000).toNat:=rfl;refine cSR<|rV (vB (decide ((k:Int)<(min n 2000)))) rfl<|rE 12<|aE ?_;refine aU rfl (λ h1=>?_) (λ h1=>?_)
 ·have h1p:=of_decide_eq_true h1;refine aZ<|aE<|bI<|cRg<|oR 1 rfl<|rCi rfl (NV (dJ (vE c prog m) k) (0+10 * k) (vM hX k omT) omT)<|rSx 6 (coL (dP (dJ (vE c prog m) k))) rfl rfl rfl<|rE 15<|cRg ?_;have b1:k+1≤2001:=aH hkB (aC 1);refine rW (vN (k+1)) rfl (okI (bS b1 rfl))<|oR 1 rfl<|rE 17 ?_;refine⟨k+1,λ s=>s,Weak.of_lists _ wT wH rfl,by omega,by show EA n - (k+1)<EA n - k;omega⟩
 ·have h1p:=aD h1;refine eA<|cSR<|oR 1 rfl<|rSx 1 (coL (dJ (vE c prog m) k)) rfl rfl rfl<|rE 14<|cT ?_;have hk2:k=EA n:=by omega
  rw[show dJ (vE c prog m) (EA n)=dJ (vE c prog m) k from by rw[hk2]];exact eW rfl tvT rfl rfl
open Go.RowKit Go.ChangeShapes Go.WideShapes Go.ChangeAt Go.Deep
theorem RX{n:Int}(h:(Lit.int .u32 n).wf=true):∃ m:Nat,n=m∧m≤4294967295:=by
 simp only[Lit.wf,IntKind.min,IntKind.max,IntKind.signed,IntKind.bits,aK,bC]at h;simp at h;exact⟨n.toNat,by omega,by omega⟩
theorem mI{cs:List AV}(h:TyV Tryz.prog 3 cs):∃ n:Int,cs=[.v (.int .i64 n)]∧True:=by
 have hu:=Tryz.underlying3
 cases h with
 |int h n hn=>rw[hu]at h;injection h with h;injection h with h;subst h;exact⟨n,rfl,trivial⟩
 |bool h=>rw[hu]at h;cases h
 |string h=>rw[hu]at h;cases h
 |slice h=>rw[hu]at h;cases h
 |struct h=>rw[hu]at h;cases h
 |array h=>rw[hu]at h;cases h
theorem pX{cs:List AV}(h:TyV Tryz.prog 26 cs):∃ n:Nat,cs=[.v (.int .u32 (n:Int))]∧n≤4294967295:=by
 have hu:=Tryz.underlying26
 cases h with
 |int h n hn=>
  rw[hu]at h;injection h with h;injection h with h;subst h;obtain⟨m,rfl,hm⟩:=RX hn
  exact⟨m,rfl,hm⟩
 |bool h=>rw[hu]at h;cases h
 |string h=>rw[hu]at h;cases h
 |slice h=>rw[hu]at h;cases h
 |struct h=>rw[hu]at h;cases h
 |array h=>rw[hu]at h;cases h
theorem Cd{cs:List AV}(h:TyV Tryz.prog 4 cs):∃ b:Bool,cs=[.v (.bool b)]∧True:=by
 have hu:=Tryz.underlying4
 cases h with
 |bool h b=>exact⟨b,rfl,trivial⟩
 |int h=>rw[hu]at h;cases h
 |string h=>rw[hu]at h;cases h
 |slice h=>rw[hu]at h;cases h
 |struct h=>rw[hu]at h;cases h
 |array h=>rw[hu]at h;cases h
theorem PQ{α:Type}{f:α→List AV}{p:α→Prop}:∀ (rows:List (List AV)),(∀ row∈rows,∃ x,row=f x∧p x)→∃ l:List α,rows=l.map f∧l.length=rows.length∧∀ x∈l,p x
 |[],_=>⟨[],rfl,rfl,λ x h=>by cases h⟩
 |row::rows,h=>by
  obtain⟨x,rfl,hx⟩:=h row (bO);obtain⟨l,rfl,hl,hp⟩:=PQ rows λ r hr=>h r (bZ _ hr);exact⟨x::l,rfl,by simp,λ y hy=>by rcases al_List_mem_cons.1 hy with rfl|hy;exact hx;exact hp y hy⟩
theorem sY{α:Type}{t e:TypeId}{k:Nat}{f:α→List AV}{p:α→Prop}(hu:Tryz.prog.underlying t=some (.slice e))(hk:Tryz.prog.cellsOf e=k)(hrow:∀ row,TyV Tryz.prog e row→∃ x,row=f x∧p x){cs:List AV}(h:TyV Tryz.prog t cs):
  ∃ l:List α,cs=[.sl k (l.map f) false]∧l.length≤9223372036854775807∧∀ x∈l,p x:=by
 cases h with
 |slice h rows hl hr hrs=>
  rw[hu]at h;injection h with h;injection h with h;subst h;subst hk;obtain⟨l,rfl,h1,h2⟩:=PQ rows λ row hrow'=>hrow row (hr row hrow')
  exact⟨l,rfl,aL (Nat.le_of_eq h1) (aL hl (by decide)),h2⟩
 |int h=>rw[hu]at h;cases h
 |bool h=>rw[hu]at h;cases h
 |string h=>rw[hu]at h;cases h
 |struct h=>rw[hu]at h;cases h
 |array h=>rw[hu]at h;cases h
theorem UE(row:List AV)(h:TyV Tryz.prog 26 row):∃ n:Nat,row=eJ n∧n≤4294967295:=pX h
theorem UF(row:List AV)(h:TyV Tryz.prog 3 row):∃ n:Int,row=fD n∧True:=mI h
theorem Hg{cs:List AV}(h:TyV Tryz.prog 23 cs):∃ l:List Nat,cs=[.sl 1 (l.map eJ) false]∧l.length≤9223372036854775807∧∀ x∈l,(λ n:Nat=>n≤4294967295) x:=
 sY (f:=eJ) (p:=(λ n:Nat=>n≤4294967295)) Tryz.underlying23 (by kernel_rfl) (λ row hr=>UE _ hr) h
theorem UG{cs:List AV}(h:TyV Tryz.prog 22 cs):∃ l:List Int,cs=[.sl 1 (l.map fD) false]∧l.length≤9223372036854775807∧∀ x∈l,(λ (_:Int)=>True) x:=
 sY (f:=fD) (p:=(λ (_:Int)=>True)) Tryz.underlying22 (by kernel_rfl) (λ row hr=>UF _ hr) h
theorem PR{cs:List AV}(h:TyV Tryz.prog 25 cs):∃ x:Cf,cs=cfL x false false∧x.okW:=by
 have hu:=Tryz.underlying25
 cases h with
 |bool h=>rw[hu]at h;cases h
 |int h=>rw[hu]at h;cases h
 |string h=>rw[hu]at h;cases h
 |slice h=>rw[hu]at h;cases h
 |array h=>rw[hu]at h;cases h
 |struct h parts hp=>
  rw[hu]at h;injection h with h;injection h with h;subst h;obtain⟨x0,e0,p0⟩:=mI (hp 0 _ rfl);obtain⟨x1,e1,p1⟩:=mI (hp 1 _ rfl);obtain⟨x2,e2,p2⟩:=mI (hp 2 _ rfl);obtain⟨x3,e3,p3⟩:=mI (hp 3 _ rfl);obtain⟨x4,e4,p4⟩:=mI (hp 4 _ rfl);obtain⟨x5,e5,p5⟩:=mI (hp 5 _ rfl);obtain⟨x6,e6,p6⟩:=mI (hp 6 _ rfl);obtain⟨x7,e7,p7⟩:=mI (hp 7 _ rfl);obtain⟨x8,e8,p8⟩:=UG (hp 8 _ rfl);obtain⟨x9,e9,p9⟩:=Cd (hp 9 _ rfl);obtain⟨x10,e10,p10⟩:=Hg (hp 10 _ rfl);refine⟨⟨x0,x1,x2,x3,x4,x5,x6,x7,x8,x9,x10⟩,?_,⟨p8.1,p10.1,p10.2⟩⟩;show parts 0++(parts 1++(parts 2++(parts 3++(parts 4++(parts 5++(parts 6++(parts 7++(parts 8++(parts 9++(parts 10++[]))))))))))=_;rw[e0,e1,e2,e3,e4,e5,e6,e7,e8,e9,e10];rfl
structure Co.okA(c:Co):Prop where
 conf:c.conf.okW
 prog:c.prog.length≤9223372036854775807
 progo:∀ x∈c.prog,x≤4294967295
 r:∀ k,c.r k≤4294967295
 fetch:c.fetch≤4294967295
 fet:c.fetched.length≤9223372036854775807
 feto:∀ x∈c.fetched,x.ok
 rob:c.rob.length≤9223372036854775807
 robo:∀ x∈c.rob,x.ok
 sto:c.stores.length≤9223372036854775807
 stoo:∀ x∈c.stores,x.ok
 data:c.data.ok
 words:c.words.ok
 bus:c.bus.length≤9223372036854775807
 buso:∀ x∈c.bus,x.ok
 asked:c.asked≤9223372036854775807
 guessed:c.guessed≤9223372036854775807
 mem:c.mem.size≤9223372036854775807
 guess:c.guess.ok
 ret:c.retired.length≤9223372036854775807
 reto:∀ x∈c.retired,x.ok
theorem Jb{H:Type}{enc:TypeId×Value→H}{w:World}{base:Nat}{spare:Nat→Bool}{held:Bool}{r:Reach}{b0:Nat}{v:Value}{d:DataW H}{p:List MemPlace}
  (hv:Value.okWide Tryz.prog w r b0 25 v) (h:DataW.Trod enc Tryz.prog w base spare held 25 v d p):
  ∃ c:Cf,Rep (· <w.heap.size) w noB (.agg (cfL c false false)) v∧c.okW:=by
 obtain⟨cs,rfl,hsz⟩:=okWide_struct Tryz.underlying25 hv;obtain⟨fuel,hf⟩:=h;obtain⟨cells,ho⟩:=sL 6 fuel _ _ _ hf (by kernel_rfl);obtain⟨c,rfl,hc⟩:=PR ho.ty;refine⟨c,.agg _ cs ?_ (λ i u hu=>ho.one u ?_) (λ i a u h1 h2=>ho.rep.2 i a u h1 ?_),hc⟩
 ·exact ho.rep.1
 ·exact Hj.2 (fZ hu)
 ·show cs.toList[i]?=some u;rw[bJ];exact h2
theorem Jc{H:Type}{enc:TypeId×Value→H}{w:World}{base:Nat}{spare:Nat→Bool}{held:Bool}{r:Reach}{b0:Nat}{v:Value}{d:DataW H}{p:List MemPlace}
  (hv:Value.okWide Tryz.prog w r b0 23 v) (h:DataW.Trod enc Tryz.prog w base spare held 23 v d p):
  ∃ l:List Nat,(∀ x∈l,x≤4294967295)∧l.length≤9223372036854775807∧Rep (· <w.heap.size) w noB (.sl 1 (l.map eJ) false) v:=by
 obtain⟨a0,len,cap,rfl⟩:=okWide_slice Tryz.underlying23 hv;obtain⟨fuel,hf⟩:=h;obtain⟨cs,ho⟩:=sL 3 fuel _ _ _ hf (by kernel_rfl);obtain⟨l,rfl,h1,h2⟩:=Hg ho.ty;exact⟨l,h2,h1,ho.rep.2 0 _ _ rfl rfl⟩
theorem PT{w:World}(h:Ds w):0<w.heap.size:=by
 have:=h 0 (by decide);unfold World.cell? at this
 cases hq:w.heap[0]? with
 |none=>simp[hq]at this
 |some o=>exact (CI.1 hq).1
theorem bY.law{f:FuncId}{args:List AV}{vs:List Value}{w:World}(h:bY C0 f args (.v (.bool true)))(hC:Ds w)(ha:RepL (· <w.heap.size) w noB args vs):
  Calls Tryz.prog f vs.toArray w λ e w'=>e=.returned (.bool true)∧Below w.heap.size w w':=
 (h.2 (· <w.heap.size) w vs (λ _ h=>h) (XM hC (PT hC)) ha).mono λ e w' ⟨v,h1,h2,h3⟩=>⟨by rw[h1,kW h3],h2⟩
open Go.RowKit Go.ChangeShapes Go.WideShapes
theorem LR{P:Program}{w:World}{r:Reach}{base:Nat}{t:TypeId}{v:Value}(ht:P.underlying t=some .string)(h:Value.okWide P w r base t v):∃ s,v=.string s∧s.size<9223372036854775808:=by
 obtain⟨s,rfl⟩:=okWide_string ht h;refine⟨s,rfl,?_⟩;have h2:IntKind.i64.max=9223372036854775807:=rfl;have h3:(s.size:Int)≤IntKind.i64.max:=by simpa [Value.okWide,Cell.okWide,Cell.ok,ht]using h
 omega
def QS:Cf:=⟨0,0,0,0,0,0,0,0,[],false,[]⟩
theorem Vk:(dJ (vE QS [1048691] mH) (EA 20)).halt=7∧(dJ (vE QS [1048691] mH) (EA 20)).retired.length=1:=by
 decide+kernel
theorem Ss(prog:List Nat)(m:ByteArray)(hl:prog.length≤9223372036854775807)(hm:m.size≤9223372036854775807):bY C0 24 [.sl 1 (prog.map eJ) false,.v (.string m)] (.tup [.sl 1 ((prog.take (min prog.length 64)).map eJ) false,.v (.string (m.extract 0 (min m.size 300)))]):=by
 refine dc1 (bY.intro c1Ok Tryz.func24 rfl rfl (by kernel_rfl) rfl ?_);refine cSR<|oR 2 rfl<|rE 2<|cSR<|oR 2 rfl<|rW (vN prog.length) rfl (bQ eJ prog)<|rW (vN (min prog.length 64)) rfl (Bp prog.length 64) ?_;refine nW (.sl 1 ((prog.take (min prog.length 64)).map eJ) false) rfl (vX (tT eJ prog (min prog.length 64))) slT ?_;refine oR 2 rfl<|rV (vN m.size) rfl<|rW (vN (min m.size 300)) rfl (Bp m.size 300) ?_;refine nW (.v (.string (m.extract 0 (min m.size 300)))) rfl rfl (by refine⟨?_,?_,?_⟩<;>(first|exact aI _|decide|(apply Eo.2;exact omT))) ?_;refine oR 2 rfl<|rE 14<|cT ?_;exact fT rfl rfl
theorem bY.of_sub{C:Ctx}{f:FuncId}{xs ys:List AV}{r:AV}(h:bY C f xs r)(k:VJ ys xs):bY C f ys r:=by
 obtain⟨k1,k2⟩:=k.get;refine⟨h.1,λ S w vs hS hG hr=>h.2 S w vs hS hG ⟨k1 ▸ hr.1,λ i a v ha hv=>?_⟩⟩;have hi:i<ys.length:=by rw[k1];exact (Db.1 ha).1
 exact k2 i _ a (aA hi) ha _ _ _ (hr.2 i _ v (aA hi) hv)
theorem Vj:bY C0 28 [.agg [vI 0,vI 0,vI 0,vI 0,vI 0,vI 0,vI 0,vI 0,.sl 0 [] true,vB false,.sl 0 [] true],.sl 1 [[vU 1048691]] true,.v (.string mH),vI 20] (.agg (coL (dJ (vE QS [1048691] mH) (EA 20)))):=
 (Xs QS [1048691] mH 20 ⟨aF _,aF _,λ x hx=>by cases hx⟩ (λ x hx=>by rw[tM.1 hx];decide) (by decide)).of_sub ⟨Sub.agg ⟨Sub.refl _,Sub.refl _,Sub.refl _,Sub.refl _,Sub.refl _,Sub.refl _,Sub.refl _,Sub.refl _,uP 1 false,Sub.refl _,uP 1 false,trivial⟩,Sub.clip _ _ _,Sub.refl _,Sub.refl _,trivial⟩
theorem Ib:bY C0 17 [] (vB true):=by
 refine dc1 (bY.intro c1Ok Tryz.func17 rfl rfl (by kernel_rfl) rfl ?_);have hnb:(200:Nat)≤890000:=by decide
 refine cSR<|oR 1 rfl<|rE 1<|cSR<|rV (.agg [vI 0,vI 0,vI 0,vI 0,vI 0,vI 0,vI 0,vI 0,.sl 0 ([]) true,vB false,.sl 0 ([]) true]) rfl<|rV (.sl 1 ([[.v (.int .u32 1048691)]]) true) rfl<|rCi rfl (Vj)<|rAl 4 rfl rfl<|rSx 4 (coL (dJ (vE QS [1048691] mH) (EA 20))) rfl rfl rfl<|rE 6<|cSR<|oR 2 rfl<|rV (vB (((dJ (vE QS [1048691] mH) (EA 20)).halt)==7)) rfl ?_;refine oR 1 rfl<|gN rfl<|gS rfl id<|gBS (x:=vN (((dJ (vE QS [1048691] mH) (EA 20)).retired).length)) rfl id (bQ spL ((dJ (vE QS [1048691] mH) (EA 20)).retired))<|gBS (x:=vB ((((dJ (vE QS [1048691] mH) (EA 20)).retired).length)==1)) rfl id (okB (eqN _ _))<|cH rfl rfl rfl (λ h=>h)<|oR 1 rfl<|rE 16<|cT ?_;exact fT rfl (cY (by simp[c2a,Vk.1,Vk.2]))
structure Kp(c d:Co):Prop where
 cycle:d.cycle=c.cycle
 ret:c.retired.length≤d.retired.length
 mem:d.mem.size=c.mem.size
theorem Kp.refl(c:Co):Kp c c:=⟨rfl,aC _,rfl⟩
theorem Kp.trans{a b c:Co}(h:Kp a b)(k:Kp b c):Kp a c:=⟨k.cycle.trans h.cycle,aL h.ret k.ret,k.mem.trans h.mem⟩
theorem QP(c:Co):Kp c (jK c):=by
 rw[iR];split
 ·unfold BR
  repeat' split
  ·exact⟨rfl,aC _,rfl⟩
  ·exact⟨rfl,aC _,rfl⟩
  ·rw[←pY];exact⟨rfl,aC _,rfl⟩
  ·exact⟨rfl,aC _,iA ..⟩
  ·exact⟨rfl,aC _,rfl⟩
 ·exact⟨rfl,aC _,rfl⟩
theorem QQ(c:Co):Kp c (iE c):=by
 unfold iE;split
 ·exact .refl c
 ·split<;>exact⟨rfl,aC _,rfl⟩
theorem NM(d:Co)(e:Ent):Kp d (tF d e):=⟨rfl,(by show d.retired.length≤(d.retired++[aP e]).length;simp),rfl⟩
theorem NN(d:Co)(e:Ent):Kp d (tG d e):=⟨rfl,(by show d.retired.length≤(d.retired++[aP e]).length;simp),rfl⟩
theorem Aw:∀ (n:Nat) (c:Co),Kp c (dV n c)
 |0,c=>.refl c
 | n +1,c=>by
  by_cases h0:c.halt≠0∨c.rob.length=0
  ·rw[jJ h0];exact .refl c
  ·have hx:c.rob[0]?=some (c.rob[0]'omT):=aA omT;rw[eV omT (λ q=>h0 (.inl q)) hx];split
   ·exact .refl c
   ·split
    ·exact⟨rfl,(by show c.retired.length≤(c.retired++[_]).length;simp),rfl⟩
    ·split
     ·exact .refl c
     ·rw[iC];by_cases hk:kindOf (c.rob[0]'omT).i.op=3
      ·rw[rB hk];exact (NN c _).trans (Aw n _)
      ·rw[rA hk];exact (NM c _).trans (Aw n _)
theorem Tt(c:Co)(i:Nat):Kp c (lZ c i):=by
 unfold lZ
 cases c.rob[i]? with
 |none=>exact .refl c
 |some e=>
  dsimp only
  repeat' split
  all_goals exact⟨rfl,aC _,rfl⟩
theorem QR(c:Co)(i:Nat):Kp c (gF c i):=by
 unfold gF
 cases c.rob[i]? with
 |none=>exact .refl c
 | some e=>
  dsimp only;split
  ·exact⟨rfl,aC _,rfl⟩
  ·split
   ·exact Kp.trans (b:=setE c i (vY e c.mem.size (lE c.rob c.r i).1)) ⟨rfl,aC _,rfl⟩ (Tt _ i)
   ·exact⟨rfl,aC _,rfl⟩
theorem Ia:∀ (p:List Nat) (c:Co),Kp c (p.foldl gF c)
 |[],c=>.refl c
 |i::p,c=>(QR c i).trans (Ia p _)
theorem NO(c:Co):Kp c (fJ c):=by
 unfold fJ;split
 ·exact .refl c
 ·exact Ia _ c
theorem Fe:∀ (n:Nat) (c:Co),Kp c (jL n c)
 |0,c=>.refl c
 | n+1,c=>by
  by_cases h0:(c.rob.length:Int)≥c.conf.rob∨c.fetched.length=0
  ·rw[tH h0];exact .refl c
  ·have hx:c.fetched[0]?=some (c.fetched[0]'omT):=aA omT;have e:=wM (n:=n+1) (k:=0) omT (λ q=>h0 (.inl q)) hx;rw[show n+1 - (0+1)=n by omega,show n+1 - 0=n+1 by omega]at e;rw[←e];have h1:Kp c (Fl c (c.fetched[0]'omT)):=⟨rfl,aC _,rfl⟩;exact h1.trans (Fe n _)
theorem NP(c:Co):Kp c (iY c):=by
 unfold iY;split
 ·exact .refl c
 ·exact Fe _ c
theorem NQ(c:Co):Kp c (wN c):=by
 have h:Kp (gP c) (cN (gP c) (fetchW c.prog c.fetch)).1:=by
  unfold cN;split
  ·exact .refl _
  ·split<;>exact⟨rfl,aC _,rfl⟩
 exact⟨h.cycle,h.ret,h.mem⟩
theorem Dw:∀ (n:Nat) (c:Co),Kp c (eB n c)
 |0,c=>.refl c
 | n +1,c=>by
  by_cases h0:c.stop=true∨(c.fetched.length:Int)≥c.conf.queue
  ·rw[rC h0];exact .refl c
  ·by_cases hf:(fetchP c.prog c.fetch).isSome=false
   ·rw[tI omT h0 hf];exact⟨rfl,aC _,rfl⟩
   ·by_cases hw:(bE c.words (lineOf c.fetch)).2.isSome=false
    ·rw[oP omT h0 hf hw];split
     ·exact⟨rfl,aC _,rfl⟩
     ·exact .refl c
    ·have e:=uN (n:=n+1) (k:=0) omT h0 hf hw;rw[show n+1 - (0+1)=n by omega,show n+1 - 0=n+1 by omega]at e;rw[←e];exact (NQ c).trans (Dw n _)
theorem Ml(c:Co):Kp c (dW c):=by
 unfold dW;split
 ·exact .refl c
 ·exact Dw _ c
theorem JM(c:Co):Kp c (oG c):=by
 unfold oG;split
 ·exact .refl c
 ·split
  ·exact⟨rfl,aC _,rfl⟩
  ·exact .refl c
theorem Ff(c:Co):Kp c (kP c):=by
 unfold kP;split
 ·exact .refl c
 ·unfold mQ;split
  ·split
   ·exact⟨rfl,aC _,rfl⟩
   ·exact .refl c
  ·exact .refl c
theorem NR(c:Co):Kp c (pZ c):=by
 have h1:Kp c (aW c):=⟨rfl,aC _,rfl⟩;rw[jW];split
 ·exact (h1.trans (JM _)).trans (Ff _)
 ·exact h1.trans (Ff _)
theorem Tu(c:Co):Kp (s0 c) (TW c):=
 ((((((QP (s0 c)).trans (QQ _)).trans (Aw _ _)).trans (NO _)).trans (NP _)).trans (Ml _)).trans (NR _)
theorem NS{c:Co}(h:fK c=true):(dP c).cycle=wrap64 (c.cycle+1)∧c.retired.length≤(dP c).retired.length∧(dP c).mem.size=c.mem.size:=by
 have k:=Tu c;unfold dP;rw[if_pos h];exact⟨k.cycle,k.ret,k.mem⟩
theorem XU{x:Int}(h1: -9223372036854775808≤x)(h2:x<9223372036854775808):wrap64 x=x:=by unfold wrap64;omega
theorem Yq(q:List Req)(k:Int)(line:Nat)(left:Int)(data:ByteArray):kE (wB q k line left data)=kE q+if k=4 then 0 else 1:=by
 unfold kE wB;rw[jR,aY];by_cases h:k=4<;>simp[h]
theorem YL(q:List Req):kE (dZ q).1≤kE q:=by
 cases q with
 |nil=>exact aC _
 |cons x r=>
  unfold dZ;dsimp only;split
  ·unfold kE;simp only[List.filter_cons];by_cases h:x.kind=4<;>simp[h]
  ·unfold kE;simp only[List.filter_cons];by_cases h:x.kind=4<;>simp[h]
structure Bd(f:Cf)(a:Nat)(c:Co):Prop where
 conf:c.conf=f
 rob:(c.rob.length:Int)≤f.rob
 fet:(c.fetched.length:Int)≤f.queue
 sto:(c.stores.length:Int)≤f.stores
 rd:(kE c.bus:Int)≤f.slots
 ret:c.retired.length=a
theorem bring_bus(c:Co)(line:Nat):((cJ c line).bus=c.bus∧(cJ c line).asked=c.asked)∨∃ l d,(cJ c line).bus=wB c.bus 4 l (jM c.conf c.asked) d∧(cJ c line).asked=wrap64 (c.asked+1):=by
 unfold cJ;rcases hB:gK c.data c.bus c.mem line (jM c.conf c.asked)with ⟨d,q,asked⟩;show (q=c.bus∧(if asked=true then wrap64 (c.asked+1)else c.asked)=c.asked)∨∃ l d,q=wB c.bus 4 l (jM c.conf c.asked) d∧(if asked=true then wrap64 (c.asked+1)else c.asked)=wrap64 (c.asked+1);unfold gK at hB;split at hB
 ·cases hB;exact .inl ⟨rfl,rfl⟩
 ·split at hB
  ·cases hB;exact .inl ⟨rfl,rfl⟩
  ·split at hB
   split at hB
   ·cases hB;exact .inr ⟨_,_,rfl,rfl⟩
   ·cases hB;exact .inl ⟨rfl,rfl⟩
theorem YI(c:Co)(line:Nat):kE (cJ c line).bus≤kE c.bus:=by
 rcases bring_bus c line with ⟨h, -⟩|⟨l,d,h, -⟩
 ·rw[h];exact aC _
 ·rw[h,Yq,if_pos rfl];exact aC _
theorem YM(c:Co)(line:Nat):(cJ c line).conf=c.conf∧(cJ c line).rob=c.rob∧(cJ c line).fetched=c.fetched∧(cJ c line).stores=c.stores∧(cJ c line).retired=c.retired:=by
 rw[←pY];exact⟨rfl,rfl,rfl,rfl,rfl⟩
theorem Bd.bring{f:Cf}{a:Nat}{c:Co}(h:Bd f a c)(line:Nat):Bd f a (cJ c line):=by
 obtain⟨h1,h2,h3,h4,h5⟩:=YM c line;have:=YI c line;exact⟨h1.trans h.conf,h2 ▸ h.rob,h3 ▸ h.fet,h4 ▸ h.sto,by have:=h.rd;omega,h5 ▸ h.ret⟩
theorem ZN{c:Co}{b:Bool}(h:pW c b=true):(kE c.bus:Int)<c.conf.slots:=by
 unfold pW at h;split at h
 ·exact of_decide_eq_true h
 ·have:=of_decide_eq_true h;omega
theorem Bd.ask{f:Cf}{a:Nat}{c:Co}(h:Bd f a c){k:Int}{b:Bool}(hr:pW c b=true∨k=4)(line:Nat)(data:ByteArray):Bd f a (iF c k line data):=by
 refine⟨h.conf,h.rob,h.fet,h.sto,?_,h.ret⟩;show ((kE (wB c.bus k line _ data):Nat):Int)≤_;rw[Yq];have h1:=h.rd;rcases hr with hr|hr
 ·have:=ZN hr;rw[h.conf]at this;split<;>omega
 ·rw[if_pos hr];omega
theorem Zx{f:Cf}{a:Nat}{c:Co}(h:Bd f a c):Bd f a (jK c):=by
 have hb:Bd f a (iZ c):=⟨h.conf,h.rob,h.fet,h.sto,by have:=YL c.bus;have:=h.rd;show ((kE (dZ c.bus).1:Nat):Int)≤_;omega,h.ret⟩;rw[iR];split
 ·unfold BR
  repeat' split
  ·exact⟨hb.conf,by show ((List.map _ _).length:Int)≤_;rw[aO];exact hb.rob,hb.fet,hb.sto,hb.rd,hb.ret⟩
  ·exact⟨hb.conf,hb.rob,hb.fet,hb.sto,hb.rd,hb.ret⟩
  ·exact hb.bring _
  ·exact⟨hb.conf,hb.rob,hb.fet,hb.sto,hb.rd,hb.ret⟩
  ·exact hb
 ·exact hb
theorem ZO(l:List Ent)(i:Nat):(BP l i).length≤l.length:=by
 unfold BP;split
 ·rename_i e he;have:=(Db.1 he).1;rw[aY,aQ];simp;omega
 ·exact aC _
theorem Zy{f:Cf}{a:Nat}{c:Co}(h:Bd f a c)(hq:0≤f.queue):Bd f a (iE c):=by
 have hl:=lV c;unfold iE;split
 ·exact h
 ·split
  ·rename_i i _;exact⟨h.conf,by have:=ZO (dC c) i;have:=h.rob;show ((BP (dC c) i).length:Int)≤_;omega,hq,h.sto,h.rd,h.ret⟩
  ·exact⟨h.conf,by have:=h.rob;show ((dC c).length:Int)≤_;omega,h.fet,h.sto,h.rd,h.ret⟩
theorem ZC{f:Cf}{a:Nat}{c:Co}(h:Bd f a c)(s:Sp)(hs: ¬ (s.store=true∧(c.stores.length:Int)≥c.conf.stores)):Bd f (a+1) (bK c s):=by
 refine⟨h.conf,h.rob,h.fet,?_,h.rd,by show (c.retired++[s]).length=_;rw[aY,h.ret];rfl⟩;show (((match gE s with|some p=>c.stores++[p]|none=>c.stores).length:Nat):Int)≤_;split
 ·rename_i p hp;have hst:s.store=true:=by
   unfold gE at hp;split at hp
   ·cases hp
   ·rename_i q;cases hb:s.store with
    |true=>rfl
    |false=>exact absurd (.inl hb) q
  have h1: ¬ (c.stores.length:Int)≥c.conf.stores:=λ q=>hs ⟨hst,q⟩;rw[h.conf]at h1;rw[aY];show ((c.stores.length+1:Nat):Int)≤_;omega
 ·exact h.sto
theorem Zc{f:Cf}{a:Nat}{c:Co}(h:Bd f a c)(e:Ent)(hs: ¬ ((aP e).store=true∧(c.stores.length:Int)≥c.conf.stores)):Bd f (a+1) (tF c e):=by
 have k:=ZC h (aP e) hs;exact⟨k.conf,by have:=h.rob;show ((c.rob.drop 1).length:Int)≤_;rw[bA];omega,k.fet,k.sto,k.rd,k.ret⟩
theorem Zd{f:Cf}{a:Nat}{c:Co}(h:Bd f a c)(e:Ent)(hs: ¬ ((aP e).store=true∧(c.stores.length:Int)≥c.conf.stores)):Bd f (a+1) (tG c e):=by
 have k:=(ZC h (aP e) hs).bring (aP e).addr;rw[←pY]at k;exact⟨k.conf,by have:=h.rob;show ((c.rob.drop 1).length:Int)≤_;rw[bA];omega,k.fet,k.sto,k.rd,k.ret⟩
theorem Ya{f:Cf}(h0:0≤f.rob∧0≤f.queue):∀ (n:Nat) (c:Co) (a:Nat),Bd f a c→∃ b,a≤b∧b≤a+n∧Bd f b (dV n c)
 |0,c,a,h=>⟨a,aC _,aC _,h⟩
 | n + 1,c,a,h=>by
  by_cases hz:c.halt≠0∨c.rob.length=0
  ·rw[jJ hz];exact⟨a,aC _,by omega,h⟩
  ·have hx:c.rob[0]?=some (c.rob[0]'omT):=aA omT;rw[eV omT (λ q=>hz (.inl q)) hx];split
   ·exact⟨a,aC _,by omega,h⟩
   ·split
    ·exact⟨a+1,by omega,by omega,⟨h.conf,h0.1,h0.2,h.sto,h.rd,by show (c.retired++[_]).length=_;rw[aY,h.ret];rfl⟩⟩
    ·split
     ·exact⟨a,aC _,by omega,h⟩
     ·rename_i hs;rw[iC];by_cases hk:kindOf (c.rob[0]'omT).i.op=3
      ·rw[rB hk];obtain⟨b,h1,h2,h3⟩:=Ya h0 n _ _ (Zd h _ hs);exact⟨b,by omega,by omega,h3⟩
      ·rw[rA hk];obtain⟨b,h1,h2,h3⟩:=Ya h0 n _ _ (Zc h _ hs);exact⟨b,by omega,by omega,h3⟩
theorem Bd.setE{f:Cf}{a:Nat}{c:Co}(h:Bd f a c)(i:Nat)(e:Ent):Bd f a (setE c i e):=⟨h.conf,by show ((c.rob.set i e).length:Int)≤_;rw[bV];exact h.rob,h.fet,h.sto,h.rd,h.ret⟩
theorem ZP{f:Cf}{a:Nat}{c:Co}(h:Bd f a c)(i:Nat):Bd f a (lZ c i):=by
 unfold lZ
 cases c.rob[i]? with
 |none=>exact h
 |some e=>
  dsimp only
  repeat' split
  all_goals first|exact h|exact h.setE _ _|(rename_i q;exact (h.ask (.inl q.1) _ _).setE _ _)
theorem Zz{f:Cf}{a:Nat}{c:Co}(h:Bd f a c)(i:Nat):Bd f a (gF c i):=by
 unfold gF
 cases c.rob[i]? with
 |none=>exact h
 | some e=>
  dsimp only;split
  ·exact h.setE _ _
  ·split
   ·exact ZP (h.setE _ _) i
   ·exact h.setE _ _
theorem YA{f:Cf}{a:Nat}:∀ (p:List Nat) (c:Co),Bd f a c→Bd f a (p.foldl gF c)
 |[],_,h=>h
 |i::p,_,h=>YA p _ (Zz h i)
theorem Ze{f:Cf}{a:Nat}{c:Co}(h:Bd f a c):Bd f a (fJ c):=by
 unfold fJ;split
 ·exact h
 ·exact YA _ c h
theorem Yr{f:Cf}{a:Nat}:∀ (n:Nat) (c:Co),Bd f a c→Bd f a (jL n c)
 |0,_,h=>h
 | n+1,c,h=>by
  by_cases h0:(c.rob.length:Int)≥c.conf.rob∨c.fetched.length=0
  ·rw[tH h0];exact h
  ·have hx:c.fetched[0]?=some (c.fetched[0]'omT):=aA omT;have e:=wM (n:=n+1) (k:=0) omT (λ q=>h0 (.inl q)) hx;rw[show n+1 - (0+1)=n by omega,show n+1 - 0=n+1 by omega]at e;rw[←e];have hc:=h.conf;refine Yr n _ ⟨h.conf,?_,?_,h.sto,h.rd,h.ret⟩
   ·show ((c.rob++[_]).length:Int)≤_;rw[aY];show ((c.rob.length+1:Nat):Int)≤_;rw[hc]at h0;omega
   ·have:=h.fet;show ((c.fetched.drop 1).length:Int)≤_;rw[bA];omega
theorem Zf{f:Cf}{a:Nat}{c:Co}(h:Bd f a c):Bd f a (iY c):=by
 unfold iY;split
 ·exact h
 ·exact Yr _ c h
theorem Yi{f:Cf}{a:Nat}:∀ (n:Nat) (c:Co),Bd f a c→Bd f a (eB n c)
 |0,_,h=>h
 | n +1,c,h=>by
  by_cases h0:c.stop=true∨(c.fetched.length:Int)≥c.conf.queue
  ·rw[rC h0];exact h
  ·have hl:((c.fetched.length+1:Nat):Int)≤f.queue:=by have:=h.conf;rw[this]at h0;omega
   by_cases hf:(fetchP c.prog c.fetch).isSome=false
   ·rw[tI omT h0 hf];exact⟨h.conf,h.rob,by show ((c.fetched++[_]).length:Int)≤_;rw[aY];exact hl,h.sto,h.rd,h.ret⟩
   ·by_cases hw:(bE c.words (lineOf c.fetch)).2.isSome=false
    ·rw[oP omT h0 hf hw];split
     ·rename_i q;exact h.ask (.inl q.2) _ _
     ·exact h
    ·have e:=uN (n:=n+1) (k:=0) omT h0 hf hw;rw[show n+1 - (0+1)=n by omega,show n+1 - 0=n+1 by omega]at e;rw[←e];refine Yi n _ ?_;have hb:∀ w,(cN (gP c) w).1.conf=c.conf∧(cN (gP c) w).1.rob=c.rob∧(cN (gP c) w).1.fetched=c.fetched∧(cN (gP c) w).1.stores=c.stores∧(cN (gP c) w).1.bus=c.bus∧(cN (gP c) w).1.retired=c.retired:=by
      intro w;unfold cN
      repeat' split
      all_goals exact⟨rfl,rfl,rfl,rfl,rfl,rfl⟩
     obtain⟨b1,b2,b3,b4,b5,b6⟩:=hb (fetchW c.prog c.fetch);refine⟨b1.trans h.conf,?_,?_,?_,?_,?_⟩
     ·show (((cN (gP c) (fetchW c.prog c.fetch)).1.rob.length:Nat):Int)≤_;rw[b2];exact h.rob
     ·show ((((cN (gP c) (fetchW c.prog c.fetch)).1.fetched++[_]).length:Nat):Int)≤_;rw[b3,aY];exact hl
     ·show (((cN (gP c) (fetchW c.prog c.fetch)).1.stores.length:Nat):Int)≤_;rw[b4];exact h.sto
     ·show ((kE (cN (gP c) (fetchW c.prog c.fetch)).1.bus:Nat):Int)≤_;rw[b5];exact h.rd
     ·show (cN (gP c) (fetchW c.prog c.fetch)).1.retired.length=_;rw[b6];exact h.ret
theorem YN{f:Cf}{a:Nat}{c:Co}(h:Bd f a c):Bd f a (dW c):=by
 unfold dW;split
 ·exact h
 ·exact Yi _ c h
theorem Zg{f:Cf}{a:Nat}{c:Co}(h:Bd f a c):Bd f a (pZ c):=by
 have h1:Bd f a (aW c):=by
  refine⟨h.conf,h.rob,h.fet,?_,h.rd,h.ret⟩;have:=h.sto;show (((pV c.stores c.data).1.length:Nat):Int)≤_;unfold pV
  repeat' split
  all_goals first|omega|(rename_i hs _;rw[hs]at this;simp at this⊢;omega)|(rename_i hs;simp[hs]at this⊢;omega)|(simp at this⊢;omega)
 have hA:∀ {d:Co},Bd f a d→Bd f a (oG d):=λ {d} k=>by
  unfold oG;split
  ·exact k
  ·split
   ·rename_i q;exact k.ask (.inl q.2) _ _
   ·exact k
 have hB:∀ {d:Co},Bd f a d→Bd f a (kP d):=λ {d} k=>by
  unfold kP;split
  ·exact k
  ·unfold mQ;split
   ·split
    ·rename_i w _ _;have q:=k.ask (k:=4) (b:=true) (.inr rfl) w.line w.data;exact⟨q.conf,q.rob,q.fet,q.sto,q.rd,q.ret⟩
    ·exact k
   ·exact k
 rw[jW];split
 ·exact hB (hA h1)
 ·exact hB h1
theorem ZQ{f:Cf}(h0:0≤f.rob∧0≤f.queue){c:Co}{a:Nat}(h:Bd f a c):∃ b,a≤b∧b≤a+f.width.toNat∧Bd f b (dP c):=by
 unfold dP;split
 ·have hs:Bd f a (s0 c):=⟨h.conf,h.rob,h.fet,h.sto,h.rd,h.ret⟩;have hw:=Zy (Zx hs) h0.2;obtain⟨b,h1,h2,h3⟩:=Ya h0 (iE (jK (s0 c))).conf.width.toNat _ a hw;rw[hw.conf]at h2;exact⟨b,h1,h2,Zg (YN (Zf (Ze h3)))⟩
 ·exact⟨a,aC _,by omega,h⟩
theorem XR(e:Ent):vZ e=true↔((0≤e.is∧e.is≤3)∧(e.is=1→0<e.left)∧(e.is≠1→e.left=0)∧(e.is=2→kindOf e.i.op=3∧e.known=true)∧(e.halt≠0→e.is=3∨(e.is=1∧kindOf e.i.op=5∧e.halt=3))∧(TU e.i=true∨e.halt=1∨e.halt=2)):=by
 unfold vZ;by_cases h1:e.is<0∨e.is>3
 ·rw[if_pos h1];exact⟨λ h=>(by cases h),λ h=>by omega⟩
 rw[if_neg h1];by_cases h2:(e.is=1∧e.left≤0)∨(e.is≠1∧e.left≠0)
 ·rw[if_pos h2];refine⟨λ h=>(by cases h),λ⟨_,a,b,_⟩=>?_⟩;rcases h2 with ⟨x,y⟩|⟨x,y⟩
  ·have:=a x;omega
  ·exact absurd (b x) y
 rw[if_neg h2];by_cases h3:e.is=2∧(kindOf e.i.op≠3∨e.known=false)
 ·rw[if_pos h3];refine⟨λ h=>(by cases h),λ⟨_,_,_,a,_⟩=>?_⟩;have:=a h3.1;rcases h3.2 with x|x
  ·exact absurd this.1 x
  ·rw[this.2]at x;cases x
 rw[if_neg h3];by_cases h4:e.halt≠0∧e.is≠3∧ ¬ (e.is=1∧kindOf e.i.op=5∧e.halt=3)
 ·rw[if_pos h4];refine⟨λ h=>(by cases h),λ⟨_,_,_,_,a,_⟩=>?_⟩;rcases a h4.1 with x|x
  ·exact absurd x h4.2.1
  ·exact absurd x h4.2.2
 rw[if_neg h4];have q3:e.is=2→kindOf e.i.op=3∧e.known=true:=λ x=>by
  refine⟨Classical.byContradiction λ y=>h3 ⟨x,.inl y⟩,?_⟩
  cases hk:e.known with
  |true=>rfl
  |false=>exact absurd ⟨x,.inr hk⟩ h3
 have q4:e.halt≠0→e.is=3∨(e.is=1∧kindOf e.i.op=5∧e.halt=3):=λ x=>Classical.byContradiction λ y=>h4 ⟨x,λ z=>y (.inl z),λ z=>y (.inr z)⟩;have q2:e.is=1→0<e.left:=λ x=>Classical.byContradiction λ y=>h2 (.inl ⟨x,by omega⟩);have q5:e.is≠1→e.left=0:=λ x=>Classical.byContradiction λ y=>h2 (.inr ⟨x,y⟩);by_cases h5:TU e.i=true
 ·rw[if_pos h5];exact⟨λ _=>⟨by omega,q2,q5,q3,q4,.inl h5⟩,λ _=>rfl⟩
 ·rw[if_neg h5];refine⟨λ h=>⟨by omega,q2,q5,q3,q4,.inr (by simpa using h)⟩,λ⟨_,_,_,_,_,a⟩=>?_⟩;rcases a with a|a
  ·exact absurd a h5
  ·simpa using a
structure EvEnt(M:Int)(e:Ent):Prop where
 st:vZ e=true
 kn:e.known=true→kindOf e.i.op=3∨kindOf e.i.op=4→oU M e.addr (dS e.i.op)=true
 s4:kindOf e.i.op=4→e.is=0∨e.is=3
 k4:kindOf e.i.op=4→e.is=3→e.halt=0→e.known=true
theorem EvEnt.go{M:Int}{e:Ent}(h:EvEnt M e):EvEnt M (goE e):=by
 obtain⟨h1,h2,h3,h4,h5,h6⟩:=(XR e).1 h.st;unfold goE;by_cases hi:e.is≠1
 ·rw[if_pos hi];exact h
 rw[if_neg hi];have hi:e.is=1:=Classical.not_not.1 hi;have n4:kindOf e.i.op≠4:=λ q=>by rcases h.s4 q with x|x<;>omega
 by_cases hl:wrap64 (e.left - 1)≤0
 ·rw[if_pos hl];refine⟨(XR _).2 ⟨by simp,λ q=>absurd q (by simp),λ _=>rfl,λ q=>absurd q (by simp),λ _=>.inl rfl,h6⟩,λ a b=>?_,λ q=>absurd q n4,λ q=>absurd q n4⟩;refine h.kn ?_ b;have a:(if kindOf e.i.op=5∧e.halt=0 then true else e.known)=true:=a;have b:kindOf e.i.op=3∨kindOf e.i.op=4:=b
  rwa [if_neg omT]at a
 ·rw[if_neg hl];refine⟨(XR _).2 ⟨h1,λ _=>by show 0<wrap64 (e.left - 1);omega,λ q=>absurd hi q,h4,h5,h6⟩,h.kn,h.s4,h.k4⟩
theorem Zt{op:Int}{a b:Nat}(hk:kindOf op=2)(ha:a≤4294967295)(hb:b≤4294967295):0<AB op a b:=by
 have ho:42≤op∧op≤45:=by
  unfold kindOf at hk
  (repeat' split at hk)<;>omega
 unfold AB;rw[if_neg omT];split
 ·decide
 ·rename_i q;have h1:lH op b≤lH op a:=by omega
  have h2:=zL op b omT (λ z=>q (.inl z));have:=Pd (lH op b) (lH op a) (rI op b omT) (rI op a omT) h1 omT;omega
theorem EvEnt.start{M:Int}{e:Ent}(h:EvEnt M e){a b:Nat}(ha:a≤4294967295)(hb:b≤4294967295):EvEnt M (qO e a b):=by
 obtain⟨h1,h2,h3,h4,h5,h6⟩:=(XR e).1 h.st;unfold qO;by_cases hi:e.is≠0∨kindOf e.i.op=3∨kindOf e.i.op=4
 ·rw[if_pos hi];exact h
 rw[if_neg hi];have hh:e.halt=0:=Classical.byContradiction λ q=>by rcases h5 q with x|x<;>omega
 have n4:kindOf e.i.op≠4:=λ q=>hi (.inr (.inr q));have n3: ¬ (kindOf e.i.op=3∨kindOf e.i.op=4):=λ q=>hi (.inr q);by_cases k1:kindOf e.i.op=1
 ·rw[if_pos k1];exact⟨(XR _).2 ⟨by simp,λ _=>by simp,λ q=>absurd rfl q,λ q=>absurd q (by simp),λ q=>absurd hh q,h6⟩,λ _ q=>absurd q n3,λ q=>absurd q n4,λ q=>absurd q n4⟩
 rw[if_neg k1];by_cases k2:kindOf e.i.op=2
 ·rw[if_pos k2];exact⟨(XR _).2 ⟨by simp,λ _=>by have:=Zt k2 ha hb;show (0:Int)<((AB e.i.op a b:Nat):Int);omega,λ q=>absurd rfl q,λ q=>absurd q (by simp),λ q=>absurd hh q,h6⟩,λ _ q=>absurd q n3,λ q=>absurd q n4,λ q=>absurd q n4⟩
 rw[if_neg k2];by_cases k5:kindOf e.i.op=5
 ·rw[if_pos k5];split
  ·exact⟨(XR _).2 ⟨by simp,λ _=>by simp,λ q=>absurd rfl q,λ q=>absurd q (by simp),λ q=>absurd hh q,h6⟩,λ _ q=>absurd q n3,λ q=>absurd q n4,λ q=>absurd q n4⟩
  ·refine⟨(XR _).2 ⟨by simp,λ _=>by simp,λ q=>absurd rfl q,λ q=>absurd q (by simp),λ _=>.inr ⟨rfl,k5,rfl⟩,?_⟩,λ _ q=>absurd q n3,λ q=>absurd q n4,λ q=>absurd q n4⟩;rcases h6 with x|x|x
   ·exact .inl x
   ·omega
   ·omega
 ·rw[if_neg k5];exact⟨(XR _).2 ⟨by simp,λ _=>by simp,λ q=>absurd rfl q,λ q=>absurd q (by simp),λ q=>absurd hh q,h6⟩,λ _ q=>absurd q n3,λ q=>absurd q n4,λ q=>absurd q n4⟩
theorem EvEnt.addr{M:Int}{e:Ent}(h:EvEnt M e)(a:Nat):EvEnt M (vY e M a):=by
 obtain⟨h1,h2,h3,h4,h5,h6⟩:=(XR e).1 h.st;unfold vY;by_cases hi:(kindOf e.i.op≠3∧kindOf e.i.op≠4)∨e.is≠0∨e.known=true
 ·rw[if_pos hi];exact h
 rw[if_neg hi];have i0:e.is=0:=Classical.byContradiction λ q=>hi (.inr (.inl q));have hh:e.halt=0:=Classical.byContradiction λ q=>by rcases h5 q with x|x<;>omega
 have hl:e.left=0:=h3 omT;split
 ·rename_i hr;exact⟨(XR _).2 ⟨h1,h2,h3,λ q=>absurd (show e.is=2 from q) omT,h5,h6⟩,λ _ _=>hr,h.s4,λ _ _ _=>rfl⟩
 ·have hk:e.known=false:=by cases hq:e.known with
   |false=>rfl
   |true=>exact absurd (.inr (.inr hq)) hi
  refine⟨(XR _).2 ⟨by simp,λ q=>absurd q (by simp),λ _=>hl,λ q=>absurd q (by simp),λ _=>.inl rfl,?_⟩,λ q=>(by rw[show e.known=true from q]at hk;cases hk),λ _=>.inr rfl,λ _ _ q=>?_⟩
  ·rcases h6 with x|x|x
   ·exact .inl x
   ·omega
   ·omega
  ·have q:(if kindOf e.i.op=4 then (5:Int)else 4)=0:=q;split at q<;>omega
theorem EvEnt.take{M:Int}{e:Ent}(h:EvEnt M e)(s:ByteArray):EvEnt M (tP e s):=by
 obtain⟨h1,h2,h3,h4,h5,h6⟩:=(XR e).1 h.st;unfold tP;by_cases hi:kindOf e.i.op≠3∨e.known=false∨(e.is≠0∧e.is≠2)
 ·rw[if_pos hi];exact h
 rw[if_neg hi];have k3:kindOf e.i.op=3:=Classical.byContradiction λ q=>hi (.inl q);have hh:e.halt=0:=Classical.byContradiction λ q=>by rcases h5 q with x|x<;>omega
 exact⟨(XR _).2 ⟨by simp,λ _=>by simp,λ q=>absurd rfl q,λ q=>absurd q (by simp),λ q=>absurd hh q,h6⟩,h.kn,λ q=>absurd (show kindOf e.i.op=4 from q) omT,λ q=>absurd (show kindOf e.i.op=4 from q) omT⟩
theorem EvEnt.store{M:Int}{e:Ent}(h:EvEnt M e)(b:Nat):EvEnt M (tK e b):=by
 obtain⟨h1,h2,h3,h4,h5,h6⟩:=(XR e).1 h.st;unfold tK;by_cases hi:kindOf e.i.op≠4∨e.known=false∨e.is≠0
 ·rw[if_pos hi];exact h
 rw[if_neg hi];have i0:e.is=0:=Classical.byContradiction λ q=>hi (.inr (.inr q))
 have hk:e.known=true:=by cases hq:e.known with
  |true=>rfl
  |false=>exact absurd (.inr (.inl hq)) hi
 exact⟨(XR _).2 ⟨by simp,λ q=>absurd q (by simp),λ _=>h3 omT,λ q=>absurd q (by simp),λ _=>.inl rfl,h6⟩,h.kn,λ _=>.inr rfl,λ _ _ _=>hk⟩
theorem EvEnt.fill{M:Int}{e:Ent}(h:EvEnt M e)(c:Co)(line:Nat):EvEnt M (vD c line e):=by
 unfold vD;split
 ·exact EvEnt.take (e:={e with filled:=true}) ⟨h.st,h.kn,h.s4,h.k4⟩ _
 ·exact h
theorem EvEnt.wait{M:Int}{e:Ent}(h:EvEnt M e)(h3:kindOf e.i.op=3)(hk:e.known=true)(h0:e.is=0∨e.is=2):EvEnt M {e with is:=2}:=by
 obtain⟨h1,h2,hl,h4,h5,h6⟩:=(XR e).1 h.st;have hh:e.halt=0:=Classical.byContradiction λ q=>by rcases h5 q with x|x<;>omega
 exact⟨(XR _).2 ⟨by simp,λ q=>absurd q (by simp),λ _=>hl omT,λ _=>⟨h3,hk⟩,λ q=>absurd hh q,h6⟩,h.kn,λ q=>absurd (show kindOf e.i.op=4 from q) omT,λ q=>absurd (show kindOf e.i.op=4 from q) omT⟩
theorem aaO(e:Ent):(goE e).no=e.no:=by unfold goE;(repeat' split)<;>rfl
theorem Zu(e:Ent)(a b:Nat):(qO e a b).no=e.no:=by unfold qO;(repeat' split)<;>rfl
theorem Zb(e:Ent)(M:Int)(a:Nat):(vY e M a).no=e.no:=by unfold vY;(repeat' split)<;>rfl
theorem YH(e:Ent)(s:ByteArray):(tP e s).no=e.no:=by unfold tP;split<;>rfl
theorem Zv(e:Ent)(b:Nat):(tK e b).no=e.no:=by unfold tK;split<;>rfl
theorem Zw(c:Co)(line:Nat)(e:Ent):(vD c line e).no=e.no:=by
 unfold vD;split
 ·rw[YH]
 ·rfl
structure RoLst(M nx:Int)(l:List Ent):Prop where
 ev:∀ e∈l,EvEnt M e∧e.no<nx
 up:(l.map (·.no)).Pairwise (· < ·)
theorem RoLst.nil{M nx:Int}:RoLst M nx []:=⟨λ _ h=>(List.not_mem_nil h).elim,.nil⟩
theorem RoLst.map{M nx:Int}{l:List Ent}(h:RoLst M nx l){f:Ent→Ent}(hf:∀ e,EvEnt M e→EvEnt M (f e))(hn:∀ e,(f e).no=e.no):RoLst M nx (l.map f):=by
 refine⟨λ e he=>?_,?_⟩
 ·obtain⟨x,hx,rfl⟩:=rK.1 he;exact⟨hf x (h.ev x hx).1,by rw[hn];exact (h.ev x hx).2⟩
 ·rw[List.map_map,show ((λ e:Ent=>e.no)∘f)=λ e=>e.no from funext hn];exact h.up
theorem RoLst.set{M nx:Int}{l:List Ent}(h:RoLst M nx l){i:Nat}{x e:Ent}(hx:l[i]?=some x)(he:EvEnt M e)(hn:e.no=x.no):RoLst M nx (l.set i e):=by
 refine⟨λ y hy=>?_,?_⟩
 ·rcases List.mem_or_eq_of_mem_set hy with q|rfl
  ·exact h.ev y q
  ·exact⟨he,by rw[hn];exact (h.ev x (aB hx)).2⟩
 ·rw[List.map_set,hn];rw[show (l.map (·.no)).set i x.no=l.map (·.no)from ?_]
  ·exact h.up
  ·refine dQ λ j=>?_;by_cases hj:i=j
   ·subst hj;have hl:=(Db.1 hx).1;rw[bD (by rw[aO];exact hl),bH,hx];rfl
   ·rw[nE hj]
theorem RoLst.sub{M nx:Int}{l k:List Ent}(h:RoLst M nx l)(hs:k.Sublist l):RoLst M nx k:=
 ⟨λ e he=>h.ev e (hs.mem he),h.up.sublist (hs.map _)⟩
theorem RoLst.cut{M nx:Int}{l:List Ent}(h:RoLst M nx l)(i:Nat):RoLst M nx (BP l i):=by
 unfold BP;split
 ·rename_i e he;have hi:=(Db.1 he).1;have hs:(l.take i++[{e with guess:=e.next}])=(l.set i {e with guess:=e.next}).take (i+1):=by
   rw[bX,bD hi,List.take_set_of_le (aC _)];rfl
  rw[hs];have hev:=(h.ev e (aB he)).1;exact (h.set he (e:={e with guess:=e.next}) ⟨hev.st,hev.kn,hev.s4,hev.k4⟩ rfl).sub (List.take_sublist _ _)
 ·exact h
theorem RoLst.push{M nx:Int}{l:List Ent}(h:RoLst M nx l){e:Ent}(he:EvEnt M e)(hn:e.no=nx):RoLst M (nx+1) (l++[e]):=by
 refine⟨λ y hy=>?_,?_⟩
 ·rcases al_List_mem_append.1 hy with q|q
  ·have:=h.ev y q;exact⟨this.1,by omega⟩
  ·rw[tM.1 q];exact⟨he,by omega⟩
 ·rw[fX,List.pairwise_append];refine⟨h.up,List.pairwise_singleton _ _,λ a ha b hb=>?_⟩;obtain⟨y,hy,rfl⟩:=rK.1 ha;have:=(h.ev y hy).2;have hb:b=e.no:=by simpa using hb
  omega
theorem RoLst.right{M nx:Int}{l:List Ent}(h:RoLst M nx l)(h8:l.length≤8):DS l=true:=by
 unfold DS;rw[aK,qI];refine⟨pH h8,λ i hi=>?_⟩;unfold GK;split
 ·rename_i e he;rw[aK];refine⟨?_,(h.ev e (aB he)).1.st⟩
  cases i with
  |zero=>rfl
  |succ i=>
   have hl:=(Db.1 he).1;have hx:l[i]?=some (l[i]'omT):=aA omT;have:=List.pairwise_iff_getElem.1 h.up i (i+1) (by rw[aO];omega) (by rw[aO];omega) omT;rw[List.getElem_map,List.getElem_map]at this;have e2:l[i+1]=e:=(Db.1 he).2;rw[e2]at this;unfold VI;rw[show i+1 - 1=i by omega,hx];simp[this]
 ·rfl
theorem RoLst.stores{M nx:Int}{r:Nat→Nat}{l:List Ent}(h:RoLst M nx l):∀ k,RoLst M nx (cK r l k)
 |0=>h
 | k+1=>by
  have ih:=RoLst.stores (r:=r) h k;show RoLst M nx (storeAt r (cK r l k) k);unfold storeAt;split
  ·rename_i e he;split
   ·split
    ·exact ih.set he ((ih.ev e (aB he)).1.store _) (Zv _ _)
    ·exact ih
   ·exact ih
  ·exact ih
theorem XS(c:Ca)(k:Nat)(s:List Wy):(oH c k s).sets.length=c.sets.length∧(oH c k s).ways=c.ways:=⟨bV,rfl⟩
theorem Yg(c:Ca)(line:Nat):(sK c line).sets.length=c.sets.length∧(sK c line).ways=c.ways:=by
 unfold sK;split
 ·exact XS _ _ _
 ·exact⟨rfl,rfl⟩
theorem Yy(c:Ca)(line:Nat)(d:ByteArray)(b:Bool):(qF c line d b).1.sets.length=c.sets.length∧(qF c line d b).1.ways=c.ways:=by
 unfold qF;split
 ·split
  ·exact XS _ _ _
  ·split<;>exact XS _ _ _
 ·exact⟨rfl,rfl⟩
theorem YD(c:Ca)(a:Nat)(b:ByteArray):(wC c a b).1.sets.length=c.sets.length∧(wC c a b).1.ways=c.ways:=by
 unfold wC;split
 ·split
  ·split
   ·exact⟨rfl,rfl⟩
   ·exact XS _ _ _
  ·exact⟨rfl,rfl⟩
 ·exact⟨rfl,rfl⟩
theorem YE(c:Ca)(line:Nat):(uR c line).sets.length=c.sets.length∧(uR c line).ways=c.ways:=by
 unfold uR;split
 ·exact XS _ _ _
 ·exact⟨rfl,rfl⟩
theorem YF(c:Co)(line:Nat):(cJ c line).data.sets.length=c.data.sets.length∧(cJ c line).data.ways=c.data.ways:=by
 have hp:=Yy c.data (lineOf line) (EG (jO c.bus c.mem) (lineOf line)) false;unfold cJ;rcases hB:gK c.data c.bus c.mem line (jM c.conf c.asked)with ⟨d,q,asked⟩;show d.sets.length=_∧d.ways=_;unfold gK at hB;split at hB
 ·cases hB;exact⟨rfl,rfl⟩
 ·split at hB
  ·cases hB;exact Yg _ _
  ·split at hB
   rename_i hq;rw[hq]at hp;split at hB<;>(cases hB;exact hp)
structure RcCor(q:Int)(c:Co):Prop where
 ro:RoLst c.mem.size c.next c.rob
 lo:0≤c.next
 nx:c.next≤q
 da:(c.data.sets.length:Int)=c.conf.sets∧c.data.ways=c.conf.ways
 wo:(c.words.sets.length:Int)=c.conf.sets∧c.words.ways=c.conf.ways
 sp:∀ p∈c.stores,oU c.mem.size p.addr p.data.size=true
 pg:c.prog.length≤64
theorem YV(c:Co)(line:Nat):(cJ c line).mem=c.mem∧(cJ c line).next=c.next∧(cJ c line).rob=c.rob∧(cJ c line).conf=c.conf∧(cJ c line).words=c.words∧(cJ c line).stores=c.stores∧(cJ c line).prog=c.prog:=by
 rw[←pY];exact⟨rfl,rfl,rfl,rfl,rfl,rfl,rfl⟩
theorem RcCor.bring{q:Int}{c:Co}(h:RcCor q c)(line:Nat):RcCor q (cJ c line):=by
 obtain⟨h1,h2,h3,h4,h5,h6,h7⟩:=YV c line;have hs:=YF c line;exact⟨by rw[h1,h2,h3];exact h.ro,by rw[h2];exact h.lo,by rw[h2];exact h.nx,by rw[hs.1,hs.2,h4];exact h.da,by rw[h5,h4];exact h.wo,by rw[h6,h1];exact h.sp,by rw[h7];exact h.pg⟩
theorem RcCor.rob{q:Int}{c d:Co}(h:RcCor q c)(hr:RoLst c.mem.size c.next d.rob)(h1:d.mem=c.mem)(h2:d.next=c.next)(h3:d.data=c.data)(h4:d.words=c.words)(h5:d.conf=c.conf)(h6:d.stores=c.stores)(h7:d.prog=c.prog):RcCor q d:=
 ⟨by rw[h1,h2];exact hr,by rw[h2];exact h.lo,by rw[h2];exact h.nx,by rw[h3,h5];exact h.da,by rw[h4,h5];exact h.wo,by rw[h6,h1];exact h.sp,by rw[h7];exact h.pg⟩
theorem Zp{q:Int}{c:Co}(h:RcCor q c):RcCor q (jK c):=by
 have hb:RcCor q (iZ c):=⟨h.ro,h.lo,h.nx,h.da,h.wo,h.sp,h.pg⟩;rw[iR];split
 ·unfold BR
  repeat' split
  ·exact hb.rob (hb.ro.map (λ e he=>he.fill _ _) (λ e=>Zw _ _ e)) rfl rfl rfl rfl rfl rfl rfl
  ·have:=Yy (iZ c).words (dZ c.bus).2.1.line mH false;exact⟨hb.ro,hb.lo,hb.nx,hb.da,by show ((qF _ _ _ _).1.sets.length:Int)=_∧(qF _ _ _ _).1.ways=_;rw[this.1,this.2];exact hb.wo,hb.sp,hb.pg⟩
  ·exact hb.bring _
  ·have e:(qV (iZ c).mem [⟨(dZ c.bus).2.1.line,(dZ c.bus).2.1.data⟩]).size=(iZ c).mem.size:=iA ..;exact⟨by show RoLst ((qV _ _).size:Int) _ _;rw[e];exact hb.ro,hb.lo,hb.nx,hb.da,hb.wo,by show ∀ p∈_,oU ((qV _ _).size:Int) _ _=true;rw[e];exact hb.sp,hb.pg⟩
  ·exact hb
 ·exact hb
theorem Zq{q:Int}{c:Co}(h:RcCor q c):RcCor q (iE c):=by
 have hw:RoLst c.mem.size c.next (dC c):=RoLst.stores (h.ro.map (λ e he=>he.go) aaO) _;unfold iE;split
 ·exact h
 ·split
  ·rename_i i _;exact h.rob (hw.cut i) rfl rfl rfl rfl rfl rfl rfl
  ·exact h.rob hw rfl rfl rfl rfl rfl rfl rfl
theorem YW(x n:Nat)(h:n=1∨n=2∨n=4):(rP x n).size=n:=by
 rcases h with rfl|rfl|rfl<;>rfl
theorem ZB{q:Int}{c:Co}(h:RcCor q c){e:Ent}(he:e∈c.rob)(h3:e.is=3):RcCor q (bK c (aP e)):=by
 refine⟨h.ro,h.lo,h.nx,h.da,h.wo,?_,h.pg⟩;show ∀ p∈(match gE (aP e)with|some p=>c.stores++[p]|none=>c.stores),_;split
 ·rename_i p hp;intro y hy;rcases al_List_mem_append.1 hy with r|r
  ·exact h.sp y r
  ·rw [tM.1 r];have hev:=(h.ro.ev e he).1;unfold gE at hp;split at hp
   ·cases hp
   ·rename_i hn;have hz:(aP e).store=true:=by
     cases hb:(aP e).store with
     |true=>rfl
     |false=>exact absurd (.inl hb) hn
    have hk:e.halt=0∧kindOf e.i.op=4:=by
     unfold aP at hz;by_cases q1:e.halt≠0
     ·rw[if_pos q1]at hz;exact absurd (show false=true from hz) (by simp)
     ·by_cases q2:kindOf e.i.op=4
      ·exact⟨Classical.not_not.1 q1,q2⟩
      ·rw[if_neg q1,if_neg q2]at hz
       repeat' split at hz
       all_goals exact absurd (show false=true from hz) (by simp)
    have ht:aP e=⟨e.pc,up4 e.pc,wr e.i,e.value,e.addr,(dS e.i.op:Nat),true,0,0⟩:=by
     unfold aP;rw[if_neg (λ z=>z hk.1),if_pos hk.2]
    rw[ht]at hp hn;injection hp with hp;have hr:=hev.kn (hev.k4 hk.2 h3 hk.1) (.inr hk.2);have hsz:dS e.i.op=1∨dS e.i.op=2∨dS e.i.op=4:=by
     have hn: ¬ (((dS e.i.op:Nat):Int)≠1∧((dS e.i.op:Nat):Int)≠2∧((dS e.i.op:Nat):Int)≠4):=λ z=>hn (.inr (.inr z));omega
    have hb:p.data.size=dS e.i.op:=by rw[←hp];exact YW _ _ hsz
    rw[show p.addr=e.addr by rw[←hp],hb];exact hr
 ·exact h.sp
theorem YX{q:Int}{c:Co}(h:RcCor q c){e:Ent}(he:e∈c.rob)(h3:e.is=3):RcCor q (tF c e):=by
 have k:=ZB h he h3;exact⟨k.ro.sub (List.drop_sublist _ _),k.lo,k.nx,k.da,k.wo,k.sp,k.pg⟩
theorem YY{q:Int}{c:Co}(h:RcCor q c){e:Ent}(he:e∈c.rob)(h3:e.is=3):RcCor q (tG c e):=by
 have k:=(ZB h he h3).bring (aP e).addr;rw[←pY]at k;exact⟨RoLst.sub (l:=c.rob) k.ro (List.drop_sublist _ _),k.lo,k.nx,k.da,k.wo,k.sp,k.pg⟩
theorem XZ{q:Int}:∀ (n:Nat) (c:Co),RcCor q c→RcCor q (dV n c)
 |0,_,h=>h
 | n +1,c,h=>by
  by_cases hz:c.halt≠0∨c.rob.length=0
  ·rw[jJ hz];exact h
  ·have hx:c.rob[0]?=some (c.rob[0]'omT):=aA omT;have hm:=aB hx;rw[eV omT (λ r=>hz (.inl r)) hx];split
   ·exact h
   ·rename_i h3;have h3:=Classical.not_not.1 h3;split
    ·exact⟨RoLst.nil,h.lo,h.nx,h.da,h.wo,h.sp,h.pg⟩
    ·split
     ·exact h
     ·rw[iC];by_cases hk:kindOf (c.rob[0]'omT).i.op=3
      ·rw[rB hk];exact XZ n _ (YY h hm h3)
      ·rw[rA hk];exact XZ n _ (YX h hm h3)
theorem RcCor.setE{q:Int}{c:Co}(h:RcCor q c){i:Nat}{x e:Ent}(hx:c.rob[i]?=some x)(he:EvEnt c.mem.size e)(hn:e.no=x.no):RcCor q (setE c i e):=h.rob (h.ro.set hx he hn) rfl rfl rfl rfl rfl rfl rfl
theorem ZL(e:Ent)(M:Int)(a:Nat)(h0:e.is=0):(vY e M a).known=true→(vY e M a).is=0∨e.known=false∧(vY e M a).is=0:=by
 intro hk;unfold vY at hk⊢;split
 ·exact .inl h0
 ·rename_i h1;rw[if_neg h1]at hk;split
  ·exact .inl h0
  ·rename_i h2;rw[if_neg h2]at hk;exact absurd (show e.known=true from hk) (λ z=>h1 (.inr (.inr z)))
theorem ZM{q:Int}{c:Co}(h:RcCor q c){i:Nat}{x:Ent}(hx:c.rob[i]?=some x)(hk3:kindOf x.i.op=3)(hi:x.known=true→x.is=0):RcCor q (lZ c i):=by
 have hev:=(h.ro.ev x (aB hx)).1;unfold lZ;rw[hx];dsimp only;split
 ·exact h
 ·rename_i hkn
  have hk:x.known=true:=by cases hq:x.known with
   |true=>rfl
   |false=>exact absurd hq hkn
  have hw:=hev.wait hk3 hk (.inl (hi hk))
  repeat' split
  ·exact h.setE hx (hev.take _) (YH _ _)
  ·exact h
  ·exact h.setE hx (hev.take _) (YH _ _)
  ·exact h.setE hx hw rfl
  ·exact RcCor.setE (c:=iF c 1 (lineOf x.addr) mH) ⟨h.ro,h.lo,h.nx,h.da,h.wo,h.sp,h.pg⟩ hx hw rfl
  ·exact h
theorem ZV{l:List Ent}{i:Nat}{x e:Ent}(hx:l[i]?=some x):(l.set i e)[i]?=some e:=bD (Db.1 hx).1
theorem Zr{q:Int}{c:Co}{n:Nat}(hm:c.okM n)(h:RcCor q c){i:Nat}(hi:∀ e,c.rob[i]?=some e→e.is=0):RcCor q (gF c i):=by
 have hb:=Bg hm.ok.robo hm.ok.r i;unfold gF
 cases hx:c.rob[i]? with
 |none=>exact h
 | some e=>
  have hev:=(h.ro.ev e (aB hx)).1;have h0:=hi e hx;dsimp only;split
  ·exact h.setE hx (hev.addr _) (Zb _ _ _)
  ·split
   ·rename_i k3;have hk:kindOf (vY e c.mem.size (lE c.rob c.r i).1).i.op=3:=by
     unfold vY
     (repeat' split)<;>exact k3
    exact ZM (h.setE hx (hev.addr _) (Zb _ _ _)) (ZV hx) hk (λ z=>(ZL e _ _ h0 z).elim id (·.2))
   ·exact h.setE hx (hev.start hb.1 hb.2) (Zu _ _ _)
theorem set_other{l:List Ent}{i j:Nat}{e:Ent}(h:i≠j):(l.set i e)[j]?=l[j]? :=nE h
theorem YK(c:Co){i j:Nat}(h:i≠j):(lZ c i).rob[j]?=c.rob[j]? :=by
 unfold lZ;split
 ·rfl
 ·(try dsimp only)
  repeat' split
  all_goals first|rfl|exact set_other h
theorem YG(c:Co){i j:Nat}(h:i≠j):(gF c i).rob[j]?=c.rob[j]? :=by
 unfold gF;split
 ·rfl
 ·(try dsimp only)
  split
  ·exact set_other h
  ·split
   ·rw[YK _ h];exact set_other h
   ·exact set_other h
theorem Yz{q:Int}:∀ (p:List Nat) (c:Co) (n:Nat),c.okM n→n+p.length≤890000→RcCor q c→p.Pairwise (· < ·)→(∀ i∈p,∀ e,c.rob[i]?=some e→e.is=0)→RcCor q (p.foldl gF c)
 |[],_,_,_,_,h,_,_=>h
 |i::p,c,n,hm,hb,h,hp,hi=>by
  have hl:(i::p).length=p.length+1:=rfl;rw[hl]at hb;obtain⟨h1,h2⟩:=List.pairwise_cons.1 hp;refine Yz p _ (n+1) (xJ hm omT i).1 omT (Zr hm h (hi i (bO ..))) h2 (λ j hj e he=>?_);have:=h1 j hj;rw[YG c omT]at he;exact hi j (bZ _ hj) e he
theorem Yo{width:Int}{busy:Bool}{kinds:List Int}{can:List Bool}:∀ k,(∀ i∈(jP width busy kinds can k).out,i<k∧can.getD i false=true)∧(jP width busy kinds can k).out.Pairwise (· < ·)
 |0=>⟨λ i hi=>(List.not_mem_nil hi).elim,.nil⟩
 | k + 1=>by
  have ih:=Yo (width:=width) (busy:=busy) (kinds:=kinds) (can:=can) k;have keep:(∀ i∈(jP width busy kinds can k).out,i<k+1∧can.getD i false=true)∧(jP width busy kinds can k).out.Pairwise (· < ·):=⟨λ i hi=>⟨by have:=(ih.1 i hi).1;omega,(ih.1 i hi).2⟩,ih.2⟩;show (∀ i∈(GX width kinds (jP width busy kinds can k) k (can.getD k false)).out,_)∧(GX width kinds (jP width busy kinds can k) k (can.getD k false)).out.Pairwise _;unfold GX;split
  ·exact keep
  ·split
   ·exact keep
   ·rename_i hr;split
    ·exact keep
    ·refine⟨λ i hi=>?_,?_⟩
     ·rcases al_List_mem_append.1 hi with r|r
      ·exact keep.1 i r
      ·rw[tM.1 r]
       exact⟨by omega,by cases hc:can.getD k false with
        |true=>rfl
        |false=>exact absurd hc hr⟩
     ·show ((jP width busy kinds can k).out++[k]).Pairwise _;rw[List.pairwise_append];refine⟨ih.2,List.pairwise_singleton _ _,λ a ha b hb=>?_⟩;rw[tM.1 hb];exact (ih.1 a ha).1
theorem ZW{c:Co}{i:Nat}{e:Ent}(h:CD c i=true)(he:c.rob[i]?=some e):e.is=0:=by
 unfold CD at h;rw[he]at h;dsimp only at h;split at h
 ·cases h
 ·rename_i q;exact Classical.not_not.1 q
theorem YZ{q:Int}{c:Co}{n:Nat}(hm:c.okM n)(hb:n+2≤890000)(h:RcCor q c):RcCor q (fJ c):=by
 by_cases hh:c.halt≠0
 ·rw[show fJ c=c from if_pos hh];exact h
 ·have hw:=oQ hm.cf;have hl:=Sy (width:=c.conf.width) (busy:=c.rob.any GM) (kinds:=DV c) (can:=IC c) omT (IC c).length;have hf:=Yo (width:=c.conf.width) (busy:=c.rob.any GM) (kinds:=DV c) (can:=IC c) (IC c).length;rw[show fJ c=(jP c.conf.width (c.rob.any GM) (DV c) (IC c) (IC c).length).out.foldl gF c from if_neg hh];refine Yz _ c n hm omT h hf.2 (λ i hi e he=>?_);have hc:=(hf.1 i hi).2;have hlt:=(Db.1 he).1;refine ZW (i:=i) ?_ he;unfold IC at hc;rw[bP,bH,jB hlt]at hc;exact hc
theorem Zs{M:Int}(no:Int){f:Ft}{prog:List Nat}(hp:∀ x∈prog,x≤4294967295):EvEnt M (pN no f prog)∧(pN no f prog).no=no:=by
 have hx:fetchW prog f.pc<4294967296:=BA (JW hp f.pc);have n4: ¬ kindOf 0=4:=by decide
 unfold pN;split
 ·exact⟨⟨(XR _).2 ⟨by simp,λ q=>absurd q (by simp),λ _=>rfl,λ q=>absurd q (by simp),λ _=>.inl rfl,.inr (.inl rfl)⟩,λ q=>absurd (show false=true from q) (by simp),λ q=>absurd (show kindOf 0=4 from q) n4,λ q=>absurd (show kindOf 0=4 from q) n4⟩,rfl⟩
 ·split
  ·exact⟨⟨(XR _).2 ⟨by simp,λ q=>absurd q (by simp),λ _=>rfl,λ q=>absurd q (by simp),λ _=>.inl rfl,.inr (.inr rfl)⟩,λ q=>absurd (show false=true from q) (by simp),λ q=>absurd (show kindOf 0=4 from q) n4,λ q=>absurd (show kindOf 0=4 from q) n4⟩,rfl⟩
  ·rename_i ho;have hs:TU (fS (fetchW prog f.pc))=true:=(Le _).2 (ZF _ ho hx);split
   ·exact⟨⟨(XR _).2 ⟨by simp,λ q=>absurd q (by simp),λ _=>rfl,λ q=>absurd q (by simp),λ _=>.inl rfl,.inl hs⟩,λ q=>absurd (show false=true from q) (by simp),λ _=>.inr rfl,λ _ _ q=>absurd (show (6:Int)=0 from q) (by simp)⟩,rfl⟩
   ·split
    ·exact⟨⟨(XR _).2 ⟨by simp,λ q=>absurd q (by simp),λ _=>rfl,λ q=>absurd q (by simp),λ _=>.inl rfl,.inl hs⟩,λ q=>absurd (show false=true from q) (by simp),λ _=>.inr rfl,λ _ _ q=>absurd (show (7:Int)=0 from q) (by simp)⟩,rfl⟩
    ·exact⟨⟨(XR _).2 ⟨(show (0:Int)≤0∧(0:Int)≤3 from ⟨by simp,by simp⟩),λ q=>absurd (show (0:Int)=1 from q) (by simp),λ _=>rfl,λ q=>absurd (show (0:Int)=2 from q) (by simp),λ q=>absurd rfl q,.inl hs⟩,λ q=>absurd (show false=true from q) (by simp),λ _=>.inl rfl,λ _ q=>absurd (show (0:Int)=3 from q) (by simp)⟩,rfl⟩
theorem Yp:∀ (n:Nat) (q:Int) (c:Co),(∀ x∈c.prog,x≤4294967295)→q+n≤9000000→RcCor q c→RcCor (q+n) (jL n c)
 |0,q,c,_,_,h=>by rw[show q+((0:Nat):Int)=q by omega];exact h
 | n+1,q,c,hp,hb,h=>by
  by_cases h0:(c.rob.length:Int)≥c.conf.rob∨c.fetched.length=0
  ·rw[tH h0];exact⟨h.ro,h.lo,by have:=h.nx;omega,h.da,h.wo,h.sp,h.pg⟩
  ·have hx:c.fetched[0]?=some (c.fetched[0]'omT):=aA omT;have e:=wM (n:=n+1) (k:=0) omT (λ r=>h0 (.inl r)) hx;rw[show n+1 - (0+1)=n by omega,show n+1 - 0=n+1 by omega]at e;rw[←e,show q+((n+1:Nat):Int)=(q+1)+(n:Nat) by omega];have hw:wrap64 (c.next+1)=c.next+1:=XU (by have:=h.lo;omega) (by have:=h.nx;omega);have he:=Zs (M:=c.mem.size) c.next (f:=c.fetched[0]'omT) hp;refine Yp n (q+1) _ hp omT ⟨?_,?_,?_,h.da,h.wo,h.sp,h.pg⟩
   ·show RoLst c.mem.size (wrap64 (c.next+1)) (c.rob++[_]);rw[hw];exact h.ro.push he.1 he.2
   ·show 0≤wrap64 (c.next+1);rw[hw];have:=h.lo;omega
   ·show wrap64 (c.next+1)≤_;rw[hw];have:=h.nx;omega
theorem Yh{q:Int}:∀ (n:Nat) (c:Co),RcCor q c→RcCor q (eB n c)
 |0,_,h=>h
 | n +1,c,h=>by
  by_cases h0:c.stop=true∨(c.fetched.length:Int)≥c.conf.queue
  ·rw[rC h0];exact h
  ·by_cases hf:(fetchP c.prog c.fetch).isSome=false
   ·rw[tI omT h0 hf];exact⟨h.ro,h.lo,h.nx,h.da,h.wo,h.sp,h.pg⟩
   ·by_cases hw:(bE c.words (lineOf c.fetch)).2.isSome=false
    ·rw[oP omT h0 hf hw];split
     ·exact⟨h.ro,h.lo,h.nx,h.da,h.wo,h.sp,h.pg⟩
     ·exact h
    ·have e:=uN (n:=n+1) (k:=0) omT h0 hf hw;rw[show n+1 - (0+1)=n by omega,show n+1 - 0=n+1 by omega]at e;rw[←e];refine Yh n _ ?_;have ht:=Yg c.words (lineOf c.fetch);have hT:RcCor q (gP c):=⟨h.ro,h.lo,h.nx,h.da,by show ((sK _ _).sets.length:Int)=_∧(sK _ _).ways=_;rw[ht.1,ht.2];exact h.wo,h.sp,h.pg⟩;have hb:∀ w,RcCor q (cN (gP c) w).1:=by
      intro w;unfold cN
      repeat' split
      all_goals exact⟨hT.ro,hT.lo,hT.nx,hT.da,hT.wo,hT.sp,hT.pg⟩
     have k:=hb (fetchW c.prog c.fetch);exact⟨k.ro,k.lo,k.nx,k.da,k.wo,k.sp,k.pg⟩
theorem Za{q:Int}{c:Co}(h:RcCor q c):RcCor q (pZ c):=by
 have h1:RcCor q (aW c):=by
  refine⟨h.ro,h.lo,h.nx,?_,h.wo,?_,h.pg⟩
  ·show ((pV c.stores c.data).2.1.sets.length:Int)=_∧(pV c.stores c.data).2.1.ways=_;unfold pV;split
   ·exact h.da
   ·rename_i p l _;have:=YD c.data p.addr p.data;split
    ·rw[this.1,this.2];exact h.da
    ·exact h.da
  ·show ∀ p∈(pV c.stores c.data).1,_;unfold pV;split
   ·exact h.sp
   ·rename_i p l hs;split
    ·exact λ y hy=>h.sp y (by rw[hs];exact bZ _ hy)
    ·exact h.sp
 have hA:∀ {d:Co},RcCor q d→RcCor q (oG d):=λ {d} k=>by
  unfold oG;split
  ·exact k
  ·split
   ·exact⟨k.ro,k.lo,k.nx,k.da,k.wo,k.sp,k.pg⟩
   ·exact k
 have hB:∀ {d:Co},RcCor q d→RcCor q (kP d):=λ {d} k=>by
  unfold kP;split
  ·exact k
  ·unfold mQ;split
   ·split
    ·rename_i w _ _;have:=YE d.data w.line;exact⟨k.ro,k.lo,k.nx,by show ((uR _ _).sets.length:Int)=_∧(uR _ _).ways=_;rw[this.1,this.2];exact k.da,k.wo,k.sp,k.pg⟩
    ·exact k
   ·exact k
 rw[jW];split
 ·exact hB (hA h1)
 ·exact hB h1
theorem XV(n lo hi:Int)(h:0≤lo∧lo≤hi):0≤aV n lo hi:=by unfold aV;(repeat' split)<;>omega
theorem ZX(c:Cf)(prog:List Nat)(m:ByteArray):Bd (bB c) 0 (vE c prog m):=
 ⟨rfl,XV _ 2 8 (by decide),XV _ 1 4 (by decide),XV _ 1 4 (by decide),XV _ 2 6 (by decide),rfl⟩
theorem Zh(c:Cf):0≤(bB c).rob∧0≤(bB c).queue:=⟨XV _ 2 8 (by decide),XV _ 1 4 (by decide)⟩
theorem aaP{f:Cf}(h0:0≤f.rob∧0≤f.queue){c:Co}(h:Bd f c.retired.length c):Bd f (dP c).retired.length (dP c)∧c.retired.length≤(dP c).retired.length∧(dP c).retired.length≤c.retired.length+f.width.toNat:=by
 obtain⟨b,h1,h2,h3⟩:=ZQ h0 h;have:=h3.ret;subst this;exact⟨h3,h1,h2⟩
def Ek(prog:List Nat):List Nat:=prog.take (min prog.length 64)
def Kv(m:ByteArray):ByteArray:=m.extract 0 (min m.size 300)
def upTo(a:Int)(hi:Nat):Nat:=(min (max a 0) hi).toNat
theorem Kw(a:Int)(hi:Nat):upTo a hi≤hi:=by unfold upTo;omega
theorem Kx(a:Int)(hi:Nat):(if (hi:Int)<max a 0 then (hi:Int)else max a 0)=((upTo a hi:Nat):Int):=by unfold upTo;split<;>omega
theorem PU(a b:Int):(if b>a then b else a)=max a b:=by split<;>omega
theorem RcCor.mono{q r:Int}{c:Co}(h:RcCor q c)(hq:q≤r):RcCor r c:=⟨h.ro,h.lo,by have:=h.nx;omega,h.da,h.wo,h.sp,h.pg⟩
theorem ZK{q:Int}{c:Co}{n:Nat}(hm:c.okM n)(hb:n+20≤890000)(hq:q+2≤9000000)(h:RcCor q c):RcCor (q+2) (TW c):=by
 have hk:=NT hm hb;have h0:RcCor q (s0 c):=⟨h.ro,h.lo,h.nx,h.da,h.wo,h.sp,h.pg⟩;have h3:RcCor q (s3 c):=XZ _ _ (Zq (Zp h0));have h4:RcCor q (s4 c):=YZ hk.k3 omT h3;have h5:RcCor (q+2) (s5 c):=by
  show RcCor (q+2) (iY (s4 c));have hw:=oQ hk.k4.cf;unfold iY;split
  ·exact h4.mono omT
  ·exact (Yp _ q _ hk.k4.ok.progo omT h4).mono omT
 have h6:RcCor (q+2) (s6 c):=by
  show RcCor (q+2) (dW (s5 c));unfold dW;split
  ·exact h5
  ·exact Yh _ _ h5
 exact Za h6
theorem Yf{x:ByteArray}(h:∃ n,x.size=upS n):qQ x=x:=by
 obtain⟨n,hn⟩:=h;have hu:x.size=16∨x.size=32∨x.size=64∨x.size=128∨x.size=256:=by rw[hn];unfold upS;(repeat' split)<;>omega
 unfold qQ;rw[show min x.size 256=x.size by omega,show upS x.size - x.size=0 by rcases hu with e|e|e|e|e<;>rw[e]<;>rfl,List.replicate_zero,eQ,show x.extract 0 x.size=x by simp]
 try (cases x;simp)
theorem YT{f:Cf}{a n:Nat}{q:Int}{c:Co}(hm:c.okM n)(hB:Bd f a c)(h:RcCor q c)(hs:∃ n,c.mem.size=upS n):fK c=true:=by
 have hc:=oQ hm.cf;have b1:=hB.rob;have b2:=hB.fet;have b3:=hB.sto;rw[←hB.conf]at b1 b2 b3;unfold fK;simp only[aK,bC,qI];refine⟨⟨⟨⟨⟨⟨⟨⟨⟨⟨⟨hm.cf,h.pg⟩,?_⟩,h.ro.right omT⟩,b1⟩,λ e he=>(h.ro.ev e he).2⟩,?_⟩,?_⟩,hm.guess⟩,b2⟩,b3⟩,h.sp⟩
 ·rw[Yf hs];simp
 ·unfold zK;simp only[aK,bC];exact⟨⟨hm.data,h.da.1⟩,h.da.2⟩
 ·unfold zK;simp only[aK,bC];exact⟨⟨hm.words,h.wo.1⟩,h.wo.2⟩
structure GdRun(X:Co)(k:Nat):Prop where
 ok:(dJ X k).ok (10 * k)
 bd:Bd X.conf (dJ X k).retired.length (dJ X k)
 rc:RcCor (1+2 * k) (dJ X k)
 ms:∃ n,(dJ X k).mem.size=upS n
 rt:fK (dJ X k)=true
theorem ZU(cf:Cf)(prog:List Nat)(m:ByteArray)(hc:cf.ok)(hp:∀ x∈prog,x≤4294967295)(X:Co)(hX:X=vE cf prog m)(hr:fK X=true):GdRun X 0:=by
 have h0:=Gn cf prog m hc hp;have hm:(vE cf prog m).okM 0:=Dx h0 (by decide) (hX ▸ hr);subst hX;refine⟨h0,ZX cf prog m,⟨RoLst.nil,(show (0:Int)≤1 from by decide),(show (1:Int)≤1+2*((0:Nat):Int)from by decide),?_,?_,λ p hp=>(List.not_mem_nil hp).elim,?_⟩,⟨_,xY m⟩,hr⟩
 ·unfold fK at hr;simp only[aK,bC]at hr;obtain⟨⟨⟨⟨⟨⟨-,h7⟩, -⟩, -⟩, -⟩, -⟩, -⟩:=hr;unfold zK at h7;simp only[aK,bC]at h7;exact⟨h7.1.2,h7.2⟩
 ·unfold fK at hr;simp only[aK,bC]at hr;obtain⟨⟨⟨⟨⟨-,h8⟩, -⟩, -⟩, -⟩, -⟩:=hr;unfold zK at h8;simp only[aK,bC]at h8;exact⟨h8.1.2,h8.2⟩
 ·show (prog.take (min prog.length 64)).length≤64;rw[aQ];omega
theorem GdRun.next{X:Co}{k:Nat}(h:GdRun X k)(hk:k≤3000)(h0:0≤X.conf.rob∧0≤X.conf.queue):GdRun X (k+1):=by
 have hm:=Dx h.ok omT h.rt;have hs:dP (dJ X k)=TW (dJ X k):=if_pos h.rt;have hB:=(aaP h0 h.bd).1;have hR:=ZK hm omT omT h.rc;have hM:∃ n,(dJ X (k+1)).mem.size=upS n:=by
  obtain⟨n,hn⟩:=h.ms;exact⟨n,(NS h.rt).2.2.trans hn⟩
 have hk7:=(NT hm omT).k7;have hR2:RcCor (1+2 * ((k+1:Nat):Int)) (dJ X (k+1)):=by
  show RcCor _ (dP (dJ X k));rw[hs,show 1+2 * ((k+1:Nat):Int)=1+2 * (k:Int)+2 by omega];exact hR
 have hk8:(dJ X (k+1)).okM (10 * k+10):=by show (dP (dJ X k)).okM _;rw[hs];exact hk7
 exact⟨by rw[show 10 * (k+1)=10 * k+10 by omega];exact hk8.ok,hB,hR2,hM,YT hk8 hB hR2 hM⟩
theorem ZA{X:Co}(h:GdRun X 0)(h0:0≤X.conf.rob∧0≤X.conf.queue):∀ k,k≤3000→GdRun X k
 |0,_=>h
 |k+1,hk=>(ZA h h0 k omT).next omT h0
theorem YU(cf:Cf)(prog:List Nat)(m:ByteArray)(h0:(vE cf prog m).ok 0):fK (vE cf prog m)=true:=by
 have hc:∀ n lo hi:Int,lo≤hi→lo≤aV n lo hi∧aV n lo hi≤hi:=λ n lo hi h=>by unfold aV;(repeat' split)<;>omega
 have hcf:uQ (bB cf)=true:=by
  unfold uQ inI bB;have h1:=hc cf.mode 0 2 (by decide);have h2:=hc cf.width 1 2 (by decide);have h3:=hc cf.rob 2 8 (by decide);have h4:=hc cf.queue 1 4 (by decide);have h5:=hc cf.stores 1 4 (by decide);have h6:=hc cf.slots 2 6 (by decide);have h7:=hc cf.sets 1 4 (by decide);have h8:=hc cf.ways 1 2 (by decide);have h9:(1≤(if aV cf.sets 1 4=3 then 2 else aV cf.sets 1 4))∧(if aV cf.sets 1 4=3 then 2 else aV cf.sets 1 4)≤4∧(if aV cf.sets 1 4=3 then 2 else aV cf.sets 1 4)≠3:=by split<;>omega
  simp only[aK,bC,qI,ge_iff_le,ne_eq];refine⟨⟨⟨⟨⟨⟨⟨⟨⟨⟨⟨λ x hx=>?_,h1⟩,h2⟩,h3⟩,h4⟩,h5⟩,h6⟩,⟨h9.1,h9.2.1⟩⟩,h9.2.2⟩,h8⟩,?_⟩,?_⟩
  ·obtain⟨y,_,rfl⟩:=rK.1 hx;exact hc y 1 8 (by decide)
  ·rw[aO,aQ];omega
  ·rw[aQ];omega
 have hcl:=oQ hcf;have hCa:∀ s w:Int,(s=1∨s=2∨s=4)→(w=1∨w=2)→zK (BT s w) { (bB cf)with sets:=s,ways:=w}=true:=by
  intro s w hs hw;rcases hs with rfl|rfl|rfl<;>rcases hw with rfl|rfl<;>rfl
 have hsets:(bB cf).sets=1∨(bB cf).sets=2∨(bB cf).sets=4:=by
  have:=hc cf.sets 1 4 (by decide);show (if aV cf.sets 1 4=3 then 2 else aV cf.sets 1 4)=1∨(if aV cf.sets 1 4=3 then 2 else aV cf.sets 1 4)=2∨(if aV cf.sets 1 4=3 then 2 else aV cf.sets 1 4)=4;split<;>omega
 have hways:(bB cf).ways=1∨(bB cf).ways=2:=by
  have:=hc cf.ways 1 2 (by decide);show aV cf.ways 1 2=1∨aV cf.ways 1 2=2;omega
 have hf:=hCa _ _ hsets hways;unfold fK;have hm:(vE cf prog m).mem=qQ m:=rfl;rw[show qQ (vE cf prog m).mem=(vE cf prog m).mem from Yf ⟨_,xY m⟩];simp only[aK,bC,qI];refine⟨⟨⟨⟨⟨⟨⟨⟨⟨⟨⟨hcf,?_⟩,by simp⟩,rfl⟩,?_⟩,λ e he=>(List.not_mem_nil he).elim⟩,hf⟩,hf⟩,rfl⟩,?_⟩,?_⟩,λ e he=>(List.not_mem_nil he).elim⟩
 ·show (prog.take (min prog.length 64)).length≤64;rw[aQ];omega
 ·show ((0:Nat):Int)≤(bB cf).rob;omega
 ·show ((0:Nat):Int)≤(bB cf).queue;omega
 ·show ((0:Nat):Int)≤(bB cf).stores;omega
end Go.Proofs.YtlhofpglndhfaaaGreatDoor
