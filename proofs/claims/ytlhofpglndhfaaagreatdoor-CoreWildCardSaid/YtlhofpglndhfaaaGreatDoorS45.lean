/- Joined texts. -/
import Derived.Test.YtlhofpglndhfaaaGreatDoorS1
import Derived.Test.YtlhofpglndhfaaaGreatDoorS31
import Derived.Test.YtlhofpglndhfaaaGreatDoorS44
set_option linter.unusedVariables false
set_option linter.unusedSimpArgs false
namespace Go.Proofs.YtlhofpglndhfaaaGreatDoor
open Go.RowKit
def oK{α:Type}(f:α→α)(l:List α)(k:Nat):List α:=(l.take k).map f++l.drop k
theorem Vs{α:Type}{f:α→α}{l:List α}{k:Nat}:(oK f l k).length=l.length:=by unfold oK;simp;omega
theorem DC{α:Type}{f:α→α}{l:List α}{k:Nat}(h:l.length≤k):oK f l k=l.map f:=by
 unfold oK;rw[aN h,eF h,eQ]
theorem QX{α:Type}{f:α→α}{l:List α}{k:Nat}:(oK f l k)[k]?=l[k]? :=by
 unfold oK;rcases al_Nat_lt_or_ge k l.length with h|h
 ·have hl:((l.take k).map f).length=k:=by rw[aO,aQ];omega
  rw[bW omT,hl,iI,dE,iH]
 ·rw[eF h,eQ,bR (by simp;omega),bR h]
theorem Bf{α:Type}{f:α→α}{l:List α}{k:Nat}{x:α}(h:(oK f l k)[k]?=some x):(oK f l k).set k (f x)=oK f l (k+1):=by
 rw[QX]at h;obtain⟨hk,rfl⟩:=Db.1 h;have hl:((l.take k).map f).length=k:=by rw[aO,aQ];omega
 unfold oK;rw[eD hk,jT _ _ omT,hl,iI,jQ,bX,aA hk,fX,fC];rfl
theorem Mm{α:Type}{f:α→α}{l:List α}{k:Nat}{x:α}(h:(oK f l k)[k]?=some x)(he:f x=x):oK f l k=oK f l (k+1):=by
 rw[←Bf h,he];obtain⟨hk,rfl⟩:=Db.1 h;exact (List.set_getElem_self hk).symm
theorem Gv{α:Type}{P:α→Prop}{f:α→α}{l:List α}(hf:∀ x,P x→P (f x))(h:∀ x∈l,P x)(k:Nat):∀ x∈oK f l k,P x:=by
 intro x hx;rcases al_List_mem_append.1 hx with hx|hx
 ·obtain⟨y,hy,rfl⟩:=rK.1 hx;exact hf y (h y (cO hy))
 ·exact h x (eP hx)
theorem NZ{e:Ent}(h:e.ok){b:Nat}(hb:b≤4294967295):(tK e b).ok:=by
 have hv:valB b (dS e.i.op)≤4294967295:=by
  have h4:=sX e.i.op;unfold valB;have:=Ea (rP b (dS e.i.op)) (by rw[xW];exact h4);omega
 unfold tK;split
 ·exact h
 ·exact⟨h.pc,h.imm,h.guess,hv,h.next,h.addr⟩
theorem BL{r:Nat→Nat}{l:List Ent}{j:Nat}{x:Ent}(hx:l[j]?=some x)(h: ¬ kindOf x.i.op=4):storeAt r l j=l:=by unfold storeAt;rw[hx];exact if_neg h
theorem zC{r:Nat→Nat}{l:List Ent}{j:Nat}{x:Ent}(hx:l[j]?=some x)(h:(kN l r j x.i.rs2).isSome=false):storeAt r l j=l:=by
 unfold storeAt;rw[hx];dsimp only;split
 ·rw[show kN l r j x.i.rs2=none by simpa using h]
 ·rfl
theorem zD{r:Nat→Nat}{l:List Ent}{j:Nat}{x:Ent}(hx:l[j]?=some x)(hk:kindOf x.i.op=4)(h:(kN l r j x.i.rs2).isSome=true):storeAt r l j=l.set j (tK x ((kN l r j x.i.rs2).getD 0)):=by
 unfold storeAt;rw[hx];dsimp only;rw[if_pos hk];obtain⟨b,hb⟩:=Ep.1 h;rw[hb];rfl
theorem JQ(r:Nat→Nat)(l:List Ent)(j:Nat):(storeAt r l j).length=l.length:=by
 unfold storeAt;repeat' split
 all_goals simp
theorem Ck{r:Nat→Nat}{l:List Ent}:∀ {k:Nat},(cK r l k).length=l.length
 |0=>rfl
 |k+1=>(JQ ..).trans Ck
theorem oO{r:Nat→Nat}{l:List Ent}(h:∀ x∈l,x.ok)(hr:∀ k,r k≤4294967295):∀ k,∀ x∈cK r l k,x.ok
 |0=>h
 | k+1=>by
  have ih:=oO h hr k;show ∀ x∈storeAt r (cK r l k) k,x.ok
  cases hx:(cK r l k)[k]? with
  |none=>unfold storeAt;rw[hx];exact ih
  | some x=>
   by_cases hk:kindOf x.i.op=4
   ·cases hq:(kN (cK r l k) r k x.i.rs2).isSome with
    |true=>rw[zD hx hk hq];exact xN (P:=Ent.ok) ih (NZ (ih x (aB hx)) (Bh ih hr _ _))
    |false=>rw[zC hx hq];exact ih
   ·rw[BL hx hk];exact ih
theorem sB{l:List Ent}(h:∀ x∈l,x.ok):∀ x∈l.map goE,x.ok:=by
 intro x hx;obtain⟨y,hy,rfl⟩:=rK.1 hx;exact Ot (h y hy)
theorem lV(c:Co):(dC c).length=c.rob.length:=by unfold dC;rw[Ck,aO]
theorem uM{c:Co}{n:Nat}(h:c.okM n):∀ x∈dC c,x.ok:=oO (sB h.ok.robo) h.ok.r _
theorem DD{l:List Ent}{i:Nat}(h:wO l=some i):i<l.length:=(List.findIdx?_eq_some_iff_getElem.1 h).1
theorem KS{l:List Ent}{i:Nat}(h:i<l.length):(BP l i).length=i+1:=by
 unfold BP;rw[aA h];simp;omega
theorem Ty{l:List Ent}{i:Nat}(h:∀ x∈l,x.ok):∀ x∈BP l i,x.ok:=by
 unfold BP
 cases hx:l[i]? with
 |none=>exact h
 |some e=>
  have he:=h e (aB hx);exact nQ (sW h) (nU (P:=Ent.ok) ⟨he.pc,he.imm,he.next,he.value,he.next,he.addr⟩)
theorem JR{α:Type}{A l B:List α}{lo n:Nat}(hlo:A.length=lo)(hn:l.length=n):((A++l++B).drop lo).take n=l:=by
 subst hlo;subst hn;rw[fC,List.drop_left,List.take_left]
theorem Fg{c:Co}(hh: ¬ c.halt≠0)(h:wO (dC c)=none):iE c={c with rob:=dC c}:=by
 unfold iE;rw[if_neg hh,h]
theorem Fh{c:Co}{i:Nat}{x:Ent}(hh: ¬ c.halt≠0)(h:wO (dC c)=some i)(hx:(dC c)[i]?=some x):iE c={c with rob:=BP (dC c) i,fetch:=x.next,fetched:=[],stop:=false}:=by
 unfold iE;rw[if_neg hh,h];dsimp only;rw[hx]
theorem Ih{c:Co}(h:c.rob=[]):iE c=c:=by
 unfold iE dC;rw[h];split
 ·rfl
 ·show {c with rob:=[]}=c;rw[←h]
theorem JS{c:Co}{n:Nat}(h:c.okM n):(iE c).okM n:=by
 have hl:=lV c;have ho:=uM h;by_cases hh:c.halt≠0
 ·rw[show iE c=c from if_pos hh];exact h
 ·cases hw:wO (dC c)with
  |none=>
   rw[Fg hh hw]
   exact⟨⟨h.ok.conf,h.ok.prog,h.ok.progo,h.ok.r,h.ok.fetch,h.ok.fet,h.ok.feto,by rw[hl];exact h.ok.rob,ho,h.ok.sto,h.ok.stoo,h.ok.data,h.ok.words,h.ok.bus,h.ok.buso,h.ok.asked,h.ok.guessed,h.ok.mem,h.ok.guess,h.ok.ret,h.ok.reto⟩,h.nb,h.cf,h.data,h.words,h.guess,by rw[hl];exact h.rob,h.fet,h.sto,h.prog,h.mem,h.std⟩
  |some i=>
   have hi:=DD hw;have hx:=aA hi;have hc:=KS hi;have hr:=h.rob;rw[Fh hh hw hx];exact⟨⟨h.ok.conf,h.ok.prog,h.ok.progo,h.ok.r,(ho _ (kV hi)).next,aF _,(λ x hx=>by cases hx),by show (BP _ _).length≤_;rw[hc];omega,Ty ho,h.ok.sto,h.ok.stoo,h.ok.data,h.ok.words,h.ok.bus,h.ok.buso,h.ok.asked,h.ok.guessed,h.ok.mem,h.ok.guess,h.ok.ret,h.ok.reto⟩,h.nb,h.cf,h.data,h.words,h.guess,by show (BP _ _).length≤_;rw[hc];omega,aF _,h.sto,h.prog,h.mem,h.std⟩
set_option maxRecDepth 100000
set_option maxHeartbeats 4000000
theorem Tw(c:Co)(nb:Nat)(hm:c.okM nb)(A B:List Ent)(lo n:Nat)(kR:Bool)(hlo:A.length=lo)(hn:c.rob.length=n)(hA:A.length+n+B.length≤1000)(hAo:∀ x∈A,x.ok)(hBo:∀ x∈B,x.ok)(hw:wO (dC c)=none)(kS kT:Bool)(xS xT:List (List AV)):pJ C0.P C0.G 53 [.ptr 0 0] (heapF [(0,.box (mcX c (.osl 1 lo n kR) (.sl 2 (c.fetched.map ftL) true) (.sl 2 xS kS) (.sl 9 xT kT))),(1,.arr ((A++c.rob++B).map enL) 17)]) 2 (λ x h'=>x=.tup []∧Sw 2 (iE c) (.sl 2 ((iE c).fetched.map ftL) true) (.sl 2 xS kS) (.sl 9 xT kT) h'):=by
 refine HCall.intro (C:=C1) (s:=2) c1Ok.at Tryz.func53 rfl rfl (by kernel_rfl) rfl rfl<|aE<|aE<|aG rfl<|oR 5 rfl<|rV (vB (c.halt != 0)) rfl<|rE 8 ?_;refine aU rfl (λ h1=>?_) (λ h1=>?_)
 ·have h1p:=vA h1;refine cT ?_;have ee:iE c=c:=if_pos h1p;rw[ee];exact oX (rs:=[]) rfl (r:=.tup []) (h':=heapF [(0,.box (mcX (c) (.osl 1 lo n kR) (.sl 2 (c.fetched.map ftL) true) (.sl 2 xS kS) (.sl 9 xT kT))),(1,.arr ((A++c.rob++B).map enL) 17)]) (σ:=λ z=>z) ⟨rfl,.inr ⟨1,A,B,kR,.inl ⟨rfl,by decide⟩,(by show A.length+(c.rob).length+B.length≤1000;omega),(by show _=heapF [(0,.box (mcX (c) (.osl 1 A.length (c.rob).length kR) _ _ _)),_];rw[hlo,hn])⟩⟩ rfl (cF (λ z=>z) rfl rfl wH rfl)
 ·have h1p:=vC h1;refine aZ<|aE<|aE<|aG rfl<|oR 5 rfl<|rV (vN n) rfl<|oR 1 rfl<|rE 15<|bI<|qW (κ:=Nat) (λ k=>⟨cI [(0,.ptr 0 0),(16,vB (c.halt != 0)),(21,.osl 1 lo n kR),(22,vN n),(23,vN k)],heapF [(0,.box (mcX c (.osl 1 lo n kR) (.sl 2 (c.fetched.map ftL) true) (.sl 2 xS kS) (.sl 9 xT kT))),(1,.arr ((A++(oK goE c.rob k)++B).map enL) 17)],15⟩) (λ k=>k≤n) (λ k=>n - k) 0 (λ s=>s) (Weak.of_lists (λ s=>s) wT wH rfl) rfl (aF _) ?_;intro k hk;have hkn:k≤n:=hk;have hkB:k≤1000:=by have:=hm.rob;omega
  have hml:(oK goE c.rob k).length=n:=Vs.trans hn;refine aE<|aG rfl<|rW (vB (decide (k<n))) rfl (okB (ltN _ _))<|rE 16<|aE ?_;refine aU rfl (λ h2=>?_) (λ h2=>?_)
  ·have h2p:=of_decide_eq_true h2;refine aZ<|aE<|bI<|aE<|aG rfl<|oR 1 rfl<|nW (.ptr2 1 (lo+k) 0) rfl rfl ixT ?_;obtain⟨x,hx⟩:∃ y_,(oK goE c.rob k)[k]?=some y_:=⟨_,aA omT⟩;have hxo:=(Gv (λ x h=>Ot h) hm.ok.robo k) x (aB hx);refine rIx (enL x) (.agg (enL x)) rfl rfl (gJ (jC hlo hx)) rfl<|rAl 19 rfl rfl<|oR 1 rfl<|rSt rfl<|rE 22<|aG rfl<|oR 7 rfl<|rCi rfl (XB x hxo)<|nW (.ptr2 1 (lo+k) 0) rfl rfl ixT ?_;have hx1:((oK goE c.rob k).set k (goE x))[k]?=some (goE x):=bD omT;refine oE (enL x) (h':=upd _ 1 (some (.arr ((A++((oK goE c.rob k).set k (goE x))++B).map enL) 17))) rfl rfl rfl (⟨aI _,gJ ((jC hlo hx))⟩) (tO (f:=enL) (x:=(goE x)) (l:=oK goE c.rob k) (i:=k) hlo omT)<|rE 32<|aG rfl ?_;have b1:k+1≤1001:=aH hkB (aC 1);refine rW (vN (k+1)) rfl (okI (bS b1 rfl))<|oR 1 rfl<|rE 34 ?_;refine .mk _ (.refl _) ⟨k+1,λ s=>s,Weak.of_lists _ wT ⟨⟨rfl,rfl,rfl⟩,⟨rfl,(congrArg (λ z:List Ent=>some (Blk.arr ((A++z++B).map enL) 17)) (Bf hx)),rfl⟩,trivial⟩ rfl,rfl,by omega,by show n - (k+1)<n - k;omega⟩
  ·have h2p:=aD h2;refine eA<|aE<|aE<|aG rfl<|oR 5 rfl<|rV (vN n) rfl<|oR 1 rfl<|rE 23<|bI<|qW (κ:=Nat) (λ j=>⟨cI [(0,.ptr 0 0),(16,vB (c.halt != 0)),(24,vB (decide (k<n))),(42,.osl 1 lo n kR),(43,vN n),(44,vN j)],heapF [(0,.box (mcX c (.osl 1 lo n kR) (.sl 2 (c.fetched.map ftL) true) (.sl 2 xS kS) (.sl 9 xT kT))),(1,.arr ((A++(cK c.r (c.rob.map goE) j)++B).map enL) 17)],23⟩) (λ j=>j≤n) (λ j=>n - j) 0 (λ s=>s) (Weak.of_lists (λ s=>s) wT ⟨⟨rfl,rfl,rfl⟩,⟨rfl,(congrArg (λ z:List Ent=>some (Blk.arr ((A++z++B).map enL) 17)) (DC (f:=goE) (l:=c.rob) omT)),rfl⟩,trivial⟩ rfl) rfl (aF _) ?_;intro j hj;have hjn:j≤n:=hj;have hjB:j≤1000:=by have:=hm.rob;omega
   have hsl:(cK c.r (c.rob.map goE) j).length=n:=Ck.trans ((aO ..).trans hn);refine aE<|aG rfl<|rW (vB (decide (j<n))) rfl (okB (ltN _ _))<|rE 24<|aE ?_;refine aU rfl (λ h3=>?_) (λ h3=>?_)
   ·have h3p:=of_decide_eq_true h3;refine aZ<|aE<|bI<|aE<|aG rfl<|oR 1 rfl<|nW (.ptr2 1 (lo+j) 0) rfl rfl ixT ?_;obtain⟨x,hx⟩:∃ y_,(cK c.r (c.rob.map goE) j)[j]?=some y_:=⟨_,aA omT⟩;have hxo:=(oO (sB hm.ok.robo) hm.ok.r j) x (aB hx);refine rIx (enL x) (.agg (enL x)) rfl rfl (gJ (jC hlo hx)) rfl<|rAl 27 rfl rfl<|oR 1 rfl<|rSt rfl<|rE 30<|aE<|aE<|aG rfl<|oR 2 rfl<|rCi rfl (qG x.i)<|rW (vB ((kindOf x.i.op) != 4)) rfl (okB (neN _ _))<|rE 34 ?_;refine aU rfl (λ h4=>?_) (λ h4=>?_)
    ·have h4p:=vA h4;refine eA<|aG rfl ?_;have b2:j+1≤1001:=aH hjB (aC 1);refine rW (vN (j+1)) rfl (okI (bS b2 rfl))<|oR 1 rfl<|rE 36 ?_;refine .mk _ (.refl _) ⟨j+1,λ s=>s,Weak.of_lists _ wT ⟨⟨rfl,rfl,rfl⟩,⟨rfl,(congrArg (λ z:List Ent=>some (Blk.arr ((A++z++B).map enL) 17)) (show cK c.r (c.rob.map goE) j=cK c.r (c.rob.map goE) (j+1)from (BL hx h4p).symm)),rfl⟩,trivial⟩ rfl,rfl,by omega,by show n - (j+1)<n - j;omega⟩
    ·have h4p:=vC h4;refine aZ<|aE<|aG rfl<|oR 2 rfl<|rCi rfl (Fw x.i)<|oR 5 rfl<|rE 42<|aE<|aG rfl<|oR 12 rfl<|rCl (x:=.tup [vU ((kN (cK c.r (c.rob.map goE) j) c.r j x.i.rs2).getD 0),vB ((kN (cK c.r (c.rob.map goE) j) c.r j x.i.rs2).isSome)]) rfl (.inr ⟨rfl,⟨(by show lo+n≤((A++(cK c.r (c.rob.map goE) j)++B).map enL).length;exact omT),tvT,trivial,trivial,trivial⟩⟩) ((show bY C0 101 [.sl 17 (List.take n (List.drop lo ((A++(cK c.r (c.rob.map goE) j)++B).map enL))) kR,.agg (Iz c.r),vN j,vI x.i.rs2] _ from by rw[sU (l:=cK c.r (c.rob.map goE) j) hlo (by first|assumption|exact hn)];exact Ir (cK c.r (c.rob.map goE) j) c.r kR j x.i.rs2 (by have:=hm.rob;omega) (oO (sB hm.ok.robo) hm.ok.r j) hm.ok.r (by have:=hm.rob;omega)))<|oR 5 rfl<|rE 60<|aE<|aG rfl<|oR 1 rfl ?_;refine rE 61 ?_;refine aU rfl (λ h5=>?_) (λ h5=>?_)
     ·refine aG rfl<|oR 8 rfl<|rCi rfl (PJ x ((kN (cK c.r (c.rob.map goE) j) c.r j x.i.rs2).getD 0) hxo (Bh (oO (sB hm.ok.robo) hm.ok.r j) hm.ok.r j x.i.rs2))<|nW (.ptr2 1 (lo+j) 0) rfl rfl ixT ?_;have hx2:((cK c.r (c.rob.map goE) j).set j (tK x ((kN (cK c.r (c.rob.map goE) j) c.r j x.i.rs2).getD 0)))[j]?=some (tK x ((kN (cK c.r (c.rob.map goE) j) c.r j x.i.rs2).getD 0)):=bD omT;refine oE (enL x) (h':=upd _ 1 (some (.arr ((A++((cK c.r (c.rob.map goE) j).set j (tK x ((kN (cK c.r (c.rob.map goE) j) c.r j x.i.rs2).getD 0)))++B).map enL) 17))) rfl rfl rfl (⟨aI _,gJ ((jC hlo hx))⟩) (tO (f:=enL) (x:=(tK x ((kN (cK c.r (c.rob.map goE) j) c.r j x.i.rs2).getD 0))) (l:=cK c.r (c.rob.map goE) j) (i:=j) hlo omT)<|rE 72<|aG rfl ?_;have b3:j+1≤1001:=aH hjB (aC 1);refine rW (vN (j+1)) rfl (okI (bS b3 rfl))<|oR 1 rfl<|rE 74 ?_;refine .mk _ (.refl _) ⟨j+1,λ s=>s,Weak.of_lists _ wT ⟨⟨rfl,rfl,rfl⟩,⟨rfl,(congrArg (λ z:List Ent=>some (Blk.arr ((A++z++B).map enL) 17)) (show (cK c.r (c.rob.map goE) j).set j (tK x ((kN (cK c.r (c.rob.map goE) j) c.r j x.i.rs2).getD 0))=cK c.r (c.rob.map goE) (j+1)from (zD hx (h4p) h5).symm)),rfl⟩,trivial⟩ rfl,rfl,by omega,by show n - (j+1)<n - j;omega⟩
     ·refine aZ<|aG rfl ?_;have b4:j+1≤1001:=aH hjB (aC 1);refine rW (vN (j+1)) rfl (okI (bS b4 rfl))<|oR 1 rfl<|rE 63 ?_;refine .mk _ (.refl _) ⟨j+1,λ s=>s,Weak.of_lists _ wT ⟨⟨rfl,rfl,rfl⟩,⟨rfl,(congrArg (λ z:List Ent=>some (Blk.arr ((A++z++B).map enL) 17)) (show cK c.r (c.rob.map goE) j=cK c.r (c.rob.map goE) (j+1)from (zC hx h5).symm)),rfl⟩,trivial⟩ rfl,rfl,by omega,by show n - (j+1)<n - j;omega⟩
   ·have h3p:=aD h3;have hWj:cK c.r (c.rob.map goE) j=dC c:=by have q:j=c.rob.length:=omT;rw[q];rfl
    have hWl:(dC c).length=n:=(lV c).trans hn;refine eA<|aE<|aG rfl<|oR 5 rfl<|rCl (x:=vI (-1)) rfl (.inr ⟨rfl,⟨(by show lo+n≤((A++(cK c.r (c.rob.map goE) j)++B).map enL).length;exact omT),trivial⟩⟩) ((show bY C0 _ [.sl 17 (List.take n (List.drop lo ((A++(cK c.r (c.rob.map goE) j)++B).map enL))) kR] (vI (-1))from by rw[show vI (-1)=vI (CB (wO (dC c)))from by rw[hw];rfl,sU (l:=cK c.r (c.rob.map goE) j) hlo (by first|assumption|exact hn),hWj];exact OD (dC c) kR (by rw[lV];have:=hm.rob;omega) (uM hm)))<|oR 1 rfl<|rE 31<|aE<|aG rfl<|oR 1 rfl<|rV (vB (decide ((-1)≥0))) rfl<|rE 33 ?_;refine aU rfl (λ h6=>by exact absurd h6 (by decide)) (λ _=>?_);refine aZ ?_;have ee:iE c={c with rob:=dC c}:=Fg (λ q=>q h1p) hw;rw[ee];exact oX (rs:=[]) rfl (r:=.tup []) (h':=heapF [(0,.box (mcX ({c with rob:=dC c}) (.osl 1 lo n kR) (.sl 2 (c.fetched.map ftL) true) (.sl 2 xS kS) (.sl 9 xT kT))),(1,.arr ((A++dC c++B).map enL) 17)]) (σ:=λ z=>z) ⟨rfl,.inr ⟨1,A,B,kR,.inl ⟨rfl,by decide⟩,(by show A.length+(dC c).length+B.length≤1000;omega),(by show _=heapF [(0,.box (mcX ({c with rob:=dC c}) (.osl 1 A.length (dC c).length kR) _ _ _)),_];rw[hlo,hWl])⟩⟩ rfl (cF (λ z=>z) rfl rfl ⟨⟨rfl,rfl,rfl⟩,⟨rfl,(by show some (Blk.arr ((A++cK c.r (c.rob.map goE) j++B).map enL) 17)=_;rw[hWj];rfl),rfl⟩,trivial⟩ rfl)
theorem Tx(c:Co)(nb:Nat)(hm:c.okM nb)(A B:List Ent)(lo n:Nat)(kR:Bool)(hlo:A.length=lo)(hn:c.rob.length=n)(hA:A.length+n+B.length≤1000)(hAo:∀ x∈A,x.ok)(hBo:∀ x∈B,x.ok)(i:Nat)(hw:wO (dC c)=some i)(kS kT:Bool)(xS xT:List (List AV)):pJ C0.P C0.G 53 [.ptr 0 0] (heapF [(0,.box (mcX c (.osl 1 lo n kR) (.sl 2 (c.fetched.map ftL) true) (.sl 2 xS kS) (.sl 9 xT kT))),(1,.arr ((A++c.rob++B).map enL) 17)]) 2 (λ x h'=>x=.tup []∧Sw 2 (iE c) (.sl 2 ((iE c).fetched.map ftL) true) (.sl 2 xS kS) (.sl 9 xT kT) h'):=by
 refine HCall.intro (C:=C1) (s:=2) c1Ok.at Tryz.func53 rfl rfl (by kernel_rfl) rfl rfl ?_;have hi1:i<n:=by have q:=DD hw;rw[lV]at q;omega
 refine aE<|aE<|aG rfl<|oR 5 rfl<|rV (vB (c.halt != 0)) rfl<|rE 8 ?_;refine aU rfl (λ h1=>?_) (λ h1=>?_)
 ·have h1p:=vA h1;refine cT ?_;have ee:iE c=c:=if_pos h1p;rw[ee];exact oX (rs:=[]) rfl (r:=.tup []) (h':=heapF [(0,.box (mcX (c) (.osl 1 lo n kR) (.sl 2 (c.fetched.map ftL) true) (.sl 2 xS kS) (.sl 9 xT kT))),(1,.arr ((A++c.rob++B).map enL) 17)]) (σ:=λ z=>z) ⟨rfl,.inr ⟨1,A,B,kR,.inl ⟨rfl,by decide⟩,(by show A.length+(c.rob).length+B.length≤1000;omega),(by show _=heapF [(0,.box (mcX (c) (.osl 1 A.length (c.rob).length kR) _ _ _)),_];rw[hlo,hn])⟩⟩ rfl (cF (λ z=>z) rfl rfl wH rfl)
 ·have h1p:=vC h1;refine aZ<|aE<|aE<|aG rfl<|oR 5 rfl<|rV (vN n) rfl<|oR 1 rfl<|rE 15<|bI<|qW (κ:=Nat) (λ k=>⟨cI [(0,.ptr 0 0),(16,vB (c.halt != 0)),(21,.osl 1 lo n kR),(22,vN n),(23,vN k)],heapF [(0,.box (mcX c (.osl 1 lo n kR) (.sl 2 (c.fetched.map ftL) true) (.sl 2 xS kS) (.sl 9 xT kT))),(1,.arr ((A++(oK goE c.rob k)++B).map enL) 17)],15⟩) (λ k=>k≤n) (λ k=>n - k) 0 (λ s=>s) (Weak.of_lists (λ s=>s) wT wH rfl) rfl (aF _) ?_;intro k hk;have hkn:k≤n:=hk;have hkB:k≤1000:=by have:=hm.rob;omega
  have hml:(oK goE c.rob k).length=n:=Vs.trans hn;refine aE<|aG rfl<|rW (vB (decide (k<n))) rfl (okB (ltN _ _))<|rE 16<|aE ?_;refine aU rfl (λ h2=>?_) (λ h2=>?_)
  ·have h2p:=of_decide_eq_true h2;refine aZ<|aE<|bI<|aE<|aG rfl<|oR 1 rfl<|nW (.ptr2 1 (lo+k) 0) rfl rfl ixT ?_;obtain⟨x,hx⟩:∃ y_,(oK goE c.rob k)[k]?=some y_:=⟨_,aA omT⟩;have hxo:=(Gv (λ x h=>Ot h) hm.ok.robo k) x (aB hx);refine rIx (enL x) (.agg (enL x)) rfl rfl (gJ (jC hlo hx)) rfl<|rAl 19 rfl rfl<|oR 1 rfl<|rSt rfl<|rE 22<|aG rfl<|oR 7 rfl<|rCi rfl (XB x hxo)<|nW (.ptr2 1 (lo+k) 0) rfl rfl ixT ?_;have hx1:((oK goE c.rob k).set k (goE x))[k]?=some (goE x):=bD omT;refine oE (enL x) (h':=upd _ 1 (some (.arr ((A++((oK goE c.rob k).set k (goE x))++B).map enL) 17))) rfl rfl rfl (⟨aI _,gJ ((jC hlo hx))⟩) (tO (f:=enL) (x:=(goE x)) (l:=oK goE c.rob k) (i:=k) hlo omT)<|rE 32<|aG rfl ?_;have b1:k+1≤1001:=aH hkB (aC 1);refine rW (vN (k+1)) rfl (okI (bS b1 rfl))<|oR 1 rfl<|rE 34 ?_;refine .mk _ (.refl _) ⟨k+1,λ s=>s,Weak.of_lists _ wT ⟨⟨rfl,rfl,rfl⟩,⟨rfl,(congrArg (λ z:List Ent=>some (Blk.arr ((A++z++B).map enL) 17)) (Bf hx)),rfl⟩,trivial⟩ rfl,rfl,by omega,by show n - (k+1)<n - k;omega⟩
  ·have h2p:=aD h2;refine eA<|aE<|aE<|aG rfl<|oR 5 rfl<|rV (vN n) rfl<|oR 1 rfl<|rE 23<|bI<|qW (κ:=Nat) (λ j=>⟨cI [(0,.ptr 0 0),(16,vB (c.halt != 0)),(24,vB (decide (k<n))),(42,.osl 1 lo n kR),(43,vN n),(44,vN j)],heapF [(0,.box (mcX c (.osl 1 lo n kR) (.sl 2 (c.fetched.map ftL) true) (.sl 2 xS kS) (.sl 9 xT kT))),(1,.arr ((A++(cK c.r (c.rob.map goE) j)++B).map enL) 17)],23⟩) (λ j=>j≤n) (λ j=>n - j) 0 (λ s=>s) (Weak.of_lists (λ s=>s) wT ⟨⟨rfl,rfl,rfl⟩,⟨rfl,(congrArg (λ z:List Ent=>some (Blk.arr ((A++z++B).map enL) 17)) (DC (f:=goE) (l:=c.rob) omT)),rfl⟩,trivial⟩ rfl) rfl (aF _) ?_;intro j hj;have hjn:j≤n:=hj;have hjB:j≤1000:=by have:=hm.rob;omega
   have hsl:(cK c.r (c.rob.map goE) j).length=n:=Ck.trans ((aO ..).trans hn);refine aE<|aG rfl<|rW (vB (decide (j<n))) rfl (okB (ltN _ _))<|rE 24<|aE ?_;refine aU rfl (λ h3=>?_) (λ h3=>?_)
   ·have h3p:=of_decide_eq_true h3;refine aZ<|aE<|bI<|aE<|aG rfl<|oR 1 rfl<|nW (.ptr2 1 (lo+j) 0) rfl rfl ixT ?_;obtain⟨x,hx⟩:∃ y_,(cK c.r (c.rob.map goE) j)[j]?=some y_:=⟨_,aA omT⟩;have hxo:=(oO (sB hm.ok.robo) hm.ok.r j) x (aB hx);refine rIx (enL x) (.agg (enL x)) rfl rfl (gJ (jC hlo hx)) rfl<|rAl 27 rfl rfl<|oR 1 rfl<|rSt rfl<|rE 30<|aE<|aE<|aG rfl<|oR 2 rfl<|rCi rfl (qG x.i)<|rW (vB ((kindOf x.i.op) != 4)) rfl (okB (neN _ _))<|rE 34 ?_;refine aU rfl (λ h4=>?_) (λ h4=>?_)
    ·have h4p:=vA h4;refine eA<|aG rfl ?_;have b2:j+1≤1001:=aH hjB (aC 1);refine rW (vN (j+1)) rfl (okI (bS b2 rfl))<|oR 1 rfl<|rE 36 ?_;refine .mk _ (.refl _) ⟨j+1,λ s=>s,Weak.of_lists _ wT ⟨⟨rfl,rfl,rfl⟩,⟨rfl,(congrArg (λ z:List Ent=>some (Blk.arr ((A++z++B).map enL) 17)) (show cK c.r (c.rob.map goE) j=cK c.r (c.rob.map goE) (j+1)from (BL hx h4p).symm)),rfl⟩,trivial⟩ rfl,rfl,by omega,by show n - (j+1)<n - j;omega⟩
    ·have h4p:=vC h4;refine aZ<|aE<|aG rfl<|oR 2 rfl<|rCi rfl (Fw x.i)<|oR 5 rfl<|rE 42<|aE<|aG rfl<|oR 12 rfl<|rCl (x:=.tup [vU ((kN (cK c.r (c.rob.map goE) j) c.r j x.i.rs2).getD 0),vB ((kN (cK c.r (c.rob.map goE) j) c.r j x.i.rs2).isSome)]) rfl (.inr ⟨rfl,⟨(by show lo+n≤((A++(cK c.r (c.rob.map goE) j)++B).map enL).length;exact omT),tvT,trivial,trivial,trivial⟩⟩) ((show bY C0 101 [.sl 17 (List.take n (List.drop lo ((A++(cK c.r (c.rob.map goE) j)++B).map enL))) kR,.agg (Iz c.r),vN j,vI x.i.rs2] _ from by rw[sU (l:=cK c.r (c.rob.map goE) j) hlo (by first|assumption|exact hn)];exact Ir (cK c.r (c.rob.map goE) j) c.r kR j x.i.rs2 (by have:=hm.rob;omega) (oO (sB hm.ok.robo) hm.ok.r j) hm.ok.r (by have:=hm.rob;omega)))<|oR 5 rfl<|rE 60<|aE<|aG rfl<|oR 1 rfl ?_;refine rE 61 ?_;refine aU rfl (λ h5=>?_) (λ h5=>?_)
     ·refine aG rfl<|oR 8 rfl<|rCi rfl (PJ x ((kN (cK c.r (c.rob.map goE) j) c.r j x.i.rs2).getD 0) hxo (Bh (oO (sB hm.ok.robo) hm.ok.r j) hm.ok.r j x.i.rs2))<|nW (.ptr2 1 (lo+j) 0) rfl rfl ixT ?_;have hx2:((cK c.r (c.rob.map goE) j).set j (tK x ((kN (cK c.r (c.rob.map goE) j) c.r j x.i.rs2).getD 0)))[j]?=some (tK x ((kN (cK c.r (c.rob.map goE) j) c.r j x.i.rs2).getD 0)):=bD omT;refine oE (enL x) (h':=upd _ 1 (some (.arr ((A++((cK c.r (c.rob.map goE) j).set j (tK x ((kN (cK c.r (c.rob.map goE) j) c.r j x.i.rs2).getD 0)))++B).map enL) 17))) rfl rfl rfl (⟨aI _,gJ ((jC hlo hx))⟩) (tO (f:=enL) (x:=(tK x ((kN (cK c.r (c.rob.map goE) j) c.r j x.i.rs2).getD 0))) (l:=cK c.r (c.rob.map goE) j) (i:=j) hlo omT)<|rE 72<|aG rfl ?_;have b3:j+1≤1001:=aH hjB (aC 1);refine rW (vN (j+1)) rfl (okI (bS b3 rfl))<|oR 1 rfl<|rE 74 ?_;refine .mk _ (.refl _) ⟨j+1,λ s=>s,Weak.of_lists _ wT ⟨⟨rfl,rfl,rfl⟩,⟨rfl,(congrArg (λ z:List Ent=>some (Blk.arr ((A++z++B).map enL) 17)) (show (cK c.r (c.rob.map goE) j).set j (tK x ((kN (cK c.r (c.rob.map goE) j) c.r j x.i.rs2).getD 0))=cK c.r (c.rob.map goE) (j+1)from (zD hx (h4p) h5).symm)),rfl⟩,trivial⟩ rfl,rfl,by omega,by show n - (j+1)<n - j;omega⟩
     ·refine aZ<|aG rfl ?_;have b4:j+1≤1001:=aH hjB (aC 1);refine rW (vN (j+1)) rfl (okI (bS b4 rfl))<|oR 1 rfl<|rE 63 ?_;refine .mk _ (.refl _) ⟨j+1,λ s=>s,Weak.of_lists _ wT ⟨⟨rfl,rfl,rfl⟩,⟨rfl,(congrArg (λ z:List Ent=>some (Blk.arr ((A++z++B).map enL) 17)) (show cK c.r (c.rob.map goE) j=cK c.r (c.rob.map goE) (j+1)from (zC hx h5).symm)),rfl⟩,trivial⟩ rfl,rfl,by omega,by show n - (j+1)<n - j;omega⟩
   ·have h3p:=aD h3;have hWj:cK c.r (c.rob.map goE) j=dC c:=by have q:j=c.rob.length:=omT;rw[q];rfl
    have hWl:(dC c).length=n:=(lV c).trans hn;have hil:i<n:=by have:=DD hw;omega
    obtain⟨y,hy⟩:∃ y,(dC c)[i]?=some y:=⟨_,aA omT⟩;have hyo:=uM hm y (aB hy);have hOKA:∀ x∈A++dC c++B,x.ok:=nQ (nQ hAo (uM hm)) hBo;have hyj:(cK c.r (c.rob.map goE) j)[i]?=some y:=by rw[hWj];exact hy
    refine eA<|aE<|aG rfl<|oR 5 rfl<|rCl (x:=vN i) rfl (.inr ⟨rfl,⟨(by show lo+n≤((A++(cK c.r (c.rob.map goE) j)++B).map enL).length;exact omT),trivial⟩⟩) ((show bY C0 _ [.sl 17 (List.take n (List.drop lo ((A++(cK c.r (c.rob.map goE) j)++B).map enL))) kR] (vN i)from by rw[show vN i=vI (CB (wO (dC c)))from by rw[hw];rfl,sU (l:=cK c.r (c.rob.map goE) j) hlo (by first|assumption|exact hn),hWj];exact OD (dC c) kR (by rw[lV];have:=hm.rob;omega) (uM hm)))<|oR 1 rfl<|rE 31<|aE<|aG rfl<|oR 1 rfl<|rW (vB (decide (i≥0))) rfl (okB (geN _ _))<|rE 33 ?_;refine aU rfl (λ _=>?_) (λ h6=>by exact absurd h6 (by simp));refine aE<|aG rfl<|oR 7 rfl<|nW (.ptr2 1 (lo+i) 0) rfl rfl ixT<|oR 1 rfl<|rIx (enL y) (vU y.next) rfl rfl (gJ (jC hlo hyj)) rfl<|oR 3 rfl<|rSx 0 (mcX ({c with fetch:=y.next}:Co) (.osl 1 lo n kR) (.sl 2 (c.fetched.map ftL) true) (.sl 2 xS kS) (.sl 9 xT kT)) rfl rfl rfl<|rE 47<|aE<|aG rfl<|oR 7 rfl<|eE (args:=[.osl 1 lo n kR,vN i]) (d:=115) _ rfl rfl rfl ((show pJ C0.P C0.G 104 [.osl 0 lo n kR,vN i] (heapF [(0,.arr ((A++dC c++B).map enL) 17)]) 1 (λ x h'=>x=.osl 1 0 (i+1) false∧h'=heapF [(0,.arr ((A++dC c++B).map enL) 17),(1,.arr ((BP (dC c) i).map enL) 17)])from by have q:=XF (A++dC c++B) lo n i kR (by simp only[aY,lV];omega) (by simp only[aY,lV];omega) omT hOKA;rwa [JR hlo hWl]at q).frameO 1 _ _ rfl (by show some (Blk.arr ((A++cK c.r (c.rob.map goE) j++B).map enL) 17)=_;rw[hWj]) rfl) ?_;rintro _ _ ⟨rfl,rfl⟩;refine oR 3 rfl<|rSx 0 (mcX ({c with fetch:=y.next}:Co) (.osl 54 0 (i+1) false) (.sl 2 (c.fetched.map ftL) true) (.sl 2 xS kS) (.sl 9 xT kT)) rfl rfl rfl<|rE 59<|aE<|aG rfl<|oR 4 rfl<|rSx 0 (mcX ({c with fetch:=y.next}:Co) (.osl 54 0 (i+1) false) (.sl 0 ([]) true) (.sl 2 xS kS) (.sl 9 xT kT)) rfl rfl rfl<|rE 64<|aG rfl<|oR 4 rfl<|rSx 0 (mcX ({c with fetch:=y.next,stop:=false}:Co) (.osl 54 0 (i+1) false) (.sl 0 ([]) true) (.sl 2 xS kS) (.sl 9 xT kT)) rfl rfl rfl<|rE 69 ?_;have ee:iE c={c with rob:=BP (dC c) i,fetch:=y.next,fetched:=[],stop:=false}:=Fh (λ q=>q h1p) hw hy;have hcl:(BP (dC c) i).length=i+1:=KS omT;rw[ee];exact BB (rs:=[]) rfl (.step none (Ghost.of_lists (l:=[(0,.tup [])]) (hp:=[(0,.box (mcX ({c with rob:=BP (dC c) i,fetch:=y.next,fetched:=[],stop:=false}) (.osl 54 0 (i+1) false) (.sl 2 [] true) (.sl 2 xS kS) (.sl 9 xT kT))),(54,.arr ((BP (dC c) i).map enL) 17)]) trivial ⟨.refl _,trivial⟩ ⟨⟨trivial,_,rfl,LeB.boxL (nN (.refl _) (.nil 2 true) (.refl _) (.refl _))⟩,⟨trivial,_,rfl,.refl _⟩,trivial⟩) (.refl _)) (r:=.tup []) (h':=heapF [(0,.box (mcX ({c with rob:=BP (dC c) i,fetch:=y.next,fetched:=[],stop:=false}) (.osl 2 0 (i+1) false) (.sl 2 [] true) (.sl 2 xS kS) (.sl 9 xT kT))),(2,.arr ((BP (dC c) i).map enL) 17)]) (σ:=λ z=>match z with|2=>54|z=>z) ⟨rfl,.inr ⟨2,[],[],false,.inr rfl,(by show 0+(BP (dC c) i).length+0≤1000;have:=hm.rob;omega),(by show _=heapF [(0,.box (mcX ({c with rob:=BP (dC c) i,fetch:=y.next,fetched:=[],stop:=false}) (.osl 2 0 (BP (dC c) i).length false) _ _ _)),(2,.arr (([]++BP (dC c) i++[]).map enL) 17)];rw[hcl,iN,eQ];rfl)⟩⟩ rfl (eX (λ z=>match z with|2=>54|z=>z) rfl rfl wH rfl)
theorem NY(c:Co)(nb:Nat)(hm:c.okM nb)(h0:c.rob=[])(kS kT:Bool)(xS xT:List (List AV)):pJ C0.P C0.G 53 [.ptr 0 0] (heapF [(0,.box (mcX c (.sl 17 [] false) (.sl 2 (c.fetched.map ftL) true) (.sl 2 xS kS) (.sl 9 xT kT)))]) 1 (λ x h'=>x=.tup []∧Sw 1 (iE c) (.sl 2 ((iE c).fetched.map ftL) true) (.sl 2 xS kS) (.sl 9 xT kT) h'):=by
 refine HCall.intro (C:=C1) (s:=1) c1Ok.at Tryz.func53 rfl rfl (by kernel_rfl) rfl rfl<|aE<|aE<|aG rfl<|oR 5 rfl<|rV (vB (c.halt != 0)) rfl<|rE 7 ?_;refine aU rfl (λ h1=>?_) (λ h1=>?_)
 ·have h1p:=vA h1;refine cT ?_;rw[Ih h0];exact oX (rs:=[]) rfl (r:=.tup []) (h':=heapF [(0,.box (mcX c (.sl 17 [] false) (.sl 2 (c.fetched.map ftL) true) (.sl 2 xS kS) (.sl 9 xT kT)))]) (σ:=λ z=>z) ⟨rfl,.inl ⟨h0,rfl⟩⟩ rfl (cF (λ z=>z) rfl rfl wH rfl)
 ·have h1p:=vC h1;refine aZ<|aE<|aE<|aG rfl<|oR 5 rfl<|rW (vN 0) rfl (sJ enL ([]:List Ent) omT)<|oR 1 rfl<|rE 14<|bI<|qW (κ:=Nat) (λ k=>⟨cI [(0,.ptr 0 0),(16,vB (c.halt != 0)),(21,.sl 17 (([]:List Ent).map enL) false),(22,vN 0),(23,vN k)],heapF [(0,.box (mcX c (.sl 17 (([]:List Ent).map enL) false) (.sl 2 (c.fetched.map ftL) true) (.sl 2 xS kS) (.sl 9 xT kT)))],14⟩) (λ k=>k≤0) (λ k=>0 - k) 0 (λ s=>s) (Weak.of_lists (λ s=>s) wT wH rfl) rfl (aF _) ?_;intro k hk;have hkn:k≤0:=hk;have hkB:k≤1000:=by omega
  refine aE<|aG rfl<|rW (vB (decide (k<0))) rfl (okB (ltN _ _))<|rE 15<|aE ?_;refine aU rfl (λ h2=>by exact absurd (of_decide_eq_true h2) (dX _)) (λ _=>?_);refine eA<|aE<|aE<|aG rfl<|oR 5 rfl<|rW (vN 0) rfl (sJ enL ([]:List Ent) omT)<|oR 1 rfl<|rE 22<|bI<|qW (κ:=Nat) (λ j=>⟨cI [(0,.ptr 0 0),(16,vB (c.halt != 0)),(24,vB (decide (k<0))),(42,.sl 17 (([]:List Ent).map enL) false),(43,vN 0),(44,vN j)],heapF [(0,.box (mcX c (.sl 17 (([]:List Ent).map enL) false) (.sl 2 (c.fetched.map ftL) true) (.sl 2 xS kS) (.sl 9 xT kT)))],22⟩) (λ j=>j≤0) (λ j=>0 - j) 0 (λ s=>s) (Weak.of_lists (λ s=>s) wT wH rfl) rfl (aF _) ?_;intro j hj;have hjn:j≤0:=hj;have hjB:j≤1000:=by omega
  refine aE<|aG rfl<|rW (vB (decide (j<0))) rfl (okB (ltN _ _))<|rE 23<|aE ?_;refine aU rfl (λ h3=>by exact absurd (of_decide_eq_true h3) (dX _)) (λ _=>?_);refine eA<|aE<|aG rfl<|oR 5 rfl<|rCl (x:=vI (-1)) rfl (.inl rfl) ((show bY C0 _ [.sl 17 [] false] (vI (-1))from OD [] false (by decide) (λ x h=>by cases h)))<|oR 1 rfl<|rE 30<|aE<|aG rfl<|oR 1 rfl<|rV (vB (decide ((-1)≥0))) rfl<|rE 32 ?_;refine aU rfl (λ h4=>by exact absurd h4 (by decide)) (λ _=>?_);refine aZ ?_;rw[Ih h0];exact oX (rs:=[]) rfl (r:=.tup []) (h':=heapF [(0,.box (mcX c (.sl 17 [] false) (.sl 2 (c.fetched.map ftL) true) (.sl 2 xS kS) (.sl 9 xT kT)))]) (σ:=λ z=>z) ⟨rfl,.inl ⟨h0,rfl⟩⟩ rfl (cF (λ z=>z) rfl rfl wH rfl)
def iZ(c:Co):Co:={c with bus:=(dZ c.bus).1}
theorem iR(c:Co):jK c=if (dZ c.bus).2.2=true then BR (iZ c) (dZ c.bus).2.1 else iZ c:=rfl
theorem vO{q:List Req}(h:∀ x∈q,x.ok):(dZ q).1.length≤q.length∧(∀ x∈(dZ q).1,x.ok)∧(dZ q).2.1.line≤4294967295:=by
 unfold dZ
 cases q with
 |nil=>exact⟨aC _,h,aF _⟩
 |cons y l=>
  have hy:=h y (bO ..);have hl:∀ x∈l,x.ok:=λ x hx=>h x (bZ _ hx);dsimp only;split
  ·exact⟨aC _,(λ x hx=>(al_List_mem_cons.1 hx).elim (λ e=>e ▸ ⟨hy.line⟩) (hl x)),aF _⟩
  ·exact⟨fF _,hl,hy.line⟩
theorem zB{c:Co}{n:Nat}(h:c.okM n):(iZ c).okM n:=by
 have ht:=vO h.ok.buso;exact⟨⟨h.ok.conf,h.ok.prog,h.ok.progo,h.ok.r,h.ok.fetch,h.ok.fet,h.ok.feto,h.ok.rob,h.ok.robo,h.ok.sto,h.ok.stoo,h.ok.data,h.ok.words,aL ht.1 h.ok.bus,ht.2.1,h.ok.asked,h.ok.guessed,h.ok.mem,h.ok.guess,h.ok.ret,h.ok.reto⟩,h.nb,h.cf,h.data,h.words,h.guess,h.rob,h.fet,h.sto,h.prog,h.mem,h.std⟩
theorem DB{e:Ent}(h:e.ok):({e with filled:=true}:Ent).ok:=⟨h.pc,h.imm,h.guess,h.value,h.next,h.addr⟩
theorem KR{c:Co}{line:Nat}{e:Ent}(h:e.ok):(vD c line e).ok:=by
 unfold vD;split
 ·exact Gy (DB h) _
 ·exact h
theorem QW{c:Co}{line:Nat}{e:Ent}(h:e.is=2∧lineOf e.addr=line):vD c line e=tP {e with filled:=true} (nV c e):=if_pos h
theorem Tv{c:Co}{line:Nat}{e:Ent}(h: ¬ (e.is=2∧lineOf e.addr=line)):vD c line e=e:=if_neg h
theorem JP{c:Co}{n:Nat}(h:c.okM n)(hb:n+1≤890000):(jK c).okM (n+1):=by
 have h1:=(zB h).mono (fF n) hb;have hl:=(vO h.ok.buso).2.2;rw[iR];split
 ·unfold BR
  repeat' split
  ·have ho:∀ x∈(iZ c).rob.map (vD (iZ c) (dZ c.bus).2.1.line),x.ok:=by
    intro x hx;obtain⟨y,hy,rfl⟩:=rK.1 hx;exact KR (h1.ok.robo y hy)
   exact⟨⟨h1.ok.conf,h1.ok.prog,h1.ok.progo,h1.ok.r,h1.ok.fetch,h1.ok.fet,h1.ok.feto,by rw[aO];exact h1.ok.rob,ho,h1.ok.sto,h1.ok.stoo,h1.ok.data,h1.ok.words,h1.ok.bus,h1.ok.buso,h1.ok.asked,h1.ok.guessed,h1.ok.mem,h1.ok.guess,h1.ok.ret,h1.ok.reto⟩,h1.nb,h1.cf,h1.data,h1.words,h1.guess,by rw[aO];exact h1.rob,h1.fet,h1.sto,h1.prog,h1.mem,h1.std⟩
  ·have g:=WS.1 (h1.gw.put hl mH false);exact⟨⟨h1.ok.conf,h1.ok.prog,h1.ok.progo,h1.ok.r,h1.ok.fetch,h1.ok.fet,h1.ok.feto,h1.ok.rob,h1.ok.robo,h1.ok.sto,h1.ok.stoo,h1.ok.data,g.2,h1.ok.bus,h1.ok.buso,h1.ok.asked,h1.ok.guessed,h1.ok.mem,h1.ok.guess,h1.ok.ret,h1.ok.reto⟩,h1.nb,h1.cf,h1.data,g.1,h1.guess,h1.rob,h1.fet,h1.sto,h1.prog,h1.mem,h1.std⟩
  ·exact DI (zB h) hb hl
  ·exact⟨⟨h1.ok.conf,h1.ok.prog,h1.ok.progo,h1.ok.r,h1.ok.fetch,h1.ok.fet,h1.ok.feto,h1.ok.rob,h1.ok.robo,h1.ok.sto,h1.ok.stoo,h1.ok.data,h1.ok.words,h1.ok.bus,h1.ok.buso,h1.ok.asked,h1.ok.guessed,by rw[iA];exact h1.ok.mem,h1.ok.guess,h1.ok.ret,h1.ok.reto⟩,h1.nb,h1.cf,h1.data,h1.words,h1.guess,h1.rob,h1.fet,h1.sto,h1.prog,by rw[iA];exact h1.mem,h1.std⟩
  ·exact h1
 ·exact h1
theorem WR(c:Co)(n:Nat)(hm:c.okM n)(line:Nat)(hline:line≤4294967295)(kR:Bool)(xR:List (List AV))(kF:Bool)(xF:List (List AV))(kS:Bool)(xS:List (List AV))(kT:Bool)(xT:List (List AV)):pJ C0.P C0.G 96 [.ptr 0 0,vU line] (heapF [(0,.box (mcX c (.sl 17 xR kR) (.sl 2 xF kF) (.sl 2 xS kS) (.sl 9 xT kT)))]) 1 (λ x h'=>x=.tup []∧h'=heapF [(0,.box (mcX (DE c line) (.sl 17 xR kR) (.sl 2 xF kF) (.sl 2 xS kS) (.sl 9 xT kT)))]):=by rw[pY];exact XC c n hm line hline kR xR kF xF kS xS kT xT
theorem Vr(c:Co)(n:Nat)(hm:c.okM n)(line:Nat)(hline:line≤4294967295)(lR nR:Nat)(kR:Bool)(rR:List (List AV))(kF:Bool)(xF:List (List AV))(kS:Bool)(xS:List (List AV))(kT:Bool)(xT:List (List AV)):pJ C0.P C0.G 96 [.ptr 0 0,vU line] (heapF [(0,.box (mcX c (.osl 1 lR nR kR) (.sl 2 xF kF) (.sl 2 xS kS) (.sl 9 xT kT))),(1,.arr rR 17)]) 2 (λ x h'=>x=.tup []∧h'=heapF [(0,.box (mcX (DE c line) (.osl 1 lR nR kR) (.sl 2 xF kF) (.sl 2 xS kS) (.sl 9 xT kT))),(1,.arr rR 17)]):=by rw[pY];exact WX c n hm line hline lR nR kR rR kF xF kS xS kT xT
theorem Sv(c:Co)(nb:Nat)(hm:c.okM nb)(A B:List Ent)(lo n:Nat)(kR:Bool)(hlo:A.length=lo)(hn:c.rob.length=n)(hA:A.length+n+B.length≤1000)(kF kS kT:Bool)(xF xT:List (List AV)):pJ C0.P C0.G 52 [.ptr 0 0] (heapF [(0,.box (mcX c (.osl 1 lo n kR) (.sl 2 xF kF) (.sl 2 (c.stores.map ptL) kS) (.sl 9 xT kT))),(1,.arr ((A++c.rob++B).map enL) 17)]) 2 (λ x h'=>x=.tup []∧h'=heapF [(0,.box (mcX (jK c) (.osl 1 lo n kR) (.sl 2 xF kF) (.sl 2 (c.stores.map ptL) kS) (.sl 9 xT kT))),(1,.arr ((A++(jK c).rob++B).map enL) 17)]):=by
 refine HCall.intro (C:=C1) (s:=2) c1Ok.at Tryz.func52 rfl rfl (by kernel_rfl) rfl rfl<|aE<|aG rfl<|oR 5 rfl<|rCi rfl (SD c.bus false (by have:=hm.bus;omega) hm.ok.buso)<|oR 4 rfl<|rAl 12 rfl rfl<|oR 1 rfl<|rSt rfl<|oR 1 rfl<|rE 16<|aE<|aG rfl<|oR 5 rfl<|rSx 0 (mcX ({c with bus:=(dZ c.bus).1}:Co) (.osl 1 lo n kR) (.sl 2 xF kF) (.sl 2 (c.stores.map ptL) kS) (.sl 9 xT kT)) rfl rfl rfl<|rE 22 ?_;refine aE<|aE<|aG rfl<|oR 2 rfl<|rE 24 ?_;refine aU rfl (λ h1=>?_) (λ h1=>?_)
 ·refine cT ?_;have e0:=iR c;have ee:jK c=(iZ c):=e0.trans (if_neg (by rw[DL h1];decide));rw[ee];exact oX (rs:=[]) rfl (r:=.tup []) (h':=heapF [(0,.box (mcX ((iZ c)) (.osl 1 lo n kR) (.sl 2 xF kF) (.sl 2 (c.stores.map ptL) kS) (.sl 9 xT kT))),(1,.arr ((A++c.rob++B).map enL) 17)]) (σ:=λ z=>z) ⟨rfl,rfl⟩ rfl (cF (λ z=>z) rfl rfl wH rfl)
 ·refine aZ<|aE<|aG rfl<|oR 2 rfl<|rE 26<|bI<|aE<|aG rfl<|rV (vB (((dZ c.bus).2.1.kind)==1)) rfl<|oR 1 rfl<|rE 28 ?_;refine aU rfl (λ h2=>?_) (λ h2=>?_)
  ·have h2p:=kX h2;refine aE<|aG rfl<|oR 5 rfl<|rV (vN n) rfl<|oR 1 rfl<|rE 35<|bI<|qW (κ:=Nat) (λ k=>⟨cI [(0,.ptr 0 0),(3,.ptr 12 0),(23,vB (!((dZ c.bus).2.2))),(25,vI ((dZ c.bus).2.1.kind)),(26,vB (((dZ c.bus).2.1.kind)==1)),(32,.osl 1 lo n kR),(33,vN n),(34,vN k)],heapF [(0,.box (mcX ({c with bus:=(dZ c.bus).1}:Co) (.osl 1 lo n kR) (.sl 2 xF kF) (.sl 2 (c.stores.map ptL) kS) (.sl 9 xT kT))),(1,.arr ((A++(oK (vD (iZ c) (dZ c.bus).2.1.line) c.rob k)++B).map enL) 17),(12,.box (rqL ((dZ c.bus).2.1)))],35⟩) (λ k=>k≤n) (λ k=>n - k) 0 (λ s=>s) (Weak.of_lists (λ s=>s) wT wH rfl) rfl (aF _) ?_;intro k hk;have hkn:k≤n:=hk;have hkB:k≤1000:=by have:=hm.rob;omega
   have hml:(oK (vD (iZ c) (dZ c.bus).2.1.line) c.rob k).length=n:=Vs.trans hn;refine aE<|aG rfl<|rW (vB (decide (k<n))) rfl (okB (ltN _ _))<|rE 36<|aE ?_;refine aU rfl (λ h3=>?_) (λ h3=>?_)
   ·have h3p:=of_decide_eq_true h3;refine aZ<|aE<|bI<|aE<|aG rfl<|oR 1 rfl<|nW (.ptr2 1 (lo+k) 0) rfl rfl ixT ?_;obtain⟨x,hx⟩:∃ y_,(oK (vD (iZ c) (dZ c.bus).2.1.line) c.rob k)[k]?=some y_:=⟨_,aA omT⟩;have hxo:=(Gv (λ x h=>KR h) hm.ok.robo k) x (aB hx);refine rIx (enL x) (.agg (enL x)) rfl rfl (gJ (jC hlo hx)) rfl<|rAl 39 rfl rfl<|oR 1 rfl<|rSt rfl<|rE 42<|aE<|aG rfl<|oR 2 rfl<|rV (vB (x.is==2)) rfl<|oR 1 rfl<|gN rfl<|gS rfl id<|jI (args:=[vU x.addr]) (x:=vU (lineOf x.addr)) (g:=x.is==2) rfl rfl rfl rfl (λ h=>h) rfl rfl rfl (.inl rfl) rfl (λ hg=>qD x.addr hxo.addr)<|gN rfl<|gS rfl id<|gBS (x:=vB ((lineOf x.addr)==((dZ c.bus).2.1.line))) rfl hsT (okB (eqN _ _)) ?_;refine cH rfl rfl rfl (λ h=>h)<|rE 53 ?_;refine aU rfl (λ h4=>?_) (λ h4=>?_)
    ·have hfc:(x.is=2∧lineOf x.addr=(dZ c.bus).2.1.line):=by have z:=h4;simpa [c2a]using z
     refine aE<|aG rfl<|oR 1 rfl<|rSt rfl<|rE 55<|aG rfl<|oR 9 rfl<|rCl rfl (.inr ⟨rfl,⟨trivial,tvT,trivial⟩⟩) (La (iZ c) nb (zB hm) .any (.sl 2 xF kF) (.sl 9 xT kT) kS ({x with filled:=true}:Ent) (DB hxo))<|rCi rfl (PI ({x with filled:=true}:Ent) (nV (iZ c) x) (DB hxo) (by have:=Fm (c:=(iZ c)) (by have:=hm.mem;exact this) x;omega))<|nW (.ptr2 1 (lo+k) 0) rfl rfl ixT ?_;have hx1:((oK (vD (iZ c) (dZ c.bus).2.1.line) c.rob k).set k (tP ({x with filled:=true}:Ent) (nV (iZ c) x)))[k]?=some (tP ({x with filled:=true}:Ent) (nV (iZ c) x)):=bD omT;refine oE (enL x) (h':=upd _ 1 (some (.arr ((A++((oK (vD (iZ c) (dZ c.bus).2.1.line) c.rob k).set k (tP ({x with filled:=true}:Ent) (nV (iZ c) x)))++B).map enL) 17))) rfl rfl rfl (⟨aI _,gJ ((jC hlo hx))⟩) (tO (f:=enL) (x:=(tP ({x with filled:=true}:Ent) (nV (iZ c) x))) (l:=oK (vD (iZ c) (dZ c.bus).2.1.line) c.rob k) (i:=k) hlo omT)<|rE 68<|aG rfl ?_;have b1:k+1≤1001:=aH hkB (aC 1);refine rW (vN (k+1)) rfl (okI (bS b1 rfl))<|oR 1 rfl<|rE 70 ?_;refine .mk _ (.refl _) ⟨k+1,λ s=>s,Weak.of_lists _ wT ⟨⟨rfl,rfl,rfl⟩,⟨rfl,(congrArg (λ z:List Ent=>some (Blk.arr ((A++z++B).map enL) 17)) (show (oK (vD (iZ c) (dZ c.bus).2.1.line) c.rob k).set k (tP ({x with filled:=true}:Ent) (nV (iZ c) x))=oK (vD (iZ c) (dZ c.bus).2.1.line) c.rob (k+1)from by rw[←Bf hx,QW hfc])),rfl⟩,⟨rfl,rfl,rfl⟩,trivial⟩ rfl,rfl,by omega,by show n - (k+1)<n - k;omega⟩
    ·have hfc: ¬ (x.is=2∧lineOf x.addr=(dZ c.bus).2.1.line):=by have z:=h4;simpa [c2a]using z
     refine aZ<|aG rfl ?_;have b2:k+1≤1001:=aH hkB (aC 1);refine rW (vN (k+1)) rfl (okI (bS b2 rfl))<|oR 1 rfl<|rE 55 ?_;refine .mk _ (.refl _) ⟨k+1,λ s=>s,Weak.of_lists _ wT ⟨⟨rfl,rfl,rfl⟩,⟨rfl,(congrArg (λ z:List Ent=>some (Blk.arr ((A++z++B).map enL) 17)) (show oK (vD (iZ c) (dZ c.bus).2.1.line) c.rob k=oK (vD (iZ c) (dZ c.bus).2.1.line) c.rob (k+1)from Mm hx (Tv hfc))),rfl⟩,⟨rfl,rfl,rfl⟩,trivial⟩ rfl,rfl,by omega,by show n - (k+1)<n - k;omega⟩
   ·have h3p:=aD h3;refine eA ?_;have e0:=iR c;have ee:jK c={iZ c with rob:=c.rob.map (vD (iZ c) (dZ c.bus).2.1.line)}:=((e0.trans (if_pos (dB (qU h1)))).trans (if_pos h2p));rw[ee];exact oX (rs:=[]) rfl (r:=.tup []) (h':=heapF [(0,.box (mcX ({iZ c with rob:=c.rob.map (vD (iZ c) (dZ c.bus).2.1.line)}) (.osl 1 lo n kR) (.sl 2 xF kF) (.sl 2 (c.stores.map ptL) kS) (.sl 9 xT kT))),(1,.arr ((A++(c.rob.map (vD (iZ c) (dZ c.bus).2.1.line))++B).map enL) 17)]) (σ:=λ z=>z) ⟨rfl,rfl⟩ rfl (cF (λ z=>z) rfl rfl ⟨⟨rfl,rfl,rfl⟩,⟨rfl,(congrArg (λ z:List Ent=>some (Blk.arr ((A++z++B).map enL) 17)) (DC (f:=vD (iZ c) (dZ c.bus).2.1.line) (l:=c.rob) omT)),rfl⟩,trivial⟩ rfl)
  ·have h2p:=kY h2;refine aE<|aG rfl<|rV (vB (((dZ c.bus).2.1.kind)==2)) rfl<|oR 1 rfl<|rE 30 ?_;refine aU rfl (λ h5=>?_) (λ h5=>?_)
   ·have h5p:=kX h5;refine aG rfl<|oR 8 rfl<|rCi rfl (OP c.words (dZ c.bus).2.1.line mH false hm.ok.words (vO hm.ok.buso).2.2)<|oR 7 rfl<|rSx 0 (mcX ({c with words:=(qF c.words (dZ c.bus).2.1.line mH false).1,bus:=(dZ c.bus).1}:Co) (.osl 1 lo n kR) (.sl 2 xF kF) (.sl 2 (c.stores.map ptL) kS) (.sl 9 xT kT)) rfl rfl rfl<|rE 47 ?_;have e0:=iR c;have ee:jK c={iZ c with words:=(qF c.words (dZ c.bus).2.1.line mH false).1}:=(((e0.trans (if_pos (dB (qU h1)))).trans (if_neg h2p)).trans (if_pos h5p));rw[ee];exact oX (rs:=[]) rfl (r:=.tup []) (h':=heapF [(0,.box (mcX ({iZ c with words:=(qF c.words (dZ c.bus).2.1.line mH false).1}) (.osl 1 lo n kR) (.sl 2 xF kF) (.sl 2 (c.stores.map ptL) kS) (.sl 9 xT kT))),(1,.arr ((A++c.rob++B).map enL) 17)]) (σ:=λ z=>z) ⟨rfl,rfl⟩ rfl (cF (λ z=>z) rfl rfl wH rfl)
   ·have h5p:=kY h5;refine aE<|aG rfl<|rV (vB (((dZ c.bus).2.1.kind)==3)) rfl<|oR 1 rfl<|rE 32 ?_;refine aU rfl (λ h6=>?_) (λ h6=>?_)
    ·have h6p:=kX h6;refine aG rfl<|oR 3 rfl<|eE (args:=[.ptr 0 0,vU ((dZ c.bus).2.1.line)]) (d:=87) _ rfl rfl rfl ((Vr (iZ c) nb (zB hm) (dZ c.bus).2.1.line (vO hm.ok.buso).2.2 lo n kR ((A++c.rob++B).map enL) kF xF kS (c.stores.map ptL) kT xT).frameB (λ z=>z) _ _ rfl ⟨⟨rfl,rfl,rfl,rfl⟩,⟨rfl,rfl,rfl,rfl⟩,trivial⟩ rfl rfl rfl rfl) ?_;rintro _ _ ⟨rfl,rfl⟩;refine rE 36 ?_;have e0:=iR c;have ee:jK c=DE (iZ c) (dZ c.bus).2.1.line:=(((((e0.trans (if_pos (dB (qU h1)))).trans (if_neg h2p)).trans (if_neg h5p)).trans (if_pos h6p))).trans (pY _ _).symm;rw[ee];exact oX (rs:=[]) rfl (r:=.tup []) (h':=heapF [(0,.box (mcX (DE (iZ c) (dZ c.bus).2.1.line) (.osl 1 lo n kR) (.sl 2 xF kF) (.sl 2 (c.stores.map ptL) kS) (.sl 9 xT kT))),(1,.arr ((A++c.rob++B).map enL) 17)]) (σ:=λ z=>z) ⟨rfl,rfl⟩ rfl (cF (λ z=>z) rfl rfl wH rfl)
    ·have h6p:=kY h6;refine aE<|aG rfl<|rV (vB (((dZ c.bus).2.1.kind)==4)) rfl<|oR 1 rfl<|rE 34 ?_;refine aU rfl (λ h7=>?_) (λ h7=>?_)
     ·have h7p:=kX h7;refine aG rfl<|oR 10 rfl<|rV (.agg [vU ((dZ c.bus).2.1.line),.v (.string ((dZ c.bus).2.1.data))]) rfl<|rV (.sl 2 ([[vU ((dZ c.bus).2.1.line),.v (.string ((dZ c.bus).2.1.data))]]) true) rfl<|rCi rfl (OK c.mem [⟨(dZ c.bus).2.1.line,(dZ c.bus).2.1.data⟩] true (by have:=hm.mem;omega) (by show 1≤1000000;decide) (nU (P:=Pt.ok) ⟨(vO hm.ok.buso).2.2⟩))<|oR 3 rfl<|rSx 0 (mcX ({c with bus:=(dZ c.bus).1,mem:=qV c.mem [⟨(dZ c.bus).2.1.line,(dZ c.bus).2.1.data⟩]}:Co) (.osl 1 lo n kR) (.sl 2 xF kF) (.sl 2 (c.stores.map ptL) kS) (.sl 9 xT kT)) rfl rfl rfl<|rE 51 ?_;have e0:=iR c;have ee:jK c={iZ c with mem:=qV c.mem [⟨(dZ c.bus).2.1.line,(dZ c.bus).2.1.data⟩]}:=(((((e0.trans (if_pos (dB (qU h1)))).trans (if_neg h2p)).trans (if_neg h5p)).trans (if_neg h6p)).trans (if_pos h7p));rw[ee];exact oX (rs:=[]) rfl (r:=.tup []) (h':=heapF [(0,.box (mcX ({iZ c with mem:=qV c.mem [⟨(dZ c.bus).2.1.line,(dZ c.bus).2.1.data⟩]}) (.osl 1 lo n kR) (.sl 2 xF kF) (.sl 2 (c.stores.map ptL) kS) (.sl 9 xT kT))),(1,.arr ((A++c.rob++B).map enL) 17)]) (σ:=λ z=>z) ⟨rfl,rfl⟩ rfl (cF (λ z=>z) rfl rfl wH rfl)
     ·have h7p:=kY h7;refine aZ ?_;have e0:=iR c;have ee:jK c=(iZ c):=(((((e0.trans (if_pos (dB (qU h1)))).trans (if_neg h2p)).trans (if_neg h5p)).trans (if_neg h6p)).trans (if_neg h7p));rw[ee];exact oX (rs:=[]) rfl (r:=.tup []) (h':=heapF [(0,.box (mcX ((iZ c)) (.osl 1 lo n kR) (.sl 2 xF kF) (.sl 2 (c.stores.map ptL) kS) (.sl 9 xT kT))),(1,.arr ((A++c.rob++B).map enL) 17)]) (σ:=λ z=>z) ⟨rfl,rfl⟩ rfl (cF (λ z=>z) rfl rfl wH rfl)
theorem NW(c:Co)(nb:Nat)(hm:c.okM nb)(h0:c.rob=[])(kF kS kT:Bool)(xF xT:List (List AV)):pJ C0.P C0.G 52 [.ptr 0 0] (heapF [(0,.box (mcX c (.sl 17 [] false) (.sl 2 xF kF) (.sl 2 (c.stores.map ptL) kS) (.sl 9 xT kT)))]) 1 (λ x h'=>x=.tup []∧h'=heapF [(0,.box (mcX (jK c) (.sl 17 [] false) (.sl 2 xF kF) (.sl 2 (c.stores.map ptL) kS) (.sl 9 xT kT)))]):=by
 refine HCall.intro (C:=C1) (s:=1) c1Ok.at Tryz.func52 rfl rfl (by kernel_rfl) rfl rfl<|aE<|aG rfl<|oR 5 rfl<|rCi rfl (SD c.bus false (by have:=hm.bus;omega) hm.ok.buso)<|oR 4 rfl<|rAl 11 rfl rfl<|oR 1 rfl<|rSt rfl<|oR 1 rfl<|rE 15<|aE<|aG rfl<|oR 5 rfl<|rSx 0 (mcX ({c with bus:=(dZ c.bus).1}:Co) (.sl 17 (([]:List Ent).map enL) false) (.sl 2 xF kF) (.sl 2 (c.stores.map ptL) kS) (.sl 9 xT kT)) rfl rfl rfl<|rE 21 ?_;refine aE<|aE<|aG rfl<|oR 2 rfl<|rE 23 ?_;refine aU rfl (λ h1=>?_) (λ h1=>?_)
 ·refine cT ?_;have e0:=iR c;have ee:jK c=(iZ c):=e0.trans (if_neg (by rw[DL h1];decide));rw[ee];exact oX (rs:=[]) rfl (r:=.tup []) (h':=heapF [(0,.box (mcX ((iZ c)) (.sl 17 [] false) (.sl 2 xF kF) (.sl 2 (c.stores.map ptL) kS) (.sl 9 xT kT)))]) (σ:=λ z=>z) ⟨rfl,rfl⟩ rfl (cF (λ z=>z) rfl rfl wH rfl)
 ·refine aZ<|aE<|aG rfl<|oR 2 rfl<|rE 25<|bI<|aE<|aG rfl<|rV (vB (((dZ c.bus).2.1.kind)==1)) rfl<|oR 1 rfl<|rE 27 ?_;refine aU rfl (λ h2=>?_) (λ h2=>?_)
  ·have h2p:=kX h2;refine aE<|aG rfl<|oR 5 rfl<|rW (vN 0) rfl (sJ enL ([]:List Ent) omT)<|oR 1 rfl<|rE 34<|bI<|qW (κ:=Nat) (λ k=>⟨cI [(0,.ptr 0 0),(3,.ptr 11 0),(23,vB (!((dZ c.bus).2.2))),(25,vI ((dZ c.bus).2.1.kind)),(26,vB (((dZ c.bus).2.1.kind)==1)),(32,.sl 17 (([]:List Ent).map enL) false),(33,vN 0),(34,vN k)],heapF [(0,.box (mcX ({c with bus:=(dZ c.bus).1}:Co) (.sl 17 (([]:List Ent).map enL) false) (.sl 2 xF kF) (.sl 2 (c.stores.map ptL) kS) (.sl 9 xT kT))),(11,.box (rqL ((dZ c.bus).2.1)))],34⟩) (λ k=>k≤0) (λ k=>0 - k) 0 (λ s=>s) (Weak.of_lists (λ s=>s) wT wH rfl) rfl (aF _) ?_;intro k hk;have hkn:k≤0:=hk;have hkB:k≤1000:=by omega
   refine aE<|aG rfl<|rW (vB (decide (k<0))) rfl (okB (ltN _ _))<|rE 35<|aE ?_;refine aU rfl (λ h3=>by exact absurd (of_decide_eq_true h3) (dX _)) (λ _=>?_);refine eA ?_;have e0:=iR c;have ee:jK c={iZ c with rob:=c.rob.map (vD (iZ c) (dZ c.bus).2.1.line)}:=((e0.trans (if_pos (dB (qU h1)))).trans (if_pos h2p));rw[ee];exact oX (rs:=[]) rfl (r:=.tup []) (h':=heapF [(0,.box (mcX ({iZ c with rob:=c.rob.map (vD (iZ c) (dZ c.bus).2.1.line)}) (.sl 17 [] false) (.sl 2 xF kF) (.sl 2 (c.stores.map ptL) kS) (.sl 9 xT kT)))]) (σ:=λ z=>z) ⟨rfl,rfl⟩ rfl (cF (λ z=>z) rfl rfl wH rfl)
  ·have h2p:=kY h2;refine aE<|aG rfl<|rV (vB (((dZ c.bus).2.1.kind)==2)) rfl<|oR 1 rfl<|rE 29 ?_;refine aU rfl (λ h4=>?_) (λ h4=>?_)
   ·have h4p:=kX h4;refine aG rfl<|oR 8 rfl<|rCi rfl (OP c.words (dZ c.bus).2.1.line mH false hm.ok.words (vO hm.ok.buso).2.2)<|oR 7 rfl<|rSx 0 (mcX ({c with words:=(qF c.words (dZ c.bus).2.1.line mH false).1,bus:=(dZ c.bus).1}:Co) (.sl 17 (([]:List Ent).map enL) false) (.sl 2 xF kF) (.sl 2 (c.stores.map ptL) kS) (.sl 9 xT kT)) rfl rfl rfl<|rE 46 ?_;have e0:=iR c;have ee:jK c={iZ c with words:=(qF c.words (dZ c.bus).2.1.line mH false).1}:=(((e0.trans (if_pos (dB (qU h1)))).trans (if_neg h2p)).trans (if_pos h4p));rw[ee];exact oX (rs:=[]) rfl (r:=.tup []) (h':=heapF [(0,.box (mcX ({iZ c with words:=(qF c.words (dZ c.bus).2.1.line mH false).1}) (.sl 17 [] false) (.sl 2 xF kF) (.sl 2 (c.stores.map ptL) kS) (.sl 9 xT kT)))]) (σ:=λ z=>z) ⟨rfl,rfl⟩ rfl (cF (λ z=>z) rfl rfl wH rfl)
   ·have h4p:=kY h4;refine aE<|aG rfl<|rV (vB (((dZ c.bus).2.1.kind)==3)) rfl<|oR 1 rfl<|rE 31 ?_;refine aU rfl (λ h5=>?_) (λ h5=>?_)
    ·have h5p:=kX h5;refine aG rfl<|oR 3 rfl<|eE (args:=[.ptr 0 0,vU ((dZ c.bus).2.1.line)]) (d:=87) _ rfl rfl rfl ((WR (iZ c) nb (zB hm) (dZ c.bus).2.1.line (vO hm.ok.buso).2.2 false [] kF xF kS (c.stores.map ptL) kT xT).frameB (λ z=>z) _ _ rfl ⟨⟨rfl,rfl,rfl,rfl⟩,trivial⟩ rfl rfl rfl rfl) ?_;rintro _ _ ⟨rfl,rfl⟩;refine rE 35 ?_;have e0:=iR c;have ee:jK c=DE (iZ c) (dZ c.bus).2.1.line:=(((((e0.trans (if_pos (dB (qU h1)))).trans (if_neg h2p)).trans (if_neg h4p)).trans (if_pos h5p))).trans (pY _ _).symm;rw[ee];exact oX (rs:=[]) rfl (r:=.tup []) (h':=heapF [(0,.box (mcX (DE (iZ c) (dZ c.bus).2.1.line) (.sl 17 [] false) (.sl 2 xF kF) (.sl 2 (c.stores.map ptL) kS) (.sl 9 xT kT)))]) (σ:=λ z=>z) ⟨rfl,rfl⟩ rfl (cF (λ z=>z) rfl rfl wH rfl)
    ·have h5p:=kY h5;refine aE<|aG rfl<|rV (vB (((dZ c.bus).2.1.kind)==4)) rfl<|oR 1 rfl<|rE 33 ?_;refine aU rfl (λ h6=>?_) (λ h6=>?_)
     ·have h6p:=kX h6;refine aG rfl<|oR 10 rfl<|rV (.agg [vU ((dZ c.bus).2.1.line),.v (.string ((dZ c.bus).2.1.data))]) rfl<|rV (.sl 2 ([[vU ((dZ c.bus).2.1.line),.v (.string ((dZ c.bus).2.1.data))]]) true) rfl<|rCi rfl (OK c.mem [⟨(dZ c.bus).2.1.line,(dZ c.bus).2.1.data⟩] true (by have:=hm.mem;omega) (by show 1≤1000000;decide) (nU (P:=Pt.ok) ⟨(vO hm.ok.buso).2.2⟩))<|oR 3 rfl<|rSx 0 (mcX ({c with bus:=(dZ c.bus).1,mem:=qV c.mem [⟨(dZ c.bus).2.1.line,(dZ c.bus).2.1.data⟩]}:Co) (.sl 17 (([]:List Ent).map enL) false) (.sl 2 xF kF) (.sl 2 (c.stores.map ptL) kS) (.sl 9 xT kT)) rfl rfl rfl<|rE 50 ?_;have e0:=iR c;have ee:jK c={iZ c with mem:=qV c.mem [⟨(dZ c.bus).2.1.line,(dZ c.bus).2.1.data⟩]}:=(((((e0.trans (if_pos (dB (qU h1)))).trans (if_neg h2p)).trans (if_neg h4p)).trans (if_neg h5p)).trans (if_pos h6p));rw[ee];exact oX (rs:=[]) rfl (r:=.tup []) (h':=heapF [(0,.box (mcX ({iZ c with mem:=qV c.mem [⟨(dZ c.bus).2.1.line,(dZ c.bus).2.1.data⟩]}) (.sl 17 [] false) (.sl 2 xF kF) (.sl 2 (c.stores.map ptL) kS) (.sl 9 xT kT)))]) (σ:=λ z=>z) ⟨rfl,rfl⟩ rfl (cF (λ z=>z) rfl rfl wH rfl)
     ·have h6p:=kY h6;refine aZ ?_;have e0:=iR c;have ee:jK c=(iZ c):=(((((e0.trans (if_pos (dB (qU h1)))).trans (if_neg h2p)).trans (if_neg h4p)).trans (if_neg h5p)).trans (if_neg h6p));rw[ee];exact oX (rs:=[]) rfl (r:=.tup []) (h':=heapF [(0,.box (mcX ((iZ c)) (.sl 17 [] false) (.sl 2 xF kF) (.sl 2 (c.stores.map ptL) kS) (.sl 9 xT kT)))]) (σ:=λ z=>z) ⟨rfl,rfl⟩ rfl (cF (λ z=>z) rfl rfl wH rfl)
theorem EB{c:Co}{n:Nat}{s:Sp}(h:c.okM n)(hb:n+1≤890000)(hs:s.ok):(iS c s).okM (n+1):=by
 have hr:(c.retired++[s]).length≤n+1:=by have:=h.ok.ret;simp;omega
 exact⟨⟨h.ok.conf,h.ok.prog,h.ok.progo,h.ok.r,h.ok.fetch,aF _,(λ x hx=>by cases hx),aF _,(λ x hx=>by cases hx),h.ok.sto,h.ok.stoo,h.ok.data,h.ok.words,pT h.ok.bus,h.ok.buso,h.ok.asked,h.ok.guessed,h.ok.mem,h.ok.guess,hr,nQ h.ok.reto (nU (P:=Sp.ok) hs)⟩,hb,h.cf,h.data,h.words,h.guess,aF _,aF _,h.sto,h.prog,h.mem,h.std⟩
theorem zA:∀ {n:Nat} {c:Co} {m:Nat},c.okM m→m+2 * n≤890000→(dV n c).okM (m+2 * n)
 |0,_,_,h,_=>h
 | n + 1,c,m,h,hb=>by
  have hmn:m≤m+2 * (n+1):=by omega
  by_cases h0:c.halt≠0∨c.rob.length=0
  ·rw[jJ h0];exact h.mono hmn hb
  ·have hx:c.rob[0]?=some (c.rob[0]'omT):=aA omT;have he:=Tz h hx;rw[eV omT (λ q=>h0 (.inl q)) hx];split
   ·exact h.mono hmn hb
   ·split
    ·exact (EB h omT (cV he)).mono omT hb
    ·split
     ·exact h.mono hmn hb
     ·rename_i hs;have hst:(aP (c.rob[0]'omT)).store=true→c.stores.length≤999:=λ q=>by
       have:=oQ h.cf;have: ¬ (c.stores.length:Int)≥c.conf.stores:=λ z=>hs ⟨q,z⟩;omega
      rw[iC,show m+2 * (n+1)=(m+2)+2 * n by omega];by_cases hk:kindOf (c.rob[0]'omT).i.op=3
      ·rw[rB hk];exact zA (sF h omT he hst) omT
      ·rw[rA hk];exact zA (sE h omT he hst) omT
theorem QV{c:Co}{n:Nat}(h:c.okM n):c.conf.width.toNat≤2:=by have:=oQ h.cf;omega
theorem Gt{c:Co}{m:Nat}(h:c.okM m)(hb:m+4≤890000):(dN c).okM (m+4):=by
 have hw:=QV h;exact (zA h omT).mono omT hb
theorem Dy:∀ {p:List Nat} {c:Co} {m:Nat},c.okM m→m+p.length≤890000→(p.foldl gF c).okM (m+p.length)
 |[],_,_,h,_=>h
 |i::p,c,m,h,hb=>by
  have hl:(i::p).length=p.length+1:=rfl;rw[hl]at hb⊢;rw[show m+(p.length+1)=(m+1)+p.length by omega];exact Dy (xJ h omT i).1 omT
theorem Id{c:Co}{m:Nat}(h:c.okM m)(hb:m+2≤890000):(fJ c).okM (m+2):=by
 by_cases hh:c.halt≠0
 ·rw[show fJ c=c from if_pos hh];exact h.mono omT hb
 ·obtain⟨p, -,hp, -,hl⟩:=zE (k:=c.rob.length) h.cf hh rfl;rw[hp];exact (Dy h omT).mono omT hb
theorem Ci:∀ {p:List Nat} {c:Co} {m:Nat},c.okM m→m+p.length≤890000→(p.foldl gF c).rob.length=c.rob.length∧(p.foldl gF c).stores=c.stores∧(p.foldl gF c).fetched=c.fetched∧(p.foldl gF c).retired=c.retired
 |[],_,_,_,_=>⟨rfl,rfl,rfl,rfl⟩
 |i::p,c,m,h,hb=>by
  have hl:(i::p).length=p.length+1:=rfl;rw[hl]at hb;have hs:=xJ h omT i;have ih:=Ci (p:=p) hs.1 omT;exact⟨ih.1.trans hs.2.1,ih.2.1.trans hs.2.2.2.1,ih.2.2.1.trans hs.2.2.2.2.1,ih.2.2.2.trans hs.2.2.2.2.2⟩
theorem fV{c:Co}{m:Nat}(h:c.okM m)(hb:m+2≤890000):(fJ c).rob.length=c.rob.length∧(fJ c).stores=c.stores∧(fJ c).fetched=c.fetched∧(fJ c).retired=c.retired:=by
 by_cases hh:c.halt≠0
 ·rw[show fJ c=c from if_pos hh];exact⟨rfl,rfl,rfl,rfl⟩
 ·obtain⟨p, -,hp, -,hl⟩:=zE (k:=c.rob.length) h.cf hh rfl;rw[hp];exact Ci h omT
theorem Dz:∀ {n:Nat} {c:Co} {m:Nat},c.okM m→(jL n c).okM m∧(jL n c).stores=c.stores∧(jL n c).retired=c.retired
 |0,_,_,h=>⟨h,rfl,rfl⟩
 | n+1,c,m,h=>by
  by_cases h0:(c.rob.length:Int)≥c.conf.rob∨c.fetched.length=0
  ·rw[tH h0];exact⟨h,rfl,rfl⟩
  ·have hx:c.fetched[0]?=some (c.fetched[0]'omT):=aA omT;have hf:=h.ok.feto _ (aB hx);have hr:c.rob.length≤999:=by have:=oQ h.cf;omega
   have e:=wM (n:=n+1) (k:=0) omT (λ q=>h0 (.inl q)) hx;rw[show n+1 - (0+1)=n by omega,show n+1 - 0=n+1 by omega]at e;rw[←e];have ih:=Dz (n:=n) (BM h hf hr);exact⟨ih.1,ih.2.1,ih.2.2⟩
theorem tD{c:Co}{m:Nat}(h:c.okM m):(iY c).okM m∧(iY c).stores=c.stores∧(iY c).retired=c.retired:=by
 unfold iY;split
 ·exact⟨h,rfl,rfl⟩
 ·exact Dz h
theorem JN(c:Co)(w:Nat):(cN c w).1.stores=c.stores∧(cN c w).1.retired=c.retired∧(cN c w).1.rob=c.rob:=by
 unfold cN;split
 ·exact⟨rfl,rfl,rfl⟩
 ·split<;>exact⟨rfl,rfl,rfl⟩
theorem JO(d:Co):(wN d).stores=d.stores∧(wN d).retired=d.retired∧(wN d).rob=d.rob:=JN (gP d) (fetchW d.prog d.fetch)
theorem Ie{c:Co}{m:Nat}(h:c.okM m)(hf:c.fetched.length≤999):Co.okM {c with fetched:=c.fetched++[⟨c.fetch,up4 c.fetch⟩],stop:=true} m:=by
 have hl:(c.fetched++[(⟨c.fetch,up4 c.fetch⟩:Ft)]).length≤1000:=by simp;omega
 exact⟨⟨h.ok.conf,h.ok.prog,h.ok.progo,h.ok.r,h.ok.fetch,aL hl (by decide),nQ h.ok.feto (nU ⟨h.ok.fetch,yJ _⟩),h.ok.rob,h.ok.robo,h.ok.sto,h.ok.stoo,h.ok.data,h.ok.words,h.ok.bus,h.ok.buso,h.ok.asked,h.ok.guessed,h.ok.mem,h.ok.guess,h.ok.ret,h.ok.reto⟩,h.nb,h.cf,h.data,h.words,h.guess,h.rob,hl,h.sto,h.prog,h.mem,h.std⟩
theorem Cj:∀ {n:Nat} {c:Co} {m:Nat},c.okM m→m+1≤890000→(eB n c).okM (m+1)∧(eB n c).stores=c.stores∧(eB n c).retired=c.retired∧(eB n c).rob=c.rob
 |0,_,_,h,hb=>⟨h.mono (fF _) hb,rfl,rfl,rfl⟩
 | n +1,c,m,h,hb=>by
  have h1:=h.mono (fF m) hb;by_cases h0:c.stop=true∨(c.fetched.length:Int)≥c.conf.queue
  ·rw[rC h0];exact⟨h1,rfl,rfl,rfl⟩
  ·have hl:c.fetched.length≤999:=by have:=oQ h.cf;omega
   by_cases hf:(fetchP c.prog c.fetch).isSome=false
   ·rw[tI omT h0 hf];exact⟨Ie h1 hl,rfl,rfl,rfl⟩
   ·by_cases hw:(bE c.words (lineOf c.fetch)).2.isSome=false
    ·rw[oP omT h0 hf hw];split
     ·exact⟨rD h hb 2 (dF h.ok.fetch) mH,rfl,rfl,rfl⟩
     ·exact⟨h1,rfl,rfl,rfl⟩
    ·have e:=uN (n:=n+1) (k:=0) omT h0 hf hw;rw[show n+1 - (0+1)=n by omega,show n+1 - 0=n+1 by omega]at e;rw[←e];have ih:=Cj (n:=n) (BN h hl) hb;have hk:=JO c;exact⟨ih.1,ih.2.1.trans hk.1,ih.2.2.1.trans hk.2.1,ih.2.2.2.trans hk.2.2⟩
theorem mX{c:Co}{m:Nat}(h:c.okM m)(hb:m+1≤890000):(dW c).okM (m+1)∧(dW c).stores=c.stores∧(dW c).retired=c.retired∧(dW c).rob=c.rob:=by
 unfold dW;split
 ·exact⟨h.mono (fF _) hb,rfl,rfl,rfl⟩
 ·exact Cj h hb
theorem Ig{c:Co}{m:Nat}(h:c.okM m)(hb:m+1≤890000):(oG c).okM (m+1)∧(oG c).fetched=c.fetched∧(oG c).retired=c.retired∧(oG c).rob=c.rob∧(oG c).stores=c.stores:=by
 unfold oG
 cases hs:c.stores with
 |nil=>exact⟨h.mono (fF _) hb,rfl,rfl,rfl,hs⟩
 |cons p l=>
  dsimp only;split
  ·exact⟨rD h hb 3 (dF (h.ok.stoo p (by rw[hs];exact bO ..)).addr) mH,rfl,rfl,rfl,hs⟩
  ·exact⟨h.mono (fF _) hb,rfl,rfl,rfl,hs⟩
theorem DA{c:Co}{m:Nat}(h:c.okM m)(hb:m+1≤890000):(kP c).okM (m+1)∧(kP c).fetched=c.fetched∧(kP c).retired=c.retired∧(kP c).rob=c.rob∧(kP c).stores=c.stores:=by
 have h1:=h.mono (fF m) hb;unfold kP;split
 ·exact⟨h1,rfl,rfl,rfl,rfl⟩
 ·by_cases hq:(cP c.data).isSome=true∧((cP c.data).getD pC).data.size≠0
  ·rw[tV hq];have ha:=rD h hb 4 h.gd.dirtyLe ((cP c.data).getD pC).data;have g:=WS.1 (h.gd.clean ((cP c.data).getD pC).line);exact⟨⟨⟨ha.ok.conf,ha.ok.prog,ha.ok.progo,ha.ok.r,ha.ok.fetch,ha.ok.fet,ha.ok.feto,ha.ok.rob,ha.ok.robo,ha.ok.sto,ha.ok.stoo,g.2,ha.ok.words,ha.ok.bus,ha.ok.buso,ha.ok.asked,ha.ok.guessed,ha.ok.mem,ha.ok.guess,ha.ok.ret,ha.ok.reto⟩,hb,ha.cf,g.1,ha.words,ha.guess,ha.rob,ha.fet,ha.sto,ha.prog,ha.mem,ha.std⟩,rfl,rfl,rfl,rfl⟩
  ·rw[vP hq];exact⟨h1,rfl,rfl,rfl,rfl⟩
theorem oN{c:Co}{m:Nat}(h:c.okM m)(hb:m+2≤890000):(pZ c).okM (m+2)∧(pZ c).fetched=c.fetched∧(pZ c).retired=c.retired∧(pZ c).rob=c.rob:=by
 rw[jW];have h0:=eN h;split
 ·have ha:=Ig h0 omT;have hB:=DA ha.1 omT;exact⟨hB.1,hB.2.1.trans ha.2.1,hB.2.2.1.trans ha.2.2.1,hB.2.2.2.1.trans ha.2.2.2.1⟩
 ·have hB:=DA h0 omT;exact⟨hB.1.mono omT hb,hB.2.1,hB.2.2.1,hB.2.2.2.1⟩
theorem iQ(c:Co):(jK c).fetched=c.fetched∧(jK c).stores=c.stores∧(jK c).retired=c.retired∧(jK c).rob.length=c.rob.length:=by
 rw[iR];split
 ·unfold BR
  repeat' split
  ·exact⟨rfl,rfl,rfl,aO ..⟩
  ·exact⟨rfl,rfl,rfl,rfl⟩
  ·rw[←pY];exact⟨rfl,rfl,rfl,rfl⟩
  ·exact⟨rfl,rfl,rfl,rfl⟩
  ·exact⟨rfl,rfl,rfl,rfl⟩
 ·exact⟨rfl,rfl,rfl,rfl⟩
theorem eU(c:Co):(iE c).stores=c.stores∧(iE c).retired=c.retired:=by
 unfold iE;split
 ·exact⟨rfl,rfl⟩
 ·split<;>exact⟨rfl,rfl⟩
theorem Dx{c:Co}{n:Nat}(h:c.ok n)(hb:n≤890000)(hr:fK c=true):c.okM n:=by
 unfold fK at hr;simp only[aK,bC]at hr;obtain⟨⟨⟨⟨⟨⟨⟨⟨⟨⟨⟨h1,h2⟩,h3⟩,h4⟩,h5⟩,h6⟩,h7⟩,h8⟩,h9⟩,h10⟩,h11⟩,h12⟩:=hr;unfold zK at h7 h8;simp only[aK,bC]at h7 h8;have hc:=oQ h1;have hm:c.mem.size≤256:=by
  have e:c.mem.toList=(qQ c.mem).toList:=by simpa using h3
  have e2:c.mem.size=(qQ c.mem).size:=by rw[←sI, ←sI (qQ c.mem),e]
  rw[e2,xY];unfold upS;repeat' split
  all_goals omega
 have hs:∀ x∈c.stores,x.data.size≤4:=λ x hx=>by
  have:=qI.1 h12 x hx;unfold oU at this;simp only[aK,bC]at this;omega
 exact⟨h,hb,h1,h7.1.1,h8.1.1,h9,by omega,by omega,by omega,by omega,hm,hs⟩
def WQ(K:AH)(m b1 s2:Nat)(c:Co)(F S T:AV)(h':AH):Prop:=
 (c.rob=[]∧h'=upd K m (some (.box (mcX c (.sl 17 [] false) F S T))))∨
 ∃ (b:Nat) (A B:List Ent) (k:Bool),(b=b1∨b=s2)∧A.length+c.rob.length+B.length≤1000∧h'=upd (upd K m (some (.box (mcX c (.osl b A.length c.rob.length k) F S T)))) b (some (.arr ((A++c.rob++B).map enL) 17))
theorem Gq{f:FuncId}{b0:Blk}{c:Co}{kF kS kT:Bool}{xF xS xT:List (List AV)}(H:pJ C0.P C0.G f [.ptr 0 0] (heapF [(0,b0)]) 1 (λ x h'=>x=.tup []∧Sw 1 c (.sl 2 xF kF) (.sl 2 xS kS) (.sl 9 xT kT) h'))(m:Nat)(K:AH)(s2:Nat)(hL:FrL (λ _=>m) K 1 s2 [(0,b0)]):
  pJ C0.P C0.G f [.ptr m 0] K s2 (λ x h'=>x=.tup []∧WQ K m s2 s2 c (.sl 2 xF kF) (.sl 2 xS kS) (.sl 9 xT kT) h'):=by
 have hm:m<s2:=aR hL.1.1;refine H.frameL (λ _=>m) K s2 rfl hL rfl rfl _ λ r' h' hP=>?_;obtain⟨rfl,hP⟩:=hP;rcases hP with ⟨h0,rfl⟩|⟨b,A,B,k,hb,hl,rfl⟩
 ·refine⟨_,⟨rfl,.inl ⟨h0,rfl⟩⟩,λ y blk hy=>?_⟩;by_cases he:y=m
  ·subst he;rw[dA]at hy;injection hy with hy;subst hy;exact .inl ⟨0,_,rfl,rfl,rfl⟩
  ·rw[cE _ _ he]at hy;exact .inr ⟨hy,λ x _ e=>he e.symm⟩
 ·have hb1:b=1:=by omega
  subst hb1;refine⟨_,⟨rfl,.inr ⟨s2,A,B,k,.inr rfl,hl,rfl⟩⟩,λ y blk hy=>?_⟩;by_cases hs:y=s2
  ·subst hs;rw[dA]at hy;injection hy with hy;subst hy;exact .inl ⟨1,_,rfl,(uT _ _ _).symm,rfl⟩
  ·rw[cE _ _ hs]at hy;by_cases he:y=m
   ·subst he;rw[dA]at hy;injection hy with hy;subst hy;exact .inl ⟨0,_,rfl,rfl,rfl⟩
   ·rw[cE _ _ he]at hy;exact .inr ⟨hy,λ x _ e=>he e.symm⟩
theorem Gr{f:FuncId}{b0 b1:Blk}{c:Co}{kF kS kT:Bool}{xF xS xT:List (List AV)}(H:pJ C0.P C0.G f [.ptr 0 0] (heapF [(0,b0),(1,b1)]) 2 (λ x h'=>x=.tup []∧Sw 2 c (.sl 2 xF kF) (.sl 2 xS kS) (.sl 9 xT kT) h'))(m nb:Nat)(K:AH)(s2:Nat)(hL:FrL (λ z=>match z with|0=>m|_=>nb) K 2 s2 [(0,b0),(1,b1)])(hne:m≠nb):
  pJ C0.P C0.G f [.ptr m 0] K s2 (λ x h'=>x=.tup []∧WQ (upd K nb none) m nb s2 c (.sl 2 xF kF) (.sl 2 xS kS) (.sl 9 xT kT) h'):=by
 have hm:m<s2:=aR hL.1.1;have hn:nb<s2:=aR hL.2.1.1;have hi:RI (λ z=>match z with|0=>m|_=>nb) 2=true:=by
  have:Nat.beq m nb=false:=by rw[←eI];exact λ e=>hne (aM e)
  simp[RI,List.range,List.range.loop,this]
 have hr0:∀ y, ¬ y=m→ ¬ y=nb→∀ x,x<2→(λ z=>match z with|0=>m|_=>nb) x≠y:=by
  intro y h1 h2 x _ e
  cases x with
  |zero=>exact h1 e.symm
  |succ x=>exact h2 e.symm
 refine H.frameL (λ z=>match z with|0=>m|_=>nb) K s2 rfl hL hi rfl _ λ r' h' hP=>?_;obtain⟨rfl,hP⟩:=hP;rcases hP with ⟨h0,rfl⟩|⟨b,A,B,k,hb,hl,rfl⟩
 ·refine⟨_,⟨rfl,.inl ⟨h0,rfl⟩⟩,λ y blk hy=>?_⟩;by_cases he:y=m
  ·subst he;rw[dA]at hy;injection hy with hy;subst hy;exact .inl ⟨0,_,rfl,rfl,rfl⟩
  ·rw[cE _ _ he]at hy;by_cases hq:y=nb
   ·subst hq;rw[dA]at hy;cases hy
   ·rw[cE _ _ hq]at hy;exact .inr ⟨hy,hr0 y he hq⟩
 ·have hb2:b=1∨b=2:=by omega
  have key:∀ bn,bn=EJ (λ z=>match z with|0=>m|_=>nb) 2 s2 b→(bn=nb∨bn=s2)→∃ K',((uK (EJ (λ z=>match z with|0=>m|_=>nb) 2 s2) (.tup [])=.tup [])∧WQ (upd K nb none) m nb s2 c (.sl 2 xF kF) (.sl 2 xS kS) (.sl 9 xT kT) K')∧∀ y blk,K' y=some blk→(∃ x blk0,heapF [(0,.box (mcX c (.osl b A.length c.rob.length k) (.sl 2 xF kF) (.sl 2 xS kS) (.sl 9 xT kT))),(b,.arr ((A++c.rob++B).map enL) 17)] x=some blk0∧y=EJ (λ z=>match z with|0=>m|_=>nb) 2 s2 x∧blk=Ew (EJ (λ z=>match z with|0=>m|_=>nb) 2 s2) blk0)∨(K y=some blk∧∀ x,x<2→(λ z=>match z with|0=>m|_=>nb) x≠y):=by
   intro bn hbn hor;refine⟨_,⟨rfl,.inr ⟨bn,A,B,k,hor,hl,rfl⟩⟩,λ y blk hy=>?_⟩;by_cases hs:y=bn
   ·subst hs;rw[dA]at hy;injection hy with hy;subst hy;refine .inl ⟨b,.arr ((A++c.rob++B).map enL) 17,?_,hbn,rfl⟩;rcases hb2 with rfl|rfl<;>rfl
   ·rw[cE _ _ hs]at hy;by_cases he:y=m
    ·subst he;rw[dA]at hy;injection hy with hy;subst hy;refine .inl ⟨0,_,rfl,rfl,?_⟩;rw[hbn];rfl
    ·rw[cE _ _ he]at hy;by_cases hq:y=nb
     ·subst hq;rw[dA]at hy;cases hy
     ·rw[cE _ _ hq]at hy;exact .inr ⟨hy,hr0 y he hq⟩
  rcases hb2 with rfl|rfl
  ·exact key nb rfl (.inl rfl)
  ·exact key s2 rfl (.inr rfl)
theorem Vq{f:FuncId}{b0:Blk}{n:Nat}{c:Co}{kF kS kT:Bool}{xF xS xT:List (List AV)}{rows:List (List AV)}(H:pJ C0.P C0.G f [.ptr 0 0] (heapF [(0,b0)]) 1 (λ x h'=>x=.tup []∧h'=heapF [(0,.box (mcX c (.osl 1 0 n false) (.sl 2 xF kF) (.sl 2 xS kS) (.sl 9 xT kT))),(1,.arr rows 17)]))(m:Nat)(K:AH)(s2:Nat)(hL:FrL (λ _=>m) K 1 s2 [(0,b0)]):
  pJ C0.P C0.G f [.ptr m 0] K s2 (λ x h'=>x=.tup []∧h'=upd (upd K m (some (.box (mcX c (.osl s2 0 n false) (.sl 2 xF kF) (.sl 2 xS kS) (.sl 9 xT kT))))) s2 (some (.arr rows 17))):=by
 have hm:m<s2:=aR hL.1.1;refine H.frameL (λ _=>m) K s2 rfl hL rfl rfl _ λ r' h' hP=>?_;obtain⟨rfl,rfl⟩:=hP;refine⟨_,⟨rfl,rfl⟩,λ y blk hy=>?_⟩;by_cases hs:y=s2
 ·subst hs;rw[dA]at hy;injection hy with hy;subst hy;exact .inl ⟨1,_,rfl,(uT _ _ _).symm,rfl⟩
 ·rw[cE _ _ hs]at hy;by_cases he:y=m
  ·subst he;rw[dA]at hy;injection hy with hy;subst hy;exact .inl ⟨0,_,rfl,rfl,rfl⟩
  ·rw[cE _ _ he]at hy;exact .inr ⟨hy,λ x _ e=>he e.symm⟩
end Go.Proofs.YtlhofpglndhfaaaGreatDoor
