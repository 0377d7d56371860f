/- Joined texts. -/
import Derived.Test.YtlhofpglndhfaaaGreatDoorS1
import Derived.Test.YtlhofpglndhfaaaGreatDoorS32
import Derived.Test.YtlhofpglndhfaaaGreatDoorS45
namespace Go.Proofs.YtlhofpglndhfaaaGreatDoor
open Go.RowKit
def gM{α:Type}(f:α→α)(l:List α)(k:Nat):List α:=(l.take k).map f++l.drop k
theorem Qh{α:Type}{f:α→α}{l:List α}{k:Nat}:(gM f l k).length=l.length:=by unfold gM;simp;omega
theorem yN{α:Type}{f:α→α}{l:List α}{k:Nat}(h:l.length≤k):gM f l k=l.map f:=by
 unfold gM;rw[Te h,Ug h,Ul]
theorem LU{α:Type}{f:α→α}{l:List α}{k:Nat}:(gM f l k)[k]?=l[k]? :=by
 unfold gM;rcases al_Nat_lt_or_ge k l.length with h|h
 ·have hl:((l.take k).map f).length=k:=by rw[Td,Tg];omega
  rw[TA omT,hl,UI,TS,UH]
 ·rw[Ug h,Ul,Tx (by simp;omega),Tx h]
theorem uD{α:Type}{f:α→α}{l:List α}{k:Nat}{x:α}(h:(gM f l k)[k]?=some x):(gM f l k).set k (f x)=gM f l (k+1):=by
 rw[LU]at h;obtain⟨hk,rfl⟩:=WB.1 h;have hl:((l.take k).map f).length=k:=by rw[Td,Tg];omega
 unfold gM;rw[Uf hk,Va _ _ omT,hl,UI,UY,TD,SS hk,Ux,Uq];rfl
theorem Hh{α:Type}{f:α→α}{l:List α}{k:Nat}{x:α}(h:(gM f l k)[k]?=some x)(he:f x=x):gM f l k=gM f l (k+1):=by
 rw[←uD h,he];obtain⟨hk,rfl⟩:=WB.1 h;exact (List.set_getElem_self hk).symm
theorem BX{α:Type}{P:α→Prop}{f:α→α}{l:List α}(hf:∀ x,P x→P (f x))(h:∀ x∈l,P x)(k:Nat):∀ x∈gM f l k,P x:=by
 intro x hx;rcases al_List_mem_append.1 hx with hx|hx
 ·obtain⟨y,hy,rfl⟩:=Wo.1 hx;exact hf y (h y (TH hy))
 ·exact h x (Uk hx)
theorem Jd{e:Ent}(h:e.ok){b:Nat}(hb:b≤4294967295):(lD e b).ok:=by
 have hv:valB b (bL e.i.op)≤4294967295:=by
  have h4:=kO e.i.op;unfold valB;have:=zM (jW b (bL e.i.op)) (by rw[pW];exact h4);omega
 unfold lD;split
 ·exact h
 ·exact⟨h.pc,h.imm,h.guess,hv,h.next,h.addr⟩
theorem vF{r:Nat→Nat}{l:List Ent}{j:Nat}{x:Ent}(hx:l[j]?=some x)(h: ¬ kindOf x.i.op=4):storeAt r l j=l:=by unfold storeAt;rw[hx];exact if_neg h
theorem rA{r:Nat→Nat}{l:List Ent}{j:Nat}{x:Ent}(hx:l[j]?=some x)(h:(eM l r j x.i.rs2).isSome=false):storeAt r l j=l:=by
 unfold storeAt;rw[hx];dsimp only;split
 ·rw[show eM l r j x.i.rs2=none by simpa using h]
 ·rfl
theorem rB{r:Nat→Nat}{l:List Ent}{j:Nat}{x:Ent}(hx:l[j]?=some x)(hk:kindOf x.i.op=4)(h:(eM l r j x.i.rs2).isSome=true):storeAt r l j=l.set j (lD x ((eM l r j x.i.rs2).getD 0)):=by
 unfold storeAt;rw[hx];dsimp only;rw[if_pos hk];obtain⟨b,hb⟩:=WE.1 h;rw[hb];rfl
theorem EQ(r:Nat→Nat)(l:List Ent)(j:Nat):(storeAt r l j).length=l.length:=by
 unfold storeAt;repeat' split
 all_goals simp
theorem wB{r:Nat→Nat}{l:List Ent}:∀ {k:Nat},(aX r l k).length=l.length
 |0=>rfl
 |k+1=>(EQ ..).trans wB
theorem gT{r:Nat→Nat}{l:List Ent}(h:∀ x∈l,x.ok)(hr:∀ k,r k≤4294967295):∀ k,∀ x∈aX r l k,x.ok
 |0=>h
 | k+1=>by
  have ih:=gT h hr k;show ∀ x∈storeAt r (aX r l k) k,x.ok
  cases hx:(aX r l k)[k]? with
  |none=>unfold storeAt;rw[hx];exact ih
  | some x=>
   by_cases hk:kindOf x.i.op=4
   ·cases hq:(eM (aX r l k) r k x.i.rs2).isSome with
    |true=>rw[rB hx hk hq];exact pQ (P:=Ent.ok) ih (Jd (ih x (ST hx)) (uF ih hr _ _))
    |false=>rw[rA hx hq];exact ih
   ·rw[vF hx hk];exact ih
theorem kC{l:List Ent}(h:∀ x∈l,x.ok):∀ x∈l.map goE,x.ok:=by
 intro x hx;obtain⟨y,hy,rfl⟩:=Wo.1 hx;exact Ju (h y hy)
theorem fS(c:Co):(bJ c).length=c.rob.length:=by unfold bJ;rw[wB,Td]
theorem mK{c:Co}{n:Nat}(h:c.okM n):∀ x∈bJ c,x.ok:=gT (kC h.ok.robo) h.ok.r _
theorem yO{l:List Ent}{i:Nat}(h:oP l=some i):i<l.length:=(List.findIdx?_eq_some_iff_getElem.1 h).1
theorem FN{l:List Ent}{i:Nat}(h:i<l.length):(xI l i).length=i+1:=by
 unfold xI;rw[SS h];simp;omega
theorem Og{l:List Ent}{i:Nat}(h:∀ x∈l,x.ok):∀ x∈xI l i,x.ok:=by
 unfold xI
 cases hx:l[i]? with
 |none=>exact h
 |some e=>
  have he:=h e (ST hx);exact gE (nN h) (gF (P:=Ent.ok) ⟨he.pc,he.imm,he.next,he.value,he.next,he.addr⟩)
theorem ER{α:Type}{A l B:List α}{lo n:Nat}(hlo:A.length=lo)(hn:l.length=n):((A++l++B).drop lo).take n=l:=by
 subst hlo;subst hn;rw[Uq,List.drop_left,List.take_left]
theorem AM{c:Co}(hh: ¬ c.halt≠0)(h:oP (bJ c)=none):dR c={c with rob:=bJ c}:=by
 unfold dR;rw[if_neg hh,h]
theorem AN{c:Co}{i:Nat}{x:Ent}(hh: ¬ c.halt≠0)(h:oP (bJ c)=some i)(hx:(bJ c)[i]?=some x):dR c={c with rob:=xI (bJ c) i,fetch:=x.next,fetched:=[],stop:=false}:=by
 unfold dR;rw[if_neg hh,h];dsimp only;rw[hx]
theorem Dw{c:Co}(h:c.rob=[]):dR c=c:=by
 unfold dR bJ;rw[h];split
 ·rfl
 ·show {c with rob:=[]}=c;rw[←h]
theorem ES{c:Co}{n:Nat}(h:c.okM n):(dR c).okM n:=by
 have hl:=fS c;have ho:=mK h;by_cases hh:c.halt≠0
 ·rw[show dR c=c from if_pos hh];exact h
 ·cases hw:oP (bJ c)with
  |none=>
   rw[AM hh hw]
   exact⟨⟨h.ok.conf,h.ok.prog,h.ok.progo,h.ok.r,h.ok.fetch,h.ok.fet,h.ok.feto,by rw[hl];exact h.ok.rob,ho,h.ok.sto,h.ok.stoo,h.ok.data,h.ok.words,h.ok.bus,h.ok.buso,h.ok.asked,h.ok.guessed,h.ok.mem,h.ok.guess,h.ok.ret,h.ok.reto⟩,h.nb,h.cf,h.data,h.words,h.guess,by rw[hl];exact h.rob,h.fet,h.sto,h.prog,h.mem,h.std⟩
  |some i=>
   have hi:=yO hw;have hx:=SS hi;have hc:=FN hi;have hr:=h.rob;rw[AN hh hw hx];exact⟨⟨h.ok.conf,h.ok.prog,h.ok.progo,h.ok.r,(ho _ (Vn hi)).next,SV _,(λ x hx=>by cases hx),by show (xI _ _).length≤_;rw[hc];omega,Og ho,h.ok.sto,h.ok.stoo,h.ok.data,h.ok.words,h.ok.bus,h.ok.buso,h.ok.asked,h.ok.guessed,h.ok.mem,h.ok.guess,h.ok.ret,h.ok.reto⟩,h.nb,h.cf,h.data,h.words,h.guess,by show (xI _ _).length≤_;rw[hc];omega,SV _,h.sto,h.prog,h.mem,h.std⟩
set_option maxRecDepth 100000
set_option maxHeartbeats 4000000
theorem Oe(c:Co)(nb:Nat)(hm:c.okM nb)(A B:List Ent)(lo n:Nat)(kR:Bool)(hlo:A.length=lo)(hn:c.rob.length=n)(hA:A.length+n+B.length≤1000)(hAo:∀ x∈A,x.ok)(hBo:∀ x∈B,x.ok)(hw:oP (bJ c)=none)(kS kT:Bool)(xS xT:List (List AV)):iK C0.P C0.G 53 [.ptr 0 0] (heapF [(0,.box (mcX c (.osl 1 lo n kR) (.sl 2 (c.fetched.map ftL) true) (.sl 2 xS kS) (.sl 9 xT kT))),(1,.arr ((A++c.rob++B).map enL) 17)]) 2 (λ x h'=>x=.tup []∧Nf 2 (dR c) (.sl 2 ((dR c).fetched.map ftL) true) (.sl 2 xS kS) (.sl 9 xT kT) h'):=by
 refine HCall.intro (C:=C1) (s:=2) c1Ok.at Tryz.func53 rfl rfl (by kernel_rfl) rfl rfl<|aA<|aA<|aB rfl<|oR 5 rfl<|rV (vB (c.halt != 0)) rfl<|rE 8 ?_;refine aE rfl (λ h1=>?_) (λ h1=>?_)
 ·have h1p:=nY h1;refine bC ?_;have ee:dR c=c:=if_pos h1p;rw[ee];exact gY (rs:=[]) rfl (r:=.tup []) (h':=heapF [(0,.box (mcX (c) (.osl 1 lo n kR) (.sl 2 (c.fetched.map ftL) true) (.sl 2 xS kS) (.sl 9 xT kT))),(1,.arr ((A++c.rob++B).map enL) 17)]) (σ:=λ z=>z) ⟨rfl,.inr ⟨1,A,B,kR,.inl ⟨rfl,by decide⟩,(by show A.length+(c.rob).length+B.length≤1000;omega),(by show _=heapF [(0,.box (mcX (c) (.osl 1 A.length (c.rob).length kR) _ _ _)),_];rw[hlo,hn])⟩⟩ rfl (aV (λ z=>z) rfl rfl wH rfl)
 ·have h1p:=nZ h1;refine aF<|aA<|aA<|aB rfl<|oR 5 rfl<|rV (vN n) rfl<|oR 1 rfl<|rE 15<|aK<|jH (κ:=Nat) (λ k=>⟨aY [(0,.ptr 0 0),(16,vB (c.halt != 0)),(21,.osl 1 lo n kR),(22,vN n),(23,vN k)],heapF [(0,.box (mcX c (.osl 1 lo n kR) (.sl 2 (c.fetched.map ftL) true) (.sl 2 xS kS) (.sl 9 xT kT))),(1,.arr ((A++(gM goE c.rob k)++B).map enL) 17)],15⟩) (λ k=>k≤n) (λ k=>n - k) 0 (λ s=>s) (Weak.of_lists (λ s=>s) wT wH rfl) rfl (SV _) ?_;intro k hk;have hkn:k≤n:=hk;have hkB:k≤1000:=by have:=hm.rob;omega
  have hml:(gM goE c.rob k).length=n:=Qh.trans hn;refine aA<|aB rfl<|rW (vB (decide (k<n))) rfl (okB (ltN _ _))<|rE 16<|aA ?_;refine aE rfl (λ h2=>?_) (λ h2=>?_)
  ·have h2p:=of_decide_eq_true h2;refine aF<|aA<|aK<|aA<|aB rfl<|oR 1 rfl<|nW (.ptr2 1 (lo+k) 0) rfl rfl ixT ?_;obtain⟨x,hx⟩:∃ y_,(gM goE c.rob k)[k]?=some y_:=⟨_,SS omT⟩;have hxo:=(BX (λ x h=>Ju h) hm.ok.robo k) x (ST hx);refine rIx (enL x) (.agg (enL x)) rfl rfl (cX (dQ hlo hx)) rfl<|rAl 19 rfl rfl<|oR 1 rfl<|rSt rfl<|rE 22<|aB rfl<|oR 7 rfl<|rCi rfl (RY x hxo)<|nW (.ptr2 1 (lo+k) 0) rfl rfl ixT ?_;have hx1:((gM goE c.rob k).set k (goE x))[k]?=some (goE x):=Tl omT;refine gI (enL x) (h':=upd _ 1 (some (.arr ((A++((gM goE c.rob k).set k (goE x))++B).map enL) 17))) rfl rfl rfl (⟨SZ _,cX ((dQ hlo hx))⟩) (lH (f:=enL) (x:=(goE x)) (l:=gM goE c.rob k) (i:=k) hlo omT)<|rE 32<|aB rfl ?_;have b1:k+1≤1001:=SY hkB (SU 1);refine rW (vN (k+1)) rfl (okI (aQ b1 rfl))<|oR 1 rfl<|rE 34 ?_;refine .mk _ (.refl _) ⟨k+1,λ s=>s,Weak.of_lists _ wT ⟨⟨rfl,rfl,rfl⟩,⟨rfl,(congrArg (λ z:List Ent=>some (Blk.arr ((A++z++B).map enL) 17)) (uD hx)),rfl⟩,trivial⟩ rfl,rfl,by omega,by show n - (k+1)<n - k;omega⟩
  ·have h2p:=SW h2;refine bU<|aA<|aA<|aB rfl<|oR 5 rfl<|rV (vN n) rfl<|oR 1 rfl<|rE 23<|aK<|jH (κ:=Nat) (λ j=>⟨aY [(0,.ptr 0 0),(16,vB (c.halt != 0)),(24,vB (decide (k<n))),(42,.osl 1 lo n kR),(43,vN n),(44,vN j)],heapF [(0,.box (mcX c (.osl 1 lo n kR) (.sl 2 (c.fetched.map ftL) true) (.sl 2 xS kS) (.sl 9 xT kT))),(1,.arr ((A++(aX c.r (c.rob.map goE) j)++B).map enL) 17)],23⟩) (λ j=>j≤n) (λ j=>n - j) 0 (λ s=>s) (Weak.of_lists (λ s=>s) wT ⟨⟨rfl,rfl,rfl⟩,⟨rfl,(congrArg (λ z:List Ent=>some (Blk.arr ((A++z++B).map enL) 17)) (yN (f:=goE) (l:=c.rob) omT)),rfl⟩,trivial⟩ rfl) rfl (SV _) ?_;intro j hj;have hjn:j≤n:=hj;have hjB:j≤1000:=by have:=hm.rob;omega
   have hsl:(aX c.r (c.rob.map goE) j).length=n:=wB.trans ((Td ..).trans hn);refine aA<|aB rfl<|rW (vB (decide (j<n))) rfl (okB (ltN _ _))<|rE 24<|aA ?_;refine aE rfl (λ h3=>?_) (λ h3=>?_)
   ·have h3p:=of_decide_eq_true h3;refine aF<|aA<|aK<|aA<|aB rfl<|oR 1 rfl<|nW (.ptr2 1 (lo+j) 0) rfl rfl ixT ?_;obtain⟨x,hx⟩:∃ y_,(aX c.r (c.rob.map goE) j)[j]?=some y_:=⟨_,SS omT⟩;have hxo:=(gT (kC hm.ok.robo) hm.ok.r j) x (ST hx);refine rIx (enL x) (.agg (enL x)) rfl rfl (cX (dQ hlo hx)) rfl<|rAl 27 rfl rfl<|oR 1 rfl<|rSt rfl<|rE 30<|aA<|aA<|aB rfl<|oR 2 rfl<|rCi rfl (iV x.i)<|rW (vB ((kindOf x.i.op) != 4)) rfl (okB (neN _ _))<|rE 34 ?_;refine aE rfl (λ h4=>?_) (λ h4=>?_)
    ·have h4p:=nY h4;refine bU<|aB rfl ?_;have b2:j+1≤1001:=SY hjB (SU 1);refine rW (vN (j+1)) rfl (okI (aQ b2 rfl))<|oR 1 rfl<|rE 36 ?_;refine .mk _ (.refl _) ⟨j+1,λ s=>s,Weak.of_lists _ wT ⟨⟨rfl,rfl,rfl⟩,⟨rfl,(congrArg (λ z:List Ent=>some (Blk.arr ((A++z++B).map enL) 17)) (show aX c.r (c.rob.map goE) j=aX c.r (c.rob.map goE) (j+1)from (vF hx h4p).symm)),rfl⟩,trivial⟩ rfl,rfl,by omega,by show n - (j+1)<n - j;omega⟩
    ·have h4p:=nZ h4;refine aF<|aA<|aB rfl<|oR 2 rfl<|rCi rfl (Be x.i)<|oR 5 rfl<|rE 42<|aA<|aB rfl<|oR 12 rfl<|rCl (x:=.tup [vU ((eM (aX c.r (c.rob.map goE) j) c.r j x.i.rs2).getD 0),vB ((eM (aX c.r (c.rob.map goE) j) c.r j x.i.rs2).isSome)]) rfl (.inr ⟨rfl,⟨(by show lo+n≤((A++(aX c.r (c.rob.map goE) j)++B).map enL).length;exact omT),tvT,trivial,trivial,trivial⟩⟩) ((show aT C0 101 [.sl 17 (List.take n (List.drop lo ((A++(aX c.r (c.rob.map goE) j)++B).map enL))) kR,.agg (DM c.r),vN j,vI x.i.rs2] _ from by rw[kN (l:=aX c.r (c.rob.map goE) j) hlo (by first|assumption|exact hn)];exact DF (aX c.r (c.rob.map goE) j) c.r kR j x.i.rs2 (by have:=hm.rob;omega) (gT (kC hm.ok.robo) hm.ok.r j) hm.ok.r (by have:=hm.rob;omega)))<|oR 5 rfl<|rE 60<|aA<|aB rfl<|oR 1 rfl ?_;refine rE 61 ?_;refine aE rfl (λ h5=>?_) (λ h5=>?_)
     ·refine aB rfl<|oR 8 rfl<|rCi rfl (KL x ((eM (aX c.r (c.rob.map goE) j) c.r j x.i.rs2).getD 0) hxo (uF (gT (kC hm.ok.robo) hm.ok.r j) hm.ok.r j x.i.rs2))<|nW (.ptr2 1 (lo+j) 0) rfl rfl ixT ?_;have hx2:((aX c.r (c.rob.map goE) j).set j (lD x ((eM (aX c.r (c.rob.map goE) j) c.r j x.i.rs2).getD 0)))[j]?=some (lD x ((eM (aX c.r (c.rob.map goE) j) c.r j x.i.rs2).getD 0)):=Tl omT;refine gI (enL x) (h':=upd _ 1 (some (.arr ((A++((aX c.r (c.rob.map goE) j).set j (lD x ((eM (aX c.r (c.rob.map goE) j) c.r j x.i.rs2).getD 0)))++B).map enL) 17))) rfl rfl rfl (⟨SZ _,cX ((dQ hlo hx))⟩) (lH (f:=enL) (x:=(lD x ((eM (aX c.r (c.rob.map goE) j) c.r j x.i.rs2).getD 0))) (l:=aX c.r (c.rob.map goE) j) (i:=j) hlo omT)<|rE 72<|aB rfl ?_;have b3:j+1≤1001:=SY hjB (SU 1);refine rW (vN (j+1)) rfl (okI (aQ b3 rfl))<|oR 1 rfl<|rE 74 ?_;refine .mk _ (.refl _) ⟨j+1,λ s=>s,Weak.of_lists _ wT ⟨⟨rfl,rfl,rfl⟩,⟨rfl,(congrArg (λ z:List Ent=>some (Blk.arr ((A++z++B).map enL) 17)) (show (aX c.r (c.rob.map goE) j).set j (lD x ((eM (aX c.r (c.rob.map goE) j) c.r j x.i.rs2).getD 0))=aX c.r (c.rob.map goE) (j+1)from (rB hx (h4p) h5).symm)),rfl⟩,trivial⟩ rfl,rfl,by omega,by show n - (j+1)<n - j;omega⟩
     ·refine aF<|aB rfl ?_;have b4:j+1≤1001:=SY hjB (SU 1);refine rW (vN (j+1)) rfl (okI (aQ b4 rfl))<|oR 1 rfl<|rE 63 ?_;refine .mk _ (.refl _) ⟨j+1,λ s=>s,Weak.of_lists _ wT ⟨⟨rfl,rfl,rfl⟩,⟨rfl,(congrArg (λ z:List Ent=>some (Blk.arr ((A++z++B).map enL) 17)) (show aX c.r (c.rob.map goE) j=aX c.r (c.rob.map goE) (j+1)from (rA hx h5).symm)),rfl⟩,trivial⟩ rfl,rfl,by omega,by show n - (j+1)<n - j;omega⟩
   ·have h3p:=SW h3;have hWj:aX c.r (c.rob.map goE) j=bJ c:=by have q:j=c.rob.length:=omT;rw[q];rfl
    have hWl:(bJ c).length=n:=(fS c).trans hn;refine bU<|aA<|aB rfl<|oR 5 rfl<|rCl (x:=vI (-1)) rfl (.inr ⟨rfl,⟨(by show lo+n≤((A++(aX c.r (c.rob.map goE) j)++B).map enL).length;exact omT),trivial⟩⟩) ((show aT C0 _ [.sl 17 (List.take n (List.drop lo ((A++(aX c.r (c.rob.map goE) j)++B).map enL))) kR] (vI (-1))from by rw[show vI (-1)=vI (wS (oP (bJ c)))from by rw[hw];rfl,kN (l:=aX c.r (c.rob.map goE) j) hlo (by first|assumption|exact hn),hWj];exact JE (bJ c) kR (by rw[fS];have:=hm.rob;omega) (mK hm)))<|oR 1 rfl<|rE 31<|aA<|aB rfl<|oR 1 rfl<|rV (vB (decide ((-1)≥0))) rfl<|rE 33 ?_;refine aE rfl (λ h6=>by exact absurd h6 (by decide)) (λ _=>?_);refine aF ?_;have ee:dR c={c with rob:=bJ c}:=AM (λ q=>q h1p) hw;rw[ee];exact gY (rs:=[]) rfl (r:=.tup []) (h':=heapF [(0,.box (mcX ({c with rob:=bJ c}) (.osl 1 lo n kR) (.sl 2 (c.fetched.map ftL) true) (.sl 2 xS kS) (.sl 9 xT kT))),(1,.arr ((A++bJ c++B).map enL) 17)]) (σ:=λ z=>z) ⟨rfl,.inr ⟨1,A,B,kR,.inl ⟨rfl,by decide⟩,(by show A.length+(bJ c).length+B.length≤1000;omega),(by show _=heapF [(0,.box (mcX ({c with rob:=bJ c}) (.osl 1 A.length (bJ c).length kR) _ _ _)),_];rw[hlo,hWl])⟩⟩ rfl (aV (λ z=>z) rfl rfl ⟨⟨rfl,rfl,rfl⟩,⟨rfl,(by show some (Blk.arr ((A++aX c.r (c.rob.map goE) j++B).map enL) 17)=_;rw[hWj];rfl),rfl⟩,trivial⟩ rfl)
theorem Of(c:Co)(nb:Nat)(hm:c.okM nb)(A B:List Ent)(lo n:Nat)(kR:Bool)(hlo:A.length=lo)(hn:c.rob.length=n)(hA:A.length+n+B.length≤1000)(hAo:∀ x∈A,x.ok)(hBo:∀ x∈B,x.ok)(i:Nat)(hw:oP (bJ c)=some i)(kS kT:Bool)(xS xT:List (List AV)):iK C0.P C0.G 53 [.ptr 0 0] (heapF [(0,.box (mcX c (.osl 1 lo n kR) (.sl 2 (c.fetched.map ftL) true) (.sl 2 xS kS) (.sl 9 xT kT))),(1,.arr ((A++c.rob++B).map enL) 17)]) 2 (λ x h'=>x=.tup []∧Nf 2 (dR c) (.sl 2 ((dR c).fetched.map ftL) true) (.sl 2 xS kS) (.sl 9 xT kT) h'):=by
 refine HCall.intro (C:=C1) (s:=2) c1Ok.at Tryz.func53 rfl rfl (by kernel_rfl) rfl rfl ?_;have hi1:i<n:=by have q:=yO hw;rw[fS]at q;omega
 refine aA<|aA<|aB rfl<|oR 5 rfl<|rV (vB (c.halt != 0)) rfl<|rE 8 ?_;refine aE rfl (λ h1=>?_) (λ h1=>?_)
 ·have h1p:=nY h1;refine bC ?_;have ee:dR c=c:=if_pos h1p;rw[ee];exact gY (rs:=[]) rfl (r:=.tup []) (h':=heapF [(0,.box (mcX (c) (.osl 1 lo n kR) (.sl 2 (c.fetched.map ftL) true) (.sl 2 xS kS) (.sl 9 xT kT))),(1,.arr ((A++c.rob++B).map enL) 17)]) (σ:=λ z=>z) ⟨rfl,.inr ⟨1,A,B,kR,.inl ⟨rfl,by decide⟩,(by show A.length+(c.rob).length+B.length≤1000;omega),(by show _=heapF [(0,.box (mcX (c) (.osl 1 A.length (c.rob).length kR) _ _ _)),_];rw[hlo,hn])⟩⟩ rfl (aV (λ z=>z) rfl rfl wH rfl)
 ·have h1p:=nZ h1;refine aF<|aA<|aA<|aB rfl<|oR 5 rfl<|rV (vN n) rfl<|oR 1 rfl<|rE 15<|aK<|jH (κ:=Nat) (λ k=>⟨aY [(0,.ptr 0 0),(16,vB (c.halt != 0)),(21,.osl 1 lo n kR),(22,vN n),(23,vN k)],heapF [(0,.box (mcX c (.osl 1 lo n kR) (.sl 2 (c.fetched.map ftL) true) (.sl 2 xS kS) (.sl 9 xT kT))),(1,.arr ((A++(gM goE c.rob k)++B).map enL) 17)],15⟩) (λ k=>k≤n) (λ k=>n - k) 0 (λ s=>s) (Weak.of_lists (λ s=>s) wT wH rfl) rfl (SV _) ?_;intro k hk;have hkn:k≤n:=hk;have hkB:k≤1000:=by have:=hm.rob;omega
  have hml:(gM goE c.rob k).length=n:=Qh.trans hn;refine aA<|aB rfl<|rW (vB (decide (k<n))) rfl (okB (ltN _ _))<|rE 16<|aA ?_;refine aE rfl (λ h2=>?_) (λ h2=>?_)
  ·have h2p:=of_decide_eq_true h2;refine aF<|aA<|aK<|aA<|aB rfl<|oR 1 rfl<|nW (.ptr2 1 (lo+k) 0) rfl rfl ixT ?_;obtain⟨x,hx⟩:∃ y_,(gM goE c.rob k)[k]?=some y_:=⟨_,SS omT⟩;have hxo:=(BX (λ x h=>Ju h) hm.ok.robo k) x (ST hx);refine rIx (enL x) (.agg (enL x)) rfl rfl (cX (dQ hlo hx)) rfl<|rAl 19 rfl rfl<|oR 1 rfl<|rSt rfl<|rE 22<|aB rfl<|oR 7 rfl<|rCi rfl (RY x hxo)<|nW (.ptr2 1 (lo+k) 0) rfl rfl ixT ?_;have hx1:((gM goE c.rob k).set k (goE x))[k]?=some (goE x):=Tl omT;refine gI (enL x) (h':=upd _ 1 (some (.arr ((A++((gM goE c.rob k).set k (goE x))++B).map enL) 17))) rfl rfl rfl (⟨SZ _,cX ((dQ hlo hx))⟩) (lH (f:=enL) (x:=(goE x)) (l:=gM goE c.rob k) (i:=k) hlo omT)<|rE 32<|aB rfl ?_;have b1:k+1≤1001:=SY hkB (SU 1);refine rW (vN (k+1)) rfl (okI (aQ b1 rfl))<|oR 1 rfl<|rE 34 ?_;refine .mk _ (.refl _) ⟨k+1,λ s=>s,Weak.of_lists _ wT ⟨⟨rfl,rfl,rfl⟩,⟨rfl,(congrArg (λ z:List Ent=>some (Blk.arr ((A++z++B).map enL) 17)) (uD hx)),rfl⟩,trivial⟩ rfl,rfl,by omega,by show n - (k+1)<n - k;omega⟩
  ·have h2p:=SW h2;refine bU<|aA<|aA<|aB rfl<|oR 5 rfl<|rV (vN n) rfl<|oR 1 rfl<|rE 23<|aK<|jH (κ:=Nat) (λ j=>⟨aY [(0,.ptr 0 0),(16,vB (c.halt != 0)),(24,vB (decide (k<n))),(42,.osl 1 lo n kR),(43,vN n),(44,vN j)],heapF [(0,.box (mcX c (.osl 1 lo n kR) (.sl 2 (c.fetched.map ftL) true) (.sl 2 xS kS) (.sl 9 xT kT))),(1,.arr ((A++(aX c.r (c.rob.map goE) j)++B).map enL) 17)],23⟩) (λ j=>j≤n) (λ j=>n - j) 0 (λ s=>s) (Weak.of_lists (λ s=>s) wT ⟨⟨rfl,rfl,rfl⟩,⟨rfl,(congrArg (λ z:List Ent=>some (Blk.arr ((A++z++B).map enL) 17)) (yN (f:=goE) (l:=c.rob) omT)),rfl⟩,trivial⟩ rfl) rfl (SV _) ?_;intro j hj;have hjn:j≤n:=hj;have hjB:j≤1000:=by have:=hm.rob;omega
   have hsl:(aX c.r (c.rob.map goE) j).length=n:=wB.trans ((Td ..).trans hn);refine aA<|aB rfl<|rW (vB (decide (j<n))) rfl (okB (ltN _ _))<|rE 24<|aA ?_;refine aE rfl (λ h3=>?_) (λ h3=>?_)
   ·have h3p:=of_decide_eq_true h3;refine aF<|aA<|aK<|aA<|aB rfl<|oR 1 rfl<|nW (.ptr2 1 (lo+j) 0) rfl rfl ixT ?_;obtain⟨x,hx⟩:∃ y_,(aX c.r (c.rob.map goE) j)[j]?=some y_:=⟨_,SS omT⟩;have hxo:=(gT (kC hm.ok.robo) hm.ok.r j) x (ST hx);refine rIx (enL x) (.agg (enL x)) rfl rfl (cX (dQ hlo hx)) rfl<|rAl 27 rfl rfl<|oR 1 rfl<|rSt rfl<|rE 30<|aA<|aA<|aB rfl<|oR 2 rfl<|rCi rfl (iV x.i)<|rW (vB ((kindOf x.i.op) != 4)) rfl (okB (neN _ _))<|rE 34 ?_;refine aE rfl (λ h4=>?_) (λ h4=>?_)
    ·have h4p:=nY h4;refine bU<|aB rfl ?_;have b2:j+1≤1001:=SY hjB (SU 1);refine rW (vN (j+1)) rfl (okI (aQ b2 rfl))<|oR 1 rfl<|rE 36 ?_;refine .mk _ (.refl _) ⟨j+1,λ s=>s,Weak.of_lists _ wT ⟨⟨rfl,rfl,rfl⟩,⟨rfl,(congrArg (λ z:List Ent=>some (Blk.arr ((A++z++B).map enL) 17)) (show aX c.r (c.rob.map goE) j=aX c.r (c.rob.map goE) (j+1)from (vF hx h4p).symm)),rfl⟩,trivial⟩ rfl,rfl,by omega,by show n - (j+1)<n - j;omega⟩
    ·have h4p:=nZ h4;refine aF<|aA<|aB rfl<|oR 2 rfl<|rCi rfl (Be x.i)<|oR 5 rfl<|rE 42<|aA<|aB rfl<|oR 12 rfl<|rCl (x:=.tup [vU ((eM (aX c.r (c.rob.map goE) j) c.r j x.i.rs2).getD 0),vB ((eM (aX c.r (c.rob.map goE) j) c.r j x.i.rs2).isSome)]) rfl (.inr ⟨rfl,⟨(by show lo+n≤((A++(aX c.r (c.rob.map goE) j)++B).map enL).length;exact omT),tvT,trivial,trivial,trivial⟩⟩) ((show aT C0 101 [.sl 17 (List.take n (List.drop lo ((A++(aX c.r (c.rob.map goE) j)++B).map enL))) kR,.agg (DM c.r),vN j,vI x.i.rs2] _ from by rw[kN (l:=aX c.r (c.rob.map goE) j) hlo (by first|assumption|exact hn)];exact DF (aX c.r (c.rob.map goE) j) c.r kR j x.i.rs2 (by have:=hm.rob;omega) (gT (kC hm.ok.robo) hm.ok.r j) hm.ok.r (by have:=hm.rob;omega)))<|oR 5 rfl<|rE 60<|aA<|aB rfl<|oR 1 rfl ?_;refine rE 61 ?_;refine aE rfl (λ h5=>?_) (λ h5=>?_)
     ·refine aB rfl<|oR 8 rfl<|rCi rfl (KL x ((eM (aX c.r (c.rob.map goE) j) c.r j x.i.rs2).getD 0) hxo (uF (gT (kC hm.ok.robo) hm.ok.r j) hm.ok.r j x.i.rs2))<|nW (.ptr2 1 (lo+j) 0) rfl rfl ixT ?_;have hx2:((aX c.r (c.rob.map goE) j).set j (lD x ((eM (aX c.r (c.rob.map goE) j) c.r j x.i.rs2).getD 0)))[j]?=some (lD x ((eM (aX c.r (c.rob.map goE) j) c.r j x.i.rs2).getD 0)):=Tl omT;refine gI (enL x) (h':=upd _ 1 (some (.arr ((A++((aX c.r (c.rob.map goE) j).set j (lD x ((eM (aX c.r (c.rob.map goE) j) c.r j x.i.rs2).getD 0)))++B).map enL) 17))) rfl rfl rfl (⟨SZ _,cX ((dQ hlo hx))⟩) (lH (f:=enL) (x:=(lD x ((eM (aX c.r (c.rob.map goE) j) c.r j x.i.rs2).getD 0))) (l:=aX c.r (c.rob.map goE) j) (i:=j) hlo omT)<|rE 72<|aB rfl ?_;have b3:j+1≤1001:=SY hjB (SU 1);refine rW (vN (j+1)) rfl (okI (aQ b3 rfl))<|oR 1 rfl<|rE 74 ?_;refine .mk _ (.refl _) ⟨j+1,λ s=>s,Weak.of_lists _ wT ⟨⟨rfl,rfl,rfl⟩,⟨rfl,(congrArg (λ z:List Ent=>some (Blk.arr ((A++z++B).map enL) 17)) (show (aX c.r (c.rob.map goE) j).set j (lD x ((eM (aX c.r (c.rob.map goE) j) c.r j x.i.rs2).getD 0))=aX c.r (c.rob.map goE) (j+1)from (rB hx (h4p) h5).symm)),rfl⟩,trivial⟩ rfl,rfl,by omega,by show n - (j+1)<n - j;omega⟩
     ·refine aF<|aB rfl ?_;have b4:j+1≤1001:=SY hjB (SU 1);refine rW (vN (j+1)) rfl (okI (aQ b4 rfl))<|oR 1 rfl<|rE 63 ?_;refine .mk _ (.refl _) ⟨j+1,λ s=>s,Weak.of_lists _ wT ⟨⟨rfl,rfl,rfl⟩,⟨rfl,(congrArg (λ z:List Ent=>some (Blk.arr ((A++z++B).map enL) 17)) (show aX c.r (c.rob.map goE) j=aX c.r (c.rob.map goE) (j+1)from (rA hx h5).symm)),rfl⟩,trivial⟩ rfl,rfl,by omega,by show n - (j+1)<n - j;omega⟩
   ·have h3p:=SW h3;have hWj:aX c.r (c.rob.map goE) j=bJ c:=by have q:j=c.rob.length:=omT;rw[q];rfl
    have hWl:(bJ c).length=n:=(fS c).trans hn;have hil:i<n:=by have:=yO hw;omega
    obtain⟨y,hy⟩:∃ y,(bJ c)[i]?=some y:=⟨_,SS omT⟩;have hyo:=mK hm y (ST hy);have hOKA:∀ x∈A++bJ c++B,x.ok:=gE (gE hAo (mK hm)) hBo;have hyj:(aX c.r (c.rob.map goE) j)[i]?=some y:=by rw[hWj];exact hy
    refine bU<|aA<|aB rfl<|oR 5 rfl<|rCl (x:=vN i) rfl (.inr ⟨rfl,⟨(by show lo+n≤((A++(aX c.r (c.rob.map goE) j)++B).map enL).length;exact omT),trivial⟩⟩) ((show aT C0 _ [.sl 17 (List.take n (List.drop lo ((A++(aX c.r (c.rob.map goE) j)++B).map enL))) kR] (vN i)from by rw[show vN i=vI (wS (oP (bJ c)))from by rw[hw];rfl,kN (l:=aX c.r (c.rob.map goE) j) hlo (by first|assumption|exact hn),hWj];exact JE (bJ c) kR (by rw[fS];have:=hm.rob;omega) (mK hm)))<|oR 1 rfl<|rE 31<|aA<|aB rfl<|oR 1 rfl<|rW (vB (decide (i≥0))) rfl (okB (geN _ _))<|rE 33 ?_;refine aE rfl (λ _=>?_) (λ h6=>by exact absurd h6 (by simp));refine aA<|aB rfl<|oR 7 rfl<|nW (.ptr2 1 (lo+i) 0) rfl rfl ixT<|oR 1 rfl<|rIx (enL y) (vU y.next) rfl rfl (cX (dQ hlo hyj)) rfl<|oR 3 rfl<|rSx 0 (mcX ({c with fetch:=y.next}:Co) (.osl 1 lo n kR) (.sl 2 (c.fetched.map ftL) true) (.sl 2 xS kS) (.sl 9 xT kT)) rfl rfl rfl<|rE 47<|aA<|aB rfl<|oR 7 rfl<|bP (args:=[.osl 1 lo n kR,vN i]) (d:=115) _ rfl rfl rfl ((show iK C0.P C0.G 104 [.osl 0 lo n kR,vN i] (heapF [(0,.arr ((A++bJ c++B).map enL) 17)]) 1 (λ x h'=>x=.osl 1 0 (i+1) false∧h'=heapF [(0,.arr ((A++bJ c++B).map enL) 17),(1,.arr ((xI (bJ c) i).map enL) 17)])from by have q:=Se (A++bJ c++B) lo n i kR (by simp only[To,fS];omega) (by simp only[To,fS];omega) omT hOKA;rwa [ER hlo hWl]at q).frameO 1 _ _ rfl (by show some (Blk.arr ((A++aX c.r (c.rob.map goE) j++B).map enL) 17)=_;rw[hWj]) rfl) ?_;rintro _ _ ⟨rfl,rfl⟩;refine oR 3 rfl<|rSx 0 (mcX ({c with fetch:=y.next}:Co) (.osl 54 0 (i+1) false) (.sl 2 (c.fetched.map ftL) true) (.sl 2 xS kS) (.sl 9 xT kT)) rfl rfl rfl<|rE 59<|aA<|aB rfl<|oR 4 rfl<|rSx 0 (mcX ({c with fetch:=y.next}:Co) (.osl 54 0 (i+1) false) (.sl 0 ([]) true) (.sl 2 xS kS) (.sl 9 xT kT)) rfl rfl rfl<|rE 64<|aB rfl<|oR 4 rfl<|rSx 0 (mcX ({c with fetch:=y.next,stop:=false}:Co) (.osl 54 0 (i+1) false) (.sl 0 ([]) true) (.sl 2 xS kS) (.sl 9 xT kT)) rfl rfl rfl<|rE 69 ?_;have ee:dR c={c with rob:=xI (bJ c) i,fetch:=y.next,fetched:=[],stop:=false}:=AN (λ q=>q h1p) hw hy;have hcl:(xI (bJ c) i).length=i+1:=FN omT;rw[ee];exact uV (rs:=[]) rfl (.step none (Ghost.of_lists (l:=[(0,.tup [])]) (hp:=[(0,.box (mcX ({c with rob:=xI (bJ c) i,fetch:=y.next,fetched:=[],stop:=false}) (.osl 54 0 (i+1) false) (.sl 2 [] true) (.sl 2 xS kS) (.sl 9 xT kT))),(54,.arr ((xI (bJ c) i).map enL) 17)]) trivial ⟨.refl _,trivial⟩ ⟨⟨trivial,_,rfl,LeB.boxL (fZ (.refl _) (.nil 2 true) (.refl _) (.refl _))⟩,⟨trivial,_,rfl,.refl _⟩,trivial⟩) (.refl _)) (r:=.tup []) (h':=heapF [(0,.box (mcX ({c with rob:=xI (bJ c) i,fetch:=y.next,fetched:=[],stop:=false}) (.osl 2 0 (i+1) false) (.sl 2 [] true) (.sl 2 xS kS) (.sl 9 xT kT))),(2,.arr ((xI (bJ c) i).map enL) 17)]) (σ:=λ z=>match z with|2=>54|z=>z) ⟨rfl,.inr ⟨2,[],[],false,.inr rfl,(by show 0+(xI (bJ c) i).length+0≤1000;have:=hm.rob;omega),(by show _=heapF [(0,.box (mcX ({c with rob:=xI (bJ c) i,fetch:=y.next,fetched:=[],stop:=false}) (.osl 2 0 (xI (bJ c) i).length false) _ _ _)),(2,.arr (([]++xI (bJ c) i++[]).map enL) 17)];rw[hcl,UN,Ul];rfl)⟩⟩ rfl (bZ (λ z=>match z with|2=>54|z=>z) rfl rfl wH rfl)
theorem Jc(c:Co)(nb:Nat)(hm:c.okM nb)(h0:c.rob=[])(kS kT:Bool)(xS xT:List (List AV)):iK C0.P C0.G 53 [.ptr 0 0] (heapF [(0,.box (mcX c (.sl 17 [] false) (.sl 2 (c.fetched.map ftL) true) (.sl 2 xS kS) (.sl 9 xT kT)))]) 1 (λ x h'=>x=.tup []∧Nf 1 (dR c) (.sl 2 ((dR c).fetched.map ftL) true) (.sl 2 xS kS) (.sl 9 xT kT) h'):=by
 refine HCall.intro (C:=C1) (s:=1) c1Ok.at Tryz.func53 rfl rfl (by kernel_rfl) rfl rfl<|aA<|aA<|aB rfl<|oR 5 rfl<|rV (vB (c.halt != 0)) rfl<|rE 7 ?_;refine aE rfl (λ h1=>?_) (λ h1=>?_)
 ·have h1p:=nY h1;refine bC ?_;rw[Dw h0];exact gY (rs:=[]) rfl (r:=.tup []) (h':=heapF [(0,.box (mcX c (.sl 17 [] false) (.sl 2 (c.fetched.map ftL) true) (.sl 2 xS kS) (.sl 9 xT kT)))]) (σ:=λ z=>z) ⟨rfl,.inl ⟨h0,rfl⟩⟩ rfl (aV (λ z=>z) rfl rfl wH rfl)
 ·have h1p:=nZ h1;refine aF<|aA<|aA<|aB rfl<|oR 5 rfl<|rW (vN 0) rfl (kH enL ([]:List Ent) omT)<|oR 1 rfl<|rE 14<|aK<|jH (κ:=Nat) (λ k=>⟨aY [(0,.ptr 0 0),(16,vB (c.halt != 0)),(21,.sl 17 (([]:List Ent).map enL) false),(22,vN 0),(23,vN k)],heapF [(0,.box (mcX c (.sl 17 (([]:List Ent).map enL) false) (.sl 2 (c.fetched.map ftL) true) (.sl 2 xS kS) (.sl 9 xT kT)))],14⟩) (λ k=>k≤0) (λ k=>0 - k) 0 (λ s=>s) (Weak.of_lists (λ s=>s) wT wH rfl) rfl (SV _) ?_;intro k hk;have hkn:k≤0:=hk;have hkB:k≤1000:=by omega
  refine aA<|aB rfl<|rW (vB (decide (k<0))) rfl (okB (ltN _ _))<|rE 15<|aA ?_;refine aE rfl (λ h2=>by exact absurd (of_decide_eq_true h2) (Ud _)) (λ _=>?_);refine bU<|aA<|aA<|aB rfl<|oR 5 rfl<|rW (vN 0) rfl (kH enL ([]:List Ent) omT)<|oR 1 rfl<|rE 22<|aK<|jH (κ:=Nat) (λ j=>⟨aY [(0,.ptr 0 0),(16,vB (c.halt != 0)),(24,vB (decide (k<0))),(42,.sl 17 (([]:List Ent).map enL) false),(43,vN 0),(44,vN j)],heapF [(0,.box (mcX c (.sl 17 (([]:List Ent).map enL) false) (.sl 2 (c.fetched.map ftL) true) (.sl 2 xS kS) (.sl 9 xT kT)))],22⟩) (λ j=>j≤0) (λ j=>0 - j) 0 (λ s=>s) (Weak.of_lists (λ s=>s) wT wH rfl) rfl (SV _) ?_;intro j hj;have hjn:j≤0:=hj;have hjB:j≤1000:=by omega
  refine aA<|aB rfl<|rW (vB (decide (j<0))) rfl (okB (ltN _ _))<|rE 23<|aA ?_;refine aE rfl (λ h3=>by exact absurd (of_decide_eq_true h3) (Ud _)) (λ _=>?_);refine bU<|aA<|aB rfl<|oR 5 rfl<|rCl (x:=vI (-1)) rfl (.inl rfl) ((show aT C0 _ [.sl 17 [] false] (vI (-1))from JE [] false (by decide) (λ x h=>by cases h)))<|oR 1 rfl<|rE 30<|aA<|aB rfl<|oR 1 rfl<|rV (vB (decide ((-1)≥0))) rfl<|rE 32 ?_;refine aE rfl (λ h4=>by exact absurd h4 (by decide)) (λ _=>?_);refine aF ?_;rw[Dw h0];exact gY (rs:=[]) rfl (r:=.tup []) (h':=heapF [(0,.box (mcX c (.sl 17 [] false) (.sl 2 (c.fetched.map ftL) true) (.sl 2 xS kS) (.sl 9 xT kT)))]) (σ:=λ z=>z) ⟨rfl,.inl ⟨h0,rfl⟩⟩ rfl (aV (λ z=>z) rfl rfl wH rfl)
def dO(c:Co):Co:={c with bus:=(bR c.bus).1}
theorem dP(c:Co):eH c=if (bR c.bus).2.2=true then zF (dO c) (bR c.bus).2.1 else dO c:=rfl
theorem nI{q:List Req}(h:∀ x∈q,x.ok):(bR q).1.length≤q.length∧(∀ x∈(bR q).1,x.ok)∧(bR q).2.1.line≤4294967295:=by
 unfold bR
 cases q with
 |nil=>exact⟨SU _,h,SV _⟩
 |cons y l=>
  have hy:=h y (Tv ..);have hl:∀ x∈l,x.ok:=λ x hx=>h x (TC _ hx);dsimp only;split
  ·exact⟨SU _,(λ x hx=>(al_List_mem_cons.1 hx).elim (λ e=>e ▸ ⟨hy.line⟩) (hl x)),SV _⟩
  ·exact⟨Us _,hl,hy.line⟩
theorem qZ{c:Co}{n:Nat}(h:c.okM n):(dO c).okM n:=by
 have ht:=nI h.ok.buso;exact⟨⟨h.ok.conf,h.ok.prog,h.ok.progo,h.ok.r,h.ok.fetch,h.ok.fet,h.ok.feto,h.ok.rob,h.ok.robo,h.ok.sto,h.ok.stoo,h.ok.data,h.ok.words,Tb ht.1 h.ok.bus,ht.2.1,h.ok.asked,h.ok.guessed,h.ok.mem,h.ok.guess,h.ok.ret,h.ok.reto⟩,h.nb,h.cf,h.data,h.words,h.guess,h.rob,h.fet,h.sto,h.prog,h.mem,h.std⟩
theorem yM{e:Ent}(h:e.ok):({e with filled:=true}:Ent).ok:=⟨h.pc,h.imm,h.guess,h.value,h.next,h.addr⟩
theorem FM{c:Co}{line:Nat}{e:Ent}(h:e.ok):(mZ c line e).ok:=by
 unfold mZ;split
 ·exact Cc (yM h) _
 ·exact h
theorem LT{c:Co}{line:Nat}{e:Ent}(h:e.is=2∧lineOf e.addr=line):mZ c line e=lI {e with filled:=true} (gG c e):=if_pos h
theorem Od{c:Co}{line:Nat}{e:Ent}(h: ¬ (e.is=2∧lineOf e.addr=line)):mZ c line e=e:=if_neg h
theorem EP{c:Co}{n:Nat}(h:c.okM n)(hb:n+1≤890000):(eH c).okM (n+1):=by
 have h1:=(qZ h).mono (Us n) hb;have hl:=(nI h.ok.buso).2.2;rw[dP];split
 ·unfold zF
  repeat' split
  ·have ho:∀ x∈(dO c).rob.map (mZ (dO c) (bR c.bus).2.1.line),x.ok:=by
    intro x hx;obtain⟨y,hy,rfl⟩:=Wo.1 hx;exact FM (h1.ok.robo y hy)
   exact⟨⟨h1.ok.conf,h1.ok.prog,h1.ok.progo,h1.ok.r,h1.ok.fetch,h1.ok.fet,h1.ok.feto,by rw[Td];exact h1.ok.rob,ho,h1.ok.sto,h1.ok.stoo,h1.ok.data,h1.ok.words,h1.ok.bus,h1.ok.buso,h1.ok.asked,h1.ok.guessed,h1.ok.mem,h1.ok.guess,h1.ok.ret,h1.ok.reto⟩,h1.nb,h1.cf,h1.data,h1.words,h1.guess,by rw[Td];exact h1.rob,h1.fet,h1.sto,h1.prog,h1.mem,h1.std⟩
  ·have g:=Rw.1 (h1.gw.put hl fH false);exact⟨⟨h1.ok.conf,h1.ok.prog,h1.ok.progo,h1.ok.r,h1.ok.fetch,h1.ok.fet,h1.ok.feto,h1.ok.rob,h1.ok.robo,h1.ok.sto,h1.ok.stoo,h1.ok.data,g.2,h1.ok.bus,h1.ok.buso,h1.ok.asked,h1.ok.guessed,h1.ok.mem,h1.ok.guess,h1.ok.ret,h1.ok.reto⟩,h1.nb,h1.cf,h1.data,g.1,h1.guess,h1.rob,h1.fet,h1.sto,h1.prog,h1.mem,h1.std⟩
  ·exact yT (qZ h) hb hl
  ·exact⟨⟨h1.ok.conf,h1.ok.prog,h1.ok.progo,h1.ok.r,h1.ok.fetch,h1.ok.fet,h1.ok.feto,h1.ok.rob,h1.ok.robo,h1.ok.sto,h1.ok.stoo,h1.ok.data,h1.ok.words,h1.ok.bus,h1.ok.buso,h1.ok.asked,h1.ok.guessed,by rw[dE];exact h1.ok.mem,h1.ok.guess,h1.ok.ret,h1.ok.reto⟩,h1.nb,h1.cf,h1.data,h1.words,h1.guess,h1.rob,h1.fet,h1.sto,h1.prog,by rw[dE];exact h1.mem,h1.std⟩
  ·exact h1
 ·exact h1
theorem Rv(c:Co)(n:Nat)(hm:c.okM n)(line:Nat)(hline:line≤4294967295)(kR:Bool)(xR:List (List AV))(kF:Bool)(xF:List (List AV))(kS:Bool)(xS:List (List AV))(kT:Bool)(xT:List (List AV)):iK C0.P C0.G 96 [.ptr 0 0,vU line] (heapF [(0,.box (mcX c (.sl 17 xR kR) (.sl 2 xF kF) (.sl 2 xS kS) (.sl 9 xT kT)))]) 1 (λ x h'=>x=.tup []∧h'=heapF [(0,.box (mcX (yP c line) (.sl 17 xR kR) (.sl 2 xF kF) (.sl 2 xS kS) (.sl 9 xT kT)))]):=by rw[kL];exact Sb c n hm line hline kR xR kF xF kS xS kT xT
theorem Qg(c:Co)(n:Nat)(hm:c.okM n)(line:Nat)(hline:line≤4294967295)(lR nR:Nat)(kR:Bool)(rR:List (List AV))(kF:Bool)(xF:List (List AV))(kS:Bool)(xS:List (List AV))(kT:Bool)(xT:List (List AV)):iK C0.P C0.G 96 [.ptr 0 0,vU line] (heapF [(0,.box (mcX c (.osl 1 lR nR kR) (.sl 2 xF kF) (.sl 2 xS kS) (.sl 9 xT kT))),(1,.arr rR 17)]) 2 (λ x h'=>x=.tup []∧h'=heapF [(0,.box (mcX (yP c line) (.osl 1 lR nR kR) (.sl 2 xF kF) (.sl 2 xS kS) (.sl 9 xT kT))),(1,.arr rR 17)]):=by rw[kL];exact RA c n hm line hline lR nR kR rR kF xF kS xS kT xT
theorem Nd(c:Co)(nb:Nat)(hm:c.okM nb)(A B:List Ent)(lo n:Nat)(kR:Bool)(hlo:A.length=lo)(hn:c.rob.length=n)(hA:A.length+n+B.length≤1000)(kF kS kT:Bool)(xF xT:List (List AV)):iK C0.P C0.G 52 [.ptr 0 0] (heapF [(0,.box (mcX c (.osl 1 lo n kR) (.sl 2 xF kF) (.sl 2 (c.stores.map ptL) kS) (.sl 9 xT kT))),(1,.arr ((A++c.rob++B).map enL) 17)]) 2 (λ x h'=>x=.tup []∧h'=heapF [(0,.box (mcX (eH c) (.osl 1 lo n kR) (.sl 2 xF kF) (.sl 2 (c.stores.map ptL) kS) (.sl 9 xT kT))),(1,.arr ((A++(eH c).rob++B).map enL) 17)]):=by
 refine HCall.intro (C:=C1) (s:=2) c1Ok.at Tryz.func52 rfl rfl (by kernel_rfl) rfl rfl<|aA<|aB rfl<|oR 5 rfl<|rCi rfl (Nl c.bus false (by have:=hm.bus;omega) hm.ok.buso)<|oR 4 rfl<|rAl 12 rfl rfl<|oR 1 rfl<|rSt rfl<|oR 1 rfl<|rE 16<|aA<|aB rfl<|oR 5 rfl<|rSx 0 (mcX ({c with bus:=(bR c.bus).1}:Co) (.osl 1 lo n kR) (.sl 2 xF kF) (.sl 2 (c.stores.map ptL) kS) (.sl 9 xT kT)) rfl rfl rfl<|rE 22 ?_;refine aA<|aA<|aB rfl<|oR 2 rfl<|rE 24 ?_;refine aE rfl (λ h1=>?_) (λ h1=>?_)
 ·refine bC ?_;have e0:=dP c;have ee:eH c=(dO c):=e0.trans (if_neg (by rw[yW h1];decide));rw[ee];exact gY (rs:=[]) rfl (r:=.tup []) (h':=heapF [(0,.box (mcX ((dO c)) (.osl 1 lo n kR) (.sl 2 xF kF) (.sl 2 (c.stores.map ptL) kS) (.sl 9 xT kT))),(1,.arr ((A++c.rob++B).map enL) 17)]) (σ:=λ z=>z) ⟨rfl,rfl⟩ rfl (aV (λ z=>z) rfl rfl wH rfl)
 ·refine aF<|aA<|aB rfl<|oR 2 rfl<|rE 26<|aK<|aA<|aB rfl<|rV (vB (((bR c.bus).2.1.kind)==1)) rfl<|oR 1 rfl<|rE 28 ?_;refine aE rfl (λ h2=>?_) (λ h2=>?_)
  ·have h2p:=eP h2;refine aA<|aB rfl<|oR 5 rfl<|rV (vN n) rfl<|oR 1 rfl<|rE 35<|aK<|jH (κ:=Nat) (λ k=>⟨aY [(0,.ptr 0 0),(3,.ptr 12 0),(23,vB (!((bR c.bus).2.2))),(25,vI ((bR c.bus).2.1.kind)),(26,vB (((bR c.bus).2.1.kind)==1)),(32,.osl 1 lo n kR),(33,vN n),(34,vN k)],heapF [(0,.box (mcX ({c with bus:=(bR c.bus).1}:Co) (.osl 1 lo n kR) (.sl 2 xF kF) (.sl 2 (c.stores.map ptL) kS) (.sl 9 xT kT))),(1,.arr ((A++(gM (mZ (dO c) (bR c.bus).2.1.line) c.rob k)++B).map enL) 17),(12,.box (rqL ((bR c.bus).2.1)))],35⟩) (λ k=>k≤n) (λ k=>n - k) 0 (λ s=>s) (Weak.of_lists (λ s=>s) wT wH rfl) rfl (SV _) ?_;intro k hk;have hkn:k≤n:=hk;have hkB:k≤1000:=by have:=hm.rob;omega
   have hml:(gM (mZ (dO c) (bR c.bus).2.1.line) c.rob k).length=n:=Qh.trans hn;refine aA<|aB rfl<|rW (vB (decide (k<n))) rfl (okB (ltN _ _))<|rE 36<|aA ?_;refine aE rfl (λ h3=>?_) (λ h3=>?_)
   ·have h3p:=of_decide_eq_true h3;refine aF<|aA<|aK<|aA<|aB rfl<|oR 1 rfl<|nW (.ptr2 1 (lo+k) 0) rfl rfl ixT ?_;obtain⟨x,hx⟩:∃ y_,(gM (mZ (dO c) (bR c.bus).2.1.line) c.rob k)[k]?=some y_:=⟨_,SS omT⟩;have hxo:=(BX (λ x h=>FM h) hm.ok.robo k) x (ST hx);refine rIx (enL x) (.agg (enL x)) rfl rfl (cX (dQ hlo hx)) rfl<|rAl 39 rfl rfl<|oR 1 rfl<|rSt rfl<|rE 42<|aA<|aB rfl<|oR 2 rfl<|rV (vB (x.is==2)) rfl<|oR 1 rfl<|gN rfl<|gS rfl id<|dZ (args:=[vU x.addr]) (x:=vU (lineOf x.addr)) (g:=x.is==2) rfl rfl rfl rfl (λ h=>h) rfl rfl rfl (.inl rfl) rfl (λ hg=>iS x.addr hxo.addr)<|gN rfl<|gS rfl id<|gBS (x:=vB ((lineOf x.addr)==((bR c.bus).2.1.line))) rfl hsT (okB (eqN _ _)) ?_;refine aG rfl rfl rfl (λ h=>h)<|rE 53 ?_;refine aE rfl (λ h4=>?_) (λ h4=>?_)
    ·have hfc:(x.is=2∧lineOf x.addr=(bR c.bus).2.1.line):=by have z:=h4;simpa [c2a]using z
     refine aA<|aB rfl<|oR 1 rfl<|rSt rfl<|rE 55<|aB rfl<|oR 9 rfl<|rCl rfl (.inr ⟨rfl,⟨trivial,tvT,trivial⟩⟩) (FV (dO c) nb (qZ hm) .any (.sl 2 xF kF) (.sl 9 xT kT) kS ({x with filled:=true}:Ent) (yM hxo))<|rCi rfl (KJ ({x with filled:=true}:Ent) (gG (dO c) x) (yM hxo) (by have:=AU (c:=(dO c)) (by have:=hm.mem;exact this) x;omega))<|nW (.ptr2 1 (lo+k) 0) rfl rfl ixT ?_;have hx1:((gM (mZ (dO c) (bR c.bus).2.1.line) c.rob k).set k (lI ({x with filled:=true}:Ent) (gG (dO c) x)))[k]?=some (lI ({x with filled:=true}:Ent) (gG (dO c) x)):=Tl omT;refine gI (enL x) (h':=upd _ 1 (some (.arr ((A++((gM (mZ (dO c) (bR c.bus).2.1.line) c.rob k).set k (lI ({x with filled:=true}:Ent) (gG (dO c) x)))++B).map enL) 17))) rfl rfl rfl (⟨SZ _,cX ((dQ hlo hx))⟩) (lH (f:=enL) (x:=(lI ({x with filled:=true}:Ent) (gG (dO c) x))) (l:=gM (mZ (dO c) (bR c.bus).2.1.line) c.rob k) (i:=k) hlo omT)<|rE 68<|aB rfl ?_;have b1:k+1≤1001:=SY hkB (SU 1);refine rW (vN (k+1)) rfl (okI (aQ b1 rfl))<|oR 1 rfl<|rE 70 ?_;refine .mk _ (.refl _) ⟨k+1,λ s=>s,Weak.of_lists _ wT ⟨⟨rfl,rfl,rfl⟩,⟨rfl,(congrArg (λ z:List Ent=>some (Blk.arr ((A++z++B).map enL) 17)) (show (gM (mZ (dO c) (bR c.bus).2.1.line) c.rob k).set k (lI ({x with filled:=true}:Ent) (gG (dO c) x))=gM (mZ (dO c) (bR c.bus).2.1.line) c.rob (k+1)from by rw[←uD hx,LT hfc])),rfl⟩,⟨rfl,rfl,rfl⟩,trivial⟩ rfl,rfl,by omega,by show n - (k+1)<n - k;omega⟩
    ·have hfc: ¬ (x.is=2∧lineOf x.addr=(bR c.bus).2.1.line):=by have z:=h4;simpa [c2a]using z
     refine aF<|aB rfl ?_;have b2:k+1≤1001:=SY hkB (SU 1);refine rW (vN (k+1)) rfl (okI (aQ b2 rfl))<|oR 1 rfl<|rE 55 ?_;refine .mk _ (.refl _) ⟨k+1,λ s=>s,Weak.of_lists _ wT ⟨⟨rfl,rfl,rfl⟩,⟨rfl,(congrArg (λ z:List Ent=>some (Blk.arr ((A++z++B).map enL) 17)) (show gM (mZ (dO c) (bR c.bus).2.1.line) c.rob k=gM (mZ (dO c) (bR c.bus).2.1.line) c.rob (k+1)from Hh hx (Od hfc))),rfl⟩,⟨rfl,rfl,rfl⟩,trivial⟩ rfl,rfl,by omega,by show n - (k+1)<n - k;omega⟩
   ·have h3p:=SW h3;refine bU ?_;have e0:=dP c;have ee:eH c={dO c with rob:=c.rob.map (mZ (dO c) (bR c.bus).2.1.line)}:=((e0.trans (if_pos (TQ (jF h1)))).trans (if_pos h2p));rw[ee];exact gY (rs:=[]) rfl (r:=.tup []) (h':=heapF [(0,.box (mcX ({dO c with rob:=c.rob.map (mZ (dO c) (bR c.bus).2.1.line)}) (.osl 1 lo n kR) (.sl 2 xF kF) (.sl 2 (c.stores.map ptL) kS) (.sl 9 xT kT))),(1,.arr ((A++(c.rob.map (mZ (dO c) (bR c.bus).2.1.line))++B).map enL) 17)]) (σ:=λ z=>z) ⟨rfl,rfl⟩ rfl (aV (λ z=>z) rfl rfl ⟨⟨rfl,rfl,rfl⟩,⟨rfl,(congrArg (λ z:List Ent=>some (Blk.arr ((A++z++B).map enL) 17)) (yN (f:=mZ (dO c) (bR c.bus).2.1.line) (l:=c.rob) omT)),rfl⟩,trivial⟩ rfl)
  ·have h2p:=eQ h2;refine aA<|aB rfl<|rV (vB (((bR c.bus).2.1.kind)==2)) rfl<|oR 1 rfl<|rE 30 ?_;refine aE rfl (λ h5=>?_) (λ h5=>?_)
   ·have h5p:=eP h5;refine aB rfl<|oR 8 rfl<|rCi rfl (JP c.words (bR c.bus).2.1.line fH false hm.ok.words (nI hm.ok.buso).2.2)<|oR 7 rfl<|rSx 0 (mcX ({c with words:=(iU c.words (bR c.bus).2.1.line fH false).1,bus:=(bR c.bus).1}:Co) (.osl 1 lo n kR) (.sl 2 xF kF) (.sl 2 (c.stores.map ptL) kS) (.sl 9 xT kT)) rfl rfl rfl<|rE 47 ?_;have e0:=dP c;have ee:eH c={dO c with words:=(iU c.words (bR c.bus).2.1.line fH false).1}:=(((e0.trans (if_pos (TQ (jF h1)))).trans (if_neg h2p)).trans (if_pos h5p));rw[ee];exact gY (rs:=[]) rfl (r:=.tup []) (h':=heapF [(0,.box (mcX ({dO c with words:=(iU c.words (bR c.bus).2.1.line fH false).1}) (.osl 1 lo n kR) (.sl 2 xF kF) (.sl 2 (c.stores.map ptL) kS) (.sl 9 xT kT))),(1,.arr ((A++c.rob++B).map enL) 17)]) (σ:=λ z=>z) ⟨rfl,rfl⟩ rfl (aV (λ z=>z) rfl rfl wH rfl)
   ·have h5p:=eQ h5;refine aA<|aB rfl<|rV (vB (((bR c.bus).2.1.kind)==3)) rfl<|oR 1 rfl<|rE 32 ?_;refine aE rfl (λ h6=>?_) (λ h6=>?_)
    ·have h6p:=eP h6;refine aB rfl<|oR 3 rfl<|bP (args:=[.ptr 0 0,vU ((bR c.bus).2.1.line)]) (d:=87) _ rfl rfl rfl ((Qg (dO c) nb (qZ hm) (bR c.bus).2.1.line (nI hm.ok.buso).2.2 lo n kR ((A++c.rob++B).map enL) kF xF kS (c.stores.map ptL) kT xT).frameB (λ z=>z) _ _ rfl ⟨⟨rfl,rfl,rfl,rfl⟩,⟨rfl,rfl,rfl,rfl⟩,trivial⟩ rfl rfl rfl rfl) ?_;rintro _ _ ⟨rfl,rfl⟩;refine rE 36 ?_;have e0:=dP c;have ee:eH c=yP (dO c) (bR c.bus).2.1.line:=(((((e0.trans (if_pos (TQ (jF h1)))).trans (if_neg h2p)).trans (if_neg h5p)).trans (if_pos h6p))).trans (kL _ _).symm;rw[ee];exact gY (rs:=[]) rfl (r:=.tup []) (h':=heapF [(0,.box (mcX (yP (dO c) (bR c.bus).2.1.line) (.osl 1 lo n kR) (.sl 2 xF kF) (.sl 2 (c.stores.map ptL) kS) (.sl 9 xT kT))),(1,.arr ((A++c.rob++B).map enL) 17)]) (σ:=λ z=>z) ⟨rfl,rfl⟩ rfl (aV (λ z=>z) rfl rfl wH rfl)
    ·have h6p:=eQ h6;refine aA<|aB rfl<|rV (vB (((bR c.bus).2.1.kind)==4)) rfl<|oR 1 rfl<|rE 34 ?_;refine aE rfl (λ h7=>?_) (λ h7=>?_)
     ·have h7p:=eP h7;refine aB rfl<|oR 10 rfl<|rV (.agg [vU ((bR c.bus).2.1.line),.v (.string ((bR c.bus).2.1.data))]) rfl<|rV (.sl 2 ([[vU ((bR c.bus).2.1.line),.v (.string ((bR c.bus).2.1.data))]]) true) rfl<|rCi rfl (JK c.mem [⟨(bR c.bus).2.1.line,(bR c.bus).2.1.data⟩] true (by have:=hm.mem;omega) (by show 1≤1000000;decide) (gF (P:=Pt.ok) ⟨(nI hm.ok.buso).2.2⟩))<|oR 3 rfl<|rSx 0 (mcX ({c with bus:=(bR c.bus).1,mem:=jG c.mem [⟨(bR c.bus).2.1.line,(bR c.bus).2.1.data⟩]}:Co) (.osl 1 lo n kR) (.sl 2 xF kF) (.sl 2 (c.stores.map ptL) kS) (.sl 9 xT kT)) rfl rfl rfl<|rE 51 ?_;have e0:=dP c;have ee:eH c={dO c with mem:=jG c.mem [⟨(bR c.bus).2.1.line,(bR c.bus).2.1.data⟩]}:=(((((e0.trans (if_pos (TQ (jF h1)))).trans (if_neg h2p)).trans (if_neg h5p)).trans (if_neg h6p)).trans (if_pos h7p));rw[ee];exact gY (rs:=[]) rfl (r:=.tup []) (h':=heapF [(0,.box (mcX ({dO c with mem:=jG c.mem [⟨(bR c.bus).2.1.line,(bR c.bus).2.1.data⟩]}) (.osl 1 lo n kR) (.sl 2 xF kF) (.sl 2 (c.stores.map ptL) kS) (.sl 9 xT kT))),(1,.arr ((A++c.rob++B).map enL) 17)]) (σ:=λ z=>z) ⟨rfl,rfl⟩ rfl (aV (λ z=>z) rfl rfl wH rfl)
     ·have h7p:=eQ h7;refine aF ?_;have e0:=dP c;have ee:eH c=(dO c):=(((((e0.trans (if_pos (TQ (jF h1)))).trans (if_neg h2p)).trans (if_neg h5p)).trans (if_neg h6p)).trans (if_neg h7p));rw[ee];exact gY (rs:=[]) rfl (r:=.tup []) (h':=heapF [(0,.box (mcX ((dO c)) (.osl 1 lo n kR) (.sl 2 xF kF) (.sl 2 (c.stores.map ptL) kS) (.sl 9 xT kT))),(1,.arr ((A++c.rob++B).map enL) 17)]) (σ:=λ z=>z) ⟨rfl,rfl⟩ rfl (aV (λ z=>z) rfl rfl wH rfl)
theorem Jb(c:Co)(nb:Nat)(hm:c.okM nb)(h0:c.rob=[])(kF kS kT:Bool)(xF xT:List (List AV)):iK C0.P C0.G 52 [.ptr 0 0] (heapF [(0,.box (mcX c (.sl 17 [] false) (.sl 2 xF kF) (.sl 2 (c.stores.map ptL) kS) (.sl 9 xT kT)))]) 1 (λ x h'=>x=.tup []∧h'=heapF [(0,.box (mcX (eH c) (.sl 17 [] false) (.sl 2 xF kF) (.sl 2 (c.stores.map ptL) kS) (.sl 9 xT kT)))]):=by
 refine HCall.intro (C:=C1) (s:=1) c1Ok.at Tryz.func52 rfl rfl (by kernel_rfl) rfl rfl<|aA<|aB rfl<|oR 5 rfl<|rCi rfl (Nl c.bus false (by have:=hm.bus;omega) hm.ok.buso)<|oR 4 rfl<|rAl 11 rfl rfl<|oR 1 rfl<|rSt rfl<|oR 1 rfl<|rE 15<|aA<|aB rfl<|oR 5 rfl<|rSx 0 (mcX ({c with bus:=(bR c.bus).1}:Co) (.sl 17 (([]:List Ent).map enL) false) (.sl 2 xF kF) (.sl 2 (c.stores.map ptL) kS) (.sl 9 xT kT)) rfl rfl rfl<|rE 21 ?_;refine aA<|aA<|aB rfl<|oR 2 rfl<|rE 23 ?_;refine aE rfl (λ h1=>?_) (λ h1=>?_)
 ·refine bC ?_;have e0:=dP c;have ee:eH c=(dO c):=e0.trans (if_neg (by rw[yW h1];decide));rw[ee];exact gY (rs:=[]) rfl (r:=.tup []) (h':=heapF [(0,.box (mcX ((dO c)) (.sl 17 [] false) (.sl 2 xF kF) (.sl 2 (c.stores.map ptL) kS) (.sl 9 xT kT)))]) (σ:=λ z=>z) ⟨rfl,rfl⟩ rfl (aV (λ z=>z) rfl rfl wH rfl)
 ·refine aF<|aA<|aB rfl<|oR 2 rfl<|rE 25<|aK<|aA<|aB rfl<|rV (vB (((bR c.bus).2.1.kind)==1)) rfl<|oR 1 rfl<|rE 27 ?_;refine aE rfl (λ h2=>?_) (λ h2=>?_)
  ·have h2p:=eP h2;refine aA<|aB rfl<|oR 5 rfl<|rW (vN 0) rfl (kH enL ([]:List Ent) omT)<|oR 1 rfl<|rE 34<|aK<|jH (κ:=Nat) (λ k=>⟨aY [(0,.ptr 0 0),(3,.ptr 11 0),(23,vB (!((bR c.bus).2.2))),(25,vI ((bR c.bus).2.1.kind)),(26,vB (((bR c.bus).2.1.kind)==1)),(32,.sl 17 (([]:List Ent).map enL) false),(33,vN 0),(34,vN k)],heapF [(0,.box (mcX ({c with bus:=(bR c.bus).1}:Co) (.sl 17 (([]:List Ent).map enL) false) (.sl 2 xF kF) (.sl 2 (c.stores.map ptL) kS) (.sl 9 xT kT))),(11,.box (rqL ((bR c.bus).2.1)))],34⟩) (λ k=>k≤0) (λ k=>0 - k) 0 (λ s=>s) (Weak.of_lists (λ s=>s) wT wH rfl) rfl (SV _) ?_;intro k hk;have hkn:k≤0:=hk;have hkB:k≤1000:=by omega
   refine aA<|aB rfl<|rW (vB (decide (k<0))) rfl (okB (ltN _ _))<|rE 35<|aA ?_;refine aE rfl (λ h3=>by exact absurd (of_decide_eq_true h3) (Ud _)) (λ _=>?_);refine bU ?_;have e0:=dP c;have ee:eH c={dO c with rob:=c.rob.map (mZ (dO c) (bR c.bus).2.1.line)}:=((e0.trans (if_pos (TQ (jF h1)))).trans (if_pos h2p));rw[ee];exact gY (rs:=[]) rfl (r:=.tup []) (h':=heapF [(0,.box (mcX ({dO c with rob:=c.rob.map (mZ (dO c) (bR c.bus).2.1.line)}) (.sl 17 [] false) (.sl 2 xF kF) (.sl 2 (c.stores.map ptL) kS) (.sl 9 xT kT)))]) (σ:=λ z=>z) ⟨rfl,rfl⟩ rfl (aV (λ z=>z) rfl rfl wH rfl)
  ·have h2p:=eQ h2;refine aA<|aB rfl<|rV (vB (((bR c.bus).2.1.kind)==2)) rfl<|oR 1 rfl<|rE 29 ?_;refine aE rfl (λ h4=>?_) (λ h4=>?_)
   ·have h4p:=eP h4;refine aB rfl<|oR 8 rfl<|rCi rfl (JP c.words (bR c.bus).2.1.line fH false hm.ok.words (nI hm.ok.buso).2.2)<|oR 7 rfl<|rSx 0 (mcX ({c with words:=(iU c.words (bR c.bus).2.1.line fH false).1,bus:=(bR c.bus).1}:Co) (.sl 17 (([]:List Ent).map enL) false) (.sl 2 xF kF) (.sl 2 (c.stores.map ptL) kS) (.sl 9 xT kT)) rfl rfl rfl<|rE 46 ?_;have e0:=dP c;have ee:eH c={dO c with words:=(iU c.words (bR c.bus).2.1.line fH false).1}:=(((e0.trans (if_pos (TQ (jF h1)))).trans (if_neg h2p)).trans (if_pos h4p));rw[ee];exact gY (rs:=[]) rfl (r:=.tup []) (h':=heapF [(0,.box (mcX ({dO c with words:=(iU c.words (bR c.bus).2.1.line fH false).1}) (.sl 17 [] false) (.sl 2 xF kF) (.sl 2 (c.stores.map ptL) kS) (.sl 9 xT kT)))]) (σ:=λ z=>z) ⟨rfl,rfl⟩ rfl (aV (λ z=>z) rfl rfl wH rfl)
   ·have h4p:=eQ h4;refine aA<|aB rfl<|rV (vB (((bR c.bus).2.1.kind)==3)) rfl<|oR 1 rfl<|rE 31 ?_;refine aE rfl (λ h5=>?_) (λ h5=>?_)
    ·have h5p:=eP h5;refine aB rfl<|oR 3 rfl<|bP (args:=[.ptr 0 0,vU ((bR c.bus).2.1.line)]) (d:=87) _ rfl rfl rfl ((Rv (dO c) nb (qZ hm) (bR c.bus).2.1.line (nI hm.ok.buso).2.2 false [] kF xF kS (c.stores.map ptL) kT xT).frameB (λ z=>z) _ _ rfl ⟨⟨rfl,rfl,rfl,rfl⟩,trivial⟩ rfl rfl rfl rfl) ?_;rintro _ _ ⟨rfl,rfl⟩;refine rE 35 ?_;have e0:=dP c;have ee:eH c=yP (dO c) (bR c.bus).2.1.line:=(((((e0.trans (if_pos (TQ (jF h1)))).trans (if_neg h2p)).trans (if_neg h4p)).trans (if_pos h5p))).trans (kL _ _).symm;rw[ee];exact gY (rs:=[]) rfl (r:=.tup []) (h':=heapF [(0,.box (mcX (yP (dO c) (bR c.bus).2.1.line) (.sl 17 [] false) (.sl 2 xF kF) (.sl 2 (c.stores.map ptL) kS) (.sl 9 xT kT)))]) (σ:=λ z=>z) ⟨rfl,rfl⟩ rfl (aV (λ z=>z) rfl rfl wH rfl)
    ·have h5p:=eQ h5;refine aA<|aB rfl<|rV (vB (((bR c.bus).2.1.kind)==4)) rfl<|oR 1 rfl<|rE 33 ?_;refine aE rfl (λ h6=>?_) (λ h6=>?_)
     ·have h6p:=eP h6;refine aB rfl<|oR 10 rfl<|rV (.agg [vU ((bR c.bus).2.1.line),.v (.string ((bR c.bus).2.1.data))]) rfl<|rV (.sl 2 ([[vU ((bR c.bus).2.1.line),.v (.string ((bR c.bus).2.1.data))]]) true) rfl<|rCi rfl (JK c.mem [⟨(bR c.bus).2.1.line,(bR c.bus).2.1.data⟩] true (by have:=hm.mem;omega) (by show 1≤1000000;decide) (gF (P:=Pt.ok) ⟨(nI hm.ok.buso).2.2⟩))<|oR 3 rfl<|rSx 0 (mcX ({c with bus:=(bR c.bus).1,mem:=jG c.mem [⟨(bR c.bus).2.1.line,(bR c.bus).2.1.data⟩]}:Co) (.sl 17 (([]:List Ent).map enL) false) (.sl 2 xF kF) (.sl 2 (c.stores.map ptL) kS) (.sl 9 xT kT)) rfl rfl rfl<|rE 50 ?_;have e0:=dP c;have ee:eH c={dO c with mem:=jG c.mem [⟨(bR c.bus).2.1.line,(bR c.bus).2.1.data⟩]}:=(((((e0.trans (if_pos (TQ (jF h1)))).trans (if_neg h2p)).trans (if_neg h4p)).trans (if_neg h5p)).trans (if_pos h6p));rw[ee];exact gY (rs:=[]) rfl (r:=.tup []) (h':=heapF [(0,.box (mcX ({dO c with mem:=jG c.mem [⟨(bR c.bus).2.1.line,(bR c.bus).2.1.data⟩]}) (.sl 17 [] false) (.sl 2 xF kF) (.sl 2 (c.stores.map ptL) kS) (.sl 9 xT kT)))]) (σ:=λ z=>z) ⟨rfl,rfl⟩ rfl (aV (λ z=>z) rfl rfl wH rfl)
     ·have h6p:=eQ h6;refine aF ?_;have e0:=dP c;have ee:eH c=(dO c):=(((((e0.trans (if_pos (TQ (jF h1)))).trans (if_neg h2p)).trans (if_neg h4p)).trans (if_neg h5p)).trans (if_neg h6p));rw[ee];exact gY (rs:=[]) rfl (r:=.tup []) (h':=heapF [(0,.box (mcX ((dO c)) (.sl 17 [] false) (.sl 2 xF kF) (.sl 2 (c.stores.map ptL) kS) (.sl 9 xT kT)))]) (σ:=λ z=>z) ⟨rfl,rfl⟩ rfl (aV (λ z=>z) rfl rfl wH rfl)
theorem Ai{c:Co}{n:Nat}{s:Sp}(h:c.okM n)(hb:n+1≤890000)(hs:s.ok):(dL c s).okM (n+1):=by
 have hr:(c.retired++[s]).length≤n+1:=by have:=h.ok.ret;simp;omega
 exact⟨⟨h.ok.conf,h.ok.prog,h.ok.progo,h.ok.r,h.ok.fetch,SV _,(λ x hx=>by cases hx),SV _,(λ x hx=>by cases hx),h.ok.sto,h.ok.stoo,h.ok.data,h.ok.words,Wj h.ok.bus,h.ok.buso,h.ok.asked,h.ok.guessed,h.ok.mem,h.ok.guess,hr,gE h.ok.reto (gF (P:=Sp.ok) hs)⟩,hb,h.cf,h.data,h.words,h.guess,SV _,SV _,h.sto,h.prog,h.mem,h.std⟩
theorem qY:∀ {n:Nat} {c:Co} {m:Nat},c.okM m→m+2 * n≤890000→(bN n c).okM (m+2 * n)
 |0,_,_,h,_=>h
 | n + 1,c,m,h,hb=>by
  have hmn:m≤m+2 * (n+1):=by omega
  by_cases h0:c.halt≠0∨c.rob.length=0
  ·rw[eJ h0];exact h.mono hmn hb
  ·have hx:c.rob[0]?=some (c.rob[0]'omT):=SS omT;have he:=Oh h hx;rw[cB omT (λ q=>h0 (.inl q)) hx];split
   ·exact h.mono hmn hb
   ·split
    ·exact (Ai h omT (bB he)).mono omT hb
    ·split
     ·exact h.mono hmn hb
     ·rename_i hs;have hst:(aC (c.rob[0]'omT)).store=true→c.stores.length≤999:=λ q=>by
       have:=gU h.cf;have: ¬ (c.stores.length:Int)≥c.conf.stores:=λ z=>hs ⟨q,z⟩;omega
      rw[UX,show m+2 * (n+1)=(m+2)+2 * n by omega];by_cases hk:kindOf (c.rob[0]'omT).i.op=3
      ·rw[kY hk];exact qY (kE h omT he hst) omT
      ·rw[kX hk];exact qY (kD h omT he hst) omT
theorem LS{c:Co}{n:Nat}(h:c.okM n):c.conf.width.toNat≤2:=by have:=gU h.cf;omega
theorem BW{c:Co}{m:Nat}(h:c.okM m)(hb:m+4≤890000):(bK c).okM (m+4):=by
 have hw:=LS h;exact (qY h omT).mono omT hb
theorem yJ:∀ {p:List Nat} {c:Co} {m:Nat},c.okM m→m+p.length≤890000→(p.foldl dB c).okM (m+p.length)
 |[],_,_,h,_=>h
 |i::p,c,m,h,hb=>by
  have hl:(i::p).length=p.length+1:=rfl;rw[hl]at hb⊢;rw[show m+(p.length+1)=(m+1)+p.length by omega];exact yJ (pK h omT i).1 omT
theorem Dt{c:Co}{m:Nat}(h:c.okM m)(hb:m+2≤890000):(cL c).okM (m+2):=by
 by_cases hh:c.halt≠0
 ·rw[show cL c=c from if_pos hh];exact h.mono omT hb
 ·obtain⟨p, -,hp, -,hl⟩:=rC (k:=c.rob.length) h.cf hh rfl;rw[hp];exact (yJ h omT).mono omT hb
theorem vZ:∀ {p:List Nat} {c:Co} {m:Nat},c.okM m→m+p.length≤890000→(p.foldl dB c).rob.length=c.rob.length∧(p.foldl dB c).stores=c.stores∧(p.foldl dB c).fetched=c.fetched∧(p.foldl dB c).retired=c.retired
 |[],_,_,_,_=>⟨rfl,rfl,rfl,rfl⟩
 |i::p,c,m,h,hb=>by
  have hl:(i::p).length=p.length+1:=rfl;rw[hl]at hb;have hs:=pK h omT i;have ih:=vZ (p:=p) hs.1 omT;exact⟨ih.1.trans hs.2.1,ih.2.1.trans hs.2.2.2.1,ih.2.2.1.trans hs.2.2.2.2.1,ih.2.2.2.trans hs.2.2.2.2.2⟩
theorem cK{c:Co}{m:Nat}(h:c.okM m)(hb:m+2≤890000):(cL c).rob.length=c.rob.length∧(cL c).stores=c.stores∧(cL c).fetched=c.fetched∧(cL c).retired=c.retired:=by
 by_cases hh:c.halt≠0
 ·rw[show cL c=c from if_pos hh];exact⟨rfl,rfl,rfl,rfl⟩
 ·obtain⟨p, -,hp, -,hl⟩:=rC (k:=c.rob.length) h.cf hh rfl;rw[hp];exact vZ h omT
theorem yK:∀ {n:Nat} {c:Co} {m:Nat},c.okM m→(eC n c).okM m∧(eC n c).stores=c.stores∧(eC n c).retired=c.retired
 |0,_,_,h=>⟨h,rfl,rfl⟩
 | n+1,c,m,h=>by
  by_cases h0:(c.rob.length:Int)≥c.conf.rob∨c.fetched.length=0
  ·rw[nJ h0];exact⟨h,rfl,rfl⟩
  ·have hx:c.fetched[0]?=some (c.fetched[0]'omT):=SS omT;have hf:=h.ok.feto _ (ST hx);have hr:c.rob.length≤999:=by have:=gU h.cf;omega
   have e:=sB (n:=n+1) (k:=0) omT (λ q=>h0 (.inl q)) hx;rw[show n+1 - (0+1)=n by omega,show n+1 - 0=n+1 by omega]at e;rw[←e];have ih:=yK (n:=n) (vG h hf hr);exact⟨ih.1,ih.2.1,ih.2.2⟩
theorem kW{c:Co}{m:Nat}(h:c.okM m):(eA c).okM m∧(eA c).stores=c.stores∧(eA c).retired=c.retired:=by
 unfold eA;split
 ·exact⟨h,rfl,rfl⟩
 ·exact yK h
theorem EN(c:Co)(w:Nat):(bH c w).1.stores=c.stores∧(bH c w).1.retired=c.retired∧(bH c w).1.rob=c.rob:=by
 unfold bH;split
 ·exact⟨rfl,rfl,rfl⟩
 ·split<;>exact⟨rfl,rfl,rfl⟩
theorem EO(d:Co):(oN d).stores=d.stores∧(oN d).retired=d.retired∧(oN d).rob=d.rob:=EN (eD d) (fetchW d.prog d.fetch)
theorem Du{c:Co}{m:Nat}(h:c.okM m)(hf:c.fetched.length≤999):Co.okM {c with fetched:=c.fetched++[⟨c.fetch,up4 c.fetch⟩],stop:=true} m:=by
 have hl:(c.fetched++[(⟨c.fetch,up4 c.fetch⟩:Ft)]).length≤1000:=by simp;omega
 exact⟨⟨h.ok.conf,h.ok.prog,h.ok.progo,h.ok.r,h.ok.fetch,Tb hl (by decide),gE h.ok.feto (gF ⟨h.ok.fetch,qH _⟩),h.ok.rob,h.ok.robo,h.ok.sto,h.ok.stoo,h.ok.data,h.ok.words,h.ok.bus,h.ok.buso,h.ok.asked,h.ok.guessed,h.ok.mem,h.ok.guess,h.ok.ret,h.ok.reto⟩,h.nb,h.cf,h.data,h.words,h.guess,h.rob,hl,h.sto,h.prog,h.mem,h.std⟩
theorem wA:∀ {n:Nat} {c:Co} {m:Nat},c.okM m→m+1≤890000→(bS n c).okM (m+1)∧(bS n c).stores=c.stores∧(bS n c).retired=c.retired∧(bS n c).rob=c.rob
 |0,_,_,h,hb=>⟨h.mono (Us _) hb,rfl,rfl,rfl⟩
 | n +1,c,m,h,hb=>by
  have h1:=h.mono (Us m) hb;by_cases h0:c.stop=true∨(c.fetched.length:Int)≥c.conf.queue
  ·rw[lQ h0];exact⟨h1,rfl,rfl,rfl⟩
  ·have hl:c.fetched.length≤999:=by have:=gU h.cf;omega
   by_cases hf:(fetchP c.prog c.fetch).isSome=false
   ·rw[nK omT h0 hf];exact⟨Du h1 hl,rfl,rfl,rfl⟩
   ·by_cases hw:(aH c.words (lineOf c.fetch)).2.isSome=false
    ·rw[iZ omT h0 hf hw];split
     ·exact⟨jN h hb 2 (bI h.ok.fetch) fH,rfl,rfl,rfl⟩
     ·exact⟨h1,rfl,rfl,rfl⟩
    ·have e:=pL (n:=n+1) (k:=0) omT h0 hf hw;rw[show n+1 - (0+1)=n by omega,show n+1 - 0=n+1 by omega]at e;rw[←e];have ih:=wA (n:=n) (vH h hl) hb;have hk:=EO c;exact⟨ih.1,ih.2.1.trans hk.1,ih.2.2.1.trans hk.2.1,ih.2.2.2.trans hk.2.2⟩
theorem fV{c:Co}{m:Nat}(h:c.okM m)(hb:m+1≤890000):(bQ c).okM (m+1)∧(bQ c).stores=c.stores∧(bQ c).retired=c.retired∧(bQ c).rob=c.rob:=by
 unfold bQ;split
 ·exact⟨h.mono (Us _) hb,rfl,rfl,rfl⟩
 ·exact wA h hb
theorem Dv{c:Co}{m:Nat}(h:c.okM m)(hb:m+1≤890000):(iP c).okM (m+1)∧(iP c).fetched=c.fetched∧(iP c).retired=c.retired∧(iP c).rob=c.rob∧(iP c).stores=c.stores:=by
 unfold iP
 cases hs:c.stores with
 |nil=>exact⟨h.mono (Us _) hb,rfl,rfl,rfl,hs⟩
 |cons p l=>
  dsimp only;split
  ·exact⟨jN h hb 3 (bI (h.ok.stoo p (by rw[hs];exact Tv ..)).addr) fH,rfl,rfl,rfl,hs⟩
  ·exact⟨h.mono (Us _) hb,rfl,rfl,rfl,hs⟩
theorem yL{c:Co}{m:Nat}(h:c.okM m)(hb:m+1≤890000):(fF c).okM (m+1)∧(fF c).fetched=c.fetched∧(fF c).retired=c.retired∧(fF c).rob=c.rob∧(fF c).stores=c.stores:=by
 have h1:=h.mono (Us m) hb;unfold fF;split
 ·exact⟨h1,rfl,rfl,rfl,rfl⟩
 ·by_cases hq:(aZ c.data).isSome=true∧((aZ c.data).getD iD).data.size≠0
  ·rw[lU hq];have ha:=jN h hb 4 h.gd.dirtyLe ((aZ c.data).getD iD).data;have g:=Rw.1 (h.gd.clean ((aZ c.data).getD iD).line);exact⟨⟨⟨ha.ok.conf,ha.ok.prog,ha.ok.progo,ha.ok.r,ha.ok.fetch,ha.ok.fet,ha.ok.feto,ha.ok.rob,ha.ok.robo,ha.ok.sto,ha.ok.stoo,g.2,ha.ok.words,ha.ok.bus,ha.ok.buso,ha.ok.asked,ha.ok.guessed,ha.ok.mem,ha.ok.guess,ha.ok.ret,ha.ok.reto⟩,hb,ha.cf,g.1,ha.words,ha.guess,ha.rob,ha.fet,ha.sto,ha.prog,ha.mem,ha.std⟩,rfl,rfl,rfl,rfl⟩
  ·rw[nL hq];exact⟨h1,rfl,rfl,rfl,rfl⟩
theorem gR{c:Co}{m:Nat}(h:c.okM m)(hb:m+2≤890000):(jQ c).okM (m+2)∧(jQ c).fetched=c.fetched∧(jQ c).retired=c.retired∧(jQ c).rob=c.rob:=by
 rw[eL];have h0:=bW h;split
 ·have ha:=Dv h0 omT;have hB:=yL ha.1 omT;exact⟨hB.1,hB.2.1.trans ha.2.1,hB.2.2.1.trans ha.2.2.1,hB.2.2.2.1.trans ha.2.2.2.1⟩
 ·have hB:=yL h0 omT;exact⟨hB.1.mono omT hb,hB.2.1,hB.2.2.1,hB.2.2.2.1⟩
theorem dK(c:Co):(eH c).fetched=c.fetched∧(eH c).stores=c.stores∧(eH c).retired=c.retired∧(eH c).rob.length=c.rob.length:=by
 rw[dP];split
 ·unfold zF
  repeat' split
  ·exact⟨rfl,rfl,rfl,Td ..⟩
  ·exact⟨rfl,rfl,rfl,rfl⟩
  ·rw[←kL];exact⟨rfl,rfl,rfl,rfl⟩
  ·exact⟨rfl,rfl,rfl,rfl⟩
  ·exact⟨rfl,rfl,rfl,rfl⟩
 ·exact⟨rfl,rfl,rfl,rfl⟩
theorem bY(c:Co):(dR c).stores=c.stores∧(dR c).retired=c.retired:=by
 unfold dR;split
 ·exact⟨rfl,rfl⟩
 ·split<;>exact⟨rfl,rfl⟩
end Go.Proofs.YtlhofpglndhfaaaGreatDoor
