/- Joined texts. -/
import Derived.WideShapes
import Derived.Test.YtlhofpglndhfaaaGreatDoorS201
import Derived.Test.YtlhofpglndhfaaaGreatDoorS208
import Derived.Test.YtlhofpglndhfaaaGreatDoorS228
import Derived.Test.YtlhofpglndhfaaaGreatDoorS229
import Derived.Test.YtlhofpglndhfaaaGreatDoorS234
set_option linter.unusedVariables false
set_option linter.unusedSimpArgs false
namespace Go.Proofs.YtlhofpglndhfaaaGreatDoor
set_option maxRecDepth 100000
set_option maxHeartbeats 4000000
open Go.RowKit
def iV(c:Co):Co:={c with bus:=(dO c.bus).1}
theorem iB(c:Co):eH c=if (dO c.bus).2.2=true then wQ (iV c) (dO c.bus).2.1 else iV c:=rfl
theorem vZ{q:List Req}(h:∀ x∈q,x.ok):(dO q).1.length≤q.length∧(∀ x∈(dO q).1,x.ok)∧(dO q).2.1.line≤4294967295:=by
 unfold dO
 cases q with
 |nil=>exact⟨aC _,h,aD _⟩
 |cons y l=>
  have hy:=h y (al_List_mem_cons_self ..);have hl:∀ x∈l,x.ok:=λ x hx=>h x (bE _ hx);dsimp only;split
  ·exact⟨aC _,(λ x hx=>(al_List_mem_cons.1 hx).elim (λ e=>e ▸ ⟨hy.line⟩) (hl x)),aD _⟩
  ·exact⟨fK _,hl,hy.line⟩
theorem zT{c:Co}{n:Nat}(h:c.okM n):(iV c).okM n:=by
 have ht:=vZ h.ok.buso;exact⟨⟨h.ok.conf,h.ok.prog,h.ok.progo,h.ok.r,h.ok.fetch,h.ok.fet,h.ok.feto,h.ok.rob,h.ok.robo,h.ok.sto,h.ok.stoo,h.ok.data,h.ok.words,aL ht.1 h.ok.bus,ht.2.1,h.ok.asked,h.ok.guessed,h.ok.mem,h.ok.guess,h.ok.ret,h.ok.reto⟩,h.nb,h.cf,h.data,h.words,h.guess,h.rob,h.fet,h.sto,h.prog,h.mem,h.std⟩
theorem Ej{e:Ent}(h:e.ok):({e with filled:=true}:Ent).ok:=⟨h.pc,h.imm,h.guess,h.value,h.next,h.addr⟩
theorem Mc{c:Co}{line:Nat}{e:Ent}(h:e.ok):(tU c line e).ok:=by
 unfold tU;split
 ·exact HA (Ej h) _
 ·exact h
theorem Sx{c:Co}{line:Nat}{e:Ent}(h:e.is=2∧lineOf e.addr=line):tU c line e=rU {e with filled:=true} (oG c e):=if_pos h
theorem VB{c:Co}{line:Nat}{e:Ent}(h: ¬ (e.is=2∧lineOf e.addr=line)):tU c line e=e:=if_neg h
theorem KT{c:Co}{n:Nat}(h:c.okM n)(hb:n+1≤890000):(eH c).okM (n+1):=by
 have h1:=(zT h).mono (fK n) hb;have hl:=(vZ h.ok.buso).2.2;rw[iB];split
 ·unfold wQ
  repeat' split
  ·have ho:∀ x∈(iV c).rob.map (tU (iV c) (dO c.bus).2.1.line),x.ok:=by
    intro x hx;obtain⟨y,hy,rfl⟩:=sF.1 hx;exact Mc (h1.ok.robo y hy)
   exact⟨⟨h1.ok.conf,h1.ok.prog,h1.ok.progo,h1.ok.r,h1.ok.fetch,h1.ok.fet,h1.ok.feto,by rw[aJ];exact h1.ok.rob,ho,h1.ok.sto,h1.ok.stoo,h1.ok.data,h1.ok.words,h1.ok.bus,h1.ok.buso,h1.ok.asked,h1.ok.guessed,h1.ok.mem,h1.ok.guess,h1.ok.ret,h1.ok.reto⟩,h1.nb,h1.cf,h1.data,h1.words,h1.guess,by rw[aJ];exact h1.rob,h1.fet,h1.sto,h1.prog,h1.mem,h1.std⟩
  ·have g:=Zq.1 (h1.gw.put hl nE false);exact⟨⟨h1.ok.conf,h1.ok.prog,h1.ok.progo,h1.ok.r,h1.ok.fetch,h1.ok.fet,h1.ok.feto,h1.ok.rob,h1.ok.robo,h1.ok.sto,h1.ok.stoo,h1.ok.data,g.2,h1.ok.bus,h1.ok.buso,h1.ok.asked,h1.ok.guessed,h1.ok.mem,h1.ok.guess,h1.ok.ret,h1.ok.reto⟩,h1.nb,h1.cf,h1.data,g.1,h1.guess,h1.rob,h1.fet,h1.sto,h1.prog,h1.mem,h1.std⟩
  ·exact Es (zT h) hb hl
  ·exact⟨⟨h1.ok.conf,h1.ok.prog,h1.ok.progo,h1.ok.r,h1.ok.fetch,h1.ok.fet,h1.ok.feto,h1.ok.rob,h1.ok.robo,h1.ok.sto,h1.ok.stoo,h1.ok.data,h1.ok.words,h1.ok.bus,h1.ok.buso,h1.ok.asked,h1.ok.guessed,by rw[fD];exact h1.ok.mem,h1.ok.guess,h1.ok.ret,h1.ok.reto⟩,h1.nb,h1.cf,h1.data,h1.words,h1.guess,h1.rob,h1.fet,h1.sto,h1.prog,by rw[fD];exact h1.mem,h1.std⟩
  ·exact h1
 ·exact h1
theorem Zp(c:Co)(n:Nat)(hm:c.okM n)(line:Nat)(hline:line≤4294967295)(kR:Bool)(xR:List (List AV))(kF:Bool)(xF:List (List AV))(kS:Bool)(xS:List (List AV))(kT:Bool)(xT:List (List AV)):pL C0.P C0.G 96 [.ptr 0 0,vU line] (heapF [(0,.box (mcX c (.sl 17 xR kR) (.sl 2 xF kF) (.sl 2 xS kS) (.sl 9 xT kT)))]) 1 (λ x h'=>x=.tup []∧h'=heapF [(0,.box (mcX (En c line) (.sl 17 xR kR) (.sl 2 xF kF) (.sl 2 xS kS) (.sl 9 xT kT)))]):=by rw[nQ];exact aaW c n hm line hline kR xR kF xF kS xS kT xT
theorem XM(c:Co)(n:Nat)(hm:c.okM n)(line:Nat)(hline:line≤4294967295)(lR nR:Nat)(kR:Bool)(rR:List (List AV))(kF:Bool)(xF:List (List AV))(kS:Bool)(xS:List (List AV))(kT:Bool)(xT:List (List AV)):pL C0.P C0.G 96 [.ptr 0 0,vU line] (heapF [(0,.box (mcX c (.osl 1 lR nR kR) (.sl 2 xF kF) (.sl 2 xS kS) (.sl 9 xT kT))),(1,.arr rR 17)]) 2 (λ x h'=>x=.tup []∧h'=heapF [(0,.box (mcX (En c line) (.osl 1 lR nR kR) (.sl 2 xF kF) (.sl 2 xS kS) (.sl 9 xT kT))),(1,.arr rR 17)]):=by rw[nQ];exact Zu c n hm line hline lR nR kR rR kF xF kS xS kT xT
theorem XN(c:Co)(nb:Nat)(hm:c.okM nb)(A B:List Ent)(lo n:Nat)(kR:Bool)(hlo:A.length=lo)(hn:c.rob.length=n)(hA:A.length+n+B.length≤1000)(kF kS kT:Bool)(xF xT:List (List AV)):pL C0.P C0.G 52 [.ptr 0 0] (heapF [(0,.box (mcX c (.osl 1 lo n kR) (.sl 2 xF kF) (.sl 2 (c.stores.map ptL) kS) (.sl 9 xT kT))),(1,.arr ((A++c.rob++B).map enL) 17)]) 2 (λ x h'=>x=.tup []∧h'=heapF [(0,.box (mcX (eH c) (.osl 1 lo n kR) (.sl 2 xF kF) (.sl 2 (c.stores.map ptL) kS) (.sl 9 xT kT))),(1,.arr ((A++(eH c).rob++B).map enL) 17)]):=by
 refine HCall.intro (C:=C1) (s:=2) c1Ok.at Tryz.func52 rfl rfl (by kernel_rfl) rfl rfl<|cSR<|oR 5 rfl<|rCi rfl (Uy c.bus false (by have:=hm.bus;omega) hm.ok.buso)<|oR 4 rfl<|rAl 12 rfl rfl<|oR 1 rfl<|rSt rfl<|oR 1 rfl<|rE 16<|cSR<|oR 5 rfl<|rSx 0 (mcX ({c with bus:=(dO c.bus).1}:Co) (.osl 1 lo n kR) (.sl 2 xF kF) (.sl 2 (c.stores.map ptL) kS) (.sl 9 xT kT)) rfl rfl rfl<|rE 22<|bK<|cSR<|oR 2 rfl<|rE 24<|aV rfl (λ h1=>?_) (λ h1=>?_)
 ·refine cO ?_;have e0:=iB c;have ee:eH c=(iV c):=e0.trans (if_neg (by rw[Fv h1];decide));rw[ee];exact pE (rs:=[]) rfl (r:=.tup []) (h':=heapF [(0,.box (mcX ((iV c)) (.osl 1 lo n kR) (.sl 2 xF kF) (.sl 2 (c.stores.map ptL) kS) (.sl 9 xT kT))),(1,.arr ((A++c.rob++B).map enL) 17)]) (σ:=λ z=>z) ⟨rfl,rfl⟩ rfl (cB (λ z=>z) rfl rfl wH rfl)
 ·refine bB<|cSR<|oR 2 rfl<|rE 26<|bL<|cSR<|rV (vB (((dO c.bus).2.1.kind)==1)) rfl<|oR 1 rfl<|rE 28<|aV rfl (λ h2=>?_) (λ h2=>?_)
  ·have h2p:=mC h2;refine cSR<|oR 5 rfl<|rV (vN n) rfl<|oR 1 rfl<|rE 35<|bL<|rH (κ:=Nat) (λ k=>⟨slotsF [(0,.ptr 0 0),(3,.ptr 12 0),(23,vB (!((dO c.bus).2.2))),(25,vI ((dO c.bus).2.1.kind)),(26,vB (((dO c.bus).2.1.kind)==1)),(32,.osl 1 lo n kR),(33,vN n),(34,vN k)],heapF [(0,.box (mcX ({c with bus:=(dO c.bus).1}:Co) (.osl 1 lo n kR) (.sl 2 xF kF) (.sl 2 (c.stores.map ptL) kS) (.sl 9 xT kT))),(1,.arr ((A++(oX (tU (iV c) (dO c.bus).2.1.line) c.rob k)++B).map enL) 17),(12,.box (rqL ((dO c.bus).2.1)))],35⟩) (λ k=>k≤n) (λ k=>n - k) 0 (λ s=>s) (Weak.of_lists (λ s=>s) wT wH rfl) rfl (aD _) ?_;intro k hk;have hkn:k≤n:=hk;have hkB:k≤1000:=by have:=hm.rob;omega
   have hml:(oX (tU (iV c) (dO c.bus).2.1.line) c.rob k).length=n:=XO.trans hn;refine cSR<|rW (vB (decide (k<n))) rfl (okB (ltN _ _))<|rE 36<|bK<|aV rfl (λ h3=>?_) (λ h3=>?_)
   ·have h3p:=of_decide_eq_true h3;refine bB<|bK<|bL<|cSR<|oR 1 rfl<|nW (.ptr2 1 (lo+k) 0) rfl rfl ixT ?_;obtain⟨x,hx⟩:∃ y_,(oX (tU (iV c) (dO c.bus).2.1.line) c.rob k)[k]?=some y_:=⟨_,aA omT⟩;have hxo:=(Hx (λ x h=>Mc h) hm.ok.robo k) x (aB hx);refine rIx (enL x) (.agg (enL x)) rfl rfl (jH (jO hlo hx)) rfl<|rAl 39 rfl rfl<|oR 1 rfl<|rSt rfl<|rE 42<|cSR<|oR 2 rfl<|rV (vB (x.is==2)) rfl<|oR 1 rfl<|gN rfl<|gS rfl id<|lX (x:=vU (lineOf x.addr)) (g:=x.is==2) rfl rfl rfl rfl (λ h=>h) rfl rfl rfl (.inl rfl) rfl (λ hg=>tC x.addr hxo.addr)<|gN rfl<|gS rfl id<|gBS (x:=vB ((lineOf x.addr)==((dO c.bus).2.1.line))) rfl hsT (okB (eqN _ _))<|cS rfl rfl rfl (λ h=>h)<|rE 53<|aV rfl (λ h4=>?_) (λ h4=>?_)
    ·have hfc:(x.is=2∧lineOf x.addr=(dO c.bus).2.1.line):=by have z:=h4;simpa [c2a]using z
     refine cSR<|oR 1 rfl<|rSt rfl<|rE 55<|cRg<|oR 9 rfl<|rCl rfl (.inr ⟨rfl,⟨trivial,tvT,trivial⟩⟩) (Mh (iV c) nb (zT hm) .any (.sl 2 xF kF) (.sl 9 xT kT) kS ({x with filled:=true}:Ent) (Ej hxo))<|rCi rfl (QN ({x with filled:=true}:Ent) (oG (iV c) x) (Ej hxo) (by have:=Gi (c:=(iV c)) (by have:=hm.mem;exact this) x;omega))<|nW (.ptr2 1 (lo+k) 0) rfl rfl ixT ?_;have hx1:((oX (tU (iV c) (dO c.bus).2.1.line) c.rob k).set k (rU ({x with filled:=true}:Ent) (oG (iV c) x)))[k]?=some (rU ({x with filled:=true}:Ent) (oG (iV c) x)):=aW omT;refine oS (enL x) (h':=upd _ 1 (some (.arr ((A++((oX (tU (iV c) (dO c.bus).2.1.line) c.rob k).set k (rU ({x with filled:=true}:Ent) (oG (iV c) x)))++B).map enL) 17))) rfl rfl rfl (⟨aF _,jH ((jO hlo hx))⟩) (uC (f:=enL) (x:=(rU ({x with filled:=true}:Ent) (oG (iV c) x))) (l:=oX (tU (iV c) (dO c.bus).2.1.line) c.rob k) (i:=k) hlo omT)<|rE 68<|cRg ?_;have b1:k+1≤1001:=aG hkB (aC 1);refine rW (vN (k+1)) rfl (okI (bU b1 rfl))<|oR 1 rfl<|rE 70<|.mk _ (.refl _) ⟨k+1,λ s=>s,Weak.of_lists _ wT ⟨⟨rfl,rfl,rfl⟩,⟨rfl,(congrArg (λ z:List Ent=>some (Blk.arr ((A++z++B).map enL) 17)) (show (oX (tU (iV c) (dO c.bus).2.1.line) c.rob k).set k (rU ({x with filled:=true}:Ent) (oG (iV c) x))=oX (tU (iV c) (dO c.bus).2.1.line) c.rob (k+1)from by rw[←BJ hx,Sx hfc])),rfl⟩,⟨rfl,rfl,rfl⟩,trivial⟩ rfl,rfl,by omega,by show n - (k+1)<n - k;omega⟩
    ·have hfc: ¬ (x.is=2∧lineOf x.addr=(dO c.bus).2.1.line):=by have z:=h4;simpa [c2a]using z
     refine bB<|cRg ?_;have b2:k+1≤1001:=aG hkB (aC 1);refine rW (vN (k+1)) rfl (okI (bU b2 rfl))<|oR 1 rfl<|rE 55<|.mk _ (.refl _) ⟨k+1,λ s=>s,Weak.of_lists _ wT ⟨⟨rfl,rfl,rfl⟩,⟨rfl,(congrArg (λ z:List Ent=>some (Blk.arr ((A++z++B).map enL) 17)) (show oX (tU (iV c) (dO c.bus).2.1.line) c.rob k=oX (tU (iV c) (dO c.bus).2.1.line) c.rob (k+1)from Nw hx (VB hfc))),rfl⟩,⟨rfl,rfl,rfl⟩,trivial⟩ rfl,rfl,by omega,by show n - (k+1)<n - k;omega⟩
   ·have h3p:=aE h3;refine eP ?_;have e0:=iB c;have ee:eH c={iV c with rob:=c.rob.map (tU (iV c) (dO c.bus).2.1.line)}:=((e0.trans (if_pos (dK (rN h1)))).trans (if_pos h2p));rw[ee];exact pE (rs:=[]) rfl (r:=.tup []) (h':=heapF [(0,.box (mcX ({iV c with rob:=c.rob.map (tU (iV c) (dO c.bus).2.1.line)}) (.osl 1 lo n kR) (.sl 2 xF kF) (.sl 2 (c.stores.map ptL) kS) (.sl 9 xT kT))),(1,.arr ((A++(c.rob.map (tU (iV c) (dO c.bus).2.1.line))++B).map enL) 17)]) (σ:=λ z=>z) ⟨rfl,rfl⟩ rfl (cB (λ z=>z) rfl rfl ⟨⟨rfl,rfl,rfl⟩,⟨rfl,(congrArg (λ z:List Ent=>some (Blk.arr ((A++z++B).map enL) 17)) (Ek (f:=tU (iV c) (dO c.bus).2.1.line) (l:=c.rob) omT)),rfl⟩,trivial⟩ rfl)
  ·have h2p:=mD h2;refine cSR<|rV (vB (((dO c.bus).2.1.kind)==2)) rfl<|oR 1 rfl<|rE 30<|aV rfl (λ h5=>?_) (λ h5=>?_)
   ·have h5p:=mC h5;refine cRg<|oR 8 rfl<|rCi rfl (PY c.words (dO c.bus).2.1.line nE false hm.ok.words (vZ hm.ok.buso).2.2)<|oR 7 rfl<|rSx 0 (mcX ({c with words:=(mF c.words (dO c.bus).2.1.line nE false).1,bus:=(dO c.bus).1}:Co) (.osl 1 lo n kR) (.sl 2 xF kF) (.sl 2 (c.stores.map ptL) kS) (.sl 9 xT kT)) rfl rfl rfl<|rE 47 ?_;have e0:=iB c;have ee:eH c={iV c with words:=(mF c.words (dO c.bus).2.1.line nE false).1}:=(((e0.trans (if_pos (dK (rN h1)))).trans (if_neg h2p)).trans (if_pos h5p));rw[ee];exact pE (rs:=[]) rfl (r:=.tup []) (h':=heapF [(0,.box (mcX ({iV c with words:=(mF c.words (dO c.bus).2.1.line nE false).1}) (.osl 1 lo n kR) (.sl 2 xF kF) (.sl 2 (c.stores.map ptL) kS) (.sl 9 xT kT))),(1,.arr ((A++c.rob++B).map enL) 17)]) (σ:=λ z=>z) ⟨rfl,rfl⟩ rfl (cB (λ z=>z) rfl rfl wH rfl)
   ·have h5p:=mD h5;refine cSR<|rV (vB (((dO c.bus).2.1.kind)==3)) rfl<|oR 1 rfl<|rE 32<|aV rfl (λ h6=>?_) (λ h6=>?_)
    ·have h6p:=mC h6;refine cRg<|oR 3 rfl<|fR _ rfl rfl rfl ((XM (iV c) nb (zT hm) (dO c.bus).2.1.line (vZ hm.ok.buso).2.2 lo n kR ((A++c.rob++B).map enL) kF xF kS (c.stores.map ptL) kT xT).frameB (λ z=>z) _ _ rfl ⟨⟨rfl,rfl,rfl,rfl⟩,⟨rfl,rfl,rfl,rfl⟩,trivial⟩ rfl rfl rfl rfl) ?_;rintro _ _ ⟨rfl,rfl⟩;refine rE 36 ?_;have e0:=iB c;have ee:eH c=En (iV c) (dO c.bus).2.1.line:=(((((e0.trans (if_pos (dK (rN h1)))).trans (if_neg h2p)).trans (if_neg h5p)).trans (if_pos h6p))).trans (nQ _ _).symm;rw[ee];exact pE (rs:=[]) rfl (r:=.tup []) (h':=heapF [(0,.box (mcX (En (iV c) (dO c.bus).2.1.line) (.osl 1 lo n kR) (.sl 2 xF kF) (.sl 2 (c.stores.map ptL) kS) (.sl 9 xT kT))),(1,.arr ((A++c.rob++B).map enL) 17)]) (σ:=λ z=>z) ⟨rfl,rfl⟩ rfl (cB (λ z=>z) rfl rfl wH rfl)
    ·have h6p:=mD h6;refine cSR<|rV (vB (((dO c.bus).2.1.kind)==4)) rfl<|oR 1 rfl<|rE 34<|aV rfl (λ h7=>?_) (λ h7=>?_)
     ·have h7p:=mC h7;refine cRg<|oR 10 rfl<|rV (.agg [vU ((dO c.bus).2.1.line),.v (.string ((dO c.bus).2.1.data))]) rfl<|rV (.sl 2 ([[vU ((dO c.bus).2.1.line),.v (.string ((dO c.bus).2.1.data))]]) true) rfl<|rCi rfl (PU c.mem [⟨(dO c.bus).2.1.line,(dO c.bus).2.1.data⟩] true (by have:=hm.mem;omega) (by show 1≤1000000;decide) (rQ (P:=Pt.ok) ⟨(vZ hm.ok.buso).2.2⟩))<|oR 3 rfl<|rSx 0 (mcX ({c with bus:=(dO c.bus).1,mem:=mG c.mem [⟨(dO c.bus).2.1.line,(dO c.bus).2.1.data⟩]}:Co) (.osl 1 lo n kR) (.sl 2 xF kF) (.sl 2 (c.stores.map ptL) kS) (.sl 9 xT kT)) rfl rfl rfl<|rE 51 ?_;have e0:=iB c;have ee:eH c={iV c with mem:=mG c.mem [⟨(dO c.bus).2.1.line,(dO c.bus).2.1.data⟩]}:=(((((e0.trans (if_pos (dK (rN h1)))).trans (if_neg h2p)).trans (if_neg h5p)).trans (if_neg h6p)).trans (if_pos h7p));rw[ee];exact pE (rs:=[]) rfl (r:=.tup []) (h':=heapF [(0,.box (mcX ({iV c with mem:=mG c.mem [⟨(dO c.bus).2.1.line,(dO c.bus).2.1.data⟩]}) (.osl 1 lo n kR) (.sl 2 xF kF) (.sl 2 (c.stores.map ptL) kS) (.sl 9 xT kT))),(1,.arr ((A++c.rob++B).map enL) 17)]) (σ:=λ z=>z) ⟨rfl,rfl⟩ rfl (cB (λ z=>z) rfl rfl wH rfl)
     ·have h7p:=mD h7;refine bB ?_;have e0:=iB c;have ee:eH c=(iV c):=(((((e0.trans (if_pos (dK (rN h1)))).trans (if_neg h2p)).trans (if_neg h5p)).trans (if_neg h6p)).trans (if_neg h7p));rw[ee];exact pE (rs:=[]) rfl (r:=.tup []) (h':=heapF [(0,.box (mcX ((iV c)) (.osl 1 lo n kR) (.sl 2 xF kF) (.sl 2 (c.stores.map ptL) kS) (.sl 9 xT kT))),(1,.arr ((A++c.rob++B).map enL) 17)]) (σ:=λ z=>z) ⟨rfl,rfl⟩ rfl (cB (λ z=>z) rfl rfl wH rfl)
theorem VC(c:Co)(nb:Nat)(hm:c.okM nb)(h0:c.rob=[])(kF kS kT:Bool)(xF xT:List (List AV)):pL C0.P C0.G 52 [.ptr 0 0] (heapF [(0,.box (mcX c (.sl 17 [] false) (.sl 2 xF kF) (.sl 2 (c.stores.map ptL) kS) (.sl 9 xT kT)))]) 1 (λ x h'=>x=.tup []∧h'=heapF [(0,.box (mcX (eH c) (.sl 17 [] false) (.sl 2 xF kF) (.sl 2 (c.stores.map ptL) kS) (.sl 9 xT kT)))]):=by
 refine HCall.intro (C:=C1) (s:=1) c1Ok.at Tryz.func52 rfl rfl (by kernel_rfl) rfl rfl<|cSR<|oR 5 rfl<|rCi rfl (Uy c.bus false (by have:=hm.bus;omega) hm.ok.buso)<|oR 4 rfl<|rAl 11 rfl rfl<|oR 1 rfl<|rSt rfl<|oR 1 rfl<|rE 15<|cSR<|oR 5 rfl<|rSx 0 (mcX ({c with bus:=(dO c.bus).1}:Co) (.sl 17 (([]:List Ent).map enL) false) (.sl 2 xF kF) (.sl 2 (c.stores.map ptL) kS) (.sl 9 xT kT)) rfl rfl rfl<|rE 21<|bK<|cSR<|oR 2 rfl<|rE 23<|aV rfl (λ h1=>?_) (λ h1=>?_)
 ·refine cO ?_;have e0:=iB c;have ee:eH c=(iV c):=e0.trans (if_neg (by rw[Fv h1];decide));rw[ee];exact pE (rs:=[]) rfl (r:=.tup []) (h':=heapF [(0,.box (mcX ((iV c)) (.sl 17 [] false) (.sl 2 xF kF) (.sl 2 (c.stores.map ptL) kS) (.sl 9 xT kT)))]) (σ:=λ z=>z) ⟨rfl,rfl⟩ rfl (cB (λ z=>z) rfl rfl wH rfl)
 ·refine bB<|cSR<|oR 2 rfl<|rE 25<|bL<|cSR<|rV (vB (((dO c.bus).2.1.kind)==1)) rfl<|oR 1 rfl<|rE 27<|aV rfl (λ h2=>?_) (λ h2=>?_)
  ·have h2p:=mC h2;refine cSR<|oR 5 rfl<|rW (vN 0) rfl (vD enL ([]:List Ent) omT)<|oR 1 rfl<|rE 34<|bL<|rH (κ:=Nat) (λ k=>⟨slotsF [(0,.ptr 0 0),(3,.ptr 11 0),(23,vB (!((dO c.bus).2.2))),(25,vI ((dO c.bus).2.1.kind)),(26,vB (((dO c.bus).2.1.kind)==1)),(32,.sl 17 (([]:List Ent).map enL) false),(33,vN 0),(34,vN k)],heapF [(0,.box (mcX ({c with bus:=(dO c.bus).1}:Co) (.sl 17 (([]:List Ent).map enL) false) (.sl 2 xF kF) (.sl 2 (c.stores.map ptL) kS) (.sl 9 xT kT))),(11,.box (rqL ((dO c.bus).2.1)))],34⟩) (λ k=>k≤0) (λ k=>0 - k) 0 (λ s=>s) (Weak.of_lists (λ s=>s) wT wH rfl) rfl (aD _) ?_;intro k hk;have hkB:k≤1000:=by omega
   refine cSR<|rW (vB (decide (k<0))) rfl (okB (ltN _ _))<|rE 35<|bK<|aV rfl (λ h3=>by exact absurd (of_decide_eq_true h3) (dT _)) (λ _=>?_);refine eP ?_;have e0:=iB c;have ee:eH c={iV c with rob:=c.rob.map (tU (iV c) (dO c.bus).2.1.line)}:=((e0.trans (if_pos (dK (rN h1)))).trans (if_pos h2p));rw[ee];exact pE (rs:=[]) rfl (r:=.tup []) (h':=heapF [(0,.box (mcX ({iV c with rob:=c.rob.map (tU (iV c) (dO c.bus).2.1.line)}) (.sl 17 [] false) (.sl 2 xF kF) (.sl 2 (c.stores.map ptL) kS) (.sl 9 xT kT)))]) (σ:=λ z=>z) ⟨rfl,rfl⟩ rfl (cB (λ z=>z) rfl rfl wH rfl)
  ·have h2p:=mD h2;refine cSR<|rV (vB (((dO c.bus).2.1.kind)==2)) rfl<|oR 1 rfl<|rE 29<|aV rfl (λ h4=>?_) (λ h4=>?_)
   ·have h4p:=mC h4;refine cRg<|oR 8 rfl<|rCi rfl (PY c.words (dO c.bus).2.1.line nE false hm.ok.words (vZ hm.ok.buso).2.2)<|oR 7 rfl<|rSx 0 (mcX ({c with words:=(mF c.words (dO c.bus).2.1.line nE false).1,bus:=(dO c.bus).1}:Co) (.sl 17 (([]:List Ent).map enL) false) (.sl 2 xF kF) (.sl 2 (c.stores.map ptL) kS) (.sl 9 xT kT)) rfl rfl rfl<|rE 46 ?_;have e0:=iB c;have ee:eH c={iV c with words:=(mF c.words (dO c.bus).2.1.line nE false).1}:=(((e0.trans (if_pos (dK (rN h1)))).trans (if_neg h2p)).trans (if_pos h4p));rw[ee];exact pE (rs:=[]) rfl (r:=.tup []) (h':=heapF [(0,.box (mcX ({iV c with words:=(mF c.words (dO c.bus).2.1.line nE false).1}) (.sl 17 [] false) (.sl 2 xF kF) (.sl 2 (c.stores.map ptL) kS) (.sl 9 xT kT)))]) (σ:=λ z=>z) ⟨rfl,rfl⟩ rfl (cB (λ z=>z) rfl rfl wH rfl)
   ·have h4p:=mD h4;refine cSR<|rV (vB (((dO c.bus).2.1.kind)==3)) rfl<|oR 1 rfl<|rE 31<|aV rfl (λ h5=>?_) (λ h5=>?_)
    ·have h5p:=mC h5;refine cRg<|oR 3 rfl<|fR _ rfl rfl rfl ((Zp (iV c) nb (zT hm) (dO c.bus).2.1.line (vZ hm.ok.buso).2.2 false [] kF xF kS (c.stores.map ptL) kT xT).frameB (λ z=>z) _ _ rfl ⟨⟨rfl,rfl,rfl,rfl⟩,trivial⟩ rfl rfl rfl rfl) ?_;rintro _ _ ⟨rfl,rfl⟩;refine rE 35 ?_;have e0:=iB c;have ee:eH c=En (iV c) (dO c.bus).2.1.line:=(((((e0.trans (if_pos (dK (rN h1)))).trans (if_neg h2p)).trans (if_neg h4p)).trans (if_pos h5p))).trans (nQ _ _).symm;rw[ee];exact pE (rs:=[]) rfl (r:=.tup []) (h':=heapF [(0,.box (mcX (En (iV c) (dO c.bus).2.1.line) (.sl 17 [] false) (.sl 2 xF kF) (.sl 2 (c.stores.map ptL) kS) (.sl 9 xT kT)))]) (σ:=λ z=>z) ⟨rfl,rfl⟩ rfl (cB (λ z=>z) rfl rfl wH rfl)
    ·have h5p:=mD h5;refine cSR<|rV (vB (((dO c.bus).2.1.kind)==4)) rfl<|oR 1 rfl<|rE 33<|aV rfl (λ h6=>?_) (λ h6=>?_)
     ·have h6p:=mC h6;refine cRg<|oR 10 rfl<|rV (.agg [vU ((dO c.bus).2.1.line),.v (.string ((dO c.bus).2.1.data))]) rfl<|rV (.sl 2 ([[vU ((dO c.bus).2.1.line),.v (.string ((dO c.bus).2.1.data))]]) true) rfl<|rCi rfl (PU c.mem [⟨(dO c.bus).2.1.line,(dO c.bus).2.1.data⟩] true (by have:=hm.mem;omega) (by show 1≤1000000;decide) (rQ (P:=Pt.ok) ⟨(vZ hm.ok.buso).2.2⟩))<|oR 3 rfl<|rSx 0 (mcX ({c with bus:=(dO c.bus).1,mem:=mG c.mem [⟨(dO c.bus).2.1.line,(dO c.bus).2.1.data⟩]}:Co) (.sl 17 (([]:List Ent).map enL) false) (.sl 2 xF kF) (.sl 2 (c.stores.map ptL) kS) (.sl 9 xT kT)) rfl rfl rfl<|rE 50 ?_;have e0:=iB c;have ee:eH c={iV c with mem:=mG c.mem [⟨(dO c.bus).2.1.line,(dO c.bus).2.1.data⟩]}:=(((((e0.trans (if_pos (dK (rN h1)))).trans (if_neg h2p)).trans (if_neg h4p)).trans (if_neg h5p)).trans (if_pos h6p));rw[ee];exact pE (rs:=[]) rfl (r:=.tup []) (h':=heapF [(0,.box (mcX ({iV c with mem:=mG c.mem [⟨(dO c.bus).2.1.line,(dO c.bus).2.1.data⟩]}) (.sl 17 [] false) (.sl 2 xF kF) (.sl 2 (c.stores.map ptL) kS) (.sl 9 xT kT)))]) (σ:=λ z=>z) ⟨rfl,rfl⟩ rfl (cB (λ z=>z) rfl rfl wH rfl)
     ·have h6p:=mD h6;refine bB ?_;have e0:=iB c;have ee:eH c=(iV c):=(((((e0.trans (if_pos (dK (rN h1)))).trans (if_neg h2p)).trans (if_neg h4p)).trans (if_neg h5p)).trans (if_neg h6p));rw[ee];exact pE (rs:=[]) rfl (r:=.tup []) (h':=heapF [(0,.box (mcX ((iV c)) (.sl 17 [] false) (.sl 2 xF kF) (.sl 2 (c.stores.map ptL) kS) (.sl 9 xT kT)))]) (σ:=λ z=>z) ⟨rfl,rfl⟩ rfl (cB (λ z=>z) rfl rfl wH rfl)
theorem Fu{c:Co}{n:Nat}{s:Sp}(h:c.okM n)(hb:n+1≤890000)(hs:s.ok):(tB c s).okM (n+1):=by
 have hr:(c.retired++[s]).length≤n+1:=by have:=h.ok.ret;simp;omega
 exact⟨⟨h.ok.conf,h.ok.prog,h.ok.progo,h.ok.r,h.ok.fetch,aD _,(λ x hx=>by cases hx),aD _,(λ x hx=>by cases hx),h.ok.sto,h.ok.stoo,h.ok.data,h.ok.words,qG h.ok.bus,h.ok.buso,h.ok.asked,h.ok.guessed,h.ok.mem,h.ok.guess,hr,rP h.ok.reto (rQ (P:=Sp.ok) hs)⟩,hb,h.cf,h.data,h.words,h.guess,aD _,aD _,h.sto,h.prog,h.mem,h.std⟩
theorem zR:∀ {n:Nat} {c:Co} {m:Nat},c.okM m→m+2 * n≤890000→(dF n c).okM (m+2 * n)
 |0,_,_,h,_=>h
 | n + 1,c,m,h,hb=>by
  have hmn:m≤m+2 * (n+1):=by omega
  by_cases h0:c.halt≠0∨c.rob.length=0
  ·rw[iQ h0];exact h.mono hmn hb
  ·have hx:c.rob[0]?=some (c.rob[0]'omT):=aA omT;have he:=VI h hx;rw[gR omT (λ q=>h0 (.inl q)) hx];split
   ·exact h.mono hmn hb
   ·split
    ·exact (Fu h omT (fF he)).mono omT hb
    ·split
     ·exact h.mono hmn hb
     ·rename_i hs;have hst:(bW (c.rob[0]'omT)).store=true→c.stores.length≤999:=λ q=>by
       have:=mR h.cf;have: ¬ (c.stores.length:Int)≥c.conf.stores:=λ z=>hs ⟨q,z⟩;omega
      rw[gL,show m+2 * (n+1)=(m+2)+2 * n by omega];by_cases hk:kindOf (c.rob[0]'omT).i.op=3
      ·rw[zX hk];exact zR (Gd h omT he hst) omT
      ·rw[tQ hk];exact zR (xE h omT he hst) omT
theorem Sw{c:Co}{n:Nat}(h:c.okM n):c.conf.width.toNat≤2:=by have:=mR h.cf;omega
theorem Hw{c:Co}{m:Nat}(h:c.okM m)(hb:m+4≤890000):(dG c).okM (m+4):=by
 have hw:=Sw h;exact (zR h omT).mono omT hb
theorem Eg:∀ {p:List Nat} {c:Co} {m:Nat},c.okM m→m+p.length≤890000→(p.foldl eN c).okM (m+p.length)
 |[],_,_,h,_=>h
 |i::p,c,m,h,hb=>by
  have hl:(i::p).length=p.length+1:=rfl;rw[hl]at hb⊢;rw[show m+(p.length+1)=(m+1)+p.length by omega];exact Eg (vA h omT i).1 omT
theorem Jk{c:Co}{m:Nat}(h:c.okM m)(hb:m+2≤890000):(eE c).okM (m+2):=by
 by_cases hh:c.halt≠0
 ·rw[show eE c=c from if_pos hh];exact h.mono omT hb
 ·obtain⟨p, -,hp, -,hl⟩:=zY (k:=c.rob.length) h.cf hh rfl;rw[hp];exact (Eg h omT).mono omT hb
theorem CQ:∀ {p:List Nat} {c:Co} {m:Nat},c.okM m→m+p.length≤890000→(p.foldl eN c).rob.length=c.rob.length∧(p.foldl eN c).stores=c.stores∧(p.foldl eN c).fetched=c.fetched∧(p.foldl eN c).retired=c.retired
 |[],_,_,_,_=>⟨rfl,rfl,rfl,rfl⟩
 |i::p,c,m,h,hb=>by
  have hl:(i::p).length=p.length+1:=rfl;rw[hl]at hb;have hs:=vA h omT i;have ih:=CQ (p:=p) hs.1 omT;exact⟨ih.1.trans hs.2.1,ih.2.1.trans hs.2.2.2.1,ih.2.2.1.trans hs.2.2.2.2.1,ih.2.2.2.trans hs.2.2.2.2.2⟩
theorem nP{c:Co}{m:Nat}(h:c.okM m)(hb:m+2≤890000):(eE c).rob.length=c.rob.length∧(eE c).stores=c.stores∧(eE c).fetched=c.fetched∧(eE c).retired=c.retired:=by
 by_cases hh:c.halt≠0
 ·rw[show eE c=c from if_pos hh];exact⟨rfl,rfl,rfl,rfl⟩
 ·obtain⟨p, -,hp, -,hl⟩:=zY (k:=c.rob.length) h.cf hh rfl;rw[hp];exact CQ h omT
theorem Eh:∀ {n:Nat} {c:Co} {m:Nat},c.okM m→(iL n c).okM m∧(iL n c).stores=c.stores∧(iL n c).retired=c.retired
 |0,_,_,h=>⟨h,rfl,rfl⟩
 | n+1,c,m,h=>by
  by_cases h0:(c.rob.length:Int)≥c.conf.rob∨c.fetched.length=0
  ·rw[qW h0];exact⟨h,rfl,rfl⟩
  ·have hx:c.fetched[0]?=some (c.fetched[0]'omT):=aA omT;have hf:=h.ok.feto _ (aB hx);have hr:c.rob.length≤999:=by have:=mR h.cf;omega
   have e:=uM (n:=n+1) (k:=0) omT (λ q=>h0 (.inl q)) hx;rw[show n+1 - (0+1)=n by omega,show n+1 - 0=n+1 by omega]at e;rw[←e];have ih:=Eh (n:=n) (Cx h hf hr);exact⟨ih.1,ih.2.1,ih.2.2⟩
theorem zS{c:Co}{m:Nat}(h:c.okM m):(fQ c).okM m∧(fQ c).stores=c.stores∧(fQ c).retired=c.retired:=by
 unfold fQ;split
 ·exact⟨h,rfl,rfl⟩
 ·exact Eh h
theorem KR(c:Co)(w:Nat):(cF c w).1.stores=c.stores∧(cF c w).1.retired=c.retired∧(cF c w).1.rob=c.rob:=by
 unfold cF;split
 ·exact⟨rfl,rfl,rfl⟩
 ·split<;>exact⟨rfl,rfl,rfl⟩
theorem KS(d:Co):(xG d).stores=d.stores∧(xG d).retired=d.retired∧(xG d).rob=d.rob:=KR (gY d) (fetchW d.prog d.fetch)
theorem Jl{c:Co}{m:Nat}(h:c.okM m)(hf:c.fetched.length≤999):Co.okM {c with fetched:=c.fetched++[⟨c.fetch,up4 c.fetch⟩],stop:=true} m:=by
 have hl:(c.fetched++[(⟨c.fetch,up4 c.fetch⟩:Ft)]).length≤1000:=by simp;omega
 exact⟨⟨h.ok.conf,h.ok.prog,h.ok.progo,h.ok.r,h.ok.fetch,aL hl (by decide),rP h.ok.feto (rQ ⟨h.ok.fetch,zC _⟩),h.ok.rob,h.ok.robo,h.ok.sto,h.ok.stoo,h.ok.data,h.ok.words,h.ok.bus,h.ok.buso,h.ok.asked,h.ok.guessed,h.ok.mem,h.ok.guess,h.ok.ret,h.ok.reto⟩,h.nb,h.cf,h.data,h.words,h.guess,h.rob,hl,h.sto,h.prog,h.mem,h.std⟩
theorem CR:∀ {n:Nat} {c:Co} {m:Nat},c.okM m→m+1≤890000→(dS n c).okM (m+1)∧(dS n c).stores=c.stores∧(dS n c).retired=c.retired∧(dS n c).rob=c.rob
 |0,_,_,h,hb=>⟨h.mono (fK _) hb,rfl,rfl,rfl⟩
 | n +1,c,m,h,hb=>by
  have h1:=h.mono (fK m) hb;by_cases h0:c.stop=true∨(c.fetched.length:Int)≥c.conf.queue
  ·rw[pO h0];exact⟨h1,rfl,rfl,rfl⟩
  ·have hl:c.fetched.length≤999:=by have:=mR h.cf;omega
   by_cases hf:(fetchP c.prog c.fetch).isSome=false
   ·rw[qX omT h0 hf];exact⟨Jl h1 hl,rfl,rfl,rfl⟩
   ·by_cases hw:(aX c.words (lineOf c.fetch)).2.isSome=false
    ·rw[nK omT h0 hf hw];split
     ·exact⟨rM h hb 2 (dR h.ok.fetch) nE,rfl,rfl,rfl⟩
     ·exact⟨h1,rfl,rfl,rfl⟩
    ·have e:=sW (n:=n+1) (k:=0) omT h0 hf hw;rw[show n+1 - (0+1)=n by omega,show n+1 - 0=n+1 by omega]at e;rw[←e];have ih:=CR (n:=n) (Cy h hl) hb;have hk:=KS c;exact⟨ih.1,ih.2.1.trans hk.1,ih.2.2.1.trans hk.2.1,ih.2.2.2.trans hk.2.2⟩
theorem uH{c:Co}{m:Nat}(h:c.okM m)(hb:m+1≤890000):(cX c).okM (m+1)∧(cX c).stores=c.stores∧(cX c).retired=c.retired∧(cX c).rob=c.rob:=by
 unfold cX;split
 ·exact⟨h.mono (fK _) hb,rfl,rfl,rfl⟩
 ·exact CR h hb
theorem Jm{c:Co}{m:Nat}(h:c.okM m)(hb:m+1≤890000):(jK c).okM (m+1)∧(jK c).fetched=c.fetched∧(jK c).retired=c.retired∧(jK c).rob=c.rob∧(jK c).stores=c.stores:=by
 unfold jK
 cases hs:c.stores with
 |nil=>exact⟨h.mono (fK _) hb,rfl,rfl,rfl,hs⟩
 |cons p l=>
  dsimp only;split
  ·exact⟨rM h hb 3 (dR (h.ok.stoo p (by rw[hs];exact al_List_mem_cons_self ..)).addr) nE,rfl,rfl,rfl,hs⟩
  ·exact⟨h.mono (fK _) hb,rfl,rfl,rfl,hs⟩
theorem Ei{c:Co}{m:Nat}(h:c.okM m)(hb:m+1≤890000):(iM c).okM (m+1)∧(iM c).fetched=c.fetched∧(iM c).retired=c.retired∧(iM c).rob=c.rob∧(iM c).stores=c.stores:=by
 have h1:=h.mono (fK m) hb;unfold iM;split
 ·exact⟨h1,rfl,rfl,rfl,rfl⟩
 ·by_cases hq:(cM c.data).isSome=true∧((cM c.data).getD pD).data.size≠0
  ·rw[uI hq];have ha:=rM h hb 4 h.gd.dirtyLe ((cM c.data).getD pD).data;have g:=Zq.1 (h.gd.clean ((cM c.data).getD pD).line);exact⟨⟨⟨ha.ok.conf,ha.ok.prog,ha.ok.progo,ha.ok.r,ha.ok.fetch,ha.ok.fet,ha.ok.feto,ha.ok.rob,ha.ok.robo,ha.ok.sto,ha.ok.stoo,g.2,ha.ok.words,ha.ok.bus,ha.ok.buso,ha.ok.asked,ha.ok.guessed,ha.ok.mem,ha.ok.guess,ha.ok.ret,ha.ok.reto⟩,hb,ha.cf,g.1,ha.words,ha.guess,ha.rob,ha.fet,ha.sto,ha.prog,ha.mem,ha.std⟩,rfl,rfl,rfl,rfl⟩
  ·rw[wA hq];exact⟨h1,rfl,rfl,rfl,rfl⟩
theorem vY{c:Co}{m:Nat}(h:c.okM m)(hb:m+2≤890000):(kJ c).okM (m+2)∧(kJ c).fetched=c.fetched∧(kJ c).retired=c.retired∧(kJ c).rob=c.rob:=by
 rw[iK];have h0:=eT h;split
 ·have ha:=Jm h0 omT;have hB:=Ei ha.1 omT;exact⟨hB.1,hB.2.1.trans ha.2.1,hB.2.2.1.trans ha.2.2.1,hB.2.2.2.1.trans ha.2.2.2.1⟩
 ·have hB:=Ei h0 omT;exact⟨hB.1.mono omT hb,hB.2.1,hB.2.2.1,hB.2.2.2.1⟩
theorem pN(c:Co):(eH c).fetched=c.fetched∧(eH c).stores=c.stores∧(eH c).retired=c.retired∧(eH c).rob.length=c.rob.length:=by
 rw[iB];split
 ·unfold wQ
  repeat' split
  ·exact⟨rfl,rfl,rfl,aJ ..⟩
  ·exact⟨rfl,rfl,rfl,rfl⟩
  ·rw[←nQ];exact⟨rfl,rfl,rfl,rfl⟩
  ·exact⟨rfl,rfl,rfl,rfl⟩
  ·exact⟨rfl,rfl,rfl,rfl⟩
 ·exact⟨rfl,rfl,rfl,rfl⟩
theorem lP(c:Co):(fH c).stores=c.stores∧(fH c).retired=c.retired:=by
 unfold fH;split
 ·exact⟨rfl,rfl⟩
 ·split<;>exact⟨rfl,rfl⟩
theorem qH{c:Co}{n:Nat}(h:c.ok n)(hb:n≤890000)(hr:fS c=true):c.okM n:=by
 unfold fS at hr;simp only[aH,aS]at hr;obtain⟨⟨⟨⟨⟨⟨⟨⟨⟨⟨⟨h1,h2⟩,h3⟩,h4⟩,h5⟩,h6⟩,h7⟩,h8⟩,h9⟩,h10⟩,h11⟩,h12⟩:=hr;unfold uF at h7 h8;simp only[aH,aS]at h7 h8;have hc:=mR h1;have hm:c.mem.size≤256:=by
  have e:c.mem.toList=(pF c.mem).toList:=by simpa using h3
  have e2:c.mem.size=(pF c.mem).size:=by rw[←yK, ←yK (pF c.mem),e]
  rw[e2,vK];unfold upS;repeat' split
  all_goals omega
 have hs:∀ x∈c.stores,x.data.size≤4:=λ x hx=>by
  have:=iO.1 h12 x hx;unfold nM at this;simp only[aH,aS]at this;omega
 exact⟨h,hb,h1,h7.1.1,h8.1.1,h9,by omega,by omega,by omega,by omega,hm,hs⟩
def Zo(K:AH)(m b1 s2:Nat)(c:Co)(F S T:AV)(h':AH):Prop:=
 (c.rob=[]∧h'=upd K m (some (.box (mcX c (.sl 17 [] false) F S T))))∨
 ∃ (b:Nat) (A B:List Ent) (k:Bool),(b=b1∨b=s2)∧A.length+c.rob.length+B.length≤1000∧h'=upd (upd K m (some (.box (mcX c (.osl b A.length c.rob.length k) F S T)))) b (some (.arr ((A++c.rob++B).map enL) 17))
theorem Pk{f:FuncId}{b0:Blk}{c:Co}{kF kS kT:Bool}{xF xS xT:List (List AV)}(H:pL C0.P C0.G f [.ptr 0 0] (heapF [(0,b0)]) 1 (λ x h'=>x=.tup []∧Ut 1 c (.sl 2 xF kF) (.sl 2 xS kS) (.sl 9 xT kT) h'))(m:Nat)(K:AH)(s2:Nat)(hL:FrL (λ _=>m) K 1 s2 [(0,b0)]):
  pL C0.P C0.G f [.ptr m 0] K s2 (λ x h'=>x=.tup []∧Zo K m s2 s2 c (.sl 2 xF kF) (.sl 2 xS kS) (.sl 9 xT kT) h'):=by
 refine H.frameL (λ _=>m) K s2 rfl hL rfl rfl _ λ r' h' hP=>?_;obtain⟨rfl,hP⟩:=hP;rcases hP with ⟨h0,rfl⟩|⟨b,A,B,k,hb,hl,rfl⟩
 ·refine⟨_,⟨rfl,.inl ⟨h0,rfl⟩⟩,λ y blk hy=>?_⟩;by_cases he:y=m
  ·subst he;rw[cZ]at hy;injection hy with hy;subst hy;exact .inl ⟨0,_,rfl,rfl,rfl⟩
  ·rw[cA _ _ he]at hy;exact .inr ⟨hy,λ x _ e=>he e.symm⟩
 ·have hb1:b=1:=by omega
  subst hb1;refine⟨_,⟨rfl,.inr ⟨s2,A,B,k,.inr rfl,hl,rfl⟩⟩,λ y blk hy=>?_⟩;by_cases hs:y=s2
  ·subst hs;rw[cZ]at hy;injection hy with hy;subst hy;exact .inl ⟨1,_,rfl,(vJ _ _ _).symm,rfl⟩
  ·rw[cA _ _ hs]at hy;by_cases he:y=m
   ·subst he;rw[cZ]at hy;injection hy with hy;subst hy;exact .inl ⟨0,_,rfl,rfl,rfl⟩
   ·rw[cA _ _ he]at hy;exact .inr ⟨hy,λ x _ e=>he e.symm⟩
theorem Pl{f:FuncId}{b0 b1:Blk}{c:Co}{kF kS kT:Bool}{xF xS xT:List (List AV)}(H:pL C0.P C0.G f [.ptr 0 0] (heapF [(0,b0),(1,b1)]) 2 (λ x h'=>x=.tup []∧Ut 2 c (.sl 2 xF kF) (.sl 2 xS kS) (.sl 9 xT kT) h'))(m nb:Nat)(K:AH)(s2:Nat)(hL:FrL (λ z=>match z with|0=>m|_=>nb) K 2 s2 [(0,b0),(1,b1)])(hne:m≠nb):
  pL C0.P C0.G f [.ptr m 0] K s2 (λ x h'=>x=.tup []∧Zo (upd K nb none) m nb s2 c (.sl 2 xF kF) (.sl 2 xS kS) (.sl 9 xT kT) h'):=by
 have hi:To (λ z=>match z with|0=>m|_=>nb) 2=true:=by
  have:Nat.beq m nb=false:=by rw[←eO];exact λ e=>hne (aK e)
  simp[To,List.range,List.range.loop,this]
 have hr0:∀ y, ¬ y=m→ ¬ y=nb→∀ x,x<2→(λ z=>match z with|0=>m|_=>nb) x≠y:=by
  intro y h1 h2 x _ e
  cases x with
  |zero=>exact h1 e.symm
  |succ x=>exact h2 e.symm
 refine H.frameL (λ z=>match z with|0=>m|_=>nb) K s2 rfl hL hi rfl _ λ r' h' hP=>?_;obtain⟨rfl,hP⟩:=hP;rcases hP with ⟨h0,rfl⟩|⟨b,A,B,k,hb,hl,rfl⟩
 ·refine⟨_,⟨rfl,.inl ⟨h0,rfl⟩⟩,λ y blk hy=>?_⟩;by_cases he:y=m
  ·subst he;rw[cZ]at hy;injection hy with hy;subst hy;exact .inl ⟨0,_,rfl,rfl,rfl⟩
  ·rw[cA _ _ he]at hy;by_cases hq:y=nb
   ·subst hq;rw[cZ]at hy;cases hy
   ·rw[cA _ _ hq]at hy;exact .inr ⟨hy,hr0 y he hq⟩
 ·have hb2:b=1∨b=2:=by omega
  have key:∀ bn,bn=FE (λ z=>match z with|0=>m|_=>nb) 2 s2 b→(bn=nb∨bn=s2)→∃ K',((uV (FE (λ z=>match z with|0=>m|_=>nb) 2 s2) (.tup [])=.tup [])∧Zo (upd K nb none) m nb s2 c (.sl 2 xF kF) (.sl 2 xS kS) (.sl 9 xT kT) K')∧∀ y blk,K' y=some blk→(∃ x blk0,heapF [(0,.box (mcX c (.osl b A.length c.rob.length k) (.sl 2 xF kF) (.sl 2 xS kS) (.sl 9 xT kT))),(b,.arr ((A++c.rob++B).map enL) 17)] x=some blk0∧y=FE (λ z=>match z with|0=>m|_=>nb) 2 s2 x∧blk=Fn (FE (λ z=>match z with|0=>m|_=>nb) 2 s2) blk0)∨(K y=some blk∧∀ x,x<2→(λ z=>match z with|0=>m|_=>nb) x≠y):=by
   intro bn hbn hor;refine⟨_,⟨rfl,.inr ⟨bn,A,B,k,hor,hl,rfl⟩⟩,λ y blk hy=>?_⟩;by_cases hs:y=bn
   ·subst hs;rw[cZ]at hy;injection hy with hy;subst hy;refine .inl ⟨b,.arr ((A++c.rob++B).map enL) 17,?_,hbn,rfl⟩;rcases hb2 with rfl|rfl<;>rfl
   ·rw[cA _ _ hs]at hy;by_cases he:y=m
    ·subst he;rw[cZ]at hy;injection hy with hy;subst hy;refine .inl ⟨0,_,rfl,rfl,?_⟩;rw[hbn];rfl
    ·rw[cA _ _ he]at hy;by_cases hq:y=nb
     ·subst hq;rw[cZ]at hy;cases hy
     ·rw[cA _ _ hq]at hy;exact .inr ⟨hy,hr0 y he hq⟩
  rcases hb2 with rfl|rfl
  ·exact key nb rfl (.inl rfl)
  ·exact key s2 rfl (.inr rfl)
theorem XL{f:FuncId}{b0:Blk}{n:Nat}{c:Co}{kF kS kT:Bool}{xF xS xT:List (List AV)}{rows:List (List AV)}(H:pL C0.P C0.G f [.ptr 0 0] (heapF [(0,b0)]) 1 (λ x h'=>x=.tup []∧h'=heapF [(0,.box (mcX c (.osl 1 0 n false) (.sl 2 xF kF) (.sl 2 xS kS) (.sl 9 xT kT))),(1,.arr rows 17)]))(m:Nat)(K:AH)(s2:Nat)(hL:FrL (λ _=>m) K 1 s2 [(0,b0)]):
  pL C0.P C0.G f [.ptr m 0] K s2 (λ x h'=>x=.tup []∧h'=upd (upd K m (some (.box (mcX c (.osl s2 0 n false) (.sl 2 xF kF) (.sl 2 xS kS) (.sl 9 xT kT))))) s2 (some (.arr rows 17))):=by
 refine H.frameL (λ _=>m) K s2 rfl hL rfl rfl _ λ r' h' hP=>?_;obtain⟨rfl,rfl⟩:=hP;refine⟨_,⟨rfl,rfl⟩,λ y blk hy=>?_⟩;by_cases hs:y=s2
 ·subst hs;rw[cZ]at hy;injection hy with hy;subst hy;exact .inl ⟨1,_,rfl,(vJ _ _ _).symm,rfl⟩
 ·rw[cA _ _ hs]at hy;by_cases he:y=m
  ·subst he;rw[cZ]at hy;injection hy with hy;subst hy;exact .inl ⟨0,_,rfl,rfl,rfl⟩
  ·rw[cA _ _ he]at hy;exact .inr ⟨hy,λ x _ e=>he e.symm⟩
def s0(c:Co):Co:={c with cycle:=wrap64 (c.cycle+1)}
def s1(c:Co):Co:=eH (s0 c)
def s2(c:Co):Co:=fH (s1 c)
def s3(c:Co):Co:=dG (s2 c)
def s4(c:Co):Co:=eE (s3 c)
def s5(c:Co):Co:=fQ (s4 c)
def s6(c:Co):Co:=cX (s5 c)
def s7(c:Co):Co:=kJ (s6 c)
theorem Sv(c:Co):EB c=s7 c:=rfl
theorem Ur{c:Co}{n:Nat}(h:c.okM n):(s0 c).okM n:=⟨⟨h.ok.conf,h.ok.prog,h.ok.progo,h.ok.r,h.ok.fetch,h.ok.fet,h.ok.feto,h.ok.rob,h.ok.robo,h.ok.sto,h.ok.stoo,h.ok.data,h.ok.words,h.ok.bus,h.ok.buso,h.ok.asked,h.ok.guessed,h.ok.mem,h.ok.guess,h.ok.ret,h.ok.reto⟩,h.nb,h.cf,h.data,h.words,h.guess,h.rob,h.fet,h.sto,h.prog,h.mem,h.std⟩
structure StepOk(c:Co)(n:Nat):Prop where
 k0:(s0 c).okM n
 k1:(s1 c).okM (n+1)
 k2:(s2 c).okM (n+1)
 k3:(s3 c).okM (n+5)
 k4:(s4 c).okM (n+7)
 k5:(s5 c).okM (n+7)
 k6:(s6 c).okM (n+8)
 k7:(s7 c).okM (n+10)
theorem FY{c:Co}{n:Nat}(h:c.okM n)(hb:n+20≤890000):StepOk c n:=by
 have k0:=Ur h;have k1:(s1 c).okM (n+1):=KT k0 omT;have k2:(s2 c).okM (n+1):=KV k1;have k3:(s3 c).okM (n+5):=Hw k2 omT;have k4:(s4 c).okM (n+7):=Jk k3 omT;have k5:(s5 c).okM (n+7):=(zS k4).1;have k6:(s6 c).okM (n+8):=(uH k5 omT).1;exact⟨k0,k1,k2,k3,k4,k5,k6,(vY k6 omT).1⟩
theorem Jj{c:Co}{n:Nat}(h:c.ok n)(hb:n+20≤890000):(gI c).ok (n+10):=by
 unfold gI;split
 ·rename_i hr;rw[Sv];exact (FY (qH h omT hr) hb).k7.ok
 ·exact⟨h.conf,h.prog,h.progo,h.r,h.fetch,h.fet,h.feto,h.rob,h.robo,h.sto,h.stoo,h.data,h.words,aL h.bus omT,h.buso,h.asked,h.guessed,h.mem,h.guess,aL h.ret omT,h.reto⟩
theorem Hv{c:Co}{R R' F F' S S' T T':AV}(hR:R=R')(hF:F=F')(hS:S=S')(hT:T=T'):some (Blk.box (mcX c R F S T))=some (Blk.box (mcX c R' F' S' T')):=by rw[hR,hF,hS,hT]
inductive Stg where
 |e0|o0|e1|o1|e2
 |o2 (A B:List Ent) (k:Bool)
 |e3
 |o3 (A B:List Ent) (k:Bool)
 |s4|s5|s6|s7
theorem Zn(c:Co)(nb:Nat)(hm:c.okM nb)(hne:c.rob≠[])(kR kF kS kT:Bool):pL C0.P C0.G 51 [.ptr 0 0] (heapF [(0,.box (mcX c (.sl 17 (c.rob.map enL) kR) (.sl 2 (c.fetched.map ftL) kF) (.sl 2 (c.stores.map ptL) kS) (.sl 9 (c.retired.map spL) kT)))]) 1 (λ x h'=>x=.tup []∧h'=heapF [(0,.box (mcX c (.osl 1 0 c.rob.length false) (.sl 2 (c.fetched.map ftL) true) (.sl 2 (c.stores.map ptL) true) (.sl 9 (c.retired.map spL) true))),(1,.arr (c.rob.map enL) 17)]):=by
 obtain⟨e,l,hel⟩:=List.exists_cons_of_ne_nil hne;have hl:=hm.rob;rw[hel]at hl⊢;exact ZZ c nb hm e l hl kR kF kS kT
theorem Vy(c:Co)(nb:Nat)(hm:c.okM nb)(A B:List Ent)(lo n:Nat)(kR:Bool)(hlo:A.length=lo)(hn:c.rob.length=n)(hA:A.length+n+B.length≤1000)(hAo:∀ x∈A,x.ok)(hBo:∀ x∈B,x.ok)(kS kT:Bool)(xS xT:List (List AV)):pL C0.P C0.G 53 [.ptr 0 0] (heapF [(0,.box (mcX c (.osl 1 lo n kR) (.sl 2 (c.fetched.map ftL) true) (.sl 2 xS kS) (.sl 9 xT kT))),(1,.arr ((A++c.rob++B).map enL) 17)]) 2 (λ x h'=>x=.tup []∧Ut 2 (fH c) (.sl 2 ((fH c).fetched.map ftL) true) (.sl 2 xS kS) (.sl 9 xT kT) h'):=by
 cases hw:xK (dA c)with
 |none=>exact VD c nb hm A B lo n kR hlo hn hA hAo hBo hw kS kT xS xT
 |some i=>exact VE c nb hm A B lo n kR hlo hn hA hAo hBo i hw kS kT xS xT
theorem Pj{α:Type}{l m:List α}(h:l=[])(e:m.length=l.length):[]=m:=by
 subst h;exact (bA e).symm
theorem Us{b:Bool}(h:(!b)=true): ¬ b=true:=by cases b<;>simp_all
theorem XH(c:Co)(nb:Nat)(hok:c.ok nb)(hb:nb+20≤890000)(hr:fS c=false):bT C0 25 [.agg (coL c)] (.agg (coL (gI c))):=by
 refine dc1 (bT.intro c1Ok Tryz.func25 rfl rfl (by kernel_rfl) rfl ?_);refine cSR<|rAl 0 rfl rfl<|rAl 1 rfl rfl<|rE 2<|bK<|cSR<|oR 1 rfl<|rCi rfl (HE c nb hok omT)<|oR 1 rfl<|rE 5<|aV rfl (λ _=>?_) (λ h1=>by exact absurd (dK (rN h1)) (by rw[hr];decide));refine cSR<|oR 1 rfl<|rSx 1 (coL c) rfl rfl rfl<|rE 7<|cO ?_;rw[show gI c=c from if_neg (by rw[hr];decide)];exact eQ rfl tvT rfl rfl
noncomputable def aaU:Code→Code
 | .seq a _=>a
 |c=>c
noncomputable def Vz:Code→Code
 | .seq _ b=>b
 |c=>c
noncomputable def VA:Code:=(Vz (aaU (Vz (Vz (Vz (Vz (Vz (Vz (Tryz.f25.body.getD .skip)))))))))
abbrev aaL(c:Co):Stg→ASt:=λ z_=>match z_ with| .e0=>⟨slotsF [(2,.ptr 1 0),(9,vB (!(fS c))),(3,.ptr 7 0),(21,.agg [.clo 52 [] [],.clo 53 [] [],.clo 54 [] [],.clo 55 [] [],.clo 56 [] [],.clo 57 [] [],.clo 58 [] []]),(22,vI 0)],heapF [(1,.box zCo),(7,.box (mcX (s0 c) (.sl 17 ([]) false) (.sl 2 ((s0 c).fetched.map ftL) true) (.sl 2 ((s0 c).stores.map ptL) true) (.sl 9 ((s0 c).retired.map spL) true)))],23⟩| .o0=>⟨slotsF [(2,.ptr 1 0),(9,vB (!(fS c))),(3,.ptr 7 0),(21,.agg [.clo 52 [] [],.clo 53 [] [],.clo 54 [] [],.clo 55 [] [],.clo 56 [] [],.clo 57 [] [],.clo 58 [] []]),(22,vI 0)],heapF [(1,.box zCo),(7,.box (mcX (s0 c) (.osl 22 0 c.rob.length false) (.sl 2 ((s0 c).fetched.map ftL) true) (.sl 2 ((s0 c).stores.map ptL) true) (.sl 9 ((s0 c).retired.map spL) true))),(22,.arr ((([]:List Ent)++(s0 c).rob++[]).map enL) 17)],23⟩| .e1=>⟨slotsF [(2,.ptr 1 0),(9,vB (!(fS c))),(3,.ptr 7 0),(21,.agg [.clo 52 [] [],.clo 53 [] [],.clo 54 [] [],.clo 55 [] [],.clo 56 [] [],.clo 57 [] [],.clo 58 [] []]),(22,vI 1)],heapF [(1,.box zCo),(7,.box (mcX (s1 c) (.sl 17 ([]) false) (.sl 2 ((s1 c).fetched.map ftL) true) (.sl 2 ((s1 c).stores.map ptL) true) (.sl 9 ((s1 c).retired.map spL) true)))],23⟩| .o1=>⟨slotsF [(2,.ptr 1 0),(9,vB (!(fS c))),(3,.ptr 7 0),(21,.agg [.clo 52 [] [],.clo 53 [] [],.clo 54 [] [],.clo 55 [] [],.clo 56 [] [],.clo 57 [] [],.clo 58 [] []]),(22,vI 1)],heapF [(1,.box zCo),(7,.box (mcX (s1 c) (.osl 22 0 c.rob.length false) (.sl 2 ((s1 c).fetched.map ftL) true) (.sl 2 ((s1 c).stores.map ptL) true) (.sl 9 ((s1 c).retired.map spL) true))),(22,.arr ((([]:List Ent)++(s1 c).rob++[]).map enL) 17)],23⟩| .e2=>⟨slotsF [(2,.ptr 1 0),(9,vB (!(fS c))),(3,.ptr 7 0),(21,.agg [.clo 52 [] [],.clo 53 [] [],.clo 54 [] [],.clo 55 [] [],.clo 56 [] [],.clo 57 [] [],.clo 58 [] []]),(22,vI 2)],heapF [(1,.box zCo),(7,.box (mcX (s2 c) (.sl 17 ([]) false) (.sl 2 ((s2 c).fetched.map ftL) true) (.sl 2 ((s2 c).stores.map ptL) true) (.sl 9 ((s2 c).retired.map spL) true)))],23⟩| .o2 A B kk=>⟨slotsF [(2,.ptr 1 0),(9,vB (!(fS c))),(3,.ptr 7 0),(21,.agg [.clo 52 [] [],.clo 53 [] [],.clo 54 [] [],.clo 55 [] [],.clo 56 [] [],.clo 57 [] [],.clo 58 [] []]),(22,vI 2)],heapF [(1,.box zCo),(7,.box (mcX (s2 c) (.osl 22 A.length ((s2 c).rob.length) kk) (.sl 2 ((s2 c).fetched.map ftL) true) (.sl 2 ((s2 c).stores.map ptL) true) (.sl 9 ((s2 c).retired.map spL) true))),(22,.arr ((A++(s2 c).rob++B).map enL) 17)],23⟩| .e3=>⟨slotsF [(2,.ptr 1 0),(9,vB (!(fS c))),(3,.ptr 7 0),(21,.agg [.clo 52 [] [],.clo 53 [] [],.clo 54 [] [],.clo 55 [] [],.clo 56 [] [],.clo 57 [] [],.clo 58 [] []]),(22,vI 3)],heapF [(1,.box zCo),(7,.box (mcX (s3 c) (.sl 17 ([]) false) (.sl 2 ((s3 c).fetched.map ftL) true) (.sl 2 ((s3 c).stores.map ptL) false) (.sl 9 ((s3 c).retired.map spL) false)))],23⟩| .o3 A B kk=>⟨slotsF [(2,.ptr 1 0),(9,vB (!(fS c))),(3,.ptr 7 0),(21,.agg [.clo 52 [] [],.clo 53 [] [],.clo 54 [] [],.clo 55 [] [],.clo 56 [] [],.clo 57 [] [],.clo 58 [] []]),(22,vI 3)],heapF [(1,.box zCo),(7,.box (mcX (s3 c) (.osl 22 A.length ((s3 c).rob.length) kk) (.sl 2 ((s3 c).fetched.map ftL) true) (.sl 2 ((s3 c).stores.map ptL) false) (.sl 9 ((s3 c).retired.map spL) false))),(22,.arr ((A++(s3 c).rob++B).map enL) 17)],23⟩| .s4=>⟨slotsF [(2,.ptr 1 0),(9,vB (!(fS c))),(3,.ptr 7 0),(21,.agg [.clo 52 [] [],.clo 53 [] [],.clo 54 [] [],.clo 55 [] [],.clo 56 [] [],.clo 57 [] [],.clo 58 [] []]),(22,vI 4)],heapF [(1,.box zCo),(7,.box (mcX (s4 c) (.sl 17 ((s4 c).rob.map enL) false) (.sl 2 ((s4 c).fetched.map ftL) true) (.sl 2 ((s4 c).stores.map ptL) false) (.sl 9 ((s4 c).retired.map spL) false)))],23⟩| .s5=>⟨slotsF [(2,.ptr 1 0),(9,vB (!(fS c))),(3,.ptr 7 0),(21,.agg [.clo 52 [] [],.clo 53 [] [],.clo 54 [] [],.clo 55 [] [],.clo 56 [] [],.clo 57 [] [],.clo 58 [] []]),(22,vI 5)],heapF [(1,.box zCo),(7,.box (mcX (s5 c) (.sl 17 ((s5 c).rob.map enL) false) (.sl 2 ((s5 c).fetched.map ftL) true) (.sl 2 ((s5 c).stores.map ptL) false) (.sl 9 ((s5 c).retired.map spL) false)))],23⟩| .s6=>⟨slotsF [(2,.ptr 1 0),(9,vB (!(fS c))),(3,.ptr 7 0),(21,.agg [.clo 52 [] [],.clo 53 [] [],.clo 54 [] [],.clo 55 [] [],.clo 56 [] [],.clo 57 [] [],.clo 58 [] []]),(22,vI 6)],heapF [(1,.box zCo),(7,.box (mcX (s6 c) (.sl 17 ((s6 c).rob.map enL) false) (.sl 2 ((s6 c).fetched.map ftL) false) (.sl 2 ((s6 c).stores.map ptL) false) (.sl 9 ((s6 c).retired.map spL) false)))],23⟩| .s7=>⟨slotsF [(2,.ptr 1 0),(9,vB (!(fS c))),(3,.ptr 7 0),(21,.agg [.clo 52 [] [],.clo 53 [] [],.clo 54 [] [],.clo 55 [] [],.clo 56 [] [],.clo 57 [] [],.clo 58 [] []]),(22,vI 7)],heapF [(1,.box zCo),(7,.box (mcX (s7 c) (.sl 17 ((s7 c).rob.map enL) false) (.sl 2 ((s7 c).fetched.map ftL) false) (.sl 2 ((s7 c).stores.map ptL) false) (.sl 9 ((s7 c).retired.map spL) false)))],23⟩
abbrev aaM(c:Co):Stg→Prop:=λ z_=>match z_ with| .e0=>(s0 c).rob=[]| .e1=>(s1 c).rob=[]| .e2=>(s2 c).rob=[]| .e3=>(s3 c).rob=[]| .o2 A B _=>A.length+(s2 c).rob.length+B.length≤1000| .o3 A B _=>A.length+(s3 c).rob.length+B.length≤1000|_=>True
abbrev aaV:Stg→Nat:=λ z_=>match z_ with| .e0| .o0=>7| .e1| .o1=>6| .e2| .o2 _ _ _=>5| .e3| .o3 _ _ _=>4| .s4=>3| .s5=>2| .s6=>1| .s7=>0
theorem Mb(c:Co)(nb:Nat)(hm:c.okM nb)(hb:nb+20≤890000)(hk:StepOk c nb){Q:AEx→ASt→Prop}(hQ:∀ st' σ',Weak st' ⟨slotsF [(2,.ptr 1 0),(3,.ptr 7 0)],heapF [(1,.box zCo),(7,.box (mcX (s7 c) (.sl 17 ((s7 c).rob.map enL) false) (.sl 2 ((s7 c).fetched.map ftL) false) (.sl 2 ((s7 c).stores.map ptL) false) (.sl 9 ((s7 c).retired.map spL) false)))],23⟩ σ'→Q .normal st')(z0:Stg)(hz:aaM c z0){st:ASt}(σ:Nat→Nat)(hW:Weak st (aaL c z0) σ):fZ C1 (bT C1) VA st Q:=by
 refine bL<|rH (κ:=Stg) (aaL c) (aaM c) aaV z0 (σ) hW rfl hz ?_;intro z_ hq;rcases z_ with _|_|_|_|_|⟨A,B,kk⟩|_|⟨A,B,kk⟩|_|_|_|_
 ·have hG:(s0 c).rob=[]:=hq;refine cSR<|rV (vB true) rfl<|rE 24<|bK<|aV rfl (λ _=>?_) (λ h=>by cases h);refine bB<|bK<|bL<|cSR<|nW (.clo 52 [] []) rfl rfl (⟨by decide,by decide⟩)<|oR 1 rfl<|rE 26<|cRg<|oR 1 rfl<|fR _ rfl rfl rfl ((VC (s0 c) nb hk.k0 hG true true true ((s0 c).fetched.map ftL) ((s0 c).retired.map spL)).frameB (λ _=>7) _ _ rfl ⟨⟨rfl,rfl,rfl,rfl⟩,trivial⟩ rfl rfl rfl rfl) ?_;rintro _ _ ⟨rfl,rfl⟩;refine rE 28<|cRg<|rV (vI 1) rfl<|oR 1 rfl<|rE 30<|.mk _ (.refl _) ⟨.e1,λ i=>i,Weak.of_lists _ wT ⟨⟨rfl,rfl,rfl⟩,⟨rfl,(Hv (c:=s1 c) rfl (congrArg (λ z:List Ft=>AV.sl 2 (z.map ftL) true) (show (s0 c).fetched=(s1 c).fetched from ((pN (s0 c)).1).symm)) (congrArg (λ z:List Pt=>AV.sl 2 (z.map ptL) true) (show (s0 c).stores=(s1 c).stores from ((pN (s0 c)).2.1).symm)) (congrArg (λ z:List Sp=>AV.sl 9 (z.map spL) true) (show (s0 c).retired=(s1 c).retired from ((pN (s0 c)).2.2.1).symm))),rfl⟩,trivial⟩ rfl,rfl,(Pj hG (pN (s0 c)).2.2.2).symm,by show (6:Nat)<7;decide⟩
 ·refine cSR<|rV (vB true) rfl<|rE 24<|bK<|aV rfl (λ _=>?_) (λ h=>by cases h);refine bB<|bK<|bL<|cSR<|nW (.clo 52 [] []) rfl rfl (⟨by decide,by decide⟩)<|oR 1 rfl<|rE 26<|cRg<|oR 1 rfl<|fR _ rfl rfl rfl ((XN (s0 c) nb hk.k0 [] [] 0 c.rob.length false rfl rfl (by have:=hm.rob;simpa using this) true true true ((s0 c).fetched.map ftL) ((s0 c).retired.map spL)).frameB2 (λ z=>match z with|0=>7|_=>22) _ _ rfl ⟨⟨rfl,rfl,rfl,rfl⟩,⟨rfl,rfl,rfl,rfl⟩,trivial⟩ rfl rfl rfl rfl rfl) ?_;rintro _ _ ⟨rfl,rfl⟩;refine rE 28<|cRg<|rV (vI 1) rfl<|oR 1 rfl<|rE 30<|.mk _ (.refl _) ⟨.o1,λ i=>i,Weak.of_lists _ wT ⟨⟨rfl,rfl,rfl⟩,⟨rfl,(Hv (c:=s1 c) rfl (congrArg (λ z:List Ft=>AV.sl 2 (z.map ftL) true) (show (s0 c).fetched=(s1 c).fetched from ((pN (s0 c)).1).symm)) (congrArg (λ z:List Pt=>AV.sl 2 (z.map ptL) true) (show (s0 c).stores=(s1 c).stores from ((pN (s0 c)).2.1).symm)) (congrArg (λ z:List Sp=>AV.sl 9 (z.map spL) true) (show (s0 c).retired=(s1 c).retired from ((pN (s0 c)).2.2.1).symm))),rfl⟩,⟨rfl,rfl,rfl⟩,trivial⟩ rfl,rfl,trivial,by show (6:Nat)<7;decide⟩
 ·have hG:(s1 c).rob=[]:=hq;refine cSR<|rV (vB true) rfl<|rE 24<|bK<|aV rfl (λ _=>?_) (λ h=>by cases h);refine bB<|bK<|bL<|cSR<|nW (.clo 53 [] []) rfl rfl (⟨by decide,by decide⟩)<|oR 1 rfl<|rE 26<|cRg<|oR 1 rfl<|fR _ rfl rfl rfl (Pk (VF (s1 c) (nb+1) hk.k1 hG true true ((s1 c).stores.map ptL) ((s1 c).retired.map spL)) 7 _ _ ⟨⟨rfl,rfl,rfl,rfl⟩,trivial⟩) ?_;rintro _ _ ⟨rfl,⟨hz,rfl⟩|⟨_,A,B,kk,rfl|rfl,hl,rfl⟩⟩
  ·refine rE 28<|cRg<|rV (vI 2) rfl<|oR 1 rfl<|rE 30<|.mk _ (.refl _) ⟨.e2,λ i=>i,Weak.of_lists _ wT ⟨⟨rfl,rfl,rfl⟩,⟨rfl,(Hv (c:=s2 c) rfl rfl (congrArg (λ z:List Pt=>AV.sl 2 (z.map ptL) true) (show (s1 c).stores=(s2 c).stores from ((lP (s1 c)).1).symm)) (congrArg (λ z:List Sp=>AV.sl 9 (z.map spL) true) (show (s1 c).retired=(s2 c).retired from ((lP (s1 c)).2).symm))),rfl⟩,trivial⟩ rfl,rfl,hz,by show (5:Nat)<6;decide⟩
  ·refine rE 28<|cRg<|rV (vI 2) rfl<|oR 1 rfl<|rE 30<|.mk _ (.refl _) ⟨(.o2 A B kk),λ i=>match i with|22=>27|i=>i,Weak.of_lists _ wT ⟨⟨rfl,rfl,rfl⟩,⟨rfl,(Hv (c:=s2 c) rfl rfl (congrArg (λ z:List Pt=>AV.sl 2 (z.map ptL) true) (show (s1 c).stores=(s2 c).stores from ((lP (s1 c)).1).symm)) (congrArg (λ z:List Sp=>AV.sl 9 (z.map spL) true) (show (s1 c).retired=(s2 c).retired from ((lP (s1 c)).2).symm))),rfl⟩,⟨rfl,rfl,rfl⟩,trivial⟩ rfl,rfl,hl,by show (5:Nat)<6;decide⟩
  ·refine rE 28<|cRg<|rV (vI 2) rfl<|oR 1 rfl<|rE 30<|.mk _ (.refl _) ⟨(.o2 A B kk),λ i=>match i with|22=>27|i=>i,Weak.of_lists _ wT ⟨⟨rfl,rfl,rfl⟩,⟨rfl,(Hv (c:=s2 c) rfl rfl (congrArg (λ z:List Pt=>AV.sl 2 (z.map ptL) true) (show (s1 c).stores=(s2 c).stores from ((lP (s1 c)).1).symm)) (congrArg (λ z:List Sp=>AV.sl 9 (z.map spL) true) (show (s1 c).retired=(s2 c).retired from ((lP (s1 c)).2).symm))),rfl⟩,⟨rfl,rfl,rfl⟩,trivial⟩ rfl,rfl,hl,by show (5:Nat)<6;decide⟩
 ·refine cSR<|rV (vB true) rfl<|rE 24<|bK<|aV rfl (λ _=>?_) (λ h=>by cases h);refine bB<|bK<|bL<|cSR<|nW (.clo 53 [] []) rfl rfl (⟨by decide,by decide⟩)<|oR 1 rfl<|rE 26<|cRg<|oR 1 rfl<|fR _ rfl rfl rfl (Pl (Vy (s1 c) (nb+1) hk.k1 [] [] 0 c.rob.length false rfl (pN (s0 c)).2.2.2 (by have:=hm.rob;simpa using this) (λ x h=>by cases h) (λ x h=>by cases h) true true ((s1 c).stores.map ptL) ((s1 c).retired.map spL)) 7 22 _ _ ⟨⟨rfl,rfl,rfl,rfl⟩,⟨rfl,rfl,rfl,rfl⟩,trivial⟩ (by decide)) ?_;rintro _ _ ⟨rfl,⟨hz,rfl⟩|⟨_,A,B,kk,rfl|rfl,hl,rfl⟩⟩
  ·refine rE 28<|cRg<|rV (vI 2) rfl<|oR 1 rfl<|rE 30<|.mk _ (.refl _) ⟨.e2,λ i=>i,Weak.of_lists _ wT ⟨⟨rfl,rfl,rfl⟩,⟨rfl,(Hv (c:=s2 c) rfl rfl (congrArg (λ z:List Pt=>AV.sl 2 (z.map ptL) true) (show (s1 c).stores=(s2 c).stores from ((lP (s1 c)).1).symm)) (congrArg (λ z:List Sp=>AV.sl 9 (z.map spL) true) (show (s1 c).retired=(s2 c).retired from ((lP (s1 c)).2).symm))),rfl⟩,trivial⟩ rfl,rfl,hz,by show (5:Nat)<6;decide⟩
  ·refine rE 28<|cRg<|rV (vI 2) rfl<|oR 1 rfl<|rE 30<|.mk _ (.refl _) ⟨(.o2 A B kk),λ i=>i,Weak.of_lists _ wT ⟨⟨rfl,rfl,rfl⟩,⟨rfl,(Hv (c:=s2 c) rfl rfl (congrArg (λ z:List Pt=>AV.sl 2 (z.map ptL) true) (show (s1 c).stores=(s2 c).stores from ((lP (s1 c)).1).symm)) (congrArg (λ z:List Sp=>AV.sl 9 (z.map spL) true) (show (s1 c).retired=(s2 c).retired from ((lP (s1 c)).2).symm))),rfl⟩,⟨rfl,rfl,rfl⟩,trivial⟩ rfl,rfl,hl,by show (5:Nat)<6;decide⟩
  ·refine rE 28<|cRg<|rV (vI 2) rfl<|oR 1 rfl<|rE 30<|.mk _ (.refl _) ⟨(.o2 A B kk),λ i=>match i with|22=>27|i=>i,Weak.of_lists _ wT ⟨⟨rfl,rfl,rfl⟩,⟨rfl,(Hv (c:=s2 c) rfl rfl (congrArg (λ z:List Pt=>AV.sl 2 (z.map ptL) true) (show (s1 c).stores=(s2 c).stores from ((lP (s1 c)).1).symm)) (congrArg (λ z:List Sp=>AV.sl 9 (z.map spL) true) (show (s1 c).retired=(s2 c).retired from ((lP (s1 c)).2).symm))),rfl⟩,⟨rfl,rfl,rfl⟩,trivial⟩ rfl,rfl,hl,by show (5:Nat)<6;decide⟩
 ·have hG:(s2 c).rob=[]:=hq;refine cSR<|rV (vB true) rfl<|rE 24<|bK<|aV rfl (λ _=>?_) (λ h=>by cases h);refine bB<|bK<|bL<|cSR<|nW (.clo 54 [] []) rfl rfl (⟨by decide,by decide⟩)<|oR 1 rfl<|rE 26<|cRg<|oR 1 rfl<|fR _ rfl rfl rfl (Pk (Pp (s2 c) (nb+1) hk.k2 hG) 7 _ _ ⟨⟨rfl,rfl,rfl,rfl⟩,trivial⟩) ?_;rintro _ _ ⟨rfl,⟨hz,rfl⟩|⟨_,A,B,kk,rfl|rfl,hl,rfl⟩⟩
  ·refine rE 28<|cRg<|rV (vI 3) rfl<|oR 1 rfl<|rE 30<|.mk _ (.refl _) ⟨.e3,λ i=>i,Weak.of_lists _ wT ⟨⟨rfl,rfl,rfl⟩,⟨rfl,(Hv (c:=s3 c) rfl rfl rfl rfl),rfl⟩,trivial⟩ rfl,rfl,hz,by show (4:Nat)<5;decide⟩
  ·refine rE 28<|cRg<|rV (vI 3) rfl<|oR 1 rfl<|rE 30<|.mk _ (.refl _) ⟨(.o3 A B kk),λ i=>match i with|22=>27|i=>i,Weak.of_lists _ wT ⟨⟨rfl,rfl,rfl⟩,⟨rfl,(Hv (c:=s3 c) rfl rfl rfl rfl),rfl⟩,⟨rfl,rfl,rfl⟩,trivial⟩ rfl,rfl,hl,by show (4:Nat)<5;decide⟩
  ·refine rE 28<|cRg<|rV (vI 3) rfl<|oR 1 rfl<|rE 30<|.mk _ (.refl _) ⟨(.o3 A B kk),λ i=>match i with|22=>27|i=>i,Weak.of_lists _ wT ⟨⟨rfl,rfl,rfl⟩,⟨rfl,(Hv (c:=s3 c) rfl rfl rfl rfl),rfl⟩,⟨rfl,rfl,rfl⟩,trivial⟩ rfl,rfl,hl,by show (4:Nat)<5;decide⟩
 ·have hG:A.length+(s2 c).rob.length+B.length≤1000:=hq;refine cSR<|rV (vB true) rfl<|rE 24<|bK<|aV rfl (λ _=>?_) (λ h=>by cases h);refine bB<|bK<|bL<|cSR<|nW (.clo 54 [] []) rfl rfl (⟨by decide,by decide⟩)<|oR 1 rfl<|rE 26<|cRg<|oR 1 rfl<|fR _ rfl rfl rfl (Pl (SB (s2 c) (nb+1) hk.k2 omT A B A.length (s2 c).rob.length kk rfl rfl hG) 7 22 _ _ ⟨⟨rfl,rfl,rfl,rfl⟩,⟨rfl,rfl,rfl,rfl⟩,trivial⟩ (by decide)) ?_;rintro _ _ ⟨rfl,⟨hz,rfl⟩|⟨_,A,B,kk,rfl|rfl,hl,rfl⟩⟩
  ·refine rE 28<|cRg<|rV (vI 3) rfl<|oR 1 rfl<|rE 30<|.mk _ (.refl _) ⟨.e3,λ i=>i,Weak.of_lists _ wT ⟨⟨rfl,rfl,rfl⟩,⟨rfl,(Hv (c:=s3 c) rfl rfl rfl rfl),rfl⟩,trivial⟩ rfl,rfl,hz,by show (4:Nat)<5;decide⟩
  ·refine rE 28<|cRg<|rV (vI 3) rfl<|oR 1 rfl<|rE 30<|.mk _ (.refl _) ⟨(.o3 A B kk),λ i=>i,Weak.of_lists _ wT ⟨⟨rfl,rfl,rfl⟩,⟨rfl,(Hv (c:=s3 c) rfl rfl rfl rfl),rfl⟩,⟨rfl,rfl,rfl⟩,trivial⟩ rfl,rfl,hl,by show (4:Nat)<5;decide⟩
  ·refine rE 28<|cRg<|rV (vI 3) rfl<|oR 1 rfl<|rE 30<|.mk _ (.refl _) ⟨(.o3 A B kk),λ i=>match i with|22=>27|i=>i,Weak.of_lists _ wT ⟨⟨rfl,rfl,rfl⟩,⟨rfl,(Hv (c:=s3 c) rfl rfl rfl rfl),rfl⟩,⟨rfl,rfl,rfl⟩,trivial⟩ rfl,rfl,hl,by show (4:Nat)<5;decide⟩
 ·have hG:(s3 c).rob=[]:=hq;refine cSR<|rV (vB true) rfl<|rE 24<|bK<|aV rfl (λ _=>?_) (λ h=>by cases h);refine bB<|bK<|bL<|cSR<|nW (.clo 55 [] []) rfl rfl (⟨by decide,by decide⟩)<|oR 1 rfl<|rE 26<|cRg<|oR 1 rfl<|fR _ rfl rfl rfl ((SC (s3 c) (nb+5) hk.k3 hG true false false ((s3 c).fetched.map ftL) ((s3 c).retired.map spL)).frameB (λ _=>7) _ _ rfl ⟨⟨rfl,rfl,rfl,rfl⟩,trivial⟩ rfl rfl rfl rfl) ?_;rintro _ _ ⟨rfl,rfl⟩;refine rE 28<|cRg<|rV (vI 4) rfl<|oR 1 rfl<|rE 30<|.mk _ (.refl _) ⟨.s4,λ i=>i,Weak.of_lists _ wT ⟨⟨rfl,rfl,rfl⟩,⟨rfl,(Hv (c:=s4 c) (congrArg (λ z:List Ent=>AV.sl 17 (z.map enL) false) (Pj hG (nP hk.k3 omT).1)) (congrArg (λ z:List Ft=>AV.sl 2 (z.map ftL) true) (show (s3 c).fetched=(s4 c).fetched from ((nP hk.k3 omT).2.2.1).symm)) rfl (congrArg (λ z:List Sp=>AV.sl 9 (z.map spL) false) (show (s3 c).retired=(s4 c).retired from ((nP hk.k3 omT).2.2.2).symm))),rfl⟩,trivial⟩ rfl,rfl,trivial,by show (3:Nat)<4;decide⟩
 ·have hG:A.length+(s3 c).rob.length+B.length≤1000:=hq;refine cSR<|rV (vB true) rfl<|rE 24<|bK<|aV rfl (λ _=>?_) (λ h=>by cases h);refine bB<|bK<|bL<|cSR<|nW (.clo 55 [] []) rfl rfl (⟨by decide,by decide⟩)<|oR 1 rfl<|rE 26<|cRg<|oR 1 rfl<|fR _ rfl rfl rfl ((VH (s3 c) (nb+5) hk.k3 omT A B A.length (s3 c).rob.length kk true false false ((s3 c).fetched.map ftL) ((s3 c).retired.map spL) rfl rfl hG).frameB2 (λ z=>match z with|0=>7|_=>22) _ _ rfl ⟨⟨rfl,rfl,rfl,rfl⟩,⟨rfl,rfl,rfl,rfl⟩,trivial⟩ rfl rfl rfl rfl rfl) ?_;rintro _ _ ⟨rfl,rfl⟩;refine rE 28<|cRg<|rV (vI 4) rfl<|oR 1 rfl<|rE 30<|.mk _ (.step (some (22,17,(A++(s4 c).rob++B).map enL)) (Ghost.of_lists (l:=[(2,.ptr 1 0),(9,vB (!(fS c))),(3,.ptr 7 0),(21,.agg [.clo 52 [] [],.clo 53 [] [],.clo 54 [] [],.clo 55 [] [],.clo 56 [] [],.clo 57 [] [],.clo 58 [] []]),(22,vI 4)]) (hp:=[(1,.box zCo),(7,.box (mcX (s4 c) (.sl 17 ((((A++(s4 c).rob++B).drop A.length).take (s3 c).rob.length).map enL) false) (.sl 2 ((s3 c).fetched.map ftL) true) (.sl 2 ((s4 c).stores.map ptL) false) (.sl 9 ((s3 c).retired.map spL) false)))]) rfl rfT ⟨⟨rfl,_,rfl,.refl _⟩,⟨rfl,_,rfl,LeB.boxL (qS (HY (by simp only[aR];have:=(nP hk.k3 omT).1;show A.length+(s3 c).rob.length≤A.length+(eE (s3 c)).rob.length+B.length;omega)) (.refl _) (.refl _) (.refl _))⟩,trivial⟩) (.refl _)) ⟨.s4,λ i=>i,Weak.of_lists _ wT ⟨⟨rfl,rfl,rfl⟩,⟨rfl,(Hv (c:=s4 c) (congrArg (λ z:List Ent=>AV.sl 17 (z.map enL) false) (Pn rfl (nP hk.k3 omT).1)) (congrArg (λ z:List Ft=>AV.sl 2 (z.map ftL) true) (show (s3 c).fetched=(s4 c).fetched from ((nP hk.k3 omT).2.2.1).symm)) rfl (congrArg (λ z:List Sp=>AV.sl 9 (z.map spL) false) (show (s3 c).retired=(s4 c).retired from ((nP hk.k3 omT).2.2.2).symm))),rfl⟩,trivial⟩ rfl,rfl,trivial,by show (3:Nat)<4;decide⟩
 ·refine cSR<|rV (vB true) rfl<|rE 24<|bK<|aV rfl (λ _=>?_) (λ h=>by cases h);refine bB<|bK<|bL<|cSR<|nW (.clo 56 [] []) rfl rfl (⟨by decide,by decide⟩)<|oR 1 rfl<|rE 26<|cRg<|oR 1 rfl<|fR _ rfl rfl rfl ((VJ (s4 c) (nb+7) hk.k4 false ((s4 c).stores.map ptL) false ((s4 c).retired.map spL)).frameB (λ _=>7) _ _ rfl ⟨⟨rfl,rfl,rfl,rfl⟩,trivial⟩ rfl rfl rfl rfl) ?_;rintro _ _ ⟨rfl,rfl⟩;refine rE 28<|cRg<|rV (vI 5) rfl<|oR 1 rfl<|rE 30<|.mk _ (.refl _) ⟨.s5,λ i=>i,Weak.of_lists _ wT ⟨⟨rfl,rfl,rfl⟩,⟨rfl,(Hv (c:=s5 c) rfl rfl (congrArg (λ z:List Pt=>AV.sl 2 (z.map ptL) false) (show (s4 c).stores=(s5 c).stores from ((zS hk.k4).2.1).symm)) (congrArg (λ z:List Sp=>AV.sl 9 (z.map spL) false) (show (s4 c).retired=(s5 c).retired from ((zS hk.k4).2.2).symm))),rfl⟩,trivial⟩ rfl,rfl,trivial,by show (2:Nat)<3;decide⟩
 ·refine cSR<|rV (vB true) rfl<|rE 24<|bK<|aV rfl (λ _=>?_) (λ h=>by cases h);refine bB<|bK<|bL<|cSR<|nW (.clo 57 [] []) rfl rfl (⟨by decide,by decide⟩)<|oR 1 rfl<|rE 26<|cRg<|oR 1 rfl<|fR _ rfl rfl rfl ((SE (s5 c) (nb+7) hk.k5 false ((s5 c).rob.map enL) false ((s5 c).stores.map ptL) false ((s5 c).retired.map spL)).frameB (λ _=>7) _ _ rfl ⟨⟨rfl,rfl,rfl,rfl⟩,trivial⟩ rfl rfl rfl rfl) ?_;rintro _ _ ⟨rfl,rfl⟩;refine rE 28<|cRg<|rV (vI 6) rfl<|oR 1 rfl<|rE 30<|.mk _ (.refl _) ⟨.s6,λ i=>i,Weak.of_lists _ wT ⟨⟨rfl,rfl,rfl⟩,⟨rfl,(Hv (c:=s6 c) (congrArg (λ z:List Ent=>AV.sl 17 (z.map enL) false) (show (s5 c).rob=(s6 c).rob from ((uH hk.k5 omT).2.2.2).symm)) rfl (congrArg (λ z:List Pt=>AV.sl 2 (z.map ptL) false) (show (s5 c).stores=(s6 c).stores from ((uH hk.k5 omT).2.1).symm)) (congrArg (λ z:List Sp=>AV.sl 9 (z.map spL) false) (show (s5 c).retired=(s6 c).retired from ((uH hk.k5 omT).2.2.1).symm))),rfl⟩,trivial⟩ rfl,rfl,trivial,by show (1:Nat)<2;decide⟩
 ·refine cSR<|rV (vB true) rfl<|rE 24<|bK<|aV rfl (λ _=>?_) (λ h=>by cases h);refine bB<|bK<|bL<|cSR<|nW (.clo 58 [] []) rfl rfl (⟨by decide,by decide⟩)<|oR 1 rfl<|rE 26<|cRg<|oR 1 rfl<|fR _ rfl rfl rfl ((VL (s6 c) (nb+8) hk.k6 omT false ((s6 c).rob.map enL) false ((s6 c).fetched.map ftL) false ((s6 c).retired.map spL)).frameB (λ _=>7) _ _ rfl ⟨⟨rfl,rfl,rfl,rfl⟩,trivial⟩ rfl rfl rfl rfl) ?_;rintro _ _ ⟨rfl,rfl⟩;refine rE 28<|cRg<|rV (vI 7) rfl<|oR 1 rfl<|rE 30<|.mk _ (.refl _) ⟨.s7,λ i=>i,Weak.of_lists _ wT ⟨⟨rfl,rfl,rfl⟩,⟨rfl,(Hv (c:=s7 c) (congrArg (λ z:List Ent=>AV.sl 17 (z.map enL) false) (show (s6 c).rob=(s7 c).rob from ((vY hk.k6 omT).2.2.2).symm)) (congrArg (λ z:List Ft=>AV.sl 2 (z.map ftL) false) (show (s6 c).fetched=(s7 c).fetched from ((vY hk.k6 omT).2.1).symm)) rfl (congrArg (λ z:List Sp=>AV.sl 9 (z.map spL) false) (show (s6 c).retired=(s7 c).retired from ((vY hk.k6 omT).2.2.1).symm))),rfl⟩,trivial⟩ rfl,rfl,trivial,by show (0:Nat)<1;decide⟩
 ·refine cSR<|rV (vB false) rfl<|rE 24<|bK<|aV rfl (λ h=>by cases h) (λ _=>?_);refine eP ?_;exact hQ _ (λ s=>s) (Weak.of_lists (λ s=>s) wT wH rfl)
theorem XI(c:Co)(nb:Nat)(hok:c.ok nb)(hb:nb+20≤890000)(hr:fS c=true)(h0:c.rob=[]):bT C0 25 [.agg (coL c)] (.agg (coL (gI c))):=by
 refine dc1 (bT.intro c1Ok Tryz.func25 rfl rfl (by kernel_rfl) rfl ?_);have hm:=qH hok omT hr;have hk:=FY hm hb;refine cSR<|rAl 0 rfl rfl<|rAl 1 rfl rfl<|rE 2<|bK<|cSR<|oR 1 rfl<|rCi rfl (HE c nb hok omT)<|oR 1 rfl<|rE 5<|aV rfl (λ h1=>by exact absurd hr (Us h1)) (λ _=>?_);refine bB<|cSR<|oR 1 rfl<|rV (.agg (coL c)) rfl<|rAl 7 rfl rfl<|rSx 7 (coL c) rfl rfl rfl<|rE 9<|cSR<|fR _ rfl rfl rfl ((show pL C0.P C0.G 51 [.ptr 0 0] (heapF [(0,.box (mcX c (.sl 17 (c.rob.map enL) false) (.sl 2 (c.fetched.map ftL) false) (.sl 2 (c.stores.map ptL) false) (.sl 9 (c.retired.map spL) false)))]) 1 _ from by rw[h0];exact ZY c nb hm false false false false).frameB (λ _=>7) _ _ rfl ⟨⟨rfl,rfl,rfl,rfl⟩,trivial⟩ rfl rfl rfl rfl) ?_;rintro _ _ ⟨rfl,rfl⟩;refine rE 10<|cSR<|oR 3 rfl<|rW (vI (wrap64 (c.cycle+1))) rfl (okI (w64 _))<|oR 2 rfl<|rSx 7 (mcX ({c with cycle:=wrap64 (c.cycle+1)}:Co) (.sl 17 ([]) false) (.sl 2 (c.fetched.map ftL) true) (.sl 2 (c.stores.map ptL) true) (.sl 9 (c.retired.map spL) true)) rfl rfl rfl<|rE 17<|cSR<|rV (.agg [.clo 52 [] [],.clo 53 [] [],.clo 54 [] [],.clo 55 [] [],.clo 56 [] [],.clo 57 [] [],.clo 58 [] []]) rfl<|rAl 18 rfl rfl<|rSt rfl<|rE 20<|FF (κ:=Unit) (λ u_=>⟨slotsF [(2,.ptr 1 0),(3,.ptr 7 0)],heapF [(1,.box zCo),(7,.box (mcX (s7 c) (.sl 17 ((s7 c).rob.map enL) false) (.sl 2 ((s7 c).fetched.map ftL) false) (.sl 2 ((s7 c).stores.map ptL) false) (.sl 9 ((s7 c).retired.map spL) false)))],23⟩) (λ u_=>True) ?_ ?_
 ·refine cSR<|oR 2 rfl<|rE 22<|Mb c nb hm hb hk ?_ .e0 h0 (λ s=>s) (Weak.of_lists (λ s=>s) wT wH rfl);intro st' σ h;exact .mk _ (.refl _) ⟨(),σ,h,rfl,trivial⟩
 ·intro u_ _;refine cSR<|oR 2 rfl<|rSx 1 (mcX (s7 c) (.sl 17 ((s7 c).rob.map enL) false) (.sl 2 ((s7 c).fetched.map ftL) false) (.sl 2 ((s7 c).stores.map ptL) false) (.sl 9 ((s7 c).retired.map spL) false)) rfl rfl rfl<|rE 26<|cO ?_;rw[show gI c=s7 c from if_pos hr];exact eQ rfl tvT rfl rfl
theorem XJ(c:Co)(nb:Nat)(hok:c.ok nb)(hb:nb+20≤890000)(hr:fS c=true)(hne:c.rob≠[]):bT C0 25 [.agg (coL c)] (.agg (coL (gI c))):=by
 refine dc1 (bT.intro c1Ok Tryz.func25 rfl rfl (by kernel_rfl) rfl ?_);have hm:=qH hok omT hr;have hk:=FY hm hb;refine cSR<|rAl 0 rfl rfl<|rAl 1 rfl rfl<|rE 2<|bK<|cSR<|oR 1 rfl<|rCi rfl (HE c nb hok omT)<|oR 1 rfl<|rE 5<|aV rfl (λ h1=>by exact absurd hr (Us h1)) (λ _=>?_);refine bB<|cSR<|oR 1 rfl<|rV (.agg (coL c)) rfl<|rAl 7 rfl rfl<|rSx 7 (coL c) rfl rfl rfl<|rE 9<|cSR<|fR _ rfl rfl rfl (XL (Zn c nb hm hne false false false false) 7 _ _ ⟨⟨rfl,rfl,rfl,rfl⟩,trivial⟩) ?_;rintro _ _ ⟨rfl,rfl⟩;refine rE 10<|cSR<|oR 3 rfl<|rW (vI (wrap64 (c.cycle+1))) rfl (okI (w64 _))<|oR 2 rfl<|rSx 7 (mcX ({c with cycle:=wrap64 (c.cycle+1)}:Co) (.osl 9 0 c.rob.length false) (.sl 2 (c.fetched.map ftL) true) (.sl 2 (c.stores.map ptL) true) (.sl 9 (c.retired.map spL) true)) rfl rfl rfl<|rE 17<|cSR<|rV (.agg [.clo 52 [] [],.clo 53 [] [],.clo 54 [] [],.clo 55 [] [],.clo 56 [] [],.clo 57 [] [],.clo 58 [] []]) rfl<|rAl 18 rfl rfl<|rSt rfl<|rE 20<|FF (κ:=Unit) (λ u_=>⟨slotsF [(2,.ptr 1 0),(3,.ptr 7 0)],heapF [(1,.box zCo),(7,.box (mcX (s7 c) (.sl 17 ((s7 c).rob.map enL) false) (.sl 2 ((s7 c).fetched.map ftL) false) (.sl 2 ((s7 c).stores.map ptL) false) (.sl 9 ((s7 c).retired.map spL) false)))],23⟩) (λ u_=>True) ?_ ?_
 ·refine cSR<|oR 2 rfl<|rE 22<|Mb c nb hm hb hk ?_ .o0 trivial (λ i=>match i with|22=>9|i=>i) (Weak.of_lists (λ i=>match i with|22=>9|i=>i) wT ⟨⟨rfl,rfl,rfl⟩,⟨rfl,rfl,rfl⟩,⟨rfl,(by show some (Blk.arr (c.rob.map enL) 17)=some (Blk.arr (([]++c.rob++[]).map enL) 17);rw[iA,dZ]),rfl⟩,trivial⟩ rfl);intro st' σ h;exact .mk _ (.refl _) ⟨(),σ,h,rfl,trivial⟩
 ·intro u_ _;refine cSR<|oR 2 rfl<|rSx 1 (mcX (s7 c) (.sl 17 ((s7 c).rob.map enL) false) (.sl 2 ((s7 c).fetched.map ftL) false) (.sl 2 ((s7 c).stores.map ptL) false) (.sl 9 ((s7 c).retired.map spL) false)) rfl rfl rfl<|rE 26<|cO ?_;rw[show gI c=s7 c from if_pos hr];exact eQ rfl tvT rfl rfl
theorem XK(c:Co)(nb:Nat)(hok:c.ok nb)(hb:nb+20≤890000):bT C0 25 [.agg (coL c)] (.agg (coL (gI c))):=by
 cases hr:fS c with
 |false=>exact XH c nb hok hb hr
 |true=>
  by_cases h0:c.rob=[]
  ·exact XI c nb hok hb hr h0
  ·exact XJ c nb hok hb hr h0
def Fs(n:Int):Nat:=(min n 2000).toNat
theorem XE(a b:Int):(if b<a then b else a)=min a b:=by split<;>omega
theorem LX(a b:Int):(Ce a b).ok:=by
 unfold Ce;refine⟨?_,λ s hs=>?_⟩
 ·have h:(if bG a 1 4=3 then 2 else bG a 1 4).toNat≤4:=by unfold bG;(repeat' split)<;>omega
  show (List.replicate _ _).length≤_;rw[cQ];omega
 ·rw[jF hs];exact⟨aD _,λ x hx=>by cases hx⟩
theorem Sq:Yo.ok:=by
 refine⟨by decide,by decide,by decide,?_,?_⟩
 ·intro x hx;have:x=⟨0,0⟩:=jF (n:=8) hx;subst this;exact⟨aD _,aD _⟩
 ·intro x hx;cases hx
theorem Ht(c:Cf)(prog:List Nat)(m:ByteArray)(hc:c.ok)(hp:∀ x∈prog,x≤4294967295):(qP c prog m).ok 0:=by
 have hm:(pF m).size≤256:=by
  rw[vK];unfold upS;repeat' split
  all_goals omega
 have hl:(prog.take (min prog.length 64)).length≤9223372036854775807:=by rw[aN];omega
 refine⟨⟨aL (PQ c) (by decide),aL (NE c) (by decide),HI hc.tp⟩,hl,yL (P:=λ x=>x≤4294967295) hp,λ _=>aD _,aD _,aD _,(λ x hx=>by cases hx),aD _,(λ x hx=>by cases hx),aD _,(λ x hx=>by cases hx),LX _ _,LX _ _,aD _,(λ x hx=>by cases hx),(by show (0:Int)≤9223372036854775807;decide),(by show (0:Int)≤9223372036854775807;decide),?_,Sq,aD _,(λ x hx=>by cases hx)⟩;show (pF m).size≤1000000;omega
theorem BH{c:Co}{n:Nat}(h:c.ok n):∀ k,n+10 * k+20≤890000→(gA c k).ok (n+10 * k)
 |0,_=>h
 |k+1,hb=>by
  have ih:=Jj (BH h k omT) omT;rw[show n+10 * (k+1)=n+10 * k+10 by omega];exact ih
theorem aaK(c:Cf)(prog:List Nat)(m:ByteArray)(n:Int)(hc:c.ok)(hp:∀ x∈prog,x≤4294967295)(hl:prog.length≤1000):bT C0 28 [.agg (cfL c false false),.sl 1 (prog.map iI) false,.v (.string m),vI n] (.agg (coL (gA (qP c prog m) (Fs n)))):=by
 refine dc1 (bT.intro c1Ok Tryz.func28 rfl rfl (by kernel_rfl) rfl ?_);have hX:=Ht c prog m hc hp;refine cSR<|rAl 0 rfl rfl<|rAl 1 rfl rfl<|rE 2<|cSR<|oR 3 rfl<|rCi rfl (Yl c prog m hc omT)<|rAl 6 rfl rfl<|rSx 6 (coL (qP c prog m)) rfl rfl rfl<|rE 8<|bK<|cSR<|oR 1 rfl<|rW (vI (min n 2000)) rfl (okI (XE n 2000))<|oR 1 rfl<|rE 11<|bL<|oE (κ:=Nat) (λ k=>⟨slotsF [(8,.ptr 1 0),(9,.ptr 6 0),(15,vI (min n 2000)),(16,vN k)],heapF [(0,.box [vI c.mode,vI c.width,vI c.rob,vI c.queue,vI c.stores,vI c.slots,vI c.sets,vI c.ways,.sl 1 (c.lat.map jL) false,vB c.tables,.sl 1 (c.tape.map iI) false]),(1,.box zCo),(6,.box (coL (gA (qP c prog m) k)))],11⟩) (λ k=>k≤Fs n) (λ k=>Fs n - k) 0 (λ s=>s) (Weak.of_lists (λ s=>s) wT wH rfl) (aD _) ?_;intro k hk;have hkn:k≤Fs n:=hk;have hkB:k≤2000:=by have:Fs n≤2000:=(by unfold Fs;omega);omega
 have hN:Fs n=(min n 2000).toNat:=rfl;refine cSR<|rV (vB (decide ((k:Int)<(min n 2000)))) rfl<|rE 12<|bK<|aV rfl (λ h1=>?_) (λ h1=>?_)
 ·have h1p:=of_decide_eq_true h1;refine bB<|bK<|bL<|cRg<|oR 1 rfl<|rCi rfl (XK (gA (qP c prog m) k) (0+10 * k) (BH hX k omT) omT)<|rSx 6 (coL (gI (gA (qP c prog m) k))) rfl rfl rfl<|rE 15<|cRg ?_;have b1:k+1≤2001:=aG hkB (aC 1);refine rW (vN (k+1)) rfl (okI (bU b1 rfl))<|oR 1 rfl<|rE 17 ?_;refine⟨k+1,λ s=>s,Weak.of_lists _ wT wH rfl,by omega,by show Fs n - (k+1)<Fs n - k;omega⟩
 ·have h1p:=aE h1;refine eP<|cSR<|oR 1 rfl<|rSx 1 (coL (gA (qP c prog m) k)) rfl rfl rfl<|rE 14<|cO ?_;have hk2:k=Fs n:=by omega
  rw[show gA (qP c prog m) (Fs n)=gA (qP c prog m) k from by rw[hk2]];exact eQ rfl tvT rfl rfl
open Go.RowKit Go.ChangeShapes Go.WideShapes Go.ChangeAt Go.Deep
theorem So{n:Int}(h:(Lit.int .u32 n).wf=true):∃ m:Nat,n=m∧m≤4294967295:=by
 simp only[Lit.wf,IntKind.min,IntKind.max,IntKind.signed,IntKind.bits,aH,aS]at h;simp at h;exact⟨n.toNat,by omega,by omega⟩
theorem BG{cs:List AV}(h:TyV Tryz.prog 3 cs):∃ n:Int,cs=[.v (.int .i64 n)]∧True:=by
 have hu:=Tryz.underlying3
 cases h with
 |int h n hn=>rw[hu]at h;injection h with h;injection h with h;subst h;exact⟨n,rfl,trivial⟩
 |bool h=>rw[hu]at h;cases h
 |string h=>rw[hu]at h;cases h
 |slice h=>rw[hu]at h;cases h
 |struct h=>rw[hu]at h;cases h
 |array h=>rw[hu]at h;cases h
theorem XD{cs:List AV}(h:TyV Tryz.prog 26 cs):∃ n:Nat,cs=[.v (.int .u32 (n:Int))]∧n≤4294967295:=by
 have hu:=Tryz.underlying26
 cases h with
 |int h n hn=>
  rw[hu]at h;injection h with h;injection h with h;subst h;obtain⟨m,rfl,hm⟩:=So hn
  exact⟨m,rfl,hm⟩
 |bool h=>rw[hu]at h;cases h
 |string h=>rw[hu]at h;cases h
 |slice h=>rw[hu]at h;cases h
 |struct h=>rw[hu]at h;cases h
 |array h=>rw[hu]at h;cases h
theorem Vq{cs:List AV}(h:TyV Tryz.prog 4 cs):∃ b:Bool,cs=[.v (.bool b)]∧True:=by
 have hu:=Tryz.underlying4
 cases h with
 |bool h b=>exact⟨b,rfl,trivial⟩
 |int h=>rw[hu]at h;cases h
 |string h=>rw[hu]at h;cases h
 |slice h=>rw[hu]at h;cases h
 |struct h=>rw[hu]at h;cases h
 |array h=>rw[hu]at h;cases h
theorem Pc{α:Type}{f:α→List AV}{p:α→Prop}:∀ (rows:List (List AV)),(∀ row∈rows,∃ x,row=f x∧p x)→∃ l:List α,rows=l.map f∧l.length=rows.length∧∀ x∈l,p x
 |[],_=>⟨[],rfl,rfl,λ x h=>by cases h⟩
 |row::rows,h=>by
  obtain⟨x,rfl,hx⟩:=h row (al_List_mem_cons_self);obtain⟨l,rfl,hl,hp⟩:=Pc rows λ r hr=>h r (bE _ hr);exact⟨x::l,rfl,by simp,λ y hy=>by rcases al_List_mem_cons.1 hy with rfl|hy;exact hx;exact hp y hy⟩
theorem LW{α:Type}{t e:TypeId}{k:Nat}{f:α→List AV}{p:α→Prop}(hu:Tryz.prog.underlying t=some (.slice e))(hk:Tryz.prog.cellsOf e=k)(hrow:∀ row,TyV Tryz.prog e row→∃ x,row=f x∧p x){cs:List AV}(h:TyV Tryz.prog t cs):
  ∃ l:List α,cs=[.sl k (l.map f) false]∧l.length≤9223372036854775807∧∀ x∈l,p x:=by
 cases h with
 |slice h rows hl hr hrs=>
  rw[hu]at h;injection h with h;injection h with h;subst h;subst hk;obtain⟨l,rfl,h1,h2⟩:=Pc rows λ row hrow'=>hrow row (hr row hrow')
  exact⟨l,rfl,aL (Nat.le_of_eq h1) (aL hl (by decide)),h2⟩
 |int h=>rw[hu]at h;cases h
 |bool h=>rw[hu]at h;cases h
 |string h=>rw[hu]at h;cases h
 |struct h=>rw[hu]at h;cases h
 |array h=>rw[hu]at h;cases h
theorem Vr(row:List AV)(h:TyV Tryz.prog 26 row):∃ n:Nat,row=iI n∧n≤4294967295:=XD h
theorem Vs(row:List AV)(h:TyV Tryz.prog 3 row):∃ n:Int,row=jL n∧True:=BG h
theorem Pd{cs:List AV}(h:TyV Tryz.prog 23 cs):∃ l:List Nat,cs=[.sl 1 (l.map iI) false]∧l.length≤9223372036854775807∧∀ x∈l,(λ n:Nat=>n≤4294967295) x:=
 LW (f:=iI) (p:=(λ n:Nat=>n≤4294967295)) Tryz.underlying23 (by kernel_rfl) (λ row hr=>Vr _ hr) h
theorem Vt{cs:List AV}(h:TyV Tryz.prog 22 cs):∃ l:List Int,cs=[.sl 1 (l.map jL) false]∧l.length≤9223372036854775807∧∀ x∈l,(λ (_:Int)=>True) x:=
 LW (f:=jL) (p:=(λ (_:Int)=>True)) Tryz.underlying22 (by kernel_rfl) (λ row hr=>Vs _ hr) h
theorem Vu{cs:List AV}(h:TyV Tryz.prog 25 cs):∃ x:Cf,cs=cfL x false false∧x.okW:=by
 have hu:=Tryz.underlying25
 cases h with
 |bool h=>rw[hu]at h;cases h
 |int h=>rw[hu]at h;cases h
 |string h=>rw[hu]at h;cases h
 |slice h=>rw[hu]at h;cases h
 |array h=>rw[hu]at h;cases h
 |struct h parts hp=>
  rw[hu]at h;injection h with h;injection h with h;subst h;obtain⟨x0,e0,p0⟩:=BG (hp 0 _ rfl);obtain⟨x1,e1,p1⟩:=BG (hp 1 _ rfl);obtain⟨x2,e2,p2⟩:=BG (hp 2 _ rfl);obtain⟨x3,e3,p3⟩:=BG (hp 3 _ rfl);obtain⟨x4,e4,p4⟩:=BG (hp 4 _ rfl);obtain⟨x5,e5,p5⟩:=BG (hp 5 _ rfl);obtain⟨x6,e6,p6⟩:=BG (hp 6 _ rfl);obtain⟨x7,e7,p7⟩:=BG (hp 7 _ rfl);obtain⟨x8,e8,p8⟩:=Vt (hp 8 _ rfl);obtain⟨x9,e9,p9⟩:=Vq (hp 9 _ rfl);obtain⟨x10,e10,p10⟩:=Pd (hp 10 _ rfl);refine⟨⟨x0,x1,x2,x3,x4,x5,x6,x7,x8,x9,x10⟩,?_,⟨p8.1,p10.1,p10.2⟩⟩;show parts 0++(parts 1++(parts 2++(parts 3++(parts 4++(parts 5++(parts 6++(parts 7++(parts 8++(parts 9++(parts 10++[]))))))))))=_;rw[e0,e1,e2,e3,e4,e5,e6,e7,e8,e9,e10];rfl
structure Co.okA(c:Co):Prop where
 conf:c.conf.okW
 prog:c.prog.length≤9223372036854775807
 progo:∀ x∈c.prog,x≤4294967295
 r:∀ k,c.r k≤4294967295
 fetch:c.fetch≤4294967295
 fet:c.fetched.length≤9223372036854775807
 feto:∀ x∈c.fetched,x.ok
 rob:c.rob.length≤9223372036854775807
 robo:∀ x∈c.rob,x.ok
 sto:c.stores.length≤9223372036854775807
 stoo:∀ x∈c.stores,x.ok
 data:c.data.ok
 words:c.words.ok
 bus:c.bus.length≤9223372036854775807
 buso:∀ x∈c.bus,x.ok
 asked:c.asked≤9223372036854775807
 guessed:c.guessed≤9223372036854775807
 mem:c.mem.size≤9223372036854775807
 guess:c.guess.ok
 ret:c.retired.length≤9223372036854775807
 reto:∀ x∈c.retired,x.ok
theorem Pe{H:Type}{enc:TypeId×Value→H}{w:World}{base:Nat}{spare:Nat→Bool}{held:Bool}{r:Reach}{b0:Nat}{v:Value}{d:DataW H}{p:List MemPlace}
  (hv:Value.okWide Tryz.prog w r b0 25 v) (h:DataW.Trod enc Tryz.prog w base spare held 25 v d p):
  ∃ c:Cf,Rep (· <w.heap.size) w noB (.agg (cfL c false false)) v∧c.okW:=by
 obtain⟨cs,rfl,hsz⟩:=okWide_struct Tryz.underlying25 hv;obtain⟨fuel,hf⟩:=h;obtain⟨cells,ho⟩:=uY 6 fuel _ _ _ hf (by kernel_rfl);obtain⟨c,rfl,hc⟩:=Vu ho.ty;refine⟨c,.agg _ cs ?_ (λ i u hu=>ho.one u ?_) (λ i a u h1 h2=>ho.rep.2 i a u h1 ?_),hc⟩
 ·exact ho.rep.1
 ·exact Iz.2 (nA hu)
 ·show cs.toList[i]?=some u;rw[bF];exact h2
theorem Pf{H:Type}{enc:TypeId×Value→H}{w:World}{base:Nat}{spare:Nat→Bool}{held:Bool}{r:Reach}{b0:Nat}{v:Value}{d:DataW H}{p:List MemPlace}
  (hv:Value.okWide Tryz.prog w r b0 23 v) (h:DataW.Trod enc Tryz.prog w base spare held 23 v d p):
  ∃ l:List Nat,(∀ x∈l,x≤4294967295)∧l.length≤9223372036854775807∧Rep (· <w.heap.size) w noB (.sl 1 (l.map iI) false) v:=by
 obtain⟨a0,len,cap,rfl⟩:=okWide_slice Tryz.underlying23 hv;obtain⟨fuel,hf⟩:=h;obtain⟨cs,ho⟩:=uY 3 fuel _ _ _ hf (by kernel_rfl);obtain⟨l,rfl,h1,h2⟩:=Pd ho.ty;exact⟨l,h2,h1,ho.rep.2 0 _ _ rfl rfl⟩
theorem Pg{w:World}(h:Eb w):0<w.heap.size:=by
 have:=h 0 (by decide);unfold World.cell? at this
 cases hq:w.heap[0]? with
 |none=>simp[hq]at this
 |some o=>exact (Du.1 hq).1
theorem bT.law{f:FuncId}{args:List AV}{vs:List Value}{w:World}(h:bT C0 f args (.v (.bool true)))(hC:Eb w)(ha:RepL (· <w.heap.size) w noB args vs):
  Calls Tryz.prog f vs.toArray w λ e w'=>e=.returned (.bool true)∧Below w.heap.size w w':=
 (h.2 (· <w.heap.size) w vs (λ _ h=>h) (aa6 hC (Pg hC)) ha).mono λ e w' ⟨v,h1,h2,h3⟩=>⟨by rw[h1,lH h3],h2⟩
open Go.RowKit Go.ChangeShapes Go.WideShapes
theorem TC{P:Program}{w:World}{r:Reach}{base:Nat}{t:TypeId}{v:Value}(ht:P.underlying t=some .string)(h:Value.okWide P w r base t v):∃ s,v=.string s∧s.size<9223372036854775808:=by
 obtain⟨s,rfl⟩:=okWide_string ht h;refine⟨s,rfl,?_⟩;have h2:IntKind.i64.max=9223372036854775807:=rfl;have h3:(s.size:Int)≤IntKind.i64.max:=by simpa [Value.okWide,Cell.okWide,Cell.ok,ht]using h
 omega
def Ue:Cf:=⟨0,0,0,0,0,0,0,0,[],false,[]⟩
theorem YV:(gA (qP Ue [1048691] nE) (Fs 20)).halt=7∧(gA (qP Ue [1048691] nE) (Fs 20)).retired.length=1:=by
 decide+kernel
theorem YT(prog:List Nat)(m:ByteArray)(hl:prog.length≤9223372036854775807)(hm:m.size≤9223372036854775807):bT C0 24 [.sl 1 (prog.map iI) false,.v (.string m)] (.tup [.sl 1 ((prog.take (min prog.length 64)).map iI) false,.v (.string (m.extract 0 (min m.size 300)))]):=by
 refine dc1 (bT.intro c1Ok Tryz.func24 rfl rfl (by kernel_rfl) rfl ?_);refine cSR<|oR 2 rfl<|rE 2<|cSR<|oR 2 rfl<|rW (vN prog.length) rfl (cG iI prog)<|rW (vN (min prog.length 64)) rfl (Cb prog.length 64)<|nW (.sl 1 ((prog.take (min prog.length 64)).map iI) false) rfl (xJ (vF iI prog (min prog.length 64))) slT<|oR 2 rfl<|rV (vN m.size) rfl<|rW (vN (min m.size 300)) rfl (Cb m.size 300)<|nW (.v (.string (m.extract 0 (min m.size 300)))) rfl rfl (by refine⟨?_,?_,?_⟩<;>(first|exact aF _|decide|(apply Ff.2;exact omT)))<|oR 2 rfl<|rE 14<|cO ?_;exact fT rfl rfl
theorem bT.of_sub{C:Ctx}{f:FuncId}{xs ys:List AV}{r:AV}(h:bT C f xs r)(k:Yh ys xs):bT C f ys r:=by
 obtain⟨k1,k2⟩:=k.get;refine⟨h.1,λ S w vs hS hG hr=>h.2 S w vs hS hG ⟨k1 ▸ hr.1,λ i a v ha hv=>?_⟩⟩;have hi:i<ys.length:=by rw[k1];exact (DK.1 ha).1
 exact k2 i _ a (aA hi) ha _ _ _ (hr.2 i _ v (aA hi) hv)
theorem YU:bT C0 28 [.agg [vI 0,vI 0,vI 0,vI 0,vI 0,vI 0,vI 0,vI 0,.sl 0 [] true,vB false,.sl 0 [] true],.sl 1 [[vU 1048691]] true,.v (.string nE),vI 20] (.agg (coL (gA (qP Ue [1048691] nE) (Fs 20)))):=
 (aaK Ue [1048691] nE 20 ⟨aD _,aD _,λ x hx=>by cases hx⟩ (λ x hx=>by rw[tW.1 hx];decide) (by decide)).of_sub ⟨Sub.agg ⟨Sub.refl _,Sub.refl _,Sub.refl _,Sub.refl _,Sub.refl _,Sub.refl _,Sub.refl _,Sub.refl _,vG 1 false,Sub.refl _,vG 1 false,trivial⟩,Sub.clip _ _ _,Sub.refl _,Sub.refl _,trivial⟩
theorem UY:bT C0 17 [] (vB true):=by
 refine dc1 (bT.intro c1Ok Tryz.func17 rfl rfl (by kernel_rfl) rfl ?_);have hnb:(200:Nat)≤890000:=by decide
 refine cSR<|oR 1 rfl<|rE 1<|cSR<|rV (.agg [vI 0,vI 0,vI 0,vI 0,vI 0,vI 0,vI 0,vI 0,.sl 0 ([]) true,vB false,.sl 0 ([]) true]) rfl<|rV (.sl 1 ([[.v (.int .u32 1048691)]]) true) rfl<|rCi rfl (YU)<|rAl 4 rfl rfl<|rSx 4 (coL (gA (qP Ue [1048691] nE) (Fs 20))) rfl rfl rfl<|rE 6<|cSR<|oR 2 rfl<|rV (vB (((gA (qP Ue [1048691] nE) (Fs 20)).halt)==7)) rfl<|oR 1 rfl<|gN rfl<|gS rfl id<|gBS (x:=vN (((gA (qP Ue [1048691] nE) (Fs 20)).retired).length)) rfl id (cG spL ((gA (qP Ue [1048691] nE) (Fs 20)).retired))<|gBS (x:=vB ((((gA (qP Ue [1048691] nE) (Fs 20)).retired).length)==1)) rfl id (okB (eqN _ _))<|cS rfl rfl rfl (λ h=>h)<|oR 1 rfl<|rE 16<|cO ?_;exact fT rfl (dM (by simp[c2a,YV.1,YV.2]))
structure Kp(c d:Co):Prop where
 cycle:d.cycle=c.cycle
 ret:c.retired.length≤d.retired.length
 mem:d.mem.size=c.mem.size
theorem Kp.refl(c:Co):Kp c c:=⟨rfl,aC _,rfl⟩
theorem Kp.trans{a b c:Co}(h:Kp a b)(k:Kp b c):Kp a c:=⟨k.cycle.trans h.cycle,aL h.ret k.ret,k.mem.trans h.mem⟩
theorem Ub(c:Co):Kp c (eH c):=by
 rw[iB];split
 ·unfold wQ
  repeat' split
  ·exact⟨rfl,aC _,rfl⟩
  ·exact⟨rfl,aC _,rfl⟩
  ·rw[←nQ];exact⟨rfl,aC _,rfl⟩
  ·exact⟨rfl,aC _,fD ..⟩
  ·exact⟨rfl,aC _,rfl⟩
 ·exact⟨rfl,aC _,rfl⟩
theorem Uc(c:Co):Kp c (fH c):=by
 unfold fH;split
 ·exact .refl c
 ·split<;>exact⟨rfl,aC _,rfl⟩
theorem Rr(d:Co)(e:Ent):Kp d (xD d e):=⟨rfl,(by show d.retired.length≤(d.retired++[bW e]).length;simp),rfl⟩
theorem Rs(d:Co)(e:Ent):Kp d (Eo d e):=⟨rfl,(by show d.retired.length≤(d.retired++[bW e]).length;simp),rfl⟩
theorem Bo:∀ (n:Nat) (c:Co),Kp c (dF n c)
 |0,c=>.refl c
 | n +1,c=>by
  by_cases h0:c.halt≠0∨c.rob.length=0
  ·rw[iQ h0];exact .refl c
  ·have hx:c.rob[0]?=some (c.rob[0]'omT):=aA omT;rw[gR omT (λ q=>h0 (.inl q)) hx];split
   ·exact .refl c
   ·split
    ·exact⟨rfl,(by show c.retired.length≤(c.retired++[_]).length;simp),rfl⟩
    ·split
     ·exact .refl c
     ·rw[gL];by_cases hk:kindOf (c.rob[0]'omT).i.op=3
      ·rw[zX hk];exact (Rs c _).trans (Bo n _)
      ·rw[tQ hk];exact (Rr c _).trans (Bo n _)
theorem Xd(c:Co)(i:Nat):Kp c (jM c i):=by
 unfold jM
 cases c.rob[i]? with
 |none=>exact .refl c
 |some e=>
  dsimp only
  repeat' split
  all_goals exact⟨rfl,aC _,rfl⟩
theorem Ud(c:Co)(i:Nat):Kp c (eN c i):=by
 unfold eN
 cases c.rob[i]? with
 |none=>exact .refl c
 | some e=>
  dsimp only;split
  ·exact⟨rfl,aC _,rfl⟩
  ·split
   ·exact Kp.trans (b:=setE c i (qO e c.mem.size (lI c.rob c.r i).1)) ⟨rfl,aC _,rfl⟩ (Xd _ i)
   ·exact⟨rfl,aC _,rfl⟩
theorem Kn:∀ (p:List Nat) (c:Co),Kp c (p.foldl eN c)
 |[],c=>.refl c
 |i::p,c=>(Ud c i).trans (Kn p _)
theorem Rt(c:Co):Kp c (eE c):=by
 unfold eE;split
 ·exact .refl c
 ·exact Kn _ c
theorem GJ:∀ (n:Nat) (c:Co),Kp c (iL n c)
 |0,c=>.refl c
 | n+1,c=>by
  by_cases h0:(c.rob.length:Int)≥c.conf.rob∨c.fetched.length=0
  ·rw[qW h0];exact .refl c
  ·have hx:c.fetched[0]?=some (c.fetched[0]'omT):=aA omT;have e:=uM (n:=n+1) (k:=0) omT (λ q=>h0 (.inl q)) hx;rw[show n+1 - (0+1)=n by omega,show n+1 - 0=n+1 by omega]at e;rw[←e];have h1:Kp c (Gh c (c.fetched[0]'omT)):=⟨rfl,aC _,rfl⟩;exact h1.trans (GJ n _)
theorem Ru(c:Co):Kp c (fQ c):=by
 unfold fQ;split
 ·exact .refl c
 ·exact GJ _ c
theorem Rv(c:Co):Kp c (xG c):=by
 have h:Kp (gY c) (cF (gY c) (fetchW c.prog c.fetch)).1:=by
  unfold cF;split
  ·exact .refl _
  ·split<;>exact⟨rfl,aC _,rfl⟩
 exact⟨h.cycle,h.ret,h.mem⟩
theorem Fd:∀ (n:Nat) (c:Co),Kp c (dS n c)
 |0,c=>.refl c
 | n +1,c=>by
  by_cases h0:c.stop=true∨(c.fetched.length:Int)≥c.conf.queue
  ·rw[pO h0];exact .refl c
  ·by_cases hf:(fetchP c.prog c.fetch).isSome=false
   ·rw[qX omT h0 hf];exact⟨rfl,aC _,rfl⟩
   ·by_cases hw:(aX c.words (lineOf c.fetch)).2.isSome=false
    ·rw[nK omT h0 hf hw];split
     ·exact⟨rfl,aC _,rfl⟩
     ·exact .refl c
    ·have e:=sW (n:=n+1) (k:=0) omT h0 hf hw;rw[show n+1 - (0+1)=n by omega,show n+1 - 0=n+1 by omega]at e;rw[←e];exact (Rv c).trans (Fd n _)
theorem Ok(c:Co):Kp c (cX c):=by
 unfold cX;split
 ·exact .refl c
 ·exact Fd _ c
theorem LI(c:Co):Kp c (jK c):=by
 unfold jK;split
 ·exact .refl c
 ·split
  ·exact⟨rfl,aC _,rfl⟩
  ·exact .refl c
theorem GK(c:Co):Kp c (iM c):=by
 unfold iM;split
 ·exact .refl c
 ·unfold kE;split
  ·split
   ·exact⟨rfl,aC _,rfl⟩
   ·exact .refl c
  ·exact .refl c
theorem Rw(c:Co):Kp c (kJ c):=by
 have h1:Kp c (aQ c):=⟨rfl,aC _,rfl⟩;rw[iK];split
 ·exact (h1.trans (LI _)).trans (GK _)
 ·exact h1.trans (GK _)
theorem Xe(c:Co):Kp (s0 c) (EB c):=
 ((((((Ub (s0 c)).trans (Uc _)).trans (Bo _ _)).trans (Rt _)).trans (Ru _)).trans (Ok _)).trans (Rw _)
theorem Xf{c:Co}(h:fS c=true):(gI c).cycle=wrap64 (c.cycle+1)∧c.retired.length≤(gI c).retired.length∧(gI c).mem.size=c.mem.size:=by
 have k:=Xe c;unfold gI;rw[if_pos h];exact⟨k.cycle,k.ret,k.mem⟩
theorem Og{x:Int}(h1: -9223372036854775808≤x)(h2:x<9223372036854775808):wrap64 x=x:=by unfold wrap64;omega
theorem GG(q:List Req)(k:Int)(line:Nat)(left:Int)(data:ByteArray):mU (oY q k line left data)=mU q+if k=4 then 0 else 1:=by
 unfold mU oY;rw[iT,aR];by_cases h:k=4<;>simp[h]
theorem Oh(q:List Req):mU (dO q).1≤mU q:=by
 cases q with
 |nil=>exact aC _
 |cons x r=>
  unfold dO;dsimp only;split
  ·unfold mU;simp only[List.filter_cons];by_cases h:x.kind=4<;>simp[h]
  ·unfold mU;simp only[List.filter_cons];by_cases h:x.kind=4<;>simp[h]
structure Bd(f:Cf)(a:Nat)(c:Co):Prop where
 conf:c.conf=f
 rob:(c.rob.length:Int)≤f.rob
 fet:(c.fetched.length:Int)≤f.queue
 sto:(c.stores.length:Int)≤f.stores
 rd:(mU c.bus:Int)≤f.slots
 ret:c.retired.length=a
theorem bring_bus(c:Co)(line:Nat):((eG c line).bus=c.bus∧(eG c line).asked=c.asked)∨∃ l d,(eG c line).bus=oY c.bus 4 l (kK c.conf c.asked) d∧(eG c line).asked=wrap64 (c.asked+1):=by
 unfold eG;rcases hB:gD c.data c.bus c.mem line (kK c.conf c.asked)with ⟨d,q,asked⟩;show (q=c.bus∧(if asked=true then wrap64 (c.asked+1)else c.asked)=c.asked)∨∃ l d,q=oY c.bus 4 l (kK c.conf c.asked) d∧(if asked=true then wrap64 (c.asked+1)else c.asked)=wrap64 (c.asked+1);unfold gD at hB;split at hB
 ·cases hB;exact .inl ⟨rfl,rfl⟩
 ·split at hB
  ·cases hB;exact .inl ⟨rfl,rfl⟩
  ·split at hB
   split at hB
   ·cases hB;exact .inr ⟨_,_,rfl,rfl⟩
   ·cases hB;exact .inl ⟨rfl,rfl⟩
theorem LH(c:Co)(line:Nat):mU (eG c line).bus≤mU c.bus:=by
 rcases bring_bus c line with ⟨h, -⟩|⟨l,d,h, -⟩
 ·rw[h];exact aC _
 ·rw[h,GG,if_pos rfl];exact aC _
theorem Oi(c:Co)(line:Nat):(eG c line).conf=c.conf∧(eG c line).rob=c.rob∧(eG c line).fetched=c.fetched∧(eG c line).stores=c.stores∧(eG c line).retired=c.retired:=by
 rw[←nQ];exact⟨rfl,rfl,rfl,rfl,rfl⟩
theorem Bd.bring{f:Cf}{a:Nat}{c:Co}(h:Bd f a c)(line:Nat):Bd f a (eG c line):=by
 obtain⟨h1,h2,h3,h4,h5⟩:=Oi c line;have:=LH c line;exact⟨h1.trans h.conf,h2 ▸ h.rob,h3 ▸ h.fet,h4 ▸ h.sto,by have:=h.rd;omega,h5 ▸ h.ret⟩
theorem WZ{c:Co}{b:Bool}(h:qL c b=true):(mU c.bus:Int)<c.conf.slots:=by
 unfold qL at h;split at h
 ·exact of_decide_eq_true h
 ·have:=of_decide_eq_true h;omega
theorem Bd.ask{f:Cf}{a:Nat}{c:Co}(h:Bd f a c){k:Int}{b:Bool}(hr:qL c b=true∨k=4)(line:Nat)(data:ByteArray):Bd f a (iR c k line data):=by
 refine⟨h.conf,h.rob,h.fet,h.sto,?_,h.ret⟩;show ((mU (oY c.bus k line _ data):Nat):Int)≤_;rw[GG];have h1:=h.rd;rcases hr with hr|hr
 ·have:=WZ hr;rw[h.conf]at this;split<;>omega
 ·rw[if_pos hr];omega
theorem TY{f:Cf}{a:Nat}{c:Co}(h:Bd f a c):Bd f a (eH c):=by
 have hb:Bd f a (iV c):=⟨h.conf,h.rob,h.fet,h.sto,by have:=Oh c.bus;have:=h.rd;show ((mU (dO c.bus).1:Nat):Int)≤_;omega,h.ret⟩;rw[iB];split
 ·unfold wQ
  repeat' split
  ·exact⟨hb.conf,by show ((List.map _ _).length:Int)≤_;rw[aJ];exact hb.rob,hb.fet,hb.sto,hb.rd,hb.ret⟩
  ·exact⟨hb.conf,hb.rob,hb.fet,hb.sto,hb.rd,hb.ret⟩
  ·exact hb.bring _
  ·exact⟨hb.conf,hb.rob,hb.fet,hb.sto,hb.rd,hb.ret⟩
  ·exact hb
 ·exact hb
theorem Xa(l:List Ent)(i:Nat):(BU l i).length≤l.length:=by
 unfold BU;split
 ·rename_i e he;have:=(DK.1 he).1;rw[aR,aN];simp;omega
 ·exact aC _
theorem TZ{f:Cf}{a:Nat}{c:Co}(h:Bd f a c)(hq:0≤f.queue):Bd f a (fH c):=by
 have hl:=lZ c;unfold fH;split
 ·exact h
 ·split
  ·rename_i i _;exact⟨h.conf,by have:=Xa (dA c) i;have:=h.rob;show ((BU (dA c) i).length:Int)≤_;omega,hq,h.sto,h.rd,h.ret⟩
  ·exact⟨h.conf,by have:=h.rob;show ((dA c).length:Int)≤_;omega,h.fet,h.sto,h.rd,h.ret⟩
theorem UX{f:Cf}{a:Nat}{c:Co}(h:Bd f a c)(s:Sp)(hs: ¬ (s.store=true∧(c.stores.length:Int)≥c.conf.stores)):Bd f (a+1) (eV c s):=by
 refine⟨h.conf,h.rob,h.fet,?_,h.rd,by show (c.retired++[s]).length=_;rw[aR,h.ret];rfl⟩;show (((match gH s with|some p=>c.stores++[p]|none=>c.stores).length:Nat):Int)≤_;split
 ·rename_i p hp;have hst:s.store=true:=by
   unfold gH at hp;split at hp
   ·cases hp
   ·rename_i q;cases hb:s.store with
    |true=>rfl
    |false=>exact absurd (.inl hb) q
  have h1: ¬ (c.stores.length:Int)≥c.conf.stores:=λ q=>hs ⟨hst,q⟩;rw[h.conf]at h1;rw[aR];show ((c.stores.length+1:Nat):Int)≤_;omega
 ·exact h.sto
theorem Rm{f:Cf}{a:Nat}{c:Co}(h:Bd f a c)(e:Ent)(hs: ¬ ((bW e).store=true∧(c.stores.length:Int)≥c.conf.stores)):Bd f (a+1) (xD c e):=by
 have k:=UX h (bW e) hs;exact⟨k.conf,by have:=h.rob;show ((c.rob.drop 1).length:Int)≤_;rw[bD];omega,k.fet,k.sto,k.rd,k.ret⟩
theorem Rn{f:Cf}{a:Nat}{c:Co}(h:Bd f a c)(e:Ent)(hs: ¬ ((bW e).store=true∧(c.stores.length:Int)≥c.conf.stores)):Bd f (a+1) (Eo c e):=by
 have k:=(UX h (bW e) hs).bring (bW e).addr;rw[←nQ]at k;exact⟨k.conf,by have:=h.rob;show ((c.rob.drop 1).length:Int)≤_;rw[bD];omega,k.fet,k.sto,k.rd,k.ret⟩
theorem Bn{f:Cf}(h0:0≤f.rob∧0≤f.queue):∀ (n:Nat) (c:Co) (a:Nat),Bd f a c→∃ b,a≤b∧b≤a+n∧Bd f b (dF n c)
 |0,c,a,h=>⟨a,aC _,aC _,h⟩
 | n + 1,c,a,h=>by
  by_cases hz:c.halt≠0∨c.rob.length=0
  ·rw[iQ hz];exact⟨a,aC _,by omega,h⟩
  ·have hx:c.rob[0]?=some (c.rob[0]'omT):=aA omT;rw[gR omT (λ q=>hz (.inl q)) hx];split
   ·exact⟨a,aC _,by omega,h⟩
   ·split
    ·exact⟨a+1,by omega,by omega,⟨h.conf,h0.1,h0.2,h.sto,h.rd,by show (c.retired++[_]).length=_;rw[aR,h.ret];rfl⟩⟩
    ·split
     ·exact⟨a,aC _,by omega,h⟩
     ·rename_i hs;rw[gL];by_cases hk:kindOf (c.rob[0]'omT).i.op=3
      ·rw[zX hk];obtain⟨b,h1,h2,h3⟩:=Bn h0 n _ _ (Rn h _ hs);exact⟨b,by omega,by omega,h3⟩
      ·rw[tQ hk];obtain⟨b,h1,h2,h3⟩:=Bn h0 n _ _ (Rm h _ hs);exact⟨b,by omega,by omega,h3⟩
theorem Bd.setE{f:Cf}{a:Nat}{c:Co}(h:Bd f a c)(i:Nat)(e:Ent):Bd f a (setE c i e):=⟨h.conf,by show ((c.rob.set i e).length:Int)≤_;rw[bN];exact h.rob,h.fet,h.sto,h.rd,h.ret⟩
theorem Xb{f:Cf}{a:Nat}{c:Co}(h:Bd f a c)(i:Nat):Bd f a (jM c i):=by
 unfold jM
 cases c.rob[i]? with
 |none=>exact h
 |some e=>
  dsimp only
  repeat' split
  all_goals first|exact h|exact h.setE _ _|(rename_i q;exact (h.ask (.inl q.1) _ _).setE _ _)
theorem Ua{f:Cf}{a:Nat}{c:Co}(h:Bd f a c)(i:Nat):Bd f a (eN c i):=by
 unfold eN
 cases c.rob[i]? with
 |none=>exact h
 | some e=>
  dsimp only;split
  ·exact h.setE _ _
  ·split
   ·exact Xb (h.setE _ _) i
   ·exact h.setE _ _
theorem Km{f:Cf}{a:Nat}:∀ (p:List Nat) (c:Co),Bd f a c→Bd f a (p.foldl eN c)
 |[],_,h=>h
 |i::p,_,h=>Km p _ (Ua h i)
theorem Ro{f:Cf}{a:Nat}{c:Co}(h:Bd f a c):Bd f a (eE c):=by
 unfold eE;split
 ·exact h
 ·exact Km _ c h
theorem GI{f:Cf}{a:Nat}:∀ (n:Nat) (c:Co),Bd f a c→Bd f a (iL n c)
 |0,_,h=>h
 | n+1,c,h=>by
  by_cases h0:(c.rob.length:Int)≥c.conf.rob∨c.fetched.length=0
  ·rw[qW h0];exact h
  ·have hx:c.fetched[0]?=some (c.fetched[0]'omT):=aA omT;have e:=uM (n:=n+1) (k:=0) omT (λ q=>h0 (.inl q)) hx;rw[show n+1 - (0+1)=n by omega,show n+1 - 0=n+1 by omega]at e;rw[←e];have hc:=h.conf;refine GI n _ ⟨h.conf,?_,?_,h.sto,h.rd,h.ret⟩
   ·show ((c.rob++[_]).length:Int)≤_;rw[aR];show ((c.rob.length+1:Nat):Int)≤_;rw[hc]at h0;omega
   ·have:=h.fet;show ((c.fetched.drop 1).length:Int)≤_;rw[bD];omega
theorem Rp{f:Cf}{a:Nat}{c:Co}(h:Bd f a c):Bd f a (fQ c):=by
 unfold fQ;split
 ·exact h
 ·exact GI _ c h
theorem Fc{f:Cf}{a:Nat}:∀ (n:Nat) (c:Co),Bd f a c→Bd f a (dS n c)
 |0,_,h=>h
 | n +1,c,h=>by
  by_cases h0:c.stop=true∨(c.fetched.length:Int)≥c.conf.queue
  ·rw[pO h0];exact h
  ·have hl:((c.fetched.length+1:Nat):Int)≤f.queue:=by have:=h.conf;rw[this]at h0;omega
   by_cases hf:(fetchP c.prog c.fetch).isSome=false
   ·rw[qX omT h0 hf];exact⟨h.conf,h.rob,by show ((c.fetched++[_]).length:Int)≤_;rw[aR];exact hl,h.sto,h.rd,h.ret⟩
   ·by_cases hw:(aX c.words (lineOf c.fetch)).2.isSome=false
    ·rw[nK omT h0 hf hw];split
     ·rename_i q;exact h.ask (.inl q.2) _ _
     ·exact h
    ·have e:=sW (n:=n+1) (k:=0) omT h0 hf hw;rw[show n+1 - (0+1)=n by omega,show n+1 - 0=n+1 by omega]at e;rw[←e];refine Fc n _ ?_;have hb:∀ w,(cF (gY c) w).1.conf=c.conf∧(cF (gY c) w).1.rob=c.rob∧(cF (gY c) w).1.fetched=c.fetched∧(cF (gY c) w).1.stores=c.stores∧(cF (gY c) w).1.bus=c.bus∧(cF (gY c) w).1.retired=c.retired:=by
      intro w;unfold cF
      repeat' split
      all_goals exact⟨rfl,rfl,rfl,rfl,rfl,rfl⟩
     obtain⟨b1,b2,b3,b4,b5,b6⟩:=hb (fetchW c.prog c.fetch);refine⟨b1.trans h.conf,?_,?_,?_,?_,?_⟩
     ·show (((cF (gY c) (fetchW c.prog c.fetch)).1.rob.length:Nat):Int)≤_;rw[b2];exact h.rob
     ·show ((((cF (gY c) (fetchW c.prog c.fetch)).1.fetched++[_]).length:Nat):Int)≤_;rw[b3,aR];exact hl
     ·show (((cF (gY c) (fetchW c.prog c.fetch)).1.stores.length:Nat):Int)≤_;rw[b4];exact h.sto
     ·show ((mU (cF (gY c) (fetchW c.prog c.fetch)).1.bus:Nat):Int)≤_;rw[b5];exact h.rd
     ·show (cF (gY c) (fetchW c.prog c.fetch)).1.retired.length=_;rw[b6];exact h.ret
theorem Oj{f:Cf}{a:Nat}{c:Co}(h:Bd f a c):Bd f a (cX c):=by
 unfold cX;split
 ·exact h
 ·exact Fc _ c h
theorem Rq{f:Cf}{a:Nat}{c:Co}(h:Bd f a c):Bd f a (kJ c):=by
 have h1:Bd f a (aQ c):=by
  refine⟨h.conf,h.rob,h.fet,?_,h.rd,h.ret⟩;have:=h.sto;show (((lJ c.stores c.data).1.length:Nat):Int)≤_;unfold lJ
  repeat' split
  all_goals first|omega|(rename_i hs _;rw[hs]at this;simp at this⊢;omega)|(rename_i hs;simp[hs]at this⊢;omega)|(simp at this⊢;omega)
 have hA:∀ {d:Co},Bd f a d→Bd f a (jK d):=λ {d} k=>by
  unfold jK;split
  ·exact k
  ·split
   ·rename_i q;exact k.ask (.inl q.2) _ _
   ·exact k
 have hB:∀ {d:Co},Bd f a d→Bd f a (iM d):=λ {d} k=>by
  unfold iM;split
  ·exact k
  ·unfold kE;split
   ·split
    ·rename_i w _ _;have q:=k.ask (k:=4) (b:=true) (.inr rfl) w.line w.data;exact⟨q.conf,q.rob,q.fet,q.sto,q.rd,q.ret⟩
    ·exact k
   ·exact k
 rw[iK];split
 ·exact hB (hA h1)
 ·exact hB h1
theorem Xc{f:Cf}(h0:0≤f.rob∧0≤f.queue){c:Co}{a:Nat}(h:Bd f a c):∃ b,a≤b∧b≤a+f.width.toNat∧Bd f b (gI c):=by
 unfold gI;split
 ·have hs:Bd f a (s0 c):=⟨h.conf,h.rob,h.fet,h.sto,h.rd,h.ret⟩;have hw:=TZ (TY hs) h0.2;obtain⟨b,h1,h2,h3⟩:=Bn h0 (fH (eH (s0 c))).conf.width.toNat _ a hw;rw[hw.conf]at h2;exact⟨b,h1,h2,Rq (Oj (Rp (Ro h3)))⟩
 ·exact⟨a,aC _,by omega,h⟩
theorem fI(e:Ent):tA e=true↔((0≤e.is∧e.is≤3)∧(e.is=1→0<e.left)∧(e.is≠1→e.left=0)∧(e.is=2→kindOf e.i.op=3∧e.known=true)∧(e.halt≠0→e.is=3∨(e.is=1∧kindOf e.i.op=5∧e.halt=3))∧(RB e.i=true∨e.halt=1∨e.halt=2)):=by
 unfold tA;by_cases h1:e.is<0∨e.is>3
 ·rw[if_pos h1];exact⟨λ h=>(by cases h),λ h=>by omega⟩
 rw[if_neg h1];by_cases h2:(e.is=1∧e.left≤0)∨(e.is≠1∧e.left≠0)
 ·rw[if_pos h2];refine⟨λ h=>(by cases h),λ⟨_,a,b,_⟩=>?_⟩;rcases h2 with ⟨x,y⟩|⟨x,y⟩
  ·have:=a x;omega
  ·exact absurd (b x) y
 rw[if_neg h2];by_cases h3:e.is=2∧(kindOf e.i.op≠3∨e.known=false)
 ·rw[if_pos h3];refine⟨λ h=>(by cases h),λ⟨_,_,_,a,_⟩=>?_⟩;have:=a h3.1;rcases h3.2 with x|x
  ·exact absurd this.1 x
  ·rw[this.2]at x;cases x
 rw[if_neg h3];by_cases h4:e.halt≠0∧e.is≠3∧ ¬ (e.is=1∧kindOf e.i.op=5∧e.halt=3)
 ·rw[if_pos h4];refine⟨λ h=>(by cases h),λ⟨_,_,_,_,a,_⟩=>?_⟩;rcases a h4.1 with x|x
  ·exact absurd x h4.2.1
  ·exact absurd x h4.2.2
 rw[if_neg h4];have q3:e.is=2→kindOf e.i.op=3∧e.known=true:=λ x=>by
  refine⟨Classical.byContradiction λ y=>h3 ⟨x,.inl y⟩,?_⟩
  cases hk:e.known with
  |true=>rfl
  |false=>exact absurd ⟨x,.inr hk⟩ h3
 have q4:e.halt≠0→e.is=3∨(e.is=1∧kindOf e.i.op=5∧e.halt=3):=λ x=>Classical.byContradiction λ y=>h4 ⟨x,λ z=>y (.inl z),λ z=>y (.inr z)⟩;have q2:e.is=1→0<e.left:=λ x=>Classical.byContradiction λ y=>h2 (.inl ⟨x,by omega⟩);have q5:e.is≠1→e.left=0:=λ x=>Classical.byContradiction λ y=>h2 (.inr ⟨x,y⟩);by_cases h5:RB e.i=true
 ·rw[if_pos h5];exact⟨λ _=>⟨by omega,q2,q5,q3,q4,.inl h5⟩,λ _=>rfl⟩
 ·rw[if_neg h5];refine⟨λ h=>⟨by omega,q2,q5,q3,q4,.inr (by simpa using h)⟩,λ⟨_,_,_,_,_,a⟩=>?_⟩;rcases a with a|a
  ·exact absurd a h5
  ·simpa using a
structure EvEnt(M:Int)(e:Ent):Prop where
 st:tA e=true
 kn:e.known=true→kindOf e.i.op=3∨kindOf e.i.op=4→nM M e.addr (dB e.i.op)=true
 s4:kindOf e.i.op=4→e.is=0∨e.is=3
 k4:kindOf e.i.op=4→e.is=3→e.halt=0→e.known=true
theorem EvEnt.go{M:Int}{e:Ent}(h:EvEnt M e):EvEnt M (goE e):=by
 obtain⟨h1,h2,h3,h4,h5,h6⟩:=(fI e).1 h.st;unfold goE;by_cases hi:e.is≠1
 ·rw[if_pos hi];exact h
 rw[if_neg hi];have hi:e.is=1:=Classical.not_not.1 hi;have n4:kindOf e.i.op≠4:=λ q=>by rcases h.s4 q with x|x<;>omega
 by_cases hl:wrap64 (e.left - 1)≤0
 ·rw[if_pos hl];refine⟨(fI _).2 ⟨by simp,λ q=>absurd q (by simp),λ _=>rfl,λ q=>absurd q (by simp),λ _=>.inl rfl,h6⟩,λ a b=>?_,λ q=>absurd q n4,λ q=>absurd q n4⟩;refine h.kn ?_ b;have a:(if kindOf e.i.op=5∧e.halt=0 then true else e.known)=true:=a;have b:kindOf e.i.op=3∨kindOf e.i.op=4:=b
  rwa [if_neg omT]at a
 ·rw[if_neg hl];refine⟨(fI _).2 ⟨h1,λ _=>by show 0<wrap64 (e.left - 1);omega,λ q=>absurd hi q,h4,h5,h6⟩,h.kn,h.s4,h.k4⟩
theorem TU{op:Int}{a b:Nat}(hk:kindOf op=2)(ha:a≤4294967295)(hb:b≤4294967295):0<zF op a b:=by
 have ho:42≤op∧op≤45:=by
  unfold kindOf at hk
  (repeat' split at hk)<;>omega
 unfold zF;rw[if_neg omT];split
 ·decide
 ·rename_i q;have h1:kL op b≤kL op a:=by omega
  have h2:=xQ op b omT (λ z=>q (.inl z));have:=JC (kL op b) (kL op a) (pR op b omT) (pR op a omT) h1 omT;omega
theorem EvEnt.start{M:Int}{e:Ent}(h:EvEnt M e){a b:Nat}(ha:a≤4294967295)(hb:b≤4294967295):EvEnt M (oU e a b):=by
 obtain⟨h1,h2,h3,h4,h5,h6⟩:=(fI e).1 h.st;unfold oU;by_cases hi:e.is≠0∨kindOf e.i.op=3∨kindOf e.i.op=4
 ·rw[if_pos hi];exact h
 rw[if_neg hi];have hh:e.halt=0:=Classical.byContradiction λ q=>by rcases h5 q with x|x<;>omega
 have n4:kindOf e.i.op≠4:=λ q=>hi (.inr (.inr q));have n3: ¬ (kindOf e.i.op=3∨kindOf e.i.op=4):=λ q=>hi (.inr q);by_cases k1:kindOf e.i.op=1
 ·rw[if_pos k1];exact⟨(fI _).2 ⟨by simp,λ _=>by simp,λ q=>absurd rfl q,λ q=>absurd q (by simp),λ q=>absurd hh q,h6⟩,λ _ q=>absurd q n3,λ q=>absurd q n4,λ q=>absurd q n4⟩
 rw[if_neg k1];by_cases k2:kindOf e.i.op=2
 ·rw[if_pos k2];exact⟨(fI _).2 ⟨by simp,λ _=>by have:=TU k2 ha hb;show (0:Int)<((zF e.i.op a b:Nat):Int);omega,λ q=>absurd rfl q,λ q=>absurd q (by simp),λ q=>absurd hh q,h6⟩,λ _ q=>absurd q n3,λ q=>absurd q n4,λ q=>absurd q n4⟩
 rw[if_neg k2];by_cases k5:kindOf e.i.op=5
 ·rw[if_pos k5];split
  ·exact⟨(fI _).2 ⟨by simp,λ _=>by simp,λ q=>absurd rfl q,λ q=>absurd q (by simp),λ q=>absurd hh q,h6⟩,λ _ q=>absurd q n3,λ q=>absurd q n4,λ q=>absurd q n4⟩
  ·refine⟨(fI _).2 ⟨by simp,λ _=>by simp,λ q=>absurd rfl q,λ q=>absurd q (by simp),λ _=>.inr ⟨rfl,k5,rfl⟩,?_⟩,λ _ q=>absurd q n3,λ q=>absurd q n4,λ q=>absurd q n4⟩;rcases h6 with x|x|x
   ·exact .inl x
   ·omega
   ·omega
 ·rw[if_neg k5];exact⟨(fI _).2 ⟨by simp,λ _=>by simp,λ q=>absurd rfl q,λ q=>absurd q (by simp),λ q=>absurd hh q,h6⟩,λ _ q=>absurd q n3,λ q=>absurd q n4,λ q=>absurd q n4⟩
theorem EvEnt.addr{M:Int}{e:Ent}(h:EvEnt M e)(a:Nat):EvEnt M (qO e M a):=by
 obtain⟨h1,h2,h3,h4,h5,h6⟩:=(fI e).1 h.st;unfold qO;by_cases hi:(kindOf e.i.op≠3∧kindOf e.i.op≠4)∨e.is≠0∨e.known=true
 ·rw[if_pos hi];exact h
 rw[if_neg hi];have i0:e.is=0:=Classical.byContradiction λ q=>hi (.inr (.inl q));have hh:e.halt=0:=Classical.byContradiction λ q=>by rcases h5 q with x|x<;>omega
 have hl:e.left=0:=h3 omT;split
 ·rename_i hr;exact⟨(fI _).2 ⟨h1,h2,h3,λ q=>absurd (show e.is=2 from q) omT,h5,h6⟩,λ _ _=>hr,h.s4,λ _ _ _=>rfl⟩
 ·have hk:e.known=false:=by cases hq:e.known with
   |false=>rfl
   |true=>exact absurd (.inr (.inr hq)) hi
  refine⟨(fI _).2 ⟨by simp,λ q=>absurd q (by simp),λ _=>hl,λ q=>absurd q (by simp),λ _=>.inl rfl,?_⟩,λ q=>(by rw[show e.known=true from q]at hk;cases hk),λ _=>.inr rfl,λ _ _ q=>?_⟩
  ·rcases h6 with x|x|x
   ·exact .inl x
   ·omega
   ·omega
  ·have q:(if kindOf e.i.op=4 then (5:Int)else 4)=0:=q;split at q<;>omega
theorem EvEnt.take{M:Int}{e:Ent}(h:EvEnt M e)(s:ByteArray):EvEnt M (rU e s):=by
 obtain⟨h1,h2,h3,h4,h5,h6⟩:=(fI e).1 h.st;unfold rU;by_cases hi:kindOf e.i.op≠3∨e.known=false∨(e.is≠0∧e.is≠2)
 ·rw[if_pos hi];exact h
 rw[if_neg hi];have k3:kindOf e.i.op=3:=Classical.byContradiction λ q=>hi (.inl q);have hh:e.halt=0:=Classical.byContradiction λ q=>by rcases h5 q with x|x<;>omega
 exact⟨(fI _).2 ⟨by simp,λ _=>by simp,λ q=>absurd rfl q,λ q=>absurd q (by simp),λ q=>absurd hh q,h6⟩,h.kn,λ q=>absurd (show kindOf e.i.op=4 from q) omT,λ q=>absurd (show kindOf e.i.op=4 from q) omT⟩
theorem EvEnt.store{M:Int}{e:Ent}(h:EvEnt M e)(b:Nat):EvEnt M (qJ e b):=by
 obtain⟨h1,h2,h3,h4,h5,h6⟩:=(fI e).1 h.st;unfold qJ;by_cases hi:kindOf e.i.op≠4∨e.known=false∨e.is≠0
 ·rw[if_pos hi];exact h
 rw[if_neg hi];have i0:e.is=0:=Classical.byContradiction λ q=>hi (.inr (.inr q))
 have hk:e.known=true:=by cases hq:e.known with
  |true=>rfl
  |false=>exact absurd (.inr (.inl hq)) hi
 exact⟨(fI _).2 ⟨by simp,λ q=>absurd q (by simp),λ _=>h3 omT,λ q=>absurd q (by simp),λ _=>.inl rfl,h6⟩,h.kn,λ _=>.inr rfl,λ _ _ _=>hk⟩
theorem EvEnt.fill{M:Int}{e:Ent}(h:EvEnt M e)(c:Co)(line:Nat):EvEnt M (tU c line e):=by
 unfold tU;split
 ·exact EvEnt.take (e:={e with filled:=true}) ⟨h.st,h.kn,h.s4,h.k4⟩ _
 ·exact h
theorem EvEnt.wait{M:Int}{e:Ent}(h:EvEnt M e)(h3:kindOf e.i.op=3)(hk:e.known=true)(h0:e.is=0∨e.is=2):EvEnt M {e with is:=2}:=by
 obtain⟨h1,h2,hl,h4,h5,h6⟩:=(fI e).1 h.st;have hh:e.halt=0:=Classical.byContradiction λ q=>by rcases h5 q with x|x<;>omega
 exact⟨(fI _).2 ⟨by simp,λ q=>absurd q (by simp),λ _=>hl omT,λ _=>⟨h3,hk⟩,λ q=>absurd hh q,h6⟩,h.kn,λ q=>absurd (show kindOf e.i.op=4 from q) omT,λ q=>absurd (show kindOf e.i.op=4 from q) omT⟩
theorem aaH(e:Ent):(goE e).no=e.no:=by unfold goE;(repeat' split)<;>rfl
theorem TV(e:Ent)(a b:Nat):(oU e a b).no=e.no:=by unfold oU;(repeat' split)<;>rfl
theorem Rl(e:Ent)(M:Int)(a:Nat):(qO e M a).no=e.no:=by unfold qO;(repeat' split)<;>rfl
theorem LG(e:Ent)(s:ByteArray):(rU e s).no=e.no:=by unfold rU;split<;>rfl
theorem TW(e:Ent)(b:Nat):(qJ e b).no=e.no:=by unfold qJ;split<;>rfl
theorem TX(c:Co)(line:Nat)(e:Ent):(tU c line e).no=e.no:=by
 unfold tU;split
 ·rw[LG]
 ·rfl
structure RoLst(M nx:Int)(l:List Ent):Prop where
 ev:∀ e∈l,EvEnt M e∧e.no<nx
 up:(l.map (·.no)).Pairwise (· < ·)
theorem RoLst.nil{M nx:Int}:RoLst M nx []:=⟨λ _ h=>(List.not_mem_nil h).elim,.nil⟩
theorem RoLst.map{M nx:Int}{l:List Ent}(h:RoLst M nx l){f:Ent→Ent}(hf:∀ e,EvEnt M e→EvEnt M (f e))(hn:∀ e,(f e).no=e.no):RoLst M nx (l.map f):=by
 refine⟨λ e he=>?_,?_⟩
 ·obtain⟨x,hx,rfl⟩:=sF.1 he;exact⟨hf x (h.ev x hx).1,by rw[hn];exact (h.ev x hx).2⟩
 ·rw[List.map_map,show ((λ e:Ent=>e.no)∘f)=λ e=>e.no from funext hn];exact h.up
theorem RoLst.set{M nx:Int}{l:List Ent}(h:RoLst M nx l){i:Nat}{x e:Ent}(hx:l[i]?=some x)(he:EvEnt M e)(hn:e.no=x.no):RoLst M nx (l.set i e):=by
 refine⟨λ y hy=>?_,?_⟩
 ·rcases List.mem_or_eq_of_mem_set hy with q|rfl
  ·exact h.ev y q
  ·exact⟨he,by rw[hn];exact (h.ev x (aB hx)).2⟩
 ·rw[List.map_set,hn];rw[show (l.map (·.no)).set i x.no=l.map (·.no)from ?_]
  ·exact h.up
  ·refine dL λ j=>?_;by_cases hj:i=j
   ·subst hj;have hl:=(DK.1 hx).1;rw[aW (by rw[aJ];exact hl),aZ,hx];rfl
   ·rw[gU hj]
theorem RoLst.sub{M nx:Int}{l k:List Ent}(h:RoLst M nx l)(hs:k.Sublist l):RoLst M nx k:=
 ⟨λ e he=>h.ev e (hs.mem he),h.up.sublist (hs.map _)⟩
theorem RoLst.cut{M nx:Int}{l:List Ent}(h:RoLst M nx l)(i:Nat):RoLst M nx (BU l i):=by
 unfold BU;split
 ·rename_i e he;have hi:=(DK.1 he).1;have hs:(l.take i++[{e with guess:=e.next}])=(l.set i {e with guess:=e.next}).take (i+1):=by
   rw[bV,aW hi,List.take_set_of_le (aC _)];rfl
  rw[hs];have hev:=(h.ev e (aB he)).1;exact (h.set he (e:={e with guess:=e.next}) ⟨hev.st,hev.kn,hev.s4,hev.k4⟩ rfl).sub (List.take_sublist _ _)
 ·exact h
theorem RoLst.push{M nx:Int}{l:List Ent}(h:RoLst M nx l){e:Ent}(he:EvEnt M e)(hn:e.no=nx):RoLst M (nx+1) (l++[e]):=by
 refine⟨λ y hy=>?_,?_⟩
 ·rcases al_List_mem_append.1 hy with q|q
  ·have:=h.ev y q;exact⟨this.1,by omega⟩
  ·rw[tW.1 q];exact⟨he,by omega⟩
 ·rw[eA,List.pairwise_append];refine⟨h.up,List.pairwise_singleton _ _,λ a ha b hb=>?_⟩;obtain⟨y,hy,rfl⟩:=sF.1 ha;have:=(h.ev y hy).2;have hb:b=e.no:=by simpa using hb
  omega
theorem RoLst.right{M nx:Int}{l:List Ent}(h:RoLst M nx l)(h8:l.length≤8):BV l=true:=by
 unfold BV;rw[aH,iO];refine⟨nB h8,λ i hi=>?_⟩;unfold Ey;split
 ·rename_i e he;rw[aH];refine⟨?_,(h.ev e (aB he)).1.st⟩
  cases i with
  |zero=>rfl
  |succ i=>
   have hl:=(DK.1 he).1;have hx:l[i]?=some (l[i]'omT):=aA omT;have:=List.pairwise_iff_getElem.1 h.up i (i+1) (by rw[aJ];omega) (by rw[aJ];omega) omT;rw[List.getElem_map,List.getElem_map]at this;have e2:l[i+1]=e:=(DK.1 he).2;rw[e2]at this;unfold Wd;rw[show i+1 - 1=i by omega,hx];simp[this]
 ·rfl
theorem RoLst.stores{M nx:Int}{r:Nat→Nat}{l:List Ent}(h:RoLst M nx l):∀ k,RoLst M nx (cD r l k)
 |0=>h
 | k+1=>by
  have ih:=RoLst.stores (r:=r) h k;show RoLst M nx (storeAt r (cD r l k) k);unfold storeAt;split
  ·rename_i e he;split
   ·split
    ·exact ih.set he ((ih.ev e (aB he)).1.store _) (TW _ _)
    ·exact ih
   ·exact ih
  ·exact ih
theorem xW(c:Ca)(k:Nat)(s:List Wy):(nL c k s).sets.length=c.sets.length∧(nL c k s).ways=c.ways:=⟨bN,rfl⟩
theorem Fa(c:Ca)(line:Nat):(mL c line).sets.length=c.sets.length∧(mL c line).ways=c.ways:=by
 unfold mL;split
 ·exact xW _ _ _
 ·exact⟨rfl,rfl⟩
theorem Kj(c:Ca)(line:Nat)(d:ByteArray)(b:Bool):(mF c line d b).1.sets.length=c.sets.length∧(mF c line d b).1.ways=c.ways:=by
 unfold mF;split
 ·split
  ·exact xW _ _ _
  ·split<;>exact xW _ _ _
 ·exact⟨rfl,rfl⟩
theorem LC(c:Ca)(a:Nat)(b:ByteArray):(mV c a b).1.sets.length=c.sets.length∧(mV c a b).1.ways=c.ways:=by
 unfold mV;split
 ·split
  ·split
   ·exact⟨rfl,rfl⟩
   ·exact xW _ _ _
  ·exact⟨rfl,rfl⟩
 ·exact⟨rfl,rfl⟩
theorem LD(c:Ca)(line:Nat):(mW c line).sets.length=c.sets.length∧(mW c line).ways=c.ways:=by
 unfold mW;split
 ·exact xW _ _ _
 ·exact⟨rfl,rfl⟩
theorem LE(c:Co)(line:Nat):(eG c line).data.sets.length=c.data.sets.length∧(eG c line).data.ways=c.data.ways:=by
 have hp:=Kj c.data (lineOf line) (AE (fW c.bus c.mem) (lineOf line)) false;unfold eG;rcases hB:gD c.data c.bus c.mem line (kK c.conf c.asked)with ⟨d,q,asked⟩;show d.sets.length=_∧d.ways=_;unfold gD at hB;split at hB
 ·cases hB;exact⟨rfl,rfl⟩
 ·split at hB
  ·cases hB;exact Fa _ _
  ·split at hB
   rename_i hq;rw[hq]at hp;split at hB<;>(cases hB;exact hp)
structure RcCor(q:Int)(c:Co):Prop where
 ro:RoLst c.mem.size c.next c.rob
 lo:0≤c.next
 nx:c.next≤q
 da:(c.data.sets.length:Int)=c.conf.sets∧c.data.ways=c.conf.ways
 wo:(c.words.sets.length:Int)=c.conf.sets∧c.words.ways=c.conf.ways
 sp:∀ p∈c.stores,nM c.mem.size p.addr p.data.size=true
 pg:c.prog.length≤64
theorem Kk(c:Co)(line:Nat):(eG c line).mem=c.mem∧(eG c line).next=c.next∧(eG c line).rob=c.rob∧(eG c line).conf=c.conf∧(eG c line).words=c.words∧(eG c line).stores=c.stores∧(eG c line).prog=c.prog:=by
 rw[←nQ];exact⟨rfl,rfl,rfl,rfl,rfl,rfl,rfl⟩
theorem RcCor.bring{q:Int}{c:Co}(h:RcCor q c)(line:Nat):RcCor q (eG c line):=by
 obtain⟨h1,h2,h3,h4,h5,h6,h7⟩:=Kk c line;have hs:=LE c line;exact⟨by rw[h1,h2,h3];exact h.ro,by rw[h2];exact h.lo,by rw[h2];exact h.nx,by rw[hs.1,hs.2,h4];exact h.da,by rw[h5,h4];exact h.wo,by rw[h6,h1];exact h.sp,by rw[h7];exact h.pg⟩
theorem RcCor.rob{q:Int}{c d:Co}(h:RcCor q c)(hr:RoLst c.mem.size c.next d.rob)(h1:d.mem=c.mem)(h2:d.next=c.next)(h3:d.data=c.data)(h4:d.words=c.words)(h5:d.conf=c.conf)(h6:d.stores=c.stores)(h7:d.prog=c.prog):RcCor q d:=
 ⟨by rw[h1,h2];exact hr,by rw[h2];exact h.lo,by rw[h2];exact h.nx,by rw[h3,h5];exact h.da,by rw[h4,h5];exact h.wo,by rw[h6,h1];exact h.sp,by rw[h7];exact h.pg⟩
theorem TP{q:Int}{c:Co}(h:RcCor q c):RcCor q (eH c):=by
 have hb:RcCor q (iV c):=⟨h.ro,h.lo,h.nx,h.da,h.wo,h.sp,h.pg⟩;rw[iB];split
 ·unfold wQ
  repeat' split
  ·exact hb.rob (hb.ro.map (λ e he=>he.fill _ _) (λ e=>TX _ _ e)) rfl rfl rfl rfl rfl rfl rfl
  ·have:=Kj (iV c).words (dO c.bus).2.1.line nE false;exact⟨hb.ro,hb.lo,hb.nx,hb.da,by show ((mF _ _ _ _).1.sets.length:Int)=_∧(mF _ _ _ _).1.ways=_;rw[this.1,this.2];exact hb.wo,hb.sp,hb.pg⟩
  ·exact hb.bring _
  ·have e:(mG (iV c).mem [⟨(dO c.bus).2.1.line,(dO c.bus).2.1.data⟩]).size=(iV c).mem.size:=fD ..;exact⟨by show RoLst ((mG _ _).size:Int) _ _;rw[e];exact hb.ro,hb.lo,hb.nx,hb.da,hb.wo,by show ∀ p∈_,nM ((mG _ _).size:Int) _ _=true;rw[e];exact hb.sp,hb.pg⟩
  ·exact hb
 ·exact hb
theorem TQ{q:Int}{c:Co}(h:RcCor q c):RcCor q (fH c):=by
 have hw:RoLst c.mem.size c.next (dA c):=RoLst.stores (h.ro.map (λ e he=>he.go) aaH) _;unfold fH;split
 ·exact h
 ·split
  ·rename_i i _;exact h.rob (hw.cut i) rfl rfl rfl rfl rfl rfl rfl
  ·exact h.rob hw rfl rfl rfl rfl rfl rfl rfl
theorem Rg(x n:Nat)(h:n=1∨n=2∨n=4):(rY x n).size=n:=by
 rcases h with rfl|rfl|rfl<;>rfl
theorem UW{q:Int}{c:Co}(h:RcCor q c){e:Ent}(he:e∈c.rob)(h3:e.is=3):RcCor q (eV c (bW e)):=by
 refine⟨h.ro,h.lo,h.nx,h.da,h.wo,?_,h.pg⟩;show ∀ p∈(match gH (bW e)with|some p=>c.stores++[p]|none=>c.stores),_;split
 ·rename_i p hp;intro y hy;rcases al_List_mem_append.1 hy with r|r
  ·exact h.sp y r
  ·rw [tW.1 r];have hev:=(h.ro.ev e he).1;unfold gH at hp;split at hp
   ·cases hp
   ·rename_i hn;have hz:(bW e).store=true:=by
     cases hb:(bW e).store with
     |true=>rfl
     |false=>exact absurd (.inl hb) hn
    have hk:e.halt=0∧kindOf e.i.op=4:=by
     unfold bW at hz;by_cases q1:e.halt≠0
     ·rw[if_pos q1]at hz;exact absurd (show false=true from hz) (by simp)
     ·by_cases q2:kindOf e.i.op=4
      ·exact⟨Classical.not_not.1 q1,q2⟩
      ·rw[if_neg q1,if_neg q2]at hz
       repeat' split at hz
       all_goals exact absurd (show false=true from hz) (by simp)
    have ht:bW e=⟨e.pc,up4 e.pc,wr e.i,e.value,e.addr,(dB e.i.op:Nat),true,0,0⟩:=by
     unfold bW;rw[if_neg (λ z=>z hk.1),if_pos hk.2]
    rw[ht]at hp hn;injection hp with hp;have hr:=hev.kn (hev.k4 hk.2 h3 hk.1) (.inr hk.2);have hsz:dB e.i.op=1∨dB e.i.op=2∨dB e.i.op=4:=by
     have hn: ¬ (((dB e.i.op:Nat):Int)≠1∧((dB e.i.op:Nat):Int)≠2∧((dB e.i.op:Nat):Int)≠4):=λ z=>hn (.inr (.inr z));omega
    have hb:p.data.size=dB e.i.op:=by rw[←hp];exact Rg _ _ hsz
    rw[show p.addr=e.addr by rw[←hp],hb];exact hr
 ·exact h.sp
theorem Rh{q:Int}{c:Co}(h:RcCor q c){e:Ent}(he:e∈c.rob)(h3:e.is=3):RcCor q (xD c e):=by
 have k:=UW h he h3;exact⟨k.ro.sub (List.drop_sublist _ _),k.lo,k.nx,k.da,k.wo,k.sp,k.pg⟩
theorem Ri{q:Int}{c:Co}(h:RcCor q c){e:Ent}(he:e∈c.rob)(h3:e.is=3):RcCor q (Eo c e):=by
 have k:=(UW h he h3).bring (bW e).addr;rw[←nQ]at k;exact⟨RoLst.sub (l:=c.rob) k.ro (List.drop_sublist _ _),k.lo,k.nx,k.da,k.wo,k.sp,k.pg⟩
theorem Bm{q:Int}:∀ (n:Nat) (c:Co),RcCor q c→RcCor q (dF n c)
 |0,_,h=>h
 | n +1,c,h=>by
  by_cases hz:c.halt≠0∨c.rob.length=0
  ·rw[iQ hz];exact h
  ·have hx:c.rob[0]?=some (c.rob[0]'omT):=aA omT;have hm:=aB hx;rw[gR omT (λ r=>hz (.inl r)) hx];split
   ·exact h
   ·rename_i h3;have h3:=Classical.not_not.1 h3;split
    ·exact⟨RoLst.nil,h.lo,h.nx,h.da,h.wo,h.sp,h.pg⟩
    ·split
     ·exact h
     ·rw[gL];by_cases hk:kindOf (c.rob[0]'omT).i.op=3
      ·rw[zX hk];exact Bm n _ (Ri h hm h3)
      ·rw[tQ hk];exact Bm n _ (Rh h hm h3)
theorem RcCor.setE{q:Int}{c:Co}(h:RcCor q c){i:Nat}{x e:Ent}(hx:c.rob[i]?=some x)(he:EvEnt c.mem.size e)(hn:e.no=x.no):RcCor q (setE c i e):=h.rob (h.ro.set hx he hn) rfl rfl rfl rfl rfl rfl rfl
theorem WX(e:Ent)(M:Int)(a:Nat)(h0:e.is=0):(qO e M a).known=true→(qO e M a).is=0∨e.known=false∧(qO e M a).is=0:=by
 intro hk;unfold qO at hk⊢;split
 ·exact .inl h0
 ·rename_i h1;rw[if_neg h1]at hk;split
  ·exact .inl h0
  ·rename_i h2;rw[if_neg h2]at hk;exact absurd (show e.known=true from hk) (λ z=>h1 (.inr (.inr z)))
theorem WY{q:Int}{c:Co}(h:RcCor q c){i:Nat}{x:Ent}(hx:c.rob[i]?=some x)(hk3:kindOf x.i.op=3)(hi:x.known=true→x.is=0):RcCor q (jM c i):=by
 have hev:=(h.ro.ev x (aB hx)).1;unfold jM;rw[hx];dsimp only;split
 ·exact h
 ·rename_i hkn
  have hk:x.known=true:=by cases hq:x.known with
   |true=>rfl
   |false=>exact absurd hq hkn
  have hw:=hev.wait hk3 hk (.inl (hi hk))
  repeat' split
  ·exact h.setE hx (hev.take _) (LG _ _)
  ·exact h
  ·exact h.setE hx (hev.take _) (LG _ _)
  ·exact h.setE hx hw rfl
  ·exact RcCor.setE (c:=iR c 1 (lineOf x.addr) nE) ⟨h.ro,h.lo,h.nx,h.da,h.wo,h.sp,h.pg⟩ hx hw rfl
  ·exact h
theorem YR{l:List Ent}{i:Nat}{x e:Ent}(hx:l[i]?=some x):(l.set i e)[i]?=some e:=aW (DK.1 hx).1
theorem TR{q:Int}{c:Co}{n:Nat}(hm:c.okM n)(h:RcCor q c){i:Nat}(hi:∀ e,c.rob[i]?=some e→e.is=0):RcCor q (eN c i):=by
 have hb:=AA hm.ok.robo hm.ok.r i;unfold eN
 cases hx:c.rob[i]? with
 |none=>exact h
 | some e=>
  have hev:=(h.ro.ev e (aB hx)).1;have h0:=hi e hx;dsimp only;split
  ·exact h.setE hx (hev.addr _) (Rl _ _ _)
  ·split
   ·rename_i k3;have hk:kindOf (qO e c.mem.size (lI c.rob c.r i).1).i.op=3:=by
     unfold qO
     (repeat' split)<;>exact k3
    exact WY (h.setE hx (hev.addr _) (Rl _ _ _)) (YR hx) hk (λ z=>(WX e _ _ h0 z).elim id (·.2))
   ·exact h.setE hx (hev.start hb.1 hb.2) (TV _ _ _)
theorem set_other{l:List Ent}{i j:Nat}{e:Ent}(h:i≠j):(l.set i e)[j]?=l[j]? :=gU h
theorem Of(c:Co){i j:Nat}(h:i≠j):(jM c i).rob[j]?=c.rob[j]? :=by
 unfold jM;split
 ·rfl
 ·(try dsimp only)
  repeat' split
  all_goals first|rfl|exact set_other h
theorem LF(c:Co){i j:Nat}(h:i≠j):(eN c i).rob[j]?=c.rob[j]? :=by
 unfold eN;split
 ·rfl
 ·(try dsimp only)
  split
  ·exact set_other h
  ·split
   ·rw[Of _ h];exact set_other h
   ·exact set_other h
theorem Kl{q:Int}:∀ (p:List Nat) (c:Co) (n:Nat),c.okM n→n+p.length≤890000→RcCor q c→p.Pairwise (· < ·)→(∀ i∈p,∀ e,c.rob[i]?=some e→e.is=0)→RcCor q (p.foldl eN c)
 |[],_,_,_,_,h,_,_=>h
 |i::p,c,n,hm,hb,h,hp,hi=>by
  have hl:(i::p).length=p.length+1:=rfl;rw[hl]at hb;obtain⟨h1,h2⟩:=List.pairwise_cons.1 hp;refine Kl p _ (n+1) (vA hm omT i).1 omT (TR hm h (hi i (al_List_mem_cons_self ..))) h2 (λ j hj e he=>?_);have:=h1 j hj;rw[LF c omT]at he;exact hi j (bE _ hj) e he
theorem GE{width:Int}{busy:Bool}{kinds:List Int}{can:List Bool}:∀ k,(∀ i∈(iE width busy kinds can k).out,i<k∧can.getD i false=true)∧(iE width busy kinds can k).out.Pairwise (· < ·)
 |0=>⟨λ i hi=>(List.not_mem_nil hi).elim,.nil⟩
 | k + 1=>by
  have ih:=GE (width:=width) (busy:=busy) (kinds:=kinds) (can:=can) k;have keep:(∀ i∈(iE width busy kinds can k).out,i<k+1∧can.getD i false=true)∧(iE width busy kinds can k).out.Pairwise (· < ·):=⟨λ i hi=>⟨by have:=(ih.1 i hi).1;omega,(ih.1 i hi).2⟩,ih.2⟩;show (∀ i∈(Ds width kinds (iE width busy kinds can k) k (can.getD k false)).out,_)∧(Ds width kinds (iE width busy kinds can k) k (can.getD k false)).out.Pairwise _;unfold Ds;split
  ·exact keep
  ·split
   ·exact keep
   ·rename_i hr;split
    ·exact keep
    ·refine⟨λ i hi=>?_,?_⟩
     ·rcases al_List_mem_append.1 hi with r|r
      ·exact keep.1 i r
      ·rw[tW.1 r]
       exact⟨by omega,by cases hc:can.getD k false with
        |true=>rfl
        |false=>exact absurd hc hr⟩
     ·show ((iE width busy kinds can k).out++[k]).Pairwise _;rw[List.pairwise_append];refine⟨ih.2,List.pairwise_singleton _ _,λ a ha b hb=>?_⟩;rw[tW.1 hb];exact (ih.1 a ha).1
theorem YS{c:Co}{i:Nat}{e:Ent}(h:BX c i=true)(he:c.rob[i]?=some e):e.is=0:=by
 unfold BX at h;rw[he]at h;dsimp only at h;split at h
 ·cases h
 ·rename_i q;exact Classical.not_not.1 q
theorem Rj{q:Int}{c:Co}{n:Nat}(hm:c.okM n)(hb:n+2≤890000)(h:RcCor q c):RcCor q (eE c):=by
 by_cases hh:c.halt≠0
 ·rw[show eE c=c from if_pos hh];exact h
 ·have hw:=mR hm.cf;have hl:=Ps (width:=c.conf.width) (busy:=c.rob.any Dp) (kinds:=Al c) (can:=zB c) omT (zB c).length;have hf:=GE (width:=c.conf.width) (busy:=c.rob.any Dp) (kinds:=Al c) (can:=zB c) (zB c).length;rw[show eE c=(iE c.conf.width (c.rob.any Dp) (Al c) (zB c) (zB c).length).out.foldl eN c from if_neg hh];refine Kl _ c n hm omT h hf.2 (λ i hi e he=>?_);have hc:=(hf.1 i hi).2;have hlt:=(DK.1 he).1;refine YS (i:=i) ?_ he;unfold zB at hc;rw[bC,aZ,gC hlt]at hc;exact hc
theorem TS{M:Int}(no:Int){f:Ft}{prog:List Nat}(hp:∀ x∈prog,x≤4294967295):EvEnt M (qK no f prog)∧(qK no f prog).no=no:=by
 have hx:fetchW prog f.pc<4294967296:=BT (HH hp f.pc);have n4: ¬ kindOf 0=4:=by decide
 unfold qK;split
 ·exact⟨⟨(fI _).2 ⟨by simp,λ q=>absurd q (by simp),λ _=>rfl,λ q=>absurd q (by simp),λ _=>.inl rfl,.inr (.inl rfl)⟩,λ q=>absurd (show false=true from q) (by simp),λ q=>absurd (show kindOf 0=4 from q) n4,λ q=>absurd (show kindOf 0=4 from q) n4⟩,rfl⟩
 ·split
  ·exact⟨⟨(fI _).2 ⟨by simp,λ q=>absurd q (by simp),λ _=>rfl,λ q=>absurd q (by simp),λ _=>.inl rfl,.inr (.inr rfl)⟩,λ q=>absurd (show false=true from q) (by simp),λ q=>absurd (show kindOf 0=4 from q) n4,λ q=>absurd (show kindOf 0=4 from q) n4⟩,rfl⟩
  ·rename_i ho;have hs:RB (lL (fetchW prog f.pc))=true:=(HG _).2 (Ws _ ho hx);split
   ·exact⟨⟨(fI _).2 ⟨by simp,λ q=>absurd q (by simp),λ _=>rfl,λ q=>absurd q (by simp),λ _=>.inl rfl,.inl hs⟩,λ q=>absurd (show false=true from q) (by simp),λ _=>.inr rfl,λ _ _ q=>absurd (show (6:Int)=0 from q) (by simp)⟩,rfl⟩
   ·split
    ·exact⟨⟨(fI _).2 ⟨by simp,λ q=>absurd q (by simp),λ _=>rfl,λ q=>absurd q (by simp),λ _=>.inl rfl,.inl hs⟩,λ q=>absurd (show false=true from q) (by simp),λ _=>.inr rfl,λ _ _ q=>absurd (show (7:Int)=0 from q) (by simp)⟩,rfl⟩
    ·exact⟨⟨(fI _).2 ⟨(show (0:Int)≤0∧(0:Int)≤3 from ⟨by simp,by simp⟩),λ q=>absurd (show (0:Int)=1 from q) (by simp),λ _=>rfl,λ q=>absurd (show (0:Int)=2 from q) (by simp),λ q=>absurd rfl q,.inl hs⟩,λ q=>absurd (show false=true from q) (by simp),λ _=>.inl rfl,λ _ q=>absurd (show (0:Int)=3 from q) (by simp)⟩,rfl⟩
theorem GF:∀ (n:Nat) (q:Int) (c:Co),(∀ x∈c.prog,x≤4294967295)→q+n≤9000000→RcCor q c→RcCor (q+n) (iL n c)
 |0,q,c,_,_,h=>by rw[show q+((0:Nat):Int)=q by omega];exact h
 | n+1,q,c,hp,hb,h=>by
  by_cases h0:(c.rob.length:Int)≥c.conf.rob∨c.fetched.length=0
  ·rw[qW h0];exact⟨h.ro,h.lo,by have:=h.nx;omega,h.da,h.wo,h.sp,h.pg⟩
  ·have hx:c.fetched[0]?=some (c.fetched[0]'omT):=aA omT;have e:=uM (n:=n+1) (k:=0) omT (λ r=>h0 (.inl r)) hx;rw[show n+1 - (0+1)=n by omega,show n+1 - 0=n+1 by omega]at e;rw[←e,show q+((n+1:Nat):Int)=(q+1)+(n:Nat) by omega];have hw:wrap64 (c.next+1)=c.next+1:=Og (by have:=h.lo;omega) (by have:=h.nx;omega);have he:=TS (M:=c.mem.size) c.next (f:=c.fetched[0]'omT) hp;refine GF n (q+1) _ hp omT ⟨?_,?_,?_,h.da,h.wo,h.sp,h.pg⟩
   ·show RoLst c.mem.size (wrap64 (c.next+1)) (c.rob++[_]);rw[hw];exact h.ro.push he.1 he.2
   ·show 0≤wrap64 (c.next+1);rw[hw];have:=h.lo;omega
   ·show wrap64 (c.next+1)≤_;rw[hw];have:=h.nx;omega
theorem Fb{q:Int}:∀ (n:Nat) (c:Co),RcCor q c→RcCor q (dS n c)
 |0,_,h=>h
 | n +1,c,h=>by
  by_cases h0:c.stop=true∨(c.fetched.length:Int)≥c.conf.queue
  ·rw[pO h0];exact h
  ·by_cases hf:(fetchP c.prog c.fetch).isSome=false
   ·rw[qX omT h0 hf];exact⟨h.ro,h.lo,h.nx,h.da,h.wo,h.sp,h.pg⟩
   ·by_cases hw:(aX c.words (lineOf c.fetch)).2.isSome=false
    ·rw[nK omT h0 hf hw];split
     ·exact⟨h.ro,h.lo,h.nx,h.da,h.wo,h.sp,h.pg⟩
     ·exact h
    ·have e:=sW (n:=n+1) (k:=0) omT h0 hf hw;rw[show n+1 - (0+1)=n by omega,show n+1 - 0=n+1 by omega]at e;rw[←e];refine Fb n _ ?_;have ht:=Fa c.words (lineOf c.fetch);have hT:RcCor q (gY c):=⟨h.ro,h.lo,h.nx,h.da,by show ((mL _ _).sets.length:Int)=_∧(mL _ _).ways=_;rw[ht.1,ht.2];exact h.wo,h.sp,h.pg⟩;have hb:∀ w,RcCor q (cF (gY c) w).1:=by
      intro w;unfold cF
      repeat' split
      all_goals exact⟨hT.ro,hT.lo,hT.nx,hT.da,hT.wo,hT.sp,hT.pg⟩
     have k:=hb (fetchW c.prog c.fetch);exact⟨k.ro,k.lo,k.nx,k.da,k.wo,k.sp,k.pg⟩
theorem Rk{q:Int}{c:Co}(h:RcCor q c):RcCor q (kJ c):=by
 have h1:RcCor q (aQ c):=by
  refine⟨h.ro,h.lo,h.nx,?_,h.wo,?_,h.pg⟩
  ·show ((lJ c.stores c.data).2.1.sets.length:Int)=_∧(lJ c.stores c.data).2.1.ways=_;unfold lJ;split
   ·exact h.da
   ·rename_i p l _;have:=LC c.data p.addr p.data;split
    ·rw[this.1,this.2];exact h.da
    ·exact h.da
  ·show ∀ p∈(lJ c.stores c.data).1,_;unfold lJ;split
   ·exact h.sp
   ·rename_i p l hs;split
    ·exact λ y hy=>h.sp y (by rw[hs];exact bE _ hy)
    ·exact h.sp
 have hA:∀ {d:Co},RcCor q d→RcCor q (jK d):=λ {d} k=>by
  unfold jK;split
  ·exact k
  ·split
   ·exact⟨k.ro,k.lo,k.nx,k.da,k.wo,k.sp,k.pg⟩
   ·exact k
 have hB:∀ {d:Co},RcCor q d→RcCor q (iM d):=λ {d} k=>by
  unfold iM;split
  ·exact k
  ·unfold kE;split
   ·split
    ·rename_i w _ _;have:=LD d.data w.line;exact⟨k.ro,k.lo,k.nx,by show ((mW _ _).sets.length:Int)=_∧(mW _ _).ways=_;rw[this.1,this.2];exact k.da,k.wo,k.sp,k.pg⟩
    ·exact k
   ·exact k
 rw[iK];split
 ·exact hB (hA h1)
 ·exact hB h1
theorem AL(n lo hi:Int)(h:0≤lo∧lo≤hi):0≤bG n lo hi:=by unfold bG;(repeat' split)<;>omega
theorem YW(c:Cf)(prog:List Nat)(m:ByteArray):Bd (bO c) 0 (qP c prog m):=
 ⟨rfl,AL _ 2 8 (by decide),AL _ 1 4 (by decide),AL _ 1 4 (by decide),AL _ 2 6 (by decide),rfl⟩
theorem Rx(c:Cf):0≤(bO c).rob∧0≤(bO c).queue:=⟨AL _ 2 8 (by decide),AL _ 1 4 (by decide)⟩
theorem aaI{f:Cf}(h0:0≤f.rob∧0≤f.queue){c:Co}(h:Bd f c.retired.length c):Bd f (gI c).retired.length (gI c)∧c.retired.length≤(gI c).retired.length∧(gI c).retired.length≤c.retired.length+f.width.toNat:=by
 obtain⟨b,h1,h2,h3⟩:=Xc h0 h;have:=h3.ret;subst this;exact⟨h3,h1,h2⟩
def Ol(prog:List Nat):List Nat:=prog.take (min prog.length 64)
def Uf(m:ByteArray):ByteArray:=m.extract 0 (min m.size 300)
def upTo(a:Int)(hi:Nat):Nat:=(min (max a 0) hi).toNat
theorem Ry(a:Int)(hi:Nat):upTo a hi≤hi:=by unfold upTo;omega
theorem Rz(a:Int)(hi:Nat):(if (hi:Int)<max a 0 then (hi:Int)else max a 0)=((upTo a hi:Nat):Int):=by unfold upTo;split<;>omega
theorem UZ(a b:Int):(if b>a then b else a)=max a b:=by split<;>omega
end Go.Proofs.YtlhofpglndhfaaaGreatDoor
