/- Joined texts. -/
import Derived.Test.YtlhofpglndhfaaaGreatDoorS301
import Derived.Test.YtlhofpglndhfaaaGreatDoorS328
import Derived.Test.YtlhofpglndhfaaaGreatDoorS333
set_option linter.unusedVariables false
set_option linter.unusedSimpArgs false
namespace Go.Proofs.YtlhofpglndhfaaaGreatDoor
set_option maxRecDepth 100000
set_option maxHeartbeats 4000000
open Go.RowKit
theorem Oh{g:Gu}(h:g.ok)(pc:Nat)(i:SI):vS g pc i≤4294967295:=by
 unfold vS;split
 ·split
  ·cases hl:g.rets.getLast? with
   |none=>exact aF _
   |some x=>exact h.ro x (List.mem_of_getLast? hl)
  ·cases hs:g.slots[gL g pc]? with
   |none=>exact yJ _
   |some s=>
    dsimp only;split
    ·exact (h.so s (aB hs)).next
    ·exact yJ _
 ·exact yJ _
theorem Oi{c:Cf}(h:∀ x∈c.tape,x≤4294967295)(k:Int)(pc:Nat):wS c k pc≤4294967295:=by
 have hp:=GB h;unfold wS;generalize (bB c).tape=l at hp
 cases l with
 |nil=>exact yJ _
 |cons y l=>
  show (y::l).getD _ _≤_;rw[bP]
  cases hq:(y::l)[(max k 0).toNat % (y::l).length]? with
  |none=>exact aF _
  |some x=>exact hp x (aB hq)
theorem Oj{c:Co}{n:Nat}(h:c.okM n)(w:Nat):(cN c w).2≤4294967295:=by
 unfold cN;split
 ·exact yJ _
 ·split
  ·exact Oh h.ok.guess _ _
  ·exact Oi h.conf.tp _ _
theorem Aj(c:Co)(w:Nat):(cN c w).1.fetched=c.fetched:=by
 unfold cN;split
 ·rfl
 ·split<;>rfl
def gP(d:Co):Co:={d with words:=sK d.words (lineOf d.fetch)}
theorem zX{c:Co}{n:Nat}(h:c.okM n):(gP c).okM n:=by
 have g:=WS.1 (h.gw.touch (lineOf c.fetch));exact⟨⟨h.ok.conf,h.ok.prog,h.ok.progo,h.ok.r,h.ok.fetch,h.ok.fet,h.ok.feto,h.ok.rob,h.ok.robo,h.ok.sto,h.ok.stoo,h.ok.data,g.2,h.ok.bus,h.ok.buso,h.ok.asked,h.ok.guessed,h.ok.mem,h.ok.guess,h.ok.ret,h.ok.reto⟩,h.nb,h.cf,h.data,g.1,h.guess,h.rob,h.fet,h.sto,h.prog,h.mem,h.std⟩
theorem Ms{c:Co}{n:Nat}(h:c.okM n)(w:Nat):(cN c w).1.okM n:=by
 unfold cN;split
 ·exact h
 ·split
  ·exact h
  ·exact⟨⟨h.ok.conf,h.ok.prog,h.ok.progo,h.ok.r,h.ok.fetch,h.ok.fet,h.ok.feto,h.ok.rob,h.ok.robo,h.ok.sto,h.ok.stoo,h.ok.data,h.ok.words,h.ok.bus,h.ok.buso,h.ok.asked,DH _,h.ok.mem,h.ok.guess,h.ok.ret,h.ok.reto⟩,h.nb,h.cf,h.data,h.words,h.guess,h.rob,h.fet,h.sto,h.prog,h.mem,h.std⟩
theorem JU{c:Co}{n:Nat}(h:c.okM n)(hf:c.fetched.length≤999){x:Nat}(hx:x≤4294967295):(Kb c x).okM n:=by
 have hl:(c.fetched++[(⟨c.fetch,x⟩:Ft)]).length≤1000:=by simp;omega
 exact⟨⟨h.ok.conf,h.ok.prog,h.ok.progo,h.ok.r,hx,aL hl (by decide),nQ h.ok.feto (nU ⟨h.ok.fetch,hx⟩),h.ok.rob,h.ok.robo,h.ok.sto,h.ok.stoo,h.ok.data,h.ok.words,h.ok.bus,h.ok.buso,h.ok.asked,h.ok.guessed,h.ok.mem,h.ok.guess,h.ok.ret,h.ok.reto⟩,h.nb,h.cf,h.data,h.words,h.guess,h.rob,hl,h.sto,h.prog,h.mem,h.std⟩
def wN(d:Co):Co:=Kb (cN (gP d) (fetchW d.prog d.fetch)).1 (cN (gP d) (fetchW d.prog d.fetch)).2
theorem sT(d:Co):(wN d).fetched=d.fetched++[⟨(cN (gP d) (fetchW d.prog d.fetch)).1.fetch,(cN (gP d) (fetchW d.prog d.fetch)).2⟩]:=by
 show (cN (gP d) _).1.fetched++_=_;rw[Aj];rfl
theorem BN{c:Co}{n:Nat}(h:c.okM n)(hf:c.fetched.length≤999):(wN c).okM n:=
 JU (Ms (zX h) _) (by rw[Aj];exact hf) (Oj (zX h) _)
theorem rC{d:Co}{n:Nat}(h:d.stop=true∨(d.fetched.length:Int)≥d.conf.queue):eB n d=d:=by
 cases n with
 |zero=>rfl
 |succ n=>exact if_pos h
theorem tI{d:Co}{n:Nat}(hn:0<n)(h: ¬ (d.stop=true∨(d.fetched.length:Int)≥d.conf.queue))(hf:(fetchP d.prog d.fetch).isSome=false):eB n d={d with fetched:=d.fetched++[⟨d.fetch,up4 d.fetch⟩],stop:=true}:=by
 cases n with
 |zero=>cases hn
 |succ n=>exact (if_neg h).trans (if_pos hf)
theorem oP{d:Co}{n:Nat}(hn:0<n)(h: ¬ (d.stop=true∨(d.fetched.length:Int)≥d.conf.queue))(hf: ¬ (fetchP d.prog d.fetch).isSome=false)(hw:(bE d.words (lineOf d.fetch)).2.isSome=false):eB n d=if CW d.bus (lineOf d.fetch) 2=false∧pW d false=true then iF d 2 (lineOf d.fetch) mH else d:=by
 cases n with
 |zero=>cases hn
 |succ n=>exact ((if_neg h).trans (if_neg hf)).trans (if_pos hw)
theorem uN{d:Co}{n k:Nat}(hn:k<n)(h: ¬ (d.stop=true∨(d.fetched.length:Int)≥d.conf.queue))(hf: ¬ (fetchP d.prog d.fetch).isSome=false)(hw: ¬ (bE d.words (lineOf d.fetch)).2.isSome=false):eB (n - (k+1)) (wN d)=eB (n - k) d:=by
 rw[show n - k=(n - (k+1))+1 by omega];exact (((if_neg h).trans (if_neg hf)).trans (if_neg hw)).symm
theorem TA(c:Co)(nb:Nat)(hm:c.okM nb)(w:Nat)(hw:w≤4294967295)(kR:Bool)(xR:List (List AV))(kF:Bool)(xF:List (List AV))(kS:Bool)(xS:List (List AV))(kT:Bool)(xT:List (List AV)):pJ C0.P C0.G 119 [.ptr 0 0,vU w] (heapF [(0,.box (mcX c (.sl 17 xR kR) (.sl 2 xF kF) (.sl 2 xS kS) (.sl 9 xT kT)))]) 1 (λ x h'=>x=vU (cN c w).2∧h'=heapF [(0,.box (mcX (cN c w).1 (.sl 17 xR kR) (.sl 2 xF kF) (.sl 2 xS kS) (.sl 9 xT kT)))]):=by
 refine HCall.intro (C:=C1) (s:=1) c1Ok.at Tryz.func119 rfl rfl (by kernel_rfl) rfl rfl<|cSR<|oR 1 rfl<|rE 2<|cSR<|oR 1 rfl<|rCi rfl (Kk w (BA hw))<|oR 3 rfl<|rAl 7 rfl rfl<|rSt rfl<|oR 1 rfl<|rE 10<|aE<|aE ?_;refine cRg<|oR 1 rfl<|rW (vB ((decE w) != 0)) rfl (okB (neN _ _))<|oR 1 rfl<|gN rfl<|jI (args:=[.agg [vI ((fS w).op),vI ((fS w).rd),vI ((fS w).rs1),vI ((fS w).rs2),vU ((fS w).imm)]]) (x:=vN (kindOf (fS w).op)) (g:= !((decE w) != 0)) rfl rfl rfl rfl (λ h=>h) rfl rfl rfl (.inl rfl) rfl (λ hg=>qG (fS w))<|gBS (x:=vB ((kindOf (fS w).op) != 5)) rfl id (okB (neN _ _))<|cH rfl rfl rfl (by simp)<|rE 17 ?_;refine aU rfl (λ h1=>?_) (λ h1=>?_)
 ·have hk1:(MX w=0∨kindOf (fS w).op≠5):=by have z:=h1;have e:=yB w;simp only[c2o,dG,dT,pG,gT,ne_eq]at z;grind
  refine cSR<|oR 5 rfl ?_;have b1:(c.fetch+4) % 4294967296≤4294967295:=aT (bG _ (by decide));refine rV (vU ((c.fetch+4) % 4294967296)) rfl<|oR 1 rfl<|rE 24<|cT ?_;rw[show cN c w=(c,up4 c.fetch)from if_pos hk1];exact oX (rs:=[vU ((c.fetch+4) % 4294967296)]) rfl (r:=vU ((c.fetch+4) % 4294967296)) (σ:=λ z=>z) ⟨rfl,rfl⟩ rfl (cF (λ z=>z) rfl rfl wH rfl)
 ·have hk1: ¬ (MX w=0∨kindOf (fS w).op≠5):=by have z:=h1;have e:=yB w;simp only[c2o,dG,dT,pG,gT,ne_eq]at z;grind
  refine aZ<|aE<|cSR<|oR 6 rfl<|rE 23 ?_;refine aU rfl (λ h2=>?_) (λ h2=>?_)
  ·refine cSR<|oR 11 rfl<|rCi rfl (Py c.guess c.fetch (fS w) hm.ok.guess hm.ok.fetch (aT (GW w)))<|oR 1 rfl<|rE 36<|cT ?_;rw[show cN c w=(c,vS c.guess c.fetch (fS w))from (if_neg hk1).trans (if_pos h2)];exact oX (rs:=[vU (vS c.guess c.fetch (fS w))]) rfl (r:=vU (vS c.guess c.fetch (fS w))) (σ:=λ z=>z) ⟨rfl,rfl⟩ rfl (cF (λ z=>z) rfl rfl wH rfl)
  ·refine aZ<|cSR<|oR 15 rfl<|rCi rfl (OI c.conf c.guessed c.fetch hm.conf hm.ok.guessed hm.ok.fetch)<|oR 1 rfl<|rE 40<|cSR<|oR 5 rfl<|rW (vI (wrap64 (c.guessed+1))) rfl (okI (w64 _))<|oR 3 rfl<|rSx 0 (mcX ({c with guessed:=wrap64 (c.guessed+1)}:Co) (.sl 17 xR kR) (.sl 2 xF kF) (.sl 2 xS kS) (.sl 9 xT kT)) rfl rfl rfl<|rE 50<|cSR ?_;refine oR 2 rfl<|rE 52<|cT ?_;rw[show cN c w=({c with guessed:=wrap64 (c.guessed+1)},wS c.conf c.guessed c.fetch)from (if_neg hk1).trans (if_neg (by rw[h2];decide))];exact oX (rs:=[vU (wS c.conf c.guessed c.fetch)]) rfl (r:=vU (wS c.conf c.guessed c.fetch)) (σ:=λ z=>z) ⟨rfl,rfl⟩ rfl (cF (λ z=>z) rfl rfl wH rfl)
theorem QY(c:Co)(nb:Nat)(hm:c.okM nb)(w:Nat)(hw:w≤4294967295)(kR:Bool)(xR:List (List AV))(lF nF:Nat)(kF:Bool)(rF:List (List AV))(kS:Bool)(xS:List (List AV))(kT:Bool)(xT:List (List AV)):pJ C0.P C0.G 119 [.ptr 0 0,vU w] (heapF [(0,.box (mcX c (.sl 17 xR kR) (.osl 1 lF nF kF) (.sl 2 xS kS) (.sl 9 xT kT))),(1,.arr rF 2)]) 2 (λ x h'=>x=vU (cN c w).2∧h'=heapF [(0,.box (mcX (cN c w).1 (.sl 17 xR kR) (.osl 1 lF nF kF) (.sl 2 xS kS) (.sl 9 xT kT))),(1,.arr rF 2)]):=by
 refine HCall.intro (C:=C1) (s:=2) c1Ok.at Tryz.func119 rfl rfl (by kernel_rfl) rfl rfl<|cSR<|oR 1 rfl<|rE 3<|cSR<|oR 1 rfl<|rCi rfl (Kk w (BA hw))<|oR 3 rfl<|rAl 8 rfl rfl<|rSt rfl<|oR 1 rfl<|rE 11<|aE<|aE ?_;refine cRg<|oR 1 rfl<|rW (vB ((decE w) != 0)) rfl (okB (neN _ _))<|oR 1 rfl<|gN rfl<|jI (args:=[.agg [vI ((fS w).op),vI ((fS w).rd),vI ((fS w).rs1),vI ((fS w).rs2),vU ((fS w).imm)]]) (x:=vN (kindOf (fS w).op)) (g:= !((decE w) != 0)) rfl rfl rfl rfl (λ h=>h) rfl rfl rfl (.inl rfl) rfl (λ hg=>qG (fS w))<|gBS (x:=vB ((kindOf (fS w).op) != 5)) rfl id (okB (neN _ _))<|cH rfl rfl rfl (by simp)<|rE 18 ?_;refine aU rfl (λ h1=>?_) (λ h1=>?_)
 ·have hk1:(MX w=0∨kindOf (fS w).op≠5):=by have z:=h1;have e:=yB w;simp only[c2o,dG,dT,pG,gT,ne_eq]at z;grind
  refine cSR<|oR 5 rfl ?_;have b1:(c.fetch+4) % 4294967296≤4294967295:=aT (bG _ (by decide));refine rV (vU ((c.fetch+4) % 4294967296)) rfl<|oR 1 rfl<|rE 25<|cT ?_;rw[show cN c w=(c,up4 c.fetch)from if_pos hk1];exact oX (rs:=[vU ((c.fetch+4) % 4294967296)]) rfl (r:=vU ((c.fetch+4) % 4294967296)) (σ:=λ z=>z) ⟨rfl,rfl⟩ rfl (cF (λ z=>z) rfl rfl wH rfl)
 ·have hk1: ¬ (MX w=0∨kindOf (fS w).op≠5):=by have z:=h1;have e:=yB w;simp only[c2o,dG,dT,pG,gT,ne_eq]at z;grind
  refine aZ<|aE<|cSR<|oR 6 rfl<|rE 24 ?_;refine aU rfl (λ h2=>?_) (λ h2=>?_)
  ·refine cSR<|oR 11 rfl<|rCi rfl (Py c.guess c.fetch (fS w) hm.ok.guess hm.ok.fetch (aT (GW w)))<|oR 1 rfl<|rE 37<|cT ?_;rw[show cN c w=(c,vS c.guess c.fetch (fS w))from (if_neg hk1).trans (if_pos h2)];exact oX (rs:=[vU (vS c.guess c.fetch (fS w))]) rfl (r:=vU (vS c.guess c.fetch (fS w))) (σ:=λ z=>z) ⟨rfl,rfl⟩ rfl (cF (λ z=>z) rfl rfl wH rfl)
  ·refine aZ<|cSR<|oR 15 rfl<|rCi rfl (OI c.conf c.guessed c.fetch hm.conf hm.ok.guessed hm.ok.fetch)<|oR 1 rfl<|rE 41<|cSR<|oR 5 rfl<|rW (vI (wrap64 (c.guessed+1))) rfl (okI (w64 _))<|oR 3 rfl<|rSx 0 (mcX ({c with guessed:=wrap64 (c.guessed+1)}:Co) (.sl 17 xR kR) (.osl 1 lF nF kF) (.sl 2 xS kS) (.sl 9 xT kT)) rfl rfl rfl<|rE 51<|cSR ?_;refine oR 2 rfl<|rE 53<|cT ?_;rw[show cN c w=({c with guessed:=wrap64 (c.guessed+1)},wS c.conf c.guessed c.fetch)from (if_neg hk1).trans (if_neg (by rw[h2];decide))];exact oX (rs:=[vU (wS c.conf c.guessed c.fetch)]) rfl (r:=vU (wS c.conf c.guessed c.fetch)) (σ:=λ z=>z) ⟨rfl,rfl⟩ rfl (cF (λ z=>z) rfl rfl wH rfl)
theorem KX(c:Co)(nb:Nat)(hm:c.okM nb)(kR:Bool)(xR:List (List AV))(kS:Bool)(xS:List (List AV))(kT:Bool)(xT:List (List AV)):pJ C0.P C0.G 57 [.ptr 0 0] (heapF [(0,.box (mcX c (.sl 17 xR kR) (.sl 2 (c.fetched.map ftL) true) (.sl 2 xS kS) (.sl 9 xT kT)))]) 1 (λ x h'=>x=.tup []∧h'=heapF [(0,.box (mcX (dW c) (.sl 17 xR kR) (.sl 2 ((dW c).fetched.map ftL) false) (.sl 2 xS kS) (.sl 9 xT kT)))]):=by
 refine HCall.intro (C:=C1) (s:=1) c1Ok.at Tryz.func57 rfl rfl (by kernel_rfl) rfl rfl ?_;obtain⟨W,hW,hW2⟩:∃ W:Nat,c.conf.width=(W:Int)∧W≤2:=⟨c.conf.width.toNat,by have:=oQ hm.cf;omega,by have:=oQ hm.cf;omega⟩;refine aE<|cSR<|oR 5 rfl<|rV (vB (c.halt != 0)) rfl<|rE 7 ?_;refine aU rfl (λ h1=>?_) (λ h1=>?_)
 ·have h1p:=vA h1;refine cT ?_;have e:dW c=c:=if_pos h1p;rw[e];exact BB (rs:=[]) rfl (.step none (Ghost.of_lists (l:=[(0,.tup [])]) (hp:=[(0,.box (mcX (c) (.sl 17 xR kR) (.sl 2 (c.fetched.map ftL) false) (.sl 2 xS kS) (.sl 9 xT kT)))]) trivial ⟨.refl _,trivial⟩ ⟨⟨trivial,_,rfl,LeB.boxL (nN (.refl _) (.clip _ _) (.refl _) (.refl _))⟩,trivial⟩) (.refl _)) (r:=.tup []) (σ:=λ z=>z) ⟨rfl,rfl⟩ rfl (eX (λ z=>z) rfl rfl wH rfl)
 ·have h1p:=vC h1;refine aZ<|cSR<|oR 7 rfl<|rE 14<|bI<|qW (κ:=Nat×Co×Bool) (λ z_=>match z_ with|(k,d,false)=>⟨cI [(0,.ptr 0 0),(14,vB (c.halt != 0)),(20,vI c.conf.width),(21,vN k)],heapF [(0,.box (mcX d (.sl 17 xR kR) (.sl 2 (d.fetched.map ftL) true) (.sl 2 xS kS) (.sl 9 xT kT)))],15⟩|(k,d,true)=>⟨cI [(0,.ptr 0 0),(14,vB (c.halt != 0)),(20,vI c.conf.width),(21,vN k)],heapF [(0,.box (mcX d (.sl 17 xR kR) (.osl 14 0 d.fetched.length false) (.sl 2 xS kS) (.sl 9 xT kT))),(14,.arr (d.fetched.map ftL) 2)],15⟩) (λ z_=>match z_ with|(k,d,_)=>k≤W∧d.okM nb∧eB (W - k) d=eB W c) (λ z_=>W - z_.1) (0,c,false) (λ s=>s) (Weak.of_lists (λ s=>s) wT wH rfl) rfl (⟨aF _,hm,rfl⟩) ?_;intro z_ hk;obtain⟨k,d,b_⟩:=z_;cases b_
  ·have hkn:k≤W:=hk.1;have hkB:k≤2:=by omega
   have hd:d.okM nb:=hk.2.1;have hG:eB (W - k) d=eB W c:=hk.2.2;refine cSR<|rV (vB (decide ((k:Int)<c.conf.width))) rfl<|rE 16<|aE ?_;refine aU rfl (λ h2=>?_) (λ h2=>?_)
   ·have h2p:=of_decide_eq_true h2;refine aZ<|aE<|bI<|aE<|cSR<|oR 6 rfl<|gN rfl<|gS rfl id<|gS rfl id<|gS rfl id<|gS rfl id<|gBS (x:=vN d.fetched.length) rfl id (bQ ftL d.fetched)<|gN rfl<|gS rfl id<|gS rfl id ?_;refine gS rfl id<|gS rfl id<|gS rfl id<|gBS (x:=vB (decide (((d.fetched.length:Nat):Int)≥d.conf.queue))) rfl hsT rfl<|cH rfl rfl rfl (by simp)<|rE 36 ?_;refine aU rfl (λ h3=>?_) (λ h3=>?_)
    ·have hst:(d.stop=true∨(d.fetched.length:Int)≥d.conf.queue):=by have z:=h3;simpa [c2o]using z
     refine cT ?_;have e0:dW c=eB W c:=by show (if c.halt≠0 then c else eB c.conf.width.toNat c)=_;rw[if_neg (λ q=>q h1p),hW];rfl
     have e:dW c=d:=by rw[e0, ←hG];exact rC hst
     rw[e];exact BB (rs:=[]) rfl (.step none (Ghost.of_lists (l:=[(0,.tup [])]) (hp:=[(0,.box (mcX (d) (.sl 17 xR kR) (.sl 2 (d.fetched.map ftL) false) (.sl 2 xS kS) (.sl 9 xT kT)))]) trivial ⟨.refl _,trivial⟩ ⟨⟨trivial,_,rfl,LeB.boxL (nN (.refl _) (.clip _ _) (.refl _) (.refl _))⟩,trivial⟩) (.refl _)) (r:=.tup []) (σ:=λ z=>z) ⟨rfl,rfl⟩ rfl (eX (λ z=>z) rfl rfl wH rfl)
    ·have hst: ¬ (d.stop=true∨(d.fetched.length:Int)≥d.conf.queue):=by have z:=h3;simpa [c2o]using z
     have hfl:d.fetched.length≤3:=by have:=oQ hd.cf;omega
     refine aZ<|cSR<|oR 10 rfl<|rCi rfl (Po d.prog d.fetch false hd.ok.progo (by have:=hd.prog;omega) hd.ok.fetch)<|oR 5 rfl<|rE 52<|aE<|cSR<|oR 2 rfl<|rE 54 ?_;refine aU rfl (λ h4=>?_) (λ h4=>?_)
     ·refine cSR<|oR 16 rfl ?_;have b1:(d.fetch+4) % 4294967296≤4294967295:=aT (bG _ (by decide));refine rV (vU ((d.fetch+4) % 4294967296)) rfl<|rV (.agg [vU d.fetch,vU ((d.fetch+4) % 4294967296)]) rfl<|rV (.sl 2 ([[vU d.fetch,vU ((d.fetch+4) % 4294967296)]]) true) rfl<|rFx (x:=.osl 73 0 (d.fetched.length+1) false) (h':=upd _ 73 (some (.arr ((d.fetched++([(⟨d.fetch,(d.fetch+4) % 4294967296⟩:Ft)])).map ftL) 2))) rfl rfl (zH ftL d.fetched ([(⟨d.fetch,(d.fetch+4) % 4294967296⟩:Ft)]) omT) (⟨by exact omT,by exact omT,trivial,trivial⟩)<|oR 3 rfl<|rSx 0 (mcX d (.sl 17 xR kR) (.osl 73 0 (d.fetched.length+1) false) (.sl 2 xS kS) (.sl 9 xT kT)) rfl rfl rfl<|rE 78<|cSR<|oR 4 rfl<|rSx 0 (mcX ({d with stop:=true}:Co) (.sl 17 xR kR) (.osl 73 0 (d.fetched.length+1) false) (.sl 2 xS kS) (.sl 9 xT kT)) rfl rfl rfl<|rE 83<|cT ?_;have e0:dW c=eB W c:=by show (if c.halt≠0 then c else eB c.conf.width.toNat c)=_;rw[if_neg (λ q=>q h1p),hW];rfl
      have e:dW c={d with fetched:=d.fetched++[⟨d.fetch,up4 d.fetch⟩],stop:=true}:=by rw[e0, ←hG];exact tI omT hst (DL h4)
      rw[e];exact BB (rs:=[]) rfl (.step (some (73,2,(d.fetched++([(⟨d.fetch,(d.fetch+4) % 4294967296⟩:Ft)])).map ftL)) (Ghost.of_lists (l:=[(0,.tup [])]) (hp:=[(0,.box (mcX ({d with fetched:=d.fetched++[⟨d.fetch,up4 d.fetch⟩],stop:=true}) (.sl 17 xR kR) (.sl 2 ((d.fetched++([(⟨d.fetch,(d.fetch+4) % 4294967296⟩:Ft)])).map ftL) false) (.sl 2 xS kS) (.sl 9 xT kT)))]) rfl ⟨.refl _,trivial⟩ ⟨⟨rfl,_,rfl,LeB.boxL (nN (.refl _) (lD (by exact omT)) (.refl _) (.refl _))⟩,trivial⟩) (.refl _)) (r:=.tup []) (σ:=λ z=>z) ⟨rfl,rfl⟩ rfl (eX (λ z=>z) rfl rfl wH rfl)
     ·refine aZ<|cSR<|oR 5 rfl<|rCi rfl (qD d.fetch hd.ok.fetch)<|oR 1 rfl<|rE 61<|aE<|cSR<|oR 6 rfl<|rCi rfl (xM d.words (lineOf d.fetch) hd.ok.words (dF hd.ok.fetch))<|oR 7 rfl<|rE 75<|cSR ?_;refine oR 2 rfl<|rE 77 ?_;refine aU rfl (λ h5=>?_) (λ h5=>?_)
      ·refine aE<|cSR<|oR 6 rfl<|rV (.sl 1 ([[vI 2]]) true) rfl<|rCl (x:=vB (CW d.bus (lineOf d.fetch) 2)) rfl (.inl rfl) ((show bY C0 _ [_,_,.sl 1 ([(2:Int)].map fD) true] _ from by rw[←Iq];exact PH d.bus (lineOf d.fetch) [2] false true (by have:=hd.bus;omega) (λ x hx=>(hd.ok.buso x hx).line) (dF hd.ok.fetch) (by decide)))<|oR 2 rfl<|gN rfl<|jI (args:=[.ptr 0 0,vB false]) (x:=vB (pW d false)) (g:= !(CW d.bus (lineOf d.fetch) 2)) rfl rfl rfl rfl (λ h=>h) rfl rfl rfl (.inr ⟨rfl,⟨trivial,trivial,trivial⟩⟩) rfl (λ hg=>Rb d nb hd (.sl 17 xR kR) (.sl 2 (d.fetched.map ftL) true) (.sl 2 xS kS) (.sl 9 xT kT) false)<|cH rfl rfl rfl (λ h=>h)<|rE 90 ?_;refine aU rfl (λ h6=>?_) (λ h6=>?_)
       ·have hra:(CW d.bus (lineOf d.fetch) 2=false∧pW d false=true):=by have z:=h6;simpa [c2a]using z
        refine cRg<|oR 2 rfl<|eE (args:=[.ptr 0 0,vI 2,vU (lineOf d.fetch),.v (.string (⟨#[]⟩:ByteArray))]) (d:=120) _ rfl rfl rfl ((Vv d nb hd 2 (lineOf d.fetch) mH (dF hd.ok.fetch) kR xR true (d.fetched.map ftL) kS xS kT xT).frameB (λ z=>z) _ _ rfl ⟨⟨rfl,rfl,rfl,rfl⟩,trivial⟩ rfl rfl rfl rfl) ?_;rintro _ _ ⟨rfl,rfl⟩;refine rE 93<|cT ?_;have e0:dW c=eB W c:=by show (if c.halt≠0 then c else eB c.conf.width.toNat c)=_;rw[if_neg (λ q=>q h1p),hW];rfl
        have e:dW c=iF d 2 (lineOf d.fetch) mH:=by rw[e0, ←hG];exact (oP omT hst (qU h4) (DL h5)).trans (if_pos hra)
        rw[e];exact BB (rs:=[]) rfl (.step none (Ghost.of_lists (l:=[(0,.tup [])]) (hp:=[(0,.box (mcX (iF d 2 (lineOf d.fetch) mH) (.sl 17 xR kR) (.sl 2 (d.fetched.map ftL) false) (.sl 2 xS kS) (.sl 9 xT kT)))]) trivial ⟨.refl _,trivial⟩ ⟨⟨trivial,_,rfl,LeB.boxL (nN (.refl _) (.clip _ _) (.refl _) (.refl _))⟩,trivial⟩) (.refl _)) (r:=.tup []) (σ:=λ z=>z) ⟨rfl,rfl⟩ rfl (eX (λ z=>z) rfl rfl wH rfl)
       ·have hra: ¬ (CW d.bus (lineOf d.fetch) 2=false∧pW d false=true):=by have z:=h6;simpa [c2a]using z
        refine aZ<|cT ?_;have e0:dW c=eB W c:=by show (if c.halt≠0 then c else eB c.conf.width.toNat c)=_;rw[if_neg (λ q=>q h1p),hW];rfl
        have e:dW c=d:=by rw[e0, ←hG];exact (oP omT hst (qU h4) (DL h5)).trans (if_neg hra)
        rw[e];exact BB (rs:=[]) rfl (.step none (Ghost.of_lists (l:=[(0,.tup [])]) (hp:=[(0,.box (mcX (d) (.sl 17 xR kR) (.sl 2 (d.fetched.map ftL) false) (.sl 2 xS kS) (.sl 9 xT kT)))]) trivial ⟨.refl _,trivial⟩ ⟨⟨trivial,_,rfl,LeB.boxL (nN (.refl _) (.clip _ _) (.refl _) (.refl _))⟩,trivial⟩) (.refl _)) (r:=.tup []) (σ:=λ z=>z) ⟨rfl,rfl⟩ rfl (eX (λ z=>z) rfl rfl wH rfl)
      ·refine aZ<|cSR<|oR 7 rfl<|rCi rfl (GF d.words (lineOf d.fetch) hd.ok.words (dF hd.ok.fetch))<|oR 3 rfl<|rSx 0 (mcX ({d with words:=(sK d.words (lineOf d.fetch))}:Co) (.sl 17 xR kR) (.sl 2 (d.fetched.map ftL) true) (.sl 2 xS kS) (.sl 9 xT kT)) rfl rfl rfl<|rE 89<|cSR<|oR 2 rfl<|eE (args:=[.ptr 0 0,vU (fetchW d.prog d.fetch)]) (d:=134) _ rfl rfl rfl ((TA (gP d) nb (zX hd) (fetchW d.prog d.fetch) (JW hd.ok.progo d.fetch) kR xR true (d.fetched.map ftL) kS xS kT xT).frameB (λ z=>z) _ _ rfl ⟨⟨rfl,rfl,rfl,rfl⟩,trivial⟩ rfl rfl rfl rfl) ?_;rintro _ _ ⟨rfl,rfl⟩;refine oR 1 rfl<|rE 93<|cSR<|oR 12 rfl<|rV (.agg [vU ((cN (gP d) (fetchW d.prog d.fetch)).1.fetch),vU ((cN (gP d) (fetchW d.prog d.fetch)).2)]) rfl<|rV (.sl 2 ([[vU ((cN (gP d) (fetchW d.prog d.fetch)).1.fetch),vU ((cN (gP d) (fetchW d.prog d.fetch)).2)]]) true) rfl<|rFx (x:=.osl 107 0 (d.fetched.length+1) false) (h':=upd _ 107 (some (.arr ((d.fetched++([(⟨(cN (gP d) (fetchW d.prog d.fetch)).1.fetch,(cN (gP d) (fetchW d.prog d.fetch)).2⟩:Ft)])).map ftL) 2))) rfl rfl (zH ftL d.fetched ([(⟨(cN (gP d) (fetchW d.prog d.fetch)).1.fetch,(cN (gP d) (fetchW d.prog d.fetch)).2⟩:Ft)]) omT) (⟨by exact omT,by exact omT,trivial,trivial⟩)<|oR 3 rfl<|rSx 0 (mcX ((cN (gP d) (fetchW d.prog d.fetch)).1) (.sl 17 xR kR) (.osl 107 0 (d.fetched.length+1) false) (.sl 2 xS kS) (.sl 9 xT kT)) rfl rfl rfl<|rE 112<|cRg<|oR 5 rfl<|rSx 0 (mcX ({ (cN (gP d) (fetchW d.prog d.fetch)).1 with fetch:=(cN (gP d) (fetchW d.prog d.fetch)).2}:Co) (.sl 17 xR kR) (.osl 107 0 (d.fetched.length+1) false) (.sl 2 xS kS) (.sl 9 xT kT)) rfl rfl rfl<|rE 118<|cRg ?_;have b2:k+1≤3:=aH hkB (aC 1);refine rW (vN (k+1)) rfl (okI (bS b2 rfl))<|oR 1 rfl<|rE 120 ?_;refine .mk _ (.refl _) ⟨(k+1,wN d,true),λ i=>match i with|14=>107|i=>i,Weak.of_lists _ wT ⟨⟨rfl,(congrArg (λ z:Nat=>some (Blk.box (mcX (wN d) (.sl 17 xR kR) (.osl 107 0 z false) (.sl 2 xS kS) (.sl 9 xT kT)))) (show d.fetched.length+1=(wN d).fetched.length from by rw[sT];simp)),rfl⟩,⟨rfl,(congrArg (λ z:List Ft=>some (Blk.arr (z.map ftL) 2)) (sT d).symm),rfl⟩,trivial⟩ rfl,rfl,⟨by omega,BN hd omT,(uN omT hst (qU h4) (qU h5)).trans hG⟩,by show W - (k+1)<W - k;omega⟩
   ·have h2p:=aD h2;refine eA ?_;have e0:dW c=eB W c:=by show (if c.halt≠0 then c else eB c.conf.width.toNat c)=_;rw[if_neg (λ q=>q h1p),hW];rfl
    have e:dW c=d:=by rw[e0, ←hG];rw[show W - k=0 by omega];rfl
    rw[e];exact BB (rs:=[]) rfl (.step none (Ghost.of_lists (l:=[(0,.tup [])]) (hp:=[(0,.box (mcX (d) (.sl 17 xR kR) (.sl 2 (d.fetched.map ftL) false) (.sl 2 xS kS) (.sl 9 xT kT)))]) trivial ⟨.refl _,trivial⟩ ⟨⟨trivial,_,rfl,LeB.boxL (nN (.refl _) (.clip _ _) (.refl _) (.refl _))⟩,trivial⟩) (.refl _)) (r:=.tup []) (σ:=λ z=>z) ⟨rfl,rfl⟩ rfl (eX (λ z=>z) rfl rfl wH rfl)
  ·have hkn:k≤W:=hk.1;have hkB:k≤2:=by omega
   have hd:d.okM nb:=hk.2.1;have hG:eB (W - k) d=eB W c:=hk.2.2;refine cSR<|rV (vB (decide ((k:Int)<c.conf.width))) rfl<|rE 16<|aE ?_;refine aU rfl (λ h7=>?_) (λ h7=>?_)
   ·have h7p:=of_decide_eq_true h7;refine aZ<|aE<|bI<|aE<|cSR<|oR 6 rfl<|gN rfl<|gS rfl id<|gS rfl id<|gS rfl id<|gS rfl id<|gBS (x:=vI (d.fetched.length:Int)) rfl id rfl<|gN rfl<|gS rfl id<|gS rfl id ?_;refine gS rfl id<|gS rfl id<|gS rfl id<|gBS (x:=vB (decide ((d.fetched.length:Int)≥d.conf.queue))) rfl hsT rfl<|cH rfl rfl rfl (by simp)<|rE 36 ?_;refine aU rfl (λ h8=>?_) (λ h8=>?_)
    ·have hst:(d.stop=true∨(d.fetched.length:Int)≥d.conf.queue):=by have z:=h8;simpa [c2o]using z
     refine cT ?_;have e0:dW c=eB W c:=by show (if c.halt≠0 then c else eB c.conf.width.toNat c)=_;rw[if_neg (λ q=>q h1p),hW];rfl
     have e:dW c=d:=by rw[e0, ←hG];exact rC hst
     rw[e];exact BB (rs:=[]) rfl (.step (some (14,2,d.fetched.map ftL)) (Ghost.of_lists (l:=[(0,.tup [])]) (hp:=[(0,.box (mcX (d) (.sl 17 xR kR) (.sl 2 (d.fetched.map ftL) false) (.sl 2 xS kS) (.sl 9 xT kT)))]) rfl ⟨.refl _,trivial⟩ ⟨⟨rfl,_,rfl,LeB.boxL (nN (.refl _) (lD (by exact omT)) (.refl _) (.refl _))⟩,trivial⟩) (.refl _)) (r:=.tup []) (σ:=λ z=>z) ⟨rfl,rfl⟩ rfl (eX (λ z=>z) rfl rfl wH rfl)
    ·have hst: ¬ (d.stop=true∨(d.fetched.length:Int)≥d.conf.queue):=by have z:=h8;simpa [c2o]using z
     have hfl:d.fetched.length≤3:=by have:=oQ hd.cf;omega
     refine aZ<|cSR<|oR 10 rfl<|rCi rfl (Po d.prog d.fetch false hd.ok.progo (by have:=hd.prog;omega) hd.ok.fetch)<|oR 5 rfl<|rE 52<|aE<|cSR<|oR 2 rfl<|rE 54 ?_;refine aU rfl (λ h9=>?_) (λ h9=>?_)
     ·refine cSR<|oR 16 rfl ?_;have b3:(d.fetch+4) % 4294967296≤4294967295:=aT (bG _ (by decide));refine rV (vU ((d.fetch+4) % 4294967296)) rfl<|rV (.agg [vU d.fetch,vU ((d.fetch+4) % 4294967296)]) rfl<|rV (.sl 2 ([[vU d.fetch,vU ((d.fetch+4) % 4294967296)]]) true) rfl<|rFx (x:=.osl 73 0 (d.fetched.length+1) false) (h':=upd (upd _ 14 none) 73 (some (.arr ((d.fetched++([(⟨d.fetch,(d.fetch+4) % 4294967296⟩:Ft)])).map ftL) 2))) rfl rfl (gU ftL d.fetched ([(⟨d.fetch,(d.fetch+4) % 4294967296⟩:Ft)]) omT omT) (⟨by exact omT,by exact omT,trivial⟩)<|oR 3 rfl<|rSx 0 (mcX d (.sl 17 xR kR) (.osl 73 0 (d.fetched.length+1) false) (.sl 2 xS kS) (.sl 9 xT kT)) rfl rfl rfl<|rE 78<|cSR<|oR 4 rfl<|rSx 0 (mcX ({d with stop:=true}:Co) (.sl 17 xR kR) (.osl 73 0 (d.fetched.length+1) false) (.sl 2 xS kS) (.sl 9 xT kT)) rfl rfl rfl<|rE 83<|cT ?_;have e0:dW c=eB W c:=by show (if c.halt≠0 then c else eB c.conf.width.toNat c)=_;rw[if_neg (λ q=>q h1p),hW];rfl
      have e:dW c={d with fetched:=d.fetched++[⟨d.fetch,up4 d.fetch⟩],stop:=true}:=by rw[e0, ←hG];exact tI omT hst (DL h9)
      rw[e];exact BB (rs:=[]) rfl (.step (some (73,2,(d.fetched++([(⟨d.fetch,(d.fetch+4) % 4294967296⟩:Ft)])).map ftL)) (Ghost.of_lists (l:=[(0,.tup [])]) (hp:=[(0,.box (mcX ({d with fetched:=d.fetched++[⟨d.fetch,up4 d.fetch⟩],stop:=true}) (.sl 17 xR kR) (.sl 2 ((d.fetched++([(⟨d.fetch,(d.fetch+4) % 4294967296⟩:Ft)])).map ftL) false) (.sl 2 xS kS) (.sl 9 xT kT)))]) rfl ⟨.refl _,trivial⟩ ⟨⟨rfl,_,rfl,LeB.boxL (nN (.refl _) (lD (by exact omT)) (.refl _) (.refl _))⟩,trivial⟩) (.refl _)) (r:=.tup []) (σ:=λ z=>z) ⟨rfl,rfl⟩ rfl (eX (λ z=>z) rfl rfl wH rfl)
     ·refine aZ<|cSR<|oR 5 rfl<|rCi rfl (qD d.fetch hd.ok.fetch)<|oR 1 rfl<|rE 61<|aE<|cSR<|oR 6 rfl<|rCi rfl (xM d.words (lineOf d.fetch) hd.ok.words (dF hd.ok.fetch))<|oR 7 rfl<|rE 75<|cSR ?_;refine oR 2 rfl<|rE 77 ?_;refine aU rfl (λ h10=>?_) (λ h10=>?_)
      ·refine aE<|cSR<|oR 6 rfl<|rV (.sl 1 ([[vI 2]]) true) rfl<|rCl (x:=vB (CW d.bus (lineOf d.fetch) 2)) rfl (.inl rfl) ((show bY C0 _ [_,_,.sl 1 ([(2:Int)].map fD) true] _ from by rw[←Iq];exact PH d.bus (lineOf d.fetch) [2] false true (by have:=hd.bus;omega) (λ x hx=>(hd.ok.buso x hx).line) (dF hd.ok.fetch) (by decide)))<|oR 2 rfl<|gN rfl<|jI (args:=[.ptr 0 0,vB false]) (x:=vB (pW d false)) (g:= !(CW d.bus (lineOf d.fetch) 2)) rfl rfl rfl rfl (λ h=>h) rfl rfl rfl (.inr ⟨rfl,⟨trivial,trivial,trivial⟩⟩) rfl (λ hg=>Rb d nb hd (.sl 17 xR kR) .any (.sl 2 xS kS) (.sl 9 xT kT) false)<|cH rfl rfl rfl (λ h=>h)<|rE 90 ?_;refine aU rfl (λ h11=>?_) (λ h11=>?_)
       ·have hra:(CW d.bus (lineOf d.fetch) 2=false∧pW d false=true):=by have z:=h11;simpa [c2a]using z
        refine cRg<|oR 2 rfl<|eE (args:=[.ptr 0 0,vI 2,vU (lineOf d.fetch),.v (.string (⟨#[]⟩:ByteArray))]) (d:=120) _ rfl rfl rfl ((WW d nb hd 2 (lineOf d.fetch) mH (dF hd.ok.fetch) kR xR 0 d.fetched.length false (d.fetched.map ftL) kS xS kT xT).frameB (λ z=>match z with|1=>14|z=>z) _ _ rfl ⟨⟨rfl,rfl,rfl,rfl⟩,⟨rfl,rfl,rfl,rfl⟩,trivial⟩ rfl rfl rfl rfl) ?_;rintro _ _ ⟨rfl,rfl⟩;refine rE 93<|cT ?_;have e0:dW c=eB W c:=by show (if c.halt≠0 then c else eB c.conf.width.toNat c)=_;rw[if_neg (λ q=>q h1p),hW];rfl
        have e:dW c=iF d 2 (lineOf d.fetch) mH:=by rw[e0, ←hG];exact (oP omT hst (qU h9) (DL h10)).trans (if_pos hra)
        rw[e];exact BB (rs:=[]) rfl (.step (some (14,2,d.fetched.map ftL)) (Ghost.of_lists (l:=[(0,.tup [])]) (hp:=[(0,.box (mcX (iF d 2 (lineOf d.fetch) mH) (.sl 17 xR kR) (.sl 2 (d.fetched.map ftL) false) (.sl 2 xS kS) (.sl 9 xT kT)))]) rfl ⟨.refl _,trivial⟩ ⟨⟨rfl,_,rfl,LeB.boxL (nN (.refl _) (lD (by exact omT)) (.refl _) (.refl _))⟩,trivial⟩) (.refl _)) (r:=.tup []) (σ:=λ z=>z) ⟨rfl,rfl⟩ rfl (eX (λ z=>z) rfl rfl wH rfl)
       ·have hra: ¬ (CW d.bus (lineOf d.fetch) 2=false∧pW d false=true):=by have z:=h11;simpa [c2a]using z
        refine aZ<|cT ?_;have e0:dW c=eB W c:=by show (if c.halt≠0 then c else eB c.conf.width.toNat c)=_;rw[if_neg (λ q=>q h1p),hW];rfl
        have e:dW c=d:=by rw[e0, ←hG];exact (oP omT hst (qU h9) (DL h10)).trans (if_neg hra)
        rw[e];exact BB (rs:=[]) rfl (.step (some (14,2,d.fetched.map ftL)) (Ghost.of_lists (l:=[(0,.tup [])]) (hp:=[(0,.box (mcX (d) (.sl 17 xR kR) (.sl 2 (d.fetched.map ftL) false) (.sl 2 xS kS) (.sl 9 xT kT)))]) rfl ⟨.refl _,trivial⟩ ⟨⟨rfl,_,rfl,LeB.boxL (nN (.refl _) (lD (by exact omT)) (.refl _) (.refl _))⟩,trivial⟩) (.refl _)) (r:=.tup []) (σ:=λ z=>z) ⟨rfl,rfl⟩ rfl (eX (λ z=>z) rfl rfl wH rfl)
      ·refine aZ<|cSR<|oR 7 rfl<|rCi rfl (GF d.words (lineOf d.fetch) hd.ok.words (dF hd.ok.fetch))<|oR 3 rfl<|rSx 0 (mcX ({d with words:=(sK d.words (lineOf d.fetch))}:Co) (.sl 17 xR kR) (.osl 14 0 d.fetched.length false) (.sl 2 xS kS) (.sl 9 xT kT)) rfl rfl rfl<|rE 89<|cSR<|oR 2 rfl<|eE (args:=[.ptr 0 0,vU (fetchW d.prog d.fetch)]) (d:=134) _ rfl rfl rfl ((QY (gP d) nb (zX hd) (fetchW d.prog d.fetch) (JW hd.ok.progo d.fetch) kR xR 0 d.fetched.length false (d.fetched.map ftL) kS xS kT xT).frameB (λ z=>match z with|1=>14|z=>z) _ _ rfl ⟨⟨rfl,rfl,rfl,rfl⟩,⟨rfl,rfl,rfl,rfl⟩,trivial⟩ rfl rfl rfl rfl) ?_;rintro _ _ ⟨rfl,rfl⟩;refine oR 1 rfl<|rE 93<|cSR<|oR 12 rfl<|rV (.agg [vU ((cN (gP d) (fetchW d.prog d.fetch)).1.fetch),vU ((cN (gP d) (fetchW d.prog d.fetch)).2)]) rfl<|rV (.sl 2 ([[vU ((cN (gP d) (fetchW d.prog d.fetch)).1.fetch),vU ((cN (gP d) (fetchW d.prog d.fetch)).2)]]) true) rfl<|rFx (x:=.osl 107 0 (d.fetched.length+1) false) (h':=upd (upd _ 14 none) 107 (some (.arr ((d.fetched++([(⟨(cN (gP d) (fetchW d.prog d.fetch)).1.fetch,(cN (gP d) (fetchW d.prog d.fetch)).2⟩:Ft)])).map ftL) 2))) rfl rfl (gU ftL d.fetched ([(⟨(cN (gP d) (fetchW d.prog d.fetch)).1.fetch,(cN (gP d) (fetchW d.prog d.fetch)).2⟩:Ft)]) omT omT) (⟨by exact omT,by exact omT,trivial⟩)<|oR 3 rfl<|rSx 0 (mcX ((cN (gP d) (fetchW d.prog d.fetch)).1) (.sl 17 xR kR) (.osl 107 0 (d.fetched.length+1) false) (.sl 2 xS kS) (.sl 9 xT kT)) rfl rfl rfl<|rE 112<|cRg<|oR 5 rfl<|rSx 0 (mcX ({ (cN (gP d) (fetchW d.prog d.fetch)).1 with fetch:=(cN (gP d) (fetchW d.prog d.fetch)).2}:Co) (.sl 17 xR kR) (.osl 107 0 (d.fetched.length+1) false) (.sl 2 xS kS) (.sl 9 xT kT)) rfl rfl rfl<|rE 118<|cRg ?_;have b4:k+1≤3:=aH hkB (aC 1);refine rW (vN (k+1)) rfl (okI (bS b4 rfl))<|oR 1 rfl<|rE 120 ?_;refine .mk _ (.refl _) ⟨(k+1,wN d,true),λ i=>match i with|14=>107|i=>i,Weak.of_lists _ wT ⟨⟨rfl,(congrArg (λ z:Nat=>some (Blk.box (mcX (wN d) (.sl 17 xR kR) (.osl 107 0 z false) (.sl 2 xS kS) (.sl 9 xT kT)))) (show d.fetched.length+1=(wN d).fetched.length from by rw[sT];simp)),rfl⟩,⟨rfl,(congrArg (λ z:List Ft=>some (Blk.arr (z.map ftL) 2)) (sT d).symm),rfl⟩,trivial⟩ rfl,rfl,⟨by omega,BN hd omT,(uN omT hst (qU h9) (qU h10)).trans hG⟩,by show W - (k+1)<W - k;omega⟩
   ·have h7p:=aD h7;refine eA ?_;have e0:dW c=eB W c:=by show (if c.halt≠0 then c else eB c.conf.width.toNat c)=_;rw[if_neg (λ q=>q h1p),hW];rfl
    have e:dW c=d:=by rw[e0, ←hG];rw[show W - k=0 by omega];rfl
    rw[e];exact BB (rs:=[]) rfl (.step (some (14,2,d.fetched.map ftL)) (Ghost.of_lists (l:=[(0,.tup [])]) (hp:=[(0,.box (mcX (d) (.sl 17 xR kR) (.sl 2 (d.fetched.map ftL) false) (.sl 2 xS kS) (.sl 9 xT kT)))]) rfl ⟨.refl _,trivial⟩ ⟨⟨rfl,_,rfl,LeB.boxL (nN (.refl _) (lD (by exact omT)) (.refl _) (.refl _))⟩,trivial⟩) (.refl _)) (r:=.tup []) (σ:=λ z=>z) ⟨rfl,rfl⟩ rfl (eX (λ z=>z) rfl rfl wH rfl)
theorem Of{no:Int}{f:Ft}{prog:List Nat}(hf:f.ok):(pN no f prog).ok:=by
 have hi:(fS (fetchW prog f.pc)).imm≤4294967295:=aT (GW _);unfold pN
 repeat' split
 all_goals first|exact⟨hf.pc,aF _,hf.guess,aF _,aF _,aF _⟩|exact⟨hf.pc,hi,hf.guess,aF _,yJ _,aF _⟩|exact⟨hf.pc,hi,hf.guess,aF _,aF _,aF _⟩|exact⟨hf.pc,hi,hf.guess,aF _,hf.pc,aF _⟩
def Fl(d:Co)(f:Ft):Co:={d with rob:=d.rob++[pN d.next f d.prog],next:=wrap64 (d.next+1),fetched:=d.fetched.drop 1}
theorem tH{d:Co}{n:Nat}(h:(d.rob.length:Int)≥d.conf.rob∨d.fetched.length=0):jL n d=d:=by
 cases n with
 |zero=>rfl
 | succ n=>
  unfold jL;by_cases h1:(d.rob.length:Int)≥d.conf.rob
  ·exact if_pos h1
  ·rw[if_neg h1];have hz:d.fetched=[]:=bF (h.resolve_left h1);rw[hz]
theorem wM{d:Co}{n k:Nat}{f:Ft}(hn:k<n)(h: ¬ (d.rob.length:Int)≥d.conf.rob)(hf:d.fetched[0]?=some f):jL (n - (k+1)) (Fl d f)=jL (n - k) d:=by
 rw[show n - k=(n - (k+1))+1 by omega]
 conv=>rhs;unfold jL
 rw[if_neg h];unfold Fl
 cases hz:d.fetched with
 |nil=>rw[hz]at hf;cases hf
 |cons y l=>rw[hz]at hf;injection hf with hf;subst hf;rfl
theorem BM{c:Co}{n:Nat}{f:Ft}(h:c.okM n)(hf:f.ok)(hr:c.rob.length≤999):(Fl c f).okM n:=by
 have hl:(c.rob++[pN c.next f c.prog]).length≤1000:=by simp;omega
 have hd:(c.fetched.drop 1).length≤1000:=by have:=h.fet;rw[bA];omega
 exact⟨⟨h.ok.conf,h.ok.prog,h.ok.progo,h.ok.r,h.ok.fetch,aL hd (by decide),GJ h.ok.feto,aL hl (by decide),nQ h.ok.robo (nU (P:=Ent.ok) (Of hf)),h.ok.sto,h.ok.stoo,h.ok.data,h.ok.words,h.ok.bus,h.ok.buso,h.ok.asked,h.ok.guessed,h.ok.mem,h.ok.guess,h.ok.ret,h.ok.reto⟩,h.nb,h.cf,h.data,h.words,h.guess,hl,hd,h.sto,h.prog,h.mem,h.std⟩
theorem Sz(rob:List Ent)(ck:Bool)(no:Int)(f:Ft)(prog:List Nat)(hl:rob.length≤1000)(ho:∀ x∈rob,x.ok)(hf:f.ok)(hp:∀ x∈prog,x≤4294967295)(hpl:prog.length≤1000000):bY C0 112 [.sl 17 (rob.map enL) ck,vI no,.agg (ftL f),.sl 1 (prog.map eJ) false] (.sl 17 ((rob++[pN no f prog]).map enL) false):=by
 refine dc1 (bY.intro c1Ok Tryz.func112 rfl rfl (by kernel_rfl) rfl ?_);refine cSR<|rAl 0 rfl rfl<|oR 1 rfl<|rE 2<|cSR<|oR 5 rfl<|rV (.agg [vI no,vU f.pc,vI 0,vI 0,vI 0,vI 0,zU,vU f.guess,vI 0,vI 0,zU,zU,zU,vI 0,vI 0,vB false,vB false]) rfl<|rAl 8 rfl rfl<|rSt rfl<|rE 10<|cSR<|oR 3 rfl<|rCi rfl (Po prog f.pc false hp hpl hf.pc) ?_;refine oR 5 rfl<|rE 19<|cSR<|oR 1 rfl<|rCi rfl (Kk (fetchW prog f.pc) (BA (JW hp f.pc)))<|oR 3 rfl<|rAl 24 rfl rfl<|rSt rfl<|oR 1 rfl<|rE 27<|aE<|bI<|cSR<|oR 3 rfl ?_;refine rE 30 ?_;refine aU rfl (λ h1=>?_) (λ h1=>?_)
 ·refine cRg<|oR 1 rfl<|rSt rfl<|rE 32<|aE<|cSR<|oR 2 rfl<|rV (vB (1 != 0)) rfl<|rE 35 ?_;refine aU rfl (λ _=>?_) (λ h2=>by exact absurd h2 (by decide));refine cRg<|oR 1 rfl<|rSt rfl<|rE 37<|cSR<|oR 2 rfl<|rW (vN rob.length) rfl (bQ enL rob)<|oR 1 rfl<|rW (vN rob.length) rfl (bQ enL rob) ?_;refine nW (.sl 17 ((rob.take rob.length).map enL) true) rfl (vX (tT enL rob rob.length)) (by refine⟨?_,?_,?_,?_⟩;all_goals (first|exact aI _|decide|(apply Eo.2;exact omT)|(show (_:Int)=(_:Int);congr 1;omega)|rfl)) ?_;refine oR 1 rfl<|rV (.sl 17 ([[vI no,vU f.pc,vI 0,vI 0,vI 0,vI 0,zU,vU f.guess,vI 3,vI 0,zU,zU,zU,vI 1,vI 0,vB false,vB false]]) true) rfl<|rFx (x:=.osl 45 0 (rob.length+1) false) (h':=upd _ 45 (some (.arr (((rob.take rob.length)++([(⟨no,f.pc,⟨0,0,0,0,0⟩,f.guess,3,0,0,0,0,1,0,false,false⟩:Ent)])).map enL) 17))) rfl rfl (zH enL (rob.take rob.length) ([(⟨no,f.pc,⟨0,0,0,0,0⟩,f.guess,3,0,0,0,0,1,0,false,false⟩:Ent)]) omT) (⟨by exact omT,by exact omT,trivial,trivial⟩)<|oR 1 rfl<|rE 47<|cT ?_;have e:(⟨no,f.pc,⟨0,0,0,0,0⟩,f.guess,3,0,0,0,0,1,0,false,false⟩:Ent)=pN no f prog:=by unfold pN;rw[if_pos (DL h1)];rfl
  refine eW rfl (by show 0+(rob.length+1)≤(((rob.take rob.length)++([(⟨no,f.pc,⟨0,0,0,0,0⟩,f.guess,3,0,0,0,0,1,0,false,false⟩:Ent)])).map enL).length;exact omT) rfl ?_;show AV.sl 17 (List.take (rob.length+1) (List.drop 0 (((rob.take rob.length)++([(⟨no,f.pc,⟨0,0,0,0,0⟩,f.guess,3,0,0,0,0,1,0,false,false⟩:Ent)])).map enL))) false=_;rw[kA enL ((rob.take rob.length)++([(⟨no,f.pc,⟨0,0,0,0,0⟩,f.guess,3,0,0,0,0,1,0,false,false⟩:Ent)])) omT];rw[e,dI]
 ·refine cSR<|oR 1 rfl<|rW (vB ((decE (fetchW prog f.pc)) != 0)) rfl (okB (neN _ _))<|oR 1 rfl<|rE 33 ?_;refine aU rfl (λ h3=>?_) (λ h3=>?_)
  ·have h3p:=vA h3;refine cRg<|oR 1 rfl<|rSt rfl<|rE 35<|aE<|cSR<|oR 2 rfl<|rV (vB (2 != 0)) rfl<|rE 38 ?_;refine aU rfl (λ _=>?_) (λ h4=>by exact absurd h4 (by decide));refine cRg<|oR 1 rfl<|rSt rfl<|rE 40<|cSR<|oR 2 rfl<|rW (vN rob.length) rfl (bQ enL rob)<|oR 1 rfl<|rW (vN rob.length) rfl (bQ enL rob) ?_;refine nW (.sl 17 ((rob.take rob.length).map enL) true) rfl (vX (tT enL rob rob.length)) (by refine⟨?_,?_,?_,?_⟩;all_goals (first|exact aI _|decide|(apply Eo.2;exact omT)|(show (_:Int)=(_:Int);congr 1;omega)|rfl)) ?_;refine oR 1 rfl<|rV (.sl 17 ([[vI no,vU f.pc,vI 0,vI 0,vI 0,vI 0,zU,vU f.guess,vI 3,vI 0,zU,zU,zU,vI 2,vI 0,vB false,vB false]]) true) rfl<|rFx (x:=.osl 48 0 (rob.length+1) false) (h':=upd _ 48 (some (.arr (((rob.take rob.length)++([(⟨no,f.pc,⟨0,0,0,0,0⟩,f.guess,3,0,0,0,0,2,0,false,false⟩:Ent)])).map enL) 17))) rfl rfl (zH enL (rob.take rob.length) ([(⟨no,f.pc,⟨0,0,0,0,0⟩,f.guess,3,0,0,0,0,2,0,false,false⟩:Ent)]) omT) (⟨by exact omT,by exact omT,trivial,trivial⟩)<|oR 1 rfl<|rE 50<|cT ?_;have e:(⟨no,f.pc,⟨0,0,0,0,0⟩,f.guess,3,0,0,0,0,2,0,false,false⟩:Ent)=pN no f prog:=by unfold pN;rw[if_neg (qU h1),if_pos (by have q:=yB (fetchW prog f.pc);omega)];rfl
   refine eW rfl (by show 0+(rob.length+1)≤(((rob.take rob.length)++([(⟨no,f.pc,⟨0,0,0,0,0⟩,f.guess,3,0,0,0,0,2,0,false,false⟩:Ent)])).map enL).length;exact omT) rfl ?_;show AV.sl 17 (List.take (rob.length+1) (List.drop 0 (((rob.take rob.length)++([(⟨no,f.pc,⟨0,0,0,0,0⟩,f.guess,3,0,0,0,0,2,0,false,false⟩:Ent)])).map enL))) false=_;rw[kA enL ((rob.take rob.length)++([(⟨no,f.pc,⟨0,0,0,0,0⟩,f.guess,3,0,0,0,0,2,0,false,false⟩:Ent)])) omT];rw[e,dI]
  ·have h3p:=vC h3;refine cSR<|oR 2 rfl<|rSt rfl<|rE 36<|cSR<|oR 2 rfl<|rE 38<|bI<|cSR<|rV (vB (((fS (fetchW prog f.pc)).op)==47)) rfl<|oR 1 rfl<|rE 40 ?_;refine aU rfl (λ h5=>?_) (λ h5=>?_)
   ·have h5p:=kX h5;refine cRg<|oR 1 rfl<|rSt rfl<|rE 42<|aE<|cSR<|oR 2 rfl<|rV (vB (6 != 0)) rfl<|rE 45 ?_;refine aU rfl (λ _=>?_) (λ h6=>by exact absurd h6 (by decide));refine cRg<|oR 1 rfl<|rSt rfl<|rE 47<|cSR<|oR 2 rfl<|rW (vN rob.length) rfl (bQ enL rob)<|oR 1 rfl<|rW (vN rob.length) rfl (bQ enL rob) ?_;refine nW (.sl 17 ((rob.take rob.length).map enL) true) rfl (vX (tT enL rob rob.length)) (by refine⟨?_,?_,?_,?_⟩;all_goals (first|exact aI _|decide|(apply Eo.2;exact omT)|(show (_:Int)=(_:Int);congr 1;omega)|rfl)) ?_;refine oR 1 rfl<|rV (.sl 17 ([[vI no,vU f.pc,vI ((fS (fetchW prog f.pc)).op),vI ((fS (fetchW prog f.pc)).rd),vI ((fS (fetchW prog f.pc)).rs1),vI ((fS (fetchW prog f.pc)).rs2),vU ((fS (fetchW prog f.pc)).imm),vU f.guess,vI 3,vI 0,zU,zU,zU,vI 6,vI 0,vB false,vB false]]) true) rfl<|rFx (x:=.osl 55 0 (rob.length+1) false) (h':=upd _ 55 (some (.arr (((rob.take rob.length)++([(⟨no,f.pc,⟨(fS (fetchW prog f.pc)).op,(fS (fetchW prog f.pc)).rd,(fS (fetchW prog f.pc)).rs1,(fS (fetchW prog f.pc)).rs2,(fS (fetchW prog f.pc)).imm⟩,f.guess,3,0,0,0,0,6,0,false,false⟩:Ent)])).map enL) 17))) rfl rfl (zH enL (rob.take rob.length) ([(⟨no,f.pc,⟨(fS (fetchW prog f.pc)).op,(fS (fetchW prog f.pc)).rd,(fS (fetchW prog f.pc)).rs1,(fS (fetchW prog f.pc)).rs2,(fS (fetchW prog f.pc)).imm⟩,f.guess,3,0,0,0,0,6,0,false,false⟩:Ent)]) omT) (⟨by exact omT,by exact omT,trivial,trivial⟩)<|oR 1 rfl<|rE 57<|cT ?_;have e:(⟨no,f.pc,⟨(fS (fetchW prog f.pc)).op,(fS (fetchW prog f.pc)).rd,(fS (fetchW prog f.pc)).rs1,(fS (fetchW prog f.pc)).rs2,(fS (fetchW prog f.pc)).imm⟩,f.guess,3,0,0,0,0,6,0,false,false⟩:Ent)=pN no f prog:=by unfold pN;rw[if_neg (qU h1),if_neg ((yB _).1 h3p),if_pos h5p];rfl
    refine eW rfl (by show 0+(rob.length+1)≤(((rob.take rob.length)++([(⟨no,f.pc,⟨(fS (fetchW prog f.pc)).op,(fS (fetchW prog f.pc)).rd,(fS (fetchW prog f.pc)).rs1,(fS (fetchW prog f.pc)).rs2,(fS (fetchW prog f.pc)).imm⟩,f.guess,3,0,0,0,0,6,0,false,false⟩:Ent)])).map enL).length;exact omT) rfl ?_;show AV.sl 17 (List.take (rob.length+1) (List.drop 0 (((rob.take rob.length)++([(⟨no,f.pc,⟨(fS (fetchW prog f.pc)).op,(fS (fetchW prog f.pc)).rd,(fS (fetchW prog f.pc)).rs1,(fS (fetchW prog f.pc)).rs2,(fS (fetchW prog f.pc)).imm⟩,f.guess,3,0,0,0,0,6,0,false,false⟩:Ent)])).map enL))) false=_;rw[kA enL ((rob.take rob.length)++([(⟨no,f.pc,⟨(fS (fetchW prog f.pc)).op,(fS (fetchW prog f.pc)).rd,(fS (fetchW prog f.pc)).rs1,(fS (fetchW prog f.pc)).rs2,(fS (fetchW prog f.pc)).imm⟩,f.guess,3,0,0,0,0,6,0,false,false⟩:Ent)])) omT];rw[e,dI]
   ·have h5p:=kY h5;refine cSR<|rV (vB (((fS (fetchW prog f.pc)).op)==48)) rfl<|oR 1 rfl<|rE 42 ?_;refine aU rfl (λ h7=>?_) (λ h7=>?_)
    ·have h7p:=kX h7;refine cRg<|oR 1 rfl<|rSt rfl<|rE 44<|aE<|cSR<|oR 2 rfl<|rV (vB (7 != 0)) rfl<|rE 47 ?_;refine aU rfl (λ _=>?_) (λ h8=>by exact absurd h8 (by decide));refine cRg<|oR 1 rfl<|rSt rfl<|rE 49<|cSR<|oR 2 rfl<|rW (vN rob.length) rfl (bQ enL rob)<|oR 1 rfl<|rW (vN rob.length) rfl (bQ enL rob) ?_;refine nW (.sl 17 ((rob.take rob.length).map enL) true) rfl (vX (tT enL rob rob.length)) (by refine⟨?_,?_,?_,?_⟩;all_goals (first|exact aI _|decide|(apply Eo.2;exact omT)|(show (_:Int)=(_:Int);congr 1;omega)|rfl)) ?_;refine oR 1 rfl<|rV (.sl 17 ([[vI no,vU f.pc,vI ((fS (fetchW prog f.pc)).op),vI ((fS (fetchW prog f.pc)).rd),vI ((fS (fetchW prog f.pc)).rs1),vI ((fS (fetchW prog f.pc)).rs2),vU ((fS (fetchW prog f.pc)).imm),vU f.guess,vI 3,vI 0,zU,zU,zU,vI 7,vI 0,vB false,vB false]]) true) rfl<|rFx (x:=.osl 57 0 (rob.length+1) false) (h':=upd _ 57 (some (.arr (((rob.take rob.length)++([(⟨no,f.pc,⟨(fS (fetchW prog f.pc)).op,(fS (fetchW prog f.pc)).rd,(fS (fetchW prog f.pc)).rs1,(fS (fetchW prog f.pc)).rs2,(fS (fetchW prog f.pc)).imm⟩,f.guess,3,0,0,0,0,7,0,false,false⟩:Ent)])).map enL) 17))) rfl rfl (zH enL (rob.take rob.length) ([(⟨no,f.pc,⟨(fS (fetchW prog f.pc)).op,(fS (fetchW prog f.pc)).rd,(fS (fetchW prog f.pc)).rs1,(fS (fetchW prog f.pc)).rs2,(fS (fetchW prog f.pc)).imm⟩,f.guess,3,0,0,0,0,7,0,false,false⟩:Ent)]) omT) (⟨by exact omT,by exact omT,trivial,trivial⟩)<|oR 1 rfl<|rE 59<|cT ?_;have e:(⟨no,f.pc,⟨(fS (fetchW prog f.pc)).op,(fS (fetchW prog f.pc)).rd,(fS (fetchW prog f.pc)).rs1,(fS (fetchW prog f.pc)).rs2,(fS (fetchW prog f.pc)).imm⟩,f.guess,3,0,0,0,0,7,0,false,false⟩:Ent)=pN no f prog:=by unfold pN;rw[if_neg (qU h1),if_neg ((yB _).1 h3p),if_neg h5p,if_pos h7p];rfl
     refine eW rfl (by show 0+(rob.length+1)≤(((rob.take rob.length)++([(⟨no,f.pc,⟨(fS (fetchW prog f.pc)).op,(fS (fetchW prog f.pc)).rd,(fS (fetchW prog f.pc)).rs1,(fS (fetchW prog f.pc)).rs2,(fS (fetchW prog f.pc)).imm⟩,f.guess,3,0,0,0,0,7,0,false,false⟩:Ent)])).map enL).length;exact omT) rfl ?_;show AV.sl 17 (List.take (rob.length+1) (List.drop 0 (((rob.take rob.length)++([(⟨no,f.pc,⟨(fS (fetchW prog f.pc)).op,(fS (fetchW prog f.pc)).rd,(fS (fetchW prog f.pc)).rs1,(fS (fetchW prog f.pc)).rs2,(fS (fetchW prog f.pc)).imm⟩,f.guess,3,0,0,0,0,7,0,false,false⟩:Ent)])).map enL))) false=_;rw[kA enL ((rob.take rob.length)++([(⟨no,f.pc,⟨(fS (fetchW prog f.pc)).op,(fS (fetchW prog f.pc)).rd,(fS (fetchW prog f.pc)).rs1,(fS (fetchW prog f.pc)).rs2,(fS (fetchW prog f.pc)).imm⟩,f.guess,3,0,0,0,0,7,0,false,false⟩:Ent)])) omT];rw[e,dI]
    ·have h7p:=kY h7;refine aZ<|aE<|cSR<|oR 2 rfl<|rV (vB (0 != 0)) rfl<|rE 45 ?_;refine aU rfl (λ h9=>by exact absurd h9 (by decide)) (λ _=>?_);refine aZ<|cSR<|oR 2 rfl<|rW (vN rob.length) rfl (bQ enL rob)<|oR 1 rfl<|rW (vN rob.length) rfl (bQ enL rob) ?_;refine nW (.sl 17 ((rob.take rob.length).map enL) true) rfl (vX (tT enL rob rob.length)) (by refine⟨?_,?_,?_,?_⟩;all_goals (first|exact aI _|decide|(apply Eo.2;exact omT)|(show (_:Int)=(_:Int);congr 1;omega)|rfl)) ?_;refine oR 1 rfl<|rV (.sl 17 ([[vI no,vU f.pc,vI ((fS (fetchW prog f.pc)).op),vI ((fS (fetchW prog f.pc)).rd),vI ((fS (fetchW prog f.pc)).rs1),vI ((fS (fetchW prog f.pc)).rs2),vU ((fS (fetchW prog f.pc)).imm),vU f.guess,vI 0,vI 0,zU,zU,zU,vI 0,vI 0,vB false,vB false]]) true) rfl<|rFx (x:=.osl 53 0 (rob.length+1) false) (h':=upd _ 53 (some (.arr (((rob.take rob.length)++([(⟨no,f.pc,⟨(fS (fetchW prog f.pc)).op,(fS (fetchW prog f.pc)).rd,(fS (fetchW prog f.pc)).rs1,(fS (fetchW prog f.pc)).rs2,(fS (fetchW prog f.pc)).imm⟩,f.guess,0,0,0,0,0,0,0,false,false⟩:Ent)])).map enL) 17))) rfl rfl (zH enL (rob.take rob.length) ([(⟨no,f.pc,⟨(fS (fetchW prog f.pc)).op,(fS (fetchW prog f.pc)).rd,(fS (fetchW prog f.pc)).rs1,(fS (fetchW prog f.pc)).rs2,(fS (fetchW prog f.pc)).imm⟩,f.guess,0,0,0,0,0,0,0,false,false⟩:Ent)]) omT) (⟨by exact omT,by exact omT,trivial,trivial⟩)<|oR 1 rfl<|rE 55<|cT ?_;have e:(⟨no,f.pc,⟨(fS (fetchW prog f.pc)).op,(fS (fetchW prog f.pc)).rd,(fS (fetchW prog f.pc)).rs1,(fS (fetchW prog f.pc)).rs2,(fS (fetchW prog f.pc)).imm⟩,f.guess,0,0,0,0,0,0,0,false,false⟩:Ent)=pN no f prog:=by unfold pN;rw[if_neg (qU h1),if_neg ((yB _).1 h3p),if_neg h5p,if_neg h7p];rfl
     refine eW rfl (by show 0+(rob.length+1)≤(((rob.take rob.length)++([(⟨no,f.pc,⟨(fS (fetchW prog f.pc)).op,(fS (fetchW prog f.pc)).rd,(fS (fetchW prog f.pc)).rs1,(fS (fetchW prog f.pc)).rs2,(fS (fetchW prog f.pc)).imm⟩,f.guess,0,0,0,0,0,0,0,false,false⟩:Ent)])).map enL).length;exact omT) rfl ?_;show AV.sl 17 (List.take (rob.length+1) (List.drop 0 (((rob.take rob.length)++([(⟨no,f.pc,⟨(fS (fetchW prog f.pc)).op,(fS (fetchW prog f.pc)).rd,(fS (fetchW prog f.pc)).rs1,(fS (fetchW prog f.pc)).rs2,(fS (fetchW prog f.pc)).imm⟩,f.guess,0,0,0,0,0,0,0,false,false⟩:Ent)])).map enL))) false=_;rw[kA enL ((rob.take rob.length)++([(⟨no,f.pc,⟨(fS (fetchW prog f.pc)).op,(fS (fetchW prog f.pc)).rd,(fS (fetchW prog f.pc)).rs1,(fS (fetchW prog f.pc)).rs2,(fS (fetchW prog f.pc)).imm⟩,f.guess,0,0,0,0,0,0,0,false,false⟩:Ent)])) omT];rw[e,dI]
theorem Og(c:Co)(nb:Nat)(hm:c.okM nb)(kS:Bool)(xS:List (List AV))(kT:Bool)(xT:List (List AV)):pJ C0.P C0.G 56 [.ptr 0 0] (heapF [(0,.box (mcX c (.sl 17 (c.rob.map enL) false) (.sl 2 (c.fetched.map ftL) true) (.sl 2 xS kS) (.sl 9 xT kT)))]) 1 (λ x h'=>x=.tup []∧h'=heapF [(0,.box (mcX (iY c) (.sl 17 ((iY c).rob.map enL) false) (.sl 2 ((iY c).fetched.map ftL) true) (.sl 2 xS kS) (.sl 9 xT kT)))]):=by
 refine HCall.intro (C:=C1) (s:=1) c1Ok.at Tryz.func56 rfl rfl (by kernel_rfl) rfl rfl ?_;obtain⟨W,hW,hW2⟩:∃ W:Nat,c.conf.width=(W:Int)∧W≤2:=⟨c.conf.width.toNat,by have:=oQ hm.cf;omega,by have:=oQ hm.cf;omega⟩;refine aE<|cSR<|oR 5 rfl<|rV (vB (c.halt != 0)) rfl<|rE 7 ?_;refine aU rfl (λ h1=>?_) (λ h1=>?_)
 ·have h1p:=vA h1;refine cT ?_;have e:iY c=c:=if_pos h1p;rw[e];exact oX (rs:=[]) rfl (σ:=λ z=>z) ⟨rfl,rfl⟩ rfl (cF (λ z=>z) rfl rfl wH rfl)
 ·have h1p:=vC h1;refine aZ<|cSR<|oR 7 rfl<|rE 14<|bI<|qW (κ:=Nat×Co×Bool) (λ z_=>match z_ with|(k,d,false)=>⟨cI [(0,.ptr 0 0),(7,vB (c.halt != 0)),(13,vI c.conf.width),(14,vN k)],heapF [(0,.box (mcX d (.sl 17 (d.rob.map enL) false) (.sl 2 (d.fetched.map ftL) true) (.sl 2 xS kS) (.sl 9 xT kT)))],14⟩|(k,d,true)=>⟨cI [(0,.ptr 0 0),(7,vB (c.halt != 0)),(13,vI c.conf.width),(14,vN k)],heapF [(0,.box (mcX d (.sl 17 (d.rob.map enL) false) (.sl 2 (d.fetched.map ftL) true) (.sl 2 xS kS) (.sl 9 xT kT)))],14⟩) (λ z_=>match z_ with|(k,d,_)=>k≤W∧d.okM nb∧jL (W - k) d=jL W c) (λ z_=>W - z_.1) (0,c,false) (λ s=>s) (Weak.of_lists (λ s=>s) wT wH rfl) rfl (⟨aF _,hm,rfl⟩) ?_;intro z_ hk;obtain⟨k,d,b_⟩:=z_;cases b_
  ·have hkn:k≤W:=hk.1;have hkB:k≤2:=by omega
   have hd:d.okM nb:=hk.2.1;have hG:jL (W - k) d=jL W c:=hk.2.2;refine cSR<|rV (vB (decide ((k:Int)<c.conf.width))) rfl<|rE 15<|aE ?_;refine aU rfl (λ h2=>?_) (λ h2=>?_)
   ·have h2p:=of_decide_eq_true h2;refine aZ<|aE<|bI<|aE<|cSR<|oR 5 rfl<|rW (vN d.rob.length) rfl (bQ enL d.rob)<|oR 6 rfl<|rV (vB (decide (((d.rob.length:Nat):Int)≥d.conf.rob))) rfl<|oR 1 rfl<|gN rfl<|gS rfl id<|gS rfl id<|gS rfl id<|gS rfl id ?_;refine gBS (x:=vN d.fetched.length) rfl id (bQ ftL d.fetched)<|gBS (x:=vB (d.fetched.length==0)) rfl id (okB (eqN _ _))<|cH rfl rfl rfl (by simp)<|rE 37 ?_;refine aU rfl (λ h3=>?_) (λ h3=>?_)
    ·have hst:((d.rob.length:Int)≥d.conf.rob∨d.fetched.length=0):=by have z:=h3;simpa [c2o]using z
     refine cT ?_;have e0:iY c=jL W c:=by show (if c.halt≠0 then c else jL c.conf.width.toNat c)=_;rw[if_neg (λ q=>q h1p),hW];rfl
     have e:iY c=d:=by rw[e0, ←hG];exact tH hst
     rw[e];exact oX (rs:=[]) rfl (σ:=λ z=>z) ⟨rfl,rfl⟩ rfl (cF (λ z=>z) rfl rfl wH rfl)
    ·have hst: ¬ ((d.rob.length:Int)≥d.conf.rob∨d.fetched.length=0):=by have z:=h3;simpa [c2o]using z
     have hrl:d.rob.length≤7:=by have:=oQ hd.cf;omega
     have hfl:0<d.fetched.length:=by omega
     refine aZ<|cSR<|oR 16 rfl ?_;obtain⟨f,hf⟩:∃ y_,d.fetched[0]?=some y_:=⟨_,aA omT⟩;have hfo:=hd.ok.feto f (aB hf);refine Fb (ftL f) (x:=.dp 2 0 (ftL f)) rfl rfl rfl (⟨by decide,gJ hf⟩) rfl<|oR 6 rfl<|rCi rfl (Sz d.rob false d.next f d.prog hd.rob hd.ok.robo hfo hd.ok.progo (by have:=hd.prog;omega))<|oR 3 rfl<|rSx 0 (mcX d (.sl 17 ((d.rob++[pN d.next f d.prog]).map enL) false) (.sl 2 (d.fetched.map ftL) true) (.sl 2 xS kS) (.sl 9 xT kT)) rfl rfl rfl<|rE 65<|cSR<|oR 5 rfl<|rW (vI (wrap64 (d.next+1))) rfl (okI (w64 _))<|oR 3 rfl<|rSx 0 (mcX ({d with next:=wrap64 (d.next+1)}:Co) (.sl 17 ((d.rob++[pN d.next f d.prog]).map enL) false) (.sl 2 (d.fetched.map ftL) true) (.sl 2 xS kS) (.sl 9 xT kT)) rfl rfl rfl<|rE 75<|cRg<|oR 6 rfl ?_;refine nW (.sl 2 ((d.fetched.drop 1).map ftL) true) rfl (vX (Iy ftL d.fetched 1)) slT ?_;refine oR 3 rfl<|rSx 0 (mcX ({d with next:=wrap64 (d.next+1)}:Co) (.sl 17 ((d.rob++[pN d.next f d.prog]).map enL) false) (.sl 2 ((d.fetched.drop 1).map ftL) true) (.sl 2 xS kS) (.sl 9 xT kT)) rfl rfl rfl<|rE 86<|cRg ?_;have b1:k+1≤3:=aH hkB (aC 1);refine rW (vN (k+1)) rfl (okI (bS b1 rfl))<|oR 1 rfl<|rE 88 ?_;refine .mk _ (.refl _) ⟨(k+1,Fl d f,false),λ i=>i,Weak.of_lists _ wT wH rfl,rfl,⟨by omega,BM hd hfo omT,(wM omT (λ q=>hst (.inl q)) hf).trans hG⟩,by show W - (k+1)<W - k;omega⟩
   ·have h2p:=aD h2;refine eA ?_;have e0:iY c=jL W c:=by show (if c.halt≠0 then c else jL c.conf.width.toNat c)=_;rw[if_neg (λ q=>q h1p),hW];rfl
    have e:iY c=d:=by rw[e0, ←hG];rw[show W - k=0 by omega];rfl
    rw[e];exact oX (rs:=[]) rfl (σ:=λ z=>z) ⟨rfl,rfl⟩ rfl (cF (λ z=>z) rfl rfl wH rfl)
  ·have hkn:k≤W:=hk.1;have hkB:k≤2:=by omega
   have hd:d.okM nb:=hk.2.1;have hG:jL (W - k) d=jL W c:=hk.2.2;refine cSR<|rV (vB (decide ((k:Int)<c.conf.width))) rfl<|rE 15<|aE ?_;refine aU rfl (λ h4=>?_) (λ h4=>?_)
   ·have h4p:=of_decide_eq_true h4;refine aZ<|aE<|bI<|aE<|cSR<|oR 5 rfl<|rW (vN d.rob.length) rfl (bQ enL d.rob)<|oR 6 rfl<|rV (vB (decide (((d.rob.length:Nat):Int)≥d.conf.rob))) rfl<|oR 1 rfl<|gN rfl<|gS rfl id<|gS rfl id<|gS rfl id<|gS rfl id ?_;refine gBS (x:=vN d.fetched.length) rfl id (bQ ftL d.fetched)<|gBS (x:=vB (d.fetched.length==0)) rfl id (okB (eqN _ _))<|cH rfl rfl rfl (by simp)<|rE 37 ?_;refine aU rfl (λ h5=>?_) (λ h5=>?_)
    ·have hst:((d.rob.length:Int)≥d.conf.rob∨d.fetched.length=0):=by have z:=h5;simpa [c2o]using z
     refine cT ?_;have e0:iY c=jL W c:=by show (if c.halt≠0 then c else jL c.conf.width.toNat c)=_;rw[if_neg (λ q=>q h1p),hW];rfl
     have e:iY c=d:=by rw[e0, ←hG];exact tH hst
     rw[e];exact oX (rs:=[]) rfl (σ:=λ z=>z) ⟨rfl,rfl⟩ rfl (cF (λ z=>z) rfl rfl wH rfl)
    ·have hst: ¬ ((d.rob.length:Int)≥d.conf.rob∨d.fetched.length=0):=by have z:=h5;simpa [c2o]using z
     have hrl:d.rob.length≤7:=by have:=oQ hd.cf;omega
     have hfl:0<d.fetched.length:=by omega
     refine aZ<|cSR<|oR 16 rfl ?_;obtain⟨f,hf⟩:∃ y_,d.fetched[0]?=some y_:=⟨_,aA omT⟩;have hfo:=hd.ok.feto f (aB hf);refine Fb (ftL f) (x:=.dp 2 0 (ftL f)) rfl rfl rfl (⟨by decide,gJ hf⟩) rfl<|oR 6 rfl<|rCi rfl (Sz d.rob false d.next f d.prog hd.rob hd.ok.robo hfo hd.ok.progo (by have:=hd.prog;omega))<|oR 3 rfl<|rSx 0 (mcX d (.sl 17 ((d.rob++[pN d.next f d.prog]).map enL) false) (.sl 2 (d.fetched.map ftL) true) (.sl 2 xS kS) (.sl 9 xT kT)) rfl rfl rfl<|rE 65<|cSR<|oR 5 rfl<|rW (vI (wrap64 (d.next+1))) rfl (okI (w64 _))<|oR 3 rfl<|rSx 0 (mcX ({d with next:=wrap64 (d.next+1)}:Co) (.sl 17 ((d.rob++[pN d.next f d.prog]).map enL) false) (.sl 2 (d.fetched.map ftL) true) (.sl 2 xS kS) (.sl 9 xT kT)) rfl rfl rfl<|rE 75<|cRg<|oR 6 rfl ?_;refine nW (.sl 2 ((d.fetched.drop 1).map ftL) true) rfl (vX (Iy ftL d.fetched 1)) slT ?_;refine oR 3 rfl<|rSx 0 (mcX ({d with next:=wrap64 (d.next+1)}:Co) (.sl 17 ((d.rob++[pN d.next f d.prog]).map enL) false) (.sl 2 ((d.fetched.drop 1).map ftL) true) (.sl 2 xS kS) (.sl 9 xT kT)) rfl rfl rfl<|rE 86<|cRg ?_;have b2:k+1≤3:=aH hkB (aC 1);refine rW (vN (k+1)) rfl (okI (bS b2 rfl))<|oR 1 rfl<|rE 88 ?_;refine .mk _ (.refl _) ⟨(k+1,Fl d f,false),λ i=>i,Weak.of_lists _ wT wH rfl,rfl,⟨by omega,BM hd hfo omT,(wM omT (λ q=>hst (.inl q)) hf).trans hG⟩,by show W - (k+1)<W - k;omega⟩
   ·have h4p:=aD h4;refine eA ?_;have e0:iY c=jL W c:=by show (if c.halt≠0 then c else jL c.conf.width.toNat c)=_;rw[if_neg (λ q=>q h1p),hW];rfl
    have e:iY c=d:=by rw[e0, ←hG];rw[show W - k=0 by omega];rfl
    rw[e];exact oX (rs:=[]) rfl (σ:=λ z=>z) ⟨rfl,rfl⟩ rfl (cF (λ z=>z) rfl rfl wH rfl)
theorem xI(c:Co)(i:Nat)(e:Ent):(setE c i e).rob.length=c.rob.length:=bV ..
theorem Sx{e:Ent}(h:e.ok):({e with is:=2}:Ent).ok:=⟨h.pc,h.imm,h.guess,h.value,h.next,h.addr⟩
theorem Tz{c:Co}{n i:Nat}{e:Ent}(h:c.okM n)(he:c.rob[i]?=some e):e.ok:=h.ok.robo e (aB he)
theorem Mp{c:Co}{n:Nat}(h:c.okM n)(hb:n+1≤890000)(i:Nat):(lZ c i).okM (n+1)∧(lZ c i).rob.length=c.rob.length∧(lZ c i).halt=c.halt∧(lZ c i).stores=c.stores∧(lZ c i).fetched=c.fetched∧(lZ c i).retired=c.retired:=by
 have h1:c.okM (n+1):=h.mono (fF _) hb;unfold lZ
 cases hx:c.rob[i]? with
 |none=>exact⟨h1,rfl,rfl,rfl,rfl,rfl⟩
 |some e=>
  have he:=Tz h hx;dsimp only
  repeat' split
  ·exact⟨h1,rfl,rfl,rfl,rfl,rfl⟩
  ·exact⟨vQ h1 i (Gy he _),xI ..,rfl,rfl,rfl,rfl⟩
  ·exact⟨h1,rfl,rfl,rfl,rfl,rfl⟩
  ·exact⟨vQ h1 i (Gy he _),xI ..,rfl,rfl,rfl,rfl⟩
  ·exact⟨vQ h1 i (Sx he),xI ..,rfl,rfl,rfl,rfl⟩
  ·exact⟨vQ (rD h hb 1 (dF he.addr) mH) i (Sx he),xI ..,rfl,rfl,rfl,rfl⟩
  ·exact⟨h1,rfl,rfl,rfl,rfl,rfl⟩
theorem xJ{c:Co}{n:Nat}(h:c.okM n)(hb:n+1≤890000)(i:Nat):(gF c i).okM (n+1)∧(gF c i).rob.length=c.rob.length∧(gF c i).halt=c.halt∧(gF c i).stores=c.stores∧(gF c i).fetched=c.fetched∧(gF c i).retired=c.retired:=by
 have h1:c.okM (n+1):=h.mono (fF _) hb;unfold gF
 cases hx:c.rob[i]? with
 |none=>exact⟨h1,rfl,rfl,rfl,rfl,rfl⟩
 | some e=>
  have he:=Tz h hx;have hB:=Bg h.ok.robo h.ok.r i;dsimp only;split
  ·exact⟨vQ h1 i (Gx he _ _),xI ..,rfl,rfl,rfl,rfl⟩
  ·split
   ·have hl:=Mp (vQ h i (Gx he c.mem.size (lE c.rob c.r i).1)) hb i;exact⟨hl.1,hl.2.1.trans (xI ..),hl.2.2.1,hl.2.2.2.1,hl.2.2.2.2.1,hl.2.2.2.2.2⟩
   ·exact⟨vQ h1 i (Oq he hB.1 hB.2),xI ..,rfl,rfl,rfl,rfl⟩
theorem Od{width:Int}{busy:Bool}{kinds:List Int}{can:List Bool}:∀ k,∀ i∈(jP width busy kinds can k).out,i<k
 |0,i,h=>by simp[jP]at h
 | k+1,i,h=>by
  have ih:=Od (width:=width) (busy:=busy) (kinds:=kinds) (can:=can) k;unfold jP GX at h
  repeat' split at h
  all_goals first
   |exact mM (ih i h)
   |(simp only[al_List_mem_append,tM]at h;exact h.elim (λ h=>mM (ih i h)) (λ h=>by omega))
theorem Sy{width:Int}{busy:Bool}{kinds:List Int}{can:List Bool}(hw:0≤width):∀ k,((jP width busy kinds can k).out.length:Int)≤width
 |0=>by simpa [jP]using hw
 | k+1=>by
  have ih:=Sy (width:=width) (busy:=busy) (kinds:=kinds) (can:=can) hw k;unfold jP GX
  repeat' split
  all_goals first
   |exact ih
   |(simp only[aY,jU];push_cast;omega)
theorem KV{α:Type}{f:α→Bool}{l:List α}{k:Nat}{x:α}(h:l[k]?=some x):(l.take (k+1)).any f=((l.take k).any f||f x):=by
 rw[bX,h,List.any_append];simp
def qM(c:Co)(k:Nat):List Int:=(c.rob.take k).map (λ e=>(kindOf e.i.op:Int))++List.replicate (c.rob.length - k) 0
def vW(c:Co)(k:Nat):List Bool:=(List.range k).map (CD c)++List.replicate (c.rob.length - k) false
theorem Fi{c:Co}{k:Nat}(h:k≤c.rob.length):(qM c k).length=c.rob.length:=by unfold qM;simp;omega
theorem DF{c:Co}{k:Nat}(h:k≤c.rob.length):(vW c k).length=c.rob.length:=by unfold vW;simp;omega
theorem KW{α:Type}{a:List α}{z x:α}{n k:Nat}(ha:a.length=k)(hn:0<n):(a++List.replicate n z).set k x=(a++[x])++List.replicate (n - 1) z:=by
 subst ha;obtain⟨m,rfl⟩:∃ m,n=m+1:=⟨n - 1,by omega⟩;rw[jT _ _ (aC _),iI,List.replicate_succ,jQ];simp
theorem Fj{c:Co}{k:Nat}{x:Ent}(hx:c.rob[k]?=some x):(qM c k).set k (kindOf x.i.op:Int)=qM c (k+1):=by
 have hk:=(Db.1 hx).1;unfold qM;rw[KW (by simp;omega) omT,bX,hx,Nat.sub_sub];simp
theorem Im{c:Co}{k:Nat}(hk:k<c.rob.length):(vW c k).set k (CD c k)=vW c (k+1):=by
 unfold vW;rw[KW (by simp) omT,mD,Nat.sub_sub];simp
theorem Mq(c:Co):qM c c.rob.length=DV c:=by unfold qM DV;simp
theorem Oe(c:Co):vW c c.rob.length=IC c:=by unfold vW IC;simp
theorem JT{c:Co}{n:Nat}(h:c.rob.length=n):List.replicate n (0:Int)=qM c 0:=by subst h;rfl
theorem Mr{c:Co}{n:Nat}(h:c.rob.length=n):List.replicate n false=vW c 0:=by subst h;rfl
theorem Fk{α β:Type}{f:β→α→β}{l:List α}{j:Nat}{x:α}{d:β}(h:l[j]?=some x):(l.drop (j+1)).foldl f (f d x)=(l.drop j).foldl f d:=by
 obtain⟨hj,rfl⟩:=Db.1 h;rw[eD hj];rfl
theorem zE{c:Co}{k:Nat}(hm:uQ c.conf=true)(hh: ¬ c.halt≠0)(hk:k=c.rob.length):∃ p,pickOf c.conf.width ((c.rob.take k).any GM) (qM c k) (vW c k)=p∧fJ c=p.foldl gF c∧(∀ i∈p,i<c.rob.length)∧p.length≤2:=by
 subst hk;have hw:=oQ hm;refine⟨_,rfl,?_,λ i hi=>?_,?_⟩
 ·rw[Mq,Oe,dI];exact if_neg hh
 ·have:=Od _ i hi
  rwa [DF (aC _)]at this
 ·have:=Sy (width:=c.conf.width) (busy:=(c.rob.take c.rob.length).any GM) (kinds:=qM c c.rob.length) (can:=vW c c.rob.length) omT (vW c c.rob.length).length;unfold pickOf;omega
theorem Oc(c:Co)(nb:Nat)(hm:c.okM nb)(hb:nb+3≤890000)(A B:List Ent)(lo n:Nat)(kR kF kS kT:Bool)(xF xT:List (List AV))(hlo:A.length=lo)(hn:c.rob.length=n)(hA:A.length+n+B.length≤1000):pJ C0.P C0.G 55 [.ptr 0 0] (heapF [(0,.box (mcX c (.osl 1 lo n kR) (.sl 2 xF kF) (.sl 2 (c.stores.map ptL) kS) (.sl 9 xT kT))),(1,.arr ((A++c.rob++B).map enL) 17)]) 2 (λ x h'=>x=.tup []∧h'=heapF [(0,.box (mcX (fJ c) (.osl 1 lo n kR) (.sl 2 xF kF) (.sl 2 ((fJ c).stores.map ptL) kS) (.sl 9 xT kT))),(1,.arr ((A++(fJ c).rob++B).map enL) 17)]):=by
 refine HCall.intro (C:=C1) (s:=2) c1Ok.at Tryz.func55 rfl rfl (by kernel_rfl) rfl rfl<|aE<|cSR<|oR 5 rfl<|rV (vB (c.halt != 0)) rfl<|rE 8 ?_;refine aU rfl (λ h1=>?_) (λ h1=>?_)
 ·have h1p:=vA h1;refine cT ?_;have e:fJ c=c:=if_pos h1p;rw[e];exact oX (rs:=[]) rfl (σ:=λ z=>z) ⟨rfl,rfl⟩ rfl (cF (λ z=>z) rfl rfl wH rfl)
 ·have h1p:=vC h1;refine aZ<|cSR<|oR 1 rfl<|rE 9<|cSR<|oR 5 rfl<|rV (vN n) rfl<|rFx (x:=.osl 15 0 n false) (h':=upd _ 15 (some (.arr ((List.replicate n 0).map fD) 1))) rfl rfl (OT (gI (f:=fD) (a:=0)).symm) (⟨aI _,Eo.2 omT,by show (n:Int)≤1000000;omega⟩)<|oR 1 rfl<|rE 17<|cSR<|oR 5 rfl<|rV (vN n) rfl ?_;refine rFx (x:=.osl 23 0 n false) (h':=upd _ 23 (some (.arr ((List.replicate n false).map yM) 1))) rfl rfl (OT (gI (f:=yM) (a:=false)).symm) (⟨aI _,Eo.2 omT,by show (n:Int)≤1000000;omega⟩)<|oR 1 rfl<|rE 25<|Ex<|cSR<|oR 5 rfl<|rV (vN n) rfl<|oR 1 rfl<|rE 32<|bI<|qW (κ:=Nat) (λ k=>⟨cI [(0,.ptr 0 0),(14,vB (c.halt != 0)),(3,.osl 15 0 n false),(4,.osl 23 0 n false),(33,.osl 1 lo n kR),(34,vN n),(2,vB ((c.rob.take k).any GM)),(35,vN k)],heapF [(0,.box (mcX c (.osl 1 lo n kR) (.sl 2 xF kF) (.sl 2 (c.stores.map ptL) kS) (.sl 9 xT kT))),(1,.arr ((A++c.rob++B).map enL) 17),(15,.arr ((qM c k).map fD) 1),(23,.arr ((vW c k).map yM) 1)],32⟩) (λ k=>k≤n) (λ k=>n - k) 0 (λ s=>s) (Weak.of_lists (λ s=>s) wT ⟨⟨rfl,rfl,rfl⟩,⟨rfl,rfl,rfl⟩,⟨rfl,(congrArg (λ z:List Int=>some (Blk.arr (z.map fD) 1)) (JT hn)),rfl⟩,⟨rfl,(congrArg (λ z:List Bool=>some (Blk.arr (z.map yM) 1)) (Mr hn)),rfl⟩,trivial⟩ rfl) rfl (aF _) ?_;intro k hk;have hkn:k≤n:=hk;have hkB:k≤1000:=by have:=hm.rob;omega
  have hkl1:(qM c k).length=n:=(Fi omT).trans hn;have hkl2:(vW c k).length=n:=(DF omT).trans hn;refine cSR<|rW (vB (decide (k<n))) rfl (okB (ltN _ _))<|rE 33<|aE ?_;refine aU rfl (λ h2=>?_) (λ h2=>?_)
  ·have h2p:=of_decide_eq_true h2;refine aZ<|aE<|bI<|cSR<|oR 1 rfl<|nW (.ptr2 1 (lo+k) 0) rfl rfl ixT ?_;obtain⟨x,hx⟩:∃ y_,c.rob[k]?=some y_:=⟨_,aA omT⟩;have hxo:=hm.ok.robo x (aB hx);refine rIx (enL x) (.agg (enL x)) rfl rfl (gJ (jC hlo hx)) rfl<|rAl 36 rfl rfl<|oR 1 rfl<|rSt rfl<|rE 39<|cSR<|oR 4 rfl<|rCi rfl (qG x.i)<|nW (.ptr2 15 (0+k) 0) rfl rfl ixT ?_;obtain⟨x1,hx1⟩:∃ y_,(qM c k)[k]?=some y_:=⟨_,aA omT⟩;have hx2:((qM c k).set k (kindOf x.i.op:Int))[k]?=some (kindOf x.i.op:Int):=bD omT;refine oE (fD x1) (h':=upd _ 15 (some (.arr (((qM c k).set k (kindOf x.i.op:Int)).map fD) 1))) rfl rfl rfl (⟨aI _,Hk (gJ hx1)⟩) (uO (f:=fD) (l:=qM c k) (k:=k) (x:=(kindOf x.i.op:Int)))<|rE 46<|cSR<|oR 4 rfl<|eE (args:=[.ptr 0 0,vN k]) (d:=50) _ rfl rfl rfl (pJ.of_dcall (C:=C0) (show bY C0 109 [.dp 64 0 (mcX c (.sl 17 (List.take n (List.drop lo ((A++c.rob++B).map enL))) kR) (.sl 2 xF kF) (.sl 2 (c.stores.map ptL) kS) (.sl 9 xT kT)),vN k] _ from by rw[sU (l:=c.rob) hlo (by first|exact hn|(rw[bV];exact hn)|(simp only[bV];exact hn))];exact Vu c nb hm (.sl 2 xF kF) (.sl 2 (c.stores.map ptL) kS) (.sl 9 xT kT) kR k omT) (by rfl) (by exact⟨⟨rfl,(r4 (r4 (r4 (r4 (r4 (r4 (r4 (r4 (r4 (r4 (r4 (r4 ⟨(by show lo+n≤((A++c.rob++B).map enL).length;simp only[aO,aY,bV];omega),tvT⟩))))))))))))⟩,trivial,trivial⟩) (by rfl)) ?_;rintro _ _ ⟨rfl,rfl⟩;refine nW (.ptr2 23 (0+k) 0) rfl rfl ixT ?_;obtain⟨x3,hx3⟩:∃ y_,(vW c k)[k]?=some y_:=⟨_,aA omT⟩;have hx4:((vW c k).set k (CD c k))[k]?=some (CD c k):=bD omT;refine oE (yM x3) (h':=upd _ 23 (some (.arr (((vW c k).set k (CD c k)).map yM) 1))) rfl rfl rfl (⟨aI _,Hk (gJ hx3)⟩) (uO (f:=yM) (l:=vW c k) (k:=k) (x:=CD c k))<|rE 53<|cSR<|oR 2 rfl<|nW (.ptr2 15 (0+k) 0) rfl rfl ixT<|rIx (fD (kindOf x.i.op:Int)) (vN (kindOf x.i.op)) rfl rfl (Hk (gJ hx2)) rfl<|rW (vB ((kindOf x.i.op)==2)) rfl (okB (eqN _ _))<|oR 1 rfl<|gN rfl<|gS rfl id<|gBS (x:=vB (x.is==1)) rfl id rfl<|cH rfl rfl rfl (λ h=>h)<|rE 63 ?_;refine aU rfl (λ h3=>?_) (λ h3=>?_)
   ·refine cRg<|oR 1 rfl<|rE 64<|cRg ?_;have b1:k+1≤1001:=aH hkB (aC 1);refine rW (vN (k+1)) rfl (okI (bS b1 rfl))<|oR 1 rfl<|rE 66 ?_;refine .mk _ (.refl _) ⟨k+1,λ s=>s,Weak.of_lists _ ⟨⟨rfl,rfl⟩,⟨rfl,rfl⟩,⟨rfl,rfl⟩,⟨rfl,rfl⟩,⟨rfl,rfl⟩,⟨rfl,rfl⟩,⟨(cY (by rw[KV hx];have z:=h3;simp_all[c2a,GM])),rfl⟩,⟨rfl,rfl⟩,trivial⟩ ⟨⟨rfl,rfl,rfl⟩,⟨rfl,rfl,rfl⟩,⟨rfl,(congrArg (λ z:List Int=>some (Blk.arr (z.map fD) 1)) (Fj hx)),rfl⟩,⟨rfl,(congrArg (λ z:List Bool=>some (Blk.arr (z.map yM) 1)) (Im omT)),rfl⟩,trivial⟩ rfl,rfl,by omega,by show n - (k+1)<n - k;omega⟩
   ·refine aZ<|cRg ?_;have b2:k+1≤1001:=aH hkB (aC 1);refine rW (vN (k+1)) rfl (okI (bS b2 rfl))<|oR 1 rfl<|rE 65 ?_;refine .mk _ (.refl _) ⟨k+1,λ s=>s,Weak.of_lists _ ⟨⟨rfl,rfl⟩,⟨rfl,rfl⟩,⟨rfl,rfl⟩,⟨rfl,rfl⟩,⟨rfl,rfl⟩,⟨rfl,rfl⟩,⟨(cY (by rw[KV hx];have z:=h3;simp_all[c2a,GM])),rfl⟩,⟨rfl,rfl⟩,trivial⟩ ⟨⟨rfl,rfl,rfl⟩,⟨rfl,rfl,rfl⟩,⟨rfl,(congrArg (λ z:List Int=>some (Blk.arr (z.map fD) 1)) (Fj hx)),rfl⟩,⟨rfl,(congrArg (λ z:List Bool=>some (Blk.arr (z.map yM) 1)) (Im omT)),rfl⟩,trivial⟩ rfl,rfl,by omega,by show n - (k+1)<n - k;omega⟩
  ·have h2p:=aD h2;obtain⟨p,hp,hP,hpl,hp2⟩:=zE (k:=k) hm.cf (λ q=>q h1p) omT;refine eA<| .mk _ (.step (some (15,1,(qM c k).map fD)) (Ghost.of_lists (l:=[(0,.ptr 0 0),(14,vB (c.halt != 0)),(3,.sl 1 ((qM c k).map fD) false),(4,.osl 23 0 n false),(2,vB ((c.rob.take k).any GM)),(36,vB (decide (k<n)))]) (hp:=[(0,.box (mcX c (.osl 1 lo n kR) (.sl 2 xF kF) (.sl 2 (c.stores.map ptL) kS) (.sl 9 xT kT))),(1,.arr ((A++c.rob++B).map enL) 17),(23,.arr ((vW c k).map yM) 1)]) rfl rfT rbT) (.step (some (23,1,(vW c k).map yM)) (Ghost.of_lists (l:=[(0,.ptr 0 0),(14,vB (c.halt != 0)),(3,.sl 1 ((qM c k).map fD) false),(4,.sl 1 ((vW c k).map yM) false),(2,vB ((c.rob.take k).any GM)),(36,vB (decide (k<n)))]) (hp:=[(0,.box (mcX c (.osl 1 lo n kR) (.sl 2 xF kF) (.sl 2 (c.stores.map ptL) kS) (.sl 9 xT kT))),(1,.arr ((A++c.rob++B).map enL) 17)]) rfl rfT rbT) (.refl _)))<|cSR<|oR 9 rfl<|rCl (x:=.sl 1 (p.map PG) false) rfl (.inl rfl) ((by rw[←hp];exact Wg c.conf.width ((c.rob.take k).any GM) (qM c k) (vW c k) false false (by rw[Fi omT];exact hm.rob) (by rw[DF omT];exact hm.rob)))<|rW (vN p.length) rfl (bQ PG p)<|oR 1 rfl<|rE 45<|bI<|qW (κ:=Nat×Co×Bool) (λ z_=>match z_ with|(j,d,false)=>⟨cI [(0,.ptr 0 0),(14,vB (c.halt != 0)),(36,vB (decide (k<n))),(72,.sl 1 (p.map PG) false),(73,vN p.length),(74,vN j)],heapF [(0,.box (mcX d (.osl 1 lo n kR) (.sl 2 xF kF) (.sl 2 (d.stores.map ptL) kS) (.sl 9 xT kT))),(1,.arr ((A++d.rob++B).map enL) 17)],45⟩|(j,d,true)=>⟨cI [(0,.ptr 0 0),(14,vB (c.halt != 0)),(36,vB (decide (k<n))),(72,.sl 1 (p.map PG) false),(73,vN p.length),(74,vN j)],heapF [(0,.box (mcX d (.osl 1 lo n kR) (.sl 2 xF kF) (.sl 2 (d.stores.map ptL) kS) (.sl 9 xT kT))),(1,.arr ((A++d.rob++B).map enL) 17)],45⟩) (λ z_=>match z_ with|(j,d,_)=>j≤p.length∧d.okM (nb+j)∧d.rob.length=n∧(p.drop j).foldl gF d=fJ c) (λ z_=>p.length - z_.1) (0,c,false) (λ s=>s) (Weak.of_lists (λ s=>s) wT wH rfl) rfl (⟨aF _,hm,hn,hP.symm⟩) ?_;intro z_ hj;obtain⟨j,d,b_⟩:=z_;cases b_
   ·have hjn:j≤p.length:=hj.1;have hjB:j≤2:=by omega
    have hd:d.okM (nb+j):=hj.2.1;have hdn:d.rob.length=n:=hj.2.2.1;have hG:(p.drop j).foldl gF d=fJ c:=hj.2.2.2;refine cSR<|rW (vB (decide (j<p.length))) rfl (okB (ltN _ _))<|rE 46<|aE ?_;refine aU rfl (λ h4=>?_) (λ h4=>?_)
    ·have h4p:=of_decide_eq_true h4;refine aZ<|aE<|bI<|cSR ?_;obtain⟨x,hx⟩:∃ y_,p[j]?=some y_:=⟨_,aA omT⟩;have hxo:=hpl x (aB hx);have hs:=xJ hd omT x;refine rIx (PG x) (.dp 1 0 (PG x)) rfl rfl (gJ hx) rfl<|oR 2 rfl<|rE 49<|cRg<|oR 2 rfl<|eE (args:=[.ptr 0 0,vN x]) (d:=80) _ rfl rfl rfl ((SB d (nb+j) hd x (by have:=hxo;omega) A B lo n kR kF kS kT xF xT hlo hdn hA).frameB2 (λ z=>z) _ _ rfl ⟨⟨rfl,rfl,rfl,rfl⟩,⟨rfl,rfl,rfl,rfl⟩,trivial⟩ rfl rfl rfl rfl rfl) ?_;rintro _ _ ⟨rfl,rfl⟩;refine rE 52<|cRg ?_;have b3:j+1≤3:=aH hjB (aC 1);refine rW (vN (j+1)) rfl (okI (bS b3 rfl))<|oR 1 rfl<|rE 54 ?_;refine .mk _ (.refl _) ⟨(j+1,gF d x,false),λ i=>i,Weak.of_lists _ wT ⟨⟨rfl,(congrArg (λ z:List Pt=>some (Blk.box (mcX (gF d x) (.osl 1 lo n kR) (.sl 2 xF kF) (.sl 2 (z.map ptL) kS) (.sl 9 xT kT)))) hs.2.2.2.1.symm),rfl⟩,⟨rfl,rfl,rfl⟩,trivial⟩ rfl,rfl,⟨by omega,hs.1,hs.2.1.trans hdn,(Fk hx).trans hG⟩,by show p.length - (j+1)<p.length - j;omega⟩
    ·have h4p:=aD h4;refine eA ?_;have e:fJ c=d:=by rw[←hG,eF omT];rfl
     rw[e];exact oX (rs:=[]) rfl (σ:=λ z=>z) ⟨rfl,rfl⟩ rfl (cF (λ z=>z) rfl rfl wH rfl)
   ·have hjn:j≤p.length:=hj.1;have hjB:j≤2:=by omega
    have hd:d.okM (nb+j):=hj.2.1;have hdn:d.rob.length=n:=hj.2.2.1;have hG:(p.drop j).foldl gF d=fJ c:=hj.2.2.2;refine cSR<|rW (vB (decide (j<p.length))) rfl (okB (ltN _ _))<|rE 46<|aE ?_;refine aU rfl (λ h5=>?_) (λ h5=>?_)
    ·have h5p:=of_decide_eq_true h5;refine aZ<|aE<|bI<|cSR ?_;obtain⟨x,hx⟩:∃ y_,p[j]?=some y_:=⟨_,aA omT⟩;have hxo:=hpl x (aB hx);have hs:=xJ hd omT x;refine rIx (PG x) (.dp 1 0 (PG x)) rfl rfl (gJ hx) rfl<|oR 2 rfl<|rE 49<|cRg<|oR 2 rfl<|eE (args:=[.ptr 0 0,vN x]) (d:=80) _ rfl rfl rfl ((SB d (nb+j) hd x (by have:=hxo;omega) A B lo n kR kF kS kT xF xT hlo hdn hA).frameB2 (λ z=>z) _ _ rfl ⟨⟨rfl,rfl,rfl,rfl⟩,⟨rfl,rfl,rfl,rfl⟩,trivial⟩ rfl rfl rfl rfl rfl) ?_;rintro _ _ ⟨rfl,rfl⟩;refine rE 52<|cRg ?_;have b4:j+1≤3:=aH hjB (aC 1);refine rW (vN (j+1)) rfl (okI (bS b4 rfl))<|oR 1 rfl<|rE 54 ?_;refine .mk _ (.refl _) ⟨(j+1,gF d x,false),λ i=>i,Weak.of_lists _ wT ⟨⟨rfl,(congrArg (λ z:List Pt=>some (Blk.box (mcX (gF d x) (.osl 1 lo n kR) (.sl 2 xF kF) (.sl 2 (z.map ptL) kS) (.sl 9 xT kT)))) hs.2.2.2.1.symm),rfl⟩,⟨rfl,rfl,rfl⟩,trivial⟩ rfl,rfl,⟨by omega,hs.1,hs.2.1.trans hdn,(Fk hx).trans hG⟩,by show p.length - (j+1)<p.length - j;omega⟩
    ·have h5p:=aD h5;refine eA ?_;have e:fJ c=d:=by rw[←hG,eF omT];rfl
     rw[e];exact oX (rs:=[]) rfl (σ:=λ z=>z) ⟨rfl,rfl⟩ rfl (cF (λ z=>z) rfl rfl wH rfl)
theorem KU(c:Co)(nb:Nat)(hm:c.okM nb)(h0:c.rob=[])(kF kS kT:Bool)(xF xT:List (List AV)):pJ C0.P C0.G 55 [.ptr 0 0] (heapF [(0,.box (mcX c (.sl 17 [] false) (.sl 2 xF kF) (.sl 2 (c.stores.map ptL) kS) (.sl 9 xT kT)))]) 1 (λ x h'=>x=.tup []∧h'=heapF [(0,.box (mcX (fJ c) (.sl 17 [] false) (.sl 2 xF kF) (.sl 2 ((fJ c).stores.map ptL) kS) (.sl 9 xT kT)))]):=by
 refine HCall.intro (C:=C1) (s:=1) c1Ok.at Tryz.func55 rfl rfl (by kernel_rfl) rfl rfl<|aE<|cSR<|oR 5 rfl<|rV (vB (c.halt != 0)) rfl<|rE 7 ?_;refine aU rfl (λ h1=>?_) (λ h1=>?_)
 ·have h1p:=vA h1;refine cT ?_;have e:fJ c=c:=by unfold fJ DV IC;rw[h0];split<;>rfl
  rw[e];exact oX (rs:=[]) rfl (σ:=λ z=>z) ⟨rfl,rfl⟩ rfl (cF (λ z=>z) rfl rfl wH rfl)
 ·have h1p:=vC h1;refine aZ<|cSR<|oR 1 rfl<|rE 8<|cSR<|oR 5 rfl<|rW (vN 0) rfl (sJ enL ([]:List Ent) omT)<|rFx (x:=.osl 14 0 0 false) (h':=upd _ 14 (some (.arr (([]:List Int).map fD) 1))) rfl rfl (rfl) (⟨by decide,by decide,by show ((0:Nat):Int)≤1000000;omega⟩)<|oR 1 rfl<|rE 16<|cSR<|oR 5 rfl<|rW (vN 0) rfl (sJ enL ([]:List Ent) omT) ?_;refine rFx (x:=.osl 22 0 0 false) (h':=upd _ 22 (some (.arr (([]:List Bool).map yM) 1))) rfl rfl (rfl) (⟨by decide,by decide,by show ((0:Nat):Int)≤1000000;omega⟩)<|oR 1 rfl<|rE 24<|Ex<|cSR<|oR 5 rfl<|rW (vN 0) rfl (sJ enL ([]:List Ent) omT)<|oR 1 rfl<|rE 31<|bI<|qW (κ:=Nat) (λ k=>⟨cI [(0,.ptr 0 0),(14,vB (c.halt != 0)),(3,.osl 14 0 0 false),(4,.osl 22 0 0 false),(33,.sl 17 (([]:List Ent).map enL) false),(34,vN 0),(2,vB false),(35,vN k)],heapF [(0,.box (mcX c (.sl 17 (([]:List Ent).map enL) false) (.sl 2 xF kF) (.sl 2 (c.stores.map ptL) kS) (.sl 9 xT kT))),(14,.arr (([]:List Int).map fD) 1),(22,.arr (([]:List Bool).map yM) 1)],31⟩) (λ k=>k≤0) (λ k=>0 - k) 0 (λ s=>s) (Weak.of_lists (λ s=>s) wT wH rfl) rfl (aF _) ?_;intro k hk;have hkn:k≤0:=hk;have hkB:k≤1000:=by omega
  refine cSR<|rW (vB (decide (k<0))) rfl (okB (ltN _ _))<|rE 32<|aE ?_;refine aU rfl (λ h2=>by exact absurd (of_decide_eq_true h2) (dX _)) (λ _=>?_);refine eA<| .mk _ (.step (some (14,1,([]:List Int).map fD)) (Ghost.of_lists (l:=[(0,.ptr 0 0),(14,vB (c.halt != 0)),(3,.sl 1 (([]:List Int).map fD) false),(4,.osl 22 0 0 false),(2,vB false),(36,vB (decide (k<0)))]) (hp:=[(0,.box (mcX c (.sl 17 (([]:List Ent).map enL) false) (.sl 2 xF kF) (.sl 2 (c.stores.map ptL) kS) (.sl 9 xT kT))),(22,.arr (([]:List Bool).map yM) 1)]) rfl rfT rbT) (.step (some (22,1,([]:List Bool).map yM)) (Ghost.of_lists (l:=[(0,.ptr 0 0),(14,vB (c.halt != 0)),(3,.sl 1 (([]:List Int).map fD) false),(4,.sl 1 (([]:List Bool).map yM) false),(2,vB false),(36,vB (decide (k<0)))]) (hp:=[(0,.box (mcX c (.sl 17 (([]:List Ent).map enL) false) (.sl 2 xF kF) (.sl 2 (c.stores.map ptL) kS) (.sl 9 xT kT)))]) rfl rfT rbT) (.refl _)))<|cSR<|oR 9 rfl<|rCi rfl (Wg c.conf.width false [] [] false false (by decide) (by decide))<|rW (vN 0) rfl (sJ PG ([]:List Nat) omT)<|oR 1 rfl<|rE 44<|bI<|qW (κ:=Nat) (λ j=>⟨cI [(0,.ptr 0 0),(14,vB (c.halt != 0)),(36,vB (decide (k<0))),(72,.sl 1 (([]:List Nat).map PG) false),(73,vN 0),(74,vN j)],heapF [(0,.box (mcX c (.sl 17 (([]:List Ent).map enL) false) (.sl 2 xF kF) (.sl 2 (c.stores.map ptL) kS) (.sl 9 xT kT)))],44⟩) (λ j=>j≤0) (λ j=>0 - j) 0 (λ s=>s) (Weak.of_lists (λ s=>s) wT wH rfl) rfl (aF _) ?_;intro j hj;have hjn:j≤0:=hj;have hjB:j≤1000:=by omega
  refine cSR<|rW (vB (decide (j<0))) rfl (okB (ltN _ _))<|rE 45<|aE ?_;refine aU rfl (λ h3=>by exact absurd (of_decide_eq_true h3) (dX _)) (λ _=>?_);refine eA ?_;have e:fJ c=c:=by unfold fJ DV IC;rw[h0];split<;>rfl
  rw[e];exact oX (rs:=[]) rfl (σ:=λ z=>z) ⟨rfl,rfl⟩ rfl (cF (λ z=>z) rfl rfl wH rfl)
def Sw(s:Nat)(c:Co)(F S T:AV)(h':AH):Prop:=
 (c.rob=[]∧h'=heapF [(0,.box (mcX c (.sl 17 [] false) F S T))])∨
 ∃ (b:Nat) (A B:List Ent) (k:Bool),(b=1∧1<s∨b=s)∧A.length+c.rob.length+B.length≤1000∧h'=heapF [(0,.box (mcX c (.osl b A.length c.rob.length k) F S T)),(b,.arr ((A++c.rob++B).map enL) 17)]
theorem yG{c:Co}{R F S S' T T':AV}(hS:S=S')(hT:T=T'):some (Blk.box (mcX c R F S T))=some (Blk.box (mcX c R F S' T')):=by rw[hS,hT]
theorem cV{e:Ent}(h:e.ok):(aP e).ok:=by
 have hz:(0:Nat)≤4294967295:=aF _;have hv:(if wr e.i≠0 then e.value else 0)≤4294967295:=by
  split
  ·exact h.value
  ·exact hz
 have ha:(if e.halt=4∨e.halt=5 then e.addr else 0)≤4294967295:=by
  split
  ·exact h.addr
  ·exact hz
 unfold aP
 repeat' split
 all_goals first
  |exact⟨h.pc,h.pc,hz,ha⟩
  |exact⟨h.pc,yJ _,h.value,h.addr⟩
  |exact⟨h.pc,yJ _,hv,h.addr⟩
  |exact⟨h.pc,yJ _,hv,hz⟩
  |exact⟨h.pc,h.next,hv,hz⟩
  |(refine⟨h.pc,?_,?_,?_⟩<;>first|exact yJ _|exact h.next|exact h.pc|exact hz|exact h.value|exact h.addr)
theorem Ij{s:Sp}(h:(gE s).isSome=true):s.store=true∧s.halt=0∧(gE s).getD ⟨0,mH⟩=⟨s.addr,rP s.value s.size.toNat⟩:=by
 unfold gE at h⊢;split at h
 ·cases h
 ·rename_i hq;rw[if_neg hq];refine⟨?_,?_,rfl⟩
  ·cases hs:s.store with
   |true=>rfl
   |false=>exact absurd (.inl hs) hq
  ·exact Classical.byContradiction λ e=>hq (.inr (.inl e))
theorem Mn{s:Sp}(h:s.ok):((gE s).getD ⟨0,mH⟩).ok:=by
 unfold gE;split
 ·exact⟨aF _⟩
 ·exact⟨h.addr⟩
theorem Ob{r:Nat→Nat}{s:Sp}(hr:∀ k,r k≤4294967295)(hs:s.ok)(k:Nat):gD r s k≤4294967295:=by
 unfold gD;split
 ·unfold Ua;split
  ·exact hs.value
  ·exact hr k
 ·exact hr k
theorem Mo{g:Gu}{pc next:Nat}{i:SI}(h:g.ok)(hR:rH g=true)(hpc:pc≤4294967295)(hn:next≤4294967295):(dY g pc next i).ok∧rH (dY g pc next i)=true:=by
 obtain⟨h1,h2,h3⟩:=Um.1 hR;have happ:∀ x∈g.rets++[up4 pc],x≤4294967295:=nQ (P:=λ x=>x≤4294967295) h.ro (nU (P:=λ x=>x≤4294967295) (yJ pc));unfold dY;split
 ·have hs:∀ x∈g.slots.set (gL g pc) ⟨pc,next⟩,x.ok:=xN (P:=Gs.ok) h.so ⟨hpc,hn⟩;have hh:(2 * g.hist+(if next≠up4 pc then 1 else 0)) % 8<8:=bG _ (by decide);refine⟨⟨?_,?_,?_,hs,?_⟩,Um.2 ⟨?_,hh,?_⟩⟩
  ·show (g.slots.set _ _).length≤_;rw[bV,h1];decide
  ·dsimp only;repeat' split
   ·rw[bA,aY,jU];omega
   ·rw[aY,jU];omega
   ·rw[nI];omega
   ·omega
  ·exact aL (Nat.le_of_lt hh) (by decide)
  ·dsimp only;repeat' split
   ·exact GJ (P:=λ x=>x≤4294967295) happ
   ·exact happ
   ·intro x hx;exact h.ro x (nJ _ hx)
   ·exact h.ro
  ·show (g.slots.set _ _).length=8;rw[bV,h1]
  ·dsimp only;repeat' split
   ·rename_i q1 q2;rw[bA];rw[aY,jU]at q2⊢;omega
   ·rename_i q1 q2;omega
   ·rw[nI];omega
   ·exact h3
 ·exact⟨h,hR⟩
theorem fP{c:Co}{s:Sp}(h:(gE s).isSome=true):(bK c s).stores=c.stores++[(gE s).getD ⟨0,mH⟩]:=by
 unfold bK;obtain⟨p,hp⟩:=Ep.1 h;rw[hp];rfl
theorem jE{c:Co}{s:Sp}(h:(gE s).isSome=false):(bK c s).stores=c.stores:=by
 unfold bK;have hp:gE s=none:=by simpa using h
 rw[hp]
theorem Ik{s:Sp}:((gE s).getD ⟨0,mH⟩).data.size≤4:=by
 unfold gE;split
 ·exact aF _
 ·show (rP s.value s.size.toNat).size≤4;rw[xW];omega
theorem lX{c:Co}{n:Nat}{s:Sp}(h:c.okM n)(hb:n+1≤890000)(hs:s.ok)(hst:s.store=true→c.stores.length≤999):(bK c s).okM (n+1):=by
 have hS:(bK c s).stores.length≤1000∧(∀ x∈(bK c s).stores,x.ok)∧∀ x∈(bK c s).stores,x.data.size≤4:=by
  cases hq:(gE s).isSome with
  |true=>
   rw[fP hq];have:=hst (Ij hq).1
   exact⟨by simp;omega,nQ h.ok.stoo (nU (P:=Pt.ok) (Mn hs)),λ x hx=>(al_List_mem_append.1 hx).elim (h.std x) λ hx=>tM.1 hx ▸ Ik⟩
  |false=>rw[jE hq];exact⟨h.sto,h.ok.stoo,h.std⟩
 have hr:(c.retired++[s]).length≤n+1:=by have:=h.ok.ret;simp;omega
 exact⟨⟨h.ok.conf,h.ok.prog,h.ok.progo,h.ok.r,h.ok.fetch,h.ok.fet,h.ok.feto,h.ok.rob,h.ok.robo,aL hS.1 (by decide),hS.2.1,h.ok.data,h.ok.words,pT h.ok.bus,h.ok.buso,h.ok.asked,h.ok.guessed,h.ok.mem,h.ok.guess,hr,nQ h.ok.reto (nU (P:=Sp.ok) hs)⟩,hb,h.cf,h.data,h.words,h.guess,h.rob,h.fet,hS.1,h.prog,h.mem,hS.2.2⟩
def DE(c:Co)(line:Nat):Co:={c with data:=(cJ c line).data,bus:=(cJ c line).bus,asked:=(cJ c line).asked}
theorem pY(c:Co)(line:Nat):DE c line=cJ c line:=by
 unfold DE cJ;generalize gK c.data c.bus c.mem line (jM c.conf c.asked)=t;obtain⟨d,q,a⟩:=t;rfl
def tF(d:Co)(e:Ent):Co:={bK d (aP e)with r:=gD d.r (aP e),guess:=dY d.guess (aP e).pc (aP e).next e.i,rob:=d.rob.drop 1}
def tG(d:Co)(e:Ent):Co:={DE (bK d (aP e)) (aP e).addr with r:=gD d.r (aP e),guess:=dY d.guess (aP e).pc (aP e).next e.i,rob:=d.rob.drop 1}
theorem jJ{d:Co}{n:Nat}(h:d.halt≠0∨d.rob.length=0):dV n d=d:=by
 cases n with
 |zero=>rfl
 | succ n=>
  unfold dV;by_cases h1:d.halt≠0
  ·exact if_pos h1
  ·rw[if_neg h1];have hz:d.rob=[]:=bF (h.resolve_left h1);rw[hz]
theorem eV{d:Co}{n:Nat}{e:Ent}(hn:0<n)(h: ¬ d.halt≠0)(he:d.rob[0]?=some e):dV n d=if e.is≠3 then d else if (aP e).halt≠0 then iS d (aP e)else if (aP e).store=true∧(d.stores.length:Int)≥d.conf.stores then d else dV (n - 1) (wP d e (aP e) (d.rob.drop 1)):=by
 cases n with
 |zero=>cases hn
 |succ n=>
  conv=>lhs;unfold dV
  rw[if_neg h]
  cases hz:d.rob with
  |nil=>rw[hz]at he;cases he
  |cons y l=>rw[hz]at he;injection he with he;subst he;rfl
theorem rA{d:Co}{e:Ent}(h: ¬ kindOf e.i.op=3):wP d e (aP e) (d.rob.drop 1)=tF d e:=by
 unfold wP BS tF;rw[if_neg h]
theorem rB{d:Co}{e:Ent}(h:kindOf e.i.op=3):wP d e (aP e) (d.rob.drop 1)=tG d e:=by
 unfold wP BS tG;rw[if_pos h,pY]
theorem Il{d x:Co}{n:Nat}{e:Ent}(hx:x.okM n)(hd:d.okM n)(he:e.ok)(hr:x.rob=d.rob):Co.okM {x with r:=gD d.r (aP e),guess:=dY d.guess (aP e).pc (aP e).next e.i,rob:=d.rob.drop 1} n:=by
 have hs:=cV he;have hg:=Mo (i:=e.i) hd.ok.guess hd.guess hs.pc hs.next;have hl:(d.rob.drop 1).length≤1000:=by have:=hd.rob;rw[bA];omega
 exact⟨⟨hx.ok.conf,hx.ok.prog,hx.ok.progo,Ob hd.ok.r hs,hx.ok.fetch,hx.ok.fet,hx.ok.feto,aL hl (by decide),GJ hd.ok.robo,hx.ok.sto,hx.ok.stoo,hx.ok.data,hx.ok.words,hx.ok.bus,hx.ok.buso,hx.ok.asked,hx.ok.guessed,hx.ok.mem,hg.1,hx.ok.ret,hx.ok.reto⟩,hx.nb,hx.cf,hx.data,hx.words,hg.2,hl,hx.fet,hx.sto,hx.prog,hx.mem,hx.std⟩
theorem sE{d:Co}{n:Nat}{e:Ent}(hd:d.okM n)(hb:n+2≤890000)(he:e.ok)(hst:(aP e).store=true→d.stores.length≤999):(tF d e).okM (n+2):=
 Il ((lX hd omT (cV he) hst).mono omT hb) (hd.mono omT hb) he rfl
theorem sF{d:Co}{n:Nat}{e:Ent}(hd:d.okM n)(hb:n+2≤890000)(he:e.ok)(hst:(aP e).store=true→d.stores.length≤999):(tG d e).okM (n+2):=by
 have h:=DI (lX hd omT (cV he) hst) omT (cV he).addr;rw[←pY]at h;exact Il h (hd.mono omT hb) he rfl
end Go.Proofs.YtlhofpglndhfaaaGreatDoor
