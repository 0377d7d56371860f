/- Joined texts. -/
import Derived.RangeFuncNested
import Derived.RangeFuncLeaves
import Derived.TacticsIn
import Derived.OrdersIn
import Derived.Scope
import Derived.Test.YtlhofpglndhfaaaGreatDoorS201
import Derived.Test.YtlhofpglndhfaaaGreatDoorS228
import Derived.Test.YtlhofpglndhfaaaGreatDoorS229
import Derived.Test.YtlhofpglndhfaaaGreatDoorS230
set_option linter.unusedVariables false
set_option linter.unusedSimpArgs false
namespace Go.Proofs.YtlhofpglndhfaaaGreatDoor
set_option maxRecDepth 100000
set_option maxHeartbeats 4000000
open Go.RowKit
structure Gu.ok(g:Gu):Prop where
 slots:g.slots.length≤9223372036854775807
 rets:g.rets.length≤9223372036854775807
 hist:g.hist≤4294967295
 so:∀ x∈g.slots,x.ok
 ro:∀ x∈g.rets,x≤4294967295
theorem Ww{g:Gu}:rX g=true↔g.slots.length=8∧g.hist<8∧g.rets.length≤4:=by
 unfold rX;simp only[aH,aS,tY]
theorem YA{r:Bool}{k:Nat}(h:dE (!r) true (k != 5)=false):r=true∧k=5:=by
 cases r<;>simp[dE]at h⊢;exact h
theorem UG{r:Bool}{k:Nat}(h:dE (!r) true (k != 5)=true): ¬ (r=true∧k=5):=by
 cases r<;>simp[dE]at h⊢;exact h
theorem Tn{l:List Nat}{x:Nat}(h:l[l.length - 1]?=some x):l.getLast?.getD 0=x:=by rw[oW,h];rfl
theorem Io(g:Gu)(hok:g.ok):bT C0 49 [.agg (guL g)] (vB (rX g)):=by
 refine bT.intro c0Ok Tryz.func49 rfl rfl (by kernel_rfl) rfl<|cSR<|rAl 0 rfl rfl<|oR 1 rfl<|rE 2<|cSR<|oR 2 rfl<|rW (vN g.slots.length) rfl (cG gsL g.slots)<|rW (vB (g.slots.length==8)) rfl (okB (eqN _ _))<|oR 1 rfl<|gN rfl<|gS rfl id<|gBS (x:=vB (decide (g.hist<8))) rfl id (okB (ltN _ _))<|cS rfl rfl rfl (λ h=>h)<|oR 1 rfl<|gN rfl<|gS rfl id<|gBS (x:=vN g.rets.length) rfl id (cG iI g.rets)<|gBS (x:=vB (decide (g.rets.length≤4))) rfl id (okB (leN _ _))<|cS rfl rfl rfl (λ h=>h)<|oR 1 rfl<|rE 18<|cO ?_;exact fT rfl (dM (by rw[bP];simp[qA,cOr,rX]))
theorem QA(g:Gu)(pc:Nat)(hok:g.ok)(hpc:pc≤4294967295):bT C0 160 [.agg (guL g),vU pc] (vN (gP g pc)):=by
 refine bT.intro c0Ok Tryz.func160 rfl rfl (by kernel_rfl) rfl<|cSR<|rAl 0 rfl rfl<|oR 1 rfl<|rE 2<|cSR<|oR 1 rfl ?_;have b1:pc / 4≤1073741823:=kN hpc;refine nW (vU (pc / 4)) rfl (Fh (IG b1 rfl)) (by decide)<|oR 2 rfl ?_;refine rW (vU ((pc / 4) ^^^ g.hist)) rfl (okI (Xn b1 hok.hist rfl rfl)) ?_;have b3:((pc / 4) ^^^ g.hist) % 8≤7:=aT (aY _ (by decide));refine nW (vU (((pc / 4) ^^^ g.hist) % 8)) rfl rfl (by decide)<|rW (vN (((pc / 4) ^^^ g.hist) % 8)) rfl (okI (bU b3 rfl))<|oR 1 rfl<|rE 10<|cO ?_;exact fT rfl (YZ rfl)
theorem JK(g:Gu)(pc:Nat):gP g pc≤7:=by unfold gP;omega
theorem QB(i:SI)(hi:i.imm≤4294967295):bT C0 161 [siA i] (vB (Qf i)):=by
 refine bT.intro c0Ok Tryz.func161 rfl rfl (by kernel_rfl) rfl<|cSR<|rAl 0 rfl rfl<|oR 1 rfl<|rE 2<|cSR<|oR 2 rfl<|rV (vB (i.op==3)) rfl<|oR 1 rfl<|gN rfl<|gS rfl id<|gBS (x:=vB (i.op==4)) rfl id rfl<|cS rfl rfl rfl (by simp)<|oR 1 rfl<|gN rfl<|gS rfl id<|gBS (x:=vB (i.rd==1)) rfl id rfl<|cS rfl rfl rfl (λ h=>h)<|oR 1 rfl<|rE 16<|cO ?_;exact fT rfl (dM (by rw[bP];simp[qA,cOr,Qf]))
theorem QC(i:SI)(hi:i.imm≤4294967295):bT C0 162 [siA i] (vB (FB i)):=by
 refine bT.intro c0Ok Tryz.func162 rfl rfl (by kernel_rfl) rfl<|cSR<|rAl 0 rfl rfl<|oR 1 rfl<|rE 2<|cSR<|oR 2 rfl<|rV (vB (i.op==4)) rfl<|oR 1 rfl<|gN rfl<|gS rfl id<|gBS (x:=vB (i.rd==0)) rfl id rfl<|cS rfl rfl rfl (λ h=>h)<|oR 1 rfl<|gN rfl<|gS rfl id<|gBS (x:=vB (i.rs1==1)) rfl id rfl<|cS rfl rfl rfl (λ h=>h)<|oR 1 rfl<|rE 16<|cO ?_;exact fT rfl (dM (by rw[bP];simp[qA,cOr,FB]))
theorem QD(g:Gu)(pc:Nat)(i:SI)(hok:g.ok)(hpc:pc≤4294967295)(hi:i.imm≤4294967295):bT C0 172 [.agg (guL g),vU pc,siA i] (vU (wE g pc i)):=by
 refine dc1 (bT.intro c1Ok Tryz.func172 rfl rfl (by kernel_rfl) rfl ?_);refine cSR<|rAl 0 rfl rfl<|rAl 1 rfl rfl<|oR 1 rfl<|rE 3<|bK<|cSR<|oR 1 rfl<|rCi rfl (Io g hok)<|oR 2 rfl<|gN rfl<|lX (x:=vN (kindOf i.op)) (g:= !(!(rX g))) rfl rfl rfl rfl (λ h=>h) rfl rfl rfl (.inl rfl) rfl (λ hg=>qR i)<|gBS (x:=vB ((kindOf i.op) != 5)) rfl id (okB (neN _ _))<|cS rfl rfl rfl (by simp)<|rE 11<|aV rfl (λ h1=>?_) (λ h1=>?_)
 ·have hN:=UG h1;refine cSR<|oR 1 rfl ?_;have b1:(pc+4) % 4294967296≤4294967295:=aT (aY _ (by decide));refine rV (vU ((pc+4) % 4294967296)) rfl<|oR 1 rfl<|rE 14<|cO ?_;exact fT rfl (Gq (by unfold wE;rw[if_neg hN];rfl))
 ·have hR:=YA h1;have hR1:=Ww.1 hR.1;have hR2:=hR1.1;have hS:=JK g pc;have hR3:=hR1.2.2;refine bB<|bK<|cSR<|oR 2 rfl<|rW (vN g.rets.length) rfl (cG iI g.rets)<|oR 1 rfl<|rE 15<|cSR<|oR 1 rfl<|rCi rfl (QC i hi)<|oR 1 rfl<|gN rfl<|gBS (x:=vB (decide (g.rets.length>0))) rfl id (okB (gtN _ _))<|cS rfl rfl rfl (λ h=>h)<|rE 21<|aV rfl (λ h2=>?_) (λ h2=>?_)
  ·have hB:FB i=true∧0<g.rets.length:=by simpa [qA]using h2
   have hB2:=hB.2;refine cSR<|oR 3 rfl ?_;have b2:g.rets.length - 1≤9223372036854775807:=aL (jT _ _) hok.rets;refine rW (vN (g.rets.length - 1)) rfl (okI (CZ omT hok.rets rfl)) ?_;obtain⟨rx,hrx⟩:∃ x,g.rets[(g.rets.length - 1)]?=some x:=⟨_,aA omT⟩;have hrxo:=hok.ro rx (aB hrx);refine rIx (iI rx) (.dp 1 0 (iI rx)) rfl rfl (jH hrx) rfl<|oR 2 rfl<|rE 28<|cO ?_;exact fT rfl (Gq (by unfold wE;rw[if_pos hR,if_pos hB,Tn hrx]))
  ·have hB: ¬ (FB i=true∧0<g.rets.length):=by simpa [qA]using h2
   refine bB<|cSR<|oR 4 rfl<|rCi rfl (QA g pc hok hpc) ?_;obtain⟨sx,hsx⟩:∃ x,g.slots[(gP g pc)]?=some x:=⟨_,aA omT⟩;have hsxo:=hok.so sx (aB hsx);refine rIx (gsL sx) (.dp 2 0 (gsL sx)) rfl rfl (jH hsx) rfl<|oR 1 rfl<|rAl 28 rfl rfl<|rSt rfl<|rE 30<|bK<|cSR<|oR 3 rfl<|rW (vB (sx.pc==pc)) rfl (okB (eqN _ _))<|oR 1 rfl<|gN rfl<|gB (x:=.agg [.v (.int .u32 0),.v (.int .u32 0)]) rfl rfl<|gBS (x:=vB (!((((sx.pc:Nat):Int)==0)&&((((sx.next:Nat):Int)==0)&&true)))) rfl hsT rfl<|cS rfl rfl rfl (λ h=>h)<|rE 39<|aV rfl (λ h3=>?_) (λ h3=>?_)
   ·refine cSR<|oR 3 rfl<|rE 42<|cO ?_;exact fT rfl (Gq (by unfold wE;rw[if_pos hR,if_neg hB];have z:=h3;simp[qA]at z;simp[hsx,up4,z]<;>(intros;simp_all)))
   ·refine bB<|cSR<|oR 1 rfl ?_;have b3:(pc+4) % 4294967296≤4294967295:=aT (aY _ (by decide));refine rV (vU ((pc+4) % 4294967296)) rfl<|oR 1 rfl<|rE 42<|cO ?_;exact fT rfl (Gq (by unfold wE;rw[if_pos hR,if_neg hB];have z:=h3;simp[qA]at z;simp[hsx,up4,z]<;>(intros;simp_all)))
theorem AF(g:Gu)(pc next:Nat)(i:SI)(hok:g.ok)(hpc:pc≤4294967295)(hnext:next≤4294967295)(hi:i.imm≤4294967295):bT C0 108 [.agg (guL g),vU pc,vU next,siA i] (.agg (guL (gW g pc next i))):=by
 refine dc1 (bT.intro c1Ok Tryz.func108 rfl rfl (by kernel_rfl) rfl ?_);refine cSR<|rAl 0 rfl rfl<|rAl 1 rfl rfl<|rAl 2 rfl rfl<|rE 3<|bK<|cSR<|oR 1 rfl<|rCi rfl (Io g hok)<|oR 2 rfl<|gN rfl<|lX (x:=vN (kindOf i.op)) (g:= !(!(rX g))) rfl rfl rfl rfl (λ h=>h) rfl rfl rfl (.inl rfl) rfl (λ hg=>qR i)<|gBS (x:=vB ((kindOf i.op) != 5)) rfl id (okB (neN _ _))<|cS rfl rfl rfl (by simp)<|rE 11<|aV rfl (λ h1=>?_) (λ h1=>?_)
 ·have hN:=UG h1;refine cSR<|oR 1 rfl<|rSt rfl<|rE 13<|cO<|eQ rfl tvT rfl ?_;show AV.agg [.sl 2 (g.slots.map gsL) false,vU g.hist,.sl 1 (g.rets.map iI) false]=_;refine congrArg (λ z=>AV.agg (guL z)) (?_:g=gW g pc next i);unfold gW;rw[if_neg hN]
 ·have hR:=YA h1;have hR1:=Ww.1 hR.1;have hR2:=hR1.1;have hS:=JK g pc;have hR3:=hR1.2.2;refine bB<|cSR<|rFx (x:=.osl 11 0 8 false) (h':=upd _ 11 (some (.arr ((List.replicate 8 (⟨0,0⟩:Gs)).map gsL) 2))) rfl rfl (Qc (gM (f:=gsL) (a:=(⟨0,0⟩:Gs))).symm) (⟨by decide,by decide,by show ((8:Nat):Int)≤1000000;omega⟩)<|oR 1 rfl<|rE 13<|cSR<|oR 3 rfl<|rFx (x:=vI ((min ((g.slots.map gsL).length) (8):Nat):Int)) (h':=upd _ 11 (some (.arr (g.slots.map gsL) 2))) rfl rfl (Ic (DD gsL ((List.replicate 8 (⟨0,0⟩:Gs)).map gsL) g.slots omT omT)) (⟨by exact omT,trivial⟩)<|rE 17<|cSR<|oR 3 rfl<|rCi rfl (QA g pc hok hpc)<|oR 2 rfl<|rV (.agg [vU pc,vU next]) rfl<|nW (.ptr2 11 (0+(gP g pc)) 0) rfl rfl ixT ?_;obtain⟨sx,hsx⟩:∃ x,g.slots[(gP g pc)]?=some x:=⟨_,aA omT⟩;have hsxo:=hok.so sx (aB hsx);have hx1:(g.slots.set (gP g pc) (⟨pc,next⟩:Gs))[(gP g pc)]?=some (⟨pc,next⟩:Gs):=aW omT;refine oS (gsL sx) (h':=upd _ 11 (some (.arr ((g.slots.set (gP g pc) (⟨pc,next⟩:Gs)).map gsL) 2))) rfl rfl rfl (⟨aF _,IB (jH hsx)⟩) (vE (f:=gsL) (l:=g.slots) (k:=(gP g pc)) (x:=(⟨pc,next⟩:Gs)))<|rE 26<|cSR<|oR 2 rfl ?_;have b1:(2 * g.hist) % 4294967296≤4294967295:=aT (aY _ (by decide));refine rV (vU ((2 * g.hist) % 4294967296)) rfl<|oR 1 rfl<|rE 30<|bK<|cSR<|oR 2 rfl ?_;have b2:(pc+4) % 4294967296≤4294967295:=aT (aY _ (by decide));refine rV (vU ((pc+4) % 4294967296)) rfl<|rW (vB (next != ((pc+4) % 4294967296))) rfl (okB (neN _ _))<|rE 34<|aV rfl (λ h2=>?_) (λ h2=>?_)
  ·have h2p:=wN h2;refine cRg<|oR 1 rfl ?_;have b3:(((2 * g.hist) % 4294967296)+1) % 4294967296≤4294967295:=aT (aY _ (by decide));refine rV (vU ((((2 * g.hist) % 4294967296)+1) % 4294967296)) rfl<|oR 1 rfl<|rE 37<|cSR<|rFx (x:=.osl 37 0 0 false) (h':=upd _ 37 (some (.arr (([]:List Nat).map iI) 1))) rfl rfl (rfl) (⟨by decide,by decide,by show ((5:Nat):Int)≤1000000;omega⟩)<|oR 1 rfl<|rE 39<|cSR<|oR 3 rfl<|rFx (x:=.osl 42 0 g.rets.length false) (h':=upd (upd _ 37 none) 42 (some (.arr (g.rets.map iI) 1))) rfl rfl (gT iI ([]:List Nat) g.rets omT omT) (⟨by exact omT,by exact omT,trivial⟩)<|oR 1 rfl<|rE 44<|bK<|bK<|cRg<|oR 1 rfl<|rV (vN g.rets.length) rfl<|oR 1 rfl<|rE 47<|bL<|cSR<|oR 1 rfl<|rCi rfl (QB i hi)<|oR 1 rfl<|rE 50<|aV rfl (λ h3=>?_) (λ h3=>?_)
   ·refine cSR<|oR 2 rfl ?_;have b4:(pc+4) % 4294967296≤4294967295:=aT (aY _ (by decide));refine rV (vU ((pc+4) % 4294967296)) rfl<|rV (.sl 1 ([[vU ((pc+4) % 4294967296)]]) true) rfl<|rFx (x:=.osl 54 0 (g.rets.length+1) false) (h':=upd (upd _ 42 none) 54 (some (.arr ((g.rets++([(pc+4) % 4294967296])).map iI) 1))) rfl rfl (gT iI g.rets ([(pc+4) % 4294967296]) omT omT) (⟨by exact omT,by exact omT,trivial⟩)<|oR 1 rfl<|rE 56<|cSR<|oR 1 rfl<|rV (vN (g.rets.length+1)) rfl<|rW (vB (decide ((g.rets.length+1)>4))) rfl (okB (gtN _ _))<|rE 59<|aV rfl (λ h4=>?_) (λ h4=>?_)
    ·have h4p:=of_decide_eq_true h4;refine cRg<|oR 1 rfl<|nW (.osl 54 1 (g.rets.length+1 - 1) false) rfl (Lc (by first|rfl|omega) (by simp only[Option.getD];omega)) slT<|oR 1 rfl<|rE 62<|cSR<|oR 2 rfl ?_;have b5:((((2 * g.hist) % 4294967296)+1) % 4294967296) % 8≤7:=aT (aY _ (by decide));refine nW (vU (((((2 * g.hist) % 4294967296)+1) % 4294967296) % 8)) rfl rfl (by decide)<|oR 1 rfl<|rV (.agg [.osl 11 0 8 false,vU (((((2 * g.hist) % 4294967296)+1) % 4294967296) % 8),.osl 54 1 (g.rets.length+1 - 1) false]) rfl<|rSt rfl<|rE 68<|cO<|eQ rfl ⟨(by show 0+8≤((g.slots.set (gP g pc) (⟨pc,next⟩:Gs)).map gsL).length;exact omT),trivial,(by show 1+(g.rets.length+1 - 1)≤((g.rets++([(pc+4) % 4294967296])).map iI).length;exact omT),trivial⟩ rfl ?_;show AV.agg [.sl 2 (List.take 8 (List.drop 0 ((g.slots.set (gP g pc) (⟨pc,next⟩:Gs)).map gsL))) false,vU (((((2 * g.hist) % 4294967296)+1) % 4294967296) % 8),.sl 1 (List.take (g.rets.length+1 - 1) (List.drop 1 ((g.rets++([(pc+4) % 4294967296])).map iI))) false]=_;rw[jQ gsL (g.slots.set (gP g pc) (⟨pc,next⟩:Gs)) omT,BS (M:=(g.rets++([(pc+4) % 4294967296])).drop 1) iI (g.rets++([(pc+4) % 4294967296])) (aM omT)];refine congrArg (λ z=>AV.agg (guL z)) (?_:(⟨g.slots.set (gP g pc) (⟨pc,next⟩:Gs),((((2 * g.hist) % 4294967296)+1) % 4294967296) % 8,(g.rets++([(pc+4) % 4294967296])).drop 1⟩:Gu)=gW g pc next i);unfold gW;rw[if_pos hR];have z:=h2;have z0:=h3;have z1:=h4;have hu:up4 pc=(pc+4) % 4294967296:=rfl;rw[hu]
     try simp[qA]at z z0 z1
     simp[z,z0,z1,eB]<;>(intros;first|omega|simp_all)
    ·have h4p:=aE h4;refine bB<|cSR<|oR 2 rfl ?_;have b6:((((2 * g.hist) % 4294967296)+1) % 4294967296) % 8≤7:=aT (aY _ (by decide));refine nW (vU (((((2 * g.hist) % 4294967296)+1) % 4294967296) % 8)) rfl rfl (by decide)<|oR 1 rfl<|rV (.agg [.osl 11 0 8 false,vU (((((2 * g.hist) % 4294967296)+1) % 4294967296) % 8),.osl 54 0 (g.rets.length+1) false]) rfl<|rSt rfl<|rE 65<|cO<|eQ rfl ⟨(by show 0+8≤((g.slots.set (gP g pc) (⟨pc,next⟩:Gs)).map gsL).length;exact omT),trivial,(by show 0+(g.rets.length+1)≤((g.rets++([(pc+4) % 4294967296])).map iI).length;exact omT),trivial⟩ rfl ?_;show AV.agg [.sl 2 (List.take 8 (List.drop 0 ((g.slots.set (gP g pc) (⟨pc,next⟩:Gs)).map gsL))) false,vU (((((2 * g.hist) % 4294967296)+1) % 4294967296) % 8),.sl 1 (List.take (g.rets.length+1) (List.drop 0 ((g.rets++([(pc+4) % 4294967296])).map iI))) false]=_;rw[jQ gsL (g.slots.set (gP g pc) (⟨pc,next⟩:Gs)) omT,jQ iI (g.rets++([(pc+4) % 4294967296])) omT];refine congrArg (λ z=>AV.agg (guL z)) (?_:(⟨g.slots.set (gP g pc) (⟨pc,next⟩:Gs),((((2 * g.hist) % 4294967296)+1) % 4294967296) % 8,g.rets++([(pc+4) % 4294967296])⟩:Gu)=gW g pc next i);unfold gW;rw[if_pos hR];have z:=h2;have z0:=h3;have z1:=h4;have hu:up4 pc=(pc+4) % 4294967296:=rfl;rw[hu]
     try simp[qA]at z z0 z1
     simp[z,z0,z1,eB]<;>(intros;first|omega|simp_all)
   ·refine cSR<|oR 1 rfl<|rCi rfl (QC i hi)<|oR 1 rfl<|gN rfl<|gBS (x:=vB (decide (g.rets.length>0))) rfl id (okB (gtN _ _))<|cS rfl rfl rfl (λ h=>h)<|oR 1 rfl<|rE 57<|aV rfl (λ h5=>?_) (λ h5=>?_)
    ·have hB:FB i=true∧0<g.rets.length:=by simpa [qA]using h5
     have hB2:=hB.2;refine cRg<|oR 2 rfl ?_;have b7:g.rets.length - 1≤9223372036854775807:=aL (jT _ _) hok.rets;refine rW (vN (g.rets.length - 1)) rfl (okI (CZ omT hok.rets rfl))<|nW (.osl 42 0 (g.rets.length - 1) false) rfl (Lc (by first|rfl|omega) (by simp only[Option.getD];omega)) slT<|oR 1 rfl<|rE 62<|cSR<|oR 2 rfl ?_;have b8:((((2 * g.hist) % 4294967296)+1) % 4294967296) % 8≤7:=aT (aY _ (by decide));refine nW (vU (((((2 * g.hist) % 4294967296)+1) % 4294967296) % 8)) rfl rfl (by decide)<|oR 1 rfl<|rV (.agg [.osl 11 0 8 false,vU (((((2 * g.hist) % 4294967296)+1) % 4294967296) % 8),.osl 42 0 (g.rets.length - 1) false]) rfl<|rSt rfl<|rE 68<|cO<|eQ rfl ⟨(by show 0+8≤((g.slots.set (gP g pc) (⟨pc,next⟩:Gs)).map gsL).length;exact omT),trivial,(by show 0+(g.rets.length - 1)≤(g.rets.map iI).length;exact omT),trivial⟩ rfl ?_;show AV.agg [.sl 2 (List.take 8 (List.drop 0 ((g.slots.set (gP g pc) (⟨pc,next⟩:Gs)).map gsL))) false,vU (((((2 * g.hist) % 4294967296)+1) % 4294967296) % 8),.sl 1 (List.take (g.rets.length - 1) (List.drop 0 (g.rets.map iI))) false]=_;rw[jQ gsL (g.slots.set (gP g pc) (⟨pc,next⟩:Gs)) omT,BS (M:=g.rets.take (g.rets.length - 1)) iI g.rets (by rw[cH])];refine congrArg (λ z=>AV.agg (guL z)) (?_:(⟨g.slots.set (gP g pc) (⟨pc,next⟩:Gs),((((2 * g.hist) % 4294967296)+1) % 4294967296) % 8,g.rets.take (g.rets.length - 1)⟩:Gu)=gW g pc next i);unfold gW;rw[if_pos hR];have z:=h2;have z0:=h3;have z1:=h5;have hu:up4 pc=(pc+4) % 4294967296:=rfl;rw[hu]
     try simp[qA]at z z0 z1
     simp[z,z0,z1,eB]<;>(intros;first|omega|simp_all)
    ·have hB: ¬ (FB i=true∧0<g.rets.length):=by simpa [qA]using h5
     refine bB<|cSR<|oR 2 rfl ?_;have b9:((((2 * g.hist) % 4294967296)+1) % 4294967296) % 8≤7:=aT (aY _ (by decide));refine nW (vU (((((2 * g.hist) % 4294967296)+1) % 4294967296) % 8)) rfl rfl (by decide)<|oR 1 rfl<|rV (.agg [.osl 11 0 8 false,vU (((((2 * g.hist) % 4294967296)+1) % 4294967296) % 8),.osl 42 0 g.rets.length false]) rfl<|rSt rfl<|rE 63<|cO<|eQ rfl ⟨(by show 0+8≤((g.slots.set (gP g pc) (⟨pc,next⟩:Gs)).map gsL).length;exact omT),trivial,(by show 0+g.rets.length≤(g.rets.map iI).length;exact omT),trivial⟩ rfl ?_;show AV.agg [.sl 2 (List.take 8 (List.drop 0 ((g.slots.set (gP g pc) (⟨pc,next⟩:Gs)).map gsL))) false,vU (((((2 * g.hist) % 4294967296)+1) % 4294967296) % 8),.sl 1 (List.take g.rets.length (List.drop 0 (g.rets.map iI))) false]=_;rw[jQ gsL (g.slots.set (gP g pc) (⟨pc,next⟩:Gs)) omT,jQ iI g.rets omT];refine congrArg (λ z=>AV.agg (guL z)) (?_:(⟨g.slots.set (gP g pc) (⟨pc,next⟩:Gs),((((2 * g.hist) % 4294967296)+1) % 4294967296) % 8,g.rets⟩:Gu)=gW g pc next i);unfold gW;rw[if_pos hR];have z:=h2;have z0:=h3;have z1:=h5;have hu:up4 pc=(pc+4) % 4294967296:=rfl;rw[hu]
     try simp[qA]at z z0 z1
     simp[z,z0,z1,eB]<;>(intros;first|omega|simp_all)
  ·have h2p:=wO h2;refine bB<|cSR<|rFx (x:=.osl 34 0 0 false) (h':=upd _ 34 (some (.arr (([]:List Nat).map iI) 1))) rfl rfl (rfl) (⟨by decide,by decide,by show ((5:Nat):Int)≤1000000;omega⟩)<|oR 1 rfl<|rE 36<|cSR<|oR 3 rfl<|rFx (x:=.osl 39 0 g.rets.length false) (h':=upd (upd _ 34 none) 39 (some (.arr (g.rets.map iI) 1))) rfl rfl (gT iI ([]:List Nat) g.rets omT omT) (⟨by exact omT,by exact omT,trivial⟩)<|oR 1 rfl<|rE 41<|bK<|cSR<|oR 1 rfl<|rV (vN g.rets.length) rfl<|oR 1 rfl<|rE 44<|bL<|cSR<|oR 1 rfl<|rCi rfl (QB i hi)<|oR 1 rfl<|rE 47<|aV rfl (λ h6=>?_) (λ h6=>?_)
   ·refine cSR<|oR 2 rfl ?_;have b10:(pc+4) % 4294967296≤4294967295:=aT (aY _ (by decide));refine rV (vU ((pc+4) % 4294967296)) rfl<|rV (.sl 1 ([[vU ((pc+4) % 4294967296)]]) true) rfl<|rFx (x:=.osl 51 0 (g.rets.length+1) false) (h':=upd (upd _ 39 none) 51 (some (.arr ((g.rets++([(pc+4) % 4294967296])).map iI) 1))) rfl rfl (gT iI g.rets ([(pc+4) % 4294967296]) omT omT) (⟨by exact omT,by exact omT,trivial⟩)<|oR 1 rfl<|rE 53<|cSR<|oR 1 rfl<|rV (vN (g.rets.length+1)) rfl<|rW (vB (decide ((g.rets.length+1)>4))) rfl (okB (gtN _ _))<|rE 56<|aV rfl (λ h7=>?_) (λ h7=>?_)
    ·have h7p:=of_decide_eq_true h7;refine cRg<|oR 1 rfl<|nW (.osl 51 1 (g.rets.length+1 - 1) false) rfl (Lc (by first|rfl|omega) (by simp only[Option.getD];omega)) slT<|oR 1 rfl<|rE 59<|cSR<|oR 2 rfl ?_;have b11:((2 * g.hist) % 4294967296) % 8≤7:=aT (aY _ (by decide));refine nW (vU (((2 * g.hist) % 4294967296) % 8)) rfl rfl (by decide)<|oR 1 rfl<|rV (.agg [.osl 11 0 8 false,vU (((2 * g.hist) % 4294967296) % 8),.osl 51 1 (g.rets.length+1 - 1) false]) rfl<|rSt rfl<|rE 65<|cO<|eQ rfl ⟨(by show 0+8≤((g.slots.set (gP g pc) (⟨pc,next⟩:Gs)).map gsL).length;exact omT),trivial,(by show 1+(g.rets.length+1 - 1)≤((g.rets++([(pc+4) % 4294967296])).map iI).length;exact omT),trivial⟩ rfl ?_;show AV.agg [.sl 2 (List.take 8 (List.drop 0 ((g.slots.set (gP g pc) (⟨pc,next⟩:Gs)).map gsL))) false,vU (((2 * g.hist) % 4294967296) % 8),.sl 1 (List.take (g.rets.length+1 - 1) (List.drop 1 ((g.rets++([(pc+4) % 4294967296])).map iI))) false]=_;rw[jQ gsL (g.slots.set (gP g pc) (⟨pc,next⟩:Gs)) omT,BS (M:=(g.rets++([(pc+4) % 4294967296])).drop 1) iI (g.rets++([(pc+4) % 4294967296])) (aM omT)];refine congrArg (λ z=>AV.agg (guL z)) (?_:(⟨g.slots.set (gP g pc) (⟨pc,next⟩:Gs),((2 * g.hist) % 4294967296) % 8,(g.rets++([(pc+4) % 4294967296])).drop 1⟩:Gu)=gW g pc next i);unfold gW;rw[if_pos hR];have z:=h2;have z0:=h6;have z1:=h7;have hu:up4 pc=(pc+4) % 4294967296:=rfl;rw[hu]
     try simp[qA]at z z0 z1
     simp[z,z0,z1,eB]<;>(intros;first|omega|simp_all)
    ·have h7p:=aE h7;refine bB<|cSR<|oR 2 rfl ?_;have b12:((2 * g.hist) % 4294967296) % 8≤7:=aT (aY _ (by decide));refine nW (vU (((2 * g.hist) % 4294967296) % 8)) rfl rfl (by decide)<|oR 1 rfl<|rV (.agg [.osl 11 0 8 false,vU (((2 * g.hist) % 4294967296) % 8),.osl 51 0 (g.rets.length+1) false]) rfl<|rSt rfl<|rE 62<|cO<|eQ rfl ⟨(by show 0+8≤((g.slots.set (gP g pc) (⟨pc,next⟩:Gs)).map gsL).length;exact omT),trivial,(by show 0+(g.rets.length+1)≤((g.rets++([(pc+4) % 4294967296])).map iI).length;exact omT),trivial⟩ rfl ?_;show AV.agg [.sl 2 (List.take 8 (List.drop 0 ((g.slots.set (gP g pc) (⟨pc,next⟩:Gs)).map gsL))) false,vU (((2 * g.hist) % 4294967296) % 8),.sl 1 (List.take (g.rets.length+1) (List.drop 0 ((g.rets++([(pc+4) % 4294967296])).map iI))) false]=_;rw[jQ gsL (g.slots.set (gP g pc) (⟨pc,next⟩:Gs)) omT,jQ iI (g.rets++([(pc+4) % 4294967296])) omT];refine congrArg (λ z=>AV.agg (guL z)) (?_:(⟨g.slots.set (gP g pc) (⟨pc,next⟩:Gs),((2 * g.hist) % 4294967296) % 8,g.rets++([(pc+4) % 4294967296])⟩:Gu)=gW g pc next i);unfold gW;rw[if_pos hR];have z:=h2;have z0:=h6;have z1:=h7;have hu:up4 pc=(pc+4) % 4294967296:=rfl;rw[hu]
     try simp[qA]at z z0 z1
     simp[z,z0,z1,eB]<;>(intros;first|omega|simp_all)
   ·refine cSR<|oR 1 rfl<|rCi rfl (QC i hi)<|oR 1 rfl<|gN rfl<|gBS (x:=vB (decide (g.rets.length>0))) rfl id (okB (gtN _ _))<|cS rfl rfl rfl (λ h=>h)<|oR 1 rfl<|rE 54<|aV rfl (λ h8=>?_) (λ h8=>?_)
    ·have hB:FB i=true∧0<g.rets.length:=by simpa [qA]using h8
     have hB2:=hB.2;refine cRg<|oR 2 rfl ?_;have b13:g.rets.length - 1≤9223372036854775807:=aL (jT _ _) hok.rets;refine rW (vN (g.rets.length - 1)) rfl (okI (CZ omT hok.rets rfl))<|nW (.osl 39 0 (g.rets.length - 1) false) rfl (Lc (by first|rfl|omega) (by simp only[Option.getD];omega)) slT<|oR 1 rfl<|rE 59<|cSR<|oR 2 rfl ?_;have b14:((2 * g.hist) % 4294967296) % 8≤7:=aT (aY _ (by decide));refine nW (vU (((2 * g.hist) % 4294967296) % 8)) rfl rfl (by decide)<|oR 1 rfl<|rV (.agg [.osl 11 0 8 false,vU (((2 * g.hist) % 4294967296) % 8),.osl 39 0 (g.rets.length - 1) false]) rfl<|rSt rfl<|rE 65<|cO<|eQ rfl ⟨(by show 0+8≤((g.slots.set (gP g pc) (⟨pc,next⟩:Gs)).map gsL).length;exact omT),trivial,(by show 0+(g.rets.length - 1)≤(g.rets.map iI).length;exact omT),trivial⟩ rfl ?_;show AV.agg [.sl 2 (List.take 8 (List.drop 0 ((g.slots.set (gP g pc) (⟨pc,next⟩:Gs)).map gsL))) false,vU (((2 * g.hist) % 4294967296) % 8),.sl 1 (List.take (g.rets.length - 1) (List.drop 0 (g.rets.map iI))) false]=_;rw[jQ gsL (g.slots.set (gP g pc) (⟨pc,next⟩:Gs)) omT,BS (M:=g.rets.take (g.rets.length - 1)) iI g.rets (by rw[cH])];refine congrArg (λ z=>AV.agg (guL z)) (?_:(⟨g.slots.set (gP g pc) (⟨pc,next⟩:Gs),((2 * g.hist) % 4294967296) % 8,g.rets.take (g.rets.length - 1)⟩:Gu)=gW g pc next i);unfold gW;rw[if_pos hR];have z:=h2;have z0:=h6;have z1:=h8;have hu:up4 pc=(pc+4) % 4294967296:=rfl;rw[hu]
     try simp[qA]at z z0 z1
     simp[z,z0,z1,eB]<;>(intros;first|omega|simp_all)
    ·have hB: ¬ (FB i=true∧0<g.rets.length):=by simpa [qA]using h8
     refine bB<|cSR<|oR 2 rfl ?_;have b15:((2 * g.hist) % 4294967296) % 8≤7:=aT (aY _ (by decide));refine nW (vU (((2 * g.hist) % 4294967296) % 8)) rfl rfl (by decide)<|oR 1 rfl<|rV (.agg [.osl 11 0 8 false,vU (((2 * g.hist) % 4294967296) % 8),.osl 39 0 g.rets.length false]) rfl<|rSt rfl<|rE 60<|cO<|eQ rfl ⟨(by show 0+8≤((g.slots.set (gP g pc) (⟨pc,next⟩:Gs)).map gsL).length;exact omT),trivial,(by show 0+g.rets.length≤(g.rets.map iI).length;exact omT),trivial⟩ rfl ?_;show AV.agg [.sl 2 (List.take 8 (List.drop 0 ((g.slots.set (gP g pc) (⟨pc,next⟩:Gs)).map gsL))) false,vU (((2 * g.hist) % 4294967296) % 8),.sl 1 (List.take g.rets.length (List.drop 0 (g.rets.map iI))) false]=_;rw[jQ gsL (g.slots.set (gP g pc) (⟨pc,next⟩:Gs)) omT,jQ iI g.rets omT];refine congrArg (λ z=>AV.agg (guL z)) (?_:(⟨g.slots.set (gP g pc) (⟨pc,next⟩:Gs),((2 * g.hist) % 4294967296) % 8,g.rets⟩:Gu)=gW g pc next i);unfold gW;rw[if_pos hR];have z:=h2;have z0:=h6;have z1:=h8;have hu:up4 pc=(pc+4) % 4294967296:=rfl;rw[hu]
     try simp[qA]at z z0 z1
     simp[z,z0,z1,eB]<;>(intros;first|omega|simp_all)
theorem HG(i:SI):RB i=true↔okE ⟨i.op,i.rd,i.rs1,i.rs2,i.imm⟩:=by
 unfold RB okE;simp only[aH,aS];obtain⟨op,rd,rs1,rs2,imm⟩:=i;constructor
 ·rintro ⟨⟨⟨⟨⟨⟨h1,h2⟩,h3⟩,h4⟩,h5⟩,h6⟩,h7⟩;refine⟨h1,h2,?_⟩;generalize lY op (wG ⟨op,rd,rs1,rs2,imm⟩)=r at h3 h4 h5 h6 h7⊢;obtain⟨a,b,c,d,e⟩:=r;simp only at h3 h4 h5 h6 h7;subst h3 h4 h5 h6 h7;rfl
 ·rintro ⟨h1,h2,h3⟩;simp only at h3;refine⟨⟨⟨⟨⟨⟨h1,h2⟩,?_⟩,?_⟩,?_⟩,?_⟩,?_⟩<;>rw[h3]
theorem VT(i:SI)(hi:i.imm<4294967296):bT C0 145 [siA i] (.tup [.v (.int .u32 ((if RB i=true then wG ⟨i.op,i.rd,i.rs1,i.rs2,i.imm⟩else 0:Nat):Int)),.v (.int .i64 (if RB i=true then 0 else 1))]):=by
 by_cases h:RB i=true
 ·rw[if_pos h,if_pos h];exact .of_tupG Tryz.func145 rfl rfl rfl rfl λ S w hG=>Qx CF i.op i.rd i.rs1 i.rs2 i.imm w (CB hG) hi ((HG i).1 h)
 ·rw[if_neg h,if_neg h];exact .of_tupG Tryz.func145 rfl rfl rfl rfl λ S w hG=>Qy CF i.op i.rd i.rs1 i.rs2 i.imm w (CB hG) hi (λ q=>h ((HG i).2 q))
theorem VU(e:Ent)(he:e.ok):bT C0 84 [.agg (enL e)] (vB (tA e)):=by
 refine bT.intro c0Ok Tryz.func84 rfl rfl (by kernel_rfl) rfl<|cSR<|rAl 0 rfl rfl<|oR 1 rfl<|rE 2<|bK<|cSR<|oR 2 rfl<|rV (vB (decide (e.is<0))) rfl<|oR 1 rfl<|gN rfl<|gS rfl id<|gBS (x:=vB (decide (e.is>3))) rfl id rfl<|cS rfl rfl rfl (by simp)<|rE 10<|aV rfl (λ h1=>?_) (λ h1=>?_)
 ·refine cSR<|oR 1 rfl<|rE 11<|cO ?_;replace h1:=sP h1;exact fT rfl (dM (by unfold tA;grind [qA,cOr]))
 ·refine bB<|cSR<|oR 2 rfl<|rV (vB (e.is==1)) rfl<|oR 1 rfl<|rE 14<|bK<|cSR<|oR 2 rfl<|gN rfl<|gS rfl id<|gBS (x:=vB (decide (e.left≤0))) rfl id rfl<|cS rfl rfl rfl (λ h=>h)<|oR 1 rfl<|gN rfl<|gS rfl id<|gS rfl id<|gN rfl<|gS rfl id<|gBS (x:=vB (e.left != 0)) rfl id rfl<|vW (x:=vB (dE (!(e.is==1)) (e.left != 0) false)) (g:= !(dE (e.is==1) (decide (e.left≤0)) false)) rfl rfl rfl rfl (λ h=>h) rfl rfl (λ hg hc=>by first|(rw[hg,hc];rfl)|simp_all)<|cS rfl rfl rfl (by simp)<|rE 29<|aV rfl (λ h2=>?_) (λ h2=>?_)
  ·refine cSR<|oR 1 rfl<|rE 30<|cO ?_;replace h1:=sP h1;replace h2:=sP h2;exact fT rfl (dM (by unfold tA;grind [qA,cOr]))
  ·refine bB<|cSR<|oR 2 rfl<|rCi rfl (qR e.i)<|oR 1 rfl<|rE 33<|bK<|cSR<|oR 2 rfl<|rV (vB (e.is==2)) rfl<|oR 1 rfl<|gN rfl<|gBS (x:=vB ((kindOf e.i.op) != 3)) rfl id (okB (neN _ _))<|gS rfl id<|gN rfl<|gS rfl id<|gS rfl id<|vW (x:=vB (dE ((kindOf e.i.op) != 3) true (!e.known))) (g:=e.is==2) rfl rfl rfl rfl (λ h=>h) rfl rfl (λ hg hc=>by first|(rw[hg,hc];rfl)|simp_all)<|cS rfl rfl rfl (λ h=>h)<|rE 45<|aV rfl (λ h3=>?_) (λ h3=>?_)
   ·refine cSR<|oR 1 rfl<|rE 46<|cO ?_;replace h1:=sP h1;replace h2:=sP h2;replace h3:=sP h3;exact fT rfl (dM (by unfold tA;grind [qA,cOr]))
   ·refine bB<|bK<|cSR<|oR 2 rfl<|rV (vB (e.halt != 0)) rfl<|oR 1 rfl<|gN rfl<|gS rfl id<|gBS (x:=vB (e.is != 3)) rfl id rfl<|cS rfl rfl rfl (λ h=>h)<|oR 1 rfl<|gN rfl<|gS rfl id<|gN rfl<|gBS (x:=vB ((kindOf e.i.op)==5)) rfl id (okB (eqN _ _))<|vW (x:=vB (dE (e.is==1) ((kindOf e.i.op)==5) false)) (g:=dE (e.halt != 0) (e.is != 3) false) rfl rfl rfl rfl (λ h=>h) rfl rfl (λ hg hc=>by first|(rw[hg,hc];rfl)|simp_all)<|gS rfl id<|gN rfl<|gS rfl id<|gBS (x:=vB (e.halt==3)) rfl id rfl<|vW (x:=vB (dE (dE (e.is==1) ((kindOf e.i.op)==5) false) (e.halt==3) false)) (g:=dE (e.halt != 0) (e.is != 3) false) rfl rfl rfl rfl (λ h=>h) rfl rfl (λ hg hc=>by first|(rw[hg,hc];rfl)|simp_all)<|gS rfl id<|cS rfl rfl rfl (λ h=>h)<|rE 66<|aV rfl (λ h4=>?_) (λ h4=>?_)
    ·refine cSR<|oR 1 rfl<|rE 67<|cO ?_;replace h1:=sP h1;replace h2:=sP h2;replace h3:=sP h3;replace h4:=sP h4;exact fT rfl (dM (by unfold tA;grind [qA,cOr]))
    ·refine bB<|bK<|cSR<|oR 2 rfl<|rCi rfl (VT e.i (BT he.imm))<|oR 5 rfl<|rE 74<|cSR<|oR 1 rfl<|rV (vB ((if RB e.i=true then 0 else 1) != 0)) rfl<|rE 76<|aV rfl (λ h5=>?_) (λ h5=>?_)
     ·refine cSR<|oR 2 rfl<|rV (vB (e.halt==1)) rfl<|oR 1 rfl<|gN rfl<|gS rfl id<|gBS (x:=vB (e.halt==2)) rfl id rfl<|cS rfl rfl rfl (by simp)<|oR 1 rfl<|rE 85<|cO ?_;replace h1:=sP h1;replace h2:=sP h2;replace h3:=sP h3;replace h4:=sP h4;replace h5:=sP h5;exact fT rfl (dM (by unfold tA;grind [qA,cOr]))
     ·refine bB<|cSR<|oR 1 rfl<|rE 77<|cO ?_;replace h1:=sP h1;replace h2:=sP h2;replace h3:=sP h3;replace h4:=sP h4;replace h5:=sP h5;exact fT rfl (dM (by unfold tA;grind [qA,cOr]))
theorem PL{α:Type}{p:α→Bool}{l:List α}{k:Nat}{x:α}(hx:l[k]?=some x)(hn:p x=false)(h:∀ y∈l.take k,p y=false):∀ y∈l.take (k+1),p y=false:=by
 intro y hy;rw[bV,hx]at hy;rcases al_List_mem_append.1 hy with hy|hy
 ·exact h y hy
 ·simp at hy;subst hy;exact hn
theorem PM{α:Type}{p:α→Bool}{l:List α}{k:Nat}{x:α}(hx:l[k]?=some x)(hp:p x=true)(h:∀ y∈l.take k,p y=false):l.findIdx? p=some k:=by
 rw[List.findIdx?_eq_some_iff_getElem];obtain⟨hk,rfl⟩:=DK.1 hx;refine⟨hk,hp,λ j hj=>?_⟩;have:=h (l[j]'omT) (aB (i:=j) (by rw[cN,if_pos hj,aA omT]));simp[this]
theorem VV{α:Type}{p:α→Bool}{l:List α}{k:Nat}(hk:l.length≤k)(h:∀ y∈l.take k,p y=false):l.findIdx? p=none:=by
 rw[aM hk]at h;rw[List.findIdx?_eq_none_iff];exact h
theorem PN{α:Type}{p:α→Bool}{l:List α}:∀ y∈l.take 0,p y=false:=λ y hy=>by simp at hy
theorem PO(rob:List Ent)(ck:Bool)(hl:rob.length≤1000000)(ho:∀ x∈rob,x.ok):bT C0 103 [.sl 17 (rob.map enL) ck] (vI (Do (xK rob))):=by
 refine dc1 (bT.intro c1Ok Tryz.func103 rfl rfl (by kernel_rfl) rfl ?_);refine cSR<|oR 1 rfl<|rE 1<|bK<|cSR<|oR 1 rfl<|rW (vN rob.length) rfl (cG enL rob)<|oR 1 rfl<|rE 4<|bL<|oE (κ:=Nat) (λ k=>⟨slotsF [(5,.sl 17 (rob.map enL) ck),(6,vN rob.length),(7,vN k)],heapF [],4⟩) (λ k=>k≤rob.length∧∀ y∈rob.take k,Mu y=false) (λ k=>rob.length - k) 0 (λ s=>s) (Weak.of_lists (λ s=>s) wT trivial rfl) (⟨aD _,PN⟩) ?_;intro k hk;have hkn:k≤rob.length:=hk.1;have hkB:k≤1000000:=by omega
 refine cSR<|rW (vB (decide (k<rob.length))) rfl (okB (ltN _ _))<|rE 5<|bK<|aV rfl (λ h1=>?_) (λ h1=>?_)
 ·have h1p:=of_decide_eq_true h1;refine bB<|bK<|bL<|cSR<|oR 1 rfl ?_;obtain⟨x,hx⟩:∃ x,rob[k]?=some x:=⟨_,aA omT⟩;have hxo:=ho x (aB hx);refine rIx (enL x) (.dp 17 0 (enL x)) rfl rfl (jH hx) rfl<|oR 1 rfl<|rAl 8 rfl rfl<|oR 1 rfl<|rSt rfl<|rE 11<|cSR<|oR 2 rfl<|rCi rfl (qR x.i)<|rW (vB ((kindOf x.i.op)==5)) rfl (okB (eqN _ _))<|oR 1 rfl<|gN rfl<|gS rfl id<|cS rfl rfl rfl (λ h=>h)<|oR 1 rfl<|gN rfl<|gS rfl id<|gN rfl<|gS rfl id<|gBS (x:=vB (x.next != x.guess)) rfl hsT (okB (neN _ _))<|cS rfl rfl rfl (λ h=>h)<|rE 26<|aV rfl (λ h2=>?_) (λ h2=>?_)
  ·refine cSR<|oR 2 rfl<|rE 28<|cO ?_;exact fT rfl (Mt (by unfold xK;rw[PM hx (by simpa [Mu,qA,tY]using h2) hk.2];rfl))
  ·refine bB<|cRg ?_;have b1:k+1≤1000001:=aG hkB (aC 1);refine rW (vN (k+1)) rfl (okI (bU b1 rfl))<|oR 1 rfl<|rE 28 ?_;refine⟨k+1,λ s=>s,Weak.of_lists _ wT trivial rfl,⟨by omega,PL hx (by have z:=h2;unfold Mu;simp only[qA]at z;grind) hk.2⟩,by show rob.length - (k+1)<rob.length - k;omega⟩
 ·have h1p:=aE h1;refine eP<|cSR<|oR 1 rfl<|rE 6<|cO ?_;exact fT rfl (Mt (by unfold xK;rw[VV omT hk.2];rfl))
theorem VW{f:Nat→Bool}{k:Nat}(hp:f k=true)(h:(List.range k).all f=true):(List.range (k+1)).all f=true:=by
 rw[jZ,List.all_append,h];simpa using hp
theorem Ya{f:Nat→Bool}{k n:Nat}(hk:k<n)(hp:f k=false):(List.range n).all f=false:=by
 rw[List.all_eq_false];exact⟨k,mZ.2 hk,by simp[hp]⟩
theorem SM{rob:List Ent}{k:Nat}(hg:decide (k>0)=true)(hk:k<rob.length)(hl:rob.length≤1000):0≤IntKind.wrap .i64 ((k:Int) - 1)∧(rob.map enL)[(IntKind.wrap .i64 ((k:Int) - 1)).toNat]?=some (enL ((rob[k - 1]?).getD Cd)):=by
 have h0:=of_decide_eq_true hg;rw[show IntKind.wrap .i64 ((k:Int) - 1)=((k - 1:Nat):Int)from by rw[wrap_i64 omT omT];omega];refine⟨aF _,?_⟩;show (rob.map enL)[k - 1]?=_;rw[aZ,aA (show k - 1<rob.length by omega)];rfl
theorem Ml{rob:List Ent}{k:Nat}{x:Ent}(hx:rob[k]?=some x):Ey rob k=((k==0||decide (((rob[k - 1]?).getD Cd).no<x.no))&&tA x):=by
 unfold Ey Wd;rw[hx];have hk:=(DK.1 hx).1;rw[aA (show k - 1<rob.length by omega)];rfl
theorem VX(rob:List Ent)(ck:Bool)(hl:rob.length≤9223372036854775807)(ho:∀ x∈rob,x.ok):bT C0 47 [.sl 17 (rob.map enL) ck] (vB (BV rob)):=by
 refine dc1 (bT.intro c1Ok Tryz.func47 rfl rfl (by kernel_rfl) rfl ?_);refine cSR<|oR 1 rfl<|rE 1<|bK<|cSR<|oR 1 rfl<|rW (vN rob.length) rfl (cG enL rob)<|rW (vB (decide (rob.length>8))) rfl (okB (gtN _ _))<|rE 4<|aV rfl (λ h1=>?_) (λ h1=>?_)
 ·have h1p:=of_decide_eq_true h1;refine cSR<|oR 1 rfl<|rE 5<|cO ?_;exact fT rfl (dM (by unfold BV;rw[sI omT];rfl))
 ·have h1p:=aE h1;refine bB<|bK<|cSR<|oR 1 rfl<|rW (vN rob.length) rfl (cG enL rob)<|oR 1 rfl<|rE 7<|bL<|oE (κ:=Nat) (λ k=>⟨slotsF [(0,.sl 17 (rob.map enL) ck),(7,vB (decide (rob.length>8))),(8,.sl 17 (rob.map enL) ck),(9,vN rob.length),(10,vN k)],heapF [],7⟩) (λ k=>k≤rob.length∧(List.range k).all (Ey rob)=true) (λ k=>rob.length - k) 0 (λ s=>s) (Weak.of_lists (λ s=>s) wT trivial rfl) (⟨aD _,rfl⟩) ?_;intro k hk;have hkn:k≤rob.length:=hk.1;have hkB:k≤1000000:=by omega
  refine cSR<|rW (vB (decide (k<rob.length))) rfl (okB (ltN _ _))<|rE 8<|bK<|aV rfl (λ h2=>?_) (λ h2=>?_)
  ·have h2p:=of_decide_eq_true h2;refine bB<|bK<|bL<|cSR<|oR 1 rfl ?_;obtain⟨x,hx⟩:∃ x,rob[k]?=some x:=⟨_,aA omT⟩;have hxo:=ho x (aB hx);refine rIx (enL x) (.dp 17 0 (enL x)) rfl rfl (jH hx) rfl<|oR 1 rfl<|rAl 11 rfl rfl<|oR 1 rfl<|rSt rfl<|rE 14<|cSR<|oR 1 rfl<|rW (vB (decide (k>0))) rfl (okB (gtN _ _))<|oR 1 rfl<|gN rfl<|gN rfl<|gBS (x:=vI (IntKind.wrap .i64 ((k:Int) - 1))) rfl id rfl<|KL (enL ((rob[k - 1]?).getD Cd)) (x:=.dp 17 0 (enL ((rob[k - 1]?).getD Cd))) (g:=decide (k>0)) rfl rfl rfl rfl hsT rfl rfl (λ hg=>SM hg omT omT) rfl<|gS rfl id<|gS rfl id<|gN rfl<|gS rfl id<|gBS (x:=vB (decide ((((rob[k - 1]?).getD Cd).no)≥x.no))) rfl hsT rfl<|cS rfl rfl rfl (λ h=>h)<|oR 1 rfl<|gN rfl<|lX (x:=vB (tA x)) (g:= !(dE (decide (k>0)) (decide ((((rob[k - 1]?).getD Cd).no)≥x.no)) false)) rfl rfl rfl rfl (λ h=>h) rfl rfl rfl (.inl rfl) rfl (λ hg=>VU x hxo)<|gS rfl id<|cS rfl rfl rfl (by simp)<|rE 32<|aV rfl (λ h3=>?_) (λ h3=>?_)
   ·refine cSR<|oR 1 rfl<|rE 33<|cO ?_;exact fT rfl (dM (by unfold BV;rw[Ya (k:=k) omT (by rw[Ml hx];have z:=h3;simp only[qA,cOr]at z;grind)];simp))
   ·refine bB<|cRg ?_;have b1:k+1≤9223372036854775807:=by omega
    refine rW (vN (k+1)) rfl (okI (bU (show k+1≤9223372036854775807 by omega) rfl))<|oR 1 rfl<|rE 34 ?_;refine⟨k+1,λ s=>s,Weak.of_lists _ wT trivial rfl,⟨by omega,VW (by rw[Ml hx];have z:=h3;simp only[qA,cOr]at z;grind) hk.2⟩,by show rob.length - (k+1)<rob.length - k;omega⟩
  ·have h2p:=aE h2;refine eP<|cSR<|oR 1 rfl<|rE 9<|cO ?_;have hkk:k=rob.length:=by omega
   have hall:=hk.2;rw[hkk]at hall;exact fT rfl (dM (by unfold BV;rw[hall,nB omT];rfl))
theorem aaZ(R:List Ent)(lo n i:Nat)(cl:Bool)(hR:lo+n≤R.length)(hRl:R.length≤900000)(hi:i<n)(ho:∀ x∈R,x.ok):pL C0.P C0.G 104 [.osl 0 lo n cl,vN i] (heapF [(0,.arr (R.map enL) 17)]) 1 (λ x h'=>x=.osl 1 0 (i+1) false∧h'=heapF [(0,.arr (R.map enL) 17),(1,.arr ((BU ((R.drop lo).take n) i).map enL) 17)]):=by
 refine HCall.intro (C:=C1) (s:=1) c1Ok.at Tryz.func104 rfl rfl (by kernel_rfl) rfl rfl<|cSR<|oR 1 rfl<|rE 2<|bK<|cSR<|oR 1 rfl<|rW (vB (decide (i<0))) rfl (okB (ltN _ _))<|oR 1 rfl<|gN rfl<|gN rfl<|gBS (x:=vI (n:Int)) rfl id rfl<|gBS (x:=vB (decide ((i:Int)≥(n:Int)))) rfl hsT rfl<|cS rfl rfl rfl (by simp)<|rE 10<|aV rfl (λ h1=>by simp[cOr]at h1;omega) (λ _=>?_);refine bB<|cSR<|oR 2 rfl<|nW (.ptr2 0 (lo+i) 0) rfl rfl ixT ?_;obtain⟨x,hx⟩:∃ x,R[lo+i]?=some x:=⟨_,aA omT⟩;refine rIx (enL x) (.agg (enL x)) rfl rfl (jH hx) rfl<|rAl 14 rfl rfl<|rSt rfl<|rE 16<|cSR<|oR 3 rfl<|rSt rfl<|rE 20<|cSR<|oR 3 rfl<|nW (.osl 0 lo i true) rfl (Lc (by first|rfl|omega) (by simp only[Option.getD];omega)) (by refine⟨?_,?_,?_,?_⟩;all_goals (first|exact aF _|decide|(apply Ff.2;exact omT)|rfl))<|oR 1 rfl<|rV (.sl 17 ([[vI x.no,vU x.pc,vI x.i.op,vI x.i.rd,vI x.i.rs1,vI x.i.rs2,vU x.i.imm,vU x.next,vI x.is,vI x.left,vU x.value,vU x.next,vU x.addr,vI x.halt,vI x.took,vB x.known,vB x.filled]]) true) rfl<|rFx (x:=.osl 26 0 (i+1) false) (h':=upd _ 26 (some (.arr ((((R.drop lo).take i)++([(⟨x.no,x.pc,⟨x.i.op,x.i.rd,x.i.rs1,x.i.rs2,x.i.imm⟩,x.next,x.is,x.left,x.value,x.next,x.addr,x.halt,x.took,x.known,x.filled⟩:Ent)])).map enL) 17))) rfl rfl (SU enL R ([(⟨x.no,x.pc,⟨x.i.op,x.i.rd,x.i.rs1,x.i.rs2,x.i.imm⟩,x.next,x.is,x.left,x.value,x.next,x.addr,x.halt,x.took,x.known,x.filled⟩:Ent)]) (by simp only[aN,bD,bJ,cR];omega)) (⟨by simp only[aN,bD,aJ,bJ,cR,oZ];omega,by exact omT,(by show lo+i≤(R.map enL).length;exact omT),trivial⟩)<|oR 1 rfl<|rE 28<|cO ?_;have e:((R.drop lo).take i)++([(⟨x.no,x.pc,⟨x.i.op,x.i.rd,x.i.rs1,x.i.rs2,x.i.imm⟩,x.next,x.is,x.left,x.value,x.next,x.addr,x.halt,x.took,x.known,x.filled⟩:Ent)])=BU ((R.drop lo).take n) i:=by unfold BU;rw[show ((R.drop lo).take n)[i]?=some x from by rw[cN,if_pos hi,dD];exact hx];simp only[List.take_take];rw[sJ omT]
 refine pE (rs:=[.osl 26 0 (i+1) false]) rfl (r:=.osl 1 0 (i+1) false) (h':=heapF [(0,.arr (R.map enL) 17),(1,.arr ((BU ((R.drop lo).take n) i).map enL) 17)]) (σ:=λ z=>match z with|1=>26|z=>z) ⟨rfl,rfl⟩ rfl (cB (λ z=>match z with|1=>26|z=>z) rfl rfl ⟨⟨rfl,rfl,rfl⟩,⟨rfl,?_,rfl⟩,trivial⟩ rfl);show some (Blk.arr ((((R.drop lo).take i)++([(⟨x.no,x.pc,⟨x.i.op,x.i.rd,x.i.rs1,x.i.rs2,x.i.imm⟩,x.next,x.is,x.left,x.value,x.next,x.addr,x.halt,x.took,x.known,x.filled⟩:Ent)])).map enL) 17)=some (Blk.arr ((BU ((R.drop lo).take n) i).map enL) 17);rw[e]
theorem HH{prog:List Nat}(hp:∀ x∈prog,x≤4294967295)(pc:Nat):fetchW prog pc≤4294967295:=by
 unfold fetchW fetchP;split
 ·cases h:prog[pc / 4]? with
  |none=>exact aD _
  |some x=>exact hp x (aB h)
 ·exact aD _
theorem Fv{b:Bool}(h:(!b)=true):b=false:=by simpa using h
theorem rN{b:Bool}(h:(!b)=false): ¬ b=false:=by cases b<;>simp_all
theorem CW(x:Nat):decE x=0↔ ¬ Fr x=0:=by unfold decE;split<;>simp_all
abbrev mcX(c:Co)(R F S T:AV):List AV:=[vI c.conf.mode,vI c.conf.width,vI c.conf.rob,vI c.conf.queue,vI c.conf.stores,vI c.conf.slots,vI c.conf.sets,vI c.conf.ways,.sl 1 (c.conf.lat.map jL) false,vB c.conf.tables,.sl 1 (c.conf.tape.map iI) false,.sl 1 (c.prog.map iI) false,vI c.cycle,vU (c.r 0),vU (c.r 1),vU (c.r 2),vU (c.r 3),vU (c.r 4),vU (c.r 5),vU (c.r 6),vU (c.r 7),vU (c.r 8),vU (c.r 9),vU (c.r 10),vU (c.r 11),vU (c.r 12),vU (c.r 13),vU (c.r 14),vU (c.r 15),vU (c.r 16),vU (c.r 17),vU (c.r 18),vU (c.r 19),vU (c.r 20),vU (c.r 21),vU (c.r 22),vU (c.r 23),vU (c.r 24),vU (c.r 25),vU (c.r 26),vU (c.r 27),vU (c.r 28),vU (c.r 29),vU (c.r 30),vU (c.r 31),vU c.fetch,vB c.stop,F,R,vI c.next,S,vI c.data.ways,.sl 1 (c.data.sets.map cE) false,vI c.words.ways,.sl 1 (c.words.sets.map cE) false,.sl 4 (c.bus.map rqL) false,vI c.asked,vI c.guessed,.v (.string c.mem),.sl 2 (c.guess.slots.map gsL) false,vU c.guess.hist,.sl 1 (c.guess.rets.map iI) false,vI c.halt,T]
structure Co.ok(c:Co)(n:Nat):Prop where
 conf:c.conf.okW
 prog:c.prog.length≤9223372036854775807
 progo:∀ x∈c.prog,x≤4294967295
 r:∀ k,c.r k≤4294967295
 fetch:c.fetch≤4294967295
 fet:c.fetched.length≤9223372036854775807
 feto:∀ x∈c.fetched,x.ok
 rob:c.rob.length≤9223372036854775807
 robo:∀ x∈c.rob,x.ok
 sto:c.stores.length≤9223372036854775807
 stoo:∀ x∈c.stores,x.ok
 data:c.data.ok
 words:c.words.ok
 bus:c.bus.length≤n
 buso:∀ x∈c.bus,x.ok
 asked:c.asked≤9223372036854775807
 guessed:c.guessed≤9223372036854775807
 mem:c.mem.size≤1000000
 guess:c.guess.ok
 ret:c.retired.length≤n
 reto:∀ x∈c.retired,x.ok
theorem HE(c:Co)(n:Nat)(hok:c.ok n)(hnb:n≤890000):bT C0 23 [.agg (coL c)] (vB (fS c)):=by
 refine dc1 (bT.intro c1Ok Tryz.func23 rfl rfl (by kernel_rfl) rfl ?_);refine cSR<|rAl 0 rfl rfl<|oR 1 rfl<|rE 2<|bK<|cSR<|oR 2 rfl<|rCi rfl (SN c.conf hok.conf)<|oR 2 rfl<|gN rfl<|gS rfl id<|gBS (x:=vN c.prog.length) rfl id (cG iI c.prog)<|gBS (x:=vB (decide (c.prog.length>64))) rfl id (okB (gtN _ _))<|cS rfl rfl rfl (by simp)<|oR 1 rfl<|gN rfl<|gS rfl id<|gN rfl<|gS rfl id<|lX (x:=.v (.string (pF c.mem))) (g:= !(dE (!(tD c.conf)) true (decide (c.prog.length>64)))) rfl rfl rfl rfl (λ h=>h) rfl rfl rfl (.inl rfl) rfl (λ hg=>UE c.mem)<|gBS (x:=vB (!(c.mem.toList==(pF c.mem).toList))) rfl hsT rfl<|cS rfl rfl rfl (by simp)<|rE 20<|aV rfl (λ h1=>?_) (λ h1=>?_)
 ·refine cSR<|oR 1 rfl<|rE 21<|cO ?_;exact fT rfl (dM (by unfold fS;have q0:=h1;simp only[qA,cOr]at q0;rw[bP];simp only[aH,aS,bQ,rC];grind))
 ·refine bB<|bK<|cSR<|oR 2 rfl<|rCi rfl (VX c.rob false hok.rob hok.robo)<|oR 2 rfl<|gN rfl<|gS rfl id<|gBS (x:=vN c.rob.length) rfl id (cG enL c.rob)<|gN rfl<|gS rfl id<|gS rfl id<|gBS (x:=vB (decide (((c.rob.length:Nat):Int)>c.conf.rob))) rfl hsT rfl<|cS rfl rfl rfl (by simp)<|rE 33<|aV rfl (λ h2=>?_) (λ h2=>?_)
  ·refine cSR<|oR 1 rfl<|rE 34<|cO ?_;exact fT rfl (dM (by unfold fS;have q0:=h1;have q1:=h2;simp only[qA,cOr]at q0 q1;rw[bP];simp only[aH,aS,bQ,rC];grind))
  ·refine bB<|bK<|cSR<|oR 2 rfl<|rW (vN c.rob.length) rfl (cG enL c.rob)<|oR 1 rfl<|rE 37<|bL<|oE (κ:=Nat) (λ k=>⟨slotsF [(1,.ptr 0 0),(24,vB (dE (dE (!(tD c.conf)) true (decide (c.prog.length>64))) true (!(c.mem.toList==(pF c.mem).toList)))),(37,vB (dE (!(BV c.rob)) true (decide (((c.rob.length:Nat):Int)>c.conf.rob)))),(39,.sl 17 (c.rob.map enL) false),(40,vN c.rob.length),(41,vN k)],heapF [(0,.box (coL c))],37⟩) (λ k=>k≤c.rob.length∧(c.rob.take k).all (λ e=>decide (e.no<c.next))=true) (λ k=>c.rob.length - k) 0 (λ s=>s) (Weak.of_lists (λ s=>s) wT wH rfl) (⟨aD _,rfl⟩) ?_;intro k hk;have hkn:k≤c.rob.length:=hk.1;have hkB:k≤9223372036854775807:=by have:=hok.rob;omega
   have hrl:=hok.rob;refine cSR<|rW (vB (decide (k<c.rob.length))) rfl (okB (ltN _ _))<|rE 38<|bK<|aV rfl (λ h3=>?_) (λ h3=>?_)
   ·have h3p:=of_decide_eq_true h3;refine bB<|bK<|bL<|cSR ?_;obtain⟨x,hx⟩:∃ x,c.rob[k]?=some x:=⟨_,aA omT⟩;have hxo:=hok.robo x (aB hx);refine rIx (enL x) (.dp 17 0 (enL x)) rfl rfl (jH hx) rfl<|oR 1 rfl<|rAl 40 rfl rfl<|rSt rfl<|rE 42<|cSR<|oR 4 rfl<|rV (vB (decide (x.no≥c.next))) rfl<|rE 47<|aV rfl (λ h4=>?_) (λ h4=>?_)
    ·have h4p:=of_decide_eq_true h4;refine cSR<|oR 1 rfl<|rE 48<|cO ?_;exact fT rfl (dM (by unfold fS;have q0:=h1;have q1:=h2;have q3:=h4;simp only[qA,cOr]at q0 q1;have hz:=HJ (p:=λ e:Ent=>decide (e.no<c.next)) hx (by have z:=h4;simpa using z);rw[bP];simp only[aH,aS,bQ,rC];grind))
    ·have h4p:=aE h4;refine bB<|cRg ?_;have b1:k+1≤9223372036854775807:=by omega
     refine rW (vN (k+1)) rfl (okI (bU (show k+1≤9223372036854775807 by omega) rfl))<|oR 1 rfl<|rE 49 ?_;refine⟨k+1,λ s=>s,Weak.of_lists _ wT wH rfl,⟨by omega,DB hx (by have z:=h4;simpa using z) hk.2⟩,by show c.rob.length - (k+1)<c.rob.length - k;omega⟩
   ·have h3p:=aE h3;refine eP<|bK<|cSR<|oR 4 rfl<|rCi rfl (Yb c.data c.conf hok.data)<|oR 2 rfl<|gN rfl<|gS rfl id<|gN rfl<|gS rfl id<|lX (x:=vB (uF c.words c.conf)) (g:= !(!(uF c.data c.conf))) rfl rfl rfl rfl hsT rfl rfl rfl (.inl rfl) rfl (λ hg=>Yb c.words c.conf hok.words)<|gS rfl id<|cS rfl rfl rfl (by simp)<|oR 1 rfl<|gN rfl<|gS rfl id<|lX (x:=vB (rX c.guess)) (g:= !(dE (!(uF c.data c.conf)) true (!(uF c.words c.conf)))) rfl rfl rfl rfl (λ h=>h) rfl rfl rfl (.inl rfl) rfl (λ hg=>Io c.guess hok.guess)<|gS rfl id<|cS rfl rfl rfl (by simp)<|rE 58<|aV rfl (λ h5=>?_) (λ h5=>?_)
    ·refine cSR<|oR 1 rfl<|rE 59<|cO ?_;exact fT rfl (dM (by unfold fS;have q0:=h1;have q1:=h2;have q3:=h5;simp only[qA,cOr]at q0 q1 q3;rw[bP];simp only[aH,aS,bQ,rC];grind))
    ·refine bB<|bK<|cSR<|oR 2 rfl<|rW (vN c.fetched.length) rfl (cG ftL c.fetched)<|oR 3 rfl<|rV (vB (decide (((c.fetched.length:Nat):Int)>c.conf.queue))) rfl<|oR 1 rfl<|gN rfl<|gS rfl id<|gBS (x:=vN c.stores.length) rfl id (cG ptL c.stores)<|gN rfl<|gS rfl id<|gS rfl id<|gBS (x:=vB (decide (((c.stores.length:Nat):Int)>c.conf.stores))) rfl hsT rfl<|cS rfl rfl rfl (by simp)<|rE 74<|aV rfl (λ h6=>?_) (λ h6=>?_)
     ·refine cSR<|oR 1 rfl<|rE 75<|cO ?_;exact fT rfl (dM (by unfold fS;have q0:=h1;have q1:=h2;have q3:=h5;have q4:=h6;simp only[qA,cOr]at q0 q1 q3 q4;rw[bP];simp only[aH,aS,bQ,rC];grind))
     ·refine bB<|bK<|cSR<|oR 2 rfl<|rW (vN c.stores.length) rfl (cG ptL c.stores)<|oR 1 rfl<|rE 78<|bL<|oE (κ:=Nat) (λ j=>⟨slotsF [(1,.ptr 0 0),(24,vB (dE (dE (!(tD c.conf)) true (decide (c.prog.length>64))) true (!(c.mem.toList==(pF c.mem).toList)))),(37,vB (dE (!(BV c.rob)) true (decide (((c.rob.length:Nat):Int)>c.conf.rob)))),(42,vB (decide (k<c.rob.length))),(70,vB (dE (dE (!(uF c.data c.conf)) true (!(uF c.words c.conf))) true (!(rX c.guess)))),(86,vB (dE (decide (((c.fetched.length:Nat):Int)>c.conf.queue)) true (decide (((c.stores.length:Nat):Int)>c.conf.stores)))),(88,.sl 2 (c.stores.map ptL) false),(89,vN c.stores.length),(90,vN j)],heapF [(0,.box (coL c))],78⟩) (λ j=>j≤c.stores.length∧(c.stores.take j).all (λ p=>nM (c.mem.size:Int) p.addr (p.data.size:Int))=true) (λ j=>c.stores.length - j) 0 (λ s=>s) (Weak.of_lists (λ s=>s) wT wH rfl) (⟨aD _,rfl⟩) ?_;intro j hj;have hjn:j≤c.stores.length:=hj.1;have hjB:j≤9223372036854775807:=by have:=hok.sto;omega
      have hsl:=hok.sto;refine cSR<|rW (vB (decide (j<c.stores.length))) rfl (okB (ltN _ _))<|rE 79<|bK<|aV rfl (λ h7=>?_) (λ h7=>?_)
      ·have h7p:=of_decide_eq_true h7;refine bB<|bK<|bL<|cSR ?_;obtain⟨p,hp⟩:∃ x,c.stores[j]?=some x:=⟨_,aA omT⟩;have hpo:=hok.stoo p (aB hp);refine rIx (ptL p) (.dp 2 0 (ptL p)) rfl rfl (jH hp) rfl<|oR 1 rfl<|rAl 81 rfl rfl<|rSt rfl<|rE 83<|cSR<|oR 2 rfl<|rV (vN c.mem.size) rfl<|oR 4 rfl<|rV (vN p.data.size) rfl<|rCi rfl (Qh (c.mem.size:Int) p.addr (p.data.size:Int) (by have:=hok.mem;omega) (BT hpo.addr))<|oR 1 rfl<|rE 93<|aV rfl (λ h8=>?_) (λ h8=>?_)
       ·refine cSR<|oR 1 rfl<|rE 94<|cO ?_;exact fT rfl (dM (by unfold fS;have q0:=h1;have q1:=h2;have q3:=h5;have q4:=h6;have q6:=h8;simp only[qA,cOr]at q0 q1 q3 q4;have hz:=HJ (p:=λ p:Pt=>nM (c.mem.size:Int) p.addr (p.data.size:Int)) hp (by have z:=h8;simpa using z);rw[bP];simp only[aH,aS,bQ,rC];grind))
       ·refine bB<|cRg ?_;have b2:j+1≤9223372036854775807:=by omega
        refine rW (vN (j+1)) rfl (okI (bU (show j+1≤9223372036854775807 by omega) rfl))<|oR 1 rfl<|rE 95 ?_;refine⟨j+1,λ s=>s,Weak.of_lists _ wT wH rfl,⟨by omega,DB hp (by have z:=h8;simpa using z) hj.2⟩,by show c.stores.length - (j+1)<c.stores.length - j;omega⟩
      ·have h7p:=aE h7;refine eP<|cSR<|oR 1 rfl<|rE 80<|cO ?_;have hz1:=DC (p:=λ e:Ent=>decide (e.no<c.next)) omT hk.2;have hz2:=DC (p:=λ p:Pt=>nM (c.mem.size:Int) p.addr (p.data.size:Int)) omT hj.2;exact fT rfl (dM (by unfold fS;have q0:=h1;have q1:=h2;have q3:=h5;have q4:=h6;simp only[qA,cOr]at q0 q1 q3 q4;rw[bP];simp only[aH,aS,true_iff];grind))
def QE(h:AH):AV→AV
 | .ptr s c=>match h s with|some (.box cells)=>.dp cells.length c (rG h cells)|_=>.any
 |x=>uU h x
def JL(h:AH):List AV→List AV
 |[]=>[]
 |x::xs=>QE h x::JL h xs
def QF(h:AH):AV→Prop
 | .ptr s _=>match h s with|some (.box cells)=>gE (rG h cells)=true∧jW h cells|_=>True
 |x=>jU h x
def Wx(h:AH):List AV→Prop
 |[]=>True
 |x::xs=>QF h x∧Wx h xs
theorem JM(h:AH):∀ (l:List AV),(JL h l).length=l.length
 |[]=>rfl
 |_::l=>congrArg (· +1) (JM h l)
theorem JN(h:AH):∀ (l:List AV) (i:Nat) (x:AV),(JL h l)[i]?=some x→∃ y,l[i]?=some y∧x=QE h y
 |[],i,x,hx=>by simp[JL]at hx
 |y::l,0,x,hx=>by simp[JL]at hx;exact⟨y,rfl,hx.symm⟩
 |y::l,i+1,x,hx=>by simp[JL]at hx;exact JN h l i x hx
theorem JO(h:AH):∀ (l:List AV),Wx h l→∀ (i:Nat) y,l[i]?=some y→QF h y
 |[],_,i,y,hy=>by simp at hy
 |x::l,hl,0,y,hy=>by simp at hy;subst hy;exact hl.1
 |x::l,hl,i+1,y,hy=>JO h l hl.2 i y (by simpa using hy)
theorem Ao(h:AH):∀ (l:List AV),(rG h l).length=l.length
 |[]=>by simp[rG]
 |_::l=>by simp[rG,Ao h l]
theorem JP(h:AH):∀ (l:List AV) (i:Nat) (x:AV),(rG h l)[i]?=some x→∃ y,l[i]?=some y∧x=uU h y
 |[],i,x,hx=>by simp[rG]at hx
 |y::l,0,x,hx=>by simp[rG]at hx;exact⟨y,rfl,hx.symm⟩
 |y::l,i+1,x,hx=>by simp[rG]at hx;exact JP h l i x hx
theorem EJ(h:AH):∀ (l:List AV),jW h l→∀ (i:Nat) y,l[i]?=some y→jU h y
 |[],_,i,y,hy=>by simp at hy
 |x::l,hl,0,y,hy=>by simp only[jW]at hl;simp at hy;subst hy;exact hl.1
 |x::l,hl,i+1,y,hy=>by simp only[jW]at hl;exact EJ h l hl.2 i y (by simpa using hy)
section
variable {S:Nat→Prop}{w:World}{β:Bt}{h:AH}{B:Nat}
theorem QG(H:SimH B S w β h){a:AV}{v:Value}(hr:Rep S w β a v)(hl:QF h a):Rep (λ b=>b<w.heap.size) w β (QE h a) v:=by
 have hS:∀ b,(S b∨(B≤b∧b<w.heap.size))→b<w.heap.size:=λ b hb=>hb.elim (H.lt b) (·.2);by_cases hp:∃ s c,a=.ptr s c
 ·obtain⟨s,c,rfl⟩:=hp
  cases hr with
  |ptr _ _ l hlo=>
  simp only[QE];simp only[QF]at hl
  cases hs:h s with
  |none=>exact .any _
  | some blk=>
   cases blk with
   |arr rows rs=>exact .any _
   |row cells=>exact .any _
   | box cells=>
    simp only[hs]at hl⊢;obtain⟨l',ds,e',fr',k1,k2,k3,k4,k5,k6⟩:=H.own s _ hs;obtain rfl:l'=l:=by rw[hlo]at k1;exact (Option.some.inj k1).symm
    have hlt:∀ (j:Nat) a,(rG h cells)[j]?=some a→ds[l'.base+j]?=some (ds.getD (l'.base+j) undef)∧(ds.getD (l'.base+j) undef).oneCell'=true∧Rep (λ b=>b<w.heap.size) w noB a (ds.getD (l'.base+j) undef):=by
     intro j a hj;obtain⟨b,hb,rfl⟩:=JP h cells j a hj;obtain⟨u,q1,q2,q3⟩:=k6 j b hb;have hg:ds.getD (l'.base+j) undef=u:=by rw[aI,q1];rfl
     rw[hg];exact⟨q1,q2,lO ((Br H q3 (EJ h cells hl.2 j b hb)).mono hS (Evo.refl _ _) (LT.refl _)) (fY _ hl.1 j _ hj) _⟩
    refine .dp cells.length c (rG h cells) l'.blk l'.base (λ j=>if j<cells.length then ds.getD (l'.base+j) undef else .bool false) (Ao h cells) (fP k2) (λ j a hj=>?_) (λ j=>?_) λ j a hj=>?_
    ·have hjl:j<cells.length:=by rw[←Ao h cells];exact (DK.1 hj).1
     rw[if_pos hjl,gQ k2];exact (hlt j a hj).1
    ·show (if j<cells.length then ds.getD (l'.base+j) undef else .bool false).oneCell'=true;by_cases hjl:j<cells.length
     ·rw[if_pos hjl];exact (hlt j _ (aA (by rw[Ao];exact hjl))).2.1
     ·rw[if_neg hjl];rfl
    ·have hjl:j<cells.length:=by rw[←Ao h cells];exact (DK.1 hj).1
     rw[if_pos hjl];exact (hlt j a hj).2.2
 ·have e1:QE h a=uU h a:=by cases a<;>first|rfl|exact absurd ⟨_,_,rfl⟩ hp
  have e2:QF h a=jU h a:=by cases a<;>first|rfl|exact absurd ⟨_,_,rfl⟩ hp
  rw[e1];rw[e2]at hl;exact (Br H hr hl).mono hS (Evo.refl _ _) (LT.refl _)
end
theorem pL.of_dcall{C:Ctx}{f:FuncId}{args:List AV}{h:AH}{s:Nat}{r:AV}(hD:bT C f (JL h args) r)(hcl:gE (JL h args)=true)(hlk:Wx h args)(hfl:Ct r=true):pL C.P C.G f args h s (λ x h'=>x=r∧h'=h):=by
 obtain⟨hm,hcall⟩:=hD;refine⟨hm,λ B S w β vs H hdom hG hargs=>?_⟩;refine (hcall (λ b=>b<w.heap.size) w vs (λ _ h=>h) (λ g cells hg=>(hG g cells hg).mono H.lt (Evo.refl _ _) (LT.refl _)) ⟨by rw[JM];exact hargs.1,λ i y u p q=>?_⟩).mono ?_
 ·obtain⟨z,hz,rfl⟩:=JN h args i y p;exact lO (QG H (hargs.2 i z u hz q) (JO h args hlk i z hz)) (fY _ hcl i _ p) _
 ·rintro e w' ⟨v,he,hB,hr⟩;have hE:Evo S w w':=Evo.of_kept (λ b hb=>hB.block b hb) H.lt;refine⟨v,S,β,r,h,⟨rfl,rfl⟩,he,LS hr hfl,⟨λ s' blk hs'=>?_,H.inj,λ b hb=>Nat.lt_of_lt_of_le (H.lt b hb) hB.size,aL H.big hB.size⟩,⟨λ _ h=>h,hE,hB.mono H.big,LT.refl _,λ _ _ hx=>.inl hx,λ b hb=>.inl hb,λ b hb _=>hB.block b hb⟩⟩;obtain⟨l,cs,e',fr,k1,k2,k3,k4,k5,k6⟩:=H.own s' blk hs';exact⟨l,cs,e',fr,k1,(hB.block _ (fP k2)).trans k2,k3,k4,k5,k6.mono (λ _ h=>h) hE (LT.refl _)⟩
def FrL(ρ:Nat→Nat)(K:AH)(s s2:Nat):List (Nat×Blk)→Prop
 |[]=>True
 |(i,b)::l=>(Nat.blt (ρ i) s2=true∧Nat.blt i s=true∧tP s b=true∧K (ρ i)=some (Fn ρ b))∧FrL ρ K s s2 l
theorem FrL.get{ρ:Nat→Nat}{K:AH}{s s2:Nat}:∀ {l:List (Nat×Blk)},FrL ρ K s s2 l→∀ x blk,heapF l x=some blk→ρ x<s2∧x<s∧tP s blk=true∧K (ρ x)=some (Fn ρ blk)
 |[],_,x,blk,h=>by cases h
 | (i,b)::l,hl,x,blk,h=>by
  simp only[heapF]at h
  cases hq:Nat.beq i x with
  |true=>
   rw[hq]at h;injection h with h;subst h;rw[←aK hq]
   exact⟨aP hl.1.1,aP hl.1.2.1,hl.1.2.2.1,hl.1.2.2.2⟩
  |false=>rw[hq]at h;exact FrL.get hl.2 x blk h
def To(ρ:Nat→Nat):Nat→Bool
 |0=>true
 |k+1=>(List.range k).all (λ j=> !Nat.beq (ρ j) (ρ k))&&To ρ k
theorem MK{ρ:Nat→Nat}:∀ {s:Nat},To ρ s=true→∀ x y,x<s→y<s→ρ x=ρ y→x=y
 |0,_,x,_,hx,_,_=>absurd hx (dT _)
 | k+1,h,x,y,hx,hy,e=>by
  simp only[To,aH,iO,mZ,qE]at h;rcases al_Nat_lt_or_ge x k with h1|h1<;>rcases al_Nat_lt_or_ge y k with h2|h2
  ·exact MK h.2 x y h1 h2 e
  ·have:y=k:=by omega
   subst this;have:=h.1 x h1;rw[e]at this;simp at this
  ·have:x=k:=by omega
   subst this;have:=h.1 y h2;rw[e]at this;simp at this
  ·omega
theorem pL.frameL{P:Program}{G:Nat→Option (List AV)}{f:FuncId}{args:List AV}{L:List (Nat×Blk)}{s:Nat}{Post:AV→AH→Prop}(H:pL P G f args (heapF L) s Post)(ρ:Nat→Nat)(K:AH)(s2:Nat)(hfull:Dr (heapF L) s=true)(hL:FrL ρ K s s2 L)(hi:To ρ s=true)(ha:pX s args=true)
  (Post':AV→AH→Prop) (hPost:∀ r h',Post r h'→∃ K',Post' (uV (FE ρ s s2) r) K'∧∀ y blk,K' y=some blk→(∃ x blk0,h' x=some blk0∧y=FE ρ s s2 x∧blk=Fn (FE ρ s s2) blk0)∨(K y=some blk∧∀ x,x<s→ρ x≠y)):pL P G f (Cl ρ args) K s2 Post':=
 H.frame ρ K s2 hfull (λ x hx=>by
  cases hb:heapF L x with
  |none=>exact absurd hb hx
  |some blk=>exact (hL.get x blk hb).2.1) (λ x blk hx=>let ⟨a,_,c,d⟩:=hL.get x blk hx;⟨a,c,d⟩) (MK hi) ha Post' hPost
mutual
theorem JQ{s:Nat}{σ τ:Nat→Nat}(h:∀ x,x<s→σ x=τ x):∀ (a:AV),nJ s a=true→uV σ a=uV τ a
 | .ptr x c,hb=>by simp only[uV];rw[h x (by simpa [nJ]using hb)]
 | .ptr2 x r c,hb=>by simp only[uV];rw[h x (by simpa [nJ]using hb)]
 | .osl x lo n c,hb=>by simp only[uV];rw[h x (by simpa [nJ]using hb)]
 | .agg cs,hb=>by simp only[uV];rw[vL h cs (by simpa [nJ]using hb)]
 | .tup cs,hb=>by simp only[uV];rw[vL h cs (by simpa [nJ]using hb)]
 | .clo f a b,hb=>by
  simp only[nJ]at hb;split at hb
  ·rename_i ha;simp only[uV];rw[vL h a ha,vL h b hb]
  ·cases hb
 | .opt g x,hb=>by simp only[uV];rw[JQ h x (by simpa [nJ]using hb)]
 | .v _,_| .sl _ _ _,_| .dp _ _ _,_| .any,_=>by simp[uV]
theorem vL{s:Nat}{σ τ:Nat→Nat}(h:∀ x,x<s→σ x=τ x):∀ (cs:List AV),pX s cs=true→Cl σ cs=Cl τ cs
 |[],_=>by simp[Cl]
 |c::cs,hb=>by
  simp only[pX]at hb;split at hb
  ·rename_i hc;simp only[Cl];rw[JQ h c hc,vL h cs hb]
  ·cases hb
end
theorem xU(ρ:Nat→Nat)(s s2:Nat)(blk:Blk)(hb:tP s blk=true):Fn (FE ρ s s2) blk=Fn ρ blk:=by
 have hx:∀ x,x<s→FE ρ s s2 x=ρ x:=λ x hx=>rA ρ omT
 cases blk with
 |box cells=>simp only[Fn];rw[vL hx cells hb]
 |arr rows rs=>rfl
 |row cells=>simp only[Fn];rw[vL hx cells hb]
theorem pL.frameU{P:Program}{G:Nat→Option (List AV)}{f:FuncId}{args:List AV}{L:List (Nat×Blk)}{s:Nat}{r:AV}(H:pL P G f args (heapF L) s (λ x h'=>x=r∧h'=heapF L))(ρ:Nat→Nat)(K:AH)(s2:Nat)(hfull:Dr (heapF L) s=true)(hL:FrL ρ K s s2 L)(hi:To ρ s=true)(ha:pX s args=true)(hr:eZ r=true):pL P G f (Cl ρ args) K s2 (λ x h'=>x=r∧h'=K):=by
 refine H.frameL ρ K s2 hfull hL hi ha _ λ r' h' hP=>?_;obtain⟨rfl,rfl⟩:=hP;refine⟨K,⟨yM _ _ hr,rfl⟩,λ y blk hy=>?_⟩;by_cases hx:∃ x,x<s∧ρ x=y
 ·obtain⟨x,hxs,rfl⟩:=hx;obtain⟨blk0,hb0⟩:=Dv.1 (tV hfull x hxs);have hk:=hL.get x blk0 hb0;rw[hk.2.2.2]at hy;injection hy with hy;refine .inl ⟨x,blk0,hb0,(rA ρ omT).symm,?_⟩;rw[←hy];exact (xU ρ s s2 blk0 hk.2.2.1).symm
 ·exact .inr ⟨hy,λ x hxs e=>hx ⟨x,hxs,e⟩⟩
structure FOk(F:Fence)(P:Program):Prop where
 fn:∀ f,F.fn f
 dep:F.depth=none
 calls:∀ {f args w R} (m:Nat),Calls P f args w R→CallsIn F m P f args w R
 rows:∀ {r args w R} (m:Nat),Rows P r args w R→RowsIn F m P r args w R
theorem EM{n:Nat}{P:Program}{row:String}{args:Array Value}{w:World}{R:Value→World→Prop}(h:Rows P row args w R):RowsIn Fence.wide n P row args w R:=
 λ c cs _=>let ⟨v,w',r,s⟩:=h c cs;⟨v,w',r,stepsIn_wide.2 s⟩
theorem DH(P:Program):FOk Fence.wide P:=⟨λ _=>trivial,rfl,λ _ h=>callsIn_wide.2 h,λ _ h=>EM h⟩
theorem JT(P:Program)(l:Nat):FOk (Fence.wide.inRound l) P:=⟨λ _=>trivial,rfl,λ _ h=>CallsIn.inRound l (callsIn_wide.2 h),λ m h=>(EM (n:=m) h:_)⟩
def tmk(kp:Nat→Bool)(a a':Act):Prop:=∀ i,kp i=true→a'.tmps.getD i undef=a.tmps.getD i undef
theorem tmk.refl(kp:Nat→Bool)(a:Act):tmk kp a a:=λ _ _=>rfl
theorem tmk.trans{kp:Nat→Bool}{a b c:Act}(h:tmk kp a b)(k:tmk kp b c):tmk kp a c:=λ i hi=>(k i hi).trans (h i hi)
def QK(o:Oper):Bool:=match o.op with| .defer _=>false|_=>true
def JU(kp:Nat→Bool)(o:Oper):Bool:=match o.dst with|some d=> !kp d|none=>true
def JV(kp:Nat→Bool)(l:List Oper):Bool:=l.all λ o=>QK o&&JU kp o
theorem MN{kp:Nat→Bool}{o:Oper}(hk:JU kp o=true)(a:Act)(ds:List Deferred)(v:Value):tmk kp a ({a with defers:=ds}.put o.dst v):=by
 intro i hi;unfold JU at hk
 cases hd:o.dst with
 |none=>rfl
 |some k=>
  rw[hd]at hk;have hne:i≠k:=λ e=>by subst e;simp[hi]at hk
  simp[Act.put,aI,cU (Ne.symm hne)]
section
variable {F:Fence}{m:Nat}{P:Program}{ops:Array Oper}{Q Q':Exit→Act→World→Prop}{kp:Nat→Bool}
theorem WB(hF:FOk F P){o:Oper}(hd:QK o=true)(hno: ¬ LetsOut Q)(hQ:∀ c a w,Q (.panic c) a w→Q' (.panic c) a w){a:Act}{w:World}{K:Act→World→Prop}(h:o.wp P a w K Q):
  o.wpIn F m P a w (λ a' w'=>K a' w'∧∃ v ds,a'={a with defers:=ds}.put o.dst v) Q':=by
 unfold Oper.wpIn;refine⟨λ f _=>hF.fn f,?_⟩;rw[Oper.semAt_eq _ _ _ (λ c hc=>by unfold QK at hd;rw[hc]at hd;cases hd)];unfold Oper.wp at h;generalize (execOp a.eval o).run P w=r at h;have dep:F.depth.isSome=true→1≤m:=λ hd=>by rw[hF.dep]at hd;cases hd
 cases r with
 | ok n w'=>
  cases n with
  |value v=>exact⟨h,v,a.defers,rfl⟩
  |skip=>exact⟨h,undef,a.defers,rfl⟩
  |defer d=>exact⟨h,undef,d::a.defers,rfl⟩
  |enter f args=>
   refine⟨dep,hF.calls _ (Calls.mono h λ e w'' he=>?_)⟩
   cases e with
   |returned v=>exact⟨he,v,a.defers,rfl⟩
   |panicked c=>exact hQ _ _ _ he
   |outgrown=>exact absurd he hno
  |row r args=>exact⟨dep,hF.rows _ (Rows.mono h λ v w'' he=>⟨he,v,a.defers,rfl⟩)⟩
  |_=>exact h.elim
 |halt x w'=>cases x<;>first|exact hQ _ _ _ h|exact h.elim
theorem Lu(hF:FOk F P){o:Oper}(hd:QK o=true)(hk:JU kp o=true)(hno: ¬ LetsOut Q)(hQ:∀ c a w,Q (.panic c) a w→Q' (.panic c) a w){a:Act}{w:World}{K K':Act→World→Prop}
  (h:if Region.wanted o (yielded ops a.tmps)then o.wp P a w K Q∨(o.asks P a w∧LetsOut Q)else K (a.put o.dst undef) w) (hK:∀ a' w',K a' w'→tmk kp a a'→K' a' w'):
  if Region.wanted o (yielded ops a.tmps)then o.wpIn F m P a w K' Q' else (∀ f,o.about P w a.eval=some f→F.fn f)∧K' (a.put o.dst undef) w:=by
 split
 ·rename_i hw;simp only[hw,kW]at h;rcases h with h|⟨_,h⟩
  ·exact Oper.wpIn_mono (λ a' w' ⟨h1,v,ds,e⟩=>hK a' w' h1 (by rw[e];exact MN hk a ds v)) (WB hF hd hno hQ h)
  ·exact absurd h hno
 ·rename_i hw;simp only[hw]at h;exact⟨λ f _=>hF.fn f,hK _ _ h (MN hk a a.defers undef)⟩
def QTm(kp:Nat→Bool)(a0:Act)(Q:Exit→Act→World→Prop):Exit→Act→World→Prop:=λ e a w=>Q e a w∧(e=.normal→tmk kp a0 a)
theorem Iq(hl:JV kp ops.toList=true){i:Nat}{o:Oper}(ho:ops[i]?=some o):QK o=true∧JU kp o=true:=by
 have:=iO.1 hl o (aB (i:=i) (by rw[bF];exact ho));simpa using this
theorem Ir(hF:FOk F P)(hl:JV kp ops.toList=true)(hno: ¬ LetsOut Q){a0:Act}:∀ (l:List Nat) (a:Act) (w:World),wpOps P ops Q l a w→tmk kp a0 a→wpOpsIn F m P ops (QTm kp a0 Q) l a w
 |[],a,w,h,ht=>⟨h,λ _=>ht⟩
 | i::l,a,w,h,ht=>by
  simp only[wpOps]at h;simp only[wpOpsIn]
  cases ho:ops[i]? with
  |none=>rw[ho]at h;exact Ir hF hl hno l a w h ht
  |some o=>
   rw[ho]at h;obtain⟨h1,h2⟩:=Iq hl ho;exact Lu (ops:=ops) hF h1 h2 hno (λ c a w q=>⟨q,λ e=>by cases e⟩) h λ a' w' hk hm=>Ir hF hl hno l a' w' hk (ht.trans hm)
theorem Cj(hF:FOk F P)(hl:JV kp ops.toList=true)(hno: ¬ LetsOut Q){a0:Act}:∀ (fuel:Nat) (listed:Array Bool) (a:Act) (w:World),wpAny P .any ops Q fuel listed a w→tmk kp a0 a→wpAnyIn F m P .any ops (QTm kp a0 Q) fuel listed a w
 |0,listed,a,w,h,ht=>⟨h.1,h.2,λ _=>ht⟩
 | fuel+1,listed,a,w,h,ht=>by
  refine⟨λ hr=>⟨h.1 hr,λ _=>ht⟩,λ i hi=>?_⟩;have h1:=h.2 i hi;unfold wpOp at h1;unfold wpOpIn
  cases ho:ops[i]? with
  |none=>rw[ho]at h1;exact Cj hF hl hno fuel _ a w h1 ht
  |some o=>
   rw[ho]at h1;obtain⟨h2,h3⟩:=Iq hl ho;exact Lu (ops:=ops) hF h2 h3 hno (λ c a w q=>⟨q,λ e=>by cases e⟩) h1 λ a' w' hk hm=>Cj hF hl hno fuel _ a' w' hk (ht.trans hm)
end
def oH(N:Nat)(kp:Nat→Bool):Code→Bool
 | .region _ ops _=>uO N ops.toList&&JV kp ops.toList
 | .seq a b=>oH N kp a&&oH N kp b
 | .cond _ a b=>oH N kp a&&oH N kp b
 | .block _ b=>oH N kp b
 | .loop _=>false
 |_=>true
section
variable {F:Fence}{m:Nat}{C:Ctx}{V:Inv C.fr}{w0:World}{S0:Nat→Prop}{N:Nat}{kp:Nat→Bool}{a0:Act}
def aaQ(C:Ctx)(V:Inv C.fr)(w0:World)(S0:Nat→Prop)(N:Nat)(kp:Nat→Bool)(a0:Act)(Q:AEx→ASt→Prop)(e:Exit)(a:Act)(w:World):Prop:=∃ e' st S β,e=FL e'∧Q e' st∧SimD C V w0 S0 N (· <st.n) st.t st.h a w S β∧tmk kp a0 a
theorem Bi(hF:FOk F C.P)(hC:CtxOk C):∀ (c:Code),oH N kp c=true→∀ (st:ASt) (Q:AEx→ASt→Prop),fZ C (bT C) c st Q→∀ (a:Act) (w:World) (S:Nat→Prop) (β:Bt),SimD C V w0 S0 N (· <st.n) st.t st.h a w S β→tmk kp a0 a→
  c.wpIn F m C.P (aaQ C V w0 S0 N kp a0 Q) a w:=by
 intro c
 induction c with
 |skip=>intro _ st Q hq a w S β M ht;exact wpIn_skip ⟨.normal,st,S,β,rfl,hq,M,ht⟩
 |label l=>intro _ st Q hq a w S β M ht;exact wpIn_label ⟨.normal,st,S,β,rfl,hq,M,ht⟩
 |exit id=>intro _ st Q hq a w S β M ht;exact wpIn_exit ⟨.exit id,st,S,β,rfl,hq,M,ht⟩
 |ret=>intro _ st Q hq a w S β M ht;exact wpIn_ret ⟨.ret,st,S,β,rfl,hq,M,ht⟩
 | region id ops dr=>
  intro hk st Q hq a w S β M ht;simp only[oH,aH]at hk;obtain⟨t,h,n⟩:=st;simp only[fZ]at hq;obtain⟨Q2,hQ2⟩:∃ Q2:Exit→Act→World→Prop,Q2=λ e a w=>e=.normal∧∃ st S β,Q .normal st∧SimD C V w0 S0 N (· <st.n) st.t st.h a w S β:=⟨_,rfl⟩;have hno: ¬ LetsOut Q2:=by rintro ⟨a,w,h⟩;rw[hQ2]at h;cases h.1
  have fin:∀ e a w,QTm kp a0 Q2 e a w→aaQ C V w0 S0 N kp a0 Q e a w:=by
   rintro e a w ⟨h1,h2⟩;rw[hQ2]at h1;obtain⟨rfl,st,S,β,h3,h4⟩:=h1;exact⟨.normal,st,S,β,rfl,h3,h4,h2 rfl⟩
  have mk:∀ st' a' w' S' β',Q .normal st'→SimD C V w0 S0 N (· <st'.n) st'.t st'.h a' w' S' β'→Q2 .normal a' w':=λ st' a' w' S' β' h1 h2=>by rw[hQ2];exact⟨rfl,st',S',β',h1,h2⟩
  cases dr with
  |false=>
   simp only[tF]at hq;have:=DS (Q:=Q2) (K:=Q .normal) hC (ops:=ops) rfl hk.1 ops.toList 0 t h a w S β rfl hq M mk;rw[show List.range' 0 ops.toList.length=List.range ops.size by rw[nZ,cW]]at this
   exact wpIn_mono (wpIn_region (Ir hF hk.2 hno _ a w this ht)) fin
  | true=>
   simp only[eS]at hq;refine wpIn_mono (wpIn_region_any hC.mixed (Q:=QTm kp a0 Q2) ?_) fin
   cases hl:Fo ops.toList with
   |true=>
    rw[hl]at hq;rcases hq with hq|⟨_,hq⟩
    rotate_left
    ·exact Cj hF hk.2 hno _ _ _ _ (DP (C:=C.noH) (V:=V) hC.noH (λ _ _ _ _ _ h=>h) hk.1 hq (SimD.noH M) (λ st' a' w' S' β' hk' M'=>mk st' a' w' S' β' hk' (SimD.ofNoH M'))) ht
    have M':=M.drawn (w.drawn+1)
    exact Cj hF hk.2 hno _ _ _ _ (Cn (C:=C.noH) (V:=V) hC.noH (λ _ _ _ _ _ h=>h) hk.1 (λ st' a' w' S' β' hk' M'=>mk st' a' w' S' β' hk' (SimD.ofNoH M')) ops.size _ t h a _ S β (by simp) hq ⟨M'.T,M'.H,M'.B,λ y l hy=>.inl (M'.dom y l hy),M'.df,M'.sz,M'.G,M'.nw,M'.iv⟩) ht
   |false=>
   rw[hl]at hq;have hd:Ja ops.toList=true:=by simp only[Fo,dW,pG]at hl;exact hl.2
   exact Cj hF hk.2 hno _ _ _ _ (FP (C:=C.noH) (V:=V) hC.noH (λ _ _ _ _ _ h=>h) hk.1 hd hq (SimD.noH M) (λ st' a' w' S' β' hk' M'=>mk st' a' w' S' β' hk' (SimD.ofNoH M'))) ht
 | seq x y ihx ihy=>
  intro hk st Q hq a w S β M ht;simp only[oH,aH]at hk;simp only[fZ]at hq;rcases hq with hq|hq|hq
  ·refine wpIn_seq (wpIn_mono (ihx hk.1 st _ hq a w S β M ht) ?_);rintro e a' w' ⟨e',st',S',β',rfl,h1,h2,h3⟩
   cases e' with
   |normal=>exact ihy hk.2 st' Q h1 a' w' S' β' h2 h3
   |exit i=>exact⟨.exit i,st',S',β',rfl,h1,h2,h3⟩
   |ret=>exact⟨.ret,st',S',β',rfl,h1,h2,h3⟩
  ·refine wpIn_seq (wpIn_mono (ihx hk.1 st _ hq a w S β M ht) ?_);rintro e a' w' ⟨e',st',S',β',rfl,h1,h2,h3⟩
   cases e' with
   |normal=>
    obtain⟨st2,g1,g2⟩:=h1;obtain⟨S2,h4⟩:=nG g1 h2
    exact ihy hk.2 st2 Q g2 a' w' S2 β' h4 h3
   |exit i=>exact⟨.exit i,st',S',β',rfl,h1,h2,h3⟩
   |ret=>exact⟨.ret,st',S',β',rfl,h1,h2,h3⟩
  ·refine wpIn_seq (wpIn_mono (ihx hk.1 st _ hq a w S β M ht) ?_);rintro e a' w' ⟨e',st',S',β',rfl,h1,h2,h3⟩
   cases e' with
   |normal=>
    obtain⟨st2,g1,st3,σ,hW,hf,g2⟩:=h1;obtain⟨S2,h4⟩:=nG g1 h2
    exact ihy hk.2 st3 Q g2 a' w' S2 _ (pJ hW hf h4) h3
   |exit i=>exact⟨.exit i,st',S',β',rfl,h1,h2,h3⟩
   |ret=>exact⟨.ret,st',S',β',rfl,h1,h2,h3⟩
 | cond c x y ihx ihy=>
  intro hk st Q hq a w S β M ht;simp only[oH,aH]at hk;simp only[fZ]at hq;split at hq
  ·rename_i b hb;obtain⟨h1,h2⟩:=hq;have hv:=sK M c;rw[hb]at hv;refine wpIn_cond_split (lH hv) (λ htt=>ihx hk.1 st Q (h1 htt) a w S β M ht) (λ hf=>ihy hk.2 st Q (h2 hf) a w S β M ht)
  ·exact hq.elim
 | block id b ih=>
  intro hk st Q hq a w S β M ht;simp only[oH]at hk;simp only[fZ]at hq;refine wpIn_block (wpIn_mono (ih hk st _ hq a w S β M ht) ?_);rintro e a' w' ⟨e',st',S',β',rfl,h1,h2,h3⟩
  cases e' with
  |normal=>exact⟨.normal,st',S',β',rfl,h1,h2,h3⟩
  |ret=>exact⟨.ret,st',S',β',rfl,h1,h2,h3⟩
  | exit i=>
   show Exit.inBlock id _ (.exit i) a' w';simp only at h1;simp only[Exit.inBlock];by_cases hi:i=id
   ·subst hi;rw[if_pos rfl];rw[show Nat.beq i i=true from mY i]at h1;exact⟨.normal,st',S',β',rfl,h1,h2,h3⟩
   ·rw[if_neg hi];have:Nat.beq i id=false:=by rw[←eO];exact λ e=>hi (aK e)
    rw[this]at h1
    exact⟨.exit i,st',S',β',rfl,h1,h2,h3⟩
 |loop b ih=>intro hk;simp[oH]at hk
 |_=>intro _ st Q hq;exact hq.elim
theorem Bj(hF:FOk F C.P)(hC:CtxOk C)(nH:NoH C){ops:Array Oper}{all:List Oper}(hall:ops.toList=all)(hb:uO N all=true)(hl:JV kp all=true){K:ASt→Prop}{Q:Exit→Act→World→Prop}{n:Nat}(post:List Nat):∀ (rest:List Oper) (j:Nat) (t:Nat→AV) (h:AH) (a:Act) (w:World) (S:Nat→Prop) (β:Bt),(∃ q,all.drop j=rest++q)→kX C (bT C) all rest j ⟨t,h,n⟩ K→SimD C V w0 S0 N (· <n+j) t h a w S β→tmk kp a0 a→
  (∀ st a' w' S' β',K st→SimD C V w0 S0 N (· <st.n) st.t st.h a' w' S' β'→tmk kp a0 a'→wpOpsIn F m C.P ops Q post a' w')→wpOpsIn F m C.P ops Q (List.range' j rest.length++post) a w
 |[],j,t,h,a,w,S,β,_,hr,M,ht,hQ=>hQ ⟨t,h,n+j⟩ a w S β hr M ht
 | o::rest,j,t,h,a,w,S,β,⟨q,hdrop⟩,hr,M,ht,hQ=>by
  obtain⟨x,h',h1,h2⟩:=(step_inv hr).resolve_right (λ⟨_,f,args,Post,_,hh,_⟩=>nH _ _ _ _ _ hh);have hj:all[j]?=some o:=by
   have:(all.drop j)[0]?=some o:=by rw[hdrop];rfl
   simpa using this
  have hoj:ops[j]?=some o:=by rw[←hj, ←hall,bF]
  have hmem:o∈all:=aB hj;have hs:β (n+j)=none:=by
   cases hq:β (n+j)with
   |none=>rfl
   |some l=>have:=M.dom _ _ hq;omega
  obtain⟨l1,l2⟩:=Iq (ops:=ops) (kp:=kp) (by rw[hall];exact hl) hoj;rw[bJ,nX,nV];simp only[wpOpsIn,hoj];obtain⟨Q2,hQ2⟩:∃ Q2:Exit→Act→World→Prop,Q2=λ _ _ _=>False:=⟨_,rfl⟩;refine Lu (ops:=ops) (Q:=Q2) hF l1 l2 (by rintro ⟨a,w,h⟩;rw[hQ2]at h;exact h) (λ c a w h=>by rw[hQ2]at h;exact h.elim)
   (wZ (K:=λ a' w'=>∃ S' β',SimD C V w0 S0 N (λ y=>y<n+j∨y=n+j) (zL t o.dst x) h' a' w' S' β') hC M hs hall h1 (vV hb hmem) (λ i pol d _ hd=>Bs hb i d hd) λ a' w' S' β' M'=>⟨S',β',M'⟩) ?_
  rintro a' w' ⟨S',β',M'⟩ hm;refine Bj hF hC nH hall hb hl post rest (j+1) _ h' a' w' S' β' ⟨q,?_⟩ h2 ?_ (ht.trans hm) hQ
  ·rw[←kV,hdrop];rfl
  ·exact⟨M'.T,M'.H,M'.B,λ y l hy=>(M'.dom y l hy).elim (λ (h:y<n+j)=>show y<n+(j+1) by omega) (λ (h:y=n+j)=>show y<n+(j+1) by omega),M'.df,M'.sz,M'.G,M'.nw,M'.iv⟩
end
structure Same(K:Nat→Prop)(w w':World):Prop where
 os:w'.os=w.os
 tape:w'.tape=w.tape
 output:w'.output=w.output
 size:w.heap.size≤w'.heap.size
 block:∀ b,b<w.heap.size→K b→w'.heap[b]?=w.heap[b]?
theorem Same.refl(K:Nat→Prop)(w:World):Same K w w:=⟨rfl,rfl,rfl,aC _,λ _ _ _=>rfl⟩
theorem Same.trans{K:Nat→Prop}{a b c:World}(h:Same K a b)(k:Same K b c):Same K a c:=
 ⟨k.os.trans h.os,k.tape.trans h.tape,k.output.trans h.output,aL h.size k.size,λ x hx hk=>(k.block x (Nat.lt_of_lt_of_le hx h.size) hk).trans (h.block x hx hk)⟩
theorem Same.mono{K K':Nat→Prop}{a b:World}(h:Same K a b)(hk:∀ x,x<a.heap.size→K' x→K x):Same K' a b:=⟨h.os,h.tape,h.output,h.size,λ x hx hx'=>h.block x hx (hk x hx hx')⟩
theorem Same.of_below{K:Nat→Prop}{n:Nat}{a b:World}(h:Below n a b)(hk:∀ x,K x→x<n):Same K a b:=⟨h.os,h.tape,h.output,h.size,λ x _ hx=>h.block x (hk x hx)⟩
theorem Ip{F:Fence}{m:Nat}{P:Program}{ops:Array Oper}{Q:Exit→Act→World→Prop}{i:Nat}{rest:List Nat}{o:Oper}{a:Act}{w:World}(ho:ops[i]?=some o)(hg:o.guard=none)(h:o.wpIn F m P a w (wpOpsIn F m P ops Q rest) Q):wpOpsIn F m P ops Q (i::rest) a w:=by
 have:Region.wanted o (yielded ops a.tmps)=true:=by simp[Region.wanted,hg]
 simp only[wpOpsIn,ho,this,kW];exact h
theorem Lt{F:Fence}{m l:Nat}{P:Program}(hF:FOk F P){o:Oper}{f:Operand}{args:Array Operand}{ats:Array TypeId}{vs:Array Value}{a:Act}{w:World}{K:Act→World→Prop}{Q:Exit→Act→World→Prop}{R:Bool→World→Prop}
  (ho:o.op=.call {callee:=.value f,args:=args,argTypes:=ats}) (hf:a.eval f=.func (.yield l) #[] #[]) (ha:args.map a.eval=vs) (hy:YieldAt F m P l vs w λ e w'=>∃ b,e=.returned (.bool b)∧R b w')
  (hK:∀ b w',R b w'→K (a.put o.dst (.bool b)) w'):o.wpIn F (m+1) P a w K Q:=by
 obtain⟨fn,tmps,assign,body,hy,hR⟩:=hy;unfold Oper.wpIn;refine⟨λ f _=>hF.fn f,?_⟩;rw[Oper.semAt_eq _ _ _ (λ c hc=>by rw[ho]at hc;cases hc)];have he:(execOp a.eval o).run P w=.ok (.round l fn tmps assign body) w:=by
  rw[←hy];simp only[execOp,ho,resolve,Deferred.ofValue,hf,ha];simp[invoke]
 rw[he,Oper.uponIn_round];refine⟨λ hd=>(by rw[hF.dep]at hd;cases hd),hR.mono ?_⟩;rintro e w' ⟨b,rfl,hr⟩;exact hK b w' hr
def YE{α:Type}(P:Program)(g:Nat)(lb:Array Value)(encs:α→Array Value)(xs:List α)(R:Nat→Prop)(w:World):Prop:=
 ∀ (l:Nat) (J:Bool→(Nat→Prop)→List α→World→Prop) (C0:Nat→Prop) (W:World),
  Same R w W→(∀ b,R b→ ¬ C0 b)→
  (∀ s C pre A B,J s C pre A→Same (λ b=>b<W.heap.size∨C b) A B→J s C pre B)→
  (∀ s C pre A,J s C pre A→∀ b,C b→b<A.heap.size)→
  (∀ C pre x A,J false C pre A→pre++[x] <+: xs→YieldAt Fence.wide 1 P l (encs x) A λ e B=>∃ b,e=.returned (.bool b)∧
   ∃ C',J (!b) C' (pre++[x]) B∧Same (λ b=> ¬ C b) A B∧(∀ b,C' b→C b∨A.heap.size≤b))→
  J false C0 [] W→
  Calls P g (#[.func (.yield l) #[] #[]]++lb) W λ e W'=>(∃ v,e=.returned v)∧((∃ C,J false C xs W')∨∃ C pre,pre <+: xs∧J true C pre W')
theorem EL{α:Type}{P:Program}{g:Operand}{ps:Array Tmp}{assign body:Code}{Q:Exit→Act→World→Prop}{a:Act}{w:World}
  {gf:Nat} {lb:Array Value} (hg:a.eval g=.func (.func gf) #[] lb) (eg:∀ args w,(callFunc gf args).run P w=.ok (.enter gf args) w)
  {encs:α→Array Value} {xs:List α} {R:Nat→Prop} {w0:World} (hseq:YE P gf lb encs xs R w0) (hR:Same R w0 w) (hRlt:∀ b,R b→b<w0.heap.size) (hps:∀ x,(encs x).size=ps.size)
  (I Ix:(Nat→Prop)→List α→World→Prop) (IA:(Nat→Prop)→List α→α→Act→World→Prop) (C0:Nat→Prop) (hC0:∀ b,C0 b→b<w.heap.size) (hCR:∀ b,R b→ ¬ C0 b)
  (hI:∀ C pre A B,I C pre A→Same (λ b=>b<w.heap.size∨C b) A B→I C pre B)
  (hIx:∀ C pre A B,Ix C pre A→Same (λ b=>b<w.heap.size∨C b) A B→Ix C pre B)
  (hIA:∀ C pre x a A B,IA C pre x a A→Same (λ b=>b<w.heap.size∨C b) A B→IA C pre x a B)
  (hlt:∀ C pre A,I C pre A→∀ b,C b→b<A.heap.size) (hltx:∀ C pre A,Ix C pre A→∀ b,C b→b<A.heap.size)
  (h0:I C0 [] w)
  (hassign:∀ (l:Nat) (C:Nat→Prop) (pre:List α) (x:α) (A:World),I C pre A→pre++[x] <+: xs→w.heap.size≤A.heap.size→
   assign.wpIn (Fence.wide.inRound l) 1 P (Exit.then (λ a1 B=>∃ C',IA C' pre x a1 B∧Same (λ b=> ¬ C b) A B∧(∀ b,C' b→C b∨A.heap.size≤b)) (λ _ _ _=>False))
    {tmps:=(ps.zip (encs x)).foldl (λ t (p,v)=>t.setIfInBounds p v) a.tmps,defers:=[]} A)
  (hbody:∀ (l:Nat) (C:Nat→Prop) (pre:List α) (x:α) (a1:Act) (A:World),IA C pre x a1 A→pre++[x] <+: xs→w.heap.size≤A.heap.size→
   body.wpIn (Fence.wide.inRound l) 1 P (λ e _ B=>∃ C',Same (λ b=> ¬ C b) A B∧(∀ b,C' b→C b∨A.heap.size≤b)∧((e=.normal∧I C' (pre++[x]) B)∨(e=.ret∧Ix C' (pre++[x]) B))) a1 A)
  (hdone:∀ (D:Nat) (C:Nat→Prop) (W:World),w.heap.size≤D→I C xs W→ ¬ C D→W.heap[D]?=some (.deferred (some []))→Q .normal {a with defers:={target:=.collected D,args:= #[]}::a.defers} W)
  (hstop:∀ (D:Nat) (C:Nat→Prop) (pre:List α) (W:World),w.heap.size≤D→pre <+: xs→Ix C pre W→ ¬ C D→W.heap[D]?=some (.deferred (some []))→Q .ret {a with defers:={target:=.collected D,args:= #[]}::a.defers} W):
  (Code.rangeFunc g ps assign body).wp P Q a w:=by
 refine (wpIn_wide (n:=3)).1 (wpIn_rangeFunc ?_);intro fn hfn;show ∃ _,_;obtain⟨rec,hrec⟩:∃ rec:LoopState→Option Code→Loop,rec=λ st pe=>{state:=st,pending:=pe,fn,tmps:=a.tmps,params:=ps,assign,body,defers:=w.heap.size}:=⟨_,rfl⟩;obtain⟨W1,hW1⟩:∃ W1,(w.alloc (.deferred (some []))).alloc (.loop (rec .ready none))=W1:=⟨_,rfl⟩;have hs1:W1.heap.size=w.heap.size+2:=by rw[←hW1];simp
 have hL1:W1.heap[w.heap.size+1]?=some (.loop (rec .ready none)):=by
  rw[←hW1];have:=World.alloc_heap_new (w.alloc (.deferred (some []))) (.loop (rec .ready none));rwa [World.size_alloc]at this
 have hK1:W1.heap[w.heap.size]?=some (.deferred (some [])):=by
  rw[←hW1];exact (Below.heap_alloc _ _ _ (by simp)).trans (World.alloc_heap_new w _)
 have hb1:Below w.heap.size w W1:=by
  rw[←hW1];exact ((Below.refl _ w).alloc (aC _) _).alloc (by simp) _
 have hput:∀ (K:Nat→Prop) (A:World) (o:Obj), ¬ K (w.heap.size+1)→Same K A (A.putObj (w.heap.size+1) o):=λ K A o hk=>
  ⟨rfl,rfl,rfl,by simp,λ b _ hb=>World.putObj_heap_other (λ e=>hk (e ▸ hb))⟩
 refine⟨w.heap.size+1,[{target:=.collected w.heap.size,args:= #[]}],W1,{target:=.fn (.func gf) lb,args:= #[.func (.yield (w.heap.size+1)) #[] #[]]},W1,gf,
  #[.func (.yield (w.heap.size+1)) #[] #[]]++lb,W1,?_,?_,?_,?_,λ _=>by omega,?_⟩
 ·rw[←hW1,hrec];exact run_enterLoop_outer _ _ _ _ _
 ·simp only[resolve,hg];simp[go_sem]
 ·intro f' _;trivial
 ·simp[invoke,go_sem,eg]
 ·refine callsIn_wide.2 ((hseq (w.heap.size+1)
   (λ s CC pre A=>∃ C,(bif s then Ix else I) C pre A∧(∀ b,CC b↔C b∨b=w.heap.size+1)∧(∀ b,C b→b<w.heap.size∨w.heap.size+1<b)∧A.heap[w.heap.size+1]?=some (.loop (bif s then rec .done (some .ret)else rec .ready none))∧A.heap[w.heap.size]?=some (.deferred (some [])))
   (λ b=>C0 b∨b=w.heap.size+1) W1 ?_ ?_ ?_ ?_ ?_ ?_).mono ?_)
  ·exact hR.trans (Same.of_below hb1 λ x hx=>Nat.lt_of_lt_of_le (hRlt x hx) hR.size)
  ·rintro b hb (h|h)
   ·exact hCR b hb h
   ·have:=hRlt b hb;have:=hR.size;omega
  ·rintro s CC pre A B ⟨C,hi,hc,hcl,hl,hk⟩ hs;have l1:=(Du.1 hl).1;have l2:=(Du.1 hk).1;refine⟨C,?_,hc,hcl,(hs.block _ l1 (.inl (by omega))).trans hl,(hs.block _ l2 (.inl (by omega))).trans hk⟩;have hs':Same (λ b=>b<w.heap.size∨C b) A B:=hs.mono λ x _ hx=>hx.elim (λ h=>.inl (by omega)) (λ h=>.inr ((hc x).2 (.inl h)));cases s
   ·exact hI C pre A B hi hs'
   ·exact hIx C pre A B hi hs'
  ·rintro s CC pre A ⟨C,hi,hc,hcl,hl,hk⟩ b hb;rcases (hc b).1 hb with h|h
   ·cases s
    ·exact hlt C pre A hi b h
    ·exact hltx C pre A hi b h
   ·rw[h];exact (Du.1 hl).1
  ·
   rintro CC pre x A ⟨C,hi,hc,hcl,hl,hk⟩ hpre;have l1:=(Du.1 hl).1;have hnr: ¬ C (w.heap.size+1):=λ h=>by have:=hcl _ h;omega
   have hnd: ¬ C (w.heap.size):=λ h=>by have:=hcl _ h;omega
   have hy:=run_yield (P:=P) (args:=encs x) hl (by rw[hrec];exact hps x);rw[hrec]at hy;refine⟨fn,_,assign,body,hy,roundIn_of_wpIn trivial (wpIn_mono (hassign _ C pre x A hi hpre (by omega)) ?_)⟩;intro e a1 B hB;cases e<;>try exact hB.elim
   obtain⟨C',hia,hsB,hgrow⟩:=hB;have hlB:B.heap[w.heap.size+1]?=some (.loop (rec .ready none)):=(hsB.block _ l1 hnr).trans hl;have hkB:B.heap[w.heap.size]?=some (.deferred (some [])):=(hsB.block _ (by omega) hnd).trans hk;have hnr': ¬ C' (w.heap.size+1):=λ h=>(hgrow _ h).elim hnr (λ h=>by omega);have hnd': ¬ C' (w.heap.size):=λ h=>(hgrow _ h).elim hnd (λ h=>by omega);have lB:=(Du.1 hlB).1;refine⟨_,run_beginRound hlB (by rw[hrec]),?_⟩;have hl2:(B.putObj (w.heap.size+1) (.loop {rec .ready none with state:=.busy})).heap[w.heap.size+1]?=some (.loop {rec .ready none with state:=.busy}):=World.putObj_heap_same lB;have hk2:(B.putObj (w.heap.size+1) (.loop {rec .ready none with state:=.busy})).heap[w.heap.size]?=some (.deferred (some [])):=(World.putObj_heap_other (by omega)).trans hkB;have hia2:=hIA C' pre x a1 B _ hia (hput (λ b=>b<w.heap.size∨C' b) B (.loop {rec .ready none with state:=.busy}) (by rintro (h|h);omega;exact hnr' h));refine wpIn_mono (hbody _ C' pre x a1 _ hia2 hpre (by simp;omega)) ?_;rintro e a3 W3 ⟨C3,hs3,hg3,hi3⟩;have hl3:W3.heap[w.heap.size+1]?=some (.loop {rec .ready none with state:=.busy}):=(hs3.block _ (by simp;omega) hnr').trans hl2;have hk3:W3.heap[w.heap.size]?=some (.deferred (some [])):=(hs3.block _ (by simp;omega) hnd').trans hk2;have l3:=(Du.1 hl3).1;have hnr3: ¬ C3 (w.heap.size+1):=λ h=>(hg3 _ h).elim hnr' (λ h=>by simp at h;omega);have hcl3:∀ b,C3 b→b<w.heap.size∨w.heap.size+1<b:=by
    intro b hb;rcases hg3 b hb with h|h
    ·rcases hgrow b h with h|h
     ·exact hcl b h
     ·right;omega
    ·simp at h;right;omega
   have hcat:∀ o,Same (λ b=> ¬ CC b) A (W3.putObj (w.heap.size+1) o):=λ o=>by
    have q1:Same (λ b=> ¬ CC b) A B:=hsB.mono λ b _ hb h=>hb ((hc b).2 (.inl h));have q2:Same (λ b=> ¬ CC b) B (B.putObj (w.heap.size+1) (.loop {rec .ready none with state:=.busy})):=hput _ _ _ (λ h=>h ((hc _).2 (.inr rfl)));have q4:Same (λ b=> ¬ CC b) W3 _:=hput (λ b=> ¬ CC b) W3 o (λ h=>h ((hc _).2 (.inr rfl)));refine Same.trans ?_ q4;have q3:∀ b,b<A.heap.size→ ¬ CC b→W3.heap[b]?=A.heap[b]? :=λ b hb hcc=>by
     have nC: ¬ C b:=λ h=>hcc ((hc b).2 (.inl h));have nC': ¬ C' b:=λ h=>(hgrow b h).elim nC (λ h=>by omega);rw[hs3.block b (by simp;exact Nat.lt_of_lt_of_le hb hsB.size) nC',q2.block b (Nat.lt_of_lt_of_le hb hsB.size) hcc,q1.block b hb hcc]
    exact⟨hs3.os.trans hsB.os,hs3.tape.trans hsB.tape,hs3.output.trans hsB.output,aL hsB.size (by have:=hs3.size;simpa using this),q3⟩
   have grow:∀ b,(C3 b∨b=w.heap.size+1)→CC b∨A.heap.size≤b:=by
    rintro b (h|h)
    ·rcases hg3 b h with h|h
     ·exact (hgrow b h).imp (λ h=>(hc b).2 (.inl h)) id
     ·exact .inr (aL hsB.size (by simpa using h))
    ·exact .inl ((hc b).2 (.inr h))
   rcases hi3 with ⟨rfl,hi3⟩|⟨rfl,hi3⟩
   ·have hr:=run_endRound (P:=P) (none:Option Code) hl3;refine⟨_,_,hr,true,rfl,λ b=>C3 b∨b=w.heap.size+1,⟨C3,?_,λ b=>Iff.rfl,hcl3,?_,?_⟩,hcat _,grow⟩
    ·exact hI C3 _ W3 _ hi3 (hput _ W3 _ (by rintro (h|h);omega;exact hnr3 h))
    ·rw[World.putObj_heap_same l3,hrec];rfl
    ·exact (World.putObj_heap_other (by omega)).trans hk3
   ·have hr:=run_endRound (P:=P) (some Code.ret) hl3;refine⟨_,_,hr,false,rfl,λ b=>C3 b∨b=w.heap.size+1,⟨C3,?_,λ b=>Iff.rfl,hcl3,?_,?_⟩,hcat _,grow⟩
    ·exact hIx C3 _ W3 _ hi3 (hput _ W3 _ (by rintro (h|h);omega;exact hnr3 h))
    ·rw[World.putObj_heap_same l3,hrec];rfl
    ·exact (World.putObj_heap_other (by omega)).trans hk3
  ·refine⟨C0,hI C0 [] w W1 h0 (Same.of_below hb1 λ x hx=>hx.elim id (hC0 x)),λ b=>Iff.rfl,λ b hb=>.inl (hC0 b hb),hL1,hK1⟩
  ·
   rintro e W2 ⟨⟨v,rfl⟩,⟨CC,C,hi,hc,hcl,hl,hk⟩|⟨CC,pre,hpre,C,hi,hc,hcl,hl,hk⟩⟩
   ·have hnr: ¬ C (w.heap.size+1):=λ h=>by have:=hcl _ h;omega
    have hnd: ¬ C (w.heap.size):=λ h=>by have:=hcl _ h;omega
    refine⟨none,_,by have:=run_endLoop (P:=P) hl (by rw[hrec];simp);rw[hrec]at this;exact this,?_⟩;exact hdone w.heap.size C _ (aC _) (hI C xs W2 _ hi (hput _ W2 _ (by rintro (h|h);omega;exact hnr h))) hnd ((World.putObj_heap_other (by omega)).trans hk)
   ·have hnr: ¬ C (w.heap.size+1):=λ h=>by have:=hcl _ h;omega
    have hnd: ¬ C (w.heap.size):=λ h=>by have:=hcl _ h;omega
    refine⟨some .ret,_,by have:=run_endLoop (P:=P) hl (by rw[hrec];simp);rw[hrec]at this;exact this,wpIn_ret ?_⟩;exact hstop w.heap.size C pre _ (aC _) hpre (hIx C pre W2 _ hi (hput _ W2 _ (by rintro (h|h);omega;exact hnr h))) hnd ((World.putObj_heap_other (by omega)).trans hk)
theorem yV{S S':Nat→Prop}{w w':World}{β:Bt}{x:AV}{v:Value}(hr:Rep S w β x v)(hSS:∀ b,S b→S' b)(hS:∀ b,S b→w'.heap[b]?=w.heap[b]?):
  (∀ s l cs e fr,β s=some l→w.heap[l.blk]?=some (Obj.cells cs e fr)→∃ cs':Array Value,w'.heap[l.blk]?=some (.cells cs' e fr)∧cs'.size=cs.size)→Rep S' w' β x v:=by
 induction hr with
 |v x=>intro _;exact .v x
 |agg cs vs hl h1 h ih=>intro hb;exact .agg cs vs hl h1 λ i a u h1 h2=>ih i a u h1 h2 hb
 |tup cs vs hl h ih=>intro hb;exact .tup cs vs hl λ i a u h1 h2=>ih i a u h1 h2 hb
 |sl rs rows clip A c b o u hc hm hcl hrs hA hw h1 hr ih=>
  intro _;refine .sl rs rows clip A c b o u hc hm hcl hrs (λ h=>⟨(hA h).1,hSS _ (hA h).2⟩) (λ i row j a h1 h2=>?_) h1 λ i row j a h1 h2=>ih i row j a h1 h2 (λ s l _ _ _ e=>by cases e);have h0:0<rows.length:=bI (aD i) (DK.1 h1).1;rw[tO (hS b (hA h0).2)]
  exact hw i row j a h1 h2
 |dp rs col row b o u hrs hb hw h1 hr ih=>
  intro _
  exact .dp rs col row b o u hrs (hSS _ hb) (λ j a h1=>by rw[tO (hS b hb)];exact hw j a h1) h1 λ j a h1=>ih j a h1 (λ s l _ _ _ e=>by cases e)
 |ptr s col l hl=>intro hb;exact .ptr s col l hl
 |ptr2 s row col l hl=>intro hb;exact .ptr2 s row col l hl
 |osl s lo len clip l A c hl hc hm hcl hA cs e fr hb room=>
  intro hβ;obtain⟨cs',h1,h2⟩:=hβ _ _ _ _ _ hl hb
  exact .osl s lo len clip l A c hl hc hm hcl hA cs' e fr h1 (by rw[h2];exact room)
 |clo f first caps vs us hl h hl' h' ih ih'=>intro hb;exact .clo f first caps vs us hl (λ i a u h1 h2=>ih i a u h1 h2 hb) hl' λ i a u h1 h2=>ih' i a u h1 h2 hb
 |optT g a x hg h ih=>intro hb;exact .optT g a x hg (ih hb)
 |optF g a hg=>intro _;exact .optF g a hg
 |any x=>intro _;exact .any x
theorem ML{β:Bt}{w w':World}(h:∀ s l o,β s=some l→w.heap[l.blk]?=some o→w'.heap[l.blk]?=some o):
  ∀ s l cs e fr,β s=some l→w.heap[l.blk]?=some (Obj.cells cs e fr)→∃ cs':Array Value,w'.heap[l.blk]?=some (.cells cs' e fr)∧cs'.size=cs.size:=λ s l cs e fr h1 h2=>⟨cs,h s l _ h1 h2,rfl⟩
section
variable {C:Ctx}{V V':Inv C.fr}{w0:World}{S0:Nat→Prop}{N:Nat}
theorem SimD.move{D:Nat→Prop}{t:Nat→AV}{h:AH}{a:Act}{w w':World}{S:Nat→Prop}{β:Bt}(M:SimD C V w0 S0 N D t h a w S β)(hS:∀ b,S b→w'.heap[b]?=w.heap[b]?)
  (hb:∀ s l o,β s=some l→w.heap[l.blk]?=some o→w'.heap[l.blk]?=some o) (h1:w'.os=w.os) (h2:w'.tape=w.tape) (h3:w'.output=w.output) (hsz:w.heap.size≤w'.heap.size) (h0:∀ b,b<w0.heap.size→w'.heap[b]?=w.heap[b]?) (hV:V'.p S w' β):
  SimD C V' w0 S0 N D t h a w' S β:=by
 refine⟨λ i=>yV (M.T i) (λ _ h=>h) hS (ML hb),⟨λ s blk hs=>?_,M.H.inj,λ b hb=>Nat.lt_of_lt_of_le (M.H.lt b hb) hsz,aL M.H.big hsz⟩,⟨h1.trans M.B.os,h2.trans M.B.tape,h3.trans M.B.output,aL M.B.size hsz,λ b hb=>(h0 b hb).trans (M.B.block b hb)⟩,M.dom,M.df,M.sz,λ g cells hg=>yV (M.G g cells hg) (λ _ h=>h) hS (λ s l _ _ _ e=>by cases e),M.nw,hV⟩;obtain⟨l,cs,e,fr,k1,k2,k3,k4,k5,k6⟩:=M.H.own s blk hs;refine⟨l,cs,e,fr,k1,hb _ _ _ k1 k2,k3,k4,k5,?_⟩;have go:∀ a v,Rep S w β a v→Rep S w' β a v:=λ a v hr=>yV hr (λ _ h=>h) hS (ML hb)
 cases blk with
 |box cells=>exact λ j a h1=>let ⟨u,h2,h4,h3⟩:=k6 j a h1;⟨u,h2,h4,go _ _ h3⟩
 |arr rows rs=>exact⟨k6.1,k6.2.1,λ i row j a h1 h2=>let ⟨u,h3,h5,h4⟩:=k6.2.2 i row j a h1 h2;⟨u,h3,h5,yV h4 (λ _ h=>h) hS (λ s l _ _ _ e=>by cases e)⟩⟩
 |row cells=>exact⟨k6.1,λ j a h1=>let ⟨u,h2,h4,h3⟩:=k6.2 j a h1;⟨u,h2,h4,go _ _ h3⟩⟩
theorem SimD.inv{D:Nat→Prop}{t:Nat→AV}{h:AH}{a:Act}{w:World}{S:Nat→Prop}{β:Bt}(M:SimD C V w0 S0 N D t h a w S β)(hV:V'.p S w β):SimD C V' w0 S0 N D t h a w S β:=⟨M.T,M.H,M.B,M.dom,M.df,M.sz,M.G,M.nw,hV⟩
end
theorem AG(S:Nat→Prop)(w:World)(β:Bt)(s:Nat):FrP S w β s S w β:=
 ⟨λ _ h=>h,Evo.refl _ _,aC _,λ _ _ _ h=>h,λ x l h=>.inl ⟨x,l,h,rfl⟩,λ _ h=>.inl h,λ _ _ _=>rfl⟩
def Tp{α:Type}(C:Ctx)(g:FuncId)(caps:List AV)(encs:α→Array Value)(xs:List α):Prop:=
 ∀ (R:Nat→Prop) (w:World) (us:List Value),(∀ b,R b→b<w.heap.size)→GOk C R w→RepL R w noB caps us→YE C.P g us.toArray encs xs R w
def YD(t:Nat→AV):List Nat→List AV→Nat→AV
 |p::ps,x::xs=>YD (upd t p x) ps xs
 |_,_=>t
def UJ(n:Nat)(t:Nat→AV)(h:AH)(NX:Prop)(K:AEx→ASt→Prop):AEx→ASt→Prop
 | .normal,st=>NX∧GhostN st λ stg=>∃ σ,keepB n σ n=true∧Weak stg ⟨λ _=>.any,h,n⟩ σ
 | .ret,st=>GhostN st λ stg=>∃ h' σ,keepB n σ n=true∧Weak stg ⟨λ _=>.any,h',n⟩ σ∧K .ret ⟨t,h',n⟩
 | .exit _,_=>False
inductive RangeN(C:Ctx)(st:ASt)(g:Operand)(ps:List Nat)(asg body:Code)(K:AEx→ASt→Prop):Prop
 | mk (α:Type) (gf:FuncId) (caps:List AV) (encA:α→List AV) (encs:α→Array Value) (xs:List α) (NX:α→Prop)
   (hg:evA C st.t g=.clo gf [] caps) (hcl:gE caps=true) (hfn:∃ fn,C.P.funcs[gf]?=some fn∧fn.body.isSome=true∧(fn.name== "runtime.NumGoroutine")=false)
   (hit:Tp C gf caps encs xs) (henc:∀ x S w β,RepL S w β (encA x) (encs x).toList) (hps:∀ x,(encA x).length=ps.length) (hfull:Dr st.h st.n=true)
   (round:∀ pre x,pre++[x] <+: xs→(∀ y,y∈pre→NX y)→fZ (C.at st.n) (bT (C.at st.n)) asg ⟨YD st.t ps (encA x),st.h,st.n⟩ (λ e st1=>e=.normal∧fZ (C.at st.n) (bT (C.at st.n)) body st1 (UJ st.n st.t st.h (NX x) K)))
   (done:(∀ y,y∈xs→NX y)→K .normal st):RangeN C st g ps asg body K
theorem MM{S:Nat→Prop}{w:World}{β:Bt}:∀ (ps:List Nat) (xs:List AV) (vs:List Value) (t:Nat→AV) (tm:Array Value),xs.length=vs.length→ps.length=xs.length→(∀ p∈ps,p<tm.size)→
  (∀ i,Rep S w β (t i) (tm.getD i undef))→(∀ (i:Nat) a u,xs[i]?=some a→vs[i]?=some u→Rep S w β a u)→
  ∀ i,Rep S w β (YD t ps xs i) (((ps.zip vs).foldl (λ t (p,v)=>t.setIfInBounds p v) tm).getD i undef)
 |[],xs,vs,t,tm,_,_,_,hT,_=>hT
 |p::ps,[],vs,t,tm,h1,h2,_,hT,_=>by simp at h2
 |p::ps,x::xs,[],t,tm,h1,h2,_,hT,_=>by simp at h1
 | p::ps,x::xs,v::vs,t,tm,h1,h2,hp,hT,hr=>by
  show ∀ i,Rep S w β (YD (upd t p x) ps xs i) (((ps.zip vs).foldl (λ t (p,v)=>t.setIfInBounds p v) (tm.setIfInBounds p v)).getD i undef);refine MM ps xs vs _ _ (by simpa using h1) (by simpa using h2) (λ q hq=>by rw[jC];exact hp q (bE _ hq)) (λ i=>?_) (λ i a u q1 q2=>hr (i+1) a u (by simpa using q1) (by simpa using q2));by_cases hi:i=p
  ·subst hi;have hlt:=hp i al_List_mem_cons_self;rw[cZ,aI,cV hlt];exact hr 0 x v rfl rfl
  ·rw[cA _ _ hi,aI,cU (Ne.symm hi), ←aI];exact hT i
theorem AR:∀ (ps:List Nat) (vs:List Value) (tm:Array Value),((ps.zip vs).foldl (λ t (p,v)=>t.setIfInBounds p v) tm).size=tm.size
 |[],_,_=>rfl
 |_::_,[],_=>rfl
 |p::ps,v::vs,tm=>by
  show ((ps.zip vs).foldl (λ t (p,v)=>t.setIfInBounds p v) (tm.setIfInBounds p v)).size=_;rw[AR ps vs,jC]
theorem JR(ps:Array Nat)(vs:Array Value)(tm:Array Value):(ps.zip vs).foldl (λ t (p,v)=>t.setIfInBounds p v) tm=(ps.toList.zip vs.toList).foldl (λ t (p,v)=>t.setIfInBounds p v) tm:=by
 rw[←Array.foldl_toList,Array.toList_zip]
def dfs:Option Nat→List Deferred
 |none=>[]
 |some D=>[{target:=.collected D,args:= #[]}]
@[reducible] def Ctx.wd(C:Ctx)(d:Option Nat):Ctx:={C with df:=dfs d}
def WA(d:Option Nat)(w0:World)(S:Nat→Prop)(β:Bt)(w:World):Prop:=
 ∀ D,d=some D→w.heap[D]?=some (.deferred (some []))∧ ¬ OwnB β D∧ ¬ S D∧w0.heap.size≤D
def ZW(C:Ctx)(w0:World)(S0:Nat→Prop)(N:Nat)(Q:Option Nat→AEx→ASt→Prop)(e:Exit)(a:Act)(w:World):Prop:=
 ∃ d e' st S β,e=FL e'∧Q d e' st∧SimD (C.wd d) (Inv.any C.fr) w0 S0 N (· <st.n) st.t st.h a w S β∧WA d w0 S β w
theorem JS{P:Program}{f:FuncId}{fn:Func}(g1:P.funcs[f]?=some fn)(g2:fn.body.isSome=true)(g3:(fn.name== "runtime.NumGoroutine")=false) (args:Array Value) (w:World):(callFunc f args).run P w=.ok (.enter f args) w:=by
 simp only[callFunc,Sem.run_bind,program,Sem.run,Result.andThen_ok,g1];have:fn.body.isNone=false:=by cases hb:fn.body<;>simp_all
 simp[g3,this]
section
variable {C:Ctx}{w0:World}{S0:Nat→Prop}{N:Nat}{Q:Option Nat→AEx→ASt→Prop}
theorem Lr(hC:CtxOk C)(hCn:∀ n,CtxOk (C.at n))(hdf:C.df=[]){st:ASt}{g:Operand}{ps:Array Nat}{asg body:Code}(hp:ps.toList.all (λ p=>Nat.blt p N)=true)(hka:oH N (λ _=>false) asg=true)(hkb:oH N (λ _=>false) body=true)
  (R:RangeN C st g ps.toList asg body (λ e st'=>∀ D,Q (some D) e st')) {a:Act} {w:World} {S:Nat→Prop} {β:Bt} (M:SimD C (Inv.any C.fr) w0 S0 N (· <st.n) st.t st.h a w S β):
  (Code.rangeFunc g ps asg body).wp C.P (ZW C w0 S0 N Q) a w:=by
 obtain⟨α,gf,caps,encA,encs,xs,NX,hg,hcl,⟨fn,f1,f2,f3⟩,hit,henc,hps,hfull,round,done⟩:=R;have hfl:=tV hfull;have hge:=sK M g;rw[hg]at hge;have hnm:∀ x l,β x=some l→x<st.n∧w0.heap.size≤l.blk∧l.blk<w.heap.size∧ ¬ S l.blk:=λ x l hx=>by
  have hn:=M.dom x l hx;obtain⟨blk,hblk⟩:=Dv.1 (hfl x hn);obtain⟨l',cs,e,fr,k1,k2,k3,k4,k5,k6⟩:=M.H.own x blk hblk;rw[hx]at k1;cases k1;exact⟨hn,k4,fP k2,k5⟩
 generalize hgv:a.eval g=gv at hge
 cases hge with
 |clo _ _ _ vs us h1 h2 h3 h4=>
 have hvs:vs= #[]:=Array.eq_empty_of_size_eq_zero h1.symm;subst hvs;have hcaps:RepL S w noB caps us.toList:=by
  refine⟨by rw[h3];simp,λ i x u p q=>?_⟩;have:=h4 i x u p (by rw[←bF];exact q);exact lO this (fY _ hcl i x p) noB
 have hseq:=hit S w us.toList M.H.lt M.G hcaps;have same0:∀ {A:World},Same (λ b=> ¬ OwnB β b) w A→(∀ b,S b→A.heap[b]?=w.heap[b]?):=λ hs b hb=>
  hs.block b (M.H.lt b hb) λ⟨x,l,q1,q2⟩=>by have:=(hnm x l q1).2.2.2;rw[q2]at this;exact this hb
 let C1:(Nat→Prop)→List α→World→Prop:=λ CC pre A=>(∀ y,y∈pre→NX y)∧∃ SA,SimD (C.at st.n) (Inv.any st.n) w0 S0 N (· <st.n) st.t st.h a A SA β∧(∀ b,SA b→b<w.heap.size∨CC b)∧(∀ b,OwnB β b→CC b)∧(∀ b,CC b→b<A.heap.size)
 let C2:(Nat→Prop)→List α→World→Prop:=λ CC pre A=>∃ SA h',(∀ D,Q (some D) .ret ⟨st.t,h',st.n⟩)∧SimD (C.at st.n) (Inv.any st.n) w0 S0 N (· <st.n) st.t h' a A SA β∧(∀ b,SA b→b<w.heap.size∨CC b)∧(∀ b,OwnB β b→CC b)∧(∀ b,CC b→b<A.heap.size)
 let C3:(Nat→Prop)→List α→α→Act→World→Prop:=λ CC pre x a1 B=>∃ st1 S1 β1 A SA,(∀ y,y∈pre→NX y)∧fZ (C.at st.n) (bT (C.at st.n)) body st1 (UJ st.n st.t st.h (NX x) (λ e st'=>∀ D,Q (some D) e st'))∧
  SimD (C.at st.n) (Inv.any st.n) w0 S0 N (· <st1.n) st1.t st1.h a1 B S1 β1∧(∀ b,S1 b→b<w.heap.size∨CC b)∧(∀ b,OwnB β b→CC b)∧(∀ b,OwnB β1 b→CC b)∧
  (∀ x l,x<st.n→β x=some l→β1 x=some l)∧
  SimD (C.at st.n) (Inv.any st.n) w0 S0 N (· <st.n) st.t st.h a A SA β∧(∀ b,SA b→S1 b)∧(∀ b,SA b→B.heap[b]?=A.heap[b]?)∧
  (∀ s l cs e fr,β s=some l→A.heap[l.blk]?=some (Obj.cells cs e fr)→∃ cs':Array Value,B.heap[l.blk]?=some (.cells cs' e fr)∧cs'.size=cs.size)∧w.heap.size≤B.heap.size
 have w00:w0.heap.size≤w.heap.size:=M.B.size;have noOwn0:∀ b,b<w0.heap.size→ ¬ OwnB β b:=λ b hb ⟨x,l,q1,q2⟩=>by have:=(hnm x l q1).2.1;omega
 have mv:∀ {CC:Nat→Prop} {A B:World} {D:Nat→Prop} {t:Nat→AV} {h:AH} {a:Act} {SA:Nat→Prop} {β1:Bt},SimD (C.at st.n) (Inv.any st.n) w0 S0 N D t h a A SA β1→(∀ b,SA b→b<w.heap.size∨CC b)→(∀ b,OwnB β1 b→b<w.heap.size∨CC b)→w.heap.size≤A.heap.size→Same (λ b=>b<w.heap.size∨CC b) A B→
   SimD (C.at st.n) (Inv.any st.n) w0 S0 N D t h a B SA β1:=λ X k1 k2 k3 hs=>
  X.move (λ b hb=>hs.block b (X.H.lt b hb) (k1 b hb)) (λ s l o q1 q2=>(hs.block _ (fP q2) (k2 _ ⟨s,l,q1,rfl⟩)).trans q2) hs.os hs.tape hs.output hs.size (λ b hb=>hs.block b (by omega) (.inl (by omega))) trivial
 have big:∀ {D:Nat→Prop} {t:Nat→AV} {h:AH} {a:Act} {A:World} {SA:Nat→Prop} {β1:Bt},SimD (C.at st.n) (Inv.any st.n) w0 S0 N D t h a A SA β1→w0.heap.size≤A.heap.size:=λ X=>X.B.size;refine EL (gf:=gf) (lb:=us) hgv (JS f1 f2 f3) (by simpa using hseq) (Same.refl _ _) M.H.lt (λ x=>by rw[←cW, ←cW, ←hps x];exact ((henc x S w β).1).symm)
  (λ CC pre A=>C1 CC pre A∧w.heap.size≤A.heap.size) (λ CC pre A=>C2 CC pre A∧w.heap.size≤A.heap.size) C3 (OwnB β) (λ b ⟨x,l,q1,q2⟩=>by have:=(hnm x l q1).2.2.1;omega) (λ b hb ⟨x,l,q1,q2⟩=>by have:=(hnm x l q1).2.2.2;rw[q2]at this;exact this hb)
  ?_ ?_ ?_ ?_ ?_ ?_ ?_ ?_ ?_ ?_
 ·rintro CC pre A B ⟨⟨hN,SA,X,k1,k2,k3⟩,k4⟩ hs;exact⟨⟨hN,SA,mv X k1 (λ b hb=>.inr (k2 b hb)) k4 hs,k1,k2,λ b hb=>Nat.lt_of_lt_of_le (k3 b hb) hs.size⟩,aL k4 hs.size⟩
 ·rintro CC pre A B ⟨⟨SA,h',q,X,k1,k2,k3⟩,k4⟩ hs;exact⟨⟨SA,h',q,mv X k1 (λ b hb=>.inr (k2 b hb)) k4 hs,k1,k2,λ b hb=>Nat.lt_of_lt_of_le (k3 b hb) hs.size⟩,aL k4 hs.size⟩
 ·rintro CC pre x a1 B B' ⟨st1,S1,β1,A,SA,hN,q,X,k1,k2,k3,k5,XA,k6,k7,k8,k9⟩ hs;refine⟨st1,S1,β1,A,SA,hN,q,mv X k1 (λ b hb=>.inr (k3 b hb)) k9 hs,k1,k2,k3,k5,XA,k6,λ b hb=>(hs.block b (X.H.lt b (k6 b hb)) (k1 b (k6 b hb))).trans (k7 b hb),λ s l cs e fr h1 h2=>?_,aL k9 hs.size⟩;obtain⟨cs',h5,h6⟩:=k8 s l cs e fr h1 h2;exact⟨cs',(hs.block _ (fP h5) (.inr (k2 _ ⟨s,l,h1,rfl⟩))).trans h5,h6⟩
 ·rintro CC pre A ⟨⟨hN,SA,X,k1,k2,k3⟩,k4⟩ b hb;exact k3 b hb
 ·rintro CC pre A ⟨⟨SA,h',q,X,k1,k2,k3⟩,k4⟩ b hb;exact k3 b hb
 ·refine⟨⟨(λ y hy=>by cases hy),S,⟨M.T,M.H,M.B,M.dom,M.df,M.sz,M.G,M.nw,trivial⟩,λ b hb=>.inl (M.H.lt b hb),λ b hb=>hb,λ b ⟨x,l,q1,q2⟩=>by have:=(hnm x l q1).2.2.1;omega⟩,aC _⟩
 ·
  rintro l CC pre x A ⟨⟨hN,SA,X,k1,k2,k3⟩,k4⟩ hpre _;have X0:SimD (C.at st.n) (FD SA A β st.n) w0 S0 N (· <st.n) (YD st.t ps.toList (encA x)) st.h {tmps:=(ps.zip (encs x)).foldl (λ t (p,v)=>t.setIfInBounds p v) a.tmps,defers:=[]} A SA β:=by
   refine⟨λ i=>?_,X.H,X.B,X.dom,hdf.symm,?_,X.G,X.nw,AG _ _ _ _⟩
   ·rw[JR];have he:=henc x SA A β;exact MM _ _ _ _ _ he.1 (hps x).symm (λ p hq=>by rw[X.sz];exact aP (iO.1 hp p hq)) X.T he.2 i
   ·show ((ps.zip (encs x)).foldl (λ t (p,v)=>t.setIfInBounds p v) a.tmps).size=N;rw[JR,AR];exact X.sz
  refine wpIn_mono (Bi (C:=C.at st.n) (a0:={tmps:=(ps.zip (encs x)).foldl (λ t (p,v)=>t.setIfInBounds p v) a.tmps,defers:=[]}) (JT C.P l) (hCn st.n) asg hka ⟨_,st.h,st.n⟩ _ (round pre x hpre hN) _ A SA β X0 (tmk.refl _ _)) ?_;rintro e a1 B ⟨e',st1,S1,β1,rfl,⟨rfl,hb⟩,X1, -⟩;have P:FrP SA A β st.n S1 B β1:=X1.iv;refine⟨λ b=>CC b∨OwnB β1 b∨(A.heap.size≤b∧b<B.heap.size),⟨st1,S1,β1,A,SA,hN,hb,X1.inv trivial,λ b hb=>?_,λ b hb=>.inl (k2 b hb),λ b hb=>.inr (.inl hb),λ y l h1 h2=>P.keep y l h1 h2,X,P.hS,λ b hb=>P.hE.stable b hb,λ s l cs e fr h1 h2=>P.hE.shape _ _ _ _ h2,aL k4 P.sz⟩,
   ⟨X1.B.os.trans X.B.os.symm,X1.B.tape.trans X.B.tape.symm,X1.B.output.trans X.B.output.symm,P.sz,λ b hb hn=>P.still b hb λ h=>hn (k2 b h)⟩,λ b hb=>?_⟩
  ·rcases P.nw b hb with h|h|h
   ·exact (k1 b h).imp id .inl
   ·exact .inr (.inr (.inr ⟨h,X1.H.lt b hb⟩))
   ·exact .inr (.inl (k2 b h))
  ·rcases hb with h|⟨y,l,h1,h2⟩|h
   ·exact .inl h
   ·rcases P.own y l h1 with h|h
    ·exact .inl (k2 b (h2 ▸ h))
    ·exact .inr (h2 ▸ h)
   ·exact .inr h.1
 ·
  rintro l CC pre x a1 A1 ⟨st1,S1,β1,A,SA,hN,q,X,k1,k2,k3,k5,XA,k6,k7,k8,k9⟩ hpre _;refine wpIn_mono (Bi (C:=C.at st.n) (V:=FD S1 A1 β1 st.n) (a0:=a1) (JT C.P l) (hCn st.n) body hkb st1 _ q a1 A1 S1 β1 (X.inv (AG _ _ _ _)) (tmk.refl _ _)) ?_;rintro e a2 B ⟨e',st2,S2,β2,rfl,hq,X2, -⟩;have fin:∀ (h':AH),(GhostN st2 λ stg=>∃ σ,keepB st.n σ st.n=true∧Weak stg ⟨λ _=>.any,h',st.n⟩ σ)→∃ S3,SimD (C.at st.n) (Inv.any st.n) w0 S0 N (· <st.n) st.t h' a B S3 β∧(∀ b,S3 b→b<w.heap.size∨CC b∨A1.heap.size≤b)∧Same (λ b=> ¬ CC b) A1 B:=by
   rintro h' ⟨stg,hgs,σ,hk,hW⟩;obtain⟨S3,X3⟩:=nG hgs X2;have X4:=pJ hW hk X3;have P:FrP S1 A1 β1 st.n S3 B _:=X4.iv;have hβ:(λ s=>if s<st.n then β2 (σ s)else none)=β:=by
    funext s;by_cases hs:s<st.n
    ·obtain⟨blk,hblk⟩:=Dv.1 (hfl s hs);obtain⟨l',cs,e,fr,q1,_⟩:=M.H.own s blk hblk;rw[q1];exact P.keep s l' hs (k5 s l' hs q1)
    ·simp only[hs,iN]
     cases hq:β s with
     |none=>rfl
     |some l=>exact absurd (M.dom s l hq) hs
   simp only[hβ]at X4 P;refine⟨S3,⟨λ i=>?_,X4.H,X4.B,λ y l hy=>M.dom y l hy,hdf.symm ▸ XA.df,XA.sz,X4.G,X4.nw,trivial⟩,λ b hb=>?_,⟨X4.B.os.trans X.B.os.symm,X4.B.tape.trans X.B.tape.symm,X4.B.output.trans X.B.output.symm,P.sz,λ b hb hn=>P.still b hb λ h=>hn (k3 b h)⟩⟩
   ·refine yV (XA.T i) (λ b hb=>P.hS b (k6 b hb)) (λ b hb=>(P.hE.stable b (k6 b hb)).trans (k7 b hb)) λ s l cs e fr h1 h2=>?_;obtain⟨cs',h3,h4⟩:=k8 s l cs e fr h1 h2;obtain⟨cs2,h5,h6⟩:=P.hE.shape _ _ _ _ h3;exact⟨cs2,h5,h6.trans h4⟩
   ·rcases P.nw b hb with h|h|h
    ·exact (k1 b h).imp id .inl
    ·exact .inr (.inr h)
    ·exact .inr (.inl (k3 b h))
  cases e' with
  |exit i=>exact hq.elim
  |normal=>
   obtain⟨hNx,hq⟩:=hq;obtain⟨S3,Y,j1,j2⟩:=fin st.h hq;have hN2:∀ y,y∈pre++[x]→NX y:=λ y hy=>(al_List_mem_append.1 hy).elim (hN y) λ h=>tW.1 h ▸ hNx
   exact⟨λ b=>b<B.heap.size∧(CC b∨A1.heap.size≤b),j2,λ b hb=>hb.2,.inl ⟨rfl,⟨hN2,S3,Y,λ b hb=>(j1 b hb).imp id λ h=>⟨Y.H.lt b hb,h⟩,λ b hb=>⟨by obtain⟨y,l,q1,q2⟩:=hb;have:=(hnm y l q1).2.2.1;have:=j2.size;omega,.inl (k2 b hb)⟩,λ b hb=>hb.1⟩,aL k9 j2.size⟩⟩
  |ret=>
   obtain⟨stg,hgs,h',σ,hk,hW,hK⟩:=hq;obtain⟨S3,Y,j1,j2⟩:=fin h' ⟨stg,hgs,σ,hk,hW⟩;exact⟨λ b=>b<B.heap.size∧(CC b∨A1.heap.size≤b),j2,λ b hb=>hb.2,.inr ⟨rfl,⟨S3,h',hK,Y,λ b hb=>(j1 b hb).imp id λ h=>⟨Y.H.lt b hb,h⟩,λ b hb=>⟨by obtain⟨y,l,q1,q2⟩:=hb;have:=(hnm y l q1).2.2.1;have:=j2.size;omega,.inl (k2 b hb)⟩,λ b hb=>hb.1⟩,aL k9 j2.size⟩⟩
 ·rintro D CC W hD ⟨⟨hN,SA,X,k1,k2,k3⟩,k4⟩ hnC hW;refine⟨some D,.normal,st,SA,β,rfl,done hN D,⟨X.T,X.H,X.B,X.dom,?_,X.sz,X.G,X.nw,trivial⟩,λ D' hD'=>?_⟩
  ·show _::a.defers=_;rw[show a.defers=[]from X.df.trans hdf];rfl
  ·cases hD';exact⟨hW,λ h=>hnC (k2 _ h),λ h=>(k1 _ h).elim (λ h=>by omega) hnC,aL w00 hD⟩
 ·rintro D CC pre W hD hpre ⟨⟨SA,h',hK,X,k1,k2,k3⟩,k4⟩ hnC hW;refine⟨some D,.ret,⟨st.t,h',st.n⟩,SA,β,rfl,hK D,⟨X.T,X.H,X.B,X.dom,?_,X.sz,X.G,X.nw,trivial⟩,λ D' hD'=>?_⟩
  ·show _::a.defers=_;rw[show a.defers=[]from X.df.trans hdf];rfl
  ·cases hD';exact⟨hW,λ h=>hnC (k2 _ h),λ h=>(k1 _ h).elim (λ h=>by omega) hnC,aL w00 hD⟩
def vO(N:Nat):Code→Bool
 | .seq a b=>vO N a&&vO N b
 | .cond _ a b=>vO N a&&vO N b
 | .block _ b=>vO N b
 | .scope b=>vO N b
 | .rangeFunc _ ps a b=>ps.toList.all (λ p=>Nat.blt p N)&&(oH N (λ _=>false) a&&oH N (λ _=>false) b)
 |c=>uD N c
def vP(C:Ctx):Code→Option Nat→ASt→(Option Nat→AEx→ASt→Prop)→Prop
 | .seq a b,d,st,Q=>vP C a d st (λ d' e st'=>match e with| .normal=>vP C b d' st' Q|e=>Q d' e st')
 | .cond c x y,d,st,Q=>match evA C st.t c with| .v (.bool b)=>Branch b (vP C x d st Q) (vP C y d st Q)|_=>False
 | .block id b,d,st,Q=>vP C b d st (λ d' e st'=>match e with| .exit i=>(match Nat.beq i id with|true=>Q d' .normal st'|false=>Q d' (.exit i) st')|e=>Q d' e st')
 | .scope b,d,st,Q=>vP C b d st Q
 | .rangeFunc g ps a b,d,st,Q=>d=none∧GhostN st λ stg=>∃ stw σ,Weak stg stw σ∧keepB C.fr σ stw.n=true∧RangeN C stw g ps.toList a b (λ e st'=>∀ D,Q (some D) e st')
 |c,d,st,Q=>fZ (C.wd d) (bT (C.wd d)) c st (Q d)
theorem Ls(hC:∀ d,CtxOk (C.wd d))(hCn:∀ n,CtxOk (C.at n))(hdf:C.df=[]):∀ (c:Code),vO N c=true→∀ (d:Option Nat) (st:ASt) (Q:Option Nat→AEx→ASt→Prop),vP C c d st Q→
  ∀ (a:Act) (w:World) (S:Nat→Prop) (β:Bt),SimD (C.wd d) (Inv.any C.fr) w0 S0 N (· <st.n) st.t st.h a w S β→WA d w0 S β w→c.wp C.P (ZW C w0 S0 N Q) a w:=by
 have base:∀ (c:Code),uD N c=true→∀ (d:Option Nat) (st:ASt) (Q:Option Nat→AEx→ASt→Prop),fZ (C.wd d) (bT (C.wd d)) c st (Q d)→
  ∀ (a:Act) (w:World) (S:Nat→Prop) (β:Bt),SimD (C.wd d) (Inv.any C.fr) w0 S0 N (· <st.n) st.t st.h a w S β→WA d w0 S β w→c.wp C.P (ZW C w0 S0 N Q) a w:=by
  intro c hk d st Q hq a w S β M hd;refine wp_mono (Cp (C:=C.wd d) (V:=FD S w β C.fr) (hC d) c hk st _ hq a w S β (M.inv (AG _ _ _ _))) ?_;rintro e a' w' ⟨e',st',S',β',rfl,h1,M'⟩;have P:FrP S w β C.fr S' w' β':=M'.iv;refine⟨d,e',st',S',β',rfl,h1,M'.inv trivial,λ D hD=>?_⟩;obtain⟨k1,k2,k3,k4⟩:=hd D hD;have hlt:=fP k1;refine⟨(P.still D hlt k2).trans k1,λ⟨x,l,q1,q2⟩=>?_,λ h=>?_,k4⟩
  ·rcases P.own x l q1 with h|h
   ·exact k2 (q2 ▸ h)
   ·rw[q2]at h;omega
  ·rcases P.nw D h with h|h|h
   ·exact k3 h
   ·omega
   ·exact k2 h
 intro c
 induction c with
 |seq x y ihx ihy=>
  intro hk d st Q hq a w S β M hd;simp only[vO,aH]at hk;refine wp_seq (wp_mono (ihx hk.1 d st _ hq a w S β M hd) ?_);rintro e a' w' ⟨d',e',st',S',β',rfl,h1,h2,h3⟩
  cases e' with
  |normal=>exact ihy hk.2 d' st' Q h1 a' w' S' β' h2 h3
  |exit i=>exact⟨d',.exit i,st',S',β',rfl,h1,h2,h3⟩
  |ret=>exact⟨d',.ret,st',S',β',rfl,h1,h2,h3⟩
 | cond c x y ihx ihy=>
  intro hk d st Q hq a w S β M hd;simp only[vO,aH]at hk;simp only[vP]at hq;split at hq
  ·rename_i b hb;obtain⟨h1,h2⟩:=hq;have hv:=sK M c;rw[show evA (C.wd d) st.t c=evA C st.t c from rfl,hb]at hv;exact wp_cond_split (lH hv) (λ ht=>ihx hk.1 d st Q (h1 ht) a w S β M hd) (λ hf=>ihy hk.2 d st Q (h2 hf) a w S β M hd)
  ·exact hq.elim
 | block id b ih=>
  intro hk d st Q hq a w S β M hd;refine wp_block (wp_mono (ih hk d st _ hq a w S β M hd) ?_);rintro e a' w' ⟨d',e',st',S',β',rfl,h1,h2,h3⟩
  cases e' with
  |normal=>exact⟨d',.normal,st',S',β',rfl,h1,h2,h3⟩
  |ret=>exact⟨d',.ret,st',S',β',rfl,h1,h2,h3⟩
  | exit i=>
   show Exit.inBlock id _ (.exit i) a' w';simp only at h1;simp only[Exit.inBlock];by_cases hi:i=id
   ·subst hi;rw[if_pos rfl];rw[show Nat.beq i i=true from mY i]at h1;exact⟨d',.normal,st',S',β',rfl,h1,h2,h3⟩
   ·rw[if_neg hi];have:Nat.beq i id=false:=by rw[←eO];exact λ e=>hi (aK e)
    rw[this]at h1
    exact⟨d',.exit i,st',S',β',rfl,h1,h2,h3⟩
 |scope b ih=>
  intro hk d st Q hq a w S β M hd;refine wp_scope_straight (wp_mono (ih hk d st _ hq a w S β M hd) ?_);rintro e a' w' ⟨d',e',st',S',β',rfl,h⟩
  cases e' with
  |normal=>exact⟨d',.normal,st',S',β',rfl,h⟩
  |ret=>exact⟨d',.ret,st',S',β',rfl,h⟩
  |exit i=>exact⟨d',.exit i,st',S',β',rfl,h⟩
 |rangeFunc g ps x y ihx ihy=>
  intro hk d st Q hq a w S β M hd;simp only[vO,aH]at hk;obtain⟨rfl,stg,hgs,stw,σ,hW,hf,hR⟩:=hq;obtain⟨S2,M2⟩:=nG hgs M;have M3:=pJ (C:=C.wd none) hW hf M2;have h0:=hC none
  exact Lr (C:=C) ⟨h0.ty,h0.mixed,h0.hH⟩ hCn hdf hk.1 hk.2.1 hk.2.2 hR ⟨M3.T,M3.H,M3.B,M3.dom,M3.df.trans hdf.symm,M3.sz,M3.G,M3.nw,trivial⟩
 |_=>intro hk d st Q hq;exact base _ hk d st Q hq
theorem bT.introR(hC:∀ d,CtxOk (C.wd d))(hCn:∀ n,CtxOk (C.at n)){f:FuncId}{fn:Func}{body:Code}{args:List AV}{r:AV}(hf:C.P.funcs[f]?=some fn)(hb:fn.body=some body)(hnm:(fn.name== "runtime.NumGoroutine")=false)
  (hN:vO fn.ntmps body=true) (hlen:Nat.ble args.length fn.ntmps=true) (hw:vP C body none ⟨argsT args,λ _=>none,0⟩ (λ d=>Fin (C.wd d) fn r)) (hdf:C.df=[]:=by rfl):bT C f args r:=by
 refine⟨⟨fn,hf,by rw[hb];rfl,hnm⟩,λ S w vs hS hG hargs=>?_⟩;have hlen:=aP hlen;refine callsIn_wide.1 (callsIn_of_wp_marks (n:=3) hf hb trivial ((wpIn_wide (n:=3)).2 ?_));have M0:SimD (C.wd none) (Inv.any C.fr) w S fn.ntmps (· <(0:Nat)) (argsT args) (λ _=>none) {tmps:=vs.toArray++Array.replicate (fn.ntmps - vs.toArray.size) undef,defers:=[]} w S noB:=by
  have hl:vs.length=args.length:=hargs.1.symm;refine⟨λ i=>?_,⟨λ s blk h=>(by cases h),λ s s' l l' h=>absurd rfl h,hS,aC _⟩,Below.refl _ _,λ x l h=>(by cases h),rfl,by simp;omega,hG,λ _ h=>.inl h,trivial⟩;rw[zH]
  cases ha:args[i]? with
  |none=>exact .any _
  | some x=>
   have hi:i<vs.length:=by rw[hl];exact (DK.1 ha).1
   have hv:vs[i]?=some vs[i]:=aA hi;have:(vs.toArray++Array.replicate (fn.ntmps - vs.toArray.size) undef).getD i undef=vs[i]:=by
    rw[aI,dN (by simpa using hi),dY,hv];rfl
   rw[this];exact hargs.2 i x _ ha hv
 refine wp_mono (Ls (C:=C) hC hCn hdf body hN none ⟨argsT args,λ _=>none,0⟩ _ hw _ w S noB M0 (λ D h=>by cases h)) ?_;rintro e a' w' ⟨d,e',st,S',β',rfl,hfin,M,hd⟩;have fin:Ui (C.wd d) fn r st→∀ w2:World,SimD (C.wd d) (Inv.any C.fr) w S fn.ntmps (· <st.n) st.t st.h a' w2 S' β'→∃ v,(results fn a'.tmps).run C.P w2=.ok v w2∧∃ v',Ending.returned v=.returned v'∧Below w.heap.size w w2∧Rep (λ b=>S b∨(w.heap.size≤b∧b<w2.heap.size)) w2 noB r v':=by
  rintro ⟨rs,h1,h2,h3,h4⟩ w2 M;obtain⟨t,h,n⟩:=st;obtain⟨us,g1,g2⟩:=II (hC d) M _ rs h1;refine⟨_,xY _ us g1 fn rfl,_,rfl,M.B,?_⟩;have hret:Rep S' w2 β' (CO rs) (if h:us.toArray.size=1 then us.toArray[0]else .tuple us.toArray):=by
   match rs,us,g2 with
   |[],us,g2=>
    have:us=[]:=bA g2.1.symm;subst this
    exact .tup [] #[] rfl λ i a u p=>by simp at p
   |[x],us,g2=>
    match us,g2 with
    |[u],g2=>simpa [CO]using g2.2 0 x u rfl rfl
    |[],g2=>exact absurd g2.1 (by simp)
    |_::_::_,g2=>exact absurd g2.1 (by simp)
   | x::y::zs,us,g2=>
    have hne: ¬ us.toArray.size=1:=by
     have:=g2.1;simp at this⊢;omega
    rw[dif_neg hne];exact .tup _ _ (by simpa using g2.1) λ i a u p q=>g2.2 i a u p (by simpa using q)
  have hd:=Br M.H hret h2;refine h4 _ _ _ ?_;exact (lO hd h3 noB).mono (λ b hb=>hb.elim (λ hb=>(M.nw b hb).imp id λ h=>⟨h,M.H.lt b hb⟩) .inr) (Evo.refl _ _) (LT.refl _)
 have go:Ui (C.wd d) fn r st→LeavesInM Fence.wide 3 C.P fn a'.tmps (λ e w'=>∃ v,e=.returned v∧Below w.heap.size w w'∧Rep (λ b=>S b∨(w.heap.size≤b∧b<w'.heap.size)) w' noB r v) a'.defers .returning w':=by
  intro hr;have hdf':a'.defers=dfs d:=M.df;rw[hdf']
  cases d with
  |none=>exact fin hr w' M
  |some D=>
   obtain⟨k1,k2,k3,k4⟩:=hd D rfl;refine⟨by simp,.inl ⟨D,_,rfl,run_takeDeferred k1,fin hr _ ?_⟩⟩;have ho:∀ b,b≠D→(w'.putObj D (.deferred none)).heap[b]?=w'.heap[b]? :=λ b hb=>World.putObj_heap_other hb;exact M.move (λ b hb=>ho b λ e=>k3 (e ▸ hb)) (λ s l o q1 q2=>(ho _ λ e=>k2 ⟨s,l,q1,e⟩).trans q2) rfl rfl rfl (by simp) (λ b hb=>ho b (by omega)) trivial
 cases e' with
 |normal=>exact go hfin
 |ret=>exact go hfin
 |exit i=>exact hfin.elim
end
end Go.Proofs.YtlhofpglndhfaaaGreatDoor
