/- Joined texts. -/
import Derived.Test.YtlhofpglndhfaaaGreatDoorS1
import Derived.Test.YtlhofpglndhfaaaGreatDoorS31
import Derived.Test.YtlhofpglndhfaaaGreatDoorS34
import Derived.Test.YtlhofpglndhfaaaGreatDoorS36
set_option linter.unusedVariables false
set_option linter.unusedSimpArgs false
namespace Go.Proofs.YtlhofpglndhfaaaGreatDoor
set_option maxRecDepth 100000
set_option maxHeartbeats 4000000
open Go.RowKit
structure Gu.ok(g:Gu):Prop where
 slots:g.slots.length≤9223372036854775807
 rets:g.rets.length≤9223372036854775807
 hist:g.hist≤4294967295
 so:∀ x∈g.slots,x.ok
 ro:∀ x∈g.rets,x≤4294967295
theorem Um{g:Gu}:rH g=true↔g.slots.length=8∧g.hist<8∧g.rets.length≤4:=by
 unfold rH;simp only[aK,bC,tN]
theorem Wb{r:Bool}{k:Nat}(h:cA (!r) true (k != 5)=false):r=true∧k=5:=by
 cases r<;>simp[cA]at h⊢;exact h
theorem SM{r:Bool}{k:Nat}(h:cA (!r) true (k != 5)=true): ¬ (r=true∧k=5):=by
 cases r<;>simp[cA]at h⊢;exact h
theorem RH{l:List Nat}{x:Nat}(h:l[l.length - 1]?=some x):l.getLast?.getD 0=x:=by rw[kB,h];rfl
theorem Ha(g:Gu)(hok:g.ok):bY C0 49 [.agg (guL g)] (vB (rH g)):=by
 refine bY.intro c0Ok Tryz.func49 rfl rfl (by kernel_rfl) rfl<|aE<|aG rfl<|rAl 0 rfl rfl<|oR 1 rfl<|rE 2<|aE<|aG rfl<|oR 2 rfl<|rW (vN g.slots.length) rfl (bQ gsL g.slots)<|rW (vB (g.slots.length==8)) rfl (okB (eqN _ _))<|oR 1 rfl<|gN rfl<|gS rfl id<|gBS (x:=vB (decide (g.hist<8))) rfl id (okB (ltN _ _))<|cH rfl rfl rfl (λ h=>h) ?_;refine oR 1 rfl<|gN rfl<|gS rfl id<|gBS (x:=vN g.rets.length) rfl id (bQ eJ g.rets)<|gBS (x:=vB (decide (g.rets.length≤4))) rfl id (okB (leN _ _))<|cH rfl rfl rfl (λ h=>h)<|oR 1 rfl<|rE 18<|cT ?_;exact fT rfl (cY (by rw[bT];simp[pM,cOr,rH]))
theorem Pv(g:Gu)(pc:Nat)(hok:g.ok)(hpc:pc≤4294967295):bY C0 160 [.agg (guL g),vU pc] (vN (gL g pc)):=by
 refine bY.intro c0Ok Tryz.func160 rfl rfl (by kernel_rfl) rfl<|aE<|aG rfl<|rAl 0 rfl rfl<|oR 1 rfl<|rE 2<|aE<|aG rfl<|oR 1 rfl ?_;have b1:pc / 4≤1073741823:=kC hpc;refine nW (vU (pc / 4)) rfl (Jn (Hr b1 rfl)) (by decide)<|oR 2 rfl ?_;have b2:(pc / 4) ^^^ g.hist≤4294967295:=Nb b1 hok.hist rfl rfl;refine rW (vU ((pc / 4) ^^^ g.hist)) rfl (okI (UT b1 hok.hist rfl rfl)) ?_;have b3:((pc / 4) ^^^ g.hist) % 8≤7:=aT (bG _ (by decide));refine nW (vU (((pc / 4) ^^^ g.hist) % 8)) rfl rfl (by decide)<|rW (vN (((pc / 4) ^^^ g.hist) % 8)) rfl (okI (bS b3 rfl))<|oR 1 rfl<|rE 10<|cT ?_;exact fT rfl (Wz rfl)
theorem IJ(g:Gu)(pc:Nat):gL g pc≤7:=by unfold gL;omega
theorem Pw(i:SI)(hi:i.imm≤4294967295):bY C0 161 [siA i] (vB (OW i)):=by
 refine bY.intro c0Ok Tryz.func161 rfl rfl (by kernel_rfl) rfl<|aE<|aG rfl<|rAl 0 rfl rfl<|oR 1 rfl<|rE 2<|aE<|aG rfl<|oR 2 rfl<|rV (vB (i.op==3)) rfl<|oR 1 rfl<|gN rfl<|gS rfl id<|gBS (x:=vB (i.op==4)) rfl id rfl<|cH rfl rfl rfl (by simp)<|oR 1 rfl ?_;refine gN rfl<|gS rfl id<|gBS (x:=vB (i.rd==1)) rfl id rfl<|cH rfl rfl rfl (λ h=>h)<|oR 1 rfl<|rE 16<|cT ?_;exact fT rfl (cY (by rw[bT];simp[pM,cOr,OW]))
theorem Px(i:SI)(hi:i.imm≤4294967295):bY C0 162 [siA i] (vB (EH i)):=by
 refine bY.intro c0Ok Tryz.func162 rfl rfl (by kernel_rfl) rfl<|aE<|aG rfl<|rAl 0 rfl rfl<|oR 1 rfl<|rE 2<|aE<|aG rfl<|oR 2 rfl<|rV (vB (i.op==4)) rfl<|oR 1 rfl<|gN rfl<|gS rfl id<|gBS (x:=vB (i.rd==0)) rfl id rfl<|cH rfl rfl rfl (λ h=>h)<|oR 1 rfl ?_;refine gN rfl<|gS rfl id<|gBS (x:=vB (i.rs1==1)) rfl id rfl<|cH rfl rfl rfl (λ h=>h)<|oR 1 rfl<|rE 16<|cT ?_;exact fT rfl (cY (by rw[bT];simp[pM,cOr,EH]))
theorem Py(g:Gu)(pc:Nat)(i:SI)(hok:g.ok)(hpc:pc≤4294967295)(hi:i.imm≤4294967295):bY C0 172 [.agg (guL g),vU pc,siA i] (vU (vS g pc i)):=by
 refine dc1 (bY.intro c1Ok Tryz.func172 rfl rfl (by kernel_rfl) rfl ?_);refine aE<|aG rfl<|rAl 0 rfl rfl<|rAl 1 rfl rfl<|oR 1 rfl<|rE 3<|aE<|aE<|aG rfl<|oR 1 rfl<|rCi rfl (Ha g hok)<|oR 2 rfl<|gN rfl<|jI (args:=[.agg [vI i.op,vI i.rd,vI i.rs1,vI i.rs2,vU i.imm]]) (x:=vN (kindOf i.op)) (g:= !(!(rH g))) rfl rfl rfl rfl (λ h=>h) rfl rfl rfl (.inl rfl) rfl (λ hg=>qG i)<|gBS (x:=vB ((kindOf i.op) != 5)) rfl id (okB (neN _ _))<|cH rfl rfl rfl (by simp) ?_;refine rE 11 ?_;refine aU rfl (λ h1=>?_) (λ h1=>?_)
 ·have hN:=SM h1;refine aE<|aG rfl<|oR 1 rfl ?_;have b1:(pc+4) % 4294967296≤4294967295:=aT (bG _ (by decide));refine rV (vU ((pc+4) % 4294967296)) rfl<|oR 1 rfl<|rE 14<|cT ?_;exact fT rfl (Fs (by unfold vS;rw[if_neg hN];rfl))
 ·have hR:=Wb h1;have hR1:=Um.1 hR.1;have hR2:=hR1.1;have hS:=IJ g pc;have hR3:=hR1.2.2;refine aZ<|aE<|aE<|aG rfl<|oR 2 rfl<|rW (vN g.rets.length) rfl (bQ eJ g.rets)<|oR 1 rfl<|rE 15<|aE<|aG rfl<|oR 1 rfl<|rCi rfl (Px i hi)<|oR 1 rfl<|gN rfl<|gBS (x:=vB (decide (g.rets.length>0))) rfl id (okB (gtN _ _))<|cH rfl rfl rfl (λ h=>h) ?_;refine rE 21 ?_;refine aU rfl (λ h2=>?_) (λ h2=>?_)
  ·have hB:EH i=true∧0<g.rets.length:=by simpa [pM]using h2
   have hB2:=hB.2;refine aE<|aG rfl<|oR 3 rfl ?_;have b2:g.rets.length - 1≤9223372036854775807:=aL (iO _ _) hok.rets;refine rW (vN (g.rets.length - 1)) rfl (okI (Bm omT hok.rets rfl)) ?_;obtain⟨rx,hrx⟩:∃ x,g.rets[(g.rets.length - 1)]?=some x:=⟨_,aA omT⟩;have hrxo:=hok.ro rx (aB hrx);refine rIx (eJ rx) (.dp 1 0 (eJ rx)) rfl rfl (gJ hrx) rfl<|oR 2 rfl<|rE 28<|cT ?_;exact fT rfl (Fs (by unfold vS;rw[if_pos hR,if_pos hB,RH hrx]))
  ·have hB: ¬ (EH i=true∧0<g.rets.length):=by simpa [pM]using h2
   refine aZ<|aE<|aG rfl<|oR 4 rfl<|rCi rfl (Pv g pc hok hpc) ?_;obtain⟨sx,hsx⟩:∃ x,g.slots[(gL g pc)]?=some x:=⟨_,aA omT⟩;have hsxo:=hok.so sx (aB hsx);refine rIx (gsL sx) (.dp 2 0 (gsL sx)) rfl rfl (gJ hsx) rfl<|oR 1 rfl<|rAl 28 rfl rfl<|rSt rfl<|rE 30<|aE<|aE<|aG rfl<|oR 3 rfl<|rW (vB (sx.pc==pc)) rfl (okB (eqN _ _))<|oR 1 rfl<|gN rfl<|gB (x:=.agg [.v (.int .u32 0),.v (.int .u32 0)]) rfl rfl<|gBS (x:=vB (!((((sx.pc:Nat):Int)==0)&&((((sx.next:Nat):Int)==0)&&true)))) rfl hsT rfl<|cH rfl rfl rfl (λ h=>h)<|rE 39 ?_;refine aU rfl (λ h3=>?_) (λ h3=>?_)
   ·refine aE<|aG rfl<|oR 3 rfl<|rE 42<|cT ?_;exact fT rfl (Fs (by unfold vS;rw[if_pos hR,if_neg hB];have z:=h3;simp[pM]at z;simp[hsx,up4,z]<;>(intros;simp_all)))
   ·refine aZ<|aE<|aG rfl<|oR 1 rfl ?_;have b3:(pc+4) % 4294967296≤4294967295:=aT (bG _ (by decide));refine rV (vU ((pc+4) % 4294967296)) rfl<|oR 1 rfl<|rE 42<|cT ?_;exact fT rfl (Fs (by unfold vS;rw[if_pos hR,if_neg hB];have z:=h3;simp[pM]at z;simp[hsx,up4,z]<;>(intros;simp_all)))
theorem qA(g:Gu)(pc next:Nat)(i:SI)(hok:g.ok)(hpc:pc≤4294967295)(hnext:next≤4294967295)(hi:i.imm≤4294967295):bY C0 108 [.agg (guL g),vU pc,vU next,siA i] (.agg (guL (dY g pc next i))):=by
 refine dc1 (bY.intro c1Ok Tryz.func108 rfl rfl (by kernel_rfl) rfl ?_);refine aE<|aG rfl<|rAl 0 rfl rfl<|rAl 1 rfl rfl<|rAl 2 rfl rfl<|rE 3<|aE<|aE<|aG rfl<|oR 1 rfl<|rCi rfl (Ha g hok)<|oR 2 rfl<|gN rfl<|jI (args:=[.agg [vI i.op,vI i.rd,vI i.rs1,vI i.rs2,vU i.imm]]) (x:=vN (kindOf i.op)) (g:= !(!(rH g))) rfl rfl rfl rfl (λ h=>h) rfl rfl rfl (.inl rfl) rfl (λ hg=>qG i)<|gBS (x:=vB ((kindOf i.op) != 5)) rfl id (okB (neN _ _))<|cH rfl rfl rfl (by simp) ?_;refine rE 11 ?_;refine aU rfl (λ h1=>?_) (λ h1=>?_)
 ·have hN:=SM h1;refine aE<|aG rfl<|oR 1 rfl<|rSt rfl<|rE 13<|cT<|eW rfl tvT rfl ?_;show AV.agg [.sl 2 (g.slots.map gsL) false,vU g.hist,.sl 1 (g.rets.map eJ) false]=_;refine congrArg (λ z=>AV.agg (guL z)) (?_:g=dY g pc next i);unfold dY;rw[if_neg hN]
 ·have hR:=Wb h1;have hR1:=Um.1 hR.1;have hR2:=hR1.1;have hS:=IJ g pc;have hR3:=hR1.2.2;refine aZ<|aE<|aG rfl<|rFx (x:=.osl 11 0 8 false) (h':=upd _ 11 (some (.arr ((List.replicate 8 (⟨0,0⟩:Gs)).map gsL) 2))) rfl rfl (OT (gI (f:=gsL) (a:=(⟨0,0⟩:Gs))).symm) (⟨by decide,by decide,by show ((8:Nat):Int)≤1000000;omega⟩)<|oR 1 rfl<|rE 13<|aE<|aG rfl<|oR 3 rfl<|rFx (x:=vI ((min ((g.slots.map gsL).length) (8):Nat):Int)) (h':=upd _ 11 (some (.arr (g.slots.map gsL) 2))) rfl rfl (GO (CU gsL ((List.replicate 8 (⟨0,0⟩:Gs)).map gsL) g.slots omT omT)) (⟨by exact omT,trivial⟩)<|rE 17<|aE<|aG rfl<|oR 3 rfl<|rCi rfl (Pv g pc hok hpc)<|oR 2 rfl ?_;refine rV (.agg [vU pc,vU next]) rfl<|nW (.ptr2 11 (0+(gL g pc)) 0) rfl rfl ixT ?_;obtain⟨sx,hsx⟩:∃ x,g.slots[(gL g pc)]?=some x:=⟨_,aA omT⟩;have hsxo:=hok.so sx (aB hsx);have hx1:(g.slots.set (gL g pc) (⟨pc,next⟩:Gs))[(gL g pc)]?=some (⟨pc,next⟩:Gs):=bD omT;refine oE (gsL sx) (h':=upd _ 11 (some (.arr ((g.slots.set (gL g pc) (⟨pc,next⟩:Gs)).map gsL) 2))) rfl rfl rfl (⟨aI _,Hk (gJ hsx)⟩) (uO (f:=gsL) (l:=g.slots) (k:=(gL g pc)) (x:=(⟨pc,next⟩:Gs)))<|rE 26<|aE<|aG rfl<|oR 2 rfl ?_;have b1:(2 * g.hist) % 4294967296≤4294967295:=aT (bG _ (by decide));refine rV (vU ((2 * g.hist) % 4294967296)) rfl<|oR 1 rfl<|rE 30<|aE<|aE<|aG rfl<|oR 2 rfl ?_;have b2:(pc+4) % 4294967296≤4294967295:=aT (bG _ (by decide));refine rV (vU ((pc+4) % 4294967296)) rfl<|rW (vB (next != ((pc+4) % 4294967296))) rfl (okB (neN _ _))<|rE 34 ?_;refine aU rfl (λ h2=>?_) (λ h2=>?_)
  ·have h2p:=vA h2;refine aG rfl<|oR 1 rfl ?_;have b3:(((2 * g.hist) % 4294967296)+1) % 4294967296≤4294967295:=aT (bG _ (by decide));refine rV (vU ((((2 * g.hist) % 4294967296)+1) % 4294967296)) rfl<|oR 1 rfl<|rE 37<|aE<|aG rfl<|rFx (x:=.osl 37 0 0 false) (h':=upd _ 37 (some (.arr (([]:List Nat).map eJ) 1))) rfl rfl (rfl) (⟨by decide,by decide,by show ((5:Nat):Int)≤1000000;omega⟩)<|oR 1 rfl<|rE 39<|aE<|aG rfl<|oR 3 rfl<|rFx (x:=.osl 42 0 g.rets.length false) (h':=upd (upd _ 37 none) 42 (some (.arr (g.rets.map eJ) 1))) rfl rfl (gU eJ ([]:List Nat) g.rets omT omT) (⟨by exact omT,by exact omT,trivial⟩)<|oR 1 rfl<|rE 44<|aE<|aE ?_;refine aG rfl<|oR 1 rfl<|rV (vN g.rets.length) rfl<|oR 1 rfl<|rE 47<|bI<|aE<|aG rfl<|oR 1 rfl<|rCi rfl (Pw i hi)<|oR 1 rfl<|rE 50 ?_;refine aU rfl (λ h3=>?_) (λ h3=>?_)
   ·refine aE<|aG rfl<|oR 2 rfl ?_;have b4:(pc+4) % 4294967296≤4294967295:=aT (bG _ (by decide));refine rV (vU ((pc+4) % 4294967296)) rfl<|rV (.sl 1 ([[vU ((pc+4) % 4294967296)]]) true) rfl<|rFx (x:=.osl 54 0 (g.rets.length+1) false) (h':=upd (upd _ 42 none) 54 (some (.arr ((g.rets++([(pc+4) % 4294967296])).map eJ) 1))) rfl rfl (gU eJ g.rets ([(pc+4) % 4294967296]) omT omT) (⟨by exact omT,by exact omT,trivial⟩)<|oR 1 rfl<|rE 56<|aE<|aG rfl<|oR 1 rfl<|rV (vN (g.rets.length+1)) rfl<|rW (vB (decide ((g.rets.length+1)>4))) rfl (okB (gtN _ _))<|rE 59 ?_;refine aU rfl (λ h4=>?_) (λ h4=>?_)
    ·have h4p:=of_decide_eq_true h4;refine aG rfl<|oR 1 rfl ?_;refine nW (.osl 54 1 (g.rets.length+1 - 1) false) rfl (JY (by first|rfl|omega) (by simp only[Option.getD];omega)) slT ?_;refine oR 1 rfl<|rE 62<|aE<|aG rfl<|oR 2 rfl ?_;have b5:((((2 * g.hist) % 4294967296)+1) % 4294967296) % 8≤7:=aT (bG _ (by decide));refine nW (vU (((((2 * g.hist) % 4294967296)+1) % 4294967296) % 8)) rfl rfl (by decide)<|oR 1 rfl<|rV (.agg [.osl 11 0 8 false,vU (((((2 * g.hist) % 4294967296)+1) % 4294967296) % 8),.osl 54 1 (g.rets.length+1 - 1) false]) rfl<|rSt rfl<|rE 68<|cT<|eW rfl ⟨(by show 0+8≤((g.slots.set (gL g pc) (⟨pc,next⟩:Gs)).map gsL).length;exact omT),trivial,(by show 1+(g.rets.length+1 - 1)≤((g.rets++([(pc+4) % 4294967296])).map eJ).length;exact omT),trivial⟩ rfl ?_;show AV.agg [.sl 2 (List.take 8 (List.drop 0 ((g.slots.set (gL g pc) (⟨pc,next⟩:Gs)).map gsL))) false,vU (((((2 * g.hist) % 4294967296)+1) % 4294967296) % 8),.sl 1 (List.take (g.rets.length+1 - 1) (List.drop 1 ((g.rets++([(pc+4) % 4294967296])).map eJ))) false]=_;rw[kA gsL (g.slots.set (gL g pc) (⟨pc,next⟩:Gs)) omT,Bl (M:=(g.rets++([(pc+4) % 4294967296])).drop 1) eJ (g.rets++([(pc+4) % 4294967296])) (aN omT)];refine congrArg (λ z=>AV.agg (guL z)) (?_:(⟨g.slots.set (gL g pc) (⟨pc,next⟩:Gs),((((2 * g.hist) % 4294967296)+1) % 4294967296) % 8,(g.rets++([(pc+4) % 4294967296])).drop 1⟩:Gu)=dY g pc next i);unfold dY;rw[if_pos hR];have z:=h2;have z0:=h3;have z1:=h4;have hu:up4 pc=(pc+4) % 4294967296:=rfl;rw[hu]
     try simp[pM]at z z0 z1
     simp[z,z0,z1,dM]<;>(intros;first|omega|simp_all)
    ·have h4p:=aD h4;refine aZ<|aE<|aG rfl<|oR 2 rfl ?_;have b6:((((2 * g.hist) % 4294967296)+1) % 4294967296) % 8≤7:=aT (bG _ (by decide));refine nW (vU (((((2 * g.hist) % 4294967296)+1) % 4294967296) % 8)) rfl rfl (by decide)<|oR 1 rfl<|rV (.agg [.osl 11 0 8 false,vU (((((2 * g.hist) % 4294967296)+1) % 4294967296) % 8),.osl 54 0 (g.rets.length+1) false]) rfl<|rSt rfl<|rE 65<|cT<|eW rfl ⟨(by show 0+8≤((g.slots.set (gL g pc) (⟨pc,next⟩:Gs)).map gsL).length;exact omT),trivial,(by show 0+(g.rets.length+1)≤((g.rets++([(pc+4) % 4294967296])).map eJ).length;exact omT),trivial⟩ rfl ?_;show AV.agg [.sl 2 (List.take 8 (List.drop 0 ((g.slots.set (gL g pc) (⟨pc,next⟩:Gs)).map gsL))) false,vU (((((2 * g.hist) % 4294967296)+1) % 4294967296) % 8),.sl 1 (List.take (g.rets.length+1) (List.drop 0 ((g.rets++([(pc+4) % 4294967296])).map eJ))) false]=_;rw[kA gsL (g.slots.set (gL g pc) (⟨pc,next⟩:Gs)) omT,kA eJ (g.rets++([(pc+4) % 4294967296])) omT];refine congrArg (λ z=>AV.agg (guL z)) (?_:(⟨g.slots.set (gL g pc) (⟨pc,next⟩:Gs),((((2 * g.hist) % 4294967296)+1) % 4294967296) % 8,g.rets++([(pc+4) % 4294967296])⟩:Gu)=dY g pc next i);unfold dY;rw[if_pos hR];have z:=h2;have z0:=h3;have z1:=h4;have hu:up4 pc=(pc+4) % 4294967296:=rfl;rw[hu]
     try simp[pM]at z z0 z1
     simp[z,z0,z1,dM]<;>(intros;first|omega|simp_all)
   ·refine aE<|aG rfl<|oR 1 rfl<|rCi rfl (Px i hi)<|oR 1 rfl<|gN rfl<|gBS (x:=vB (decide (g.rets.length>0))) rfl id (okB (gtN _ _))<|cH rfl rfl rfl (λ h=>h)<|oR 1 rfl<|rE 57 ?_;refine aU rfl (λ h5=>?_) (λ h5=>?_)
    ·have hB:EH i=true∧0<g.rets.length:=by simpa [pM]using h5
     have hB2:=hB.2;refine aG rfl<|oR 2 rfl ?_;have b7:g.rets.length - 1≤9223372036854775807:=aL (iO _ _) hok.rets;refine rW (vN (g.rets.length - 1)) rfl (okI (Bm omT hok.rets rfl)) ?_;refine nW (.osl 42 0 (g.rets.length - 1) false) rfl (JY (by first|rfl|omega) (by simp only[Option.getD];omega)) slT ?_;refine oR 1 rfl<|rE 62<|aE<|aG rfl<|oR 2 rfl ?_;have b8:((((2 * g.hist) % 4294967296)+1) % 4294967296) % 8≤7:=aT (bG _ (by decide));refine nW (vU (((((2 * g.hist) % 4294967296)+1) % 4294967296) % 8)) rfl rfl (by decide)<|oR 1 rfl<|rV (.agg [.osl 11 0 8 false,vU (((((2 * g.hist) % 4294967296)+1) % 4294967296) % 8),.osl 42 0 (g.rets.length - 1) false]) rfl<|rSt rfl<|rE 68<|cT<|eW rfl ⟨(by show 0+8≤((g.slots.set (gL g pc) (⟨pc,next⟩:Gs)).map gsL).length;exact omT),trivial,(by show 0+(g.rets.length - 1)≤(g.rets.map eJ).length;exact omT),trivial⟩ rfl ?_;show AV.agg [.sl 2 (List.take 8 (List.drop 0 ((g.slots.set (gL g pc) (⟨pc,next⟩:Gs)).map gsL))) false,vU (((((2 * g.hist) % 4294967296)+1) % 4294967296) % 8),.sl 1 (List.take (g.rets.length - 1) (List.drop 0 (g.rets.map eJ))) false]=_;rw[kA gsL (g.slots.set (gL g pc) (⟨pc,next⟩:Gs)) omT,Bl (M:=g.rets.take (g.rets.length - 1)) eJ g.rets (by rw[cQ])];refine congrArg (λ z=>AV.agg (guL z)) (?_:(⟨g.slots.set (gL g pc) (⟨pc,next⟩:Gs),((((2 * g.hist) % 4294967296)+1) % 4294967296) % 8,g.rets.take (g.rets.length - 1)⟩:Gu)=dY g pc next i);unfold dY;rw[if_pos hR];have z:=h2;have z0:=h3;have z1:=h5;have hu:up4 pc=(pc+4) % 4294967296:=rfl;rw[hu]
     try simp[pM]at z z0 z1
     simp[z,z0,z1,dM]<;>(intros;first|omega|simp_all)
    ·have hB: ¬ (EH i=true∧0<g.rets.length):=by simpa [pM]using h5
     refine aZ<|aE<|aG rfl<|oR 2 rfl ?_;have b9:((((2 * g.hist) % 4294967296)+1) % 4294967296) % 8≤7:=aT (bG _ (by decide));refine nW (vU (((((2 * g.hist) % 4294967296)+1) % 4294967296) % 8)) rfl rfl (by decide)<|oR 1 rfl<|rV (.agg [.osl 11 0 8 false,vU (((((2 * g.hist) % 4294967296)+1) % 4294967296) % 8),.osl 42 0 g.rets.length false]) rfl<|rSt rfl<|rE 63<|cT<|eW rfl ⟨(by show 0+8≤((g.slots.set (gL g pc) (⟨pc,next⟩:Gs)).map gsL).length;exact omT),trivial,(by show 0+g.rets.length≤(g.rets.map eJ).length;exact omT),trivial⟩ rfl ?_;show AV.agg [.sl 2 (List.take 8 (List.drop 0 ((g.slots.set (gL g pc) (⟨pc,next⟩:Gs)).map gsL))) false,vU (((((2 * g.hist) % 4294967296)+1) % 4294967296) % 8),.sl 1 (List.take g.rets.length (List.drop 0 (g.rets.map eJ))) false]=_;rw[kA gsL (g.slots.set (gL g pc) (⟨pc,next⟩:Gs)) omT,kA eJ g.rets omT];refine congrArg (λ z=>AV.agg (guL z)) (?_:(⟨g.slots.set (gL g pc) (⟨pc,next⟩:Gs),((((2 * g.hist) % 4294967296)+1) % 4294967296) % 8,g.rets⟩:Gu)=dY g pc next i);unfold dY;rw[if_pos hR];have z:=h2;have z0:=h3;have z1:=h5;have hu:up4 pc=(pc+4) % 4294967296:=rfl;rw[hu]
     try simp[pM]at z z0 z1
     simp[z,z0,z1,dM]<;>(intros;first|omega|simp_all)
  ·have h2p:=vC h2;refine aZ<|aE<|aG rfl<|rFx (x:=.osl 34 0 0 false) (h':=upd _ 34 (some (.arr (([]:List Nat).map eJ) 1))) rfl rfl (rfl) (⟨by decide,by decide,by show ((5:Nat):Int)≤1000000;omega⟩)<|oR 1 rfl<|rE 36<|aE<|aG rfl<|oR 3 rfl<|rFx (x:=.osl 39 0 g.rets.length false) (h':=upd (upd _ 34 none) 39 (some (.arr (g.rets.map eJ) 1))) rfl rfl (gU eJ ([]:List Nat) g.rets omT omT) (⟨by exact omT,by exact omT,trivial⟩)<|oR 1 rfl<|rE 41<|aE<|aE<|aG rfl<|oR 1 rfl ?_;refine rV (vN g.rets.length) rfl<|oR 1 rfl<|rE 44<|bI<|aE<|aG rfl<|oR 1 rfl<|rCi rfl (Pw i hi)<|oR 1 rfl<|rE 47 ?_;refine aU rfl (λ h6=>?_) (λ h6=>?_)
   ·refine aE<|aG rfl<|oR 2 rfl ?_;have b10:(pc+4) % 4294967296≤4294967295:=aT (bG _ (by decide));refine rV (vU ((pc+4) % 4294967296)) rfl<|rV (.sl 1 ([[vU ((pc+4) % 4294967296)]]) true) rfl<|rFx (x:=.osl 51 0 (g.rets.length+1) false) (h':=upd (upd _ 39 none) 51 (some (.arr ((g.rets++([(pc+4) % 4294967296])).map eJ) 1))) rfl rfl (gU eJ g.rets ([(pc+4) % 4294967296]) omT omT) (⟨by exact omT,by exact omT,trivial⟩)<|oR 1 rfl<|rE 53<|aE<|aG rfl<|oR 1 rfl<|rV (vN (g.rets.length+1)) rfl<|rW (vB (decide ((g.rets.length+1)>4))) rfl (okB (gtN _ _))<|rE 56 ?_;refine aU rfl (λ h7=>?_) (λ h7=>?_)
    ·have h7p:=of_decide_eq_true h7;refine aG rfl<|oR 1 rfl ?_;refine nW (.osl 51 1 (g.rets.length+1 - 1) false) rfl (JY (by first|rfl|omega) (by simp only[Option.getD];omega)) slT ?_;refine oR 1 rfl<|rE 59<|aE<|aG rfl<|oR 2 rfl ?_;have b11:((2 * g.hist) % 4294967296) % 8≤7:=aT (bG _ (by decide));refine nW (vU (((2 * g.hist) % 4294967296) % 8)) rfl rfl (by decide)<|oR 1 rfl<|rV (.agg [.osl 11 0 8 false,vU (((2 * g.hist) % 4294967296) % 8),.osl 51 1 (g.rets.length+1 - 1) false]) rfl<|rSt rfl<|rE 65<|cT<|eW rfl ⟨(by show 0+8≤((g.slots.set (gL g pc) (⟨pc,next⟩:Gs)).map gsL).length;exact omT),trivial,(by show 1+(g.rets.length+1 - 1)≤((g.rets++([(pc+4) % 4294967296])).map eJ).length;exact omT),trivial⟩ rfl ?_;show AV.agg [.sl 2 (List.take 8 (List.drop 0 ((g.slots.set (gL g pc) (⟨pc,next⟩:Gs)).map gsL))) false,vU (((2 * g.hist) % 4294967296) % 8),.sl 1 (List.take (g.rets.length+1 - 1) (List.drop 1 ((g.rets++([(pc+4) % 4294967296])).map eJ))) false]=_;rw[kA gsL (g.slots.set (gL g pc) (⟨pc,next⟩:Gs)) omT,Bl (M:=(g.rets++([(pc+4) % 4294967296])).drop 1) eJ (g.rets++([(pc+4) % 4294967296])) (aN omT)];refine congrArg (λ z=>AV.agg (guL z)) (?_:(⟨g.slots.set (gL g pc) (⟨pc,next⟩:Gs),((2 * g.hist) % 4294967296) % 8,(g.rets++([(pc+4) % 4294967296])).drop 1⟩:Gu)=dY g pc next i);unfold dY;rw[if_pos hR];have z:=h2;have z0:=h6;have z1:=h7;have hu:up4 pc=(pc+4) % 4294967296:=rfl;rw[hu]
     try simp[pM]at z z0 z1
     simp[z,z0,z1,dM]<;>(intros;first|omega|simp_all)
    ·have h7p:=aD h7;refine aZ<|aE<|aG rfl<|oR 2 rfl ?_;have b12:((2 * g.hist) % 4294967296) % 8≤7:=aT (bG _ (by decide));refine nW (vU (((2 * g.hist) % 4294967296) % 8)) rfl rfl (by decide)<|oR 1 rfl<|rV (.agg [.osl 11 0 8 false,vU (((2 * g.hist) % 4294967296) % 8),.osl 51 0 (g.rets.length+1) false]) rfl<|rSt rfl<|rE 62<|cT<|eW rfl ⟨(by show 0+8≤((g.slots.set (gL g pc) (⟨pc,next⟩:Gs)).map gsL).length;exact omT),trivial,(by show 0+(g.rets.length+1)≤((g.rets++([(pc+4) % 4294967296])).map eJ).length;exact omT),trivial⟩ rfl ?_;show AV.agg [.sl 2 (List.take 8 (List.drop 0 ((g.slots.set (gL g pc) (⟨pc,next⟩:Gs)).map gsL))) false,vU (((2 * g.hist) % 4294967296) % 8),.sl 1 (List.take (g.rets.length+1) (List.drop 0 ((g.rets++([(pc+4) % 4294967296])).map eJ))) false]=_;rw[kA gsL (g.slots.set (gL g pc) (⟨pc,next⟩:Gs)) omT,kA eJ (g.rets++([(pc+4) % 4294967296])) omT];refine congrArg (λ z=>AV.agg (guL z)) (?_:(⟨g.slots.set (gL g pc) (⟨pc,next⟩:Gs),((2 * g.hist) % 4294967296) % 8,g.rets++([(pc+4) % 4294967296])⟩:Gu)=dY g pc next i);unfold dY;rw[if_pos hR];have z:=h2;have z0:=h6;have z1:=h7;have hu:up4 pc=(pc+4) % 4294967296:=rfl;rw[hu]
     try simp[pM]at z z0 z1
     simp[z,z0,z1,dM]<;>(intros;first|omega|simp_all)
   ·refine aE<|aG rfl<|oR 1 rfl<|rCi rfl (Px i hi)<|oR 1 rfl<|gN rfl<|gBS (x:=vB (decide (g.rets.length>0))) rfl id (okB (gtN _ _))<|cH rfl rfl rfl (λ h=>h)<|oR 1 rfl<|rE 54 ?_;refine aU rfl (λ h8=>?_) (λ h8=>?_)
    ·have hB:EH i=true∧0<g.rets.length:=by simpa [pM]using h8
     have hB2:=hB.2;refine aG rfl<|oR 2 rfl ?_;have b13:g.rets.length - 1≤9223372036854775807:=aL (iO _ _) hok.rets;refine rW (vN (g.rets.length - 1)) rfl (okI (Bm omT hok.rets rfl)) ?_;refine nW (.osl 39 0 (g.rets.length - 1) false) rfl (JY (by first|rfl|omega) (by simp only[Option.getD];omega)) slT ?_;refine oR 1 rfl<|rE 59<|aE<|aG rfl<|oR 2 rfl ?_;have b14:((2 * g.hist) % 4294967296) % 8≤7:=aT (bG _ (by decide));refine nW (vU (((2 * g.hist) % 4294967296) % 8)) rfl rfl (by decide)<|oR 1 rfl<|rV (.agg [.osl 11 0 8 false,vU (((2 * g.hist) % 4294967296) % 8),.osl 39 0 (g.rets.length - 1) false]) rfl<|rSt rfl<|rE 65<|cT<|eW rfl ⟨(by show 0+8≤((g.slots.set (gL g pc) (⟨pc,next⟩:Gs)).map gsL).length;exact omT),trivial,(by show 0+(g.rets.length - 1)≤(g.rets.map eJ).length;exact omT),trivial⟩ rfl ?_;show AV.agg [.sl 2 (List.take 8 (List.drop 0 ((g.slots.set (gL g pc) (⟨pc,next⟩:Gs)).map gsL))) false,vU (((2 * g.hist) % 4294967296) % 8),.sl 1 (List.take (g.rets.length - 1) (List.drop 0 (g.rets.map eJ))) false]=_;rw[kA gsL (g.slots.set (gL g pc) (⟨pc,next⟩:Gs)) omT,Bl (M:=g.rets.take (g.rets.length - 1)) eJ g.rets (by rw[cQ])];refine congrArg (λ z=>AV.agg (guL z)) (?_:(⟨g.slots.set (gL g pc) (⟨pc,next⟩:Gs),((2 * g.hist) % 4294967296) % 8,g.rets.take (g.rets.length - 1)⟩:Gu)=dY g pc next i);unfold dY;rw[if_pos hR];have z:=h2;have z0:=h6;have z1:=h8;have hu:up4 pc=(pc+4) % 4294967296:=rfl;rw[hu]
     try simp[pM]at z z0 z1
     simp[z,z0,z1,dM]<;>(intros;first|omega|simp_all)
    ·have hB: ¬ (EH i=true∧0<g.rets.length):=by simpa [pM]using h8
     refine aZ<|aE<|aG rfl<|oR 2 rfl ?_;have b15:((2 * g.hist) % 4294967296) % 8≤7:=aT (bG _ (by decide));refine nW (vU (((2 * g.hist) % 4294967296) % 8)) rfl rfl (by decide)<|oR 1 rfl<|rV (.agg [.osl 11 0 8 false,vU (((2 * g.hist) % 4294967296) % 8),.osl 39 0 g.rets.length false]) rfl<|rSt rfl<|rE 60<|cT<|eW rfl ⟨(by show 0+8≤((g.slots.set (gL g pc) (⟨pc,next⟩:Gs)).map gsL).length;exact omT),trivial,(by show 0+g.rets.length≤(g.rets.map eJ).length;exact omT),trivial⟩ rfl ?_;show AV.agg [.sl 2 (List.take 8 (List.drop 0 ((g.slots.set (gL g pc) (⟨pc,next⟩:Gs)).map gsL))) false,vU (((2 * g.hist) % 4294967296) % 8),.sl 1 (List.take g.rets.length (List.drop 0 (g.rets.map eJ))) false]=_;rw[kA gsL (g.slots.set (gL g pc) (⟨pc,next⟩:Gs)) omT,kA eJ g.rets omT];refine congrArg (λ z=>AV.agg (guL z)) (?_:(⟨g.slots.set (gL g pc) (⟨pc,next⟩:Gs),((2 * g.hist) % 4294967296) % 8,g.rets⟩:Gu)=dY g pc next i);unfold dY;rw[if_pos hR];have z:=h2;have z0:=h6;have z1:=h8;have hu:up4 pc=(pc+4) % 4294967296:=rfl;rw[hu]
     try simp[pM]at z z0 z1
     simp[z,z0,z1,dM]<;>(intros;first|omega|simp_all)
theorem Le(i:SI):TU i=true↔okE ⟨i.op,i.rd,i.rs1,i.rs2,i.imm⟩:=by
 unfold TU okE;simp only[aK,bC];obtain⟨op,rd,rs1,rs2,imm⟩:=i;constructor
 ·rintro ⟨⟨⟨⟨⟨⟨h1,h2⟩,h3⟩,h4⟩,h5⟩,h6⟩,h7⟩;refine⟨h1,h2,?_⟩;generalize yK op (Hm ⟨op,rd,rs1,rs2,imm⟩)=r at h3 h4 h5 h6 h7⊢;obtain⟨a,b,c,d,e⟩:=r;simp only at h3 h4 h5 h6 h7;subst h3 h4 h5 h6 h7;rfl
 ·rintro ⟨h1,h2,h3⟩;simp only at h3;refine⟨⟨⟨⟨⟨⟨h1,h2⟩,?_⟩,?_⟩,?_⟩,?_⟩,?_⟩<;>rw[h3]
theorem TJ(i:SI)(hi:i.imm<4294967296):bY C0 145 [siA i] (.tup [.v (.int .u32 ((if TU i=true then Hm ⟨i.op,i.rd,i.rs1,i.rs2,i.imm⟩else 0:Nat):Int)),.v (.int .i64 (if TU i=true then 0 else 1))]):=by
 by_cases h:TU i=true
 ·rw[if_pos h,if_pos h];exact .of_tupG Tryz.func145 rfl rfl rfl rfl λ S w hG=>Pr BX i.op i.rd i.rs1 i.rs2 i.imm w (BU hG) hi ((Le i).1 h)
 ·rw[if_neg h,if_neg h];exact .of_tupG Tryz.func145 rfl rfl rfl rfl λ S w hG=>Ps BX i.op i.rd i.rs1 i.rs2 i.imm w (BU hG) hi (λ q=>h ((Le i).2 q))
theorem TK(e:Ent)(he:e.ok):bY C0 84 [.agg (enL e)] (vB (vZ e)):=by
 refine bY.intro c0Ok Tryz.func84 rfl rfl (by kernel_rfl) rfl<|aE<|aG rfl<|rAl 0 rfl rfl<|oR 1 rfl<|rE 2<|aE<|aE<|aG rfl<|oR 2 rfl<|rV (vB (decide (e.is<0))) rfl<|oR 1 rfl<|gN rfl<|gS rfl id<|gBS (x:=vB (decide (e.is>3))) rfl id rfl<|cH rfl rfl rfl (by simp) ?_;refine rE 10 ?_;refine aU rfl (λ h1=>?_) (λ h1=>?_)
 ·refine aE<|aG rfl<|oR 1 rfl<|rE 11<|cT ?_;replace h1:=sP h1;exact fT rfl (cY (by unfold vZ;grind [pM,cOr]))
 ·refine aZ<|aE<|aG rfl<|oR 2 rfl<|rV (vB (e.is==1)) rfl<|oR 1 rfl<|rE 14<|aE<|aE<|aG rfl<|oR 2 rfl<|gN rfl<|gS rfl id<|gBS (x:=vB (decide (e.left≤0))) rfl id rfl<|cH rfl rfl rfl (λ h=>h)<|oR 1 rfl ?_;refine gN rfl<|gS rfl id<|gS rfl id<|gN rfl<|gS rfl id<|gBS (x:=vB (e.left != 0)) rfl id rfl<|vK (x:=vB (cA (!(e.is==1)) (e.left != 0) false)) (g:= !(cA (e.is==1) (decide (e.left≤0)) false)) rfl rfl rfl rfl (λ h=>h) rfl rfl (λ hg hc=>by first|(rw[hg,hc];rfl)|simp_all)<|cH rfl rfl rfl (by simp)<|rE 29 ?_;refine aU rfl (λ h2=>?_) (λ h2=>?_)
  ·refine aE<|aG rfl<|oR 1 rfl<|rE 30<|cT ?_;replace h1:=sP h1;replace h2:=sP h2;exact fT rfl (cY (by unfold vZ;grind [pM,cOr]))
  ·refine aZ<|aE<|aG rfl<|oR 2 rfl<|rCi rfl (qG e.i)<|oR 1 rfl<|rE 33<|aE<|aE<|aG rfl<|oR 2 rfl<|rV (vB (e.is==2)) rfl<|oR 1 rfl<|gN rfl<|gBS (x:=vB ((kindOf e.i.op) != 3)) rfl id (okB (neN _ _))<|gS rfl id ?_;refine gN rfl<|gS rfl id<|gS rfl id<|vK (x:=vB (cA ((kindOf e.i.op) != 3) true (!e.known))) (g:=e.is==2) rfl rfl rfl rfl (λ h=>h) rfl rfl (λ hg hc=>by first|(rw[hg,hc];rfl)|simp_all)<|cH rfl rfl rfl (λ h=>h)<|rE 45 ?_;refine aU rfl (λ h3=>?_) (λ h3=>?_)
   ·refine aE<|aG rfl<|oR 1 rfl<|rE 46<|cT ?_;replace h1:=sP h1;replace h2:=sP h2;replace h3:=sP h3;exact fT rfl (cY (by unfold vZ;grind [pM,cOr]))
   ·refine aZ<|aE<|aE<|aG rfl<|oR 2 rfl<|rV (vB (e.halt != 0)) rfl<|oR 1 rfl<|gN rfl<|gS rfl id<|gBS (x:=vB (e.is != 3)) rfl id rfl<|cH rfl rfl rfl (λ h=>h)<|oR 1 rfl<|gN rfl<|gS rfl id<|gN rfl<|gBS (x:=vB ((kindOf e.i.op)==5)) rfl id (okB (eqN _ _)) ?_;refine vK (x:=vB (cA (e.is==1) ((kindOf e.i.op)==5) false)) (g:=cA (e.halt != 0) (e.is != 3) false) rfl rfl rfl rfl (λ h=>h) rfl rfl (λ hg hc=>by first|(rw[hg,hc];rfl)|simp_all)<|gS rfl id<|gN rfl<|gS rfl id<|gBS (x:=vB (e.halt==3)) rfl id rfl<|vK (x:=vB (cA (cA (e.is==1) ((kindOf e.i.op)==5) false) (e.halt==3) false)) (g:=cA (e.halt != 0) (e.is != 3) false) rfl rfl rfl rfl (λ h=>h) rfl rfl (λ hg hc=>by first|(rw[hg,hc];rfl)|simp_all)<|gS rfl id<|cH rfl rfl rfl (λ h=>h)<|rE 66 ?_;refine aU rfl (λ h4=>?_) (λ h4=>?_)
    ·refine aE<|aG rfl<|oR 1 rfl<|rE 67<|cT ?_;replace h1:=sP h1;replace h2:=sP h2;replace h3:=sP h3;replace h4:=sP h4;exact fT rfl (cY (by unfold vZ;grind [pM,cOr]))
    ·refine aZ<|aE<|aE<|aG rfl<|oR 2 rfl<|rCi rfl (TJ e.i (BA he.imm))<|oR 5 rfl<|rE 74<|aE<|aG rfl<|oR 1 rfl<|rV (vB ((if TU e.i=true then 0 else 1) != 0)) rfl<|rE 76 ?_;refine aU rfl (λ h5=>?_) (λ h5=>?_)
     ·have h5p:=vA h5;refine aE<|aG rfl<|oR 2 rfl<|rV (vB (e.halt==1)) rfl<|oR 1 rfl<|gN rfl<|gS rfl id<|gBS (x:=vB (e.halt==2)) rfl id rfl<|cH rfl rfl rfl (by simp)<|oR 1 rfl<|rE 85<|cT ?_;replace h1:=sP h1;replace h2:=sP h2;replace h3:=sP h3;replace h4:=sP h4;replace h5:=sP h5;exact fT rfl (cY (by unfold vZ;grind [pM,cOr]))
     ·have h5p:=vC h5;refine aZ<|aE<|aG rfl<|oR 1 rfl<|rE 77<|cT ?_;replace h1:=sP h1;replace h2:=sP h2;replace h3:=sP h3;replace h4:=sP h4;replace h5:=sP h5;exact fT rfl (cY (by unfold vZ;grind [pM,cOr]))
theorem OA{α:Type}{p:α→Bool}{l:List α}{k:Nat}{x:α}(hx:l[k]?=some x)(hn:p x=false)(h:∀ y∈l.take k,p y=false):∀ y∈l.take (k+1),p y=false:=by
 intro y hy;rw[bX,hx]at hy;rcases al_List_mem_append.1 hy with hy|hy
 ·exact h y hy
 ·simp at hy;subst hy;exact hn
theorem OB{α:Type}{p:α→Bool}{l:List α}{k:Nat}{x:α}(hx:l[k]?=some x)(hp:p x=true)(h:∀ y∈l.take k,p y=false):l.findIdx? p=some k:=by
 rw[List.findIdx?_eq_some_iff_getElem];obtain⟨hk,rfl⟩:=Db.1 hx;refine⟨hk,hp,λ j hj=>?_⟩;have:=h (l[j]'omT) (aB (i:=j) (by rw[cS,if_pos hj,aA omT]));simp[this]
theorem TL{α:Type}{p:α→Bool}{l:List α}{k:Nat}(hk:l.length≤k)(h:∀ y∈l.take k,p y=false):l.findIdx? p=none:=by
 rw[aN hk]at h;rw[List.findIdx?_eq_none_iff];exact h
theorem OC{α:Type}{p:α→Bool}{l:List α}:∀ y∈l.take 0,p y=false:=λ y hy=>by simp at hy
theorem OD(rob:List Ent)(ck:Bool)(hl:rob.length≤1000000)(ho:∀ x∈rob,x.ok):bY C0 103 [.sl 17 (rob.map enL) ck] (vI (CB (wO rob))):=by
 refine dc1 (bY.intro c1Ok Tryz.func103 rfl rfl (by kernel_rfl) rfl ?_);refine aE<|aG rfl<|oR 1 rfl<|rE 1<|aE<|aE<|aG rfl<|oR 1 rfl<|rW (vN rob.length) rfl (bQ enL rob)<|oR 1 rfl<|rE 4<|bI<|kZ (κ:=Nat) (λ k=>⟨cI [(5,.sl 17 (rob.map enL) ck),(6,vN rob.length),(7,vN k)],heapF [],4⟩) (λ k=>k≤rob.length∧∀ y∈rob.take k,Lo y=false) (λ k=>rob.length - k) 0 (λ s=>s) (Weak.of_lists (λ s=>s) wT trivial rfl) (⟨aF _,OC⟩) ?_;intro k hk;have hkn:k≤rob.length:=hk.1;have hkB:k≤1000000:=by omega
 refine aE<|aG rfl<|rW (vB (decide (k<rob.length))) rfl (okB (ltN _ _))<|rE 5<|aE ?_;refine aU rfl (λ h1=>?_) (λ h1=>?_)
 ·have h1p:=of_decide_eq_true h1;refine aZ<|aE<|bI<|aE<|aG rfl<|oR 1 rfl ?_;obtain⟨x,hx⟩:∃ x,rob[k]?=some x:=⟨_,aA omT⟩;have hxo:=ho x (aB hx);refine rIx (enL x) (.dp 17 0 (enL x)) rfl rfl (gJ hx) rfl<|oR 1 rfl<|rAl 8 rfl rfl<|oR 1 rfl<|rSt rfl<|rE 11<|aE<|aG rfl<|oR 2 rfl<|rCi rfl (qG x.i)<|rW (vB ((kindOf x.i.op)==5)) rfl (okB (eqN _ _))<|oR 1 rfl<|gN rfl<|gS rfl id<|cH rfl rfl rfl (λ h=>h)<|oR 1 rfl ?_;refine gN rfl<|gS rfl id<|gN rfl<|gS rfl id<|gBS (x:=vB (x.next != x.guess)) rfl hsT (okB (neN _ _))<|cH rfl rfl rfl (λ h=>h)<|rE 26 ?_;refine aU rfl (λ h2=>?_) (λ h2=>?_)
  ·refine aE<|aG rfl<|oR 2 rfl<|rE 28<|cT ?_;exact fT rfl (Ln (by unfold wO;rw[OB hx (by simpa [Lo,pM,tN]using h2) hk.2];rfl))
  ·refine aZ<|aG rfl ?_;have b1:k+1≤1000001:=aH hkB (aC 1);refine rW (vN (k+1)) rfl (okI (bS b1 rfl))<|oR 1 rfl<|rE 28 ?_;refine⟨k+1,λ s=>s,Weak.of_lists _ wT trivial rfl,⟨by omega,OA hx (by have z:=h2;unfold Lo;simp only[pM]at z;grind) hk.2⟩,by show rob.length - (k+1)<rob.length - k;omega⟩
 ·have h1p:=aD h1;refine eA<|aE<|aG rfl<|oR 1 rfl<|rE 6<|cT ?_;exact fT rfl (Ln (by unfold wO;rw[TL omT hk.2];rfl))
theorem TM{f:Nat→Bool}{k:Nat}(hp:f k=true)(h:(List.range k).all f=true):(List.range (k+1)).all f=true:=by
 rw[mD,List.all_append,h];simpa using hp
theorem VD{f:Nat→Bool}{k n:Nat}(hk:k<n)(hp:f k=false):(List.range n).all f=false:=by
 rw[List.all_eq_false];exact⟨k,mT.2 hk,by simp[hp]⟩
theorem Rh{rob:List Ent}{k:Nat}(hg:decide (k>0)=true)(hk:k<rob.length)(hl:rob.length≤1000):0≤IntKind.wrap .i64 ((k:Int) - 1)∧(rob.map enL)[(IntKind.wrap .i64 ((k:Int) - 1)).toNat]?=some (enL ((rob[k - 1]?).getD Br)):=by
 have h0:=of_decide_eq_true hg;rw[show IntKind.wrap .i64 ((k:Int) - 1)=((k - 1:Nat):Int)from by rw[wrap_i64 omT omT];omega];refine⟨aI _,?_⟩;show (rob.map enL)[k - 1]?=_;rw[bH,aA (show k - 1<rob.length by omega)];rfl
theorem Lf{rob:List Ent}{k:Nat}{x:Ent}(hx:rob[k]?=some x):GK rob k=((k==0||decide (((rob[k - 1]?).getD Br).no<x.no))&&vZ x):=by
 unfold GK VI;rw[hx];have hk:=(Db.1 hx).1;rw[aA (show k - 1<rob.length by omega)];rfl
theorem TN(rob:List Ent)(ck:Bool)(hl:rob.length≤9223372036854775807)(ho:∀ x∈rob,x.ok):bY C0 47 [.sl 17 (rob.map enL) ck] (vB (DS rob)):=by
 refine dc1 (bY.intro c1Ok Tryz.func47 rfl rfl (by kernel_rfl) rfl ?_);refine aE<|aG rfl<|oR 1 rfl<|rE 1<|aE<|aE<|aG rfl<|oR 1 rfl<|rW (vN rob.length) rfl (bQ enL rob)<|rW (vB (decide (rob.length>8))) rfl (okB (gtN _ _))<|rE 4 ?_;refine aU rfl (λ h1=>?_) (λ h1=>?_)
 ·have h1p:=of_decide_eq_true h1;refine aE<|aG rfl<|oR 1 rfl<|rE 5<|cT ?_;exact fT rfl (cY (by unfold DS;rw[rM omT];rfl))
 ·have h1p:=aD h1;refine aZ<|aE<|aE<|aG rfl<|oR 1 rfl<|rW (vN rob.length) rfl (bQ enL rob)<|oR 1 rfl<|rE 7<|bI<|kZ (κ:=Nat) (λ k=>⟨cI [(0,.sl 17 (rob.map enL) ck),(7,vB (decide (rob.length>8))),(8,.sl 17 (rob.map enL) ck),(9,vN rob.length),(10,vN k)],heapF [],7⟩) (λ k=>k≤rob.length∧(List.range k).all (GK rob)=true) (λ k=>rob.length - k) 0 (λ s=>s) (Weak.of_lists (λ s=>s) wT trivial rfl) (⟨aF _,rfl⟩) ?_;intro k hk;have hkn:k≤rob.length:=hk.1;have hkB:k≤1000000:=by omega
  refine aE<|aG rfl<|rW (vB (decide (k<rob.length))) rfl (okB (ltN _ _))<|rE 8<|aE ?_;refine aU rfl (λ h2=>?_) (λ h2=>?_)
  ·have h2p:=of_decide_eq_true h2;refine aZ<|aE<|bI<|aE<|aG rfl<|oR 1 rfl ?_;obtain⟨x,hx⟩:∃ x,rob[k]?=some x:=⟨_,aA omT⟩;have hxo:=ho x (aB hx);refine rIx (enL x) (.dp 17 0 (enL x)) rfl rfl (gJ hx) rfl<|oR 1 rfl<|rAl 11 rfl rfl<|oR 1 rfl<|rSt rfl<|rE 14<|aE<|aG rfl<|oR 1 rfl<|rW (vB (decide (k>0))) rfl (okB (gtN _ _))<|oR 1 rfl<|gN rfl<|gN rfl<|gBS (x:=vI (IntKind.wrap .i64 ((k:Int) - 1))) rfl id rfl<|JF (enL ((rob[k - 1]?).getD Br)) (x:=.dp 17 0 (enL ((rob[k - 1]?).getD Br))) (g:=decide (k>0)) rfl rfl rfl rfl hsT rfl rfl (λ hg=>Rh hg omT omT) rfl<|gS rfl id ?_;refine gS rfl id<|gN rfl<|gS rfl id<|gBS (x:=vB (decide ((((rob[k - 1]?).getD Br).no)≥x.no))) rfl hsT rfl<|cH rfl rfl rfl (λ h=>h)<|oR 1 rfl<|gN rfl<|jI (args:=[.agg (enL x)]) (x:=vB (vZ x)) (g:= !(cA (decide (k>0)) (decide ((((rob[k - 1]?).getD Br).no)≥x.no)) false)) rfl rfl rfl rfl (λ h=>h) rfl rfl rfl (.inl rfl) rfl (λ hg=>TK x hxo)<|gS rfl id<|cH rfl rfl rfl (by simp)<|rE 32 ?_;refine aU rfl (λ h3=>?_) (λ h3=>?_)
   ·refine aE<|aG rfl<|oR 1 rfl<|rE 33<|cT ?_;exact fT rfl (cY (by unfold DS;rw[VD (k:=k) omT (by rw[Lf hx];have z:=h3;simp only[pM,cOr]at z;grind)];simp))
   ·refine aZ<|aG rfl ?_;have b1:k+1≤9223372036854775807:=by omega
    refine rW (vN (k+1)) rfl (okI (bS (show k+1≤9223372036854775807 by omega) rfl))<|oR 1 rfl<|rE 34 ?_;refine⟨k+1,λ s=>s,Weak.of_lists _ wT trivial rfl,⟨by omega,TM (by rw[Lf hx];have z:=h3;simp only[pM,cOr]at z;grind) hk.2⟩,by show rob.length - (k+1)<rob.length - k;omega⟩
  ·have h2p:=aD h2;refine eA<|aE<|aG rfl<|oR 1 rfl<|rE 9<|cT ?_;have hkk:k=rob.length:=by omega
   have hall:=hk.2;rw[hkk]at hall;exact fT rfl (cY (by unfold DS;rw[hall,pH omT];rfl))
theorem XF(R:List Ent)(lo n i:Nat)(cl:Bool)(hR:lo+n≤R.length)(hRl:R.length≤900000)(hi:i<n)(ho:∀ x∈R,x.ok):pJ C0.P C0.G 104 [.osl 0 lo n cl,vN i] (heapF [(0,.arr (R.map enL) 17)]) 1 (λ x h'=>x=.osl 1 0 (i+1) false∧h'=heapF [(0,.arr (R.map enL) 17),(1,.arr ((BP ((R.drop lo).take n) i).map enL) 17)]):=by
 refine HCall.intro (C:=C1) (s:=1) c1Ok.at Tryz.func104 rfl rfl (by kernel_rfl) rfl rfl<|aE<|aG rfl<|oR 1 rfl<|rE 2<|aE<|aE<|aG rfl<|oR 1 rfl<|rW (vB (decide (i<0))) rfl (okB (ltN _ _))<|oR 1 rfl<|gN rfl<|gN rfl<|gBS (x:=vI (n:Int)) rfl id rfl<|gBS (x:=vB (decide ((i:Int)≥(n:Int)))) rfl hsT rfl<|cH rfl rfl rfl (by simp) ?_;refine rE 10 ?_;refine aU rfl (λ h1=>by simp[cOr]at h1;omega) (λ _=>?_);refine aZ<|aE<|aG rfl<|oR 2 rfl<|nW (.ptr2 0 (lo+i) 0) rfl rfl ixT ?_;obtain⟨x,hx⟩:∃ x,R[lo+i]?=some x:=⟨_,aA omT⟩;have hxo:=ho x (aB hx);refine rIx (enL x) (.agg (enL x)) rfl rfl (gJ hx) rfl<|rAl 14 rfl rfl<|rSt rfl<|rE 16<|aE<|aG rfl<|oR 3 rfl<|rSt rfl<|rE 20<|aE<|aG rfl<|oR 3 rfl ?_;refine nW (.osl 0 lo i true) rfl (JY (by first|rfl|omega) (by simp only[Option.getD];omega)) (by refine⟨?_,?_,?_,?_⟩;all_goals (first|exact aI _|decide|(apply Eo.2;exact omT)|rfl)) ?_;refine oR 1 rfl<|rV (.sl 17 ([[vI x.no,vU x.pc,vI x.i.op,vI x.i.rd,vI x.i.rs1,vI x.i.rs2,vU x.i.imm,vU x.next,vI x.is,vI x.left,vU x.value,vU x.next,vU x.addr,vI x.halt,vI x.took,vB x.known,vB x.filled]]) true) rfl<|rFx (x:=.osl 26 0 (i+1) false) (h':=upd _ 26 (some (.arr ((((R.drop lo).take i)++([(⟨x.no,x.pc,⟨x.i.op,x.i.rd,x.i.rs1,x.i.rs2,x.i.imm⟩,x.next,x.is,x.left,x.value,x.next,x.addr,x.halt,x.took,x.known,x.filled⟩:Ent)])).map enL) 17))) rfl rfl (Rp enL R ([(⟨x.no,x.pc,⟨x.i.op,x.i.rd,x.i.rs1,x.i.rs2,x.i.imm⟩,x.next,x.is,x.left,x.value,x.next,x.addr,x.halt,x.took,x.known,x.filled⟩:Ent)]) (by simp only[aQ,bA,bN,cW];omega)) (⟨by simp only[aQ,bA,aO,bN,cW,oL];omega,by exact omT,(by show lo+i≤(R.map enL).length;exact omT),trivial⟩)<|oR 1 rfl<|rE 28<|cT ?_;have e:((R.drop lo).take i)++([(⟨x.no,x.pc,⟨x.i.op,x.i.rd,x.i.rs1,x.i.rs2,x.i.imm⟩,x.next,x.is,x.left,x.value,x.next,x.addr,x.halt,x.took,x.known,x.filled⟩:Ent)])=BP ((R.drop lo).take n) i:=by unfold BP;rw[show ((R.drop lo).take n)[i]?=some x from by rw[cS,if_pos hi,dE];exact hx];simp only[List.take_take];rw[rN omT]
 refine oX (rs:=[.osl 26 0 (i+1) false]) rfl (r:=.osl 1 0 (i+1) false) (h':=heapF [(0,.arr (R.map enL) 17),(1,.arr ((BP ((R.drop lo).take n) i).map enL) 17)]) (σ:=λ z=>match z with|1=>26|z=>z) ⟨rfl,rfl⟩ rfl (cF (λ z=>match z with|1=>26|z=>z) rfl rfl ⟨⟨rfl,rfl,rfl⟩,⟨rfl,?_,rfl⟩,trivial⟩ rfl);show some (Blk.arr ((((R.drop lo).take i)++([(⟨x.no,x.pc,⟨x.i.op,x.i.rd,x.i.rs1,x.i.rs2,x.i.imm⟩,x.next,x.is,x.left,x.value,x.next,x.addr,x.halt,x.took,x.known,x.filled⟩:Ent)])).map enL) 17)=some (Blk.arr ((BP ((R.drop lo).take n) i).map enL) 17);rw[e]
theorem JW{prog:List Nat}(hp:∀ x∈prog,x≤4294967295)(pc:Nat):fetchW prog pc≤4294967295:=by
 unfold fetchW fetchP;split
 ·cases h:prog[pc / 4]? with
  |none=>exact aF _
  |some x=>exact hp x (aB h)
 ·exact aF _
theorem DL{b:Bool}(h:(!b)=true):b=false:=by simpa using h
theorem qU{b:Bool}(h:(!b)=false): ¬ b=false:=by cases b<;>simp_all
theorem Cn(x:Nat):decE x=0↔ ¬ MX x=0:=by unfold decE;split<;>simp_all
abbrev mcX(c:Co)(R F S T:AV):List AV:=[vI c.conf.mode,vI c.conf.width,vI c.conf.rob,vI c.conf.queue,vI c.conf.stores,vI c.conf.slots,vI c.conf.sets,vI c.conf.ways,.sl 1 (c.conf.lat.map fD) false,vB c.conf.tables,.sl 1 (c.conf.tape.map eJ) false,.sl 1 (c.prog.map eJ) false,vI c.cycle,vU (c.r 0),vU (c.r 1),vU (c.r 2),vU (c.r 3),vU (c.r 4),vU (c.r 5),vU (c.r 6),vU (c.r 7),vU (c.r 8),vU (c.r 9),vU (c.r 10),vU (c.r 11),vU (c.r 12),vU (c.r 13),vU (c.r 14),vU (c.r 15),vU (c.r 16),vU (c.r 17),vU (c.r 18),vU (c.r 19),vU (c.r 20),vU (c.r 21),vU (c.r 22),vU (c.r 23),vU (c.r 24),vU (c.r 25),vU (c.r 26),vU (c.r 27),vU (c.r 28),vU (c.r 29),vU (c.r 30),vU (c.r 31),vU c.fetch,vB c.stop,F,R,vI c.next,S,vI c.data.ways,.sl 1 (c.data.sets.map cB) false,vI c.words.ways,.sl 1 (c.words.sets.map cB) false,.sl 4 (c.bus.map rqL) false,vI c.asked,vI c.guessed,.v (.string c.mem),.sl 2 (c.guess.slots.map gsL) false,vU c.guess.hist,.sl 1 (c.guess.rets.map eJ) false,vI c.halt,T]
structure Co.ok(c:Co)(n:Nat):Prop where
 conf:c.conf.okW
 prog:c.prog.length≤9223372036854775807
 progo:∀ x∈c.prog,x≤4294967295
 r:∀ k,c.r k≤4294967295
 fetch:c.fetch≤4294967295
 fet:c.fetched.length≤9223372036854775807
 feto:∀ x∈c.fetched,x.ok
 rob:c.rob.length≤9223372036854775807
 robo:∀ x∈c.rob,x.ok
 sto:c.stores.length≤9223372036854775807
 stoo:∀ x∈c.stores,x.ok
 data:c.data.ok
 words:c.words.ok
 bus:c.bus.length≤n
 buso:∀ x∈c.bus,x.ok
 asked:c.asked≤9223372036854775807
 guessed:c.guessed≤9223372036854775807
 mem:c.mem.size≤1000000
 guess:c.guess.ok
 ret:c.retired.length≤n
 reto:∀ x∈c.retired,x.ok
theorem Bi(c:Co)(n:Nat)(hok:c.ok n)(hnb:n≤890000):bY C0 23 [.agg (coL c)] (vB (fK c)):=by
 refine dc1 (bY.intro c1Ok Tryz.func23 rfl rfl (by kernel_rfl) rfl ?_);refine aE<|aG rfl<|rAl 0 rfl rfl<|oR 1 rfl<|rE 2<|aE<|aE<|aG rfl<|oR 2 rfl<|rCi rfl (Ri c.conf hok.conf)<|oR 2 rfl<|gN rfl<|gS rfl id<|gBS (x:=vN c.prog.length) rfl id (bQ eJ c.prog)<|gBS (x:=vB (decide (c.prog.length>64))) rfl id (okB (gtN _ _))<|cH rfl rfl rfl (by simp) ?_;refine oR 1 rfl<|gN rfl<|gS rfl id<|gN rfl<|gS rfl id<|jI (args:=[.v (.string c.mem)]) (x:=.v (.string (qQ c.mem))) (g:= !(cA (!(uQ c.conf)) true (decide (c.prog.length>64)))) rfl rfl rfl rfl (λ h=>h) rfl rfl rfl (.inl rfl) rfl (λ hg=>SK c.mem)<|gBS (x:=vB (!(c.mem.toList==(qQ c.mem).toList))) rfl hsT rfl<|cH rfl rfl rfl (by simp)<|rE 20 ?_;refine aU rfl (λ h1=>?_) (λ h1=>?_)
 ·refine aE<|aG rfl<|oR 1 rfl<|rE 21<|cT ?_;exact fT rfl (cY (by unfold fK;have q0:=h1;simp only[pM,cOr]at q0;rw[bT];simp only[aK,bC,cR,qS];grind))
 ·refine aZ<|aE<|aE<|aG rfl<|oR 2 rfl<|rCi rfl (TN c.rob false hok.rob hok.robo)<|oR 2 rfl<|gN rfl<|gS rfl id<|gBS (x:=vN c.rob.length) rfl id (bQ enL c.rob)<|gN rfl<|gS rfl id<|gS rfl id<|gBS (x:=vB (decide (((c.rob.length:Nat):Int)>c.conf.rob))) rfl hsT rfl<|cH rfl rfl rfl (by simp)<|rE 33 ?_;refine aU rfl (λ h2=>?_) (λ h2=>?_)
  ·refine aE<|aG rfl<|oR 1 rfl<|rE 34<|cT ?_;exact fT rfl (cY (by unfold fK;have q0:=h1;have q1:=h2;simp only[pM,cOr]at q0 q1;rw[bT];simp only[aK,bC,cR,qS];grind))
  ·refine aZ<|aE<|aE<|aG rfl<|oR 2 rfl<|rW (vN c.rob.length) rfl (bQ enL c.rob)<|oR 1 rfl<|rE 37<|bI<|kZ (κ:=Nat) (λ k=>⟨cI [(1,.ptr 0 0),(24,vB (cA (cA (!(uQ c.conf)) true (decide (c.prog.length>64))) true (!(c.mem.toList==(qQ c.mem).toList)))),(37,vB (cA (!(DS c.rob)) true (decide (((c.rob.length:Nat):Int)>c.conf.rob)))),(39,.sl 17 (c.rob.map enL) false),(40,vN c.rob.length),(41,vN k)],heapF [(0,.box (coL c))],37⟩) (λ k=>k≤c.rob.length∧(c.rob.take k).all (λ e=>decide (e.no<c.next))=true) (λ k=>c.rob.length - k) 0 (λ s=>s) (Weak.of_lists (λ s=>s) wT wH rfl) (⟨aF _,rfl⟩) ?_;intro k hk;have hkn:k≤c.rob.length:=hk.1;have hkB:k≤9223372036854775807:=by have:=hok.rob;omega
   have hrl:=hok.rob;refine aE<|aG rfl<|rW (vB (decide (k<c.rob.length))) rfl (okB (ltN _ _))<|rE 38<|aE ?_;refine aU rfl (λ h3=>?_) (λ h3=>?_)
   ·have h3p:=of_decide_eq_true h3;refine aZ<|aE<|bI<|aE<|aG rfl ?_;obtain⟨x,hx⟩:∃ x,c.rob[k]?=some x:=⟨_,aA omT⟩;have hxo:=hok.robo x (aB hx);refine rIx (enL x) (.dp 17 0 (enL x)) rfl rfl (gJ hx) rfl<|oR 1 rfl<|rAl 40 rfl rfl<|rSt rfl<|rE 42<|aE<|aG rfl<|oR 4 rfl<|rV (vB (decide (x.no≥c.next))) rfl<|rE 47 ?_;refine aU rfl (λ h4=>?_) (λ h4=>?_)
    ·have h4p:=of_decide_eq_true h4;refine aE<|aG rfl<|oR 1 rfl<|rE 48<|cT ?_;exact fT rfl (cY (by unfold fK;have q0:=h1;have q1:=h2;have q3:=h4;simp only[pM,cOr]at q0 q1;have hz:=GC (p:=λ e:Ent=>decide (e.no<c.next)) hx (by have z:=h4;simpa using z);rw[bT];simp only[aK,bC,cR,qS];grind))
    ·have h4p:=aD h4;refine aZ<|aG rfl ?_;have b1:k+1≤9223372036854775807:=by omega
     refine rW (vN (k+1)) rfl (okI (bS (show k+1≤9223372036854775807 by omega) rfl))<|oR 1 rfl<|rE 49 ?_;refine⟨k+1,λ s=>s,Weak.of_lists _ wT wH rfl,⟨by omega,CS hx (by have z:=h4;simpa using z) hk.2⟩,by show c.rob.length - (k+1)<c.rob.length - k;omega⟩
   ·have h3p:=aD h3;refine eA<|aE<|aE<|aG rfl<|oR 4 rfl<|rCi rfl (VE c.data c.conf hok.data)<|oR 2 rfl<|gN rfl<|gS rfl id<|gN rfl<|gS rfl id<|jI (args:=[.agg [vI c.words.ways,.sl 1 (c.words.sets.map cB) false],.agg [vI c.conf.mode,vI c.conf.width,vI c.conf.rob,vI c.conf.queue,vI c.conf.stores,vI c.conf.slots,vI c.conf.sets,vI c.conf.ways,.sl 1 (c.conf.lat.map fD) false,vB c.conf.tables,.sl 1 (c.conf.tape.map eJ) false]]) (x:=vB (zK c.words c.conf)) (g:= !(!(zK c.data c.conf))) rfl rfl rfl rfl hsT rfl rfl rfl (.inl rfl) rfl (λ hg=>VE c.words c.conf hok.words)<|gS rfl id<|cH rfl rfl rfl (by simp)<|oR 1 rfl<|gN rfl ?_;refine gS rfl id<|jI (args:=[.agg [.sl 2 (c.guess.slots.map gsL) false,vU c.guess.hist,.sl 1 (c.guess.rets.map eJ) false]]) (x:=vB (rH c.guess)) (g:= !(cA (!(zK c.data c.conf)) true (!(zK c.words c.conf)))) rfl rfl rfl rfl (λ h=>h) rfl rfl rfl (.inl rfl) rfl (λ hg=>Ha c.guess hok.guess)<|gS rfl id<|cH rfl rfl rfl (by simp)<|rE 58 ?_;refine aU rfl (λ h5=>?_) (λ h5=>?_)
    ·refine aE<|aG rfl<|oR 1 rfl<|rE 59<|cT ?_;exact fT rfl (cY (by unfold fK;have q0:=h1;have q1:=h2;have q3:=h5;simp only[pM,cOr]at q0 q1 q3;rw[bT];simp only[aK,bC,cR,qS];grind))
    ·refine aZ<|aE<|aE<|aG rfl<|oR 2 rfl<|rW (vN c.fetched.length) rfl (bQ ftL c.fetched)<|oR 3 rfl<|rV (vB (decide (((c.fetched.length:Nat):Int)>c.conf.queue))) rfl<|oR 1 rfl<|gN rfl<|gS rfl id<|gBS (x:=vN c.stores.length) rfl id (bQ ptL c.stores)<|gN rfl<|gS rfl id<|gS rfl id<|gBS (x:=vB (decide (((c.stores.length:Nat):Int)>c.conf.stores))) rfl hsT rfl ?_;refine cH rfl rfl rfl (by simp)<|rE 74 ?_;refine aU rfl (λ h6=>?_) (λ h6=>?_)
     ·refine aE<|aG rfl<|oR 1 rfl<|rE 75<|cT ?_;exact fT rfl (cY (by unfold fK;have q0:=h1;have q1:=h2;have q3:=h5;have q4:=h6;simp only[pM,cOr]at q0 q1 q3 q4;rw[bT];simp only[aK,bC,cR,qS];grind))
     ·refine aZ<|aE<|aE<|aG rfl<|oR 2 rfl<|rW (vN c.stores.length) rfl (bQ ptL c.stores)<|oR 1 rfl<|rE 78<|bI<|kZ (κ:=Nat) (λ j=>⟨cI [(1,.ptr 0 0),(24,vB (cA (cA (!(uQ c.conf)) true (decide (c.prog.length>64))) true (!(c.mem.toList==(qQ c.mem).toList)))),(37,vB (cA (!(DS c.rob)) true (decide (((c.rob.length:Nat):Int)>c.conf.rob)))),(42,vB (decide (k<c.rob.length))),(70,vB (cA (cA (!(zK c.data c.conf)) true (!(zK c.words c.conf))) true (!(rH c.guess)))),(86,vB (cA (decide (((c.fetched.length:Nat):Int)>c.conf.queue)) true (decide (((c.stores.length:Nat):Int)>c.conf.stores)))),(88,.sl 2 (c.stores.map ptL) false),(89,vN c.stores.length),(90,vN j)],heapF [(0,.box (coL c))],78⟩) (λ j=>j≤c.stores.length∧(c.stores.take j).all (λ p=>oU (c.mem.size:Int) p.addr (p.data.size:Int))=true) (λ j=>c.stores.length - j) 0 (λ s=>s) (Weak.of_lists (λ s=>s) wT wH rfl) (⟨aF _,rfl⟩) ?_;intro j hj;have hjn:j≤c.stores.length:=hj.1;have hjB:j≤9223372036854775807:=by have:=hok.sto;omega
      have hsl:=hok.sto;refine aE<|aG rfl<|rW (vB (decide (j<c.stores.length))) rfl (okB (ltN _ _))<|rE 79<|aE ?_;refine aU rfl (λ h7=>?_) (λ h7=>?_)
      ·have h7p:=of_decide_eq_true h7;refine aZ<|aE<|bI<|aE<|aG rfl ?_;obtain⟨p,hp⟩:∃ x,c.stores[j]?=some x:=⟨_,aA omT⟩;have hpo:=hok.stoo p (aB hp);refine rIx (ptL p) (.dp 2 0 (ptL p)) rfl rfl (gJ hp) rfl<|oR 1 rfl<|rAl 81 rfl rfl<|rSt rfl<|rE 83<|aE<|aG rfl<|oR 2 rfl<|rV (vN c.mem.size) rfl<|oR 4 rfl<|rV (vN p.data.size) rfl<|rCi rfl (OY (c.mem.size:Int) p.addr (p.data.size:Int) (by have:=hok.mem;omega) (BA hpo.addr))<|oR 1 rfl<|rE 93 ?_;refine aU rfl (λ h8=>?_) (λ h8=>?_)
       ·refine aE<|aG rfl<|oR 1 rfl<|rE 94<|cT ?_;exact fT rfl (cY (by unfold fK;have q0:=h1;have q1:=h2;have q3:=h5;have q4:=h6;have q6:=h8;simp only[pM,cOr]at q0 q1 q3 q4;have hz:=GC (p:=λ p:Pt=>oU (c.mem.size:Int) p.addr (p.data.size:Int)) hp (by have z:=h8;simpa using z);rw[bT];simp only[aK,bC,cR,qS];grind))
       ·refine aZ<|aG rfl ?_;have b2:j+1≤9223372036854775807:=by omega
        refine rW (vN (j+1)) rfl (okI (bS (show j+1≤9223372036854775807 by omega) rfl))<|oR 1 rfl<|rE 95 ?_;refine⟨j+1,λ s=>s,Weak.of_lists _ wT wH rfl,⟨by omega,CS hp (by have z:=h8;simpa using z) hj.2⟩,by show c.stores.length - (j+1)<c.stores.length - j;omega⟩
      ·have h7p:=aD h7;refine eA<|aE<|aG rfl<|oR 1 rfl<|rE 80<|cT ?_;have hz1:=CT (p:=λ e:Ent=>decide (e.no<c.next)) omT hk.2;have hz2:=CT (p:=λ p:Pt=>oU (c.mem.size:Int) p.addr (p.data.size:Int)) omT hj.2;exact fT rfl (cY (by unfold fK;have q0:=h1;have q1:=h2;have q3:=h5;have q4:=h6;simp only[pM,cOr]at q0 q1 q3 q4;rw[bT];simp only[aK,bC,true_iff];grind))
def Pz(h:AH):AV→AV
 | .ptr s c=>match h s with|some (.box cells)=>.dp cells.length c (qB h cells)|_=>.any
 |x=>uJ h x
def IK(h:AH):List AV→List AV
 |[]=>[]
 |x::xs=>Pz h x::IK h xs
def PA(h:AH):AV→Prop
 | .ptr s _=>match h s with|some (.box cells)=>fR (qB h cells)=true∧jH h cells|_=>True
 |x=>jG h x
def Un(h:AH):List AV→Prop
 |[]=>True
 |x::xs=>PA h x∧Un h xs
theorem IL(h:AH):∀ (l:List AV),(IK h l).length=l.length
 |[]=>rfl
 |_::l=>congrArg (· +1) (IL h l)
theorem IM(h:AH):∀ (l:List AV) (i:Nat) (x:AV),(IK h l)[i]?=some x→∃ y,l[i]?=some y∧x=Pz h y
 |[],i,x,hx=>by simp[IK]at hx
 |y::l,0,x,hx=>by simp[IK]at hx;exact⟨y,rfl,hx.symm⟩
 |y::l,i+1,x,hx=>by simp[IK]at hx;exact IM h l i x hx
theorem IP(h:AH):∀ (l:List AV),Un h l→∀ (i:Nat) y,l[i]?=some y→PA h y
 |[],_,i,y,hy=>by simp at hy
 |x::l,hl,0,y,hy=>by simp at hy;subst hy;exact hl.1
 |x::l,hl,i+1,y,hy=>IP h l hl.2 i y (by simpa using hy)
theorem zN(h:AH):∀ (l:List AV),(qB h l).length=l.length
 |[]=>by simp[qB]
 |_::l=>by simp[qB,zN h l]
theorem IQ(h:AH):∀ (l:List AV) (i:Nat) (x:AV),(qB h l)[i]?=some x→∃ y,l[i]?=some y∧x=uJ h y
 |[],i,x,hx=>by simp[qB]at hx
 |y::l,0,x,hx=>by simp[qB]at hx;exact⟨y,rfl,hx.symm⟩
 |y::l,i+1,x,hx=>by simp[qB]at hx;exact IQ h l i x hx
theorem Ed(h:AH):∀ (l:List AV),jH h l→∀ (i:Nat) y,l[i]?=some y→jG h y
 |[],_,i,y,hy=>by simp at hy
 |x::l,hl,0,y,hy=>by simp only[jH]at hl;simp at hy;subst hy;exact hl.1
 |x::l,hl,i+1,y,hy=>by simp only[jH]at hl;exact Ed h l hl.2 i y (by simpa using hy)
section
variable {S:Nat→Prop}{w:World}{β:Bt}{h:AH}{B:Nat}
theorem PB(H:SimH B S w β h){a:AV}{v:Value}(hr:Rep S w β a v)(hl:PA h a):Rep (λ b=>b<w.heap.size) w β (Pz h a) v:=by
 have hS:∀ b,(S b∨(B≤b∧b<w.heap.size))→b<w.heap.size:=λ b hb=>hb.elim (H.lt b) (·.2);by_cases hp:∃ s c,a=.ptr s c
 ·obtain⟨s,c,rfl⟩:=hp
  cases hr with
  |ptr _ _ l hlo=>
  simp only[Pz];simp only[PA]at hl
  cases hs:h s with
  |none=>exact .any _
  | some blk=>
   cases blk with
   |arr rows rs=>exact .any _
   |row cells=>exact .any _
   | box cells=>
    simp only[hs]at hl⊢;obtain⟨l',ds,e',fr',k1,k2,k3,k4,k5,k6⟩:=H.own s _ hs;obtain rfl:l'=l:=by rw[hlo]at k1;exact (Option.some.inj k1).symm
    have hlt:∀ (j:Nat) a,(qB h cells)[j]?=some a→ds[l'.base+j]?=some (ds.getD (l'.base+j) undef)∧(ds.getD (l'.base+j) undef).oneCell'=true∧Rep (λ b=>b<w.heap.size) w noB a (ds.getD (l'.base+j) undef):=by
     intro j a hj;obtain⟨b,hb,rfl⟩:=IQ h cells j a hj;obtain⟨u,q1,q2,q3⟩:=k6 j b hb;have hg:ds.getD (l'.base+j) undef=u:=by rw[aJ,q1];rfl
     rw[hg];exact⟨q1,q2,lM ((AL H q3 (Ed h cells hl.2 j b hb)).mono hS (Evo.refl _ _) (Jk.refl _)) (fQ _ hl.1 j _ hj) _⟩
    refine .dp cells.length c (qB h cells) l'.blk l'.base (λ j=>if j<cells.length then ds.getD (l'.base+j) undef else .bool false) (zN h cells) (fI k2) (λ j a hj=>?_) (λ j=>?_) λ j a hj=>?_
    ·have hjl:j<cells.length:=by rw[←zN h cells];exact (Db.1 hj).1
     rw[if_pos hjl,gM k2];exact (hlt j a hj).1
    ·show (if j<cells.length then ds.getD (l'.base+j) undef else .bool false).oneCell'=true;by_cases hjl:j<cells.length
     ·rw[if_pos hjl];exact (hlt j _ (aA (by rw[zN];exact hjl))).2.1
     ·rw[if_neg hjl];rfl
    ·have hjl:j<cells.length:=by rw[←zN h cells];exact (Db.1 hj).1
     rw[if_pos hjl];exact (hlt j a hj).2.2
 ·have e1:Pz h a=uJ h a:=by cases a<;>first|rfl|exact absurd ⟨_,_,rfl⟩ hp
  have e2:PA h a=jG h a:=by cases a<;>first|rfl|exact absurd ⟨_,_,rfl⟩ hp
  rw[e1];rw[e2]at hl;exact (AL H hr hl).mono hS (Evo.refl _ _) (Jk.refl _)
end
theorem pJ.of_dcall{C:Ctx}{f:FuncId}{args:List AV}{h:AH}{s:Nat}{r:AV}(hD:bY C f (IK h args) r)(hcl:fR (IK h args)=true)(hlk:Un h args)(hfl:AZ r=true):pJ C.P C.G f args h s (λ x h'=>x=r∧h'=h):=by
 obtain⟨hm,hcall⟩:=hD;refine⟨hm,λ B S w β vs H hdom hG hargs=>?_⟩;refine (hcall (λ b=>b<w.heap.size) w vs (λ _ h=>h) (λ g cells hg=>(hG g cells hg).mono H.lt (Evo.refl _ _) (Jk.refl _)) ⟨by rw[IL];exact hargs.1,λ i y u p q=>?_⟩).mono ?_
 ·obtain⟨z,hz,rfl⟩:=IM h args i y p;exact lM (PB H (hargs.2 i z u hz q) (IP h args hlk i z hz)) (fQ _ hcl i _ p) _
 ·rintro e w' ⟨v,he,hB,hr⟩;have hE:Evo S w w':=Evo.of_kept (λ b hb=>hB.block b hb) H.lt;refine⟨v,S,β,r,h,⟨rfl,rfl⟩,he,KJ hr hfl,⟨λ s' blk hs'=>?_,H.inj,λ b hb=>Nat.lt_of_lt_of_le (H.lt b hb) hB.size,aL H.big hB.size⟩,⟨λ _ h=>h,hE,hB.mono H.big,Jk.refl _,λ _ _ hx=>.inl hx,λ b hb=>.inl hb,λ b hb _=>hB.block b hb⟩⟩;obtain⟨l,cs,e',fr,k1,k2,k3,k4,k5,k6⟩:=H.own s' blk hs';exact⟨l,cs,e',fr,k1,(hB.block _ (fI k2)).trans k2,k3,k4,k5,k6.mono (λ _ h=>h) hE (Jk.refl _)⟩
def FrL(ρ:Nat→Nat)(K:AH)(s s2:Nat):List (Nat×Blk)→Prop
 |[]=>True
 |(i,b)::l=>(Nat.blt (ρ i) s2=true∧Nat.blt i s=true∧tC s b=true∧K (ρ i)=some (Ew ρ b))∧FrL ρ K s s2 l
theorem FrL.get{ρ:Nat→Nat}{K:AH}{s s2:Nat}:∀ {l:List (Nat×Blk)},FrL ρ K s s2 l→∀ x blk,heapF l x=some blk→ρ x<s2∧x<s∧tC s blk=true∧K (ρ x)=some (Ew ρ blk)
 |[],_,x,blk,h=>by cases h
 | (i,b)::l,hl,x,blk,h=>by
  simp only[heapF]at h
  cases hq:Nat.beq i x with
  |true=>
   rw[hq]at h;injection h with h;subst h;rw[←aM hq]
   exact⟨aR hl.1.1,aR hl.1.2.1,hl.1.2.2.1,hl.1.2.2.2⟩
  |false=>rw[hq]at h;exact FrL.get hl.2 x blk h
def RI(ρ:Nat→Nat):Nat→Bool
 |0=>true
 |k+1=>(List.range k).all (λ j=> !Nat.beq (ρ j) (ρ k))&&RI ρ k
theorem LE{ρ:Nat→Nat}:∀ {s:Nat},RI ρ s=true→∀ x y,x<s→y<s→ρ x=ρ y→x=y
 |0,_,x,_,hx,_,_=>absurd hx (dX _)
 | k+1,h,x,y,hx,hy,e=>by
  simp only[RI,aK,qI,mT,pR]at h;rcases al_Nat_lt_or_ge x k with h1|h1<;>rcases al_Nat_lt_or_ge y k with h2|h2
  ·exact LE h.2 x y h1 h2 e
  ·have:y=k:=by omega
   subst this;have:=h.1 x h1;rw[e]at this;simp at this
  ·have:x=k:=by omega
   subst this;have:=h.1 y h2;rw[e]at this;simp at this
  ·omega
theorem pJ.frameL{P:Program}{G:Nat→Option (List AV)}{f:FuncId}{args:List AV}{L:List (Nat×Blk)}{s:Nat}{Post:AV→AH→Prop}(H:pJ P G f args (heapF L) s Post)(ρ:Nat→Nat)(K:AH)(s2:Nat)(hfull:CF (heapF L) s=true)(hL:FrL ρ K s s2 L)(hi:RI ρ s=true)(ha:pK s args=true)
  (Post':AV→AH→Prop) (hPost:∀ r h',Post r h'→∃ K',Post' (uK (EJ ρ s s2) r) K'∧∀ y blk,K' y=some blk→(∃ x blk0,h' x=some blk0∧y=EJ ρ s s2 x∧blk=Ew (EJ ρ s s2) blk0)∨(K y=some blk∧∀ x,x<s→ρ x≠y)):pJ P G f (Bz ρ args) K s2 Post':=
 H.frame ρ K s2 hfull (λ x hx=>by
  cases hb:heapF L x with
  |none=>exact absurd hb hx
  |some blk=>exact (hL.get x blk hb).2.1) (λ x blk hx=>let ⟨a,_,c,d⟩:=hL.get x blk hx;⟨a,c,d⟩) (LE hi) ha Post' hPost
mutual
theorem IR{s:Nat}{σ τ:Nat→Nat}(h:∀ x,x<s→σ x=τ x):∀ (a:AV),mW s a=true→uK σ a=uK τ a
 | .ptr x c,hb=>by simp only[uK];rw[h x (by simpa [mW]using hb)]
 | .ptr2 x r c,hb=>by simp only[uK];rw[h x (by simpa [mW]using hb)]
 | .osl x lo n c,hb=>by simp only[uK];rw[h x (by simpa [mW]using hb)]
 | .agg cs,hb=>by simp only[uK];rw[uV h cs (by simpa [mW]using hb)]
 | .tup cs,hb=>by simp only[uK];rw[uV h cs (by simpa [mW]using hb)]
 | .clo f a b,hb=>by
  simp only[mW]at hb;split at hb
  ·rename_i ha;simp only[uK];rw[uV h a ha,uV h b hb]
  ·cases hb
 | .opt g x,hb=>by simp only[uK];rw[IR h x (by simpa [mW]using hb)]
 | .v _,_| .sl _ _ _,_| .dp _ _ _,_| .any,_=>by simp[uK]
theorem uV{s:Nat}{σ τ:Nat→Nat}(h:∀ x,x<s→σ x=τ x):∀ (cs:List AV),pK s cs=true→Bz σ cs=Bz τ cs
 |[],_=>by simp[Bz]
 |c::cs,hb=>by
  simp only[pK]at hb;split at hb
  ·rename_i hc;simp only[Bz];rw[IR h c hc,uV h cs hb]
  ·cases hb
end
theorem wV(ρ:Nat→Nat)(s s2:Nat)(blk:Blk)(hb:tC s blk=true):Ew (EJ ρ s s2) blk=Ew ρ blk:=by
 have hx:∀ x,x<s→EJ ρ s s2 x=ρ x:=λ x hx=>qP ρ omT
 cases blk with
 |box cells=>simp only[Ew];rw[uV hx cells hb]
 |arr rows rs=>rfl
 |row cells=>simp only[Ew];rw[uV hx cells hb]
theorem pJ.frameU{P:Program}{G:Nat→Option (List AV)}{f:FuncId}{args:List AV}{L:List (Nat×Blk)}{s:Nat}{r:AV}(H:pJ P G f args (heapF L) s (λ x h'=>x=r∧h'=heapF L))(ρ:Nat→Nat)(K:AH)(s2:Nat)(hfull:CF (heapF L) s=true)(hL:FrL ρ K s s2 L)(hi:RI ρ s=true)(ha:pK s args=true)(hr:eM r=true):pJ P G f (Bz ρ args) K s2 (λ x h'=>x=r∧h'=K):=by
 refine H.frameL ρ K s2 hfull hL hi ha _ λ r' h' hP=>?_;obtain⟨rfl,rfl⟩:=hP;refine⟨K,⟨xO _ _ hr,rfl⟩,λ y blk hy=>?_⟩;by_cases hx:∃ x,x<s∧ρ x=y
 ·obtain⟨x,hxs,rfl⟩:=hx;obtain⟨blk0,hb0⟩:=CJ.1 (tL hfull x hxs);have hk:=hL.get x blk0 hb0;rw[hk.2.2.2]at hy;injection hy with hy;refine .inl ⟨x,blk0,hb0,(qP ρ omT).symm,?_⟩;rw[←hy];exact (wV ρ s s2 blk0 hk.2.2.1).symm
 ·exact .inr ⟨hy,λ x hxs e=>hx ⟨x,hxs,e⟩⟩
end Go.Proofs.YtlhofpglndhfaaaGreatDoor
