/- Joined texts. -/
import Derived.Test.YtlhofpglndhfaaaGreatDoorS301
import Derived.Test.YtlhofpglndhfaaaGreatDoorS328
import Derived.Test.YtlhofpglndhfaaaGreatDoorS330
import Derived.Test.YtlhofpglndhfaaaGreatDoorS332
set_option linter.unusedVariables false
set_option linter.unusedSimpArgs false
namespace Go.Proofs.YtlhofpglndhfaaaGreatDoor
set_option maxRecDepth 100000
set_option maxHeartbeats 4000000
open Go.RowKit
theorem XB(e:Ent)(he:e.ok):bY C0 98 [.agg (enL e)] (.agg (enL (goE e))):=by
 refine bY.intro c0Ok Tryz.func98 rfl rfl (by kernel_rfl) rfl<|cSR<|rAl 0 rfl rfl<|rAl 1 rfl rfl<|rE 2<|aE<|cSR<|oR 2 rfl<|rV (vB (e.is != 1)) rfl<|rE 5 ?_;refine aU rfl (λ h1=>?_) (λ h1=>?_)
 ·refine cSR<|oR 1 rfl<|rSt rfl<|rE 7<|cT ?_;replace h1:=sP h1;refine eW rfl rcT rfl (oF (e:=(⟨e.no,e.pc,⟨e.i.op,e.i.rd,e.i.rs1,e.i.rs2,e.i.imm⟩,e.guess,e.is,e.left,e.value,e.next,e.addr,e.halt,e.took,e.known,e.filled⟩:Ent)) ?_);simp[w64,goE,h1]<;>(intros;simp_all)
 ·refine aZ<|cSR<|oR 2 rfl<|rV (vI (IntKind.wrap .i64 (e.left - 1))) rfl<|oR 1 rfl<|rSt rfl<|rE 10<|aE<|cSR<|oR 2 rfl<|rV (vB (decide ((IntKind.wrap .i64 (e.left - 1))≤0))) rfl<|rE 13 ?_;refine aU rfl (λ h2=>?_) (λ h2=>?_)
  ·refine cSR<|oR 1 rfl<|rSt rfl<|rE 15<|cSR<|oR 1 rfl<|rSt rfl<|rE 17<|cSR<|oR 2 rfl<|rCi rfl (qG e.i)<|rW (vB ((kindOf e.i.op)==5)) rfl (okB (eqN _ _))<|oR 1 rfl ?_;refine gN rfl<|gS rfl id<|gBS (x:=vB (e.halt==0)) rfl id rfl<|cH rfl rfl rfl (λ h=>h)<|rE 26 ?_;refine aU rfl (λ h3=>?_) (λ h3=>?_)
   ·refine cRg<|oR 1 rfl<|rSt rfl<|rE 28<|cSR<|oR 1 rfl<|rSt rfl<|rE 30<|cT ?_;replace h1:=sP h1;replace h2:=sP h2;replace h3:=sP h3;refine eW rfl rcT rfl (oF (e:=(⟨e.no,e.pc,⟨e.i.op,e.i.rd,e.i.rs1,e.i.rs2,e.i.imm⟩,e.guess,3,0,e.value,e.next,e.addr,e.halt,e.took,true,e.filled⟩:Ent)) ?_);simp[w64,goE,h1,h2,h3]<;>(intros;simp_all)
   ·refine aZ<|cSR<|oR 1 rfl<|rSt rfl<|rE 28<|cT ?_;replace h1:=sP h1;replace h2:=sP h2;replace h3:=sP h3;refine eW rfl rcT rfl (oF (e:=(⟨e.no,e.pc,⟨e.i.op,e.i.rd,e.i.rs1,e.i.rs2,e.i.imm⟩,e.guess,3,0,e.value,e.next,e.addr,e.halt,e.took,e.known,e.filled⟩:Ent)) ?_);simp[w64,goE,h1,h2,h3]<;>(intros;simp_all)
  ·refine aZ<|cSR<|oR 1 rfl<|rSt rfl<|rE 15<|cT ?_;replace h1:=sP h1;replace h2:=sP h2;refine eW rfl rcT rfl (oF (e:=(⟨e.no,e.pc,⟨e.i.op,e.i.rd,e.i.rs1,e.i.rs2,e.i.imm⟩,e.guess,e.is,IntKind.wrap .i64 (e.left - 1),e.value,e.next,e.addr,e.halt,e.took,e.known,e.filled⟩:Ent)) ?_);simp[w64,goE,h1,h2]<;>(intros;simp_all)
theorem Us(e:Ent)(a b:Nat)(he:e.ok)(ha:a≤4294967295)(hb:b≤4294967295):bY C0 168 [.agg (enL e),vU a,vU b] (.agg (enL (qO e a b))):=by
 refine bY.intro c0Ok Tryz.func168 rfl rfl (by kernel_rfl) rfl<|cSR<|rAl 0 rfl rfl<|rAl 1 rfl rfl<|rE 2<|cSR<|oR 2 rfl<|rCi rfl (qG e.i)<|oR 1 rfl<|rE 6<|aE<|cSR<|oR 2 rfl ?_;refine rV (vB (e.is != 0)) rfl<|oR 1 rfl<|gN rfl<|gBS (x:=vB ((kindOf e.i.op)==3)) rfl id (okB (eqN _ _))<|cH rfl rfl rfl (by simp)<|oR 1 rfl<|gN rfl<|gBS (x:=vB ((kindOf e.i.op)==4)) rfl id (okB (eqN _ _))<|cH rfl rfl rfl (by simp)<|rE 17 ?_;refine aU rfl (λ h1=>?_) (λ h1=>?_)
 ·refine cSR<|oR 1 rfl<|rSt rfl<|rE 19<|cT ?_;replace h1:=sP h1;refine eW rfl rcT rfl (oF (e:=(⟨e.no,e.pc,⟨e.i.op,e.i.rd,e.i.rs1,e.i.rs2,e.i.imm⟩,e.guess,e.is,e.left,e.value,e.next,e.addr,e.halt,e.took,e.known,e.filled⟩:Ent)) ?_);simp[w64,qO,tJ,up4,h1]<;>(intros;simp_all)
 ·refine aZ<|cSR<|oR 1 rfl<|rSt rfl<|rE 19<|cSR<|oR 1 rfl<|rSt rfl<|rE 21<|aE<|cSR<|oR 2 rfl<|rCi rfl (GR e.i) ?_;refine rV (vB ((wr e.i) != 0)) rfl<|rE 25 ?_;refine aU rfl (λ h2=>?_) (λ h2=>?_)
  ·refine cRg<|oR 6 rfl<|rCi rfl (VR e.i e.pc a b (BA he.imm) (BA he.pc) (BA ha) (BA hb))<|oR 1 rfl<|rSt rfl<|rE 34<|cSR<|oR 2 rfl ?_;have b1:(e.pc+4) % 4294967296≤4294967295:=aT (bG _ (by decide));refine rV (vU ((e.pc+4) % 4294967296)) rfl<|oR 1 rfl<|rSt rfl<|rE 39<|cSR<|oR 1 rfl<|rSt rfl<|rE 41<|aE<|cSR<|oR 1 rfl<|rE 42<|bI<|aE ?_;refine cRg<|rW (vB ((kindOf e.i.op)==1)) rfl (okB (eqN _ _))<|oR 1 rfl<|rE 44 ?_;refine aU rfl (λ h3=>?_) (λ h3=>?_)
   ·refine cRg<|oR 1 rfl<|rSt rfl<|rE 46<|cSR<|oR 1 rfl<|rSt rfl<|rE 48<|cT ?_;replace h1:=sP h1;replace h2:=sP h2;replace h3:=sP h3;refine eW rfl rcT rfl (oF (e:=(⟨e.no,e.pc,⟨e.i.op,e.i.rd,e.i.rs1,e.i.rs2,e.i.imm⟩,e.guess,1,3,Pa e.i.op e.i.imm e.pc a b,(e.pc+4) % 4294967296,e.addr,e.halt,e.took,e.known,e.filled⟩:Ent)) ?_);simp[w64,qO,tJ,up4,h1,h2,h3]<;>(intros;simp_all)
   ·refine cSR<|rW (vB ((kindOf e.i.op)==2)) rfl (okB (eqN _ _))<|oR 1 rfl<|rE 46 ?_;refine aU rfl (λ h4=>?_) (λ h4=>?_)
    ·refine cSR<|oR 5 rfl<|rCi rfl (VS e.i.op a b (BA ha) (BA hb))<|oR 1 rfl<|rSt rfl<|rE 54<|cRg<|oR 3 rfl<|rSt rfl<|rE 58<|cSR<|oR 1 rfl<|rSt rfl<|rE 60 ?_;refine cT ?_;replace h1:=sP h1;replace h2:=sP h2;replace h3:=sP h3;replace h4:=sP h4;refine eW rfl rcT rfl (oF (e:=(⟨e.no,e.pc,⟨e.i.op,e.i.rd,e.i.rs1,e.i.rs2,e.i.imm⟩,e.guess,1,(AB e.i.op a b:Int),Pa e.i.op e.i.imm e.pc a b,(e.pc+4) % 4294967296,e.addr,e.halt,(AB e.i.op a b:Int),e.known,e.filled⟩:Ent)) ?_);simp[w64,qO,tJ,up4,h1,h2,h3,h4]<;>(intros;simp_all)
    ·refine cSR<|rW (vB ((kindOf e.i.op)==5)) rfl (okB (eqN _ _))<|oR 1 rfl<|rE 48 ?_;refine aU rfl (λ h5=>?_) (λ h5=>?_)
     ·refine cSR<|oR 6 rfl<|rCi rfl (OX e.i e.pc a b (BA he.imm) (BA he.pc) (BA ha) (BA hb))<|oR 5 rfl<|rE 60<|cSR<|oR 1 rfl<|rE 61 ?_;refine aU rfl (λ h6=>?_) (λ h6=>?_)
      ·refine cRg<|oR 2 rfl<|rSt rfl<|rE 64<|cSR<|oR 1 rfl<|rSt rfl<|rE 66<|cT ?_;replace h1:=sP h1;replace h2:=sP h2;replace h3:=sP h3;replace h4:=sP h4;replace h5:=sP h5;replace h6:=sP h6;refine eW rfl rcT rfl (oF (e:=(⟨e.no,e.pc,⟨e.i.op,e.i.rd,e.i.rs1,e.i.rs2,e.i.imm⟩,e.guess,1,1,Pa e.i.op e.i.imm e.pc a b,wD e.i.op e.i.imm e.pc a b,e.addr,e.halt,e.took,e.known,e.filled⟩:Ent)) ?_);simp[w64,qO,tJ,up4,h1,h2,h3,h4,h5,h6]<;>(intros;simp_all)
      ·refine cSR<|oR 1 rfl<|rSt rfl<|rE 63<|cRg<|oR 1 rfl<|rSt rfl<|rE 65<|cSR<|oR 1 rfl<|rSt rfl<|rE 67<|cT ?_;replace h1:=sP h1;replace h2:=sP h2;replace h3:=sP h3;replace h4:=sP h4;replace h5:=sP h5;replace h6:=sP h6;refine eW rfl rcT rfl (oF (e:=(⟨e.no,e.pc,⟨e.i.op,e.i.rd,e.i.rs1,e.i.rs2,e.i.imm⟩,e.guess,1,1,0,(e.pc+4) % 4294967296,e.addr,3,e.took,e.known,e.filled⟩:Ent)) ?_);simp[w64,qO,tJ,up4,h1,h2,h3,h4,h5,h6]<;>(intros;simp_all)
     ·refine aZ<|cSR<|oR 1 rfl<|rSt rfl<|rE 50<|cT ?_;replace h1:=sP h1;replace h2:=sP h2;replace h3:=sP h3;replace h4:=sP h4;replace h5:=sP h5;refine eW rfl rcT rfl (oF (e:=(⟨e.no,e.pc,⟨e.i.op,e.i.rd,e.i.rs1,e.i.rs2,e.i.imm⟩,e.guess,1,1,Pa e.i.op e.i.imm e.pc a b,(e.pc+4) % 4294967296,e.addr,e.halt,e.took,e.known,e.filled⟩:Ent)) ?_);simp[w64,qO,tJ,up4,h1,h2,h3,h4,h5]<;>(intros;simp_all)
  ·refine aZ<|cSR<|oR 2 rfl ?_;have b2:(e.pc+4) % 4294967296≤4294967295:=aT (bG _ (by decide));refine rV (vU ((e.pc+4) % 4294967296)) rfl<|oR 1 rfl<|rSt rfl<|rE 30<|cSR<|oR 1 rfl<|rSt rfl<|rE 32<|aE<|cSR<|oR 1 rfl<|rE 33<|bI<|aE ?_;refine cRg<|rW (vB ((kindOf e.i.op)==1)) rfl (okB (eqN _ _))<|oR 1 rfl<|rE 35 ?_;refine aU rfl (λ h7=>?_) (λ h7=>?_)
   ·refine cRg<|oR 1 rfl<|rSt rfl<|rE 37<|cSR<|oR 1 rfl<|rSt rfl<|rE 39<|cT ?_;replace h1:=sP h1;replace h2:=sP h2;replace h7:=sP h7;refine eW rfl rcT rfl (oF (e:=(⟨e.no,e.pc,⟨e.i.op,e.i.rd,e.i.rs1,e.i.rs2,e.i.imm⟩,e.guess,1,3,0,(e.pc+4) % 4294967296,e.addr,e.halt,e.took,e.known,e.filled⟩:Ent)) ?_);simp[w64,qO,tJ,up4,h1,h2,h7]<;>(intros;simp_all)
   ·refine cSR<|rW (vB ((kindOf e.i.op)==2)) rfl (okB (eqN _ _))<|oR 1 rfl<|rE 37 ?_;refine aU rfl (λ h8=>?_) (λ h8=>?_)
    ·refine cSR<|oR 5 rfl<|rCi rfl (VS e.i.op a b (BA ha) (BA hb))<|oR 1 rfl<|rSt rfl<|rE 45<|cRg<|oR 3 rfl<|rSt rfl<|rE 49<|cSR<|oR 1 rfl<|rSt rfl<|rE 51 ?_;refine cT ?_;replace h1:=sP h1;replace h2:=sP h2;replace h7:=sP h7;replace h8:=sP h8;refine eW rfl rcT rfl (oF (e:=(⟨e.no,e.pc,⟨e.i.op,e.i.rd,e.i.rs1,e.i.rs2,e.i.imm⟩,e.guess,1,(AB e.i.op a b:Int),0,(e.pc+4) % 4294967296,e.addr,e.halt,(AB e.i.op a b:Int),e.known,e.filled⟩:Ent)) ?_);simp[w64,qO,tJ,up4,h1,h2,h7,h8]<;>(intros;simp_all)
    ·refine cSR<|rW (vB ((kindOf e.i.op)==5)) rfl (okB (eqN _ _))<|oR 1 rfl<|rE 39 ?_;refine aU rfl (λ h9=>?_) (λ h9=>?_)
     ·refine cSR<|oR 6 rfl<|rCi rfl (OX e.i e.pc a b (BA he.imm) (BA he.pc) (BA ha) (BA hb))<|oR 5 rfl<|rE 51<|cSR<|oR 1 rfl<|rE 52 ?_;refine aU rfl (λ h10=>?_) (λ h10=>?_)
      ·refine cRg<|oR 2 rfl<|rSt rfl<|rE 55<|cSR<|oR 1 rfl<|rSt rfl<|rE 57<|cT ?_;replace h1:=sP h1;replace h2:=sP h2;replace h7:=sP h7;replace h8:=sP h8;replace h9:=sP h9;replace h10:=sP h10;refine eW rfl rcT rfl (oF (e:=(⟨e.no,e.pc,⟨e.i.op,e.i.rd,e.i.rs1,e.i.rs2,e.i.imm⟩,e.guess,1,1,0,wD e.i.op e.i.imm e.pc a b,e.addr,e.halt,e.took,e.known,e.filled⟩:Ent)) ?_);simp[w64,qO,tJ,up4,h1,h2,h7,h8,h9,h10]<;>(intros;simp_all)
      ·refine cSR<|oR 1 rfl<|rSt rfl<|rE 54<|cRg<|oR 1 rfl<|rSt rfl<|rE 56<|cSR<|oR 1 rfl<|rSt rfl<|rE 58<|cT ?_;replace h1:=sP h1;replace h2:=sP h2;replace h7:=sP h7;replace h8:=sP h8;replace h9:=sP h9;replace h10:=sP h10;refine eW rfl rcT rfl (oF (e:=(⟨e.no,e.pc,⟨e.i.op,e.i.rd,e.i.rs1,e.i.rs2,e.i.imm⟩,e.guess,1,1,0,(e.pc+4) % 4294967296,e.addr,3,e.took,e.known,e.filled⟩:Ent)) ?_);simp[w64,qO,tJ,up4,h1,h2,h7,h8,h9,h10]<;>(intros;simp_all)
     ·refine aZ<|cSR<|oR 1 rfl<|rSt rfl<|rE 41<|cT ?_;replace h1:=sP h1;replace h2:=sP h2;replace h7:=sP h7;replace h8:=sP h8;replace h9:=sP h9;refine eW rfl rcT rfl (oF (e:=(⟨e.no,e.pc,⟨e.i.op,e.i.rd,e.i.rs1,e.i.rs2,e.i.imm⟩,e.guess,1,1,0,(e.pc+4) % 4294967296,e.addr,e.halt,e.took,e.known,e.filled⟩:Ent)) ?_);simp[w64,qO,tJ,up4,h1,h2,h7,h8,h9]<;>(intros;simp_all)
theorem SQ(e:Ent)(size:Int)(a:Nat)(he:e.ok)(hs:size<9223372036854775808)(ha:a≤4294967295):bY C0 166 [.agg (enL e),vI size,vU a] (.agg (enL (vY e size a))):=by
 refine bY.intro c0Ok Tryz.func166 rfl rfl (by kernel_rfl) rfl<|cSR<|rAl 0 rfl rfl<|rAl 1 rfl rfl<|rE 2<|cSR<|oR 2 rfl<|rCi rfl (qG e.i)<|oR 1 rfl<|rE 6<|aE<|cSR<|oR 1 rfl ?_;refine rW (vB ((kindOf e.i.op) != 3)) rfl (okB (neN _ _))<|oR 1 rfl<|gN rfl<|gBS (x:=vB ((kindOf e.i.op) != 4)) rfl id (okB (neN _ _))<|cH rfl rfl rfl (λ h=>h)<|oR 1 rfl<|gN rfl<|gS rfl id<|gBS (x:=vB (e.is != 0)) rfl id rfl<|cH rfl rfl rfl (by simp)<|oR 1 rfl<|gN rfl<|gS rfl id<|cH rfl rfl rfl (by simp)<|rE 21 ?_;refine aU rfl (λ h1=>?_) (λ h1=>?_)
 ·refine cSR<|oR 1 rfl<|rSt rfl<|rE 23<|cT ?_;replace h1:=sP h1;refine eW rfl rcT rfl (oF (e:=(⟨e.no,e.pc,⟨e.i.op,e.i.rd,e.i.rs1,e.i.rs2,e.i.imm⟩,e.guess,e.is,e.left,e.value,e.next,e.addr,e.halt,e.took,e.known,e.filled⟩:Ent)) ?_);simp[w64,vY,h1]<;>(intros;simp_all)
 ·refine aZ<|cSR<|oR 4 rfl ?_;have b1:(a+e.i.imm) % 4294967296≤4294967295:=aT (bG _ (by decide));refine rV (vU ((a+e.i.imm) % 4294967296)) rfl<|oR 1 rfl<|rSt rfl<|rE 28<|aE<|cSR<|oR 5 rfl<|rCi rfl (GQ e.i)<|rCi rfl (OY size ((a+e.i.imm) % 4294967296) (dS e.i.op:Nat) hs (bG _ (by decide)))<|rE 35 ?_;refine aU rfl (λ h2=>?_) (λ h2=>?_)
  ·refine cSR<|oR 1 rfl<|rSt rfl<|rE 37<|cSR<|oR 1 rfl<|rSt rfl<|rE 39<|cT ?_;replace h1:=sP h1;replace h2:=sP h2;refine eW rfl rcT rfl (oF (e:=(⟨e.no,e.pc,⟨e.i.op,e.i.rd,e.i.rs1,e.i.rs2,e.i.imm⟩,e.guess,e.is,e.left,e.value,e.next,(a+e.i.imm) % 4294967296,e.halt,e.took,true,e.filled⟩:Ent)) ?_);simp[w64,vY,h1,h2]<;>(intros;simp_all)
  ·refine aZ<|cSR<|oR 1 rfl<|rSt rfl<|rE 37<|aE<|cSR<|oR 1 rfl<|rW (vB ((kindOf e.i.op)==4)) rfl (okB (eqN _ _))<|rE 39 ?_;refine aU rfl (λ h3=>?_) (λ h3=>?_)
   ·refine cRg<|oR 1 rfl<|rSt rfl<|rE 41<|cSR<|oR 1 rfl<|rSt rfl<|rE 43<|cSR<|oR 1 rfl<|rSt rfl<|rE 45<|cT ?_;replace h1:=sP h1;replace h2:=sP h2;replace h3:=sP h3;refine eW rfl rcT rfl (oF (e:=(⟨e.no,e.pc,⟨e.i.op,e.i.rd,e.i.rs1,e.i.rs2,e.i.imm⟩,e.guess,3,e.left,e.value,e.next,(a+e.i.imm) % 4294967296,5,e.took,e.known,e.filled⟩:Ent)) ?_);simp[w64,vY,h1,h2,h3]<;>(intros;simp_all)
   ·refine aZ<|cSR<|oR 1 rfl<|rSt rfl<|rE 41<|cSR<|oR 1 rfl<|rSt rfl<|rE 43<|cT ?_;replace h1:=sP h1;replace h2:=sP h2;replace h3:=sP h3;refine eW rfl rcT rfl (oF (e:=(⟨e.no,e.pc,⟨e.i.op,e.i.rd,e.i.rs1,e.i.rs2,e.i.imm⟩,e.guess,3,e.left,e.value,e.next,(a+e.i.imm) % 4294967296,4,e.took,e.known,e.filled⟩:Ent)) ?_);simp[w64,vY,h1,h2,h3]<;>(intros;simp_all)
theorem PI(e:Ent)(s:ByteArray)(he:e.ok)(hs:s.size<9223372036854775808):bY C0 93 [.agg (enL e),.v (.string s)] (.agg (enL (tP e s))):=by
 refine bY.intro c0Ok Tryz.func93 rfl rfl (by kernel_rfl) rfl<|cSR<|rAl 0 rfl rfl<|rAl 1 rfl rfl<|rE 2<|aE<|cSR<|oR 2 rfl<|rCi rfl (qG e.i)<|rW (vB ((kindOf e.i.op) != 3)) rfl (okB (neN _ _))<|oR 1 rfl<|gN rfl<|gS rfl id<|gS rfl id ?_;refine cH rfl rfl rfl (by simp)<|oR 1 rfl<|gN rfl<|gS rfl id<|gBS (x:=vB (e.is != 0)) rfl id rfl<|gS rfl id<|gN rfl<|gS rfl id<|gBS (x:=vB (e.is != 2)) rfl id rfl<|vK (x:=vB (cA (e.is != 0) (e.is != 2) false)) (g:= !(cA ((kindOf e.i.op) != 3) true (!e.known))) rfl rfl rfl rfl (λ h=>h) rfl rfl (λ hg hc=>by first|(rw[hg,hc];rfl)|simp_all)<|cH rfl rfl rfl (by simp)<|rE 21 ?_;refine aU rfl (λ h1=>?_) (λ h1=>?_)
 ·refine cSR<|oR 1 rfl<|rSt rfl<|rE 23<|cT ?_;replace h1:=sP h1;refine eW rfl rcT rfl (oF (e:=(⟨e.no,e.pc,⟨e.i.op,e.i.rd,e.i.rs1,e.i.rs2,e.i.imm⟩,e.guess,e.is,e.left,e.value,e.next,e.addr,e.halt,e.took,e.known,e.filled⟩:Ent)) ?_);simp[w64,tP,h1]<;>(intros;simp_all)
 ·refine aZ<|cSR<|oR 1 rfl<|rSt rfl<|rE 23<|cSR<|oR 1 rfl<|rSt rfl<|rE 25<|cSR<|oR 1 rfl<|rSt rfl<|rE 27 ?_;refine aE<|cSR<|oR 2 rfl<|rCi rfl (GR e.i)<|rV (vB ((wr e.i) != 0)) rfl<|rE 31 ?_;refine aU rfl (λ h2=>?_) (λ h2=>?_)
  ·refine cRg<|oR 4 rfl<|rCi rfl (Xh e.i.op s hs)<|oR 1 rfl<|rSt rfl<|rE 38<|cSR<|oR 1 rfl<|rSt rfl<|rE 40<|cT ?_;replace h1:=sP h1;replace h2:=sP h2;refine eW rfl rcT rfl (oF (e:=(⟨e.no,e.pc,⟨e.i.op,e.i.rd,e.i.rs1,e.i.rs2,e.i.imm⟩,e.guess,1,1,loadP e.i.op s,e.next,e.addr,e.halt,e.took,e.known,e.filled⟩:Ent)) ?_);simp[w64,tP,h1,h2]<;>(intros;simp_all)
  ·refine aZ<|cSR<|oR 1 rfl<|rSt rfl<|rE 33<|cT ?_;replace h1:=sP h1;replace h2:=sP h2;refine eW rfl rcT rfl (oF (e:=(⟨e.no,e.pc,⟨e.i.op,e.i.rd,e.i.rs1,e.i.rs2,e.i.imm⟩,e.guess,1,1,0,e.next,e.addr,e.halt,e.took,e.known,e.filled⟩:Ent)) ?_);simp[w64,tP,h1,h2]<;>(intros;simp_all)
theorem Ut(x n:Nat)(hx:x<4294967296)(hn:n≤4):bY C0 158 [.v (.int .u32 (x:Int)),.v (.int .i64 (n:Int))] (.v (.int .u32 ((valB x n:Nat):Int))):=by
 refine bY.intro c0Ok Tryz.func158 rfl rfl (by kernel_rfl) rfl<|cSR<|oR 1 rfl<|rE 1<|cSR<|oR 2 rfl<|rCi rfl (OZ x n hx hn)<|oR 5 rfl<|rE 9<|cSR<|oR 1 rfl<|rCi rfl (Xg (rP x n) (by rw[xW];exact hn))<|oR 5 rfl ?_;refine rE 16<|cSR<|oR 2 rfl<|rE 18<|cT ?_;exact fT rfl rfl
theorem PJ(e:Ent)(b:Nat)(he:e.ok)(hb:b≤4294967295):bY C0 102 [.agg (enL e),vU b] (.agg (enL (tK e b))):=by
 refine bY.intro c0Ok Tryz.func102 rfl rfl (by kernel_rfl) rfl<|cSR<|rAl 0 rfl rfl<|rAl 1 rfl rfl<|rE 2<|aE<|cSR<|oR 2 rfl<|rCi rfl (qG e.i)<|rW (vB ((kindOf e.i.op) != 4)) rfl (okB (neN _ _))<|oR 1 rfl<|gN rfl<|gS rfl id<|gS rfl id ?_;refine cH rfl rfl rfl (by simp)<|oR 1 rfl<|gN rfl<|gS rfl id<|gBS (x:=vB (e.is != 0)) rfl id rfl<|cH rfl rfl rfl (by simp)<|rE 16 ?_;refine aU rfl (λ h1=>?_) (λ h1=>?_)
 ·refine cSR<|oR 1 rfl<|rSt rfl<|rE 18<|cT ?_;replace h1:=sP h1;refine eW rfl rcT rfl (oF (e:=(⟨e.no,e.pc,⟨e.i.op,e.i.rd,e.i.rs1,e.i.rs2,e.i.imm⟩,e.guess,e.is,e.left,e.value,e.next,e.addr,e.halt,e.took,e.known,e.filled⟩:Ent)) ?_);simp[w64,tK,h1]<;>(intros;simp_all)
 ·refine aZ<|cSR<|oR 1 rfl<|rSt rfl<|rE 18<|cSR<|oR 3 rfl<|rCi rfl (GQ e.i)<|rCi rfl (Ut b (dS e.i.op) (BA hb) (sX e.i.op))<|oR 1 rfl<|rSt rfl<|rE 25<|cSR ?_;refine oR 1 rfl<|rSt rfl<|rE 27<|cT ?_;replace h1:=sP h1;refine eW rfl rcT rfl (oF (e:=(⟨e.no,e.pc,⟨e.i.op,e.i.rd,e.i.rs1,e.i.rs2,e.i.imm⟩,e.guess,3,e.left,valB b (dS e.i.op),e.next,e.addr,e.halt,e.took,e.known,e.filled⟩:Ent)) ?_);simp[w64,tK,h1]<;>(intros;simp_all)
theorem PK(e:Ent)(he:e.ok):bY C0 105 [.agg (enL e)] (.agg (spL (aP e))):=by
 refine bY.intro c0Ok Tryz.func105 rfl rfl (by kernel_rfl) rfl<|cSR<|rAl 0 rfl rfl<|rAl 1 rfl rfl<|rE 2<|aE<|cSR<|oR 2 rfl<|rV (vB (e.halt != 0)) rfl<|rE 5 ?_;refine aU rfl (λ h1=>?_) (λ h1=>?_)
 ·refine cSR<|oR 6 rfl<|rV (.agg [vU e.pc,vU e.pc,vI 0,.v (.int .u32 0),.v (.int .u32 0),vI 0,vB false,vI e.halt,vI 0]) rfl<|rAl 12 rfl rfl<|rSt rfl<|rE 14<|aE<|cSR<|oR 2 rfl<|rV (vB (e.halt==4)) rfl<|oR 1 rfl<|gN rfl<|gS rfl id<|gBS (x:=vB (e.halt==5)) rfl id rfl ?_;refine cH rfl rfl rfl (by simp)<|rE 22 ?_;refine aU rfl (λ h2=>?_) (λ h2=>?_)
  ·refine cRg<|oR 3 rfl<|rSt rfl<|rE 26<|cSR<|oR 1 rfl<|rSt rfl<|rE 28<|cT ?_;replace h1:=sP h1;replace h2:=sP h2;refine eW rfl rcT rfl (CA (e:=⟨e.pc,e.pc,0,0,e.addr,0,false,e.halt,0⟩) ?_);simp[aP,up4,h1,h2]<;>(intros;simp_all)
  ·refine aZ<|cSR<|oR 1 rfl<|rSt rfl<|rE 24<|cT ?_;replace h1:=sP h1;replace h2:=sP h2;refine eW rfl rcT rfl (CA (e:=⟨e.pc,e.pc,0,0,0,0,false,e.halt,0⟩) ?_);simp[aP,up4,h1,h2]<;>(intros;simp_all)
 ·refine aZ<|cSR<|oR 4 rfl ?_;have b1:(e.pc+4) % 4294967296≤4294967295:=aT (bG _ (by decide));refine rV (vU ((e.pc+4) % 4294967296)) rfl<|oR 2 rfl<|rCi rfl (GR e.i)<|rV (.agg [vU e.pc,vU ((e.pc+4) % 4294967296),vI (wr e.i),.v (.int .u32 0),.v (.int .u32 0),vI 0,vB false,vI 0,vI 0]) rfl<|rAl 14 rfl rfl<|rSt rfl<|rE 16<|aE<|cSR<|oR 2 rfl<|rV (vB ((wr e.i) != 0)) rfl<|rE 19 ?_;refine aU rfl (λ h3=>?_) (λ h3=>?_)
  ·refine cRg<|oR 3 rfl<|rSt rfl<|rE 23<|aE<|cSR<|oR 2 rfl<|rCi rfl (qG e.i)<|rE 26<|bI<|aE<|bI<|aE<|bI<|aE ?_;refine bI<|aE<|bI<|aE<|aE<|cSR<|rW (vB ((kindOf e.i.op)==4)) rfl (okB (eqN _ _))<|oR 1 rfl<|rE 28 ?_;refine aU rfl (λ h4=>?_) (λ h4=>?_)
   ·refine eA<|cSR<|oR 1 rfl<|rSt rfl<|rE 30<|cRg<|oR 3 rfl<|rSt rfl<|rE 34<|aE<|cSR<|oR 3 rfl<|rSt rfl<|rE 38 ?_;refine cRg<|oR 2 rfl<|rCi rfl (GQ e.i)<|oR 1 rfl<|rSt rfl<|rE 43<|eA<|cSR<|oR 1 rfl<|rSt rfl<|rE 45<|cT ?_;replace h1:=sP h1;replace h3:=sP h3;replace h4:=sP h4;refine eW rfl rcT rfl (CA (e:=⟨e.pc,(e.pc+4) % 4294967296,wr e.i,e.value,e.addr,dS e.i.op,true,0,0⟩) ?_);simp[aP,up4,h1,h3,h4]<;>(intros;simp_all)
   ·refine aZ<|aE<|cSR<|rW (vB ((kindOf e.i.op)==3)) rfl (okB (eqN _ _))<|oR 1 rfl<|rE 30 ?_;refine aU rfl (λ h5=>?_) (λ h5=>?_)
    ·refine eA<|aE<|cSR<|oR 3 rfl<|rSt rfl<|rE 34<|cRg<|oR 2 rfl<|rCi rfl (GQ e.i)<|oR 1 rfl<|rSt rfl<|rE 39<|eA<|cSR ?_;refine oR 1 rfl<|rSt rfl<|rE 41<|cT ?_;replace h1:=sP h1;replace h3:=sP h3;replace h4:=sP h4;replace h5:=sP h5;refine eW rfl rcT rfl (CA (e:=⟨e.pc,(e.pc+4) % 4294967296,wr e.i,e.value,e.addr,dS e.i.op,false,0,0⟩) ?_);simp[aP,up4,h1,h3,h4,h5]<;>(intros;simp_all)
    ·refine aZ<|aE<|cSR<|rW (vB ((kindOf e.i.op)==2)) rfl (okB (eqN _ _))<|oR 1 rfl<|rE 32 ?_;refine aU rfl (λ h6=>?_) (λ h6=>?_)
     ·refine eA<|cSR<|oR 3 rfl<|rSt rfl<|rE 36<|eA<|cSR<|oR 1 rfl<|rSt rfl<|rE 38<|cT ?_;replace h1:=sP h1;replace h3:=sP h3;replace h4:=sP h4;replace h5:=sP h5;replace h6:=sP h6;refine eW rfl rcT rfl (CA (e:=⟨e.pc,(e.pc+4) % 4294967296,wr e.i,e.value,0,0,false,0,e.took⟩) ?_);simp[aP,up4,h1,h3,h4,h5,h6]<;>(intros;simp_all)
     ·refine aZ<|cSR<|rW (vB ((kindOf e.i.op)==5)) rfl (okB (eqN _ _))<|oR 1 rfl<|rE 34 ?_;refine aU rfl (λ h7=>?_) (λ h7=>?_)
      ·refine eA<|cSR<|oR 3 rfl<|rSt rfl<|rE 38<|eA<|cSR<|oR 1 rfl<|rSt rfl<|rE 40<|cT ?_;replace h1:=sP h1;replace h3:=sP h3;replace h4:=sP h4;replace h5:=sP h5;replace h6:=sP h6;replace h7:=sP h7;refine eW rfl rcT rfl (CA (e:=⟨e.pc,e.next,wr e.i,e.value,0,0,false,0,0⟩) ?_);simp[aP,up4,h1,h3,h4,h5,h6,h7]<;>(intros;simp_all)
      ·refine aZ<|eA<|cSR<|oR 1 rfl<|rSt rfl<|rE 36<|cT ?_;replace h1:=sP h1;replace h3:=sP h3;replace h4:=sP h4;replace h5:=sP h5;replace h6:=sP h6;replace h7:=sP h7;refine eW rfl rcT rfl (CA (e:=⟨e.pc,(e.pc+4) % 4294967296,wr e.i,e.value,0,0,false,0,0⟩) ?_);simp[aP,up4,h1,h3,h4,h5,h6,h7]<;>(intros;simp_all)
  ·refine aZ<|aE<|cSR<|oR 2 rfl<|rCi rfl (qG e.i)<|rE 22<|bI<|aE<|bI<|aE<|bI<|aE<|bI<|aE<|bI ?_;refine aE<|aE<|cSR<|rW (vB ((kindOf e.i.op)==4)) rfl (okB (eqN _ _))<|oR 1 rfl<|rE 24 ?_;refine aU rfl (λ h8=>?_) (λ h8=>?_)
   ·refine eA<|cSR<|oR 1 rfl<|rSt rfl<|rE 26<|cRg<|oR 3 rfl<|rSt rfl<|rE 30<|aE<|cSR<|oR 3 rfl<|rSt rfl<|rE 34 ?_;refine cRg<|oR 2 rfl<|rCi rfl (GQ e.i)<|oR 1 rfl<|rSt rfl<|rE 39<|eA<|cSR<|oR 1 rfl<|rSt rfl<|rE 41<|cT ?_;replace h1:=sP h1;replace h3:=sP h3;replace h8:=sP h8;refine eW rfl rcT rfl (CA (e:=⟨e.pc,(e.pc+4) % 4294967296,wr e.i,e.value,e.addr,dS e.i.op,true,0,0⟩) ?_);simp[aP,up4,h1,h3,h8]<;>(intros;simp_all)
   ·refine aZ<|aE<|cSR<|rW (vB ((kindOf e.i.op)==3)) rfl (okB (eqN _ _))<|oR 1 rfl<|rE 26 ?_;refine aU rfl (λ h9=>?_) (λ h9=>?_)
    ·refine eA<|aE<|cSR<|oR 3 rfl<|rSt rfl<|rE 30<|cRg<|oR 2 rfl<|rCi rfl (GQ e.i)<|oR 1 rfl<|rSt rfl<|rE 35<|eA<|cSR ?_;refine oR 1 rfl<|rSt rfl<|rE 37<|cT ?_;replace h1:=sP h1;replace h3:=sP h3;replace h8:=sP h8;replace h9:=sP h9;refine eW rfl rcT rfl (CA (e:=⟨e.pc,(e.pc+4) % 4294967296,wr e.i,0,e.addr,dS e.i.op,false,0,0⟩) ?_);simp[aP,up4,h1,h3,h8,h9]<;>(intros;simp_all)
    ·refine aZ<|aE<|cSR<|rW (vB ((kindOf e.i.op)==2)) rfl (okB (eqN _ _))<|oR 1 rfl<|rE 28 ?_;refine aU rfl (λ h10=>?_) (λ h10=>?_)
     ·refine eA<|cSR<|oR 3 rfl<|rSt rfl<|rE 32<|eA<|cSR<|oR 1 rfl<|rSt rfl<|rE 34<|cT ?_;replace h1:=sP h1;replace h3:=sP h3;replace h8:=sP h8;replace h9:=sP h9;replace h10:=sP h10;refine eW rfl rcT rfl (CA (e:=⟨e.pc,(e.pc+4) % 4294967296,wr e.i,0,0,0,false,0,e.took⟩) ?_);simp[aP,up4,h1,h3,h8,h9,h10]<;>(intros;simp_all)
     ·refine aZ<|cSR<|rW (vB ((kindOf e.i.op)==5)) rfl (okB (eqN _ _))<|oR 1 rfl<|rE 30 ?_;refine aU rfl (λ h11=>?_) (λ h11=>?_)
      ·refine eA<|cSR<|oR 3 rfl<|rSt rfl<|rE 34<|eA<|cSR<|oR 1 rfl<|rSt rfl<|rE 36<|cT ?_;replace h1:=sP h1;replace h3:=sP h3;replace h8:=sP h8;replace h9:=sP h9;replace h10:=sP h10;replace h11:=sP h11;refine eW rfl rcT rfl (CA (e:=⟨e.pc,e.next,wr e.i,0,0,0,false,0,0⟩) ?_);simp[aP,up4,h1,h3,h8,h9,h10,h11]<;>(intros;simp_all)
      ·refine aZ<|eA<|cSR<|oR 1 rfl<|rSt rfl<|rE 32<|cT ?_;replace h1:=sP h1;replace h3:=sP h3;replace h8:=sP h8;replace h9:=sP h9;replace h10:=sP h10;replace h11:=sP h11;refine eW rfl rcT rfl (CA (e:=⟨e.pc,(e.pc+4) % 4294967296,wr e.i,0,0,0,false,0,0⟩) ?_);simp[aP,up4,h1,h3,h8,h9,h10,h11]<;>(intros;simp_all)
theorem XO(n:Nat):(if (0:Int)>(n:Int)then (0:Int)else (n:Int))=(n:Int):=if_neg omT
theorem Wh{n:Nat}(h:n≤1000):IntKind.wrap .i64 ((n:Int) - 1)=(n:Int) - 1:=wrap_i64 omT omT
theorem Uu{k:Nat}(h0:0<k)(h:k≤1000):IntKind.wrap .i64 (((k:Int) - 1) - 1)=((k - 1:Nat):Int) - 1:=by rw[wrap_i64 omT omT];omega
theorem Xk{a b:Nat}(h:b≤a)(ha:a≤4294967295):IntKind.wrap .u32 ((a:Int) - (b:Int))=((a - b:Nat):Int):=by
 rw[show ((a:Int) - (b:Int))=((a - b:Nat):Int) by omega];exact Hr (by omega:a - b≤4294967295) rfl
theorem RK(a n:Nat)(ha:a≤4294967295)(hn:n≤1000):bY C0 233 [vU a,vN n] (.v (.int .u64 ((a+n:Nat):Int))):=by
 refine bY.intro c0Ok Tryz.func233 rfl rfl (by kernel_rfl) rfl<|cSR<|oR 1 rfl<|rE 1<|cSR<|oR 1 rfl<|rW (.v (.int .u64 (a:Int))) rfl (okI (Hr ha rfl))<|oR 1 rfl<|rW (vN n) rfl (okI (XO n))<|rW (.v (.int .u64 (n:Int))) rfl (okI (Hr hn rfl)) ?_;have b1:a+n≤4294968295:=aH ha hn;refine rW (.v (.int .u64 ((a+n:Nat):Int))) rfl (okI (Hr b1 rfl))<|oR 1 rfl<|rE 8<|cT ?_;exact fT rfl rfl
theorem Wi(a n b m:Nat)(ha:a≤4294967295)(hn:n≤1000)(hb:b≤4294967295)(hm:m≤1000):bY C0 221 [vU a,vN n,vU b,vN m] (vB (ED a n b m)):=by
 refine bY.intro c0Ok Tryz.func221 rfl rfl (by kernel_rfl) rfl<|cSR<|oR 1 rfl<|rE 1<|aE<|cSR<|oR 1 rfl<|rW (vB (decide (n≤0))) rfl (okB (leN _ _))<|oR 1 rfl<|gN rfl<|gBS (x:=vB (decide (m≤0))) rfl id (okB (leN _ _))<|cH rfl rfl rfl (by simp)<|rE 7 ?_;refine aU rfl (λ h1=>?_) (λ h1=>?_)
 ·refine cSR<|oR 1 rfl<|rE 8<|cT ?_;exact fT rfl (cY (by have z:=h1;simp only[cOr,pM,ED]at z⊢ <;>grind))
 ·refine aZ<|cSR<|oR 1 rfl<|rW (.v (.int .u64 (a:Int))) rfl (okI (Hr ha rfl))<|oR 2 rfl<|rCi rfl (RK b m hb hm)<|rW (vB (decide (a<(b+m)))) rfl (okB (ltN _ _))<|oR 1 rfl<|gN rfl<|gBS (x:=.v (.int .u64 (b:Int))) rfl id (okI (Hr hb rfl))<|gN rfl<|gN rfl<|jI (args:=[vU a,vN n]) (x:=.v (.int .u64 ((a+n:Nat):Int))) (g:=decide (a<(b+m))) rfl rfl rfl rfl hsT rfl rfl rfl (.inl rfl) rfl (λ hg=>RK a n ha hn)<|gBS (x:=vB (decide (b<(a+n)))) rfl hsT (okB (ltN _ _))<|cH rfl rfl rfl (λ h=>h) ?_;refine oR 1 rfl<|rE 22<|cT ?_;exact fT rfl (cY (by have z:=h1;simp only[cOr,pM,ED]at z⊢ <;>grind))
theorem Uv(a n b m:Nat)(ha:a≤4294967295)(hn:n≤1000)(hb:b≤4294967295)(hm:m≤1000):bY C0 222 [vU a,vN n,vU b,vN m] (vB (DU a n b m)):=by
 refine bY.intro c0Ok Tryz.func222 rfl rfl (by kernel_rfl) rfl<|cSR<|oR 1 rfl<|rE 1<|cSR<|oR 1 rfl<|rW (vB (decide (m>0))) rfl (okB (gtN _ _))<|oR 1 rfl<|gN rfl<|gN rfl<|gBS (x:=vB (decide (a≤b))) rfl hsT (okB (leN _ _))<|cH rfl rfl rfl (λ h=>h)<|oR 1 rfl<|gN rfl ?_;refine gN rfl<|jI (args:=[vU b,vN m]) (x:=.v (.int .u64 ((b+m:Nat):Int))) (g:=cA (decide (m>0)) (decide (a≤b)) false) rfl rfl rfl rfl hsT rfl rfl rfl (.inl rfl) rfl (λ hg=>RK b m hb hm)<|gN rfl<|gN rfl<|jI (args:=[vU a,vN n]) (x:=.v (.int .u64 ((a+n:Nat):Int))) (g:=cA (decide (m>0)) (decide (a≤b)) false) rfl rfl rfl rfl hsT rfl rfl rfl (.inl rfl) rfl (λ hg=>RK a n ha hn)<|gBS (x:=vB (decide ((b+m)≤(a+n)))) rfl hsT (okB (leN _ _))<|cH rfl rfl rfl (λ h=>h)<|oR 1 rfl<|rE 18<|cT ?_;exact fT rfl (cY (by simp only[cOr,pM,DU]<;>grind))
def XP(s:Std):Value:=.agg #[.int .u32 (s.addr:Int),.int .i64 (s.size:Int),.string s.data,.bool s.there]
def Wj(s:Std):Array Value:= #[XP s]
abbrev sdL(s:Std):List AV:=[vU s.addr,vN s.size,.v (.string s.data),vB s.there]
def LK(R:List Ent)(k:Nat):List Std:=(((R.drop k).filter λ e=>isK e 4).map DT).reverse
def RL(R:List Ent)(S:List Pt)(k:Nat):List Std:=LK R 0++((S.drop k).map BQ).reverse
theorem LL(R:List Ent)(S:List Pt):EC R S=LK R 0++(S.map BQ).reverse:=rfl
theorem Eh{α:Type}{l:List α}{k:Nat}{x:α}(h0:0<k)(h:l[k - 1]?=some x):l.drop (k - 1)=x::l.drop k:=by
 obtain⟨hl,rfl⟩:=Db.1 h;rw[eD hl,show k - 1+1=k by omega]
theorem LM{R:List Ent}{k:Nat}{x:Ent}(h0:0<k)(h:R[k - 1]?=some x)(hk:isK x 4=true):LK R (k - 1)=LK R k++[DT x]:=by
 unfold LK;rw[Eh h0 h,List.filter_cons_of_pos (by simpa using hk)];simp
theorem Uw{R:List Ent}{k:Nat}{x:Ent}(h0:0<k)(h:R[k - 1]?=some x)(hk:isK x 4=false):LK R k=LK R (k - 1):=by
 unfold LK;rw[Eh h0 h,List.filter_cons_of_neg (by simpa using hk)]
theorem RM(R:List Ent)(S:List Pt)(k:Nat):LK R k <+: EC R S:=by
 rw[LL];refine List.IsPrefix.trans ?_ (List.prefix_append _ _);refine⟨(((R.take k).filter λ e=>isK e 4).map DT).reverse,?_⟩;unfold LK;rw[←List.reverse_append, ←fX, ←jR,gA,cQ]
theorem MN(R:List Ent):LK R R.length=[]:=by unfold LK;rw[List.drop_length];rfl
theorem Ja{R:List Ent}{S:List Pt}{k:Nat}{x:Pt}(h0:0<k)(h:S[k - 1]?=some x):RL R S (k - 1)=RL R S k++[BQ x]:=by
 unfold RL;rw[Eh h0 h];simp
theorem RN(R:List Ent)(S:List Pt)(k:Nat):RL R S k <+: EC R S:=by
 rw[LL];unfold RL;rw[List.prefix_append_right_inj];refine⟨((S.take k).map BQ).reverse,?_⟩;rw[←List.reverse_append, ←fX,gA]
theorem MO(R:List Ent)(S:List Pt):RL R S S.length=LK R 0:=by unfold RL;rw[List.drop_length];simp
theorem RO(R:List Ent)(S:List Pt):RL R S 0=EC R S:=rfl
theorem RP{R:List Ent}{S:List Pt}(ho:∀ x∈R,x.ok)(hso:∀ x∈S,x.ok)(hss:∀ x∈S,x.data.size≤4){s:Std}(h:s∈EC R S):s.addr≤4294967295∧s.size≤4∧s.data.size=s.size:=by
 unfold EC at h;rcases al_List_mem_append.1 h with h|h
 ·obtain⟨e,he,rfl⟩:=rK.1 (List.mem_reverse.1 h);exact⟨(ho e (List.mem_filter.1 he).1).addr,sX _,xW _ _⟩
 ·obtain⟨p,hp,rfl⟩:=rK.1 (List.mem_reverse.1 h);exact⟨(hso p hp).addr,hss p hp,rfl⟩
theorem Cv{at_ n:Nat}:∀ {l:List Std},(∀ s,s∈l→ED s.addr s.size at_ n=false)→wA at_ n l=(2,mH)
 |[],_=>rfl
 |s::l,h=>by
  simp only[wA];rw[if_pos (h s bO)];exact Cv λ y hy=>h y (bZ _ hy)
theorem Cc{at_ n:Nat}{s:Std}:∀ {pre l:List Std},pre++[s] <+: l→(∀ y,y∈pre→ED y.addr y.size at_ n=false)→ED s.addr s.size at_ n=true→
  wA at_ n l=if DU s.addr s.size at_ n=false∨s.there=false then (0,mH)else (1,s.data.extract (at_ - s.addr) (at_ - s.addr+n))
 |[],[],h,_,_=>by have:=h.length_le;simp at this
 |[],y::l,h,_,hs=>by
  obtain⟨t,ht⟩:=h;obtain⟨rfl, -⟩:=List.cons.inj ht
  simp only[wA];rw[if_neg (by simp[hs])]
 |y::pre,[],h,_,_=>by have:=h.length_le;simp at this
 |y::pre,z::l,h,hN,hs=>by
  obtain⟨t,ht⟩:=h;obtain⟨h3,h4⟩:=List.cons.inj ht;subst h3;simp only[wA];rw[if_pos (hN y bO)];exact Cc ⟨t,h4⟩ (λ y hy=>hN y (bZ _ hy)) hs
theorem PL(R:List Ent)(S:List Pt)(ck ck2:Bool)(hl:R.length≤1000)(ho:∀ x∈R,x.ok)(hst:S.length≤1000)(hso:∀ x∈S,x.ok):RJ C0 232 [.dp 1 0 ([.sl 17 (R.map enL) ck]),.dp 1 0 ([.sl 2 (S.map ptL) ck2])] Wj (EC R S):=by
 refine RJ.intro c0Ok Tryz.func232 rfl rfl (by kernel_rfl) rfl ?_;intro y;refine vF<|vF<|rJ rfl<|cRg<|oR 1 rfl<|rW (vN R.length) rfl (bQ enL R)<|rW (vI (((R.length:Nat):Int) - 1)) rfl (okI (Wh hl))<|oR 1 rfl<|rE 4<|Cb<|PD (κ:=Nat) (λ k=>⟨cI [(0,.v y),(1,.dp 1 0 ([.sl 17 (R.map enL) ck])),(2,.dp 1 0 ([.sl 2 (S.map ptL) ck2])),(4,vI ((k:Int) - 1))],heapF [],4⟩) (λ k=>LK R k) (λ k=>k≤R.length) (λ k=>k) R.length (λ s=>s) (Weak.of_lists (λ s=>s) wT trivial rfl) rfl (MN R) (aC _) ?_;intro k hk;have hkB:k≤1000:=by have:k≤R.length:=hk;omega
 refine vF<|vF<|rJ rfl<|cRg<|oR 1 rfl<|rV (vB (decide (((k:Int) - 1)≥0))) rfl<|rE 6 ?_;refine Ee (v:=decide (((k:Int) - 1)≥0)) rfl (λ h1=>?_) (λ h1=>?_)
 ·have h1p:=of_decide_eq_true h1;have hk0:0<k:=by omega
  refine rJ rfl<|aZ<|vF<|Cb<|vF<|rJ rfl<|cRg<|oR 2 rfl ?_;obtain⟨x,hx⟩:∃ y_,R[k - 1]?=some y_:=⟨_,aA omT⟩;have hxo:=ho x (aB hx);refine Fb (enL x) (x:=.dp 17 0 (enL x)) rfl rfl rfl (⟨by omega,by rw[show ((k:Int) - 1).toNat=k - 1 by omega];exact gJ hx⟩) rfl<|oR 1 rfl<|rAl 10 rfl rfl<|rSt rfl<|rE 12<|vF<|vF<|rJ rfl<|cRg<|oR 2 rfl<|rCi rfl (qG x.i)<|rW (vB ((kindOf x.i.op) != 4)) rfl (okB (neN _ _))<|rE 16 ?_;refine Ee (v:=(kindOf x.i.op) != 4) rfl (λ h2=>?_) (λ h2=>?_)
  ·have h2p:=vA h2;have hkf:isK x 4=false:=by unfold isK;simpa using h2p
   refine rJ rfl<|eA<|rJ rfl<|cRg<|oR 1 rfl<|rW (vI (((k - 1:Nat):Int) - 1)) rfl (okI (Uu hk0 hkB))<|oR 1 rfl<|rE 19 ?_;refine⟨rfl,k - 1,λ s=>s,Weak.of_lists _ wT trivial rfl,rfl,(Uw hk0 hx hkf).symm,(by show k - 1≤R.length;omega),(by show k - 1<k;omega)⟩
  ·have h2p:=vC h2;have hkt:isK x 4=true:=by unfold isK;simpa using h2p
   refine rJ rfl<|aZ<|vF<|rJ rfl<|cRg<|oR 2 rfl<|rCi rfl (GQ x.i)<|oR 1 rfl<|rE 20<|vF<|rJ rfl<|cRg<|oR 3 rfl<|rCi rfl (OZ x.value (dS x.i.op) (BA hxo.value) (sX x.i.op))<|oR 5 rfl<|rE 29 ?_;refine vF<|PE rfl 9 rfl rfl rfl<|oR 7 rfl<|rV (vB (x.is==3)) rfl<|rV (.agg [vU x.addr,vN (dS x.i.op),.v (.string (rP x.value (dS x.i.op))),vB (x.is==3)]) rfl<|rE 38 ?_;refine⟨DT x,_,⟨cI [(0,.v y),(1,.dp 1 0 ([.sl 17 (R.map enL) ck])),(2,.dp 1 0 ([.sl 2 (S.map ptL) ck2])),(4,vI ((k:Int) - 1)),(36,.v y),(44,.agg [vU x.addr,vN (dS x.i.op),.v (.string (rP x.value (dS x.i.op))),vB (x.is==3)])],heapF [],0⟩,λ s=>s,Weak.of_lists _ wT trivial rfl,rfl,rfl,rfl,rfl,rfl,rfl,(by rw[←LM hk0 hx hkt];exact RM R S _),λ yb1=>?_⟩;refine oR 1 rfl<|rE 40 ?_;refine Ee (v:= !yb1) rfl (λ h3=>?_) (λ h3=>?_)
   ·refine rJ rfl<|cT ?_;intro hs;rw[h3]at hs;cases hs
   ·refine rJ rfl<|aZ<|rJ rfl<|cRg<|oR 1 rfl<|rW (vI (((k - 1:Nat):Int) - 1)) rfl (okI (Uu hk0 hkB))<|oR 1 rfl<|rE 43 ?_;refine⟨h3,k - 1,λ s=>s,Weak.of_lists _ wT trivial rfl,rfl,(LM hk0 hx hkt),(by show k - 1≤R.length;omega),(by show k - 1<k;omega)⟩
 ·have h1p:=aD h1;refine rJ rfl<|eA<|vF<|rJ rfl<|cRg<|oR 1 rfl<|rW (vN S.length) rfl (bQ ptL S)<|rW (vI (((S.length:Nat):Int) - 1)) rfl (okI (Wh hst))<|oR 1 rfl<|rE 10<|Cb ?_;obtain hk_:k=0:=by omega
  subst hk_;refine PD (κ:=Nat) (λ j=>⟨cI [(0,.v y),(1,.dp 1 0 ([.sl 17 (R.map enL) ck])),(2,.dp 1 0 ([.sl 2 (S.map ptL) ck2])),(9,vI ((j:Int) - 1))],heapF [],10⟩) (λ j=>RL R S j) (λ j=>j≤S.length) (λ j=>j) S.length (λ s=>s) (Weak.of_lists (λ s=>s) wT trivial rfl) rfl (MO R S) (aC _) ?_;intro j hj;have hjB:j≤1000:=by have:j≤S.length:=hj;omega
  refine vF<|vF<|rJ rfl<|cRg<|oR 1 rfl<|rV (vB (decide (((j:Int) - 1)≥0))) rfl<|rE 12 ?_;refine Ee (v:=decide (((j:Int) - 1)≥0)) rfl (λ h4=>?_) (λ h4=>?_)
  ·have h4p:=of_decide_eq_true h4;have hj0:0<j:=by omega
   refine rJ rfl<|aZ<|vF<|Cb<|vF<|rJ rfl<|cRg<|oR 2 rfl ?_;obtain⟨p,hp⟩:∃ y_,S[j - 1]?=some y_:=⟨_,aA omT⟩;have hpo:=hso p (aB hp);refine Fb (ptL p) (x:=.dp 2 0 (ptL p)) rfl rfl rfl (⟨by omega,by rw[show ((j:Int) - 1).toNat=j - 1 by omega];exact gJ hp⟩) rfl<|oR 1 rfl<|rAl 16 rfl rfl<|rSt rfl<|rE 18<|vF<|PE rfl 9 rfl rfl rfl<|oR 5 rfl<|rV (vN p.data.size) rfl<|oR 2 rfl<|rV (.agg [vU p.addr,vN p.data.size,.v (.string p.data),vB true]) rfl<|rE 27 ?_;refine⟨BQ p,_,⟨cI [(0,.v y),(1,.dp 1 0 ([.sl 17 (R.map enL) ck])),(2,.dp 1 0 ([.sl 2 (S.map ptL) ck2])),(9,vI ((j:Int) - 1)),(58,.v y),(66,.agg [vU p.addr,vN p.data.size,.v (.string p.data),vB true])],heapF [],0⟩,λ s=>s,Weak.of_lists _ wT trivial rfl,rfl,rfl,rfl,rfl,rfl,rfl,(by rw[←Ja hj0 hp];exact RN R S _),λ yb2=>?_⟩;refine oR 1 rfl<|rE 29 ?_;refine Ee (v:= !yb2) rfl (λ h5=>?_) (λ h5=>?_)
   ·refine rJ rfl<|cT ?_;intro hs;rw[h5]at hs;cases hs
   ·refine rJ rfl<|aZ<|rJ rfl<|cRg<|oR 1 rfl<|rW (vI (((j - 1:Nat):Int) - 1)) rfl (okI (Uu hj0 hjB))<|oR 1 rfl<|rE 32 ?_;refine⟨h5,j - 1,λ s=>s,Weak.of_lists _ wT trivial rfl,rfl,(Ja hj0 hp),(by show j - 1≤S.length;omega),(by show j - 1<j;omega)⟩
  ·have h4p:=aD h4;refine rJ rfl<|eA ?_;intro _;obtain hj_:j=0:=by omega
   subst hj_;exact RO R S
theorem PM(R:List Ent)(S:List Pt)(ck ck2:Bool)(hl:R.length≤1000)(ho:∀ x∈R,x.ok)(hst:S.length≤1000)(hso:∀ x∈S,x.ok):bY C0 220 [.sl 17 (R.map enL) ck,.sl 2 (S.map ptL) ck2] (.clo 232 [] [.dp 1 0 [.sl 17 (R.map enL) ck],.dp 1 0 [.sl 2 (S.map ptL) ck2]]):=by
 refine bY.intro c0Ok Tryz.func220 rfl rfl (by kernel_rfl) rfl<|cSR<|rAl 0 rfl rfl<|rAl 1 rfl rfl<|oR 1 rfl<|rE 3<|cSR<|rV (.clo 232 [] [.ptr 0 0,.ptr 1 0]) rfl<|oR 1 rfl<|rE 5<|cT ?_;exact eW rfl tvT rfl rfl
theorem RQ{l:List Ent}{k:Nat}{x:Ent}(h:∀ y,y∈l.take k→zJ y=false)(hx:l[k]?=some x)(hv:zJ x=false):∀ y,y∈l.take (k+1)→zJ y=false:=by
 intro y hy;rw[bX,hx]at hy;rcases al_List_mem_append.1 hy with hy|hy
 ·exact h y hy
 ·have:y=x:=by simpa using hy
  rw[this];exact hv
theorem RR{rob:List Ent}{stores:List Pt}{i:Nat}{e:Ent}(he:rob[i]?=some e)(hk: ¬ kindOf e.i.op=3):kO rob stores i=(0,mH):=by
 unfold kO;rw[he];exact if_pos hk
theorem PN{rob:List Ent}{stores:List Pt}{i k:Nat}{e x:Ent}(he:rob[i]?=some e)(hk:kindOf e.i.op=3)(hx:(rob.take i)[k]?=some x)(hv:zJ x=true):kO rob stores i=(0,mH):=by
 unfold kO;rw[he];exact (if_neg (λ h=>h hk)).trans (if_pos (KB.2 ⟨x,aB hx,hv⟩))
theorem PO{rob:List Ent}{stores:List Pt}{i k:Nat}{e:Ent}(he:rob[i]?=some e)(hk:kindOf e.i.op=3)(hN:∀ y,y∈(rob.take i).take k→zJ y=false)(hle:(rob.take i).length≤k):kO rob stores i=wA e.addr (dS e.i.op) (EC (rob.take i) stores):=by
 unfold kO;rw[he];refine (if_neg (λ h=>h hk)).trans (if_neg λ h=>?_);obtain⟨x,hx,hv⟩:=KB.1 h;rw[aN hle]at hN;rw[hN x hx]at hv;cases hv
theorem Ux(rob:List Ent)(stores:List Pt)(ck ck2:Bool)(i:Nat)(hl:rob.length≤1000)(ho:∀ x∈rob,x.ok)(hst:stores.length≤1000)(hso:∀ x∈stores,x.ok)(hss:∀ x∈stores,x.data.size≤4)(hi:i<rob.length):bY C0 207 [.sl 17 (rob.map enL) ck,.sl 2 (stores.map ptL) ck2,vN i] (.tup [vI (kO rob stores i).1,.v (.string (kO rob stores i).2)]):=by
 refine dc1 (bY.introR (C:=C1) (λ d=>c1Ok.wd d) (λ n=>c1Ok.at) Tryz.func207 rfl rfl (by kernel_rfl) rfl ?_);have hiB:i≤1000:=by omega
 have htl:(rob.take i).length≤1000:=by rw[aQ];omega
 have hto:∀ x∈rob.take i,x.ok:=λ x hx=>ho x (cO hx);refine yN<|xZ rfl<|cRg<|rAl 0 rfl rfl<|rAl 1 rfl rfl<|rE 2<|Uo<|yN<|yN<|xZ rfl<|cRg<|oR 1 rfl<|rW (vB (decide (i<0))) rfl (okB (ltN _ _))<|oR 1 rfl<|gN rfl<|gN rfl ?_;refine gBS (x:=vN rob.length) rfl id (bQ enL rob)<|gBS (x:=vB (decide (i≥rob.length))) rfl hsT (okB (geN _ _))<|cH rfl rfl rfl (by simp)<|oR 1 rfl<|gN rfl<|gN rfl ?_;obtain⟨e,he⟩:∃ y_,rob[i]?=some y_:=⟨_,aA omT⟩;have heo:=ho e (aB he);refine JF (enL e) (x:=.dp 17 0 (enL e)) (g:= !(cA (decide (i<0)) true (decide (i≥rob.length)))) rfl rfl rfl rfl hsT rfl rfl (λ hg=>⟨aI _,gJ he⟩) rfl<|gS rfl id<|gS rfl id<|jI (args:=[.agg [vI e.i.op,vI e.i.rd,vI e.i.rs1,vI e.i.rs2,vU e.i.imm]]) (x:=vN (kindOf e.i.op)) (g:= !(cA (decide (i<0)) true (decide (i≥rob.length)))) rfl rfl rfl rfl (λ h=>h) rfl rfl rfl (.inl rfl) rfl (λ hg=>qG e.i)<|gBS (x:=vB ((kindOf e.i.op) != 3)) rfl id (okB (neN _ _))<|cH rfl rfl rfl (by simp)<|rE 19 ?_;refine SO (v:=cA (cA (decide (i<0)) true (decide (i≥rob.length))) true ((kindOf e.i.op) != 3)) rfl (λ h1=>?_) (λ h1=>?_)
 ·have hk3: ¬ kindOf e.i.op=3:=by have z:=h1;simp only[cOr]at z;grind
  refine yN<|xZ rfl<|cRg<|rSt rfl<|rSt rfl<|rE 21<|xZ rfl<|cT ?_;have e1:=RR (stores:=stores) he hk3;rw[e1];exact fT rfl rfl
 ·have hk3:kindOf e.i.op=3:=by have z:=h1;simp only[cOr]at z;grind
  refine xZ rfl<|aZ<|yN<|yN<|xZ rfl<|cRg<|oR 2 rfl ?_;refine nW (.sl 17 ((rob.take i).map enL) (ck&&false)) rfl (vX (tT enL rob i)) slT ?_;refine rW (vN i) rfl (sJ enL (rob.take i) omT)<|oR 1 rfl<|rE 24<|Km<|Wc<|kZ (κ:=Nat) (λ k=>⟨cI [(0,.sl 17 (rob.map enL) ck),(1,.sl 2 (stores.map ptL) ck2),(2,vN i),(6,.ptr 0 0),(7,.ptr 1 0),(30,vB (cA (cA (decide (i<0)) true (decide (i≥rob.length))) true ((kindOf e.i.op) != 3))),(33,.sl 17 ((rob.take i).map enL) (ck&&false)),(34,vN i),(35,vN k)],heapF [(0,.box [vI 0]),(1,.box [.v (.string (⟨#[]⟩:ByteArray))])],24⟩) (λ k=>k≤i∧∀ y,y∈(rob.take i).take k→zJ y=false) (λ k=>i - k) 0 (λ s=>s) (Weak.of_lists (λ s=>s) wT wH rfl) (⟨aF _,(λ y hy=>by cases hy)⟩) ?_;intro k hk;have hkn:k≤i:=hk.1;have hkB:k≤1000000:=by omega
  refine cSR<|rW (vB (decide (k<i))) rfl (okB (ltN _ _))<|rE 25<|aE ?_;refine aU rfl (λ h2=>?_) (λ h2=>?_)
  ·have h2p:=of_decide_eq_true h2;refine aZ<|aE<|bI<|cSR ?_;obtain⟨x,hx⟩:∃ y_,(rob.take i)[k]?=some y_:=⟨_,aA omT⟩;have hxo:=(sW ho) x (aB hx);refine rIx (enL x) (.dp 17 0 (enL x)) rfl rfl (gJ hx) rfl<|oR 1 rfl<|rAl 27 rfl rfl<|rSt rfl<|rE 29<|cSR<|oR 2 rfl<|rCi rfl (qG x.i)<|rW (vB ((kindOf x.i.op)==4)) rfl (okB (eqN _ _))<|oR 1 rfl<|gN rfl<|gS rfl id<|gS rfl id<|gS rfl id<|gN rfl ?_;refine gS rfl id<|gBS (x:=vB (x.halt != 0)) rfl id rfl<|vK (x:=vB (cA (!x.known) true (x.halt != 0))) (g:=(kindOf x.i.op)==4) rfl rfl rfl rfl (λ h=>h) rfl rfl (λ hg hc=>by first|(rw[hg,hc];rfl)|simp_all)<|cH rfl rfl rfl (λ h=>h)<|rE 43 ?_;refine aU rfl (λ h3=>?_) (λ h3=>?_)
   ·have hv:zJ x=true:=by have z:=h3;unfold zJ isK;simp only[cOr,pM]at z⊢;grind
    refine cSR<|rSt rfl<|rSt rfl<|rE 45<|cT ?_;have e1:=PN (stores:=stores) he hk3 hx hv;rw[e1];exact fT rfl rfl
   ·have hv:zJ x=false:=by have z:=h3;unfold zJ isK;simp only[cOr,pM]at z⊢;grind
    refine aZ<|cRg ?_;have b1:k+1≤1000001:=aH hkB (aC 1);refine rW (vN (k+1)) rfl (okI (bS b1 rfl))<|oR 1 rfl<|rE 45 ?_;refine⟨k+1,λ s=>s,Weak.of_lists _ wT wH rfl,⟨by omega,RQ hk.2 hx hv⟩,by show i - (k+1)<i - k;omega⟩
  ·have h2p:=aD h2;have hN0:=hk.2;have hk0:(rob.take i).length≤k:=by rw[aQ];omega
   refine eA<|yN<|xZ rfl<|cRg<|oR 2 rfl<|rIx (enL e) (.dp 17 0 (enL e)) rfl rfl (gJ he) rfl<|oR 4 rfl<|rIx (enL e) (.dp 17 0 (enL e)) rfl rfl (gJ he) rfl<|oR 2 rfl<|rCi rfl (GQ e.i)<|rAl 36 rfl rfl<|rAl 37 rfl rfl<|rSt rfl<|rSt rfl<|rE 40<|yN ?_;refine xZ rfl<|Wd<|yN<|yN<|xZ rfl<|cRg<|oR 2 rfl ?_;refine nW (.sl 17 ((rob.take i).map enL) (ck&&false)) rfl (vX (tT enL rob i)) slT ?_;refine oR 1 rfl<|rCi rfl (PM (rob.take i) stores (ck&&false) ck2 htl hto hst hso)<|rE 45<|Km ?_;refine PC (.mk _ (.refl _) ⟨⟨cI [(6,.ptr 0 0),(7,.ptr 1 0),(10,.ptr 2 0),(11,.ptr 3 0),(69,.clo 232 [] [.dp 1 0 ([.sl 17 ((rob.take i).map enL) (ck&&false)]),.dp 1 0 ([.sl 2 (stores.map ptL) ck2])])],heapF [(0,.box [vI 0]),(1,.box [.v (.string (⟨#[]⟩:ByteArray))]),(2,.box [vU e.addr]),(3,.box [vN (dS e.i.op)])],4⟩,λ s=>match s with|2=>36|3=>37|s=>s,Weak.of_lists _ wT wH rfl,rfl,?_⟩);refine .mk Std 232 [.dp 1 0 ([.sl 17 ((rob.take i).map enL) (ck&&false)]),.dp 1 0 ([.sl 2 (stores.map ptL) ck2])] (λ s:Std=>[.agg (sdL s)]) Wj (EC (rob.take i) stores) (λ s:Std=>ED s.addr s.size e.addr (dS e.i.op)=false) rfl rfl ⟨_,Tryz.func232,rfl,rfl⟩ (PL (rob.take i) stores (ck&&false) ck2 htl hto hst hso) (λ x S w β=>CL (show Hq [.agg (sdL x)]=some _ from rfl)) (λ _=>rfl) rfl ?_ ?_
   ·intro pre_ s hp_ hN_;have hsk:=RP hto hso hss (hp_.subset (List.mem_append_right _ (tM.2 rfl)));have hsz:s.size≤1000:=by omega
    have hne:dS e.i.op≤1000:=aL (sX e.i.op) (by decide);refine cRg<|rAl 4 rfl rfl<|rSt rfl<|rE 6 ?_;refine⟨rfl,?_⟩;refine bI<|aE<|cSR<|oR 6 rfl<|rCi rfl (Wi s.addr s.size e.addr (dS e.i.op) hsk.1 hsz heo.addr hne)<|oR 1 rfl<|rE 14 ?_;refine aU rfl (λ h4=>?_) (λ h4=>?_)
    ·have hlp:ED s.addr s.size e.addr (dS e.i.op)=false:=by simpa using h4
     refine eA ?_;exact⟨hlp,.mk _ (.refl _) ⟨λ s=>s,rfl,Weak.of_lists (l:=[]) (hp:=[(0,.box [vI 0]),(1,.box [.v (.string (⟨#[]⟩:ByteArray))]),(2,.box [vU e.addr]),(3,.box [vN (dS e.i.op)])]) (λ s=>s) trivial wH rfl⟩⟩
    ·have hlp:ED s.addr s.size e.addr (dS e.i.op)=true:=by simpa using h4
     refine aZ<|aE<|cSR<|oR 6 rfl<|rCi rfl (Uv s.addr s.size e.addr (dS e.i.op) hsk.1 hsz heo.addr hne)<|oR 2 rfl<|gN rfl<|gS rfl id<|gS rfl id<|cH rfl rfl rfl (by simp)<|rE 27 ?_;refine aU rfl (λ h5=>?_) (λ h5=>?_)
     ·have hhd:DU s.addr s.size e.addr (dS e.i.op)=false∨s.there=false:=by have z:=h5;simp only[cOr]at z;grind
      refine cSR<|rSt rfl<|rSt rfl<|rE 29<|cT ?_;refine .mk _ (.refl _) ⟨heapF [(0,.box [vI 0]),(1,.box [.v (.string (⟨#[]⟩:ByteArray))]),(2,.box [vU e.addr]),(3,.box [vN (dS e.i.op)])],λ s=>s,rfl,Weak.of_lists (l:=[]) (hp:=[(0,.box [vI 0]),(1,.box [.v (.string (⟨#[]⟩:ByteArray))]),(2,.box [vU e.addr]),(3,.box [vN (dS e.i.op)])]) (λ s=>s) trivial wH rfl,?_⟩;intro D;have e1:=(PO (stores:=stores) he hk3 hN0 hk0).trans ((Cc hp_ hN_ hlp).trans (if_pos hhd));rw[e1];exact fT rfl rfl
     ·have hhd: ¬ (DU s.addr s.size e.addr (dS e.i.op)=false∨s.there=false):=by have z:=h5;simp only[cOr]at z;grind
      have hlh:s.addr≤e.addr∧e.addr+dS e.i.op≤s.addr+s.size:=by have z:=hhd;simp only[not_or,Bool.not_eq_false]at z;have y:=z.1;unfold DU at y;simp only[aK,bC]at y;omega
      refine aZ<|cSR<|oR 3 rfl<|rW (vU (e.addr - s.addr)) rfl (okI (Xk hlh.1 heo.addr))<|rW (vN (e.addr - s.addr)) rfl (okI (bS (aL (iO _ _) heo.addr) rfl))<|oR 1 rfl<|rE 33<|aE<|Ba rfl rfl<|oR 5 rfl ?_;have b2:(e.addr - s.addr)+(dS e.i.op)≤4294967299:=aH (aL (iO _ _) heo.addr) (sX e.i.op);refine rW (vN ((e.addr - s.addr)+(dS e.i.op))) rfl (okI (bS b2 rfl)) ?_;refine nW (.v (.string (s.data.extract (e.addr - s.addr) ((e.addr - s.addr)+(dS e.i.op))))) rfl rfl (by refine⟨?_,?_,?_⟩<;>(first|exact aI _|decide|(apply Eo.2;exact omT))) ?_;refine rSt rfl<|rSt rfl<|rE 42<|And.intro (by kernel_rfl)<|cT ?_;refine .mk _ (.refl _) ⟨heapF [(0,.box [vI 1]),(1,.box [.v (.string (s.data.extract (e.addr - s.addr) ((e.addr - s.addr)+(dS e.i.op))))]),(2,.box [vU e.addr]),(3,.box [vN (dS e.i.op)])],λ s=>s,rfl,Weak.of_lists (l:=[]) (hp:=[(0,.box [vI 1]),(1,.box [.v (.string (s.data.extract (e.addr - s.addr) ((e.addr - s.addr)+(dS e.i.op))))]),(2,.box [vU e.addr]),(3,.box [vN (dS e.i.op)])]) (λ s=>s) trivial wH rfl,?_⟩;intro D;have e1:=(PO (stores:=stores) he hk3 hN0 hk0).trans ((Cc hp_ hN_ hlp).trans (if_neg hhd));rw[e1];exact fT rfl rfl
   ·intro hN D;refine yN<|xZ rfl<|cRg<|rSt rfl<|rSt rfl<|rE 6<|xZ rfl<|cT ?_;have e1:=(PO (stores:=stores) he hk3 hN0 hk0).trans (Cv hN);rw[e1];exact fT rfl rfl
section
variable {α:Type}{f:α→List AV}{A l B:List α}{lo:Nat}
theorem jC{x:α}{i:Nat}(hlo:A.length=lo)(hx:l[i]?=some x):(A++l++B)[lo+i]?=some x:=by
 have hi:=(Db.1 hx).1;rw[fC,bW omT, ←hlo,Nat.add_sub_cancel_left,cL hi,hx]
theorem sU{n:Nat}(hlo:A.length=lo)(hn:l.length=n):List.take n (List.drop lo ((A++l++B).map f))=l.map f:=by
 subst hlo;subst hn;rw[←lQ, ←fO];congr 1;rw[fC,List.drop_left,List.take_left]
theorem TC{x:α}{i:Nat}(hlo:A.length=lo)(hi:i<l.length):(A++l++B).set (lo+i) x=A++l.set i x++B:=by
 subst hlo;rw[fC,jT _ _ omT,Nat.add_sub_cancel_left,List.set_append_left _ _ hi,fC]
theorem tO{x:α}{i:Nat}{h:AH}{b rs:Nat}(hlo:A.length=lo)(hi:i<l.length):some (upd h b (some (.arr (((A++l++B).map f).set (lo+i) (f x)) rs)))=some (upd h b (some (.arr ((A++l.set i x++B).map f) rs))):=by
 rw[←List.map_set,TC hlo hi]
end
theorem QZ(op:Int)(s:ByteArray):loadP op s≤4294967295:=by
 unfold loadP;split
 ·rename_i h;have h4:s.size≤4:=by have:=sX op;omega
  have:=Ea s h4;split
  ·exact aT (JH _ _ omT)
  ·split
   ·exact aT (JH _ _ omT)
   ·omega
 ·exact aF _
theorem Oq{e:Ent}(he:e.ok){a b:Nat}(ha:a≤4294967295)(hb:b≤4294967295):(qO e a b).ok:=by
 have hv:tJ e a b≤4294967295:=by
  unfold tJ;split
  ·exact aF _
  ·exact aT (Ud _ _ _ _ _ (BA he.imm) (BA ha) (BA hb))
 have hu:up4 e.pc≤4294967295:=by unfold up4;omega
 have hx:wD e.i.op e.i.imm e.pc a b≤4294967295:=aT (Lv _ _ _ _ _);unfold qO
 repeat' split
 all_goals first|exact he|exact⟨he.pc,he.imm,he.guess,hv,hu,he.addr⟩|exact⟨he.pc,he.imm,he.guess,hv,hx,he.addr⟩|exact⟨he.pc,he.imm,he.guess,aF _,hu,he.addr⟩
theorem Ot{e:Ent}(he:e.ok):(goE e).ok:=by
 unfold goE;repeat' split
 all_goals first|exact he|exact⟨he.pc,he.imm,he.guess,he.value,he.next,he.addr⟩
theorem Gx{e:Ent}(he:e.ok)(size:Int)(a:Nat):(vY e size a).ok:=by
 have hx:(a+e.i.imm) % 4294967296≤4294967295:=by omega
 unfold vY;repeat' split
 all_goals first|exact he|exact⟨he.pc,he.imm,he.guess,he.value,he.next,hx⟩
theorem Gy{e:Ent}(he:e.ok)(s:ByteArray):(tP e s).ok:=by
 have hl:loadP e.i.op s≤4294967295:=QZ e.i.op s;unfold tP;split
 ·exact he
 ·refine⟨he.pc,he.imm,he.guess,?_,he.next,he.addr⟩;show (if wr e.i=0 then 0 else loadP e.i.op s)≤_;split<;>omega
theorem Ip(rob:List Ent)(stores:List Pt)(i:Nat):(kO rob stores i).2.size≤100:=by
 have hs:∀ (l:List Std) (a n:Nat),n≤4→(wA a n l).2.size≤100:=by
  intro l a n hn
  induction l with
  |nil=>exact aF _
  | cons s l ih=>
   unfold wA;split
   ·exact ih
   ·split
    ·exact aF _
    ·show (s.data.extract _ _).size≤100;rw[dU];omega
 unfold kO;split
 ·exact aF _
 ·split
  ·exact aF _
  ·split
   ·exact aF _
   ·exact hs _ _ _ (sX _)
theorem Fm{c:Co}(h:c.mem.size≤256)(e:Ent):(nV c e).size≤1000:=by
 unfold nV Ub;split
 ·rw[dU];have:=KZ c.stores c.data c.bus c.mem;unfold TV;omega
 ·exact aF _
theorem Iq(q:List Req)(line:Nat)(k:Int):Ks q line [k]=CW q line k:=by unfold Ks CW;congr 1;funext x;simp
theorem WU(c:Co)(nb:Nat)(hm:c.okM nb)(i:Nat)(hi:i<c.rob.length)(A B:List Ent)(lo n:Nat)(kR kF kS kT:Bool)(xF xT:List (List AV))(hlo:A.length=lo)(hn:c.rob.length=n)(hA:A.length+n+B.length≤1000):pJ C0.P C0.G 167 [.ptr 0 0,vN i] (heapF [(0,.box (mcX c (.osl 1 lo n kR) (.sl 2 xF kF) (.sl 2 (c.stores.map ptL) kS) (.sl 9 xT kT))),(1,.arr ((A++(c).rob++B).map enL) 17)]) 2 (λ x h'=>x=.tup []∧h'=heapF [(0,.box (mcX (lZ c i) (.osl 1 lo n kR) (.sl 2 xF kF) (.sl 2 (c.stores.map ptL) kS) (.sl 9 xT kT))),(1,.arr ((A++((lZ c i)).rob++B).map enL) 17)]):=by
 refine HCall.intro (C:=C1) (s:=2) c1Ok.at Tryz.func167 rfl rfl (by kernel_rfl) rfl rfl<|cSR<|oR 6 rfl<|nW (.ptr2 1 (lo+i) 0) rfl rfl ixT ?_;obtain⟨x,hx⟩:∃ y_,c.rob[i]?=some y_:=⟨_,aA omT⟩;have hxo:=hm.ok.robo x (aB hx);refine rIx (enL x) (.agg (enL x)) rfl rfl (gJ (jC hlo hx)) rfl<|rAl 10 rfl rfl<|rSt rfl<|rE 12<|aE<|cSR<|oR 3 rfl<|rE 15 ?_;refine aU rfl (λ h1=>?_) (λ h1=>?_)
 ·refine cT ?_;have e:lZ c i=c:=by unfold lZ;rw[hx];dsimp only;rw[if_pos (DL h1)];try rfl
  rw[e];exact oX (rs:=[]) rfl (σ:=λ z=>z) ⟨rfl,rfl⟩ rfl (cF (λ z=>z) rfl rfl wH rfl)
 ·refine aZ<|cSR<|oR 11 rfl<|rCl (x:=.tup [vI ((kO c.rob c.stores i).1),.v (.string ((kO c.rob c.stores i).2))]) rfl (.inr ⟨rfl,⟨(by show lo+n≤((A++c.rob++B).map enL).length;exact omT),trivial,trivial,trivial⟩⟩) ((show bY C0 207 [.sl 17 (List.take n (List.drop lo ((A++c.rob++B).map enL))) kR,.sl 2 (c.stores.map ptL) kS,vN i] _ from by rw[sU (l:=c.rob) hlo (by first|exact hn|(rw[bV];exact hn)|(simp only[bV];exact hn))];exact Ux c.rob c.stores kR kS i hm.rob hm.ok.robo hm.sto hm.ok.stoo hm.std hi))<|oR 5 rfl<|rE 32<|cSR<|oR 2 rfl<|rCi rfl (qD x.addr hxo.addr)<|oR 1 rfl<|rE 36<|bI<|cSR ?_;refine oR 1 rfl<|rV (vB (((kO c.rob c.stores i).1)==1)) rfl<|oR 1 rfl<|rE 39 ?_;refine aU rfl (λ h2=>?_) (λ h2=>?_)
  ·have h2p:=kX h2;refine cRg<|oR 8 rfl<|rCi rfl (PI x ((kO c.rob c.stores i).2) hxo (bM (Ip c.rob c.stores i) (by decide)))<|nW (.ptr2 1 (lo+i) 0) rfl rfl ixT ?_;have hx1:(c.rob.set i (tP x ((kO c.rob c.stores i).2)))[i]?=some (tP x ((kO c.rob c.stores i).2)):=bD omT;refine oE (enL x) (h':=upd _ 1 (some (.arr ((A++(c.rob.set i (tP x ((kO c.rob c.stores i).2)))++B).map enL) 17))) rfl rfl rfl (⟨aI _,gJ ((jC hlo hx))⟩) (tO (f:=enL) (x:=(tP x ((kO c.rob c.stores i).2))) (l:=c.rob) (i:=i) hlo omT)<|rE 50 ?_;have e:lZ c i=setE c i (tP x ((kO c.rob c.stores i).2)):=by unfold lZ;rw[hx];dsimp only;rw[if_neg (qU h1),if_pos h2p];try rfl
   rw[e];exact oX (rs:=[]) rfl (σ:=λ z=>z) ⟨rfl,rfl⟩ rfl (cF (λ z=>z) rfl rfl wH rfl)
  ·have h2p:=kY h2;refine cSR<|oR 1 rfl<|rV (vB (((kO c.rob c.stores i).1) != 2)) rfl<|oR 1 rfl<|rE 42 ?_;refine aU rfl (λ h3=>?_) (λ h3=>?_)
   ·have h3p:=vA h3;refine cT ?_;have e:lZ c i=c:=by unfold lZ;rw[hx];dsimp only;rw[if_neg (qU h1),if_neg h2p,if_pos h3p];try rfl
    rw[e];exact oX (rs:=[]) rfl (σ:=λ z=>z) ⟨rfl,rfl⟩ rfl (cF (λ z=>z) rfl rfl wH rfl)
   ·have h3p:=vC h3;refine cSR<|oR 2 rfl<|eE (args:=[.ptr 0 0,vU (lineOf x.addr)]) (d:=56) _ rfl rfl rfl (pJ.of_dcall (C:=C0) (show bY C0 208 [.dp 64 0 (mcX c (.sl 17 (List.take n (List.drop lo ((A++c.rob++B).map enL))) kR) (.sl 2 xF kF) (.sl 2 (c.stores.map ptL) kS) (.sl 9 xT kT)),vU (lineOf x.addr)] _ from by rw[sU (l:=c.rob) hlo (by first|exact hn|(rw[bV];exact hn)|(simp only[bV];exact hn))];exact TD c nb hm (.sl 2 xF kF) (.sl 2 (c.stores.map ptL) kS) (.sl 9 xT kT) kR (lineOf x.addr) (dF hxo.addr)) (by rfl) (by exact⟨⟨rfl,(r4 (r4 (r4 (r4 (r4 (r4 (r4 (r4 (r4 (r4 (r4 (r4 ⟨(by show lo+n≤((A++c.rob++B).map enL).length;simp only[aO,aY,bV];omega),tvT⟩))))))))))))⟩,trivial,trivial⟩) (by rfl)) ?_;rintro _ _ ⟨rfl,rfl⟩;refine oR 1 rfl<|rE 46 ?_;refine aU rfl (λ h4=>?_) (λ h4=>?_)
    ·refine cRg<|oR 9 rfl<|rCl rfl (.inr ⟨rfl,⟨trivial,tvT,trivial⟩⟩) (La c nb hm .any (.sl 2 xF kF) (.sl 9 xT kT) kS x hxo)<|rCi rfl (PI x (nV c x) hxo (by have:=Fm (c:=c) (by have:=hm.mem;omega) x;omega))<|nW (.ptr2 1 (lo+i) 0) rfl rfl ixT ?_;have hx2:(c.rob.set i (tP x (nV c x)))[i]?=some (tP x (nV c x)):=bD omT;refine oE (enL x) (h':=upd _ 1 (some (.arr ((A++(c.rob.set i (tP x (nV c x)))++B).map enL) 17))) rfl rfl rfl (⟨aI _,gJ ((jC hlo hx))⟩) (tO (f:=enL) (x:=(tP x (nV c x))) (l:=c.rob) (i:=i) hlo omT)<|rE 59 ?_;have e:lZ c i=setE c i (tP x (nV c x)):=by unfold lZ;rw[hx];dsimp only;rw[if_neg (qU h1),if_neg h2p,if_neg (λ q=>q h3p),if_pos h4];try rfl
     rw[e];exact oX (rs:=[]) rfl (σ:=λ z=>z) ⟨rfl,rfl⟩ rfl (cF (λ z=>z) rfl rfl wH rfl)
    ·refine cSR<|oR 6 rfl<|rV (.sl 1 ([[vI 1]]) true) rfl<|rCl (x:=vB (CW c.bus (lineOf x.addr) 1)) rfl (.inl rfl) ((show bY C0 _ [_,_,.sl 1 ([(1:Int)].map fD) true] _ from by rw[←Iq];exact PH c.bus (lineOf x.addr) [1] false true (by have:=hm.bus;omega) (λ x hx=>(hm.ok.buso x hx).line) (dF hxo.addr) (by decide)))<|oR 1 rfl<|rE 55 ?_;refine aU rfl (λ h5=>?_) (λ h5=>?_)
     ·refine cRg<|oR 6 rfl<|nW (.ptr2 1 (lo+i) 0) rfl rfl ixT<|oR 1 rfl ?_;have hx3:(c.rob.set i (⟨x.no,x.pc,⟨x.i.op,x.i.rd,x.i.rs1,x.i.rs2,x.i.imm⟩,x.guess,2,x.left,x.value,x.next,x.addr,x.halt,x.took,x.known,x.filled⟩:Ent))[i]?=some (⟨x.no,x.pc,⟨x.i.op,x.i.rd,x.i.rs1,x.i.rs2,x.i.imm⟩,x.guess,2,x.left,x.value,x.next,x.addr,x.halt,x.took,x.known,x.filled⟩:Ent):=bD omT;refine oE (enL x) (h':=upd _ 1 (some (.arr ((A++(c.rob.set i (⟨x.no,x.pc,⟨x.i.op,x.i.rd,x.i.rs1,x.i.rs2,x.i.imm⟩,x.guess,2,x.left,x.value,x.next,x.addr,x.halt,x.took,x.known,x.filled⟩:Ent))++B).map enL) 17))) rfl rfl rfl (⟨aI _,gJ ((jC hlo hx))⟩) (tO (f:=enL) (x:=(⟨x.no,x.pc,⟨x.i.op,x.i.rd,x.i.rs1,x.i.rs2,x.i.imm⟩,x.guess,2,x.left,x.value,x.next,x.addr,x.halt,x.took,x.known,x.filled⟩:Ent)) (l:=c.rob) (i:=i) hlo omT)<|rE 64 ?_;have e:lZ c i=setE c i (⟨x.no,x.pc,⟨x.i.op,x.i.rd,x.i.rs1,x.i.rs2,x.i.imm⟩,x.guess,2,x.left,x.value,x.next,x.addr,x.halt,x.took,x.known,x.filled⟩:Ent):=by unfold lZ;rw[hx];dsimp only;rw[if_neg (qU h1),if_neg h2p,if_neg (λ q=>q h3p),if_neg (by rw[h4];decide),if_pos h5];try rfl
      rw[e];exact oX (rs:=[]) rfl (σ:=λ z=>z) ⟨rfl,rfl⟩ rfl (cF (λ z=>z) rfl rfl wH rfl)
     ·refine cSR<|oR 7 rfl<|rCl (x:=vB (tW c.rob i)) rfl (.inr ⟨rfl,⟨(by show lo+n≤((A++c.rob++B).map enL).length;exact omT),trivial,trivial⟩⟩) ((show bY C0 206 [.sl 17 (List.take n (List.drop lo ((A++c.rob++B).map enL))) kR,vN i] _ from by rw[sU (l:=c.rob) hlo (by first|exact hn|(rw[bV];exact hn)|(simp only[bV];exact hn))];exact Lc c.rob kR i hm.rob hm.ok.robo (by have:=hm.rob;omega)))<|eE (args:=[.ptr 0 0,vB (tW c.rob i)]) (d:=95) _ rfl rfl rfl (pJ.of_dcall (C:=C0) (show bY C0 116 [.dp 64 0 (mcX c (.sl 17 (List.take n (List.drop lo ((A++c.rob++B).map enL))) kR) (.sl 2 xF kF) (.sl 2 (c.stores.map ptL) kS) (.sl 9 xT kT)),vB (tW c.rob i)] _ from by rw[sU (l:=c.rob) hlo (by first|exact hn|(rw[bV];exact hn)|(simp only[bV];exact hn))];exact Rb c nb hm (.sl 17 (c.rob.map enL) kR) (.sl 2 xF kF) (.sl 2 (c.stores.map ptL) kS) (.sl 9 xT kT) (tW c.rob i)) (by rfl) (by exact⟨⟨rfl,(r4 (r4 (r4 (r4 (r4 (r4 (r4 (r4 (r4 (r4 (r4 (r4 ⟨(by show lo+n≤((A++c.rob++B).map enL).length;simp only[aO,aY,bV];omega),tvT⟩))))))))))))⟩,trivial,trivial⟩) (by rfl)) ?_;rintro _ _ ⟨rfl,rfl⟩;refine oR 1 rfl<|gN rfl<|gS rfl id<|gS rfl id<|gS rfl id<|gS rfl id<|gN rfl<|gB (x:=.sl 1 ([[vI 3]]) true) rfl rfl<|jI (args:=[.sl 4 (c.bus.map rqL) false,vU (lineOf x.addr),.sl 1 ([[vI 3]]) true]) (x:=vB (CW c.bus (lineOf x.addr) 3)) (g:=pW c (tW c.rob i)) rfl rfl rfl rfl hsT rfl rfl rfl (.inl rfl) rfl (λ hg=>(show bY C0 _ [_,_,.sl 1 ([(3:Int)].map fD) true] _ from by rw[←Iq];exact PH c.bus (lineOf x.addr) [3] false true (by have:=hm.bus;omega) (λ x hx=>(hm.ok.buso x hx).line) (dF hxo.addr) (by decide)))<|gS rfl id<|cH rfl rfl rfl (λ h=>h)<|oR 1 rfl<|rE 76 ?_;refine aU rfl (λ h6=>?_) (λ h6=>?_)
      ·refine cSR<|oR 2 rfl<|eE (args:=[.ptr 0 0,vI 1,vU (lineOf x.addr),.v (.string (⟨#[]⟩:ByteArray))]) (d:=109) _ rfl rfl rfl ((WV c nb hm 1 (lineOf x.addr) (⟨#[]⟩:ByteArray) (dF hxo.addr) lo n kR ((A++c.rob++B).map enL) kF xF kS (c.stores.map ptL) kT xT).frameB (λ z=>z) _ _ rfl ⟨⟨rfl,rfl,rfl,rfl⟩,⟨rfl,rfl,rfl,rfl⟩,trivial⟩ rfl rfl rfl rfl) ?_;rintro _ _ ⟨rfl,rfl⟩;refine rE 79<|cRg<|oR 6 rfl<|nW (.ptr2 1 (lo+i) 0) rfl rfl ixT<|oR 1 rfl ?_;have hx4:(c.rob.set i (⟨x.no,x.pc,⟨x.i.op,x.i.rd,x.i.rs1,x.i.rs2,x.i.imm⟩,x.guess,2,x.left,x.value,x.next,x.addr,x.halt,x.took,x.known,x.filled⟩:Ent))[i]?=some (⟨x.no,x.pc,⟨x.i.op,x.i.rd,x.i.rs1,x.i.rs2,x.i.imm⟩,x.guess,2,x.left,x.value,x.next,x.addr,x.halt,x.took,x.known,x.filled⟩:Ent):=bD omT;refine oE (enL x) (h':=upd _ 1 (some (.arr ((A++(c.rob.set i (⟨x.no,x.pc,⟨x.i.op,x.i.rd,x.i.rs1,x.i.rs2,x.i.imm⟩,x.guess,2,x.left,x.value,x.next,x.addr,x.halt,x.took,x.known,x.filled⟩:Ent))++B).map enL) 17))) rfl rfl rfl (⟨aI _,gJ ((jC hlo hx))⟩) (tO (f:=enL) (x:=(⟨x.no,x.pc,⟨x.i.op,x.i.rd,x.i.rs1,x.i.rs2,x.i.imm⟩,x.guess,2,x.left,x.value,x.next,x.addr,x.halt,x.took,x.known,x.filled⟩:Ent)) (l:=c.rob) (i:=i) hlo omT)<|rE 88 ?_;have e:lZ c i=setE (iF c 1 (lineOf x.addr) (⟨#[]⟩:ByteArray)) i (⟨x.no,x.pc,⟨x.i.op,x.i.rd,x.i.rs1,x.i.rs2,x.i.imm⟩,x.guess,2,x.left,x.value,x.next,x.addr,x.halt,x.took,x.known,x.filled⟩:Ent):=by unfold lZ;rw[hx];dsimp only;rw[if_neg (qU h1),if_neg h2p,if_neg (λ q=>q h3p),if_neg (by rw[h4];decide),if_neg (by rw[h5];decide),if_pos (by have z:=h6;simp only[pM]at z;simpa using z)];try rfl
       rw[e];exact oX (rs:=[]) rfl (σ:=λ z=>z) ⟨rfl,rfl⟩ rfl (cF (λ z=>z) rfl rfl wH rfl)
      ·refine aZ ?_;have e:lZ c i=c:=by unfold lZ;rw[hx];dsimp only;rw[if_neg (qU h1),if_neg h2p,if_neg (λ q=>q h3p),if_neg (by rw[h4];decide),if_neg (by rw[h5];decide),if_neg (by have z:=h6;simp only[pM]at z;simpa using z)];try rfl
       rw[e];exact oX (rs:=[]) rfl (σ:=λ z=>z) ⟨rfl,rfl⟩ rfl (cF (λ z=>z) rfl rfl wH rfl)
theorem pJ.frameB2{P:Program}{G:Nat→Option (List AV)}{f:FuncId}{args:List AV}{b0 b1 c0 c1:Blk}{L:List (Nat×Blk)}{s:Nat}{r:AV}(H:pJ P G f args (heapF ((0,b0)::(1,b1)::L)) s (λ x h'=>x=r∧h'=heapF ((0,c0)::(1,c1)::L)))(ρ:Nat→Nat)(K:AH)(s2:Nat)(hfull:CF (heapF ((0,b0)::(1,b1)::L)) s=true)(hL:FrL ρ K s s2 ((0,b0)::(1,b1)::L))(hi:RI ρ s=true)(ha:pK s args=true)(hr:eM r=true)(hb0:tC s c0=true)(hb1:tC s c1=true):
  pJ P G f (Bz ρ args) K s2 (λ x h'=>x=r∧h'=upd (upd K (ρ 0) (some (Ew ρ c0))) (ρ 1) (some (Ew ρ c1))):=by
 have hs:1<s:=aR hL.2.1.2.1;refine H.frameL ρ K s2 hfull hL hi ha _ λ r' h' hP=>?_;obtain⟨rfl,rfl⟩:=hP;refine⟨_,⟨xO _ _ hr,rfl⟩,λ y blk hy=>?_⟩;by_cases he1:y=ρ 1
 ·subst he1;rw[dA]at hy;injection hy with hy;exact .inl ⟨1,c1,rfl,(qP ρ omT).symm,by rw[←hy,wV ρ s s2 c1 hb1]⟩
 rw[cE _ _ he1]at hy;by_cases he:y=ρ 0
 ·subst he;rw[dA]at hy;injection hy with hy;exact .inl ⟨0,c0,rfl,(qP ρ omT).symm,by rw[←hy,wV ρ s s2 c0 hb0]⟩
 ·rw[cE _ _ he]at hy;by_cases hx:∃ x,x<s∧ρ x=y
  ·obtain⟨x,hxs,rfl⟩:=hx;have hx0:x≠0:=λ e=>he (by rw[e]);have hx1:x≠1:=λ e=>he1 (by rw[e]);obtain⟨blk0,hb⟩:=CJ.1 (tL hfull x hxs);have hk:=hL.get x blk0 hb;rw[hk.2.2.2]at hy;injection hy with hy;refine .inl ⟨x,blk0,?_,(qP ρ omT).symm,?_⟩
   ·have q0:Nat.beq 0 x=false:=by rw[←eI];exact λ e=>hx0 (aM e).symm
    have q1:Nat.beq 1 x=false:=by rw[←eI];exact λ e=>hx1 (aM e).symm
    simp only[heapF,q0,q1]at hb⊢;exact hb
   ·rw[←hy];exact (wV ρ s s2 blk0 hk.2.2.1).symm
  ·exact .inr ⟨hy,λ x hxs e=>hx ⟨x,hxs,e⟩⟩
theorem vQ{c:Co}{n:Nat}(h:c.okM n)(i:Nat){e:Ent}(he:e.ok):(setE c i e).okM n:=by
 have hl:(c.rob.set i e).length=c.rob.length:=bV ..;exact⟨⟨h.ok.conf,h.ok.prog,h.ok.progo,h.ok.r,h.ok.fetch,h.ok.fet,h.ok.feto,by show (c.rob.set i e).length≤_;rw[hl];exact h.ok.rob,xN (P:=Ent.ok) h.ok.robo he,h.ok.sto,h.ok.stoo,h.ok.data,h.ok.words,h.ok.bus,h.ok.buso,h.ok.asked,h.ok.guessed,h.ok.mem,h.ok.guess,h.ok.ret,h.ok.reto⟩,h.nb,h.cf,h.data,h.words,h.guess,by show (c.rob.set i e).length≤_;rw[hl];exact h.rob,h.fet,h.sto,h.prog,h.mem,h.std⟩
theorem Bg{rob:List Ent}{r:Nat→Nat}(ho:∀ x∈rob,x.ok)(hr:∀ k,r k≤4294967295)(i:Nat):(lE rob r i).1≤4294967295∧(lE rob r i).2.1≤4294967295:=by
 unfold lE;split
 ·exact⟨Bh ho hr _ _,Bh ho hr _ _⟩
 ·exact⟨aF _,aF _⟩
theorem SB(c:Co)(nb:Nat)(hm:c.okM nb)(i:Nat)(hi:i<c.rob.length)(A B:List Ent)(lo n:Nat)(kR kF kS kT:Bool)(xF xT:List (List AV))(hlo:A.length=lo)(hn:c.rob.length=n)(hA:A.length+n+B.length≤1000):pJ C0.P C0.G 111 [.ptr 0 0,vN i] (heapF [(0,.box (mcX c (.osl 1 lo n kR) (.sl 2 xF kF) (.sl 2 (c.stores.map ptL) kS) (.sl 9 xT kT))),(1,.arr ((A++(c).rob++B).map enL) 17)]) 2 (λ x h'=>x=.tup []∧h'=heapF [(0,.box (mcX (gF c i) (.osl 1 lo n kR) (.sl 2 xF kF) (.sl 2 (c.stores.map ptL) kS) (.sl 9 xT kT))),(1,.arr ((A++((gF c i)).rob++B).map enL) 17)]):=by
 refine HCall.intro (C:=C1) (s:=2) c1Ok.at Tryz.func111 rfl rfl (by kernel_rfl) rfl rfl<|cSR<|oR 6 rfl<|nW (.ptr2 1 (lo+i) 0) rfl rfl ixT ?_;obtain⟨x,hx⟩:∃ y_,c.rob[i]?=some y_:=⟨_,aA omT⟩;have hxo:=hm.ok.robo x (aB hx);refine rIx (enL x) (.agg (enL x)) rfl rfl (gJ (jC hlo hx)) rfl<|rAl 10 rfl rfl<|rSt rfl<|rE 12<|cSR<|oR 11 rfl<|rCl (x:=.tup [vU ((lE c.rob c.r i).1),vU ((lE c.rob c.r i).2.1),vB ((lE c.rob c.r i).2.2)]) rfl (.inr ⟨rfl,⟨(by show lo+n≤((A++c.rob++B).map enL).length;exact omT),tvT,trivial,trivial⟩⟩) ((show bY C0 164 [.sl 17 (List.take n (List.drop lo ((A++c.rob++B).map enL))) kR,.agg (Iz c.r),vN i] _ from by rw[sU (l:=c.rob) hlo (by first|exact hn|(rw[bV];exact hn)|(simp only[bV];exact hn))];exact SC c.rob c.r kR i hm.rob hm.ok.robo hm.ok.r (by have:=hm.rob;omega)))<|oR 7 rfl<|rE 31<|cSR<|oR 2 rfl<|rCi rfl (qG x.i)<|rE 34<|bI ?_;refine cSR<|rW (vB ((kindOf x.i.op)==4)) rfl (okB (eqN _ _))<|oR 1 rfl<|rE 36 ?_;refine aU rfl (λ h1=>?_) (λ h1=>?_)
 ·have h1p:=kX h1;refine cRg<|oR 12 rfl<|rV (vN c.mem.size) rfl<|oR 1 rfl<|rCi rfl (SQ x ((c.mem.size:Nat):Int) ((lE c.rob c.r i).1) hxo (by have:=hm.mem;omega) (Bg hm.ok.robo hm.ok.r i).1)<|nW (.ptr2 1 (lo+i) 0) rfl rfl ixT ?_;have hx1:(c.rob.set i (vY x ((c.mem.size:Nat):Int) ((lE c.rob c.r i).1)))[i]?=some (vY x ((c.mem.size:Nat):Int) ((lE c.rob c.r i).1)):=bD omT;refine oE (enL x) (h':=upd _ 1 (some (.arr ((A++(c.rob.set i (vY x ((c.mem.size:Nat):Int) ((lE c.rob c.r i).1)))++B).map enL) 17))) rfl rfl rfl (⟨aI _,gJ ((jC hlo hx))⟩) (tO (f:=enL) (x:=(vY x ((c.mem.size:Nat):Int) ((lE c.rob c.r i).1))) (l:=c.rob) (i:=i) hlo omT)<|rE 53 ?_;have e:gF c i=setE c i (vY x ((c.mem.size:Nat):Int) ((lE c.rob c.r i).1)):=by unfold gF;rw[hx];dsimp only;rw[if_pos h1p]
  rw[e];exact oX (rs:=[]) rfl (σ:=λ z=>z) ⟨rfl,rfl⟩ rfl (cF (λ z=>z) rfl rfl wH rfl)
 ·have h1p:=kY h1;refine cSR<|rW (vB ((kindOf x.i.op)==3)) rfl (okB (eqN _ _))<|oR 1 rfl<|rE 38 ?_;refine aU rfl (λ h2=>?_) (λ h2=>?_)
  ·have h2p:=kX h2;refine cSR<|oR 12 rfl<|rV (vN c.mem.size) rfl<|oR 1 rfl<|rCi rfl (SQ x ((c.mem.size:Nat):Int) ((lE c.rob c.r i).1) hxo (by have:=hm.mem;omega) (Bg hm.ok.robo hm.ok.r i).1)<|nW (.ptr2 1 (lo+i) 0) rfl rfl ixT ?_;have hx2:(c.rob.set i (vY x ((c.mem.size:Nat):Int) ((lE c.rob c.r i).1)))[i]?=some (vY x ((c.mem.size:Nat):Int) ((lE c.rob c.r i).1)):=bD omT;refine oE (enL x) (h':=upd _ 1 (some (.arr ((A++(c.rob.set i (vY x ((c.mem.size:Nat):Int) ((lE c.rob c.r i).1)))++B).map enL) 17))) rfl rfl rfl (⟨aI _,gJ ((jC hlo hx))⟩) (tO (f:=enL) (x:=(vY x ((c.mem.size:Nat):Int) ((lE c.rob c.r i).1))) (l:=c.rob) (i:=i) hlo omT)<|rE 55<|cRg<|oR 2 rfl<|eE (args:=[.ptr 0 0,vN i]) (d:=84) _ rfl rfl rfl ((WU (setE c i (vY x ((c.mem.size:Nat):Int) ((lE c.rob c.r i).1))) nb (vQ hm i (Gx hxo _ _)) i (by show i<(c.rob.set i _).length;rw[bV];exact hi) A B lo n kR kF kS kT xF xT hlo (by show (c.rob.set i _).length=n;rw[bV];exact hn) hA).frameB2 (λ z=>z) _ _ rfl ⟨⟨rfl,rfl,rfl,rfl⟩,⟨rfl,rfl,rfl,rfl⟩,trivial⟩ rfl rfl rfl rfl rfl) ?_;rintro _ _ ⟨rfl,rfl⟩;refine rE 58 ?_;have e:gF c i=lZ (setE c i (vY x (c.mem.size:Int) (lE c.rob c.r i).1)) i:=by unfold gF;rw[hx];dsimp only;rw[if_neg h1p,if_pos h2p]
   rw[e];exact oX (rs:=[]) rfl (σ:=λ z=>z) ⟨rfl,rfl⟩ rfl (cF (λ z=>z) rfl rfl wH rfl)
  ·have h2p:=kY h2;refine cRg<|oR 9 rfl<|rCi rfl (Us x ((lE c.rob c.r i).1) ((lE c.rob c.r i).2.1) hxo (Bg hm.ok.robo hm.ok.r i).1 (Bg hm.ok.robo hm.ok.r i).2)<|nW (.ptr2 1 (lo+i) 0) rfl rfl ixT ?_;have hx3:(c.rob.set i (qO x ((lE c.rob c.r i).1) ((lE c.rob c.r i).2.1)))[i]?=some (qO x ((lE c.rob c.r i).1) ((lE c.rob c.r i).2.1)):=bD omT;refine oE (enL x) (h':=upd _ 1 (some (.arr ((A++(c.rob.set i (qO x ((lE c.rob c.r i).1) ((lE c.rob c.r i).2.1)))++B).map enL) 17))) rfl rfl rfl (⟨aI _,gJ ((jC hlo hx))⟩) (tO (f:=enL) (x:=(qO x ((lE c.rob c.r i).1) ((lE c.rob c.r i).2.1))) (l:=c.rob) (i:=i) hlo omT)<|rE 50 ?_;have e:gF c i=setE c i (qO x ((lE c.rob c.r i).1) ((lE c.rob c.r i).2.1)):=by unfold gF;rw[hx];dsimp only;rw[if_neg h1p,if_neg h2p]
   rw[e];exact oX (rs:=[]) rfl (σ:=λ z=>z) ⟨rfl,rfl⟩ rfl (cF (λ z=>z) rfl rfl wH rfl)
structure WyG(n k:Nat)(w:Wy):Prop where
 line:lineOf w.line=w.line
 set:w.line / 16 % n=k
 data:w.data.size=0∨w.data.size=16
 le:w.line≤4294967295
structure SetG(n:Nat)(ways:Int)(k:Nat)(s:List Wy):Prop where
 len:(s.length:Int)≤ways
 way:∀ w∈s,WyG n k w
 one:(s.map (·.line)).Nodup
structure CaG(c:Ca):Prop where
 sets:c.sets.length=1∨c.sets.length=2∨c.sets.length=4
 ways:c.ways=1∨c.ways=2
 set:∀ k s,c.sets[k]?=some s→SetG c.sets.length c.ways k s
theorem Ol:∀ {s:List Wy} {line:Nat},jN s line=none↔∀ w∈s,w.line≠line
 |[],_=>by simp[jN]
 |w::l,line=>by
  unfold jN;by_cases h:w.line=line
  ·rw[if_pos h];simp[h]
  ·rw[if_neg h,Option.map_eq_none_iff,Ol];simp[h]
theorem TB:∀ {s:List Wy},(∀ i x,s[i]?=some x→jN (s.take i) x.line=none)↔(s.map (·.line)).Nodup:=by
 intro s;rw[List.nodup_iff_pairwise_ne,List.pairwise_map,List.pairwise_iff_getElem];constructor
 ·intro h i j hi hj hij e;exact Ol.1 (h j s[j] (aA hj)) s[i] (aB (i:=i) (by rw[cS,if_pos hij,aA hi])) e
 ·intro h j x hx;obtain⟨hj,rfl⟩:=Db.1 hx;refine Ol.2 λ w hw=>?_;obtain⟨i,hi,rfl⟩:=fU hw;rw[aQ]at hi;rw[List.getElem_take];exact h i j omT hj omT
theorem WS{c:Ca}:CaG c↔fY c=true∧c.ok:=by
 constructor
 ·intro h;refine⟨(mF c).2 ⟨⟨h.sets,h.ways⟩,λ k s hs=>(mA c k s).2 ?_⟩,⟨by have:=h.sets;omega,λ s hs=>?_⟩⟩
  ·have g:=h.set k s hs;refine⟨g.len,λ i x hx=>?_⟩;have gw:=g.way x (aB hx);exact⟨gw.line,gw.set,gw.data,TB.2 g.one i x hx⟩
  ·obtain⟨k,hk,rfl⟩:=fU hs;have g:=h.set k _ (aA hk);refine⟨by have:=g.len;have:=h.ways;omega,λ x hx=>⟨(g.way x hx).le⟩⟩
 ·rintro ⟨h,ok⟩;obtain⟨⟨h1,h2⟩,h3⟩:=(mF c).1 h;refine⟨h1,h2,λ k s hs=>?_⟩;obtain⟨g1,g2⟩:=(mA c k s).1 (h3 k s hs);refine⟨g1,λ w hw=>?_,TB.1 λ i x hx=>(g2 i x hx).2.2.2⟩;obtain⟨i,hi,rfl⟩:=fU hw;have g:=g2 i _ (aA hi);exact⟨g.1,g.2.1,g.2.2.1,((ok.set s (aB hs)).2 _ hw).line⟩
theorem CaG.with{c:Ca}(h:CaG c){k:Nat}{s:List Wy}(hs:SetG c.sets.length c.ways k s):CaG (oH c k s):=by
 have hl:(c.sets.set k s).length=c.sets.length:=bV ..;refine⟨by show (c.sets.set k s).length=1∨(c.sets.set k s).length=2∨(c.sets.set k s).length=4;rw[hl];exact h.sets,h.ways,λ j t ht=>?_⟩;show SetG (c.sets.set k s).length c.ways j t;rw[hl];rw[show (oH c k s).sets=c.sets.set k s from rfl,pS]at ht;split at ht
 ·rename_i e;subst e;split at ht
  ·injection ht with ht;subst ht;exact hs
  ·cases ht
 ·exact h.set j t ht
theorem DG{α:Type}{l:List α}{k:Nat}(h:k<l.length):(eH l k).Perm l:=by
 unfold eH;rw[aA h];show ([l[k]]++l.take k++l.drop (k+1)).Perm l;rw[List.singleton_append,mZ];refine (List.perm_middle.symm).trans ?_;rw[←eD h,gA]
theorem SetG.perm{n:Nat}{ways:Int}{k:Nat}{s t:List Wy}(h:SetG n ways k s)(p:t.Perm s):SetG n ways k t:=
 ⟨by rw[p.length_eq];exact h.len,λ w hw=>h.way w (p.mem_iff.1 hw),(p.map _).nodup_iff.2 h.one⟩
theorem SetG.modHd{n:Nat}{ways:Int}{k:Nat}{s:List Wy}(h:SetG n ways k s){f:Wy→Wy}(hf:∀ w∈s,(f w).line=w.line∧((f w).data.size=0∨(f w).data.size=16)):SetG n ways k (modHd f s):=by
 cases s with
 |nil=>exact h
 | cons x l=>
  have hx:=hf x (bO ..);have g:=h.way x (bO ..);refine⟨h.len,λ w hw=>?_,?_⟩
  ·rcases al_List_mem_cons.1 hw with rfl|hw
   ·exact⟨by rw[hx.1];exact g.line,by rw[hx.1];exact g.set,hx.2,by rw[hx.1];exact g.le⟩
   ·exact h.way w (bZ _ hw)
  ·show ((f x).line::l.map (·.line)).Nodup;rw[hx.1];exact h.one
theorem CaG.at{c:Ca}(h:CaG c){k:Nat}(hk:k<c.sets.length):SetG c.sets.length c.ways k (oT c k):=by
 rw[rG (aA hk)];exact h.set k _ (aA hk)
theorem CaG.touch{c:Ca}(h:CaG c)(line:Nat):CaG (sK c line):=by
 by_cases hF:(bE c line).2.isSome=true
 ·rw[Cp hF];have ff:=nP hF;exact h.with ((h.at ff.2.2.1).perm (DG ff.2.2.2))
 ·rw[Cq (by simpa using hF)];exact h
theorem Om(d:ByteArray):(lG d).size=0∨(lG d).size=16:=by
 unfold lG;split
 ·right;assumption
 ·left;rfl
theorem CaG.put{c:Ca}(h:CaG c){line:Nat}(hl:line≤4294967295)(d:ByteArray)(b:Bool):CaG (qF c line d b).1:=by
 have hR:=(WS.1 h).1;by_cases hF:(bE c line).2.isSome=true
 ·rw[Bk hF];have ff:=nP hF;have g:=(h.at ff.2.2.1).perm (DG ff.2.2.2);refine h.with (g.modHd λ w hw=>⟨rfl,?_⟩);show (if (lG d).size=0 then w.data else lG d).size=0∨_;split
  ·exact (g.way w hw).data
  ·exact Om d
 ·have hF':(bE c line).2.isSome=false:=by simpa using hF
  rw[uB hR hF'];have e:=qN (line:=line) hR;have hk:(bE c line).1<c.sets.length:=by rw[e];exact Aa (jX hR).1 _
  have hn:jN (oT c (bE c line).1) (lineOf line)=none:=by rw[e]at hF' ⊢;simpa using hF'
  have g:=h.at hk;have gw:WyG c.sets.length (bE c line).1 ⟨lineOf line,b,lG d⟩:=⟨by show lineOf (lineOf line)=lineOf line;unfold lineOf;omega,by rw[e];rfl,Om d,dF hl⟩;split
  ·rename_i hw;refine h.with ⟨?_,λ w hw=>?_,?_⟩
   ·have:=h.ways;rw[bN,nI];omega
   ·rcases al_List_mem_cons.1 hw with rfl|hw
    ·exact gw
    ·exact g.way w (nJ _ hw)
   ·rw[iW,List.nodup_cons];refine⟨λ hm=>?_,g.one.sublist ((List.dropLast_sublist _).map _)⟩;obtain⟨w,hw,e⟩:=rK.1 hm;exact Ol.1 hn w (nJ _ hw) e
  ·rename_i hw;refine h.with ⟨?_,λ w hw=>?_,?_⟩
   ·have:=g.len;rw[bN];push_cast;omega
   ·rcases al_List_mem_cons.1 hw with rfl|hw
    ·exact gw
    ·exact g.way w hw
   ·rw[iW,List.nodup_cons];refine⟨λ hm=>?_,g.one⟩;obtain⟨w,hw,e⟩:=rK.1 hm;exact Ol.1 hn w hw e
theorem Mt{d b:ByteArray}{a:Nat}(h:b.size+a≤d.size):(DW d a b).size=d.size:=by
 unfold DW;simp only[eL,dU];omega
theorem CaG.write{c:Ca}(h:CaG c)(a:Nat)(b:ByteArray):CaG (wC c a b).1:=by
 by_cases hF:(bE c a).2.isSome=true
 ·have ff:=nP hF;rw[zG b hF rfl (aA ff.2.2.2)];split
  ·exact h
  ·rename_i hq;have g:=(h.at ff.2.2.1).perm (DG ff.2.2.2);have hd:=(h.at ff.2.2.1).way _ (kV ff.2.2.2);have hd2:=hd.data;have e:eH (oT c (bE c a).1) ((bE c a).2.getD 0)=(oT c (bE c a).1)[(bE c a).2.getD 0]::((oT c (bE c a).1).take ((bE c a).2.getD 0)++(oT c (bE c a).1).drop ((bE c a).2.getD 0+1)):=by
    unfold eH;rw[aA ff.2.2.2];rfl
   refine h.with ?_;rw[e]at g⊢;have g1:=g.way _ (bO ..);refine⟨g.len,λ w hw=>?_,g.one⟩;rcases al_List_mem_cons.1 hw with rfl|hw
   ·refine⟨g1.line,g1.set,.inr ?_,g1.le⟩;show (DW _ _ _).size=16;rw[Mt omT];omega
   ·exact g.way w (bZ _ hw)
 ·rw[Fr b (by simpa using hF)];exact h
theorem CaG.clean{c:Ca}(h:CaG c)(line:Nat):CaG (uR c line):=by
 by_cases hF:(bE c line).2.isSome=true
 ·have ff:=nP hF;rw[Cr hF rfl];have g:=h.at ff.2.2.1;have hm:(((oT c (bE c line).1).modify ((bE c line).2.getD 0) λ w=>{w with dirty:=false}).map (·.line))=(oT c (bE c line).1).map (·.line):=by
   apply dQ;intro i;simp only[bH,nK];split<;>simp[Option.map_map,Function.comp_def]
  refine h.with ⟨by rw[List.length_modify];exact g.len,λ w hw=>?_,by rw[hm];exact g.one⟩;obtain⟨i,hi⟩:=List.getElem?_of_mem hw;rw[nK]at hi;obtain⟨v,hv,rfl⟩:=EL.1 hi;have gv:=g.way v (aB hv);split
  ·exact⟨gv.line,gv.set,gv.data,gv.le⟩
  ·exact gv
 ·rw[Cs (by simpa using hF)];exact h
theorem CaG.dirty{c:Ca}(h:CaG c){w:Wy}(hw:cP c=some w):w.line≤4294967295:=by
 unfold cP at hw;split at hw
 ·have:=List.mem_of_find?_eq_some hw;obtain⟨s,hs,hw⟩:=List.mem_flatten.1 this;obtain⟨k,hk,rfl⟩:=fU hs;exact ((h.set k _ (aA hk)).way w hw).le
 ·cases hw
theorem KY{q:List Req}(h:∀ x∈q,x.ok){kind:Int}{line:Nat}{left:Int}{d:ByteArray}(hl:line≤4294967295):∀ x∈wB q kind line left d,x.ok:=by
 intro x hx;unfold wB at hx;rcases al_List_mem_append.1 hx with hx|hx
 ·exact h x hx
 ·rw[tM.1 hx];exact⟨hl⟩
theorem Io(q:List Req)(kind:Int)(line:Nat)(left:Int)(d:ByteArray):(wB q kind line left d).length=q.length+1:=by unfold wB;simp
theorem Co.okM.gd{c:Co}{n:Nat}(h:c.okM n):CaG c.data:=WS.2 ⟨h.data,h.ok.data⟩
theorem Co.okM.gw{c:Co}{n:Nat}(h:c.okM n):CaG c.words:=WS.2 ⟨h.words,h.ok.words⟩
theorem Co.okM.mono{c:Co}{n m:Nat}(h:c.okM n)(hm:n≤m)(hb:m≤890000):c.okM m:=
 ⟨⟨h.ok.conf,h.ok.prog,h.ok.progo,h.ok.r,h.ok.fetch,h.ok.fet,h.ok.feto,h.ok.rob,h.ok.robo,h.ok.sto,h.ok.stoo,h.ok.data,h.ok.words,aL h.ok.bus hm,h.ok.buso,h.ok.asked,h.ok.guessed,h.ok.mem,h.ok.guess,aL h.ok.ret hm,h.ok.reto⟩,hb,h.cf,h.data,h.words,h.guess,h.rob,h.fet,h.sto,h.prog,h.mem,h.std⟩
theorem DH(z:Int):wrap64 z≤9223372036854775807:=by unfold wrap64;omega
theorem Co.okM.busData{c:Co}{n:Nat}(h:c.okM n){q:List Req}{d:Ca}{a:Int}(hq:q.length≤n+1)(hqo:∀ x∈q,x.ok)(hd:CaG d)(ha:a≤9223372036854775807)(hb:n+1≤890000):Co.okM {c with bus:=q,data:=d,asked:=a} (n+1):=
 ⟨⟨h.ok.conf,h.ok.prog,h.ok.progo,h.ok.r,h.ok.fetch,h.ok.fet,h.ok.feto,h.ok.rob,h.ok.robo,h.ok.sto,h.ok.stoo,(WS.1 hd).2,h.ok.words,hq,hqo,ha,h.ok.guessed,h.ok.mem,h.ok.guess,pT h.ok.ret,h.ok.reto⟩,hb,h.cf,(WS.1 hd).1,h.words,h.guess,h.rob,h.fet,h.sto,h.prog,h.mem,h.std⟩
theorem rD{c:Co}{n:Nat}(h:c.okM n)(hb:n+1≤890000)(kind:Int){line:Nat}(hl:line≤4294967295)(d:ByteArray):(iF c kind line d).okM (n+1):=
 h.busData (by rw[Io];have:=h.ok.bus;omega) (KY h.ok.buso hl) h.gd (DH _) hb
theorem On{d:Ca}{q:List Req}{m:ByteArray}{line:Nat}{left:Int}(hd:CaG d)(hq:∀ x∈q,x.ok)(hl:line≤4294967295):CaG (gK d q m line left).1∧(gK d q m line left).2.1.length≤q.length+1∧∀ x∈(gK d q m line left).2.1,x.ok:=by
 unfold gK;split
 ·exact⟨hd,fF _,hq⟩
 ·split
  ·exact⟨hd.touch _,fF _,hq⟩
  ·have hp:=hd.put (dF hl) (EG (jO q m) (lineOf line)) false;have hg:=Fp (WS.1 hd).2 (lineOf line) (EG (jO q m) (lineOf line)) false;generalize qF d (lineOf line) (EG (jO q m) (lineOf line)) false=t at hp hg;obtain⟨e,gone,went⟩:=t;dsimp only at hp hg⊢;split
   ·exact⟨hp,by rw[Io];exact aC _,KY hq hg⟩
   ·exact⟨hp,fF _,hq⟩
theorem DI{c:Co}{n:Nat}(h:c.okM n)(hb:n+1≤890000){line:Nat}(hl:line≤4294967295):(cJ c line).okM (n+1):=by
 have hk:=On (m:=c.mem) (left:=jM c.conf c.asked) h.gd h.ok.buso hl;unfold cJ;generalize gK c.data c.bus c.mem line (jM c.conf c.asked)=t at hk;obtain⟨d,q,a⟩:=t;dsimp only at hk⊢;refine h.busData (by have:=h.ok.bus;omega) hk.2.2 hk.1 ?_ hb;split
 ·exact DH _
 ·exact h.ok.asked
theorem Oo{l:List Pt}{c:Ca}(hc:CaG c):CaG (pV l c).2.1∧(pV l c).1.length≤l.length∧∀ x∈(pV l c).1,x∈l:=by
 unfold pV
 cases l with
 |nil=>exact⟨hc,aC _,λ x h=>h⟩
 |cons p l=>
  dsimp only;split
  ·exact⟨hc.write _ _,fF _,λ x h=>bZ _ h⟩
  ·exact⟨hc,aC _,λ x h=>h⟩
theorem eN{c:Co}{n:Nat}(h:c.okM n):(aW c).okM n:=by
 have hk:=Oo (l:=c.stores) h.gd;exact⟨⟨h.ok.conf,h.ok.prog,h.ok.progo,h.ok.r,h.ok.fetch,h.ok.fet,h.ok.feto,h.ok.rob,h.ok.robo,aL hk.2.1 h.ok.sto,λ x hx=>h.ok.stoo x (hk.2.2 x hx),(WS.1 hk.1).2,h.ok.words,h.ok.bus,h.ok.buso,h.ok.asked,h.ok.guessed,h.ok.mem,h.ok.guess,h.ok.ret,h.ok.reto⟩,h.nb,h.cf,(WS.1 hk.1).1,h.words,h.guess,h.rob,h.fet,aL hk.2.1 h.sto,h.prog,h.mem,λ x hx=>h.std x (hk.2.2 x hx)⟩
theorem jW(c:Co):pZ c=kP (if (pV c.stores c.data).2.2=false∧(aW c).stores≠[]then oG (aW c)else aW c):=by
 unfold pZ aW
 cases hs:c.stores with
 |nil=>simp[pV]
 | cons p l=>
  dsimp only
  cases hq:(pV (p::l) c.data).2.2 with
  |true=>simp
  | false=>
   have:(pV (p::l) c.data).1=p::l:=by
    unfold pV at hq⊢;dsimp only at hq⊢;by_cases hw:(wC c.data p.addr p.data).2=true
    ·rw[if_pos hw]at hq;cases hq
    ·rw[if_neg hw]
   simp[this]
theorem c2a{a b:Bool}:cA a b false=(a&&b):=by cases a<;>rfl
theorem c2o{a b:Bool}:cA a true b=(a||b):=by cases a<;>rfl
theorem sH{d:Co}{p:Pt}(hp:d.stores[0]?=some p):oG d=if CW d.bus (lineOf p.addr) 3=false∧pW d true=true then iF d 3 (lineOf p.addr) mH else d:=by
 unfold oG
 cases hs:d.stores with
 |nil=>rw[hs]at hp;simp at hp
 |cons y l=>rw[hs]at hp;simp at hp;subst hp;rfl
theorem tV{d:Co}(h:(cP d.data).isSome=true∧((cP d.data).getD pC).data.size≠0):mQ d={iF d 4 ((cP d.data).getD pC).line ((cP d.data).getD pC).data with data:=uR d.data ((cP d.data).getD pC).line}:=by
 unfold mQ
 cases hd:cP d.data with
 |none=>rw[hd]at h;simp at h
 |some w=>rw[hd]at h;exact if_pos h.2
theorem vP{d:Co}(h: ¬ ((cP d.data).isSome=true∧((cP d.data).getD pC).data.size≠0)):mQ d=d:=by
 unfold mQ
 cases hd:cP d.data with
 |none=>rfl
 |some w=>rw[hd]at h;exact if_neg λ e=>h ⟨rfl,e⟩
theorem CaG.dirtyLe{c:Ca}(h:CaG c):((cP c).getD pC).line≤4294967295:=by
 cases hd:cP c with
 |none=>exact aF _
 |some w=>exact h.dirty hd
theorem Ok(c:Co)(nb:Nat)(hm:c.okM nb)(hb:nb+2≤890000)(kR:Bool)(xR:List (List AV))(kF:Bool)(xF:List (List AV))(kT:Bool)(xT:List (List AV)):pJ C0.P C0.G 58 [.ptr 0 0] (heapF [(0,.box (mcX c (.sl 17 xR kR) (.sl 2 xF kF) (.sl 2 (c.stores.map ptL) false) (.sl 9 xT kT)))]) 1 (λ x h'=>x=.tup []∧h'=heapF [(0,.box (mcX (pZ c) (.sl 17 xR kR) (.sl 2 xF kF) (.sl 2 ((pZ c).stores.map ptL) false) (.sl 9 xT kT)))]):=by
 refine HCall.intro (C:=C1) (s:=1) c1Ok.at Tryz.func58 rfl rfl (by kernel_rfl) rfl rfl<|cSR<|oR 10 rfl<|rCi rfl (VF c.stores c.data hm.ok.data (by have:=hm.sto;omega) hm.ok.stoo)<|oR 4 rfl<|rAl 16 rfl rfl<|oR 1 rfl<|rSt rfl<|oR 1 rfl<|rE 20<|aE<|Ba rfl rfl<|oR 7 rfl<|rSx 0 (mcX c (.sl 17 xR kR) (.sl 2 xF kF) (.sl 2 (((aW c).stores).map ptL) false) (.sl 9 xT kT)) rfl rfl rfl<|oR 3 rfl ?_;refine rSx 0 (mcX ({c with data:=(aW c).data}:Co) (.sl 17 xR kR) (.sl 2 xF kF) (.sl 2 (((aW c).stores).map ptL) false) (.sl 9 xT kT)) rfl rfl rfl<|rE 32<|And.intro (by kernel_rfl)<|aE<|cSR<|oR 3 rfl<|gN rfl<|gS rfl id<|gS rfl id<|gS rfl id<|gS rfl id<|gBS (x:=vN (((aW c).stores).length)) rfl id (bQ ptL ((aW c).stores))<|gBS (x:=vB (decide ((((aW c).stores).length)>0))) rfl id (okB (gtN _ _))<|cH rfl rfl rfl (λ h=>h)<|rE 43 ?_;refine aU rfl (λ h1=>?_) (λ h1=>?_)
 ·have hns:((pV c.stores c.data).2.2=false∧(aW c).stores≠[]):=by have z:=h1;simpa [c2a,eY]using z
  have hpos:0<(aW c).stores.length:=eY.2 hns.2;refine cSR<|oR 5 rfl ?_;obtain⟨p,hp⟩:∃ y_,((aW c).stores)[0]?=some y_:=⟨_,aA omT⟩;have hpo:=(eN hm).ok.stoo p (aB hp);refine Fb (ptL p) (x:=.dp 2 0 (ptL p)) rfl rfl rfl (⟨by decide,gJ hp⟩) rfl<|oR 2 rfl<|rCi rfl (qD p.addr hpo.addr)<|oR 1 rfl<|rE 53<|cSR<|oR 6 rfl<|rV (.sl 1 ([[vI 3]]) true) rfl<|rCl (x:=vB (CW c.bus (lineOf p.addr) 3)) rfl (.inl rfl) ((show bY C0 _ [_,_,.sl 1 ([(3:Int)].map fD) true] _ from by rw[←Iq];exact PH c.bus (lineOf p.addr) [3] false true (by have:=hm.bus;omega) (λ x hx=>(hm.ok.buso x hx).line) (dF hpo.addr) (by decide)))<|oR 2 rfl<|gN rfl<|jI (args:=[.ptr 0 0,vB true]) (x:=vB (pW (aW c) true)) (g:= !(CW c.bus (lineOf p.addr) 3)) rfl rfl rfl rfl (λ h=>h) rfl rfl rfl (.inr ⟨rfl,⟨trivial,trivial,trivial⟩⟩) rfl (λ hg=>Rb (aW c) nb (eN hm) (.sl 17 xR kR) (.sl 2 xF kF) (.sl 2 (((aW c).stores).map ptL) false) (.sl 9 xT kT) true)<|cH rfl rfl rfl (λ h=>h)<|rE 66 ?_;refine aU rfl (λ h2=>?_) (λ h2=>?_)
  ·have hra:(CW (aW c).bus (lineOf p.addr) 3=false∧pW (aW c) true=true):=by have z:=h2;show (CW c.bus _ _=false∧_);simpa [c2a]using z
   refine cRg<|oR 2 rfl<|eE (args:=[.ptr 0 0,vI 3,vU (lineOf p.addr),.v (.string (⟨#[]⟩:ByteArray))]) (d:=68) _ rfl rfl rfl ((Vv (aW c) nb (eN hm) 3 (lineOf p.addr) (⟨#[]⟩:ByteArray) (dF hpo.addr) kR xR kF xF false ((aW c).stores.map ptL) kT xT).frameB (λ z=>z) _ _ rfl ⟨⟨rfl,rfl,rfl,rfl⟩,trivial⟩ rfl rfl rfl rfl) ?_;rintro _ _ ⟨rfl,rfl⟩;refine rE 69<|aE<|cSR<|oR 5 rfl<|rW (vN (((aW c).stores).length)) rfl (bQ ptL ((aW c).stores))<|rW (vB (decide ((((aW c).stores).length)>0))) rfl (okB (gtN _ _))<|oR 1 rfl<|gN rfl<|gS rfl id<|gS rfl id<|gS rfl id<|gS rfl id<|gBS (x:=vB (((iF (aW c) 3 (lineOf p.addr) (⟨#[]⟩:ByteArray)).halt)==0)) rfl id rfl<|cH rfl rfl rfl (by simp)<|rE 84 ?_;refine aU rfl (λ h3=>?_) (λ h3=>?_)
   ·have hlt:((aW c).stores≠[]∨(iF (aW c) 3 (lineOf p.addr) (⟨#[]⟩:ByteArray)).halt=0):=by have z:=h3;simpa [c2o,eY]using z
    refine cT ?_;rw[jW,if_pos hns,sH hp,if_pos hra];rw[show kP (iF (aW c) 3 (lineOf p.addr) mH)=(iF (aW c) 3 (lineOf p.addr) mH)from if_pos hlt];exact oX (rs:=[]) rfl (σ:=λ z=>z) ⟨rfl,rfl⟩ rfl (cF (λ z=>z) rfl rfl wH rfl)
   ·have hlt: ¬ ((aW c).stores≠[]∨(iF (aW c) 3 (lineOf p.addr) (⟨#[]⟩:ByteArray)).halt=0):=by have z:=h3;simpa [c2o,eY]using z
    refine aZ<|cSR<|oR 5 rfl<|rCi rfl (GI (iF (aW c) 3 (lineOf p.addr) (⟨#[]⟩:ByteArray)).data (rD (eN hm) omT 3 (dF hpo.addr) mH).ok.data)<|oR 3 rfl<|rAl 93 rfl rfl<|rSt rfl<|oR 1 rfl<|rE 96<|cSR<|oR 2 rfl<|gN rfl<|gS rfl id<|gBS (x:=vB (!((((cP (iF (aW c) 3 (lineOf p.addr) (⟨#[]⟩:ByteArray)).data).getD pC).data).toList==(⟨#[]⟩:ByteArray).toList))) rfl id rfl ?_;refine cH rfl rfl rfl (λ h=>h)<|rE 102 ?_;refine aU rfl (λ h4=>?_) (λ h4=>?_)
    ·have hq4:((cP (iF (aW c) 3 (lineOf p.addr) (⟨#[]⟩:ByteArray)).data).isSome=true∧((cP (iF (aW c) 3 (lineOf p.addr) (⟨#[]⟩:ByteArray)).data).getD pC).data.size≠0):=by have z:=h4;rw[Al]at z;simpa [pM]using z
     have hcd:Ca.ok (iF (aW c) 3 (lineOf p.addr) (⟨#[]⟩:ByteArray)).data:=(rD (eN hm) omT 3 (dF hpo.addr) mH).ok.data;refine cSR<|oR 5 rfl<|eE (args:=[.ptr 0 0,vI 4,vU (((cP (iF (aW c) 3 (lineOf p.addr) (⟨#[]⟩:ByteArray)).data).getD pC).line),.v (.string (((cP (iF (aW c) 3 (lineOf p.addr) (⟨#[]⟩:ByteArray)).data).getD pC).data))]) (d:=104) _ rfl rfl rfl ((Vv (iF (aW c) 3 (lineOf p.addr) (⟨#[]⟩:ByteArray)) (nb+1) (rD (eN hm) omT 3 (dF hpo.addr) mH) 4 (((cP (iF (aW c) 3 (lineOf p.addr) (⟨#[]⟩:ByteArray)).data).getD pC).line) (((cP (iF (aW c) 3 (lineOf p.addr) (⟨#[]⟩:ByteArray)).data).getD pC).data) ((rD (eN hm) omT 3 (dF hpo.addr) mH).gd.dirtyLe) kR xR kF xF false ((aW c).stores.map ptL) kT xT).frameB (λ z=>z) _ _ rfl ⟨⟨rfl,rfl,rfl,rfl⟩,trivial⟩ rfl rfl rfl rfl) ?_;rintro _ _ ⟨rfl,rfl⟩;refine rE 108<|cRg<|oR 8 rfl<|rCi rfl (GG ((iF (iF (aW c) 3 (lineOf p.addr) (⟨#[]⟩:ByteArray)) 4 (((cP (iF (aW c) 3 (lineOf p.addr) (⟨#[]⟩:ByteArray)).data).getD pC).line) (((cP (iF (aW c) 3 (lineOf p.addr) (⟨#[]⟩:ByteArray)).data).getD pC).data)).data) (((cP (iF (aW c) 3 (lineOf p.addr) (⟨#[]⟩:ByteArray)).data).getD pC).line) hcd ((rD (eN hm) omT 3 (dF hpo.addr) mH).gd.dirtyLe))<|oR 3 rfl<|rSx 0 (mcX ({iF (iF (aW c) 3 (lineOf p.addr) (⟨#[]⟩:ByteArray)) 4 (((cP (iF (aW c) 3 (lineOf p.addr) (⟨#[]⟩:ByteArray)).data).getD pC).line) (((cP (iF (aW c) 3 (lineOf p.addr) (⟨#[]⟩:ByteArray)).data).getD pC).data)with data:=(uR ((iF (iF (aW c) 3 (lineOf p.addr) (⟨#[]⟩:ByteArray)) 4 (((cP (iF (aW c) 3 (lineOf p.addr) (⟨#[]⟩:ByteArray)).data).getD pC).line) (((cP (iF (aW c) 3 (lineOf p.addr) (⟨#[]⟩:ByteArray)).data).getD pC).data)).data) (((cP (iF (aW c) 3 (lineOf p.addr) (⟨#[]⟩:ByteArray)).data).getD pC).line))}:Co) (.sl 17 xR kR) (.sl 2 xF kF) (.sl 2 (((aW c).stores).map ptL) false) (.sl 9 xT kT)) rfl rfl rfl<|rE 121 ?_;rw[jW,if_pos hns,sH hp,if_pos hra];rw[show kP (iF (aW c) 3 (lineOf p.addr) mH)=mQ (iF (aW c) 3 (lineOf p.addr) mH)from if_neg hlt,tV (d:=(iF (aW c) 3 (lineOf p.addr) mH)) hq4];exact oX (rs:=[]) rfl (σ:=λ z=>z) ⟨rfl,rfl⟩ rfl (cF (λ z=>z) rfl rfl wH rfl)
    ·have hq4: ¬ ((cP (iF (aW c) 3 (lineOf p.addr) (⟨#[]⟩:ByteArray)).data).isSome=true∧((cP (iF (aW c) 3 (lineOf p.addr) (⟨#[]⟩:ByteArray)).data).getD pC).data.size≠0):=by have z:=h4;rw[Al]at z;simpa [pM]using z
     refine aZ ?_;rw[jW,if_pos hns,sH hp,if_pos hra];rw[show kP (iF (aW c) 3 (lineOf p.addr) mH)=mQ (iF (aW c) 3 (lineOf p.addr) mH)from if_neg hlt,vP (d:=(iF (aW c) 3 (lineOf p.addr) mH)) hq4];exact oX (rs:=[]) rfl (σ:=λ z=>z) ⟨rfl,rfl⟩ rfl (cF (λ z=>z) rfl rfl wH rfl)
  ·have hra: ¬ (CW (aW c).bus (lineOf p.addr) 3=false∧pW (aW c) true=true):=by have z:=h2;show ¬ (CW c.bus _ _=false∧_);simpa [c2a]using z
   refine aZ<|aE<|cSR<|oR 5 rfl<|rW (vN (((aW c).stores).length)) rfl (bQ ptL ((aW c).stores))<|rW (vB (decide ((((aW c).stores).length)>0))) rfl (okB (gtN _ _))<|oR 1 rfl<|gN rfl<|gS rfl id<|gS rfl id<|gS rfl id<|gS rfl id<|gBS (x:=vB (c.halt==0)) rfl id rfl<|cH rfl rfl rfl (by simp)<|rE 81 ?_;refine aU rfl (λ h5=>?_) (λ h5=>?_)
   ·have hlt:((aW c).stores≠[]∨c.halt=0):=by have z:=h5;simpa [c2o,eY]using z
    refine cT ?_;rw[jW,if_pos hns,sH hp,if_neg hra];rw[show kP (aW c)=(aW c)from if_pos hlt];exact oX (rs:=[]) rfl (σ:=λ z=>z) ⟨rfl,rfl⟩ rfl (cF (λ z=>z) rfl rfl wH rfl)
   ·have hlt: ¬ ((aW c).stores≠[]∨c.halt=0):=by have z:=h5;simpa [c2o,eY]using z
    refine aZ<|cSR<|oR 5 rfl<|rCi rfl (GI (aW c).data (eN hm).ok.data)<|oR 3 rfl<|rAl 90 rfl rfl<|rSt rfl<|oR 1 rfl<|rE 93<|cSR<|oR 2 rfl<|gN rfl<|gS rfl id<|gBS (x:=vB (!((((cP (aW c).data).getD pC).data).toList==(⟨#[]⟩:ByteArray).toList))) rfl id rfl ?_;refine cH rfl rfl rfl (λ h=>h)<|rE 99 ?_;refine aU rfl (λ h6=>?_) (λ h6=>?_)
    ·have hq4:((cP (aW c).data).isSome=true∧((cP (aW c).data).getD pC).data.size≠0):=by have z:=h6;rw[Al]at z;simpa [pM]using z
     have hcd:Ca.ok (aW c).data:=(eN hm).ok.data;refine cSR<|oR 5 rfl<|eE (args:=[.ptr 0 0,vI 4,vU (((cP (aW c).data).getD pC).line),.v (.string (((cP (aW c).data).getD pC).data))]) (d:=104) _ rfl rfl rfl ((Vv (aW c) nb (eN hm) 4 (((cP (aW c).data).getD pC).line) (((cP (aW c).data).getD pC).data) ((eN hm).gd.dirtyLe) kR xR kF xF false ((aW c).stores.map ptL) kT xT).frameB (λ z=>z) _ _ rfl ⟨⟨rfl,rfl,rfl,rfl⟩,trivial⟩ rfl rfl rfl rfl) ?_;rintro _ _ ⟨rfl,rfl⟩;refine rE 105<|cRg<|oR 8 rfl<|rCi rfl (GG ((iF (aW c) 4 (((cP (aW c).data).getD pC).line) (((cP (aW c).data).getD pC).data)).data) (((cP (aW c).data).getD pC).line) hcd ((eN hm).gd.dirtyLe))<|oR 3 rfl<|rSx 0 (mcX ({iF (aW c) 4 (((cP (aW c).data).getD pC).line) (((cP (aW c).data).getD pC).data)with data:=(uR ((iF (aW c) 4 (((cP (aW c).data).getD pC).line) (((cP (aW c).data).getD pC).data)).data) (((cP (aW c).data).getD pC).line))}:Co) (.sl 17 xR kR) (.sl 2 xF kF) (.sl 2 (((aW c).stores).map ptL) false) (.sl 9 xT kT)) rfl rfl rfl<|rE 118 ?_;rw[jW,if_pos hns,sH hp,if_neg hra];rw[show kP (aW c)=mQ (aW c)from if_neg hlt,tV (d:=(aW c)) hq4];exact oX (rs:=[]) rfl (σ:=λ z=>z) ⟨rfl,rfl⟩ rfl (cF (λ z=>z) rfl rfl wH rfl)
    ·have hq4: ¬ ((cP (aW c).data).isSome=true∧((cP (aW c).data).getD pC).data.size≠0):=by have z:=h6;rw[Al]at z;simpa [pM]using z
     refine aZ ?_;rw[jW,if_pos hns,sH hp,if_neg hra];rw[show kP (aW c)=mQ (aW c)from if_neg hlt,vP (d:=(aW c)) hq4];exact oX (rs:=[]) rfl (σ:=λ z=>z) ⟨rfl,rfl⟩ rfl (cF (λ z=>z) rfl rfl wH rfl)
 ·have hns: ¬ ((pV c.stores c.data).2.2=false∧(aW c).stores≠[]):=by have z:=h1;simpa [c2a,eY]using z
  refine aZ<|aE<|cSR<|oR 5 rfl<|rW (vN (((aW c).stores).length)) rfl (bQ ptL ((aW c).stores))<|rW (vB (decide ((((aW c).stores).length)>0))) rfl (okB (gtN _ _))<|oR 1 rfl<|gN rfl<|gS rfl id<|gS rfl id<|gS rfl id<|gS rfl id<|gBS (x:=vB (c.halt==0)) rfl id rfl<|cH rfl rfl rfl (by simp)<|rE 58 ?_;refine aU rfl (λ h7=>?_) (λ h7=>?_)
  ·have hlt:((aW c).stores≠[]∨c.halt=0):=by have z:=h7;simpa [c2o,eY]using z
   refine cT ?_;rw[jW,if_neg hns];rw[show kP (aW c)=(aW c)from if_pos hlt];exact oX (rs:=[]) rfl (σ:=λ z=>z) ⟨rfl,rfl⟩ rfl (cF (λ z=>z) rfl rfl wH rfl)
  ·have hlt: ¬ ((aW c).stores≠[]∨c.halt=0):=by have z:=h7;simpa [c2o,eY]using z
   refine aZ<|cSR<|oR 5 rfl<|rCi rfl (GI (aW c).data (eN hm).ok.data)<|oR 3 rfl<|rAl 67 rfl rfl<|rSt rfl<|oR 1 rfl<|rE 70<|cSR<|oR 2 rfl<|gN rfl<|gS rfl id<|gBS (x:=vB (!((((cP (aW c).data).getD pC).data).toList==(⟨#[]⟩:ByteArray).toList))) rfl id rfl ?_;refine cH rfl rfl rfl (λ h=>h)<|rE 76 ?_;refine aU rfl (λ h8=>?_) (λ h8=>?_)
   ·have hq4:((cP (aW c).data).isSome=true∧((cP (aW c).data).getD pC).data.size≠0):=by have z:=h8;rw[Al]at z;simpa [pM]using z
    have hcd:Ca.ok (aW c).data:=(eN hm).ok.data;refine cSR<|oR 5 rfl<|eE (args:=[.ptr 0 0,vI 4,vU (((cP (aW c).data).getD pC).line),.v (.string (((cP (aW c).data).getD pC).data))]) (d:=104) _ rfl rfl rfl ((Vv (aW c) nb (eN hm) 4 (((cP (aW c).data).getD pC).line) (((cP (aW c).data).getD pC).data) ((eN hm).gd.dirtyLe) kR xR kF xF false ((aW c).stores.map ptL) kT xT).frameB (λ z=>z) _ _ rfl ⟨⟨rfl,rfl,rfl,rfl⟩,trivial⟩ rfl rfl rfl rfl) ?_;rintro _ _ ⟨rfl,rfl⟩;refine rE 82<|cRg<|oR 8 rfl<|rCi rfl (GG ((iF (aW c) 4 (((cP (aW c).data).getD pC).line) (((cP (aW c).data).getD pC).data)).data) (((cP (aW c).data).getD pC).line) hcd ((eN hm).gd.dirtyLe))<|oR 3 rfl<|rSx 0 (mcX ({iF (aW c) 4 (((cP (aW c).data).getD pC).line) (((cP (aW c).data).getD pC).data)with data:=(uR ((iF (aW c) 4 (((cP (aW c).data).getD pC).line) (((cP (aW c).data).getD pC).data)).data) (((cP (aW c).data).getD pC).line))}:Co) (.sl 17 xR kR) (.sl 2 xF kF) (.sl 2 (((aW c).stores).map ptL) false) (.sl 9 xT kT)) rfl rfl rfl<|rE 95 ?_;rw[jW,if_neg hns];rw[show kP (aW c)=mQ (aW c)from if_neg hlt,tV (d:=(aW c)) hq4];exact oX (rs:=[]) rfl (σ:=λ z=>z) ⟨rfl,rfl⟩ rfl (cF (λ z=>z) rfl rfl wH rfl)
   ·have hq4: ¬ ((cP (aW c).data).isSome=true∧((cP (aW c).data).getD pC).data.size≠0):=by have z:=h8;rw[Al]at z;simpa [pM]using z
    refine aZ ?_;rw[jW,if_neg hns];rw[show kP (aW c)=mQ (aW c)from if_neg hlt,vP (d:=(aW c)) hq4];exact oX (rs:=[]) rfl (σ:=λ z=>z) ⟨rfl,rfl⟩ rfl (cF (λ z=>z) rfl rfl wH rfl)
theorem Uy(a:Addr)(k:Nat)(w:World):Calls Tryz.prog 86 #[.slice (some a) 0 k] w λ e w'=>∃ v,e=.returned v∧Below w.heap.size w w'∧∃ A c,v=.slice A 0 c∧c≤maxLen:=by
 obtain⟨i0,z0,hi, -⟩:=(c0Ok.ty 95 _ rfl).info
 go_enter Tryz.func86,Tryz.ntmps86
 have hb:Sem.run Tryz.prog (binOp .eql 29 (.slice (some a) 0 k) (.slice none 0 0)) w=.ok (.bool false) w:=by
  have e1:(Op.equal 29 (.slice (some a) 0 k) (.slice none 0 0)).run Tryz.prog w=.ok (some a).isNone w:=As Tryz.prog w 9999 _ 95 (c0Ok.ty 29 _ rfl).kd _ _ _;simp only[binOp,Sem.run_bind,e1,Result.andThen_ok];rfl
 go_wp2_with (first|(rw[hb];simp only[Result.andThen_ok,Oper.upon])|(at_builtin;refine wQ rfl (.tmp 5) (.tmp 6) 29 rfl 95 i0 (c0Ok.ty 29 _ rfl).kd hi _ _ _ _ rfl rfl ?_))
 go_ret
 exact⟨_,rfl,(Below.refl _ _).alloc (aC _) _,_,_,rfl,aF _⟩
theorem LN(k:Nat):bY C0 86 [.v (.slice none 0 k)] (.sl 0 [] true):=by
 refine bY.intro c0Ok Tryz.func86 rfl rfl (by kernel_rfl) rfl<|cSR<|oR 1 rfl<|rE 1<|aE<|cSR<|oR 1 rfl<|rV (vB true) rfl<|rE 3 ?_;refine aU rfl (λ _=>?_) (λ h=>by cases h);refine cSR<|oR 1 rfl<|rE 4<|cT ?_;exact fT rfl rfl
theorem RS(ck:Bool):bY C0 86 [.sl 17 [] ck] (.sl 17 [] false):=by
 refine⟨(LN 0).1,λ S w vs hS hG hr=>?_⟩
 match vs,hr with
 |[],hr=>simp[RepL]at hr
 |_::_::_,hr=>simp[RepL]at hr
 | [v],hr=>
  have h0:=hr.2 0 _ v rfl rfl
  cases h0 with
  | sl _ _ _ A c b o u hc hm hcl hrs hA hw h1 h'=>
   cases A with
   |none=>exact ((LN c).sub (uP 17 false)).2 S w _ hS hG (RepL.cons (.v _) (RepL.nil _ _ _))
   |some a=>
    exact (Uy a c w).mono λ e w' ⟨v,h1,h2,A,c',h3,h4⟩=>⟨v,h1,h2,h3 ▸ .sl 17 [] false A c' 0 0 (λ _ _=>.bool false) (aF _) h4 (λ h=>by cases h) (λ _ h=>by cases h) (λ h=>absurd h (gX 0)) (λ i row j a h=>by simp at h) (λ _ _=>rfl) λ i row j a h=>by simp at h⟩
theorem RT{p:Prop}{H:AH}{s:Nat}(e:Ent)(l:List Ent):Res.fx p (.osl s 0 (([]:List (List AV)).length+((e::l).map enL).length) false) (upd H s (some (.arr (([]:List (List AV))++(e::l).map enL) 17)))=.fx p (.osl s 0 (l.length+1) false) (upd H s (some (.arr ((e::l).map enL) 17))):=by
 rw[iN,aO,bN,cW,bU]
theorem Uz(e:Ent)(l:List Ent)(ck:Bool)(hl:l.length≤1000):pJ C0.P C0.G 86 [.sl 17 ((e::l).map enL) ck] (heapF []) 0 (λ x h'=>x=.osl 0 0 (l.length+1) false∧h'=heapF [(0,.arr ((e::l).map enL) 17)]):=by
 refine HCall.intro (C:=C0) (s:=0) c0Ok.at Tryz.func86 rfl rfl (by kernel_rfl) rfl rfl<|cSR<|oR 1 rfl<|rE 1<|aE<|cSR<|oR 1 rfl<|rV (vB false) rfl<|rE 3 ?_;refine aU rfl (λ h=>by cases h) (λ _=>?_);refine aZ<|cSR<|rV (.sl 17 ([]) true) rfl<|oR 1 rfl<|rFx (x:=.osl 5 0 (l.length+1) false) (h':=upd _ 5 (some (.arr ((e::l).map enL) 17))) rfl rfl (RT e l) (⟨by simp only[aO,bN,cW,oL];omega,by simp,trivial,trivial⟩)<|oR 1 rfl<|rE 7<|cT ?_;exact oX (rs:=[.osl 5 0 (l.length+1) false]) rfl (r:=.osl 0 0 (l.length+1) false) (h':=heapF [(0,.arr ((e::l).map enL) 17)]) (σ:=λ _=>5) ⟨rfl,rfl⟩ rfl (cF (λ _=>5) rfl rfl wH rfl)
theorem SR(l:List Ft)(ck:Bool)(hl:l.length≤1000000):bY C0 87 [.sl 2 (l.map ftL) ck] (.sl 2 (l.map ftL) true):=by
 refine bY.intro c0Ok Tryz.func87 rfl rfl (by kernel_rfl) rfl<|cSR<|oR 1 rfl<|rE 1<|cSR<|oR 2 rfl<|rW (vN l.length) rfl (bQ ftL l)<|oR 1 rfl<|rW (vN l.length) rfl (bQ ftL l) ?_;refine nW (.sl 2 ((l.take l.length).map ftL) true) rfl (vX (tT ftL l l.length)) (by refine⟨?_,?_,?_,?_⟩;all_goals (first|exact aI _|decide|(apply Eo.2;exact omT)|(show (_:Int)=(_:Int);congr 1;omega)|rfl)) ?_;refine oR 1 rfl<|rE 8<|cT<|fT rfl ?_;show AV.sl 2 (List.map ftL (List.take l.length l)) true=_;rw[dI]
theorem SS(l:List Pt)(ck:Bool)(hl:l.length≤1000000):bY C0 88 [.sl 2 (l.map ptL) ck] (.sl 2 (l.map ptL) true):=by
 refine bY.intro c0Ok Tryz.func88 rfl rfl (by kernel_rfl) rfl<|cSR<|oR 1 rfl<|rE 1<|cSR<|oR 2 rfl<|rW (vN l.length) rfl (bQ ptL l)<|oR 1 rfl<|rW (vN l.length) rfl (bQ ptL l) ?_;refine nW (.sl 2 ((l.take l.length).map ptL) true) rfl (vX (tT ptL l l.length)) (by refine⟨?_,?_,?_,?_⟩;all_goals (first|exact aI _|decide|(apply Eo.2;exact omT)|(show (_:Int)=(_:Int);congr 1;omega)|rfl)) ?_;refine oR 1 rfl<|rE 8<|cT<|fT rfl ?_;show AV.sl 2 (List.map ptL (List.take l.length l)) true=_;rw[dI]
theorem ST(l:List Req)(ck:Bool)(hl:l.length≤1000000):bY C0 89 [.sl 4 (l.map rqL) ck] (.sl 4 (l.map rqL) true):=by
 refine bY.intro c0Ok Tryz.func89 rfl rfl (by kernel_rfl) rfl<|cSR<|oR 1 rfl<|rE 1<|cSR<|oR 2 rfl<|rW (vN l.length) rfl (bQ rqL l)<|oR 1 rfl<|rW (vN l.length) rfl (bQ rqL l) ?_;refine nW (.sl 4 ((l.take l.length).map rqL) true) rfl (vX (tT rqL l l.length)) (by refine⟨?_,?_,?_,?_⟩;all_goals (first|exact aI _|decide|(apply Eo.2;exact omT)|(show (_:Int)=(_:Int);congr 1;omega)|rfl)) ?_;refine oR 1 rfl<|rE 8<|cT<|fT rfl ?_;show AV.sl 4 (List.map rqL (List.take l.length l)) true=_;rw[dI]
theorem SU(l:List Sp)(ck:Bool)(hl:l.length≤1000000):bY C0 90 [.sl 9 (l.map spL) ck] (.sl 9 (l.map spL) true):=by
 refine bY.intro c0Ok Tryz.func90 rfl rfl (by kernel_rfl) rfl<|cSR<|oR 1 rfl<|rE 1<|cSR<|oR 2 rfl<|rW (vN l.length) rfl (bQ spL l)<|oR 1 rfl<|rW (vN l.length) rfl (bQ spL l) ?_;refine nW (.sl 9 ((l.take l.length).map spL) true) rfl (vX (tT spL l l.length)) (by refine⟨?_,?_,?_,?_⟩;all_goals (first|exact aI _|decide|(apply Eo.2;exact omT)|(show (_:Int)=(_:Int);congr 1;omega)|rfl)) ?_;refine oR 1 rfl<|rE 8<|cT<|fT rfl ?_;show AV.sl 9 (List.map spL (List.take l.length l)) true=_;rw[dI]
theorem nN{c:Co}{fz:Fz}{R R' F F' S S' T T':AV}(hR:LeZ fz R R')(hF:LeZ fz F F')(hS:LeZ fz S S')(hT:LeZ fz T T'):LeL fz (mcX c R F S T) (mcX c R' F' S' T'):=
 ⟨.refl _,.refl _,.refl _,.refl _,.refl _,.refl _,.refl _,.refl _,.refl _,.refl _,.refl _,.refl _,.refl _,.refl _,.refl _,.refl _,.refl _,.refl _,.refl _,.refl _,.refl _,.refl _,.refl _,.refl _,.refl _,.refl _,.refl _,.refl _,.refl _,.refl _,.refl _,.refl _,.refl _,.refl _,.refl _,.refl _,.refl _,.refl _,.refl _,.refl _,.refl _,.refl _,.refl _,.refl _,.refl _,.refl _,.refl _,hF,hR,.refl _,hS,.refl _,.refl _,.refl _,.refl _,.refl _,.refl _,.refl _,.refl _,.refl _,.refl _,.refl _,.refl _,hT,trivial⟩
theorem BB{C:Ctx}{fn:Func}{Post:AV→AH→Prop}{s:Nat}{st stg:ASt}{rs:List AV}(h1:resA C st fn.results.toList=some rs)(hg:Ghosts ⟨Hn (Cz rs),st.h,st.n⟩ stg){r:AV}{h':AH}{σ:Nat→Nat}(hP:Post r h')(hk:keepB s σ (s+1)=true)(hW:Weak stg ⟨Hn r,h',s+1⟩ σ):
  ∃ rs,resA C st fn.results.toList=some rs∧GhostN ⟨Hn (Cz rs),st.h,st.n⟩ (λ stg=>∃ r h' σ,Post r h'∧keepB s σ (s+1)=true∧Weak stg ⟨Hn r,h',s+1⟩ σ):=
 ⟨rs,h1,.mk _ hg ⟨r,h',σ,hP,hk,hW⟩⟩
theorem eX{x r:AV}{h:AH}{n0:Nat}{hp:List (Nat×Blk)}{n:Nat}(σ:Nat→Nat)(hx:x=uK σ r)(hb:mW n r=true)(hh:WH ⟨cI [(0,x)],h,n0⟩ n σ hp)(hi:EM ((hp.map (·.1)).map σ)=true):Weak ⟨cI [(0,x)],h,n0⟩ ⟨Hn r,heapF hp,n⟩ σ:=by
 have W:=Weak.of_lists (st:=⟨cI [(0,x)],h,n0⟩) (l:=[(0,r)]) (hp:=hp) (n:=n) σ ⟨⟨hx,hb⟩,trivial⟩ hh hi;refine⟨λ i=>?_,W.h,W.inj⟩;have:=W.t i
 cases i with
 |zero=>exact this
 |succ i=>exact .inl rfl
theorem Xl(c:Co)(nb:Nat)(hm:c.okM nb)(kR kF kS kT:Bool):pJ C0.P C0.G 51 [.ptr 0 0] (heapF [(0,.box (mcX c (.sl 17 [] kR) (.sl 2 (c.fetched.map ftL) kF) (.sl 2 (c.stores.map ptL) kS) (.sl 9 (c.retired.map spL) kT)))]) 1 (λ x h'=>x=.tup []∧h'=heapF [(0,.box (mcX c (.sl 17 [] false) (.sl 2 (c.fetched.map ftL) true) (.sl 2 (c.stores.map ptL) true) (.sl 9 (c.retired.map spL) true)))]):=by
 refine HCall.intro (C:=C0) (s:=1) c0Ok.at Tryz.func51 rfl rfl (by kernel_rfl) rfl rfl<|cSR<|oR 6 rfl<|rCi rfl (RS kR)<|oR 3 rfl<|rSx 0 (mcX c (.sl 17 ([]) false) (.sl 2 (c.fetched.map ftL) kF) (.sl 2 (c.stores.map ptL) kS) (.sl 9 (c.retired.map spL) kT)) rfl rfl rfl<|rE 12<|cSR<|oR 6 rfl<|rCi rfl (SR c.fetched kF (by have:=hm.fet;omega))<|oR 3 rfl<|rSx 0 (mcX c (.sl 17 ([]) false) (.sl 2 (c.fetched.map ftL) true) (.sl 2 (c.stores.map ptL) kS) (.sl 9 (c.retired.map spL) kT)) rfl rfl rfl<|rE 23<|aE ?_;refine cRg<|oR 6 rfl<|rCi rfl (SS c.stores kS (by have:=hm.sto;omega))<|oR 3 rfl<|rSx 0 (mcX c (.sl 17 ([]) false) (.sl 2 (c.fetched.map ftL) true) (.sl 2 (c.stores.map ptL) true) (.sl 9 (c.retired.map spL) kT)) rfl rfl rfl<|rE 34<|cSR<|oR 6 rfl<|rCi rfl (ST c.bus false (by have:=hm.bus;omega))<|oR 3 rfl<|rSt rfl<|rE 45<|cRg<|oR 6 rfl<|rCi rfl (SU c.retired kT (by have:=hm.ret;omega)) ?_;refine oR 3 rfl<|rSt rfl<|rE 56 ?_;exact BB (rs:=[]) rfl (.step none (Ghost.of_lists (l:=[(0,.tup [])]) (hp:=[(0,.box (mcX c (.sl 17 [] false) (.sl 2 (c.fetched.map ftL) true) (.sl 2 (c.stores.map ptL) true) (.sl 9 (c.retired.map spL) true)))]) trivial ⟨.refl _,trivial⟩ ⟨⟨trivial,_,rfl,LeB.boxL ⟨.refl _,.refl _,.refl _,.refl _,.refl _,.refl _,.refl _,.refl _,.refl _,.refl _,.refl _,.refl _,.refl _,.refl _,.refl _,.refl _,.refl _,.refl _,.refl _,.refl _,.refl _,.refl _,.refl _,.refl _,.refl _,.refl _,.refl _,.refl _,.refl _,.refl _,.refl _,.refl _,.refl _,.refl _,.refl _,.refl _,.refl _,.refl _,.refl _,.refl _,.refl _,.refl _,.refl _,.refl _,.refl _,.refl _,.refl _,.refl _,.refl _,.refl _,.refl _,.refl _,.refl _,.refl _,.refl _,.clip _ _,.refl _,.refl _,.refl _,.refl _,.refl _,.refl _,.refl _,.refl _,trivial⟩⟩,trivial⟩) (.refl _)) (r:=.tup []) (h':=heapF [(0,.box (mcX c (.sl 17 [] false) (.sl 2 (c.fetched.map ftL) true) (.sl 2 (c.stores.map ptL) true) (.sl 9 (c.retired.map spL) true)))]) (σ:=λ z=>z) ⟨rfl,rfl⟩ rfl (eX (λ z=>z) rfl rfl wH rfl)
theorem Xm(c:Co)(nb:Nat)(hm:c.okM nb)(e:Ent)(l:List Ent)(hel:(e::l).length≤1000)(kR kF kS kT:Bool):pJ C0.P C0.G 51 [.ptr 0 0] (heapF [(0,.box (mcX c (.sl 17 ((e::l).map enL) kR) (.sl 2 (c.fetched.map ftL) kF) (.sl 2 (c.stores.map ptL) kS) (.sl 9 (c.retired.map spL) kT)))]) 1 (λ x h'=>x=.tup []∧h'=heapF [(0,.box (mcX c (.osl 1 0 (l.length+1) false) (.sl 2 (c.fetched.map ftL) true) (.sl 2 (c.stores.map ptL) true) (.sl 9 (c.retired.map spL) true))),(1,.arr ((e::l).map enL) 17)]):=by
 refine HCall.intro (C:=C0) (s:=1) c0Ok.at Tryz.func51 rfl rfl (by kernel_rfl) rfl rfl ?_;have hel2:l.length+1≤1000:=hel;refine cSR<|oR 6 rfl<|eE (args:=[.sl 17 ((e::l).map enL) kR]) (d:=8) _ rfl rfl rfl ((Uz e l kR omT).frame0 _ _ rfl) ?_;rintro _ _ ⟨rfl,rfl⟩;refine oR 3 rfl<|rSx 0 (mcX c (.osl 7 0 (l.length+1) false) (.sl 2 (c.fetched.map ftL) kF) (.sl 2 (c.stores.map ptL) kS) (.sl 9 (c.retired.map spL) kT)) rfl rfl rfl<|rE 12<|cSR<|oR 6 rfl<|rCi rfl (SR c.fetched kF (by have:=hm.fet;omega))<|oR 3 rfl<|rSx 0 (mcX c (.osl 7 0 (l.length+1) false) (.sl 2 (c.fetched.map ftL) true) (.sl 2 (c.stores.map ptL) kS) (.sl 9 (c.retired.map spL) kT)) rfl rfl rfl<|rE 23<|cSR<|oR 6 rfl<|rCi rfl (SS c.stores kS (by have:=hm.sto;omega))<|oR 3 rfl<|rSx 0 (mcX c (.osl 7 0 (l.length+1) false) (.sl 2 (c.fetched.map ftL) true) (.sl 2 (c.stores.map ptL) true) (.sl 9 (c.retired.map spL) kT)) rfl rfl rfl ?_;refine rE 34<|cSR<|oR 6 rfl<|rCi rfl (ST c.bus false (by have:=hm.bus;omega))<|oR 3 rfl<|rSt rfl<|rE 45<|cRg<|oR 6 rfl<|rCi rfl (SU c.retired kT (by have:=hm.ret;omega))<|oR 3 rfl<|rSt rfl<|rE 56 ?_;exact BB (rs:=[]) rfl (.step none (Ghost.of_lists (l:=[(0,.tup [])]) (hp:=[(0,.box (mcX c (.osl 7 0 (l.length+1) false) (.sl 2 (c.fetched.map ftL) true) (.sl 2 (c.stores.map ptL) true) (.sl 9 (c.retired.map spL) true))),(7,.arr ((e::l).map enL) 17)]) trivial ⟨.refl _,trivial⟩ ⟨⟨trivial,_,rfl,LeB.boxL ⟨.refl _,.refl _,.refl _,.refl _,.refl _,.refl _,.refl _,.refl _,.refl _,.refl _,.refl _,.refl _,.refl _,.refl _,.refl _,.refl _,.refl _,.refl _,.refl _,.refl _,.refl _,.refl _,.refl _,.refl _,.refl _,.refl _,.refl _,.refl _,.refl _,.refl _,.refl _,.refl _,.refl _,.refl _,.refl _,.refl _,.refl _,.refl _,.refl _,.refl _,.refl _,.refl _,.refl _,.refl _,.refl _,.refl _,.refl _,.refl _,.refl _,.refl _,.refl _,.refl _,.refl _,.refl _,.refl _,.clip _ _,.refl _,.refl _,.refl _,.refl _,.refl _,.refl _,.refl _,.refl _,trivial⟩⟩,⟨trivial,_,rfl,.refl _⟩,trivial⟩) (.refl _)) (r:=.tup []) (h':=heapF [(0,.box (mcX c (.osl 1 0 (l.length+1) false) (.sl 2 (c.fetched.map ftL) true) (.sl 2 (c.stores.map ptL) true) (.sl 9 (c.retired.map spL) true))),(1,.arr ((e::l).map enL) 17)]) (σ:=λ z=>match z with|1=>7|z=>z) ⟨rfl,rfl⟩ rfl (eX (λ z=>match z with|1=>7|z=>z) rfl rfl wH rfl)
end Go.Proofs.YtlhofpglndhfaaaGreatDoor
