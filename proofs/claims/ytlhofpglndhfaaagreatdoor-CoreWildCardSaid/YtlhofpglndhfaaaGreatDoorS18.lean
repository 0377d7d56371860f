/- Joined texts. -/
import Derived.Test.YtlhofpglndhfaaaGreatDoorS1
import Derived.Test.YtlhofpglndhfaaaGreatDoorS7
set_option linter.unusedVariables false
set_option linter.unusedSimpArgs false
namespace Go.Proofs.YtlhofpglndhfaaaGreatDoor
open Go.RowKit
def Hm(i:SI):Nat:=
 let f:=dK i.op
 let w0:=code i.op.toNat ||| (sS (i.imm / 2 ^ qC f) (eS f)).1
 let w1:=if yZ f then setf w0 7 5 (i.rd % 4294967296).toNat else w0
 let w2:=if uL f then setf w1 15 5 (i.rs1 % 4294967296).toNat else w1
 if vL f then setf w2 20 5 (i.rs2 % 4294967296).toNat else w2
theorem BV(v:Nat)(f:Nat)(hv:v<4294967296):(sS v (eS f)).1<4294967296:=
 (Av (eS f) (0,v) (by show 0<4294967296;omega) hv (tZ f).1).1
theorem Pl(i:SI)(hi:i.imm<4294967296):Hm i<4294967296:=by
 unfold Hm;have h0:code i.op.toNat ||| (sS (i.imm / 2 ^ qC (dK i.op)) (eS (dK i.op))).1<4294967296:=
  mL (n:=32) (Gj _) (BV _ _ (bM (fE _ _) hi))
 have hs:∀ w a v,w<4294967296→a+5≤32→setf w a 5 v<4294967296:=λ w a v hw ha=>Dv w a 5 v ha hw;dsimp only
 repeat' (first|assumption|refine hs _ _ _ ?_ (by omega)|split)
theorem Pm(f x:Nat)(hf:f≤8):JG f x<4294967296:=by
 have hc:f=0∨f=1∨f=2∨f=3∨f=4∨f=5∨f=6∨f=7∨f=8:=by omega
 unfold JG;split
 ·exact bG _ (by omega)
 ·split
  ·omega
  ·refine JH _ _ ?_;rcases hc with rfl|rfl|rfl|rfl|rfl|rfl|rfl|rfl|rfl<;>decide
theorem MG(op:Int)(hop:1≤op∧op≤48):1≤dK op:=by
 unfold dK
 repeat' (split<;>try omega)
end Go.Proofs.YtlhofpglndhfaaaGreatDoor
