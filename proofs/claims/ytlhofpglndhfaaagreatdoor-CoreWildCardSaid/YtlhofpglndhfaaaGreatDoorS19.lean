/- Joined texts. -/
import Derived.Test.YtlhofpglndhfaaaGreatDoorS1
import Derived.Test.YtlhofpglndhfaaaGreatDoorS7
namespace Go.Proofs.YtlhofpglndhfaaaGreatDoor
open Go.RowKit
def CP(i:SI):Nat:=
 let f:=bF i.op
 let w0:=code i.op.toNat ||| (kK (i.imm / 2 ^ jL f) (bD f)).1
 let w1:=if qI f then setf w0 7 5 (i.rd % 4294967296).toNat else w0
 let w2:=if lM f then setf w1 15 5 (i.rs1 % 4294967296).toNat else w1
 if mJ f then setf w2 20 5 (i.rs2 % 4294967296).toNat else w2
theorem vP(v:Nat)(f:Nat)(hv:v<4294967296):(kK v (bD f)).1<4294967296:=
 (tB (bD f) (0,v) (by show 0<4294967296;omega) hv (eW f).1).1
theorem Km(i:SI)(hi:i.imm<4294967296):CP i<4294967296:=by
 unfold CP;have h0:code i.op.toNat ||| (kK (i.imm / 2 ^ jL (bF i.op)) (bD (bF i.op))).1<4294967296:=
  VC (n:=32) (BP _) (vP _ _ (Tt (Ur _ _) hi))
 have hs:∀ w a v,w<4294967296→a+5≤32→setf w a 5 v<4294967296:=λ w a v hw ha=>yG w a 5 v ha hw;dsimp only
 repeat' (first|assumption|refine hs _ _ _ ?_ (by omega)|split)
theorem Kn(f x:Nat)(hf:f≤8):yE f x<4294967296:=by
 have hc:f=0∨f=1∨f=2∨f=3∨f=4∨f=5∨f=6∨f=7∨f=8:=by omega
 unfold yE;split
 ·exact Tp _ (by omega)
 ·split
  ·omega
  ·refine qW _ _ ?_;rcases hc with rfl|rfl|rfl|rfl|rfl|rfl|rfl|rfl|rfl<;>decide
theorem HC(op:Int)(hop:1≤op∧op≤48):1≤bF op:=by
 unfold bF
 repeat' (split<;>try omega)
end Go.Proofs.YtlhofpglndhfaaaGreatDoor
