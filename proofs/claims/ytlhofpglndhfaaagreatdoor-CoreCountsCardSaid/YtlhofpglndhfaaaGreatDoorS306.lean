/- Joined texts. -/
import Derived.Deep.DeepCutAuto
import Derived.Test.YtlhofpglndhfaaaGreatDoorS301
import Derived.Test.YtlhofpglndhfaaaGreatDoorS305
set_option linter.unusedVariables false
set_option linter.unusedSimpArgs false
namespace Go.Proofs.YtlhofpglndhfaaaGreatDoor
open Go.RowKit
structure SI where
 op:Int
 rd:Int
 rs1:Int
 rs2:Int
 imm:Nat
def SI.val(i:SI):Value:=.agg #[.int .i64 i.op,.int .i64 i.rd,.int .i64 i.rs1,.int .i64 i.rs2,.int .u32 i.imm]
def JG(f x:Nat):Nat:=
 if f=3 then (rZ x (eS f)).1 * 2 ^ qC f % 4294967296
 else if f=1∨f=8 then 0
 else sext ((rZ x (eS f)).1 * 2 ^ qC f % 4294967296) (wL (eS f)+qC f)
def yK(op:Int)(x:Nat):SI:=
 {op:=op,rd:=if yZ (dK op)then (field x 7 5:Nat)else 0,rs1:=if uL (dK op)then (field x 15 5:Nat)else 0,
  rs2:=if vL (dK op)then (field x 20 5:Nat)else 0,imm:=JG (dK op) x}
theorem Fd{w:World}{a:Addr}{v:Value}(h:(w.cell? a).isSome=true):(w.setCell a v).cell? a=some v:=by
 obtain⟨u,hu⟩:=Ep.1 h;exact World.cell?_setCell_same _ _ _ hu
theorem Dt{B:Nat}{a w:World}{b k:Nat}{v:Value}(h:Below B a w)(hb:B≤b):Below B a (w.setCell ⟨b,k,none⟩ v):=Below.setCell h hb v
theorem ND(w:World):Calls Tryz.prog 197 #[.int .u32 0,.int .i64 0] w λ e w'=>e=.returned (.int .u32 0)∧Below w.heap.size w w':=by
 go_enter Tryz.func197,Tryz.ntmps197
 go_wp2
 go_ret
 exact⟨rfl,qL _⟩
theorem Au(x f:Nat):(rZ x (eS f)).2=wL (eS f)∧(rZ x (eS f)).1<4294967296:=by
 have:=BJ x (eS f) (0,0) (by show 0<4294967296;omega) (tZ f).1 (by have:=(tZ f).2;show 0+_≤32;omega);exact⟨by have h:=this.2;unfold rZ;rw[h];exact bU _,this.1⟩
theorem JH(x n:Nat)(h2:n≤32):sext x n<4294967296:=by
 have hp:=xH h2;have:=bG x (fW n);unfold sext;split<;>omega
end Go.Proofs.YtlhofpglndhfaaaGreatDoor
