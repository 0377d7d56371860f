/- Joined texts. -/
import Derived.Deep.DeepCutAuto
import Derived.Test.YtlhofpglndhfaaaGreatDoorS201
import Derived.Test.YtlhofpglndhfaaaGreatDoorS205
set_option linter.unusedVariables false
set_option linter.unusedSimpArgs false
namespace Go.Proofs.YtlhofpglndhfaaaGreatDoor
open Go.RowKit
structure SI where
 op:Int
 rd:Int
 rs1:Int
 rs2:Int
 imm:Nat
def SI.val(i:SI):Value:=.agg #[.int .i64 i.op,.int .i64 i.rd,.int .i64 i.rs1,.int .i64 i.rs2,.int .u32 i.imm]
def Ba(f x:Nat):Nat:=
 if f=3 then (nN x (eD f)).1 * 2 ^ nO f % 4294967296
 else if f=1∨f=8 then 0
 else sext ((nN x (eD f)).1 * 2 ^ nO f % 4294967296) (tZ (eD f)+nO f)
def lY(op:Int)(x:Nat):SI:=
 {op:=op,rd:=if uA (cL op)then (field x 7 5:Nat)else 0,rs1:=if pB (cL op)then (field x 15 5:Nat)else 0,
  rs2:=if pZ (cL op)then (field x 20 5:Nat)else 0,imm:=Ba (cL op) x}
theorem FW{w:World}{a:Addr}{v:Value}(h:(w.cell? a).isSome=true):(w.setCell a v).cell? a=some v:=by
 obtain⟨u,hu⟩:=Fg.1 h;exact World.cell?_setCell_same _ _ _ hu
theorem Ec{B:Nat}{a w:World}{b k:Nat}{v:Value}(h:Below B a w)(hb:B≤b):Below B a (w.setCell ⟨b,k,none⟩ v):=Below.setCell h hb v
theorem OW(w:World):Calls Tryz.prog 197 #[.int .u32 0,.int .i64 0] w λ e w'=>e=.returned (.int .u32 0)∧Below w.heap.size w w':=by
 go_enter Tryz.func197,Tryz.ntmps197
 go_wp2
 go_ret
 exact⟨rfl,qU _⟩
theorem Bb(x f:Nat):(nN x (eD f)).2=tZ (eD f)∧(nN x (eD f)).1<4294967296:=by
 have:=Cu x (eD f) (0,0) (by show 0<4294967296;omega) (uL f).1 (by have:=(uL f).2;show 0+_≤32;omega);exact⟨by have h:=this.2;unfold nN;rw[h];exact bR _,this.1⟩
theorem KM(x n:Nat)(h2:n≤32):sext x n<4294967296:=by
 have hp:=vX h2;have:=aY x (eM n);unfold sext;split<;>omega
end Go.Proofs.YtlhofpglndhfaaaGreatDoor
