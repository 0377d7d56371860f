/- Lemmas. -/
import Derived.Deep.DeepCutAuto
import Derived.Test.YtlpkggpdjobpmaaGreatDoorS1
import Derived.Test.YtlpkggpdjobpmaaGreatDoorS5
set_option linter.all false
namespace Go.Proofs.YtlpkggpdjobpmaaGreatDoor
open Go.Proofs.Tryz
open Go.RowKit
structure SI where
 op:Int
 rd:Int
 ag0:Int
 ag1:Int
 agR:Nat
def SI.val(i:SI):Value:=.agg #[.int .i64 i.op,.int .i64 i.rd,.int .i64 i.ag0,.int .i64 i.ag1,.int .u32 i.agR]
def EG(f x:Nat):Nat:=
 if f=3 then(rZ x (eQ f)).1*2 ^ qN f%4294967296
 else if f=1∨f=8 then 0
 else sext ((rZ x (eQ f)).1*2 ^ qN f%4294967296) (xH (eQ f)+qN f)
def xW(op:Int)(x:Nat):SI:=
 {op:=op,rd:=if yW (cW op)then(field x 7 5:Nat)else 0,ag0:=if uS (cW op)then(field x 15 5:Nat)else 0,
  ag1:=if vS (cW op)then(field x 20 5:Nat)else 0,agR:=EG (cW op) x}
def GC{w:World}{a}{v}(h:(w.cell? a).isSome=true):(w.setCell a v).cell? a=some v:=by
 obtain⟨u,hu⟩:=FH.1 h;exact World.cell?_setCell_same _ _ _ hu
def EH{B:Nat}{a w:World}{b k:Nat}{v:Value}(h:Below B a w)(hb:B<=b):Below B a (w.setCell ⟨b,k,none⟩ v):=Below.setCell h hb v
def PZ(w):Calls Tryz.prog 149 #[.int .u32 0,.int .i64 0] w λe w'=>e=.returned (.int .u32 0)∧Below w.heap.size w w':=by
 go_enter func149,ntmps149
 go_wp2
 go_ret
 exact⟨rfl,rD _⟩
def BA(x f):(rZ x (eQ f)).2=xH (eQ f)∧(rZ x (eQ f)).1<4294967296:=by
 have:=CR x _ (0,0) (by show 0<4294967296;omega) (vF f).1 (oH ((vF f).2));exact⟨by have h:=this.2;unfold rZ;rw[h];exact bJ _,this.1⟩
def Ia(x n)(h2:n<=32):sext x n<4294967296:=by
 have hp:=wV h2;have:=aQ x (eI n);unfold sext;split<;>omega
end Go.Proofs.YtlpkggpdjobpmaaGreatDoor
