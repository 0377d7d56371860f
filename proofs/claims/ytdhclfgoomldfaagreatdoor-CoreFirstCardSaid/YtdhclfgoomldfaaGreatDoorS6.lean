/- Lemmas. -/
import Derived.Deep.DeepCutAuto
import Derived.Test.YtdhclfgoomldfaaGreatDoorS1
import Derived.Test.YtdhclfgoomldfaaGreatDoorS5
set_option linter.all false
namespace Go.Proofs.YtdhclfgoomldfaaGreatDoor
open Go.Proofs.Tryz
open Go.RowKit
structure SI where
 op:Int
 rd:Int
 m:Int
 x:Int
 A:Nat
def SI.val(i:SI):Value:=.agg #[.int .i64 i.op,.int .i64 i.rd,.int .i64 i.m,.int .i64 i.x,.int .u32 i.A]
def EG(f x:Nat):Nat:=
 if f=3 then(rZ x (eQ f)).1*2 ^ qN f%4294967296
 else if f=1∨f=8 then 0
 else cp ((rZ x (eQ f)).1*2 ^ qN f%4294967296) (xH (eQ f)+qN f)
def xW(op:Int)(x:Nat):SI:=
 {op:=op,rd:=if yW (cW op)then(an x 7 5:Nat)else 0,m:=if uS (cW op)then(an x 15 5:Nat)else 0,
  x:=if vS (cW op)then(an x 20 5:Nat)else 0,A:=EG (cW op) x}
def GC{w:World}{a}{v}(h:(w.cell? a).isSome=true):(w.setCell a v).cell? a=some v:=by
 let⟨u,b⟩:=FH.1 h;exact World.cell?_setCell_same _ _ _ b
def EH{B:Nat}{a w:World}{b k:Nat}{v:Value}(h:Below B a w)(c:B<=b):Below B a (w.setCell ⟨b,k,none⟩ v):=Below.setCell h c v
def PZ(w):Calls Tryz.prog 150 #[.int .u32 0,.int .i64 0] w λe w'=>e=.returned (.int .u32 0)∧Below w.heap.size w w':=by
 go_enter func150,ntmps150
 go_wp2
 go_ret
 exact⟨rfl,rD _⟩
def BA(x f):(rZ x (eQ f)).2=xH (eQ f)∧(rZ x (eQ f)).1<4294967296:=by
 have:=CR x _ (0,0) (oT:0<4294967296) (vF f).1 (oH ((vF f).2));exact⟨by have h:=this.2;unfold rZ;rw[h];exact bJ _,this.1⟩
def Ia(x n)(a:n<=32):cp x n<4294967296:=by
 have hp:=wV a;have:=aQ x (eI n);unfold cp;split<;>omega
end Go.Proofs.YtdhclfgoomldfaaGreatDoor
