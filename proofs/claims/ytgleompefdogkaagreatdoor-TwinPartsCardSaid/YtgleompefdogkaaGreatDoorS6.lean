/- Joined texts. -/
import Derived.Deep.DeepCutAuto
import Derived.Test.YtgleompefdogkaaGreatDoorS1
import Derived.Test.YtgleompefdogkaaGreatDoorS5
set_option linter.unusedVariables false
set_option linter.unusedSimpArgs false
set_option linter.defProp false
namespace Go.Proofs.YtgleompefdogkaaGreatDoor
open Go.RowKit
structure SI where
 op:Int
 rd:Int
 rs1:Int
 rs2:Int
 imm:Nat
def SI.val(i:SI):Value:=.agg #[.int .i64 i.op,.int .i64 i.rd,.int .i64 i.rs1,.int .i64 i.rs2,.int .u32 i.imm]
def Br(f x:Nat):Nat:=
 if f=3 then(nU x (eB f)).1*2 ^ nV f%4294967296
 else if f=1∨f=8 then 0
 else sext ((nU x (eB f)).1*2 ^ nV f%4294967296) (uR (eB f)+nV f)
def lQ(op:Int)(x:Nat):SI:=
 {op:=op,rd:=if uS (cS op)then(field x 7 5:Nat)else 0,rs1:=if pI (cS op)then(field x 15 5:Nat)else 0,
  rs2:=if qK (cS op)then(field x 20 5:Nat)else 0,imm:=Br (cS op) x}
def GA{w:World}{a:Addr}{v:Value}(h:(w.cell? a).isSome=true):(w.setCell a v).cell? a=some v:=by
 obtain⟨u,hu⟩:=Fk.1 h;exact World.cell?_setCell_same _ _ _ hu
def EN{B:Nat}{a w:World}{b k:Nat}{v:Value}(h:Below B a w)(hb:B<=b):Below B a (w.setCell ⟨b,k,none⟩ v):=Below.setCell h hb v
def Ql(w:World):Calls Tryz.prog 133 #[.int .u32 0,.int .i64 0] w λe w'=>e=.returned (.int .u32 0)∧Below w.heap.size w w':=by
 go_enter Tryz.func133,Tryz.ntmps133
 go_wp2
 go_ret
 exact⟨rfl,rM _⟩
def Bs(x f:Nat):(nU x (eB f)).2=uR (eB f)∧(nU x (eB f)).1<4294967296:=by
 have:=CM x (eB f) (0,0) (by show 0<4294967296;omega) (vH f).1 (by have:=(vH f).2;omega);exact⟨by have h:=this.2;unfold nU;rw[h];exact bF _,this.1⟩
def Lk(x n:Nat)(h2:n<=32):sext x n<4294967296:=by
 have hp:=xA h2;have:=bE x (eH n);unfold sext;split<;>omega
end Go.Proofs.YtgleompefdogkaaGreatDoor
