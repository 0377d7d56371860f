import Derived.Test.YtiaekocjeinkjaaGreatDoorRows
import Derived.Test.YtiaekocjeinkjaaGreatDoorCards
import Derived.Test.YtiaekocjeinkjaaGreatDoorTie
import Derived.LaidMore
import Derived.Lib.LaidTab
import Derived.Stop.Joined
import Derived.Test.YtiaekocjeinkjaaGreatDoorS6
set_option linter.all false
namespace Go.Proofs.YtiaekocjeinkjaaGreatDoor
open Go.Proofs.Tryz
open Go.RowKit Go.ChangeShapes Go.WideShapes Go.ChangeAt
def By:ownKnob Tryz.prog.godebug=none:=by kernel_rfl
def TF:laidOutB Tryz.prog=true:=by kernel_rfl
def PX:List (String×DataW Unit):=[("auspex/inst.codes",Rows.laid_auspex_inst_codes)]
theorem Vz:Tryz.prog.globalNamed "auspex/inst.codes" =some 0:=by kernel_rfl
def yk:(Tryz.prog.globals[0]?).map (·.type)=some 280:=by kernel_rfl
def TG(os:Os)(args:Array Value):laidMetH Tryz.prog PX ((World.doorLaid Tryz.prog 400 os).forCall (λ_ _=>0) ⟨#[],args,[]⟩).memory:=
 laidMetH_of_parts3 (fuel:=8) (laidMet_of_run' 8 (by kernel_rfl) (by kernel_rfl)) (by kernel_rfl) (by kernel_rfl)
theorem HY{W:World}(h:laidMetH Tryz.prog PX W):EE W:=by
 rw[MakeChecks.laidMetH_plain _ _ _ (by kernel_rfl)]at h;have b:laidMet Tryz.prog (("auspex/inst.codes",Lib.tabData .u32 (VA.map Int.ofNat))::[]) W:=h;have c:=Lib.tabIs_of_head Vz yk underlying280 underlying29 (by kernel_rfl) (by kernel_rfl) b;intro k a;have:=c.cell Vz k (by simpa [VA]using a);rw[this];have:∀ k,k<49→(VA.map Int.ofNat).getD k 0=(cm k:Int):=dT;rw[this k a]
end Go.Proofs.YtiaekocjeinkjaaGreatDoor
