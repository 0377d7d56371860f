/- Joined texts. -/
import Derived.Test.YtgleompefdogkaaGreatDoorRows
import Derived.Test.YtgleompefdogkaaGreatDoorCards
import Derived.Test.YtgleompefdogkaaGreatDoorTie
import Derived.ProofKit
import Derived.LaidMore
import Derived.Lib.LaidTab
import Derived.Stop.Joined
import Derived.Test.YtgleompefdogkaaGreatDoorS1
import Derived.Test.YtgleompefdogkaaGreatDoorS7
set_option linter.unusedVariables false
set_option linter.unusedSimpArgs false
set_option linter.defProp false
namespace Go.Proofs.YtgleompefdogkaaGreatDoor
open Go.RowKit Go.ChangeShapes Go.WideShapes Go.ChangeAt
def afA:ownKnob Tryz.prog.godebug=none:=by kernel_rfl
def acW:laidOutB Tryz.prog=true:=by kernel_rfl
def acH:List (String×DataW Unit):=[("auspex/inst.codes",Rows.laid_auspex_inst_codes)]
theorem aeI:Tryz.prog.globalNamed "auspex/inst.codes" =some 0:=by kernel_rfl
def aeV:(Tryz.prog.globals[0]?).map (·.type)=some 225:=by kernel_rfl
def acX(os:Os)(args:Array Value):laidMetH Tryz.prog acH ((World.doorLaid Tryz.prog 400 os).forCall (λ_ _=>0) ⟨#[],args,[]⟩).memory:=
 laidMetH_of_parts3 (fuel:=8) (laidMet_of_run' 8 (by kernel_rfl) (by kernel_rfl)) (by kernel_rfl) (by kernel_rfl)
theorem ab3{W:World}(h:laidMetH Tryz.prog acH W):Lj W:=by
 rw[MakeChecks.laidMetH_plain _ _ _ (by kernel_rfl)]at h;have h2:laidMet Tryz.prog (("auspex/inst.codes",Lib.tabData .u32 (Yq.map Int.ofNat))::[]) W:=h;have hT:=Lib.tabIs_of_head aeI aeV Tryz.underlying225 Tryz.underlying28 (by kernel_rfl) (by kernel_rfl) h2;intro k hk;have:=hT.cell aeI k (by simpa [Yq]using hk);rw[this];have:∀ k,k<49→(Yq.map Int.ofNat).getD k 0=(code k:Int):=by decide
 rw[this k hk]
end Go.Proofs.YtgleompefdogkaaGreatDoor
