/- Joined texts. -/
import Derived.Test.YtlhofpglndhfaaaGreatDoorRows
import Derived.Test.YtlhofpglndhfaaaGreatDoorCards
import Derived.Test.YtlhofpglndhfaaaGreatDoorTie
import Derived.ProofKit
import Derived.LaidMore
import Derived.Lib.LaidTab
import Derived.Stop.Joined
import Derived.Test.YtlhofpglndhfaaaGreatDoorS201
import Derived.Test.YtlhofpglndhfaaaGreatDoorS207
set_option linter.unusedVariables false
set_option linter.unusedSimpArgs false
namespace Go.Proofs.YtlhofpglndhfaaaGreatDoor
open Go.RowKit Go.ChangeShapes Go.WideShapes Go.ChangeAt
theorem aaT:ownKnob Tryz.prog.godebug=none:=by kernel_rfl
theorem Sj:laidOutB Tryz.prog=true:=by kernel_rfl
def OU:List (String×DataW Unit):=[("auspex/inst.codes",Rows.laid_auspex_inst_codes)]
theorem Um:Tryz.prog.globalNamed "auspex/inst.codes" =some 0:=by kernel_rfl
theorem XC:(Tryz.prog.globals[0]?).map (·.type)=some 233:=by kernel_rfl
theorem Sk(os:Os)(args:Array Value):laidMetH Tryz.prog OU ((World.doorLaid Tryz.prog 400 os).forCall (λ _ _=>0) ⟨#[],args,[]⟩).memory:=
 laidMetH_of_parts3 (fuel:=8) (laidMet_of_run' 8 (by kernel_rfl) (by kernel_rfl)) (by kernel_rfl) (by kernel_rfl)
theorem Hq{W:World}(h:laidMetH Tryz.prog OU W):Eb W:=by
 rw[MakeChecks.laidMetH_plain _ _ _ (by kernel_rfl)]at h;have h2:laidMet Tryz.prog (("auspex/inst.codes",Lib.tabData .u32 (Un.map Int.ofNat))::[]) W:=h;have hT:=Lib.tabIs_of_head Um XC Tryz.underlying233 Tryz.underlying26 (by kernel_rfl) (by kernel_rfl) h2;intro k hk;have:=hT.cell Um k (by simpa [Un]using hk);rw[this];have:∀ k,k<49→(Un.map Int.ofNat).getD k 0=(code k:Int):=by decide
 rw[this k hk]
end Go.Proofs.YtlhofpglndhfaaaGreatDoor
