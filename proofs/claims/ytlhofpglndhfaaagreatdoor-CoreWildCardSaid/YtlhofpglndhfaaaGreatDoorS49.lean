/- Joined texts. -/
import Derived.Test.YtlhofpglndhfaaaGreatDoorRows
import Derived.Test.YtlhofpglndhfaaaGreatDoorCards
import Derived.Test.YtlhofpglndhfaaaGreatDoorTie
import Derived.ProofKit
import Derived.LaidMore
import Derived.Lib.LaidTab
import Derived.Stop.Joined
import Derived.WideShapes
import Derived.Test.YtlhofpglndhfaaaGreatDoorS1
import Derived.Test.YtlhofpglndhfaaaGreatDoorS7
import Derived.Test.YtlhofpglndhfaaaGreatDoorS31
import Derived.Test.YtlhofpglndhfaaaGreatDoorS46
set_option linter.unusedVariables false
set_option linter.unusedSimpArgs false
namespace Go.Proofs.YtlhofpglndhfaaaGreatDoor
open Go.RowKit Go.ChangeShapes Go.WideShapes Go.ChangeAt
theorem WJ:ownKnob Tryz.prog.godebug=none:=by kernel_rfl
theorem Gh:laidOutB Tryz.prog=true:=by kernel_rfl
def Dr:List (String×DataW Unit):=[("auspex/inst.codes",Rows.laid_auspex_inst_codes)]
theorem Sk:Tryz.prog.globalNamed "auspex/inst.codes" =some 0:=by kernel_rfl
theorem Vg:(Tryz.prog.globals[0]?).map (·.type)=some 233:=by kernel_rfl
theorem Gi(os:Os)(args:Array Value):laidMetH Tryz.prog Dr ((World.doorLaid Tryz.prog 400 os).forCall (λ _ _=>0) ⟨#[],args,[]⟩).memory:=
 laidMetH_of_parts3 (fuel:=8) (laidMet_of_run' 8 (by kernel_rfl) (by kernel_rfl)) (by kernel_rfl) (by kernel_rfl)
theorem xE{W:World}(h:laidMetH Tryz.prog Dr W):Ds W:=by
 rw[MakeChecks.laidMetH_plain _ _ _ (by kernel_rfl)]at h;have h2:laidMet Tryz.prog (("auspex/inst.codes",Lib.tabData .u32 (Sm.map Int.ofNat))::[]) W:=h;have hT:=Lib.tabIs_of_head Sk Vg Tryz.underlying233 Tryz.underlying26 (by kernel_rfl) (by kernel_rfl) h2;intro k hk;have:=hT.cell Sk k (by simpa [Sm]using hk);rw[this];have:∀ k,k<49→(Sm.map Int.ofNat).getD k 0=(code k:Int):=by decide
 rw[this k hk]
open Go.RowKit Go.ChangeShapes Go.WideShapes
theorem LR{P:Program}{w:World}{r:Reach}{base:Nat}{t:TypeId}{v:Value}(ht:P.underlying t=some .string)(h:Value.okWide P w r base t v):∃ s,v=.string s∧s.size<9223372036854775808:=by
 obtain⟨s,rfl⟩:=okWide_string ht h;refine⟨s,rfl,?_⟩;have h2:IntKind.i64.max=9223372036854775807:=rfl;have h3:(s.size:Int)≤IntKind.i64.max:=by simpa [Value.okWide,Cell.okWide,Cell.ok,ht]using h
 omega
open Go.RowKit
def Ek(prog:List Nat):List Nat:=prog.take (min prog.length 64)
def Kv(m:ByteArray):ByteArray:=m.extract 0 (min m.size 300)
def upTo(a:Int)(hi:Nat):Nat:=(min (max a 0) hi).toNat
theorem Kw(a:Int)(hi:Nat):upTo a hi≤hi:=by unfold upTo;omega
theorem Kx(a:Int)(hi:Nat):(if (hi:Int)<max a 0 then (hi:Int)else max a 0)=((upTo a hi:Nat):Int):=by unfold upTo;split<;>omega
theorem PU(a b:Int):(if b>a then b else a)=max a b:=by split<;>omega
end Go.Proofs.YtlhofpglndhfaaaGreatDoor
