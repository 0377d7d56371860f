/- The seat's types, as the second machine is told of them. -/
import Derived.Test.YtahnhhbgkmlfcaaDoorQ8
import Derived.Test.YtahnhhbgkmlfcaaDoorProg
import Derived.KernelRfl
import Derived.Test.YtahnhhbgkmlfcaaDoorInst5
import Derived.Test.YtahnhhbgkmlfcaaDoorQ9
import Derived.Test.YtahnhhbgkmlfcaaDoorVal2
import Derived.Test.YtahnhhbgkmlfcaaDoorMem
import Derived.Test.YtahnhhbgkmlfcaaDoorLoad
import Derived.Test.YtahnhhbgkmlfcaaDoorBytes
import Derived.Test.YtahnhhbgkmlfcaaDoorBits
namespace Go.Proofs.YtahnhhbgkmlfcaaDoor
open Go.RowKit

/-- func() -/
abbrev ti1 : TI := ⟨.func, 1, false, .v .nilFunc, 8, []⟩
theorem tyOk1 : TyOk Tryd.prog 1 ti1 := chkTy_ok (inf := Tryd.t1) (by kernel_rfl) rfl rfl (by kernel_rfl) Tryd.underlying1 rfl trivial (fun h => absurd rfl h)
/-- int64 -/
abbrev ti2 : TI := ⟨.int .i64, 1, false, .v (.int .i64 0), 8, []⟩
theorem tyOk2 : TyOk Tryd.prog 2 ti2 := chkTy_ok (inf := Tryd.t2) (by kernel_rfl) rfl rfl (by kernel_rfl) Tryd.underlying2 rfl rfl (fun h => absurd rfl h)
/-- int -/
abbrev ti3 : TI := ⟨.int .i64, 1, false, .v (.int .i64 0), 8, []⟩
theorem tyOk3 : TyOk Tryd.prog 3 ti3 := chkTy_ok (inf := Tryd.t3) (by kernel_rfl) rfl rfl (by kernel_rfl) Tryd.underlying3 rfl rfl (fun h => absurd rfl h)
/-- bool -/
abbrev ti4 : TI := ⟨.bool, 1, false, .v (.bool false), 1, []⟩
theorem tyOk4 : TyOk Tryd.prog 4 ti4 := chkTy_ok (inf := Tryd.t4) (by kernel_rfl) rfl rfl (by kernel_rfl) Tryd.underlying4 rfl rfl (fun h => absurd rfl h)
/-- uint8 -/
abbrev ti5 : TI := ⟨.int .u8, 1, false, .v (.int .u8 0), 1, []⟩
theorem tyOk5 : TyOk Tryd.prog 5 ti5 := chkTy_ok (inf := Tryd.t5) (by kernel_rfl) rfl rfl (by kernel_rfl) Tryd.underlying5 rfl rfl (fun h => absurd rfl h)
/-- string -/
abbrev ti9 : TI := ⟨.string, 1, false, .v (.string ⟨#[]⟩), 16, []⟩
theorem tyOk9 : TyOk Tryd.prog 9 ti9 := chkTy_ok (inf := Tryd.t9) (by kernel_rfl) rfl rfl (by kernel_rfl) Tryd.underlying9 rfl rfl (fun h => absurd rfl h)
/-- uintptr -/
abbrev ti12 : TI := ⟨.int .u64, 1, false, .v (.int .u64 0), 8, []⟩
theorem tyOk12 : TyOk Tryd.prog 12 ti12 := chkTy_ok (inf := Tryd.t12) (by kernel_rfl) rfl rfl (by kernel_rfl) Tryd.underlying12 rfl rfl (fun h => absurd rfl h)
/-- struct { msg string; addr uintptr } -/
abbrev ti13 : TI := ⟨.struct [(0, 9), (1, 12)], 2, true, .agg [.v (.string ⟨#[]⟩), .v (.int .u64 0)], 24, []⟩
theorem tyOk13 : TyOk Tryd.prog 13 ti13 := chkTy_ok (inf := Tryd.t13) (by kernel_rfl) rfl rfl (by kernel_rfl) Tryd.underlying13 rfl ⟨_, rfl, by kernel_rfl, by kernel_rfl⟩ (fun h => absurd rfl h)
/-- int32 -/
abbrev ti21 : TI := ⟨.int .i32, 1, false, .v (.int .i32 0), 4, []⟩
theorem tyOk21 : TyOk Tryd.prog 21 ti21 := chkTy_ok (inf := Tryd.t21) (by kernel_rfl) rfl rfl (by kernel_rfl) Tryd.underlying21 rfl rfl (fun h => absurd rfl h)
/-- []uint32 -/
abbrev ti22 : TI := ⟨.slice 25, 1, false, .sl 0 [] true, 24, []⟩
theorem tyOk22 : TyOk Tryd.prog 22 ti22 := chkTy_ok (inf := Tryd.t22) (by kernel_rfl) rfl rfl (by kernel_rfl) Tryd.underlying22 rfl rfl (fun h => absurd rfl h)
/-- func([]uint32, string) ([]uint32, string) -/
abbrev ti24 : TI := ⟨.func, 1, false, .v .nilFunc, 8, []⟩
theorem tyOk24 : TyOk Tryd.prog 24 ti24 := chkTy_ok (inf := Tryd.t24) (by kernel_rfl) rfl rfl (by kernel_rfl) Tryd.underlying24 rfl trivial (fun h => absurd rfl h)
/-- uint32 -/
abbrev ti25 : TI := ⟨.int .u32, 1, false, .v (.int .u32 0), 4, []⟩
theorem tyOk25 : TyOk Tryd.prog 25 ti25 := chkTy_ok (inf := Tryd.t25) (by kernel_rfl) rfl rfl (by kernel_rfl) Tryd.underlying25 rfl rfl (fun h => absurd rfl h)
/-- [32]uint32 -/
abbrev ti26 : TI := ⟨.array 32 25, 32, true, .agg [.v (.int .u32 0), .v (.int .u32 0), .v (.int .u32 0), .v (.int .u32 0), .v (.int .u32 0), .v (.int .u32 0), .v (.int .u32 0), .v (.int .u32 0), .v (.int .u32 0), .v (.int .u32 0), .v (.int .u32 0), .v (.int .u32 0), .v (.int .u32 0), .v (.int .u32 0), .v (.int .u32 0), .v (.int .u32 0), .v (.int .u32 0), .v (.int .u32 0), .v (.int .u32 0), .v (.int .u32 0), .v (.int .u32 0), .v (.int .u32 0), .v (.int .u32 0), .v (.int .u32 0), .v (.int .u32 0), .v (.int .u32 0), .v (.int .u32 0), .v (.int .u32 0), .v (.int .u32 0), .v (.int .u32 0), .v (.int .u32 0), .v (.int .u32 0)], 128, [.i, .i, .i, .i, .i, .i, .i, .i, .i, .i, .i, .i, .i, .i, .i, .i, .i, .i, .i, .i, .i, .i, .i, .i, .i, .i, .i, .i, .i, .i, .i, .i]⟩
set_option maxRecDepth 100000 in
theorem tyOk26 : TyOk Tryd.prog 26 ti26 := chkTy_ok (inf := Tryd.t26) (by kernel_rfl) rfl rfl (by kernel_rfl) Tryd.underlying26 rfl rfl (fun _ => eqOk_arr (d := 20) (inf := Tryd.t25) (ks' := [.i]) Tryd.underlying26 (by kernel_rfl) (by kernel_rfl) (by kernel_rfl) (by kernel_rfl) (by kernel_rfl))
/-- struct { PC uint32; Regs [32]uint32; Mem string; Halt int } -/
abbrev ti27 : TI := ⟨.struct [(0, 25), (1, 26), (33, 9), (34, 3)], 35, true, .agg [.v (.int .u32 0), .v (.int .u32 0), .v (.int .u32 0), .v (.int .u32 0), .v (.int .u32 0), .v (.int .u32 0), .v (.int .u32 0), .v (.int .u32 0), .v (.int .u32 0), .v (.int .u32 0), .v (.int .u32 0), .v (.int .u32 0), .v (.int .u32 0), .v (.int .u32 0), .v (.int .u32 0), .v (.int .u32 0), .v (.int .u32 0), .v (.int .u32 0), .v (.int .u32 0), .v (.int .u32 0), .v (.int .u32 0), .v (.int .u32 0), .v (.int .u32 0), .v (.int .u32 0), .v (.int .u32 0), .v (.int .u32 0), .v (.int .u32 0), .v (.int .u32 0), .v (.int .u32 0), .v (.int .u32 0), .v (.int .u32 0), .v (.int .u32 0), .v (.int .u32 0), .v (.string ⟨#[]⟩), .v (.int .i64 0)], 160, []⟩
theorem tyOk27 : TyOk Tryd.prog 27 ti27 := chkTy_ok (inf := Tryd.t27) (by kernel_rfl) rfl rfl (by kernel_rfl) Tryd.underlying27 rfl ⟨_, rfl, by kernel_rfl, by kernel_rfl⟩ (fun h => absurd rfl h)
/-- api.State -/
abbrev ti28 : TI := ⟨.struct [(0, 25), (1, 26), (33, 9), (34, 3)], 35, true, .agg [.v (.int .u32 0), .v (.int .u32 0), .v (.int .u32 0), .v (.int .u32 0), .v (.int .u32 0), .v (.int .u32 0), .v (.int .u32 0), .v (.int .u32 0), .v (.int .u32 0), .v (.int .u32 0), .v (.int .u32 0), .v (.int .u32 0), .v (.int .u32 0), .v (.int .u32 0), .v (.int .u32 0), .v (.int .u32 0), .v (.int .u32 0), .v (.int .u32 0), .v (.int .u32 0), .v (.int .u32 0), .v (.int .u32 0), .v (.int .u32 0), .v (.int .u32 0), .v (.int .u32 0), .v (.int .u32 0), .v (.int .u32 0), .v (.int .u32 0), .v (.int .u32 0), .v (.int .u32 0), .v (.int .u32 0), .v (.int .u32 0), .v (.int .u32 0), .v (.int .u32 0), .v (.string ⟨#[]⟩), .v (.int .i64 0)], 160, [.i, .i, .i, .i, .i, .i, .i, .i, .i, .i, .i, .i, .i, .i, .i, .i, .i, .i, .i, .i, .i, .i, .i, .i, .i, .i, .i, .i, .i, .i, .i, .i, .i, .s, .i]⟩
theorem tyOk28 : TyOk Tryd.prog 28 ti28 := chkTy_ok (inf := Tryd.t28) (by kernel_rfl) rfl rfl (by kernel_rfl) Tryd.underlying28 rfl ⟨_, rfl, by kernel_rfl, by kernel_rfl⟩ (fun _ => eqOk_of (d := 20) (by kernel_rfl))
/-- []api.Step -/
abbrev ti29 : TI := ⟨.slice 36, 1, false, .sl 0 [] true, 24, []⟩
theorem tyOk29 : TyOk Tryd.prog 29 ti29 := chkTy_ok (inf := Tryd.t29) (by kernel_rfl) rfl rfl (by kernel_rfl) Tryd.underlying29 rfl rfl (fun h => absurd rfl h)
/-- func([]uint32, string, int) (api.State, []api.Step) -/
abbrev ti31 : TI := ⟨.func, 1, false, .v .nilFunc, 8, []⟩
theorem tyOk31 : TyOk Tryd.prog 31 ti31 := chkTy_ok (inf := Tryd.t31) (by kernel_rfl) rfl rfl (by kernel_rfl) Tryd.underlying31 rfl trivial (fun h => absurd rfl h)
/-- func() bool -/
abbrev ti32 : TI := ⟨.func, 1, false, .v .nilFunc, 8, []⟩
theorem tyOk32 : TyOk Tryd.prog 32 ti32 := chkTy_ok (inf := Tryd.t32) (by kernel_rfl) rfl rfl (by kernel_rfl) Tryd.underlying32 rfl trivial (fun h => absurd rfl h)
/-- func([]api.Step, []api.Step) bool -/
abbrev ti33 : TI := ⟨.func, 1, false, .v .nilFunc, 8, []⟩
theorem tyOk33 : TyOk Tryd.prog 33 ti33 := chkTy_ok (inf := Tryd.t33) (by kernel_rfl) rfl rfl (by kernel_rfl) Tryd.underlying33 rfl trivial (fun h => absurd rfl h)
/-- func([]uint32, string, int) bool -/
abbrev ti34 : TI := ⟨.func, 1, false, .v .nilFunc, 8, []⟩
theorem tyOk34 : TyOk Tryd.prog 34 ti34 := chkTy_ok (inf := Tryd.t34) (by kernel_rfl) rfl rfl (by kernel_rfl) Tryd.underlying34 rfl trivial (fun h => absurd rfl h)
/-- struct { PC uint32; Next uint32; Rd int; Value uint32; Addr uint32; Size int; Store bool; Halt int; Took int } -/
abbrev ti35 : TI := ⟨.struct [(0, 25), (1, 25), (2, 3), (3, 25), (4, 25), (5, 3), (6, 4), (7, 3), (8, 3)], 9, true, .agg [.v (.int .u32 0), .v (.int .u32 0), .v (.int .i64 0), .v (.int .u32 0), .v (.int .u32 0), .v (.int .i64 0), .v (.bool false), .v (.int .i64 0), .v (.int .i64 0)], 56, []⟩
theorem tyOk35 : TyOk Tryd.prog 35 ti35 := chkTy_ok (inf := Tryd.t35) (by kernel_rfl) rfl rfl (by kernel_rfl) Tryd.underlying35 rfl ⟨_, rfl, by kernel_rfl, by kernel_rfl⟩ (fun h => absurd rfl h)
/-- api.Step -/
abbrev ti36 : TI := ⟨.struct [(0, 25), (1, 25), (2, 3), (3, 25), (4, 25), (5, 3), (6, 4), (7, 3), (8, 3)], 9, true, .agg [.v (.int .u32 0), .v (.int .u32 0), .v (.int .i64 0), .v (.int .u32 0), .v (.int .u32 0), .v (.int .i64 0), .v (.bool false), .v (.int .i64 0), .v (.int .i64 0)], 56, [.i, .i, .i, .i, .i, .i, .b, .i, .i]⟩
theorem tyOk36 : TyOk Tryd.prog 36 ti36 := chkTy_ok (inf := Tryd.t36) (by kernel_rfl) rfl rfl (by kernel_rfl) Tryd.underlying36 rfl ⟨_, rfl, by kernel_rfl, by kernel_rfl⟩ (fun _ => eqOk_of (d := 20) (by kernel_rfl))
/-- func([]uint32, api.State) (api.State, api.Step) -/
abbrev ti38 : TI := ⟨.func, 1, false, .v .nilFunc, 8, []⟩
theorem tyOk38 : TyOk Tryd.prog 38 ti38 := chkTy_ok (inf := Tryd.t38) (by kernel_rfl) rfl rfl (by kernel_rfl) Tryd.underlying38 rfl trivial (fun h => absurd rfl h)
/-- func([]uint32, string) api.State -/
abbrev ti39 : TI := ⟨.func, 1, false, .v .nilFunc, 8, []⟩
theorem tyOk39 : TyOk Tryd.prog 39 ti39 := chkTy_ok (inf := Tryd.t39) (by kernel_rfl) rfl rfl (by kernel_rfl) Tryd.underlying39 rfl trivial (fun h => absurd rfl h)
/-- func([]uint32, string, int, int) bool -/
abbrev ti40 : TI := ⟨.func, 1, false, .v .nilFunc, 8, []⟩
theorem tyOk40 : TyOk Tryd.prog 40 ti40 := chkTy_ok (inf := Tryd.t40) (by kernel_rfl) rfl rfl (by kernel_rfl) Tryd.underlying40 rfl trivial (fun h => absurd rfl h)
/-- []uint8 -/
abbrev ti41 : TI := ⟨.slice 5, 1, false, .sl 0 [] true, 24, []⟩
theorem tyOk41 : TyOk Tryd.prog 41 ti41 := chkTy_ok (inf := Tryd.t41) (by kernel_rfl) rfl rfl (by kernel_rfl) Tryd.underlying41 rfl rfl (fun h => absurd rfl h)
/-- func([]uint32, string, int, int, uint8) bool -/
abbrev ti42 : TI := ⟨.func, 1, false, .v .nilFunc, 8, []⟩
theorem tyOk42 : TyOk Tryd.prog 42 ti42 := chkTy_ok (inf := Tryd.t42) (by kernel_rfl) rfl rfl (by kernel_rfl) Tryd.underlying42 rfl trivial (fun h => absurd rfl h)
/-- uint -/
abbrev ti43 : TI := ⟨.int .u64, 1, false, .v (.int .u64 0), 8, []⟩
theorem tyOk43 : TyOk Tryd.prog 43 ti43 := chkTy_ok (inf := Tryd.t43) (by kernel_rfl) rfl rfl (by kernel_rfl) Tryd.underlying43 rfl rfl (fun h => absurd rfl h)
/-- func([]uint32) bool -/
abbrev ti44 : TI := ⟨.func, 1, false, .v .nilFunc, 8, []⟩
theorem tyOk44 : TyOk Tryd.prog 44 ti44 := chkTy_ok (inf := Tryd.t44) (by kernel_rfl) rfl rfl (by kernel_rfl) Tryd.underlying44 rfl trivial (fun h => absurd rfl h)
/-- func([]api.Event, []api.Event) int -/
abbrev ti45 : TI := ⟨.func, 1, false, .v .nilFunc, 8, []⟩
theorem tyOk45 : TyOk Tryd.prog 45 ti45 := chkTy_ok (inf := Tryd.t45) (by kernel_rfl) rfl rfl (by kernel_rfl) Tryd.underlying45 rfl trivial (fun h => absurd rfl h)
/-- []api.Event -/
abbrev ti46 : TI := ⟨.slice 69, 1, false, .sl 0 [] true, 24, []⟩
theorem tyOk46 : TyOk Tryd.prog 46 ti46 := chkTy_ok (inf := Tryd.t46) (by kernel_rfl) rfl rfl (by kernel_rfl) Tryd.underlying46 rfl rfl (fun h => absurd rfl h)
/-- func([]api.Step, bool) []api.Event -/
abbrev ti47 : TI := ⟨.func, 1, false, .v .nilFunc, 8, []⟩
theorem tyOk47 : TyOk Tryd.prog 47 ti47 := chkTy_ok (inf := Tryd.t47) (by kernel_rfl) rfl rfl (by kernel_rfl) Tryd.underlying47 rfl trivial (fun h => absurd rfl h)
/-- func([]uint32, string, string, int) bool -/
abbrev ti48 : TI := ⟨.func, 1, false, .v .nilFunc, 8, []⟩
theorem tyOk48 : TyOk Tryd.prog 48 ti48 := chkTy_ok (inf := Tryd.t48) (by kernel_rfl) rfl rfl (by kernel_rfl) Tryd.underlying48 rfl trivial (fun h => absurd rfl h)
/-- func([]uint32, string, int, bool) []api.Event -/
abbrev ti49 : TI := ⟨.func, 1, false, .v .nilFunc, 8, []⟩
theorem tyOk49 : TyOk Tryd.prog 49 ti49 := chkTy_ok (inf := Tryd.t49) (by kernel_rfl) rfl rfl (by kernel_rfl) Tryd.underlying49 rfl trivial (fun h => absurd rfl h)
/-- func([]api.Event, []api.Event) bool -/
abbrev ti50 : TI := ⟨.func, 1, false, .v .nilFunc, 8, []⟩
theorem tyOk50 : TyOk Tryd.prog 50 ti50 := chkTy_ok (inf := Tryd.t50) (by kernel_rfl) rfl rfl (by kernel_rfl) Tryd.underlying50 rfl trivial (fun h => absurd rfl h)
/-- func([]uint32, string, int, int, bool) bool -/
abbrev ti51 : TI := ⟨.func, 1, false, .v .nilFunc, 8, []⟩
theorem tyOk51 : TyOk Tryd.prog 51 ti51 := chkTy_ok (inf := Tryd.t51) (by kernel_rfl) rfl rfl (by kernel_rfl) Tryd.underlying51 rfl trivial (fun h => absurd rfl h)
/-- func(func(api.State, api.Step) bool) -/
abbrev ti52 : TI := ⟨.func, 1, false, .v .nilFunc, 8, []⟩
theorem tyOk52 : TyOk Tryd.prog 52 ti52 := chkTy_ok (inf := Tryd.t52) (by kernel_rfl) rfl rfl (by kernel_rfl) Tryd.underlying52 rfl trivial (fun h => absurd rfl h)
/-- iter.Seq2[auspex/api.State,auspex/api.Step] -/
abbrev ti53 : TI := ⟨.func, 1, false, .v .nilFunc, 8, []⟩
theorem tyOk53 : TyOk Tryd.prog 53 ti53 := chkTy_ok (inf := Tryd.t53) (by kernel_rfl) rfl rfl (by kernel_rfl) Tryd.underlying53 rfl trivial (fun h => absurd rfl h)
/-- func([]uint32, api.State, int) iter.Seq2[auspex/api.State,auspex/api.Step] -/
abbrev ti54 : TI := ⟨.func, 1, false, .v .nilFunc, 8, []⟩
theorem tyOk54 : TyOk Tryd.prog 54 ti54 := chkTy_ok (inf := Tryd.t54) (by kernel_rfl) rfl rfl (by kernel_rfl) Tryd.underlying54 rfl trivial (fun h => absurd rfl h)
/-- func(string) string -/
abbrev ti55 : TI := ⟨.func, 1, false, .v .nilFunc, 8, []⟩
theorem tyOk55 : TyOk Tryd.prog 55 ti55 := chkTy_ok (inf := Tryd.t55) (by kernel_rfl) rfl rfl (by kernel_rfl) Tryd.underlying55 rfl trivial (fun h => absurd rfl h)
/-- func([]uint32, uint32) (uint32, bool) -/
abbrev ti57 : TI := ⟨.func, 1, false, .v .nilFunc, 8, []⟩
theorem tyOk57 : TyOk Tryd.prog 57 ti57 := chkTy_ok (inf := Tryd.t57) (by kernel_rfl) rfl rfl (by kernel_rfl) Tryd.underlying57 rfl trivial (fun h => absurd rfl h)
/-- func(api.State, int) (api.State, api.Step) -/
abbrev ti58 : TI := ⟨.func, 1, false, .v .nilFunc, 8, []⟩
theorem tyOk58 : TyOk Tryd.prog 58 ti58 := chkTy_ok (inf := Tryd.t58) (by kernel_rfl) rfl rfl (by kernel_rfl) Tryd.underlying58 rfl trivial (fun h => absurd rfl h)
/-- struct { Op int; Rd int; Rs1 int; Rs2 int; Imm uint32 } -/
abbrev ti59 : TI := ⟨.struct [(0, 3), (1, 3), (2, 3), (3, 3), (4, 25)], 5, true, .agg [.v (.int .i64 0), .v (.int .i64 0), .v (.int .i64 0), .v (.int .i64 0), .v (.int .u32 0)], 40, []⟩
theorem tyOk59 : TyOk Tryd.prog 59 ti59 := chkTy_ok (inf := Tryd.t59) (by kernel_rfl) rfl rfl (by kernel_rfl) Tryd.underlying59 rfl ⟨_, rfl, by kernel_rfl, by kernel_rfl⟩ (fun h => absurd rfl h)
/-- api.Inst -/
abbrev ti60 : TI := ⟨.struct [(0, 3), (1, 3), (2, 3), (3, 3), (4, 25)], 5, true, .agg [.v (.int .i64 0), .v (.int .i64 0), .v (.int .i64 0), .v (.int .i64 0), .v (.int .u32 0)], 40, [.i, .i, .i, .i, .i]⟩
theorem tyOk60 : TyOk Tryd.prog 60 ti60 := chkTy_ok (inf := Tryd.t60) (by kernel_rfl) rfl rfl (by kernel_rfl) Tryd.underlying60 rfl ⟨_, rfl, by kernel_rfl, by kernel_rfl⟩ (fun _ => eqOk_of (d := 20) (by kernel_rfl))
/-- api.Errno -/
abbrev ti61 : TI := ⟨.int .i64, 1, false, .v (.int .i64 0), 8, []⟩
theorem tyOk61 : TyOk Tryd.prog 61 ti61 := chkTy_ok (inf := Tryd.t61) (by kernel_rfl) rfl rfl (by kernel_rfl) Tryd.underlying61 rfl rfl (fun h => absurd rfl h)
/-- func(uint32) (api.Inst, api.Errno) -/
abbrev ti63 : TI := ⟨.func, 1, false, .v .nilFunc, 8, []⟩
theorem tyOk63 : TyOk Tryd.prog 63 ti63 := chkTy_ok (inf := Tryd.t63) (by kernel_rfl) rfl rfl (by kernel_rfl) Tryd.underlying63 rfl trivial (fun h => absurd rfl h)
/-- func(api.Inst) (int, int) -/
abbrev ti65 : TI := ⟨.func, 1, false, .v .nilFunc, 8, []⟩
theorem tyOk65 : TyOk Tryd.prog 65 ti65 := chkTy_ok (inf := Tryd.t65) (by kernel_rfl) rfl rfl (by kernel_rfl) Tryd.underlying65 rfl trivial (fun h => absurd rfl h)
/-- func(api.Inst) int -/
abbrev ti66 : TI := ⟨.func, 1, false, .v .nilFunc, 8, []⟩
theorem tyOk66 : TyOk Tryd.prog 66 ti66 := chkTy_ok (inf := Tryd.t66) (by kernel_rfl) rfl rfl (by kernel_rfl) Tryd.underlying66 rfl trivial (fun h => absurd rfl h)
/-- func(api.State, api.Inst, uint32, uint32) (api.State, api.Step) -/
abbrev ti67 : TI := ⟨.func, 1, false, .v .nilFunc, 8, []⟩
theorem tyOk67 : TyOk Tryd.prog 67 ti67 := chkTy_ok (inf := Tryd.t67) (by kernel_rfl) rfl rfl (by kernel_rfl) Tryd.underlying67 rfl trivial (fun h => absurd rfl h)
/-- struct { PC uint32; Addr uint32; Size int; Took int; Loaded uint32; Halt int } -/
abbrev ti68 : TI := ⟨.struct [(0, 25), (1, 25), (2, 3), (3, 3), (4, 25), (5, 3)], 6, true, .agg [.v (.int .u32 0), .v (.int .u32 0), .v (.int .i64 0), .v (.int .i64 0), .v (.int .u32 0), .v (.int .i64 0)], 40, []⟩
theorem tyOk68 : TyOk Tryd.prog 68 ti68 := chkTy_ok (inf := Tryd.t68) (by kernel_rfl) rfl rfl (by kernel_rfl) Tryd.underlying68 rfl ⟨_, rfl, by kernel_rfl, by kernel_rfl⟩ (fun h => absurd rfl h)
/-- api.Event -/
abbrev ti69 : TI := ⟨.struct [(0, 25), (1, 25), (2, 3), (3, 3), (4, 25), (5, 3)], 6, true, .agg [.v (.int .u32 0), .v (.int .u32 0), .v (.int .i64 0), .v (.int .i64 0), .v (.int .u32 0), .v (.int .i64 0)], 40, [.i, .i, .i, .i, .i, .i]⟩
theorem tyOk69 : TyOk Tryd.prog 69 ti69 := chkTy_ok (inf := Tryd.t69) (by kernel_rfl) rfl rfl (by kernel_rfl) Tryd.underlying69 rfl ⟨_, rfl, by kernel_rfl, by kernel_rfl⟩ (fun _ => eqOk_of (d := 20) (by kernel_rfl))
/-- func(api.State, api.Step) bool -/
abbrev ti70 : TI := ⟨.func, 1, false, .v .nilFunc, 8, []⟩
theorem tyOk70 : TyOk Tryd.prog 70 ti70 := chkTy_ok (inf := Tryd.t70) (by kernel_rfl) rfl rfl (by kernel_rfl) Tryd.underlying70 rfl trivial (fun h => absurd rfl h)
/-- func(api.State, int, uint32) (api.State, api.Step) -/
abbrev ti71 : TI := ⟨.func, 1, false, .v .nilFunc, 8, []⟩
theorem tyOk71 : TyOk Tryd.prog 71 ti71 := chkTy_ok (inf := Tryd.t71) (by kernel_rfl) rfl rfl (by kernel_rfl) Tryd.underlying71 rfl trivial (fun h => absurd rfl h)
/-- func(int) int -/
abbrev ti72 : TI := ⟨.func, 1, false, .v .nilFunc, 8, []⟩
theorem tyOk72 : TyOk Tryd.prog 72 ti72 := chkTy_ok (inf := Tryd.t72) (by kernel_rfl) rfl rfl (by kernel_rfl) Tryd.underlying72 rfl trivial (fun h => absurd rfl h)
/-- func(api.Inst, uint32, uint32, uint32) uint32 -/
abbrev ti73 : TI := ⟨.func, 1, false, .v .nilFunc, 8, []⟩
theorem tyOk73 : TyOk Tryd.prog 73 ti73 := chkTy_ok (inf := Tryd.t73) (by kernel_rfl) rfl rfl (by kernel_rfl) Tryd.underlying73 rfl trivial (fun h => absurd rfl h)
/-- func(int, uint32, int) bool -/
abbrev ti74 : TI := ⟨.func, 1, false, .v .nilFunc, 8, []⟩
theorem tyOk74 : TyOk Tryd.prog 74 ti74 := chkTy_ok (inf := Tryd.t74) (by kernel_rfl) rfl rfl (by kernel_rfl) Tryd.underlying74 rfl trivial (fun h => absurd rfl h)
/-- func(uint32, int) (string, api.Errno) -/
abbrev ti76 : TI := ⟨.func, 1, false, .v .nilFunc, 8, []⟩
theorem tyOk76 : TyOk Tryd.prog 76 ti76 := chkTy_ok (inf := Tryd.t76) (by kernel_rfl) rfl rfl (by kernel_rfl) Tryd.underlying76 rfl trivial (fun h => absurd rfl h)
/-- func(string, uint32, string) string -/
abbrev ti77 : TI := ⟨.func, 1, false, .v .nilFunc, 8, []⟩
theorem tyOk77 : TyOk Tryd.prog 77 ti77 := chkTy_ok (inf := Tryd.t77) (by kernel_rfl) rfl rfl (by kernel_rfl) Tryd.underlying77 rfl trivial (fun h => absurd rfl h)
/-- func(string) (uint32, api.Errno) -/
abbrev ti79 : TI := ⟨.func, 1, false, .v .nilFunc, 8, []⟩
theorem tyOk79 : TyOk Tryd.prog 79 ti79 := chkTy_ok (inf := Tryd.t79) (by kernel_rfl) rfl rfl (by kernel_rfl) Tryd.underlying79 rfl trivial (fun h => absurd rfl h)
/-- func(int, string) uint32 -/
abbrev ti80 : TI := ⟨.func, 1, false, .v .nilFunc, 8, []⟩
theorem tyOk80 : TyOk Tryd.prog 80 ti80 := chkTy_ok (inf := Tryd.t80) (by kernel_rfl) rfl rfl (by kernel_rfl) Tryd.underlying80 rfl trivial (fun h => absurd rfl h)
/-- func(string, uint32, int) string -/
abbrev ti81 : TI := ⟨.func, 1, false, .v .nilFunc, 8, []⟩
theorem tyOk81 : TyOk Tryd.prog 81 ti81 := chkTy_ok (inf := Tryd.t81) (by kernel_rfl) rfl rfl (by kernel_rfl) Tryd.underlying81 rfl trivial (fun h => absurd rfl h)
/-- func(int, uint32, uint32) int -/
abbrev ti82 : TI := ⟨.func, 1, false, .v .nilFunc, 8, []⟩
theorem tyOk82 : TyOk Tryd.prog 82 ti82 := chkTy_ok (inf := Tryd.t82) (by kernel_rfl) rfl rfl (by kernel_rfl) Tryd.underlying82 rfl trivial (fun h => absurd rfl h)
/-- uint64 -/
abbrev ti83 : TI := ⟨.int .u64, 1, false, .v (.int .u64 0), 8, []⟩
theorem tyOk83 : TyOk Tryd.prog 83 ti83 := chkTy_ok (inf := Tryd.t83) (by kernel_rfl) rfl rfl (by kernel_rfl) Tryd.underlying83 rfl rfl (fun h => absurd rfl h)
/-- func(int) uint32 -/
abbrev ti84 : TI := ⟨.func, 1, false, .v .nilFunc, 8, []⟩
theorem tyOk84 : TyOk Tryd.prog 84 ti84 := chkTy_ok (inf := Tryd.t84) (by kernel_rfl) rfl rfl (by kernel_rfl) Tryd.underlying84 rfl trivial (fun h => absurd rfl h)
/-- [49]uint32 -/
abbrev ti85 : TI := ⟨.array 49 25, 49, true, .agg [.v (.int .u32 0), .v (.int .u32 0), .v (.int .u32 0), .v (.int .u32 0), .v (.int .u32 0), .v (.int .u32 0), .v (.int .u32 0), .v (.int .u32 0), .v (.int .u32 0), .v (.int .u32 0), .v (.int .u32 0), .v (.int .u32 0), .v (.int .u32 0), .v (.int .u32 0), .v (.int .u32 0), .v (.int .u32 0), .v (.int .u32 0), .v (.int .u32 0), .v (.int .u32 0), .v (.int .u32 0), .v (.int .u32 0), .v (.int .u32 0), .v (.int .u32 0), .v (.int .u32 0), .v (.int .u32 0), .v (.int .u32 0), .v (.int .u32 0), .v (.int .u32 0), .v (.int .u32 0), .v (.int .u32 0), .v (.int .u32 0), .v (.int .u32 0), .v (.int .u32 0), .v (.int .u32 0), .v (.int .u32 0), .v (.int .u32 0), .v (.int .u32 0), .v (.int .u32 0), .v (.int .u32 0), .v (.int .u32 0), .v (.int .u32 0), .v (.int .u32 0), .v (.int .u32 0), .v (.int .u32 0), .v (.int .u32 0), .v (.int .u32 0), .v (.int .u32 0), .v (.int .u32 0), .v (.int .u32 0)], 196, []⟩
theorem tyOk85 : TyOk Tryd.prog 85 ti85 := chkTy_ok (inf := Tryd.t85) (by kernel_rfl) rfl rfl (by kernel_rfl) Tryd.underlying85 rfl rfl (fun h => absurd rfl h)
/-- func(int, uint32) api.Inst -/
abbrev ti86 : TI := ⟨.func, 1, false, .v .nilFunc, 8, []⟩
theorem tyOk86 : TyOk Tryd.prog 86 ti86 := chkTy_ok (inf := Tryd.t86) (by kernel_rfl) rfl rfl (by kernel_rfl) Tryd.underlying86 rfl trivial (fun h => absurd rfl h)
/-- func(string, uint32, string) (string, api.Errno) -/
abbrev ti87 : TI := ⟨.func, 1, false, .v .nilFunc, 8, []⟩
theorem tyOk87 : TyOk Tryd.prog 87 ti87 := chkTy_ok (inf := Tryd.t87) (by kernel_rfl) rfl rfl (by kernel_rfl) Tryd.underlying87 rfl trivial (fun h => absurd rfl h)
/-- func(string, uint32, int) (string, api.Errno) -/
abbrev ti88 : TI := ⟨.func, 1, false, .v .nilFunc, 8, []⟩
theorem tyOk88 : TyOk Tryd.prog 88 ti88 := chkTy_ok (inf := Tryd.t88) (by kernel_rfl) rfl rfl (by kernel_rfl) Tryd.underlying88 rfl trivial (fun h => absurd rfl h)
/-- func(api.Inst, uint32, uint32, uint32) (uint32, bool) -/
abbrev ti89 : TI := ⟨.func, 1, false, .v .nilFunc, 8, []⟩
theorem tyOk89 : TyOk Tryd.prog 89 ti89 := chkTy_ok (inf := Tryd.t89) (by kernel_rfl) rfl rfl (by kernel_rfl) Tryd.underlying89 rfl trivial (fun h => absurd rfl h)
/-- func(uint32) int -/
abbrev ti90 : TI := ⟨.func, 1, false, .v .nilFunc, 8, []⟩
theorem tyOk90 : TyOk Tryd.prog 90 ti90 := chkTy_ok (inf := Tryd.t90) (by kernel_rfl) rfl rfl (by kernel_rfl) Tryd.underlying90 rfl trivial (fun h => absurd rfl h)
/-- func(int) uint8 -/
abbrev ti91 : TI := ⟨.func, 1, false, .v .nilFunc, 8, []⟩
theorem tyOk91 : TyOk Tryd.prog 91 ti91 := chkTy_ok (inf := Tryd.t91) (by kernel_rfl) rfl rfl (by kernel_rfl) Tryd.underlying91 rfl trivial (fun h => absurd rfl h)
/-- func(uint32, uint8) uint32 -/
abbrev ti92 : TI := ⟨.func, 1, false, .v .nilFunc, 8, []⟩
theorem tyOk92 : TyOk Tryd.prog 92 ti92 := chkTy_ok (inf := Tryd.t92) (by kernel_rfl) rfl rfl (by kernel_rfl) Tryd.underlying92 rfl trivial (fun h => absurd rfl h)
/-- func(uint32, int, int) uint32 -/
abbrev ti93 : TI := ⟨.func, 1, false, .v .nilFunc, 8, []⟩
theorem tyOk93 : TyOk Tryd.prog 93 ti93 := chkTy_ok (inf := Tryd.t93) (by kernel_rfl) rfl rfl (by kernel_rfl) Tryd.underlying93 rfl trivial (fun h => absurd rfl h)
/-- func(api.Inst, uint32) uint32 -/
abbrev ti94 : TI := ⟨.func, 1, false, .v .nilFunc, 8, []⟩
theorem tyOk94 : TyOk Tryd.prog 94 ti94 := chkTy_ok (inf := Tryd.t94) (by kernel_rfl) rfl rfl (by kernel_rfl) Tryd.underlying94 rfl trivial (fun h => absurd rfl h)
/-- func(int, uint32, uint32) uint32 -/
abbrev ti95 : TI := ⟨.func, 1, false, .v .nilFunc, 8, []⟩
theorem tyOk95 : TyOk Tryd.prog 95 ti95 := chkTy_ok (inf := Tryd.t95) (by kernel_rfl) rfl rfl (by kernel_rfl) Tryd.underlying95 rfl trivial (fun h => absurd rfl h)
/-- func(uint32, int) uint32 -/
abbrev ti96 : TI := ⟨.func, 1, false, .v .nilFunc, 8, []⟩
theorem tyOk96 : TyOk Tryd.prog 96 ti96 := chkTy_ok (inf := Tryd.t96) (by kernel_rfl) rfl rfl (by kernel_rfl) Tryd.underlying96 rfl trivial (fun h => absurd rfl h)
/-- func(int, uint32, uint32) bool -/
abbrev ti97 : TI := ⟨.func, 1, false, .v .nilFunc, 8, []⟩
theorem tyOk97 : TyOk Tryd.prog 97 ti97 := chkTy_ok (inf := Tryd.t97) (by kernel_rfl) rfl rfl (by kernel_rfl) Tryd.underlying97 rfl trivial (fun h => absurd rfl h)
/-- func(int, uint32) int64 -/
abbrev ti98 : TI := ⟨.func, 1, false, .v .nilFunc, 8, []⟩
theorem tyOk98 : TyOk Tryd.prog 98 ti98 := chkTy_ok (inf := Tryd.t98) (by kernel_rfl) rfl rfl (by kernel_rfl) Tryd.underlying98 rfl trivial (fun h => absurd rfl h)
/-- func(int) (bool, bool, bool) -/
abbrev ti100 : TI := ⟨.func, 1, false, .v .nilFunc, 8, []⟩
theorem tyOk100 : TyOk Tryd.prog 100 ti100 := chkTy_ok (inf := Tryd.t100) (by kernel_rfl) rfl rfl (by kernel_rfl) Tryd.underlying100 rfl trivial (fun h => absurd rfl h)
/-- []inst.span -/
abbrev ti101 : TI := ⟨.slice 119, 1, false, .sl 0 [] true, 24, []⟩
theorem tyOk101 : TyOk Tryd.prog 101 ti101 := chkTy_ok (inf := Tryd.t101) (by kernel_rfl) rfl rfl (by kernel_rfl) Tryd.underlying101 rfl rfl (fun h => absurd rfl h)
/-- func(int) ([]inst.span, int) -/
abbrev ti103 : TI := ⟨.func, 1, false, .v .nilFunc, 8, []⟩
theorem tyOk103 : TyOk Tryd.prog 103 ti103 := chkTy_ok (inf := Tryd.t103) (by kernel_rfl) rfl rfl (by kernel_rfl) Tryd.underlying103 rfl trivial (fun h => absurd rfl h)
/-- func(uint32, ...inst.span) (uint32, int) -/
abbrev ti105 : TI := ⟨.func, 1, false, .v .nilFunc, 8, []⟩
theorem tyOk105 : TyOk Tryd.prog 105 ti105 := chkTy_ok (inf := Tryd.t105) (by kernel_rfl) rfl rfl (by kernel_rfl) Tryd.underlying105 rfl trivial (fun h => absurd rfl h)
/-- func(int, uint32) uint32 -/
abbrev ti106 : TI := ⟨.func, 1, false, .v .nilFunc, 8, []⟩
theorem tyOk106 : TyOk Tryd.prog 106 ti106 := chkTy_ok (inf := Tryd.t106) (by kernel_rfl) rfl rfl (by kernel_rfl) Tryd.underlying106 rfl trivial (fun h => absurd rfl h)
/-- func(int) bool -/
abbrev ti107 : TI := ⟨.func, 1, false, .v .nilFunc, 8, []⟩
theorem tyOk107 : TyOk Tryd.prog 107 ti107 := chkTy_ok (inf := Tryd.t107) (by kernel_rfl) rfl rfl (by kernel_rfl) Tryd.underlying107 rfl trivial (fun h => absurd rfl h)
/-- func([]int, uint32) int -/
abbrev ti108 : TI := ⟨.func, 1, false, .v .nilFunc, 8, []⟩
theorem tyOk108 : TyOk Tryd.prog 108 ti108 := chkTy_ok (inf := Tryd.t108) (by kernel_rfl) rfl rfl (by kernel_rfl) Tryd.underlying108 rfl trivial (fun h => absurd rfl h)
/-- []int -/
abbrev ti109 : TI := ⟨.slice 3, 1, false, .sl 0 [] true, 24, []⟩
theorem tyOk109 : TyOk Tryd.prog 109 ti109 := chkTy_ok (inf := Tryd.t109) (by kernel_rfl) rfl rfl (by kernel_rfl) Tryd.underlying109 rfl rfl (fun h => absurd rfl h)
/-- func(uint32, uint32) int -/
abbrev ti110 : TI := ⟨.func, 1, false, .v .nilFunc, 8, []⟩
theorem tyOk110 : TyOk Tryd.prog 110 ti110 := chkTy_ok (inf := Tryd.t110) (by kernel_rfl) rfl rfl (by kernel_rfl) Tryd.underlying110 rfl trivial (fun h => absurd rfl h)
/-- func(uint32, uint32) uint32 -/
abbrev ti111 : TI := ⟨.func, 1, false, .v .nilFunc, 8, []⟩
theorem tyOk111 : TyOk Tryd.prog 111 ti111 := chkTy_ok (inf := Tryd.t111) (by kernel_rfl) rfl rfl (by kernel_rfl) Tryd.underlying111 rfl trivial (fun h => absurd rfl h)
/-- func(uint32) int64 -/
abbrev ti112 : TI := ⟨.func, 1, false, .v .nilFunc, 8, []⟩
theorem tyOk112 : TyOk Tryd.prog 112 ti112 := chkTy_ok (inf := Tryd.t112) (by kernel_rfl) rfl rfl (by kernel_rfl) Tryd.underlying112 rfl trivial (fun h => absurd rfl h)
/-- func(int64) uint32 -/
abbrev ti113 : TI := ⟨.func, 1, false, .v .nilFunc, 8, []⟩
theorem tyOk113 : TyOk Tryd.prog 113 ti113 := chkTy_ok (inf := Tryd.t113) (by kernel_rfl) rfl rfl (by kernel_rfl) Tryd.underlying113 rfl trivial (fun h => absurd rfl h)
/-- func(uint32, int, uint32) uint32 -/
abbrev ti114 : TI := ⟨.func, 1, false, .v .nilFunc, 8, []⟩
theorem tyOk114 : TyOk Tryd.prog 114 ti114 := chkTy_ok (inf := Tryd.t114) (by kernel_rfl) rfl rfl (by kernel_rfl) Tryd.underlying114 rfl trivial (fun h => absurd rfl h)
/-- func(bool) uint32 -/
abbrev ti115 : TI := ⟨.func, 1, false, .v .nilFunc, 8, []⟩
theorem tyOk115 : TyOk Tryd.prog 115 ti115 := chkTy_ok (inf := Tryd.t115) (by kernel_rfl) rfl rfl (by kernel_rfl) Tryd.underlying115 rfl trivial (fun h => absurd rfl h)
/-- func(int, int) bool -/
abbrev ti116 : TI := ⟨.func, 1, false, .v .nilFunc, 8, []⟩
theorem tyOk116 : TyOk Tryd.prog 116 ti116 := chkTy_ok (inf := Tryd.t116) (by kernel_rfl) rfl rfl (by kernel_rfl) Tryd.underlying116 rfl trivial (fun h => absurd rfl h)
/-- func([]uint32) uint32 -/
abbrev ti117 : TI := ⟨.func, 1, false, .v .nilFunc, 8, []⟩
theorem tyOk117 : TyOk Tryd.prog 117 ti117 := chkTy_ok (inf := Tryd.t117) (by kernel_rfl) rfl rfl (by kernel_rfl) Tryd.underlying117 rfl trivial (fun h => absurd rfl h)
/-- struct { at int; size int } -/
abbrev ti118 : TI := ⟨.struct [(0, 3), (1, 3)], 2, true, .agg [.v (.int .i64 0), .v (.int .i64 0)], 16, []⟩
theorem tyOk118 : TyOk Tryd.prog 118 ti118 := chkTy_ok (inf := Tryd.t118) (by kernel_rfl) rfl rfl (by kernel_rfl) Tryd.underlying118 rfl ⟨_, rfl, by kernel_rfl, by kernel_rfl⟩ (fun h => absurd rfl h)
/-- inst.span -/
abbrev ti119 : TI := ⟨.struct [(0, 3), (1, 3)], 2, true, .agg [.v (.int .i64 0), .v (.int .i64 0)], 16, []⟩
theorem tyOk119 : TyOk Tryd.prog 119 ti119 := chkTy_ok (inf := Tryd.t119) (by kernel_rfl) rfl rfl (by kernel_rfl) Tryd.underlying119 rfl ⟨_, rfl, by kernel_rfl, by kernel_rfl⟩ (fun h => absurd rfl h)
/-- func(uint32, int, int, uint32) uint32 -/
abbrev ti120 : TI := ⟨.func, 1, false, .v .nilFunc, 8, []⟩
theorem tyOk120 : TyOk Tryd.prog 120 ti120 := chkTy_ok (inf := Tryd.t120) (by kernel_rfl) rfl rfl (by kernel_rfl) Tryd.underlying120 rfl trivial (fun h => absurd rfl h)
/-- func() string -/
abbrev ti121 : TI := ⟨.func, 1, false, .v .nilFunc, 8, []⟩
theorem tyOk121 : TyOk Tryd.prog 121 ti121 := chkTy_ok (inf := Tryd.t121) (by kernel_rfl) rfl rfl (by kernel_rfl) Tryd.underlying121 rfl trivial (fun h => absurd rfl h)
/-- func() int -/
abbrev ti127 : TI := ⟨.func, 1, false, .v .nilFunc, 8, []⟩
theorem tyOk127 : TyOk Tryd.prog 127 ti127 := chkTy_ok (inf := Tryd.t127) (by kernel_rfl) rfl rfl (by kernel_rfl) Tryd.underlying127 rfl trivial (fun h => absurd rfl h)
/-- func(unsafe.Pointer, unsafe.Pointer) bool -/
abbrev ti130 : TI := ⟨.func, 1, false, .v .nilFunc, 8, []⟩
theorem tyOk130 : TyOk Tryd.prog 130 ti130 := chkTy_ok (inf := Tryd.t130) (by kernel_rfl) rfl rfl (by kernel_rfl) Tryd.underlying130 rfl trivial (fun h => absurd rfl h)
/-- *uint8 -/
abbrev ti131 : TI := ⟨.pointer, 1, false, .v (.pointer none), 8, []⟩
theorem tyOk131 : TyOk Tryd.prog 131 ti131 := chkTy_ok (inf := Tryd.t131) (by kernel_rfl) rfl rfl (by kernel_rfl) Tryd.underlying131 rfl trivial (fun h => absurd rfl h)
def tys : TT := .node 69 (.node 41 (.node 26 (.node 12 (.node 4 (.node 2 (.leaf 1 ti1) (.node 3 (.leaf 2 ti2) (.leaf 3 ti3))) (.node 5 (.leaf 4 ti4) (.node 9 (.leaf 5 ti5) (.leaf 9 ti9)))) (.node 22 (.node 13 (.leaf 12 ti12) (.node 21 (.leaf 13 ti13) (.leaf 21 ti21))) (.node 24 (.leaf 22 ti22) (.node 25 (.leaf 24 ti24) (.leaf 25 ti25))))) (.node 33 (.node 29 (.node 27 (.leaf 26 ti26) (.node 28 (.leaf 27 ti27) (.leaf 28 ti28))) (.node 31 (.leaf 29 ti29) (.node 32 (.leaf 31 ti31) (.leaf 32 ti32)))) (.node 36 (.node 34 (.leaf 33 ti33) (.node 35 (.leaf 34 ti34) (.leaf 35 ti35))) (.node 39 (.node 38 (.leaf 36 ti36) (.leaf 38 ti38)) (.node 40 (.leaf 39 ti39) (.leaf 40 ti40)))))) (.node 53 (.node 47 (.node 44 (.node 42 (.leaf 41 ti41) (.node 43 (.leaf 42 ti42) (.leaf 43 ti43))) (.node 45 (.leaf 44 ti44) (.node 46 (.leaf 45 ti45) (.leaf 46 ti46)))) (.node 50 (.node 48 (.leaf 47 ti47) (.node 49 (.leaf 48 ti48) (.leaf 49 ti49))) (.node 51 (.leaf 50 ti50) (.node 52 (.leaf 51 ti51) (.leaf 52 ti52))))) (.node 60 (.node 57 (.node 54 (.leaf 53 ti53) (.node 55 (.leaf 54 ti54) (.leaf 55 ti55))) (.node 58 (.leaf 57 ti57) (.node 59 (.leaf 58 ti58) (.leaf 59 ti59)))) (.node 65 (.node 61 (.leaf 60 ti60) (.node 63 (.leaf 61 ti61) (.leaf 63 ti63))) (.node 67 (.node 66 (.leaf 65 ti65) (.leaf 66 ti66)) (.node 68 (.leaf 67 ti67) (.leaf 68 ti68))))))) (.node 96 (.node 83 (.node 76 (.node 72 (.node 70 (.leaf 69 ti69) (.node 71 (.leaf 70 ti70) (.leaf 71 ti71))) (.node 73 (.leaf 72 ti72) (.node 74 (.leaf 73 ti73) (.leaf 74 ti74)))) (.node 80 (.node 77 (.leaf 76 ti76) (.node 79 (.leaf 77 ti77) (.leaf 79 ti79))) (.node 81 (.leaf 80 ti80) (.node 82 (.leaf 81 ti81) (.leaf 82 ti82))))) (.node 89 (.node 86 (.node 84 (.leaf 83 ti83) (.node 85 (.leaf 84 ti84) (.leaf 85 ti85))) (.node 87 (.leaf 86 ti86) (.node 88 (.leaf 87 ti87) (.leaf 88 ti88)))) (.node 92 (.node 90 (.leaf 89 ti89) (.node 91 (.leaf 90 ti90) (.leaf 91 ti91))) (.node 94 (.node 93 (.leaf 92 ti92) (.leaf 93 ti93)) (.node 95 (.leaf 94 ti94) (.leaf 95 ti95)))))) (.node 112 (.node 105 (.node 100 (.node 97 (.leaf 96 ti96) (.node 98 (.leaf 97 ti97) (.leaf 98 ti98))) (.node 101 (.leaf 100 ti100) (.node 103 (.leaf 101 ti101) (.leaf 103 ti103)))) (.node 108 (.node 106 (.leaf 105 ti105) (.node 107 (.leaf 106 ti106) (.leaf 107 ti107))) (.node 110 (.node 109 (.leaf 108 ti108) (.leaf 109 ti109)) (.node 111 (.leaf 110 ti110) (.leaf 111 ti111))))) (.node 118 (.node 115 (.node 113 (.leaf 112 ti112) (.node 114 (.leaf 113 ti113) (.leaf 114 ti114))) (.node 116 (.leaf 115 ti115) (.node 117 (.leaf 116 ti116) (.leaf 117 ti117)))) (.node 121 (.node 119 (.leaf 118 ti118) (.node 120 (.leaf 119 ti119) (.leaf 120 ti120))) (.node 130 (.node 127 (.leaf 121 ti121) (.leaf 127 ti127)) (.node 131 (.leaf 130 ti130) (.leaf 131 ti131)))))))
theorem tysOk : AllTy Tryd.prog tys := ⟨⟨⟨⟨⟨⟨tyOk1, ⟨tyOk2, tyOk3⟩⟩, ⟨tyOk4, ⟨tyOk5, tyOk9⟩⟩⟩, ⟨⟨tyOk12, ⟨tyOk13, tyOk21⟩⟩, ⟨tyOk22, ⟨tyOk24, tyOk25⟩⟩⟩⟩, ⟨⟨⟨tyOk26, ⟨tyOk27, tyOk28⟩⟩, ⟨tyOk29, ⟨tyOk31, tyOk32⟩⟩⟩, ⟨⟨tyOk33, ⟨tyOk34, tyOk35⟩⟩, ⟨⟨tyOk36, tyOk38⟩, ⟨tyOk39, tyOk40⟩⟩⟩⟩⟩, ⟨⟨⟨⟨tyOk41, ⟨tyOk42, tyOk43⟩⟩, ⟨tyOk44, ⟨tyOk45, tyOk46⟩⟩⟩, ⟨⟨tyOk47, ⟨tyOk48, tyOk49⟩⟩, ⟨tyOk50, ⟨tyOk51, tyOk52⟩⟩⟩⟩, ⟨⟨⟨tyOk53, ⟨tyOk54, tyOk55⟩⟩, ⟨tyOk57, ⟨tyOk58, tyOk59⟩⟩⟩, ⟨⟨tyOk60, ⟨tyOk61, tyOk63⟩⟩, ⟨⟨tyOk65, tyOk66⟩, ⟨tyOk67, tyOk68⟩⟩⟩⟩⟩⟩, ⟨⟨⟨⟨⟨tyOk69, ⟨tyOk70, tyOk71⟩⟩, ⟨tyOk72, ⟨tyOk73, tyOk74⟩⟩⟩, ⟨⟨tyOk76, ⟨tyOk77, tyOk79⟩⟩, ⟨tyOk80, ⟨tyOk81, tyOk82⟩⟩⟩⟩, ⟨⟨⟨tyOk83, ⟨tyOk84, tyOk85⟩⟩, ⟨tyOk86, ⟨tyOk87, tyOk88⟩⟩⟩, ⟨⟨tyOk89, ⟨tyOk90, tyOk91⟩⟩, ⟨⟨tyOk92, tyOk93⟩, ⟨tyOk94, tyOk95⟩⟩⟩⟩⟩, ⟨⟨⟨⟨tyOk96, ⟨tyOk97, tyOk98⟩⟩, ⟨tyOk100, ⟨tyOk101, tyOk103⟩⟩⟩, ⟨⟨tyOk105, ⟨tyOk106, tyOk107⟩⟩, ⟨⟨tyOk108, tyOk109⟩, ⟨tyOk110, tyOk111⟩⟩⟩⟩, ⟨⟨⟨tyOk112, ⟨tyOk113, tyOk114⟩⟩, ⟨tyOk115, ⟨tyOk116, tyOk117⟩⟩⟩, ⟨⟨tyOk118, ⟨tyOk119, tyOk120⟩⟩, ⟨⟨tyOk121, tyOk127⟩, ⟨tyOk130, tyOk131⟩⟩⟩⟩⟩⟩⟩
def gCells : List AV := codesL.map fun k => .v (.int .u32 (k : Nat))
noncomputable def C0 : Ctx := { P := Tryd.prog, ty := tys.find, G := fun g => match g with | 0 => some gCells | _ => none }
theorem c0Ok : CtxOk C0 := ⟨TT.find_ok tys tysOk, by kernel_rfl⟩
theorem gCells_get (k : Nat) (hk : k < 49) : gCells[k]? = some (.v (.int .u32 (code k))) := by
  have : ∀ k, k < 49 → codesL[k]? = some (code k) := by decide
  simp only [gCells, List.getElem?_map, this k hk, Option.map_some]
theorem g0Ok {S : Nat → Prop} {w : World} (h : Codes w) (hS : S 0) : GOk C0 S w := fun g cells hg => by
  match g, hg with
  | 0, hg =>
    injection hg with hg; subst hg
    have hget : ∀ (j : Nat) a, gCells[j]? = some a → j < 49 := fun j a hj => (List.getElem?_eq_some_iff.1 hj).1
    exact .dp gCells.length 0 gCells 0 0 (fun k => .int .u32 (code k)) rfl hS (fun j a hj => by rw [Nat.zero_add]; exact h j (hget j a hj)) (fun _ => rfl) fun j a hj => by
      rw [gCells_get j (hget j a hj)] at hj
      injection hj with hj; subst hj
      exact .v _
theorem codes_of_g {S : Nat → Prop} {w : World} (h : GOk C0 S w) : Codes w := by
  have := h 0 gCells rfl
  generalize hp : Value.pointer (some (⟨0, 0, none⟩ : Addr)) = p at this
  cases this with
  | dp _ _ _ b o u hrs hb hw h1 hr =>
    simp only [Value.pointer.injEq, Option.some.injEq, Addr.mk.injEq] at hp
    obtain ⟨rfl, ho, -⟩ := hp
    obtain rfl : o = 0 := by omega
    intro k hk
    have e := gCells_get k hk
    have := hw k _ e
    rw [Nat.zero_add] at this
    rw [this, rep_v (hr k _ e)]
end Go.Proofs.YtahnhhbgkmlfcaaDoor

namespace Go.Proofs.YtahnhhbgkmlfcaaDoor
open Go.RowKit

structure St where
  pc : Nat
  r : Nat → Nat
  mem : ByteArray
  halt : Int
structure Sp where
  pc : Nat
  next : Nat
  rd : Int
  value : Nat
  addr : Nat
  size : Int
  store : Bool
  halt : Int
  took : Int

abbrev stL (pc : Nat) (r : Nat → Nat) (m : ByteArray) (h : Int) : List AV :=
  [.v (.int .u32 (pc : Int)), .v (.int .u32 (r 0 : Int)), .v (.int .u32 (r 1 : Int)), .v (.int .u32 (r 2 : Int)), .v (.int .u32 (r 3 : Int)), .v (.int .u32 (r 4 : Int)), .v (.int .u32 (r 5 : Int)), .v (.int .u32 (r 6 : Int)), .v (.int .u32 (r 7 : Int)), .v (.int .u32 (r 8 : Int)), .v (.int .u32 (r 9 : Int)), .v (.int .u32 (r 10 : Int)), .v (.int .u32 (r 11 : Int)), .v (.int .u32 (r 12 : Int)), .v (.int .u32 (r 13 : Int)), .v (.int .u32 (r 14 : Int)), .v (.int .u32 (r 15 : Int)), .v (.int .u32 (r 16 : Int)), .v (.int .u32 (r 17 : Int)), .v (.int .u32 (r 18 : Int)), .v (.int .u32 (r 19 : Int)), .v (.int .u32 (r 20 : Int)), .v (.int .u32 (r 21 : Int)), .v (.int .u32 (r 22 : Int)), .v (.int .u32 (r 23 : Int)), .v (.int .u32 (r 24 : Int)), .v (.int .u32 (r 25 : Int)), .v (.int .u32 (r 26 : Int)), .v (.int .u32 (r 27 : Int)), .v (.int .u32 (r 28 : Int)), .v (.int .u32 (r 29 : Int)), .v (.int .u32 (r 30 : Int)), .v (.int .u32 (r 31 : Int)), .v (.string m), .v (.int .i64 h)]
abbrev stA (s : St) : AV := .agg (stL s.pc s.r s.mem s.halt)
abbrev spL (x : Sp) : List AV := [.v (.int .u32 (x.pc : Int)), .v (.int .u32 (x.next : Int)), .v (.int .i64 x.rd), .v (.int .u32 (x.value : Int)), .v (.int .u32 (x.addr : Int)), .v (.int .i64 x.size), .v (.bool x.store), .v (.int .i64 x.halt), .v (.int .i64 x.took)]
abbrev spA (x : Sp) : AV := .agg (spL x)
abbrev siA (i : SI) : AV := .agg [.v (.int .i64 i.op), .v (.int .i64 i.rd), .v (.int .i64 i.rs1), .v (.int .i64 i.rs2), .v (.int .u32 (i.imm : Int))]
abbrev two (x : St × Sp) : AV := .tup [stA x.1, spA x.2]

structure St.ok (s : St) : Prop where
  pc : s.pc ≤ 4294967295
  r : ∀ k, s.r k ≤ 4294967295
  mem : s.mem.size ≤ 256

def setR (r : Nat → Nat) (k v : Nat) : Nat → Nat := fun j => if j = k then v else r j
theorem ldR (pc : Nat) (r : Nat → Nat) (m : ByteArray) (h : Int) (n : Nat) (hn : n < 32) : okO (nthO (stL pc r m h) (1 + n * 1)) = .ok (.v (.int .u32 (r n : Int))) := by
  have : ∀ (n : _root_.Fin 32), okO (nthO (stL pc r m h) (1 + n.1 * 1)) = .ok (.v (.int .u32 (r n.1 : Int))) := by
    intro n
    match n with
    | ⟨0, _⟩ => rfl
    | ⟨1, _⟩ => rfl
    | ⟨2, _⟩ => rfl
    | ⟨3, _⟩ => rfl
    | ⟨4, _⟩ => rfl
    | ⟨5, _⟩ => rfl
    | ⟨6, _⟩ => rfl
    | ⟨7, _⟩ => rfl
    | ⟨8, _⟩ => rfl
    | ⟨9, _⟩ => rfl
    | ⟨10, _⟩ => rfl
    | ⟨11, _⟩ => rfl
    | ⟨12, _⟩ => rfl
    | ⟨13, _⟩ => rfl
    | ⟨14, _⟩ => rfl
    | ⟨15, _⟩ => rfl
    | ⟨16, _⟩ => rfl
    | ⟨17, _⟩ => rfl
    | ⟨18, _⟩ => rfl
    | ⟨19, _⟩ => rfl
    | ⟨20, _⟩ => rfl
    | ⟨21, _⟩ => rfl
    | ⟨22, _⟩ => rfl
    | ⟨23, _⟩ => rfl
    | ⟨24, _⟩ => rfl
    | ⟨25, _⟩ => rfl
    | ⟨26, _⟩ => rfl
    | ⟨27, _⟩ => rfl
    | ⟨28, _⟩ => rfl
    | ⟨29, _⟩ => rfl
    | ⟨30, _⟩ => rfl
    | ⟨31, _⟩ => rfl
    | ⟨k + 32, h⟩ => exact absurd h (by omega)
  exact this ⟨n, hn⟩
theorem putR (pc : Nat) (r : Nat → Nat) (m : ByteArray) (h : Int) (n v : Nat) (hn : n < 32) : putL (1 + n * 1) [.v (.int .u32 (v : Int))] (stL pc r m h) = stL pc (setR r n v) m h := by
  have : ∀ (n : _root_.Fin 32), putL (1 + n.1 * 1) [.v (.int .u32 (v : Int))] (stL pc r m h) = stL pc (setR r n.1 v) m h := by
    intro n
    match n with
    | ⟨0, _⟩ => rfl
    | ⟨1, _⟩ => rfl
    | ⟨2, _⟩ => rfl
    | ⟨3, _⟩ => rfl
    | ⟨4, _⟩ => rfl
    | ⟨5, _⟩ => rfl
    | ⟨6, _⟩ => rfl
    | ⟨7, _⟩ => rfl
    | ⟨8, _⟩ => rfl
    | ⟨9, _⟩ => rfl
    | ⟨10, _⟩ => rfl
    | ⟨11, _⟩ => rfl
    | ⟨12, _⟩ => rfl
    | ⟨13, _⟩ => rfl
    | ⟨14, _⟩ => rfl
    | ⟨15, _⟩ => rfl
    | ⟨16, _⟩ => rfl
    | ⟨17, _⟩ => rfl
    | ⟨18, _⟩ => rfl
    | ⟨19, _⟩ => rfl
    | ⟨20, _⟩ => rfl
    | ⟨21, _⟩ => rfl
    | ⟨22, _⟩ => rfl
    | ⟨23, _⟩ => rfl
    | ⟨24, _⟩ => rfl
    | ⟨25, _⟩ => rfl
    | ⟨26, _⟩ => rfl
    | ⟨27, _⟩ => rfl
    | ⟨28, _⟩ => rfl
    | ⟨29, _⟩ => rfl
    | ⟨30, _⟩ => rfl
    | ⟨31, _⟩ => rfl
    | ⟨k + 32, h⟩ => exact absurd h (by omega)
  exact this ⟨n, hn⟩
theorem stR {ev : Operand → AV} {h : AH} {s b n v : Nat} {a x : Operand} {pc : Nat} {r : Nat → Nat} {m : ByteArray} {hl : Int} (ha : ev a = .ptr b (1 + n * 1)) (hb : h b = some (.box (stL pc r m hl))) (hx : ev x = .v (.int .u32 (v : Int))) (hn : n < 32) :
    opA C0 ev h s (.store 25 a x) = .fx True .any (upd h b (some (.box (stL pc (setR r n v) m hl)))) := by
  have hty : C0.ty 25 = some ti25 := rfl
  have hc : (1 + n * 1 + ([.v (.int .u32 (v : Int))] : List AV).length).ble (stL pc r m hl).length = true := Nat.ble_eq_true_of_le (by simp; omega)
  simp only [opA, hty, hx, cellsA, ha, hb]
  rw [show ([AV.v (Value.int IntKind.u32 (v : Int))].length.beq 1) = true from rfl]
  simp only
  rw [hc]
  simp only
  rw [putR _ _ _ _ _ _ hn]

/-- The register that an instruction writes. -/
def wr (i : SI) : Int := if hasRd (formOf i.op) then i.rd else 0
def fetchP (prog : List Nat) (pc : Nat) : Option Nat := if pc % 4 = 0 then prog[pc / 4]? else none
def writeP (m : ByteArray) (addr : Nat) (b : ByteArray) : ByteArray := ⟨(m.data.toList.take addr ++ b.data.toList ++ m.data.toList.drop (addr + b.size)).toArray⟩
def readP (m : ByteArray) (addr n : Nat) : ByteArray := m.extract addr (addr + n)
def haltP (s : St) (why : Int) (addr : Nat) : St × Sp := ({ s with halt := why }, ⟨s.pc, s.pc, 0, 0, addr, 0, false, why, 0⟩)
def up4 (pc : Nat) : Nat := (pc + 4) % 4294967296
def addrOf (i : SI) (a : Nat) : Nat := (a + i.imm) % 4294967296
def valB (b n : Nat) : Nat := joinTo (bytesP b n).data.toList (bytesP b n).size

def accessP (s : St) (i : SI) (a b : Nat) : St × Sp :=
  if rightP (s.mem.size : Int) (addrOf i a) (sizeOf' i.op : Nat) = true then
    if kindOf i.op = 4 then ({ s with pc := up4 s.pc, mem := writeP s.mem (addrOf i a) (bytesP b (sizeOf' i.op)) }, ⟨s.pc, up4 s.pc, wr i, valB b (sizeOf' i.op), addrOf i a, (sizeOf' i.op : Nat), kindOf i.op == 4, 0, 0⟩)
    else if wr i = 0 then ({ s with pc := up4 s.pc }, ⟨s.pc, up4 s.pc, wr i, 0, addrOf i a, (sizeOf' i.op : Nat), kindOf i.op == 4, 0, 0⟩)
    else ({ s with pc := up4 s.pc, r := setR s.r (wr i).toNat (loadP i.op (readP s.mem (addrOf i a) (sizeOf' i.op))) }, ⟨s.pc, up4 s.pc, wr i, loadP i.op (readP s.mem (addrOf i a) (sizeOf' i.op)), addrOf i a, (sizeOf' i.op : Nat), kindOf i.op == 4, 0, 0⟩)
  else haltP s (if kindOf i.op = 4 then 5 else 4) (addrOf i a)

def finP (s : St) (i : SI) (a b nx : Nat) (tk : Int) : St × Sp :=
  if wr i = 0 then ({ s with pc := nx }, ⟨s.pc, nx, wr i, 0, 0, 0, false, 0, tk⟩)
  else ({ s with pc := nx, r := setR s.r (wr i).toNat (valP i.op i.imm s.pc a b) }, ⟨s.pc, nx, wr i, valP i.op i.imm s.pc a b, 0, 0, false, 0, tk⟩)
def reckonP (s : St) (i : SI) (a b : Nat) : St × Sp :=
  if kindOf i.op = 5 then
    if nextP i.op i.imm s.pc a b % 4 = 0 then finP s i a b (nextP i.op i.imm s.pc a b) 0 else haltP s 3 0
  else finP s i a b (up4 s.pc) (if kindOf i.op = 2 then tookP i.op a b else 0)

def noSp : Sp := ⟨0, 0, 0, 0, 0, 0, false, 0, 0⟩
def doI (s : St) (i : SI) : St × Sp :=
  if i.op = 47 then haltP s 6 0
  else if i.op = 48 then haltP s 7 0
  else if kindOf i.op = 3 ∨ kindOf i.op = 4 then accessP s i (s.r i.rs1.toNat) (s.r i.rs2.toNat)
  else reckonP s i (s.r i.rs1.toNat) (s.r i.rs2.toNat)
def fetchW (prog : List Nat) (pc : Nat) : Nat := (fetchP prog pc).getD 0
def insOf (prog : List Nat) (s : St) : SI := decN (fetchW prog s.pc)
def stepP (prog : List Nat) (s : St) : St × Sp :=
  if s.halt = 0 then
    if (fetchP prog s.pc).isSome = true then
      if opOf (fetchW prog s.pc) = 0 then haltP s 2 0 else doI s (insOf prog s)
    else haltP s 1 0
  else (s, noSp)

theorem decN_rd (x : Nat) : 0 ≤ (decN x).rd ∧ (decN x).rd < 32 ∧ 0 ≤ (decN x).rs1 ∧ (decN x).rs1 < 32 ∧ 0 ≤ (decN x).rs2 ∧ (decN x).rs2 < 32 ∧ (decN x).imm < 4294967296 := by
  unfold decN
  split
  · exact ⟨by decide, by decide, by decide, by decide, by decide, by decide, by decide⟩
  · have h1 := field_lt x 7 5
    have h2 := field_lt x 15 5
    have h3 := field_lt x 20 5
    refine ⟨?_, ?_, ?_, ?_, ?_, ?_, immOf_lt' _ _ (formOf_le _)⟩ <;> simp only [readN] <;> split <;> omega
theorem wr_lt (x : Nat) : 0 ≤ wr (decN x) ∧ wr (decN x) < 32 := by
  have := decN_rd x
  unfold wr
  split <;> omega

/-! ### contracts -/
def valT : AV → Option Value
  | .tup cs => match valL cs with | some l => some (.tuple l.toArray) | none => none
  | x => valF x
theorem valT_rep {S : Nat → Prop} {w : World} {β : Bt} {a : AV} {u : Value} (h : valT a = some u) : Rep S w β a u := by
  cases a with
  | tup cs =>
    simp only [valT] at h
    split at h
    · rename_i l hl
      injection h with h; subst h
      have := valL_rep (S := S) (w := w) (β := β) hl
      exact .tup cs l.toArray (by simpa using this.1) fun i a u h1 h2 => this.2 i a u h1 (by simpa using h2)
    · cases h
  | _ => exact valF_rep h
theorem DCall.of_tupG {C : Ctx} {f : FuncId} {fn : Func} {args : List AV} {vs : List Value} {r : AV} {v : Value} (hf : C.P.funcs[f]? = some fn) (hb : fn.body.isSome = true) (hnm : (fn.name == "runtime.NumGoroutine") = false)
    (ha : valL args = some vs) (hr : valT r = some v) (hc : ∀ S w, GOk C S w → Calls C.P f vs.toArray w fun e w' => e = .returned v ∧ Below w.heap.size w w') : DCall C f args r :=
  ⟨⟨fn, hf, hb, hnm⟩, fun S w us hS hG hu => by
    rw [valL_eq ha hu]
    exact (hc S w hG).mono fun e w' ⟨he, hB⟩ => ⟨v, he, hB, valT_rep hr⟩⟩
theorem DCall.of_tup {C : Ctx} {f : FuncId} {fn : Func} {args : List AV} {vs : List Value} {r : AV} {v : Value} (hf : C.P.funcs[f]? = some fn) (hb : fn.body.isSome = true) (hnm : (fn.name == "runtime.NumGoroutine") = false)
    (ha : valL args = some vs) (hr : valT r = some v) (hc : ∀ w, Calls C.P f vs.toArray w fun e w' => e = .returned v ∧ Below w.heap.size w w') : DCall C f args r :=
  .of_tupG hf hb hnm ha hr fun _ w _ => hc w
section
variable (i : SI)
theorem dKind : DCall C0 29 [siA i] (.v (.int .i64 ((kindOf i.op : Nat) : Int))) :=
  .of_flat Tryd.func29 rfl rfl rfl rfl fun w => kind_any i.op i.rd i.rs1 i.rs2 i.imm w
theorem dSize : DCall C0 53 [siA i] (.v (.int .i64 ((sizeOf' i.op : Nat) : Int))) :=
  .of_flat Tryd.func53 rfl rfl rfl rfl fun w => size_any i.op i.rd i.rs1 i.rs2 i.imm w
theorem dWrites : DCall C0 55 [siA i] (.v (.int .i64 (wr i))) :=
  .of_flat Tryd.func55 rfl rfl rfl rfl fun w => writes_any i.op i.rd i.rs1 i.rs2 i.imm w
theorem dTarget (pc a b : Nat) (hi : i.imm < 4294967296) (hp : pc < 4294967296) (ha : a < 4294967296) (hb : b < 4294967296) : DCall C0 61 [siA i, .v (.int .u32 (pc : Int)), .v (.int .u32 (a : Int)), .v (.int .u32 (b : Int))] (.tup [.v (.int .u32 ((nextP i.op i.imm pc a b : Nat) : Int)), .v (.bool (decide (nextP i.op i.imm pc a b % 4 = 0)))]) :=
  .of_tup Tryd.func61 rfl rfl rfl rfl fun w => target_any i.op i.rd i.rs1 i.rs2 i.imm pc a b w hi hp ha hb
theorem dValue (pc a b : Nat) (hi : i.imm < 4294967296) (hp : pc < 4294967296) (ha : a < 4294967296) (hb : b < 4294967296) : DCall C0 63 [siA i, .v (.int .u32 (pc : Int)), .v (.int .u32 (a : Int)), .v (.int .u32 (b : Int))] (.v (.int .u32 ((valP i.op i.imm pc a b : Nat) : Int))) :=
  .of_flat Tryd.func63 rfl rfl rfl rfl fun w => value_any i.op i.rd i.rs1 i.rs2 i.imm pc a b w hi hp ha hb
theorem dTook (op : Int) (a b : Nat) (ha : a < 4294967296) (hb : b < 4294967296) : DCall C0 62 [.v (.int .i64 op), .v (.int .u32 (a : Int)), .v (.int .u32 (b : Int))] (.v (.int .i64 (tookP op a b))) :=
  .of_flat Tryd.func62 rfl rfl rfl rfl fun w => (took_any op a b w ha hb).mono fun _ _ ⟨h1, h2⟩ => ⟨h1, h2 ▸ Below.refl _ _⟩
theorem dRight (size : Int) (addr : Nat) (many : Int) (hs : size < 9223372036854775808) (ha : addr < 4294967296) : DCall C0 54 [.v (.int .i64 size), .v (.int .u32 (addr : Int)), .v (.int .i64 many)] (.v (.bool (rightP size addr many))) :=
  .of_flat Tryd.func54 rfl rfl rfl rfl fun w => (right_any size addr many w hs ha).mono fun _ _ ⟨h1, h2⟩ => ⟨h1, h2 ▸ Below.refl _ _⟩
theorem dBytes (x n : Nat) (hx : x < 4294967296) (hn : n ≤ 4) : DCall C0 56 [.v (.int .u32 (x : Int)), .v (.int .i64 (n : Int))] (.tup [.v (.string (bytesP x n)), .v (.int .i64 0)]) :=
  .of_tup Tryd.func56 rfl rfl rfl rfl fun w => bytes_any x n w hx hn
theorem dJoin (s : ByteArray) (hs : s.size ≤ 4) : DCall C0 57 [.v (.string s)] (.tup [.v (.int .u32 ((joinTo s.data.toList s.size : Nat) : Int)), .v (.int .i64 0)]) :=
  .of_tup Tryd.func57 rfl rfl rfl rfl fun w => (join_any s w hs).mono fun _ _ ⟨h1, h2⟩ => ⟨h1, h2 ▸ Below.refl _ _⟩
theorem dLoad (op : Int) (s : ByteArray) (hs : s.size < 9223372036854775808) : DCall C0 60 [.v (.int .i64 op), .v (.string s)] (.v (.int .u32 ((loadP op s : Nat) : Int))) :=
  .of_flat Tryd.func60 rfl rfl rfl rfl fun w => load_any op s w hs
theorem dDecode (x : Nat) (hx : x < 4294967296) : DCall C0 27 [.v (.int .u32 (x : Int))] (.tup [siA (decN x), .v (.int .i64 ((decE x : Nat) : Int))]) :=
  .of_tupG Tryd.func27 rfl rfl rfl rfl fun S w hG => decode_any x w (codes_of_g hG) hx
end
end Go.Proofs.YtahnhhbgkmlfcaaDoor
