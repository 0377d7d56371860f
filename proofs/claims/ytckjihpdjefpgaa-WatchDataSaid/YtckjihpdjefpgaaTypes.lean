/- The seat's types, as the second machine is told of them. -/
import Derived.Test.YtckjihpdjefpgaaAbsEq
import Derived.Test.YtckjihpdjefpgaaProg
import Derived.KernelRfl
namespace Go.Proofs.Ytckjihpdjefpgaa
open Go.RowKit

/-- func() -/
abbrev ti1 : TI := ⟨.func, 1, false, .v .nilFunc, 8, []⟩
theorem tyOk1 : TyOk Try.prog 1 ti1 := chkTy_ok (inf := Try.t1) (by kernel_rfl) rfl rfl (by kernel_rfl) Try.underlying1 rfl trivial (fun h => absurd rfl h)
/-- int64 -/
abbrev ti2 : TI := ⟨.int .i64, 1, false, .v (.int .i64 0), 8, []⟩
theorem tyOk2 : TyOk Try.prog 2 ti2 := chkTy_ok (inf := Try.t2) (by kernel_rfl) rfl rfl (by kernel_rfl) Try.underlying2 rfl rfl (fun h => absurd rfl h)
/-- int -/
abbrev ti3 : TI := ⟨.int .i64, 1, false, .v (.int .i64 0), 8, []⟩
theorem tyOk3 : TyOk Try.prog 3 ti3 := chkTy_ok (inf := Try.t3) (by kernel_rfl) rfl rfl (by kernel_rfl) Try.underlying3 rfl rfl (fun h => absurd rfl h)
/-- bool -/
abbrev ti4 : TI := ⟨.bool, 1, false, .v (.bool false), 1, []⟩
theorem tyOk4 : TyOk Try.prog 4 ti4 := chkTy_ok (inf := Try.t4) (by kernel_rfl) rfl rfl (by kernel_rfl) Try.underlying4 rfl rfl (fun h => absurd rfl h)
/-- uint8 -/
abbrev ti5 : TI := ⟨.int .u8, 1, false, .v (.int .u8 0), 1, []⟩
theorem tyOk5 : TyOk Try.prog 5 ti5 := chkTy_ok (inf := Try.t5) (by kernel_rfl) rfl rfl (by kernel_rfl) Try.underlying5 rfl rfl (fun h => absurd rfl h)
/-- string -/
abbrev ti9 : TI := ⟨.string, 1, false, .v (.string ⟨#[]⟩), 16, []⟩
theorem tyOk9 : TyOk Try.prog 9 ti9 := chkTy_ok (inf := Try.t9) (by kernel_rfl) rfl rfl (by kernel_rfl) Try.underlying9 rfl rfl (fun h => absurd rfl h)
/-- uintptr -/
abbrev ti12 : TI := ⟨.int .u64, 1, false, .v (.int .u64 0), 8, []⟩
theorem tyOk12 : TyOk Try.prog 12 ti12 := chkTy_ok (inf := Try.t12) (by kernel_rfl) rfl rfl (by kernel_rfl) Try.underlying12 rfl rfl (fun h => absurd rfl h)
/-- struct { msg string; addr uintptr } -/
abbrev ti13 : TI := ⟨.struct [(0, 9), (1, 12)], 2, true, .agg [.v (.string ⟨#[]⟩), .v (.int .u64 0)], 24, []⟩
theorem tyOk13 : TyOk Try.prog 13 ti13 := chkTy_ok (inf := Try.t13) (by kernel_rfl) rfl rfl (by kernel_rfl) Try.underlying13 rfl ⟨_, rfl, by kernel_rfl, by kernel_rfl⟩ (fun h => absurd rfl h)
/-- int32 -/
abbrev ti21 : TI := ⟨.int .i32, 1, false, .v (.int .i32 0), 4, []⟩
theorem tyOk21 : TyOk Try.prog 21 ti21 := chkTy_ok (inf := Try.t21) (by kernel_rfl) rfl rfl (by kernel_rfl) Try.underlying21 rfl rfl (fun h => absurd rfl h)
/-- uint32 -/
abbrev ti22 : TI := ⟨.int .u32, 1, false, .v (.int .u32 0), 4, []⟩
theorem tyOk22 : TyOk Try.prog 22 ti22 := chkTy_ok (inf := Try.t22) (by kernel_rfl) rfl rfl (by kernel_rfl) Try.underlying22 rfl rfl (fun h => absurd rfl h)
/-- struct { Op int; Rd int; Rs1 int; Rs2 int; Imm uint32 } -/
abbrev ti23 : TI := ⟨.struct [(0, 3), (1, 3), (2, 3), (3, 3), (4, 22)], 5, true, .agg [.v (.int .i64 0), .v (.int .i64 0), .v (.int .i64 0), .v (.int .i64 0), .v (.int .u32 0)], 40, []⟩
theorem tyOk23 : TyOk Try.prog 23 ti23 := chkTy_ok (inf := Try.t23) (by kernel_rfl) rfl rfl (by kernel_rfl) Try.underlying23 rfl ⟨_, rfl, by kernel_rfl, by kernel_rfl⟩ (fun h => absurd rfl h)
/-- api.Inst -/
abbrev ti24 : TI := ⟨.struct [(0, 3), (1, 3), (2, 3), (3, 3), (4, 22)], 5, true, .agg [.v (.int .i64 0), .v (.int .i64 0), .v (.int .i64 0), .v (.int .i64 0), .v (.int .u32 0)], 40, [.i, .i, .i, .i, .i]⟩
theorem tyOk24 : TyOk Try.prog 24 ti24 := chkTy_ok (inf := Try.t24) (by kernel_rfl) rfl rfl (by kernel_rfl) Try.underlying24 rfl ⟨_, rfl, by kernel_rfl, by kernel_rfl⟩ (fun _ => eqOk_of (d := 20) (by kernel_rfl))
/-- struct { No int; PC uint32; Inst api.Inst; Guess uint32; Is int; Left int; Value uint32; Next uint32; Addr uint32; Halt int; Took int; Known bool; Filled bool } -/
abbrev ti25 : TI := ⟨.struct [(0, 3), (1, 22), (2, 24), (7, 22), (8, 3), (9, 3), (10, 22), (11, 22), (12, 22), (13, 3), (14, 3), (15, 4), (16, 4)], 17, true, .agg [.v (.int .i64 0), .v (.int .u32 0), .v (.int .i64 0), .v (.int .i64 0), .v (.int .i64 0), .v (.int .i64 0), .v (.int .u32 0), .v (.int .u32 0), .v (.int .i64 0), .v (.int .i64 0), .v (.int .u32 0), .v (.int .u32 0), .v (.int .u32 0), .v (.int .i64 0), .v (.int .i64 0), .v (.bool false), .v (.bool false)], 120, []⟩
theorem tyOk25 : TyOk Try.prog 25 ti25 := chkTy_ok (inf := Try.t25) (by kernel_rfl) rfl rfl (by kernel_rfl) Try.underlying25 rfl ⟨_, rfl, by kernel_rfl, by kernel_rfl⟩ (fun h => absurd rfl h)
/-- api.Entry -/
abbrev ti26 : TI := ⟨.struct [(0, 3), (1, 22), (2, 24), (7, 22), (8, 3), (9, 3), (10, 22), (11, 22), (12, 22), (13, 3), (14, 3), (15, 4), (16, 4)], 17, true, .agg [.v (.int .i64 0), .v (.int .u32 0), .v (.int .i64 0), .v (.int .i64 0), .v (.int .i64 0), .v (.int .i64 0), .v (.int .u32 0), .v (.int .u32 0), .v (.int .i64 0), .v (.int .i64 0), .v (.int .u32 0), .v (.int .u32 0), .v (.int .u32 0), .v (.int .i64 0), .v (.int .i64 0), .v (.bool false), .v (.bool false)], 120, [.i, .i, .i, .i, .i, .i, .i, .i, .i, .i, .i, .i, .i, .i, .i, .b, .b]⟩
theorem tyOk26 : TyOk Try.prog 26 ti26 := chkTy_ok (inf := Try.t26) (by kernel_rfl) rfl rfl (by kernel_rfl) Try.underlying26 rfl ⟨_, rfl, by kernel_rfl, by kernel_rfl⟩ (fun _ => eqOk_of (d := 20) (by kernel_rfl))
/-- func(api.Entry, uint32, uint32) api.Entry -/
abbrev ti27 : TI := ⟨.func, 1, false, .v .nilFunc, 8, []⟩
theorem tyOk27 : TyOk Try.prog 27 ti27 := chkTy_ok (inf := Try.t27) (by kernel_rfl) rfl rfl (by kernel_rfl) Try.underlying27 rfl trivial (fun h => absurd rfl h)
/-- func() bool -/
abbrev ti28 : TI := ⟨.func, 1, false, .v .nilFunc, 8, []⟩
theorem tyOk28 : TyOk Try.prog 28 ti28 := chkTy_ok (inf := Try.t28) (by kernel_rfl) rfl rfl (by kernel_rfl) Try.underlying28 rfl trivial (fun h => absurd rfl h)
/-- func(api.Entry) api.Entry -/
abbrev ti29 : TI := ⟨.func, 1, false, .v .nilFunc, 8, []⟩
theorem tyOk29 : TyOk Try.prog 29 ti29 := chkTy_ok (inf := Try.t29) (by kernel_rfl) rfl rfl (by kernel_rfl) Try.underlying29 rfl trivial (fun h => absurd rfl h)
/-- func(int) int -/
abbrev ti30 : TI := ⟨.func, 1, false, .v .nilFunc, 8, []⟩
theorem tyOk30 : TyOk Try.prog 30 ti30 := chkTy_ok (inf := Try.t30) (by kernel_rfl) rfl rfl (by kernel_rfl) Try.underlying30 rfl trivial (fun h => absurd rfl h)
/-- func(api.Entry, uint32, uint32) bool -/
abbrev ti31 : TI := ⟨.func, 1, false, .v .nilFunc, 8, []⟩
theorem tyOk31 : TyOk Try.prog 31 ti31 := chkTy_ok (inf := Try.t31) (by kernel_rfl) rfl rfl (by kernel_rfl) Try.underlying31 rfl trivial (fun h => absurd rfl h)
/-- func(api.Entry, int, uint32) api.Entry -/
abbrev ti32 : TI := ⟨.func, 1, false, .v .nilFunc, 8, []⟩
theorem tyOk32 : TyOk Try.prog 32 ti32 := chkTy_ok (inf := Try.t32) (by kernel_rfl) rfl rfl (by kernel_rfl) Try.underlying32 rfl trivial (fun h => absurd rfl h)
/-- func(api.Entry, string) api.Entry -/
abbrev ti33 : TI := ⟨.func, 1, false, .v .nilFunc, 8, []⟩
theorem tyOk33 : TyOk Try.prog 33 ti33 := chkTy_ok (inf := Try.t33) (by kernel_rfl) rfl rfl (by kernel_rfl) Try.underlying33 rfl trivial (fun h => absurd rfl h)
/-- func(api.Entry, uint32) api.Entry -/
abbrev ti34 : TI := ⟨.func, 1, false, .v .nilFunc, 8, []⟩
theorem tyOk34 : TyOk Try.prog 34 ti34 := chkTy_ok (inf := Try.t34) (by kernel_rfl) rfl rfl (by kernel_rfl) Try.underlying34 rfl trivial (fun h => absurd rfl h)
/-- []api.Entry -/
abbrev ti35 : TI := ⟨.slice 26, 1, false, .sl 0 [] true, 24, []⟩
theorem tyOk35 : TyOk Try.prog 35 ti35 := chkTy_ok (inf := Try.t35) (by kernel_rfl) rfl rfl (by kernel_rfl) Try.underlying35 rfl rfl (fun h => absurd rfl h)
/-- func(api.Entry, uint32, uint32, int, string) bool -/
abbrev ti36 : TI := ⟨.func, 1, false, .v .nilFunc, 8, []⟩
theorem tyOk36 : TyOk Try.prog 36 ti36 := chkTy_ok (inf := Try.t36) (by kernel_rfl) rfl rfl (by kernel_rfl) Try.underlying36 rfl trivial (fun h => absurd rfl h)
/-- [32]uint32 -/
abbrev ti37 : TI := ⟨.array 32 22, 32, true, .agg [.v (.int .u32 0), .v (.int .u32 0), .v (.int .u32 0), .v (.int .u32 0), .v (.int .u32 0), .v (.int .u32 0), .v (.int .u32 0), .v (.int .u32 0), .v (.int .u32 0), .v (.int .u32 0), .v (.int .u32 0), .v (.int .u32 0), .v (.int .u32 0), .v (.int .u32 0), .v (.int .u32 0), .v (.int .u32 0), .v (.int .u32 0), .v (.int .u32 0), .v (.int .u32 0), .v (.int .u32 0), .v (.int .u32 0), .v (.int .u32 0), .v (.int .u32 0), .v (.int .u32 0), .v (.int .u32 0), .v (.int .u32 0), .v (.int .u32 0), .v (.int .u32 0), .v (.int .u32 0), .v (.int .u32 0), .v (.int .u32 0), .v (.int .u32 0)], 128, [.i, .i, .i, .i, .i, .i, .i, .i, .i, .i, .i, .i, .i, .i, .i, .i, .i, .i, .i, .i, .i, .i, .i, .i, .i, .i, .i, .i, .i, .i, .i, .i]⟩
set_option maxRecDepth 100000 in
theorem tyOk37 : TyOk Try.prog 37 ti37 := chkTy_ok (inf := Try.t37) (by kernel_rfl) rfl rfl (by kernel_rfl) Try.underlying37 rfl rfl (fun _ => eqOk_arr (d := 20) (inf := Try.t22) (ks' := [.i]) Try.underlying37 (by kernel_rfl) (by kernel_rfl) (by kernel_rfl) (by kernel_rfl) (by kernel_rfl))
/-- api.Errno -/
abbrev ti38 : TI := ⟨.int .i64, 1, false, .v (.int .i64 0), 8, []⟩
theorem tyOk38 : TyOk Try.prog 38 ti38 := chkTy_ok (inf := Try.t38) (by kernel_rfl) rfl rfl (by kernel_rfl) Try.underlying38 rfl rfl (fun h => absurd rfl h)
/-- func(uint32) (api.Inst, api.Errno) -/
abbrev ti40 : TI := ⟨.func, 1, false, .v .nilFunc, 8, []⟩
theorem tyOk40 : TyOk Try.prog 40 ti40 := chkTy_ok (inf := Try.t40) (by kernel_rfl) rfl rfl (by kernel_rfl) Try.underlying40 rfl trivial (fun h => absurd rfl h)
/-- func(string) string -/
abbrev ti41 : TI := ⟨.func, 1, false, .v .nilFunc, 8, []⟩
theorem tyOk41 : TyOk Try.prog 41 ti41 := chkTy_ok (inf := Try.t41) (by kernel_rfl) rfl rfl (by kernel_rfl) Try.underlying41 rfl trivial (fun h => absurd rfl h)
/-- []uint32 -/
abbrev ti42 : TI := ⟨.slice 22, 1, false, .sl 0 [] true, 24, []⟩
theorem tyOk42 : TyOk Try.prog 42 ti42 := chkTy_ok (inf := Try.t42) (by kernel_rfl) rfl rfl (by kernel_rfl) Try.underlying42 rfl rfl (fun h => absurd rfl h)
/-- struct { PC uint32; Regs [32]uint32; Mem string; Halt int } -/
abbrev ti43 : TI := ⟨.struct [(0, 22), (1, 37), (33, 9), (34, 3)], 35, true, .agg [.v (.int .u32 0), .v (.int .u32 0), .v (.int .u32 0), .v (.int .u32 0), .v (.int .u32 0), .v (.int .u32 0), .v (.int .u32 0), .v (.int .u32 0), .v (.int .u32 0), .v (.int .u32 0), .v (.int .u32 0), .v (.int .u32 0), .v (.int .u32 0), .v (.int .u32 0), .v (.int .u32 0), .v (.int .u32 0), .v (.int .u32 0), .v (.int .u32 0), .v (.int .u32 0), .v (.int .u32 0), .v (.int .u32 0), .v (.int .u32 0), .v (.int .u32 0), .v (.int .u32 0), .v (.int .u32 0), .v (.int .u32 0), .v (.int .u32 0), .v (.int .u32 0), .v (.int .u32 0), .v (.int .u32 0), .v (.int .u32 0), .v (.int .u32 0), .v (.int .u32 0), .v (.string ⟨#[]⟩), .v (.int .i64 0)], 160, []⟩
theorem tyOk43 : TyOk Try.prog 43 ti43 := chkTy_ok (inf := Try.t43) (by kernel_rfl) rfl rfl (by kernel_rfl) Try.underlying43 rfl ⟨_, rfl, by kernel_rfl, by kernel_rfl⟩ (fun h => absurd rfl h)
/-- api.State -/
abbrev ti44 : TI := ⟨.struct [(0, 22), (1, 37), (33, 9), (34, 3)], 35, true, .agg [.v (.int .u32 0), .v (.int .u32 0), .v (.int .u32 0), .v (.int .u32 0), .v (.int .u32 0), .v (.int .u32 0), .v (.int .u32 0), .v (.int .u32 0), .v (.int .u32 0), .v (.int .u32 0), .v (.int .u32 0), .v (.int .u32 0), .v (.int .u32 0), .v (.int .u32 0), .v (.int .u32 0), .v (.int .u32 0), .v (.int .u32 0), .v (.int .u32 0), .v (.int .u32 0), .v (.int .u32 0), .v (.int .u32 0), .v (.int .u32 0), .v (.int .u32 0), .v (.int .u32 0), .v (.int .u32 0), .v (.int .u32 0), .v (.int .u32 0), .v (.int .u32 0), .v (.int .u32 0), .v (.int .u32 0), .v (.int .u32 0), .v (.int .u32 0), .v (.int .u32 0), .v (.string ⟨#[]⟩), .v (.int .i64 0)], 160, [.i, .i, .i, .i, .i, .i, .i, .i, .i, .i, .i, .i, .i, .i, .i, .i, .i, .i, .i, .i, .i, .i, .i, .i, .i, .i, .i, .i, .i, .i, .i, .i, .i, .s, .i]⟩
theorem tyOk44 : TyOk Try.prog 44 ti44 := chkTy_ok (inf := Try.t44) (by kernel_rfl) rfl rfl (by kernel_rfl) Try.underlying44 rfl ⟨_, rfl, by kernel_rfl, by kernel_rfl⟩ (fun _ => eqOk_of (d := 20) (by kernel_rfl))
/-- struct { PC uint32; Next uint32; Rd int; Value uint32; Addr uint32; Size int; Store bool; Halt int; Took int } -/
abbrev ti45 : TI := ⟨.struct [(0, 22), (1, 22), (2, 3), (3, 22), (4, 22), (5, 3), (6, 4), (7, 3), (8, 3)], 9, true, .agg [.v (.int .u32 0), .v (.int .u32 0), .v (.int .i64 0), .v (.int .u32 0), .v (.int .u32 0), .v (.int .i64 0), .v (.bool false), .v (.int .i64 0), .v (.int .i64 0)], 56, []⟩
theorem tyOk45 : TyOk Try.prog 45 ti45 := chkTy_ok (inf := Try.t45) (by kernel_rfl) rfl rfl (by kernel_rfl) Try.underlying45 rfl ⟨_, rfl, by kernel_rfl, by kernel_rfl⟩ (fun h => absurd rfl h)
/-- api.Step -/
abbrev ti46 : TI := ⟨.struct [(0, 22), (1, 22), (2, 3), (3, 22), (4, 22), (5, 3), (6, 4), (7, 3), (8, 3)], 9, true, .agg [.v (.int .u32 0), .v (.int .u32 0), .v (.int .i64 0), .v (.int .u32 0), .v (.int .u32 0), .v (.int .i64 0), .v (.bool false), .v (.int .i64 0), .v (.int .i64 0)], 56, [.i, .i, .i, .i, .i, .i, .b, .i, .i]⟩
theorem tyOk46 : TyOk Try.prog 46 ti46 := chkTy_ok (inf := Try.t46) (by kernel_rfl) rfl rfl (by kernel_rfl) Try.underlying46 rfl ⟨_, rfl, by kernel_rfl, by kernel_rfl⟩ (fun _ => eqOk_of (d := 20) (by kernel_rfl))
/-- func([]uint32, api.State) (api.State, api.Step) -/
abbrev ti48 : TI := ⟨.func, 1, false, .v .nilFunc, 8, []⟩
theorem tyOk48 : TyOk Try.prog 48 ti48 := chkTy_ok (inf := Try.t48) (by kernel_rfl) rfl rfl (by kernel_rfl) Try.underlying48 rfl trivial (fun h => absurd rfl h)
/-- func(string, uint32, int) string -/
abbrev ti49 : TI := ⟨.func, 1, false, .v .nilFunc, 8, []⟩
theorem tyOk49 : TyOk Try.prog 49 ti49 := chkTy_ok (inf := Try.t49) (by kernel_rfl) rfl rfl (by kernel_rfl) Try.underlying49 rfl trivial (fun h => absurd rfl h)
/-- func(api.Entry) api.Step -/
abbrev ti50 : TI := ⟨.func, 1, false, .v .nilFunc, 8, []⟩
theorem tyOk50 : TyOk Try.prog 50 ti50 := chkTy_ok (inf := Try.t50) (by kernel_rfl) rfl rfl (by kernel_rfl) Try.underlying50 rfl trivial (fun h => absurd rfl h)
/-- func(uint32, int, [32]uint32, string) bool -/
abbrev ti51 : TI := ⟨.func, 1, false, .v .nilFunc, 8, []⟩
theorem tyOk51 : TyOk Try.prog 51 ti51 := chkTy_ok (inf := Try.t51) (by kernel_rfl) rfl rfl (by kernel_rfl) Try.underlying51 rfl trivial (fun h => absurd rfl h)
/-- []int -/
abbrev ti52 : TI := ⟨.slice 3, 1, false, .sl 0 [] true, 24, []⟩
theorem tyOk52 : TyOk Try.prog 52 ti52 := chkTy_ok (inf := Try.t52) (by kernel_rfl) rfl rfl (by kernel_rfl) Try.underlying52 rfl rfl (fun h => absurd rfl h)
/-- struct { Mode int; Width int; Rob int; Queue int; Stores int; Slots int; Sets int; Ways int; Lat []int; Tables bool; Tape []uint32 } -/
abbrev ti53 : TI := ⟨.struct [(0, 3), (1, 3), (2, 3), (3, 3), (4, 3), (5, 3), (6, 3), (7, 3), (8, 52), (9, 4), (10, 42)], 11, true, .agg [.v (.int .i64 0), .v (.int .i64 0), .v (.int .i64 0), .v (.int .i64 0), .v (.int .i64 0), .v (.int .i64 0), .v (.int .i64 0), .v (.int .i64 0), .sl 0 [] true, .v (.bool false), .sl 0 [] true], 120, []⟩
theorem tyOk53 : TyOk Try.prog 53 ti53 := chkTy_ok (inf := Try.t53) (by kernel_rfl) rfl rfl (by kernel_rfl) Try.underlying53 rfl ⟨_, rfl, by kernel_rfl, by kernel_rfl⟩ (fun h => absurd rfl h)
/-- api.Conf -/
abbrev ti54 : TI := ⟨.struct [(0, 3), (1, 3), (2, 3), (3, 3), (4, 3), (5, 3), (6, 3), (7, 3), (8, 52), (9, 4), (10, 42)], 11, true, .agg [.v (.int .i64 0), .v (.int .i64 0), .v (.int .i64 0), .v (.int .i64 0), .v (.int .i64 0), .v (.int .i64 0), .v (.int .i64 0), .v (.int .i64 0), .sl 0 [] true, .v (.bool false), .sl 0 [] true], 120, []⟩
theorem tyOk54 : TyOk Try.prog 54 ti54 := chkTy_ok (inf := Try.t54) (by kernel_rfl) rfl rfl (by kernel_rfl) Try.underlying54 rfl ⟨_, rfl, by kernel_rfl, by kernel_rfl⟩ (fun h => absurd rfl h)
/-- []api.Fetched -/
abbrev ti55 : TI := ⟨.slice 157, 1, false, .sl 0 [] true, 24, []⟩
theorem tyOk55 : TyOk Try.prog 55 ti55 := chkTy_ok (inf := Try.t55) (by kernel_rfl) rfl rfl (by kernel_rfl) Try.underlying55 rfl rfl (fun h => absurd rfl h)
/-- []api.Put -/
abbrev ti56 : TI := ⟨.slice 159, 1, false, .sl 0 [] true, 24, []⟩
theorem tyOk56 : TyOk Try.prog 56 ti56 := chkTy_ok (inf := Try.t56) (by kernel_rfl) rfl rfl (by kernel_rfl) Try.underlying56 rfl rfl (fun h => absurd rfl h)
/-- [][]api.Way -/
abbrev ti57 : TI := ⟨.slice 74, 1, false, .sl 0 [] true, 24, []⟩
theorem tyOk57 : TyOk Try.prog 57 ti57 := chkTy_ok (inf := Try.t57) (by kernel_rfl) rfl rfl (by kernel_rfl) Try.underlying57 rfl rfl (fun h => absurd rfl h)
/-- struct { Ways int; Sets [][]api.Way } -/
abbrev ti58 : TI := ⟨.struct [(0, 3), (1, 57)], 2, true, .agg [.v (.int .i64 0), .sl 0 [] true], 32, []⟩
theorem tyOk58 : TyOk Try.prog 58 ti58 := chkTy_ok (inf := Try.t58) (by kernel_rfl) rfl rfl (by kernel_rfl) Try.underlying58 rfl ⟨_, rfl, by kernel_rfl, by kernel_rfl⟩ (fun h => absurd rfl h)
/-- api.Cache -/
abbrev ti59 : TI := ⟨.struct [(0, 3), (1, 57)], 2, true, .agg [.v (.int .i64 0), .sl 0 [] true], 32, []⟩
theorem tyOk59 : TyOk Try.prog 59 ti59 := chkTy_ok (inf := Try.t59) (by kernel_rfl) rfl rfl (by kernel_rfl) Try.underlying59 rfl ⟨_, rfl, by kernel_rfl, by kernel_rfl⟩ (fun h => absurd rfl h)
/-- []api.Request -/
abbrev ti60 : TI := ⟨.slice 100, 1, false, .sl 0 [] true, 24, []⟩
theorem tyOk60 : TyOk Try.prog 60 ti60 := chkTy_ok (inf := Try.t60) (by kernel_rfl) rfl rfl (by kernel_rfl) Try.underlying60 rfl rfl (fun h => absurd rfl h)
/-- []api.Slot -/
abbrev ti61 : TI := ⟨.slice 161, 1, false, .sl 0 [] true, 24, []⟩
theorem tyOk61 : TyOk Try.prog 61 ti61 := chkTy_ok (inf := Try.t61) (by kernel_rfl) rfl rfl (by kernel_rfl) Try.underlying61 rfl rfl (fun h => absurd rfl h)
/-- struct { Slots []api.Slot; History uint32; Returns []uint32 } -/
abbrev ti62 : TI := ⟨.struct [(0, 61), (1, 22), (2, 42)], 3, true, .agg [.sl 0 [] true, .v (.int .u32 0), .sl 0 [] true], 56, []⟩
theorem tyOk62 : TyOk Try.prog 62 ti62 := chkTy_ok (inf := Try.t62) (by kernel_rfl) rfl rfl (by kernel_rfl) Try.underlying62 rfl ⟨_, rfl, by kernel_rfl, by kernel_rfl⟩ (fun h => absurd rfl h)
/-- api.Guess -/
abbrev ti63 : TI := ⟨.struct [(0, 61), (1, 22), (2, 42)], 3, true, .agg [.sl 0 [] true, .v (.int .u32 0), .sl 0 [] true], 56, []⟩
theorem tyOk63 : TyOk Try.prog 63 ti63 := chkTy_ok (inf := Try.t63) (by kernel_rfl) rfl rfl (by kernel_rfl) Try.underlying63 rfl ⟨_, rfl, by kernel_rfl, by kernel_rfl⟩ (fun h => absurd rfl h)
/-- []api.Step -/
abbrev ti64 : TI := ⟨.slice 46, 1, false, .sl 0 [] true, 24, []⟩
theorem tyOk64 : TyOk Try.prog 64 ti64 := chkTy_ok (inf := Try.t64) (by kernel_rfl) rfl rfl (by kernel_rfl) Try.underlying64 rfl rfl (fun h => absurd rfl h)
/-- struct { Conf api.Conf; Prog []uint32; Cycle int; Regs [32]uint32; Fetch uint32; Stop bool; Fetched []api.Fetched; Rob []api.Entry; Next int; Stores []api.Put; Data api.Cache; Words api.Cache; Bus []api.Request; Asked int; Guessed int; Mem string; Guess api.Guess; Halt int; Retired []api.Step } -/
abbrev ti65 : TI := ⟨.struct [(0, 54), (11, 42), (12, 3), (13, 37), (45, 22), (46, 4), (47, 55), (48, 35), (49, 3), (50, 56), (51, 59), (53, 59), (55, 60), (56, 3), (57, 3), (58, 9), (59, 63), (62, 3), (63, 64)], 64, true, .agg [.v (.int .i64 0), .v (.int .i64 0), .v (.int .i64 0), .v (.int .i64 0), .v (.int .i64 0), .v (.int .i64 0), .v (.int .i64 0), .v (.int .i64 0), .sl 0 [] true, .v (.bool false), .sl 0 [] true, .sl 0 [] true, .v (.int .i64 0), .v (.int .u32 0), .v (.int .u32 0), .v (.int .u32 0), .v (.int .u32 0), .v (.int .u32 0), .v (.int .u32 0), .v (.int .u32 0), .v (.int .u32 0), .v (.int .u32 0), .v (.int .u32 0), .v (.int .u32 0), .v (.int .u32 0), .v (.int .u32 0), .v (.int .u32 0), .v (.int .u32 0), .v (.int .u32 0), .v (.int .u32 0), .v (.int .u32 0), .v (.int .u32 0), .v (.int .u32 0), .v (.int .u32 0), .v (.int .u32 0), .v (.int .u32 0), .v (.int .u32 0), .v (.int .u32 0), .v (.int .u32 0), .v (.int .u32 0), .v (.int .u32 0), .v (.int .u32 0), .v (.int .u32 0), .v (.int .u32 0), .v (.int .u32 0), .v (.int .u32 0), .v (.bool false), .sl 0 [] true, .sl 0 [] true, .v (.int .i64 0), .sl 0 [] true, .v (.int .i64 0), .sl 0 [] true, .v (.int .i64 0), .sl 0 [] true, .sl 0 [] true, .v (.int .i64 0), .v (.int .i64 0), .v (.string ⟨#[]⟩), .sl 0 [] true, .v (.int .u32 0), .sl 0 [] true, .v (.int .i64 0), .sl 0 [] true], 576, []⟩
theorem tyOk65 : TyOk Try.prog 65 ti65 := chkTy_ok (inf := Try.t65) (by kernel_rfl) rfl rfl (by kernel_rfl) Try.underlying65 rfl ⟨_, rfl, by kernel_rfl, by kernel_rfl⟩ (fun h => absurd rfl h)
/-- api.Core -/
abbrev ti66 : TI := ⟨.struct [(0, 54), (11, 42), (12, 3), (13, 37), (45, 22), (46, 4), (47, 55), (48, 35), (49, 3), (50, 56), (51, 59), (53, 59), (55, 60), (56, 3), (57, 3), (58, 9), (59, 63), (62, 3), (63, 64)], 64, true, .agg [.v (.int .i64 0), .v (.int .i64 0), .v (.int .i64 0), .v (.int .i64 0), .v (.int .i64 0), .v (.int .i64 0), .v (.int .i64 0), .v (.int .i64 0), .sl 0 [] true, .v (.bool false), .sl 0 [] true, .sl 0 [] true, .v (.int .i64 0), .v (.int .u32 0), .v (.int .u32 0), .v (.int .u32 0), .v (.int .u32 0), .v (.int .u32 0), .v (.int .u32 0), .v (.int .u32 0), .v (.int .u32 0), .v (.int .u32 0), .v (.int .u32 0), .v (.int .u32 0), .v (.int .u32 0), .v (.int .u32 0), .v (.int .u32 0), .v (.int .u32 0), .v (.int .u32 0), .v (.int .u32 0), .v (.int .u32 0), .v (.int .u32 0), .v (.int .u32 0), .v (.int .u32 0), .v (.int .u32 0), .v (.int .u32 0), .v (.int .u32 0), .v (.int .u32 0), .v (.int .u32 0), .v (.int .u32 0), .v (.int .u32 0), .v (.int .u32 0), .v (.int .u32 0), .v (.int .u32 0), .v (.int .u32 0), .v (.int .u32 0), .v (.bool false), .sl 0 [] true, .sl 0 [] true, .v (.int .i64 0), .sl 0 [] true, .v (.int .i64 0), .sl 0 [] true, .v (.int .i64 0), .sl 0 [] true, .sl 0 [] true, .v (.int .i64 0), .v (.int .i64 0), .v (.string ⟨#[]⟩), .sl 0 [] true, .v (.int .u32 0), .sl 0 [] true, .v (.int .i64 0), .sl 0 [] true], 576, []⟩
theorem tyOk66 : TyOk Try.prog 66 ti66 := chkTy_ok (inf := Try.t66) (by kernel_rfl) rfl rfl (by kernel_rfl) Try.underlying66 rfl ⟨_, rfl, by kernel_rfl, by kernel_rfl⟩ (fun h => absurd rfl h)
/-- struct { Data [][]api.Way; Words [][]api.Way; Bus []api.Request; PCs []uint32 } -/
abbrev ti67 : TI := ⟨.struct [(0, 57), (1, 57), (2, 60), (3, 42)], 4, true, .agg [.sl 0 [] true, .sl 0 [] true, .sl 0 [] true, .sl 0 [] true], 96, []⟩
theorem tyOk67 : TyOk Try.prog 67 ti67 := chkTy_ok (inf := Try.t67) (by kernel_rfl) rfl rfl (by kernel_rfl) Try.underlying67 rfl ⟨_, rfl, by kernel_rfl, by kernel_rfl⟩ (fun h => absurd rfl h)
/-- api.Seen -/
abbrev ti68 : TI := ⟨.struct [(0, 57), (1, 57), (2, 60), (3, 42)], 4, true, .agg [.sl 0 [] true, .sl 0 [] true, .sl 0 [] true, .sl 0 [] true], 96, []⟩
theorem tyOk68 : TyOk Try.prog 68 ti68 := chkTy_ok (inf := Try.t68) (by kernel_rfl) rfl rfl (by kernel_rfl) Try.underlying68 rfl ⟨_, rfl, by kernel_rfl, by kernel_rfl⟩ (fun h => absurd rfl h)
/-- func(api.Core, int) api.Seen -/
abbrev ti69 : TI := ⟨.func, 1, false, .v .nilFunc, 8, []⟩
theorem tyOk69 : TyOk Try.prog 69 ti69 := chkTy_ok (inf := Try.t69) (by kernel_rfl) rfl rfl (by kernel_rfl) Try.underlying69 rfl trivial (fun h => absurd rfl h)
/-- func(api.Seen, api.Seen) bool -/
abbrev ti70 : TI := ⟨.func, 1, false, .v .nilFunc, 8, []⟩
theorem tyOk70 : TyOk Try.prog 70 ti70 := chkTy_ok (inf := Try.t70) (by kernel_rfl) rfl rfl (by kernel_rfl) Try.underlying70 rfl trivial (fun h => absurd rfl h)
/-- func(api.Core, api.Core, int) bool -/
abbrev ti71 : TI := ⟨.func, 1, false, .v .nilFunc, 8, []⟩
theorem tyOk71 : TyOk Try.prog 71 ti71 := chkTy_ok (inf := Try.t71) (by kernel_rfl) rfl rfl (by kernel_rfl) Try.underlying71 rfl trivial (fun h => absurd rfl h)
/-- func(api.Core, api.Core, uint32) bool -/
abbrev ti72 : TI := ⟨.func, 1, false, .v .nilFunc, 8, []⟩
theorem tyOk72 : TyOk Try.prog 72 ti72 := chkTy_ok (inf := Try.t72) (by kernel_rfl) rfl rfl (by kernel_rfl) Try.underlying72 rfl trivial (fun h => absurd rfl h)
/-- []uint8 -/
abbrev ti73 : TI := ⟨.slice 5, 1, false, .sl 0 [] true, 24, []⟩
theorem tyOk73 : TyOk Try.prog 73 ti73 := chkTy_ok (inf := Try.t73) (by kernel_rfl) rfl rfl (by kernel_rfl) Try.underlying73 rfl rfl (fun h => absurd rfl h)
/-- []api.Way -/
abbrev ti74 : TI := ⟨.slice 76, 1, false, .sl 0 [] true, 24, []⟩
theorem tyOk74 : TyOk Try.prog 74 ti74 := chkTy_ok (inf := Try.t74) (by kernel_rfl) rfl rfl (by kernel_rfl) Try.underlying74 rfl rfl (fun h => absurd rfl h)
/-- struct { Line uint32; Dirty bool; Data string } -/
abbrev ti75 : TI := ⟨.struct [(0, 22), (1, 4), (2, 9)], 3, true, .agg [.v (.int .u32 0), .v (.bool false), .v (.string ⟨#[]⟩)], 24, []⟩
theorem tyOk75 : TyOk Try.prog 75 ti75 := chkTy_ok (inf := Try.t75) (by kernel_rfl) rfl rfl (by kernel_rfl) Try.underlying75 rfl ⟨_, rfl, by kernel_rfl, by kernel_rfl⟩ (fun h => absurd rfl h)
/-- api.Way -/
abbrev ti76 : TI := ⟨.struct [(0, 22), (1, 4), (2, 9)], 3, true, .agg [.v (.int .u32 0), .v (.bool false), .v (.string ⟨#[]⟩)], 24, [.i, .b, .s]⟩
theorem tyOk76 : TyOk Try.prog 76 ti76 := chkTy_ok (inf := Try.t76) (by kernel_rfl) rfl rfl (by kernel_rfl) Try.underlying76 rfl ⟨_, rfl, by kernel_rfl, by kernel_rfl⟩ (fun _ => eqOk_of (d := 20) (by kernel_rfl))
/-- func(api.Core, uint8) bool -/
abbrev ti77 : TI := ⟨.func, 1, false, .v .nilFunc, 8, []⟩
theorem tyOk77 : TyOk Try.prog 77 ti77 := chkTy_ok (inf := Try.t77) (by kernel_rfl) rfl rfl (by kernel_rfl) Try.underlying77 rfl trivial (fun h => absurd rfl h)
/-- func(api.Inst) int -/
abbrev ti78 : TI := ⟨.func, 1, false, .v .nilFunc, 8, []⟩
theorem tyOk78 : TyOk Try.prog 78 ti78 := chkTy_ok (inf := Try.t78) (by kernel_rfl) rfl rfl (by kernel_rfl) Try.underlying78 rfl trivial (fun h => absurd rfl h)
/-- func(api.Inst, uint32, uint32, uint32) uint32 -/
abbrev ti79 : TI := ⟨.func, 1, false, .v .nilFunc, 8, []⟩
theorem tyOk79 : TyOk Try.prog 79 ti79 := chkTy_ok (inf := Try.t79) (by kernel_rfl) rfl rfl (by kernel_rfl) Try.underlying79 rfl trivial (fun h => absurd rfl h)
/-- func(int, uint32, uint32) int -/
abbrev ti80 : TI := ⟨.func, 1, false, .v .nilFunc, 8, []⟩
theorem tyOk80 : TyOk Try.prog 80 ti80 := chkTy_ok (inf := Try.t80) (by kernel_rfl) rfl rfl (by kernel_rfl) Try.underlying80 rfl trivial (fun h => absurd rfl h)
/-- func(api.Inst, uint32, uint32, uint32) (uint32, bool) -/
abbrev ti82 : TI := ⟨.func, 1, false, .v .nilFunc, 8, []⟩
theorem tyOk82 : TyOk Try.prog 82 ti82 := chkTy_ok (inf := Try.t82) (by kernel_rfl) rfl rfl (by kernel_rfl) Try.underlying82 rfl trivial (fun h => absurd rfl h)
/-- func(int) uint8 -/
abbrev ti83 : TI := ⟨.func, 1, false, .v .nilFunc, 8, []⟩
theorem tyOk83 : TyOk Try.prog 83 ti83 := chkTy_ok (inf := Try.t83) (by kernel_rfl) rfl rfl (by kernel_rfl) Try.underlying83 rfl trivial (fun h => absurd rfl h)
/-- func(int, uint32, int) bool -/
abbrev ti84 : TI := ⟨.func, 1, false, .v .nilFunc, 8, []⟩
theorem tyOk84 : TyOk Try.prog 84 ti84 := chkTy_ok (inf := Try.t84) (by kernel_rfl) rfl rfl (by kernel_rfl) Try.underlying84 rfl trivial (fun h => absurd rfl h)
/-- func(int, string) uint32 -/
abbrev ti85 : TI := ⟨.func, 1, false, .v .nilFunc, 8, []⟩
theorem tyOk85 : TyOk Try.prog 85 ti85 := chkTy_ok (inf := Try.t85) (by kernel_rfl) rfl rfl (by kernel_rfl) Try.underlying85 rfl trivial (fun h => absurd rfl h)
/-- func(uint32, int) uint32 -/
abbrev ti86 : TI := ⟨.func, 1, false, .v .nilFunc, 8, []⟩
theorem tyOk86 : TyOk Try.prog 86 ti86 := chkTy_ok (inf := Try.t86) (by kernel_rfl) rfl rfl (by kernel_rfl) Try.underlying86 rfl trivial (fun h => absurd rfl h)
/-- func(uint32) int -/
abbrev ti87 : TI := ⟨.func, 1, false, .v .nilFunc, 8, []⟩
theorem tyOk87 : TyOk Try.prog 87 ti87 := chkTy_ok (inf := Try.t87) (by kernel_rfl) rfl rfl (by kernel_rfl) Try.underlying87 rfl trivial (fun h => absurd rfl h)
/-- func(uint32, uint8) uint32 -/
abbrev ti88 : TI := ⟨.func, 1, false, .v .nilFunc, 8, []⟩
theorem tyOk88 : TyOk Try.prog 88 ti88 := chkTy_ok (inf := Try.t88) (by kernel_rfl) rfl rfl (by kernel_rfl) Try.underlying88 rfl trivial (fun h => absurd rfl h)
/-- func(uint32, int, int) uint32 -/
abbrev ti89 : TI := ⟨.func, 1, false, .v .nilFunc, 8, []⟩
theorem tyOk89 : TyOk Try.prog 89 ti89 := chkTy_ok (inf := Try.t89) (by kernel_rfl) rfl rfl (by kernel_rfl) Try.underlying89 rfl trivial (fun h => absurd rfl h)
/-- func([]uint32, uint32) (uint32, bool) -/
abbrev ti90 : TI := ⟨.func, 1, false, .v .nilFunc, 8, []⟩
theorem tyOk90 : TyOk Try.prog 90 ti90 := chkTy_ok (inf := Try.t90) (by kernel_rfl) rfl rfl (by kernel_rfl) Try.underlying90 rfl trivial (fun h => absurd rfl h)
/-- func(api.State, int, uint32) (api.State, api.Step) -/
abbrev ti91 : TI := ⟨.func, 1, false, .v .nilFunc, 8, []⟩
theorem tyOk91 : TyOk Try.prog 91 ti91 := chkTy_ok (inf := Try.t91) (by kernel_rfl) rfl rfl (by kernel_rfl) Try.underlying91 rfl trivial (fun h => absurd rfl h)
/-- func(uint32, int) (string, api.Errno) -/
abbrev ti93 : TI := ⟨.func, 1, false, .v .nilFunc, 8, []⟩
theorem tyOk93 : TyOk Try.prog 93 ti93 := chkTy_ok (inf := Try.t93) (by kernel_rfl) rfl rfl (by kernel_rfl) Try.underlying93 rfl trivial (fun h => absurd rfl h)
/-- func(string, uint32, string) string -/
abbrev ti94 : TI := ⟨.func, 1, false, .v .nilFunc, 8, []⟩
theorem tyOk94 : TyOk Try.prog 94 ti94 := chkTy_ok (inf := Try.t94) (by kernel_rfl) rfl rfl (by kernel_rfl) Try.underlying94 rfl trivial (fun h => absurd rfl h)
/-- func(string) (uint32, api.Errno) -/
abbrev ti96 : TI := ⟨.func, 1, false, .v .nilFunc, 8, []⟩
theorem tyOk96 : TyOk Try.prog 96 ti96 := chkTy_ok (inf := Try.t96) (by kernel_rfl) rfl rfl (by kernel_rfl) Try.underlying96 rfl trivial (fun h => absurd rfl h)
/-- func(api.Conf, []uint32, string) api.Core -/
abbrev ti97 : TI := ⟨.func, 1, false, .v .nilFunc, 8, []⟩
theorem tyOk97 : TyOk Try.prog 97 ti97 := chkTy_ok (inf := Try.t97) (by kernel_rfl) rfl rfl (by kernel_rfl) Try.underlying97 rfl trivial (fun h => absurd rfl h)
/-- func(api.Cache) [][]api.Way -/
abbrev ti98 : TI := ⟨.func, 1, false, .v .nilFunc, 8, []⟩
theorem tyOk98 : TyOk Try.prog 98 ti98 := chkTy_ok (inf := Try.t98) (by kernel_rfl) rfl rfl (by kernel_rfl) Try.underlying98 rfl trivial (fun h => absurd rfl h)
/-- struct { Kind int; Line uint32; Left int; Data string } -/
abbrev ti99 : TI := ⟨.struct [(0, 3), (1, 22), (2, 3), (3, 9)], 4, true, .agg [.v (.int .i64 0), .v (.int .u32 0), .v (.int .i64 0), .v (.string ⟨#[]⟩)], 40, []⟩
theorem tyOk99 : TyOk Try.prog 99 ti99 := chkTy_ok (inf := Try.t99) (by kernel_rfl) rfl rfl (by kernel_rfl) Try.underlying99 rfl ⟨_, rfl, by kernel_rfl, by kernel_rfl⟩ (fun h => absurd rfl h)
/-- api.Request -/
abbrev ti100 : TI := ⟨.struct [(0, 3), (1, 22), (2, 3), (3, 9)], 4, true, .agg [.v (.int .i64 0), .v (.int .u32 0), .v (.int .i64 0), .v (.string ⟨#[]⟩)], 40, [.i, .i, .i, .s]⟩
theorem tyOk100 : TyOk Try.prog 100 ti100 := chkTy_ok (inf := Try.t100) (by kernel_rfl) rfl rfl (by kernel_rfl) Try.underlying100 rfl ⟨_, rfl, by kernel_rfl, by kernel_rfl⟩ (fun _ => eqOk_of (d := 20) (by kernel_rfl))
/-- func([][]api.Way, [][]api.Way) bool -/
abbrev ti101 : TI := ⟨.func, 1, false, .v .nilFunc, 8, []⟩
theorem tyOk101 : TyOk Try.prog 101 ti101 := chkTy_ok (inf := Try.t101) (by kernel_rfl) rfl rfl (by kernel_rfl) Try.underlying101 rfl trivial (fun h => absurd rfl h)
/-- func([][]api.Way, [][]api.Way, func([]api.Way, []api.Way) bool) bool -/
abbrev ti102 : TI := ⟨.func, 1, false, .v .nilFunc, 8, []⟩
theorem tyOk102 : TyOk Try.prog 102 ti102 := chkTy_ok (inf := Try.t102) (by kernel_rfl) rfl rfl (by kernel_rfl) Try.underlying102 rfl trivial (fun h => absurd rfl h)
/-- func([]api.Way, []api.Way) bool -/
abbrev ti103 : TI := ⟨.func, 1, false, .v .nilFunc, 8, []⟩
theorem tyOk103 : TyOk Try.prog 103 ti103 := chkTy_ok (inf := Try.t103) (by kernel_rfl) rfl rfl (by kernel_rfl) Try.underlying103 rfl trivial (fun h => absurd rfl h)
/-- func([]api.Request, []api.Request, func(api.Request, api.Request) bool) bool -/
abbrev ti104 : TI := ⟨.func, 1, false, .v .nilFunc, 8, []⟩
theorem tyOk104 : TyOk Try.prog 104 ti104 := chkTy_ok (inf := Try.t104) (by kernel_rfl) rfl rfl (by kernel_rfl) Try.underlying104 rfl trivial (fun h => absurd rfl h)
/-- func(api.Request, api.Request) bool -/
abbrev ti105 : TI := ⟨.func, 1, false, .v .nilFunc, 8, []⟩
theorem tyOk105 : TyOk Try.prog 105 ti105 := chkTy_ok (inf := Try.t105) (by kernel_rfl) rfl rfl (by kernel_rfl) Try.underlying105 rfl trivial (fun h => absurd rfl h)
/-- func([]uint32, []uint32, func(uint32, uint32) bool) bool -/
abbrev ti106 : TI := ⟨.func, 1, false, .v .nilFunc, 8, []⟩
theorem tyOk106 : TyOk Try.prog 106 ti106 := chkTy_ok (inf := Try.t106) (by kernel_rfl) rfl rfl (by kernel_rfl) Try.underlying106 rfl trivial (fun h => absurd rfl h)
/-- func(uint32, uint32) bool -/
abbrev ti107 : TI := ⟨.func, 1, false, .v .nilFunc, 8, []⟩
theorem tyOk107 : TyOk Try.prog 107 ti107 := chkTy_ok (inf := Try.t107) (by kernel_rfl) rfl rfl (by kernel_rfl) Try.underlying107 rfl trivial (fun h => absurd rfl h)
/-- func(int) (bool, bool, bool) -/
abbrev ti109 : TI := ⟨.func, 1, false, .v .nilFunc, 8, []⟩
theorem tyOk109 : TyOk Try.prog 109 ti109 := chkTy_ok (inf := Try.t109) (by kernel_rfl) rfl rfl (by kernel_rfl) Try.underlying109 rfl trivial (fun h => absurd rfl h)
/-- func(int, uint32, uint32) uint32 -/
abbrev ti110 : TI := ⟨.func, 1, false, .v .nilFunc, 8, []⟩
theorem tyOk110 : TyOk Try.prog 110 ti110 := chkTy_ok (inf := Try.t110) (by kernel_rfl) rfl rfl (by kernel_rfl) Try.underlying110 rfl trivial (fun h => absurd rfl h)
/-- func(int) bool -/
abbrev ti111 : TI := ⟨.func, 1, false, .v .nilFunc, 8, []⟩
theorem tyOk111 : TyOk Try.prog 111 ti111 := chkTy_ok (inf := Try.t111) (by kernel_rfl) rfl rfl (by kernel_rfl) Try.underlying111 rfl trivial (fun h => absurd rfl h)
/-- func(int, uint32) uint32 -/
abbrev ti112 : TI := ⟨.func, 1, false, .v .nilFunc, 8, []⟩
theorem tyOk112 : TyOk Try.prog 112 ti112 := chkTy_ok (inf := Try.t112) (by kernel_rfl) rfl rfl (by kernel_rfl) Try.underlying112 rfl trivial (fun h => absurd rfl h)
/-- uint64 -/
abbrev ti113 : TI := ⟨.int .u64, 1, false, .v (.int .u64 0), 8, []⟩
theorem tyOk113 : TyOk Try.prog 113 ti113 := chkTy_ok (inf := Try.t113) (by kernel_rfl) rfl rfl (by kernel_rfl) Try.underlying113 rfl rfl (fun h => absurd rfl h)
/-- func([]int, uint32) int -/
abbrev ti114 : TI := ⟨.func, 1, false, .v .nilFunc, 8, []⟩
theorem tyOk114 : TyOk Try.prog 114 ti114 := chkTy_ok (inf := Try.t114) (by kernel_rfl) rfl rfl (by kernel_rfl) Try.underlying114 rfl trivial (fun h => absurd rfl h)
/-- func(uint32, uint32) int -/
abbrev ti115 : TI := ⟨.func, 1, false, .v .nilFunc, 8, []⟩
theorem tyOk115 : TyOk Try.prog 115 ti115 := chkTy_ok (inf := Try.t115) (by kernel_rfl) rfl rfl (by kernel_rfl) Try.underlying115 rfl trivial (fun h => absurd rfl h)
/-- func(api.Inst, uint32) uint32 -/
abbrev ti116 : TI := ⟨.func, 1, false, .v .nilFunc, 8, []⟩
theorem tyOk116 : TyOk Try.prog 116 ti116 := chkTy_ok (inf := Try.t116) (by kernel_rfl) rfl rfl (by kernel_rfl) Try.underlying116 rfl trivial (fun h => absurd rfl h)
/-- func(int, uint32, uint32) bool -/
abbrev ti117 : TI := ⟨.func, 1, false, .v .nilFunc, 8, []⟩
theorem tyOk117 : TyOk Try.prog 117 ti117 := chkTy_ok (inf := Try.t117) (by kernel_rfl) rfl rfl (by kernel_rfl) Try.underlying117 rfl trivial (fun h => absurd rfl h)
/-- func(int, uint32) int64 -/
abbrev ti118 : TI := ⟨.func, 1, false, .v .nilFunc, 8, []⟩
theorem tyOk118 : TyOk Try.prog 118 ti118 := chkTy_ok (inf := Try.t118) (by kernel_rfl) rfl rfl (by kernel_rfl) Try.underlying118 rfl trivial (fun h => absurd rfl h)
/-- func(api.Conf) api.Conf -/
abbrev ti119 : TI := ⟨.func, 1, false, .v .nilFunc, 8, []⟩
theorem tyOk119 : TyOk Try.prog 119 ti119 := chkTy_ok (inf := Try.t119) (by kernel_rfl) rfl rfl (by kernel_rfl) Try.underlying119 rfl trivial (fun h => absurd rfl h)
/-- func([]uint32) []uint32 -/
abbrev ti120 : TI := ⟨.func, 1, false, .v .nilFunc, 8, []⟩
theorem tyOk120 : TyOk Try.prog 120 ti120 := chkTy_ok (inf := Try.t120) (by kernel_rfl) rfl rfl (by kernel_rfl) Try.underlying120 rfl trivial (fun h => absurd rfl h)
/-- func(int, int) api.Cache -/
abbrev ti121 : TI := ⟨.func, 1, false, .v .nilFunc, 8, []⟩
theorem tyOk121 : TyOk Try.prog 121 ti121 := chkTy_ok (inf := Try.t121) (by kernel_rfl) rfl rfl (by kernel_rfl) Try.underlying121 rfl trivial (fun h => absurd rfl h)
/-- func() api.Guess -/
abbrev ti122 : TI := ⟨.func, 1, false, .v .nilFunc, 8, []⟩
theorem tyOk122 : TyOk Try.prog 122 ti122 := chkTy_ok (inf := Try.t122) (by kernel_rfl) rfl rfl (by kernel_rfl) Try.underlying122 rfl trivial (fun h => absurd rfl h)
/-- func(api.Cache) bool -/
abbrev ti123 : TI := ⟨.func, 1, false, .v .nilFunc, 8, []⟩
theorem tyOk123 : TyOk Try.prog 123 ti123 := chkTy_ok (inf := Try.t123) (by kernel_rfl) rfl rfl (by kernel_rfl) Try.underlying123 rfl trivial (fun h => absurd rfl h)
/-- func([]api.Way, []api.Way, func(api.Way, api.Way) bool) bool -/
abbrev ti124 : TI := ⟨.func, 1, false, .v .nilFunc, 8, []⟩
theorem tyOk124 : TyOk Try.prog 124 ti124 := chkTy_ok (inf := Try.t124) (by kernel_rfl) rfl rfl (by kernel_rfl) Try.underlying124 rfl trivial (fun h => absurd rfl h)
/-- func(api.Way, api.Way) bool -/
abbrev ti125 : TI := ⟨.func, 1, false, .v .nilFunc, 8, []⟩
theorem tyOk125 : TyOk Try.prog 125 ti125 := chkTy_ok (inf := Try.t125) (by kernel_rfl) rfl rfl (by kernel_rfl) Try.underlying125 rfl trivial (fun h => absurd rfl h)
/-- uint -/
abbrev ti126 : TI := ⟨.int .u64, 1, false, .v (.int .u64 0), 8, []⟩
theorem tyOk126 : TyOk Try.prog 126 ti126 := chkTy_ok (inf := Try.t126) (by kernel_rfl) rfl rfl (by kernel_rfl) Try.underlying126 rfl rfl (fun h => absurd rfl h)
/-- func(uint32, uint32) uint32 -/
abbrev ti127 : TI := ⟨.func, 1, false, .v .nilFunc, 8, []⟩
theorem tyOk127 : TyOk Try.prog 127 ti127 := chkTy_ok (inf := Try.t127) (by kernel_rfl) rfl rfl (by kernel_rfl) Try.underlying127 rfl trivial (fun h => absurd rfl h)
/-- func(bool) uint32 -/
abbrev ti128 : TI := ⟨.func, 1, false, .v .nilFunc, 8, []⟩
theorem tyOk128 : TyOk Try.prog 128 ti128 := chkTy_ok (inf := Try.t128) (by kernel_rfl) rfl rfl (by kernel_rfl) Try.underlying128 rfl trivial (fun h => absurd rfl h)
/-- func(int) uint32 -/
abbrev ti129 : TI := ⟨.func, 1, false, .v .nilFunc, 8, []⟩
theorem tyOk129 : TyOk Try.prog 129 ti129 := chkTy_ok (inf := Try.t129) (by kernel_rfl) rfl rfl (by kernel_rfl) Try.underlying129 rfl trivial (fun h => absurd rfl h)
/-- func([]uint32) uint32 -/
abbrev ti130 : TI := ⟨.func, 1, false, .v .nilFunc, 8, []⟩
theorem tyOk130 : TyOk Try.prog 130 ti130 := chkTy_ok (inf := Try.t130) (by kernel_rfl) rfl rfl (by kernel_rfl) Try.underlying130 rfl trivial (fun h => absurd rfl h)
/-- func(int, int) bool -/
abbrev ti131 : TI := ⟨.func, 1, false, .v .nilFunc, 8, []⟩
theorem tyOk131 : TyOk Try.prog 131 ti131 := chkTy_ok (inf := Try.t131) (by kernel_rfl) rfl rfl (by kernel_rfl) Try.underlying131 rfl trivial (fun h => absurd rfl h)
/-- func(uint32) int64 -/
abbrev ti132 : TI := ⟨.func, 1, false, .v .nilFunc, 8, []⟩
theorem tyOk132 : TyOk Try.prog 132 ti132 := chkTy_ok (inf := Try.t132) (by kernel_rfl) rfl rfl (by kernel_rfl) Try.underlying132 rfl trivial (fun h => absurd rfl h)
/-- func(int64) uint32 -/
abbrev ti133 : TI := ⟨.func, 1, false, .v .nilFunc, 8, []⟩
theorem tyOk133 : TyOk Try.prog 133 ti133 := chkTy_ok (inf := Try.t133) (by kernel_rfl) rfl rfl (by kernel_rfl) Try.underlying133 rfl trivial (fun h => absurd rfl h)
/-- func(uint32, int, uint32) uint32 -/
abbrev ti134 : TI := ⟨.func, 1, false, .v .nilFunc, 8, []⟩
theorem tyOk134 : TyOk Try.prog 134 ti134 := chkTy_ok (inf := Try.t134) (by kernel_rfl) rfl rfl (by kernel_rfl) Try.underlying134 rfl trivial (fun h => absurd rfl h)
/-- *int -/
abbrev ti135 : TI := ⟨.pointer, 1, false, .v (.pointer none), 8, []⟩
theorem tyOk135 : TyOk Try.prog 135 ti135 := chkTy_ok (inf := Try.t135) (by kernel_rfl) rfl rfl (by kernel_rfl) Try.underlying135 rfl trivial (fun h => absurd rfl h)
/-- func(*int, int, int) -/
abbrev ti136 : TI := ⟨.func, 1, false, .v .nilFunc, 8, []⟩
theorem tyOk136 : TyOk Try.prog 136 ti136 := chkTy_ok (inf := Try.t136) (by kernel_rfl) rfl rfl (by kernel_rfl) Try.underlying136 rfl trivial (fun h => absurd rfl h)
/-- func(uint32) uint32 -/
abbrev ti137 : TI := ⟨.func, 1, false, .v .nilFunc, 8, []⟩
theorem tyOk137 : TyOk Try.prog 137 ti137 := chkTy_ok (inf := Try.t137) (by kernel_rfl) rfl rfl (by kernel_rfl) Try.underlying137 rfl trivial (fun h => absurd rfl h)
/-- func(api.Cache, uint32) int -/
abbrev ti138 : TI := ⟨.func, 1, false, .v .nilFunc, 8, []⟩
theorem tyOk138 : TyOk Try.prog 138 ti138 := chkTy_ok (inf := Try.t138) (by kernel_rfl) rfl rfl (by kernel_rfl) Try.underlying138 rfl trivial (fun h => absurd rfl h)
/-- func([]api.Way, uint32) (int, bool) -/
abbrev ti140 : TI := ⟨.func, 1, false, .v .nilFunc, 8, []⟩
theorem tyOk140 : TyOk Try.prog 140 ti140 := chkTy_ok (inf := Try.t140) (by kernel_rfl) rfl rfl (by kernel_rfl) Try.underlying140 rfl trivial (fun h => absurd rfl h)
/-- func() string -/
abbrev ti141 : TI := ⟨.func, 1, false, .v .nilFunc, 8, []⟩
theorem tyOk141 : TyOk Try.prog 141 ti141 := chkTy_ok (inf := Try.t141) (by kernel_rfl) rfl rfl (by kernel_rfl) Try.underlying141 rfl trivial (fun h => absurd rfl h)
/-- func() int -/
abbrev ti147 : TI := ⟨.func, 1, false, .v .nilFunc, 8, []⟩
theorem tyOk147 : TyOk Try.prog 147 ti147 := chkTy_ok (inf := Try.t147) (by kernel_rfl) rfl rfl (by kernel_rfl) Try.underlying147 rfl trivial (fun h => absurd rfl h)
/-- func(unsafe.Pointer, unsafe.Pointer) bool -/
abbrev ti150 : TI := ⟨.func, 1, false, .v .nilFunc, 8, []⟩
theorem tyOk150 : TyOk Try.prog 150 ti150 := chkTy_ok (inf := Try.t150) (by kernel_rfl) rfl rfl (by kernel_rfl) Try.underlying150 rfl trivial (fun h => absurd rfl h)
/-- *uint8 -/
abbrev ti151 : TI := ⟨.pointer, 1, false, .v (.pointer none), 8, []⟩
theorem tyOk151 : TyOk Try.prog 151 ti151 := chkTy_ok (inf := Try.t151) (by kernel_rfl) rfl rfl (by kernel_rfl) Try.underlying151 rfl trivial (fun h => absurd rfl h)
/-- struct { PC uint32; Guess uint32 } -/
abbrev ti156 : TI := ⟨.struct [(0, 22), (1, 22)], 2, true, .agg [.v (.int .u32 0), .v (.int .u32 0)], 8, []⟩
theorem tyOk156 : TyOk Try.prog 156 ti156 := chkTy_ok (inf := Try.t156) (by kernel_rfl) rfl rfl (by kernel_rfl) Try.underlying156 rfl ⟨_, rfl, by kernel_rfl, by kernel_rfl⟩ (fun h => absurd rfl h)
/-- api.Fetched -/
abbrev ti157 : TI := ⟨.struct [(0, 22), (1, 22)], 2, true, .agg [.v (.int .u32 0), .v (.int .u32 0)], 8, [.i, .i]⟩
theorem tyOk157 : TyOk Try.prog 157 ti157 := chkTy_ok (inf := Try.t157) (by kernel_rfl) rfl rfl (by kernel_rfl) Try.underlying157 rfl ⟨_, rfl, by kernel_rfl, by kernel_rfl⟩ (fun _ => eqOk_of (d := 20) (by kernel_rfl))
/-- struct { Addr uint32; Data string } -/
abbrev ti158 : TI := ⟨.struct [(0, 22), (1, 9)], 2, true, .agg [.v (.int .u32 0), .v (.string ⟨#[]⟩)], 24, []⟩
theorem tyOk158 : TyOk Try.prog 158 ti158 := chkTy_ok (inf := Try.t158) (by kernel_rfl) rfl rfl (by kernel_rfl) Try.underlying158 rfl ⟨_, rfl, by kernel_rfl, by kernel_rfl⟩ (fun h => absurd rfl h)
/-- api.Put -/
abbrev ti159 : TI := ⟨.struct [(0, 22), (1, 9)], 2, true, .agg [.v (.int .u32 0), .v (.string ⟨#[]⟩)], 24, [.i, .s]⟩
theorem tyOk159 : TyOk Try.prog 159 ti159 := chkTy_ok (inf := Try.t159) (by kernel_rfl) rfl rfl (by kernel_rfl) Try.underlying159 rfl ⟨_, rfl, by kernel_rfl, by kernel_rfl⟩ (fun _ => eqOk_of (d := 20) (by kernel_rfl))
/-- struct { PC uint32; Next uint32 } -/
abbrev ti160 : TI := ⟨.struct [(0, 22), (1, 22)], 2, true, .agg [.v (.int .u32 0), .v (.int .u32 0)], 8, []⟩
theorem tyOk160 : TyOk Try.prog 160 ti160 := chkTy_ok (inf := Try.t160) (by kernel_rfl) rfl rfl (by kernel_rfl) Try.underlying160 rfl ⟨_, rfl, by kernel_rfl, by kernel_rfl⟩ (fun h => absurd rfl h)
/-- api.Slot -/
abbrev ti161 : TI := ⟨.struct [(0, 22), (1, 22)], 2, true, .agg [.v (.int .u32 0), .v (.int .u32 0)], 8, [.i, .i]⟩
theorem tyOk161 : TyOk Try.prog 161 ti161 := chkTy_ok (inf := Try.t161) (by kernel_rfl) rfl rfl (by kernel_rfl) Try.underlying161 rfl ⟨_, rfl, by kernel_rfl, by kernel_rfl⟩ (fun _ => eqOk_of (d := 20) (by kernel_rfl))
def tys : TT := .node 80 (.node 46 (.node 29 (.node 21 (.node 5 (.node 3 (.node 2 (.leaf 1 ti1) (.leaf 2 ti2)) (.node 4 (.leaf 3 ti3) (.leaf 4 ti4))) (.node 12 (.node 9 (.leaf 5 ti5) (.leaf 9 ti9)) (.node 13 (.leaf 12 ti12) (.leaf 13 ti13)))) (.node 25 (.node 23 (.node 22 (.leaf 21 ti21) (.leaf 22 ti22)) (.node 24 (.leaf 23 ti23) (.leaf 24 ti24))) (.node 27 (.node 26 (.leaf 25 ti25) (.leaf 26 ti26)) (.node 28 (.leaf 27 ti27) (.leaf 28 ti28))))) (.node 37 (.node 33 (.node 31 (.node 30 (.leaf 29 ti29) (.leaf 30 ti30)) (.node 32 (.leaf 31 ti31) (.leaf 32 ti32))) (.node 35 (.node 34 (.leaf 33 ti33) (.leaf 34 ti34)) (.node 36 (.leaf 35 ti35) (.leaf 36 ti36)))) (.node 42 (.node 40 (.node 38 (.leaf 37 ti37) (.leaf 38 ti38)) (.node 41 (.leaf 40 ti40) (.leaf 41 ti41))) (.node 44 (.node 43 (.leaf 42 ti42) (.leaf 43 ti43)) (.node 45 (.leaf 44 ti44) (.leaf 45 ti45)))))) (.node 63 (.node 55 (.node 51 (.node 49 (.node 48 (.leaf 46 ti46) (.leaf 48 ti48)) (.node 50 (.leaf 49 ti49) (.leaf 50 ti50))) (.node 53 (.node 52 (.leaf 51 ti51) (.leaf 52 ti52)) (.node 54 (.leaf 53 ti53) (.leaf 54 ti54)))) (.node 59 (.node 57 (.node 56 (.leaf 55 ti55) (.leaf 56 ti56)) (.node 58 (.leaf 57 ti57) (.leaf 58 ti58))) (.node 61 (.node 60 (.leaf 59 ti59) (.leaf 60 ti60)) (.node 62 (.leaf 61 ti61) (.leaf 62 ti62))))) (.node 71 (.node 67 (.node 65 (.node 64 (.leaf 63 ti63) (.leaf 64 ti64)) (.node 66 (.leaf 65 ti65) (.leaf 66 ti66))) (.node 69 (.node 68 (.leaf 67 ti67) (.leaf 68 ti68)) (.node 70 (.leaf 69 ti69) (.leaf 70 ti70)))) (.node 75 (.node 73 (.node 72 (.leaf 71 ti71) (.leaf 72 ti72)) (.node 74 (.leaf 73 ti73) (.leaf 74 ti74))) (.node 77 (.node 76 (.leaf 75 ti75) (.leaf 76 ti76)) (.node 78 (.leaf 77 ti77) (.node 79 (.leaf 78 ti78) (.leaf 79 ti79)))))))) (.node 117 (.node 99 (.node 89 (.node 85 (.node 83 (.node 82 (.leaf 80 ti80) (.leaf 82 ti82)) (.node 84 (.leaf 83 ti83) (.leaf 84 ti84))) (.node 87 (.node 86 (.leaf 85 ti85) (.leaf 86 ti86)) (.node 88 (.leaf 87 ti87) (.leaf 88 ti88)))) (.node 94 (.node 91 (.node 90 (.leaf 89 ti89) (.leaf 90 ti90)) (.node 93 (.leaf 91 ti91) (.leaf 93 ti93))) (.node 97 (.node 96 (.leaf 94 ti94) (.leaf 96 ti96)) (.node 98 (.leaf 97 ti97) (.leaf 98 ti98))))) (.node 107 (.node 103 (.node 101 (.node 100 (.leaf 99 ti99) (.leaf 100 ti100)) (.node 102 (.leaf 101 ti101) (.leaf 102 ti102))) (.node 105 (.node 104 (.leaf 103 ti103) (.leaf 104 ti104)) (.node 106 (.leaf 105 ti105) (.leaf 106 ti106)))) (.node 112 (.node 110 (.node 109 (.leaf 107 ti107) (.leaf 109 ti109)) (.node 111 (.leaf 110 ti110) (.leaf 111 ti111))) (.node 114 (.node 113 (.leaf 112 ti112) (.leaf 113 ti113)) (.node 115 (.leaf 114 ti114) (.node 116 (.leaf 115 ti115) (.leaf 116 ti116))))))) (.node 133 (.node 125 (.node 121 (.node 119 (.node 118 (.leaf 117 ti117) (.leaf 118 ti118)) (.node 120 (.leaf 119 ti119) (.leaf 120 ti120))) (.node 123 (.node 122 (.leaf 121 ti121) (.leaf 122 ti122)) (.node 124 (.leaf 123 ti123) (.leaf 124 ti124)))) (.node 129 (.node 127 (.node 126 (.leaf 125 ti125) (.leaf 126 ti126)) (.node 128 (.leaf 127 ti127) (.leaf 128 ti128))) (.node 131 (.node 130 (.leaf 129 ti129) (.leaf 130 ti130)) (.node 132 (.leaf 131 ti131) (.leaf 132 ti132))))) (.node 147 (.node 137 (.node 135 (.node 134 (.leaf 133 ti133) (.leaf 134 ti134)) (.node 136 (.leaf 135 ti135) (.leaf 136 ti136))) (.node 140 (.node 138 (.leaf 137 ti137) (.leaf 138 ti138)) (.node 141 (.leaf 140 ti140) (.leaf 141 ti141)))) (.node 157 (.node 151 (.node 150 (.leaf 147 ti147) (.leaf 150 ti150)) (.node 156 (.leaf 151 ti151) (.leaf 156 ti156))) (.node 159 (.node 158 (.leaf 157 ti157) (.leaf 158 ti158)) (.node 160 (.leaf 159 ti159) (.node 161 (.leaf 160 ti160) (.leaf 161 ti161))))))))
theorem tysOk : AllTy Try.prog tys := ⟨⟨⟨⟨⟨⟨⟨tyOk1, tyOk2⟩, ⟨tyOk3, tyOk4⟩⟩, ⟨⟨tyOk5, tyOk9⟩, ⟨tyOk12, tyOk13⟩⟩⟩, ⟨⟨⟨tyOk21, tyOk22⟩, ⟨tyOk23, tyOk24⟩⟩, ⟨⟨tyOk25, tyOk26⟩, ⟨tyOk27, tyOk28⟩⟩⟩⟩, ⟨⟨⟨⟨tyOk29, tyOk30⟩, ⟨tyOk31, tyOk32⟩⟩, ⟨⟨tyOk33, tyOk34⟩, ⟨tyOk35, tyOk36⟩⟩⟩, ⟨⟨⟨tyOk37, tyOk38⟩, ⟨tyOk40, tyOk41⟩⟩, ⟨⟨tyOk42, tyOk43⟩, ⟨tyOk44, tyOk45⟩⟩⟩⟩⟩, ⟨⟨⟨⟨⟨tyOk46, tyOk48⟩, ⟨tyOk49, tyOk50⟩⟩, ⟨⟨tyOk51, tyOk52⟩, ⟨tyOk53, tyOk54⟩⟩⟩, ⟨⟨⟨tyOk55, tyOk56⟩, ⟨tyOk57, tyOk58⟩⟩, ⟨⟨tyOk59, tyOk60⟩, ⟨tyOk61, tyOk62⟩⟩⟩⟩, ⟨⟨⟨⟨tyOk63, tyOk64⟩, ⟨tyOk65, tyOk66⟩⟩, ⟨⟨tyOk67, tyOk68⟩, ⟨tyOk69, tyOk70⟩⟩⟩, ⟨⟨⟨tyOk71, tyOk72⟩, ⟨tyOk73, tyOk74⟩⟩, ⟨⟨tyOk75, tyOk76⟩, ⟨tyOk77, ⟨tyOk78, tyOk79⟩⟩⟩⟩⟩⟩⟩, ⟨⟨⟨⟨⟨⟨tyOk80, tyOk82⟩, ⟨tyOk83, tyOk84⟩⟩, ⟨⟨tyOk85, tyOk86⟩, ⟨tyOk87, tyOk88⟩⟩⟩, ⟨⟨⟨tyOk89, tyOk90⟩, ⟨tyOk91, tyOk93⟩⟩, ⟨⟨tyOk94, tyOk96⟩, ⟨tyOk97, tyOk98⟩⟩⟩⟩, ⟨⟨⟨⟨tyOk99, tyOk100⟩, ⟨tyOk101, tyOk102⟩⟩, ⟨⟨tyOk103, tyOk104⟩, ⟨tyOk105, tyOk106⟩⟩⟩, ⟨⟨⟨tyOk107, tyOk109⟩, ⟨tyOk110, tyOk111⟩⟩, ⟨⟨tyOk112, tyOk113⟩, ⟨tyOk114, ⟨tyOk115, tyOk116⟩⟩⟩⟩⟩⟩, ⟨⟨⟨⟨⟨tyOk117, tyOk118⟩, ⟨tyOk119, tyOk120⟩⟩, ⟨⟨tyOk121, tyOk122⟩, ⟨tyOk123, tyOk124⟩⟩⟩, ⟨⟨⟨tyOk125, tyOk126⟩, ⟨tyOk127, tyOk128⟩⟩, ⟨⟨tyOk129, tyOk130⟩, ⟨tyOk131, tyOk132⟩⟩⟩⟩, ⟨⟨⟨⟨tyOk133, tyOk134⟩, ⟨tyOk135, tyOk136⟩⟩, ⟨⟨tyOk137, tyOk138⟩, ⟨tyOk140, tyOk141⟩⟩⟩, ⟨⟨⟨tyOk147, tyOk150⟩, ⟨tyOk151, tyOk156⟩⟩, ⟨⟨tyOk157, tyOk158⟩, ⟨tyOk159, ⟨tyOk160, tyOk161⟩⟩⟩⟩⟩⟩⟩⟩
noncomputable def C0 : Ctx := { P := Try.prog, ty := tys.find, G := fun _ => none, H := HSem Try.prog (fun _ => none) }
theorem c0Ok : CtxOk C0 := ⟨TT.find_ok tys tysOk, by kernel_rfl, fun _ _ _ _ _ h => h⟩
theorem g0Ok (S : Nat → Prop) (w : World) : GOk C0 S w := fun g cells h => by cases h
end Go.Proofs.Ytckjihpdjefpgaa
