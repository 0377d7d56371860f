/- Joined texts. -/
import Derived.Test.YtpefnjbmbfdmmaaDoorProg
import Derived.KernelRfl
import Derived.Lib.ItoaNum
import Derived.Test.YtpefnjbmbfdmmaaDoorS7
namespace Go.Proofs.YtpefnjbmbfdmmaaDoor
open Go.RowKit
set_option maxRecDepth 100000
theorem cTyq (inf : TypeInfo) {t : TypeId} {i : TI} {d : TypeDesc} (hd : Tryd.prog.underlying t = some d)
    (hk : match i.kd with
    | .bool => d = .bool
    | .int k => d = .int k
    | .string => d = .string
    | .slice e => d = .slice e
    | .array n e => d = .array n e
    | .struct fs => ∃ fields, d = .struct fields ∧ fields.toList.map (fun f => (f.offset, f.type)) = fs ∧ (fields.toList.all fun f => match Tryd.prog.info? f.type with | some i => !(i.size == 0) | none => false) = true
    | .pointer => ∃ e, d = .pointer e
    | _ => True) (he : i.eq ≠ [] → EqOk Tryd.prog t i.eq := by exact fun h => absurd rfl h) (h1 : Tryd.prog.info? t = some inf := by kernel_rfl) (h2 : inf.zero = some (inf.zero.getD .nilFunc) := by rfl) (h3 : i.zero = absV (inf.zero.getD .nilFunc) := by rfl) (hc : chkTy Tryd.prog inf (inf.zero.getD .nilFunc) i = true := by kernel_rfl) (hrow : d.isRow = i.ag := by rfl) : TyOk Tryd.prog t i :=
  chkTy_ok h1 h2 h3 hc hd hrow hk he
abbrev ti26 : TI := ⟨.struct [(0, 25), (11, 23), (12, 9), (13, 3)], 14, true, .agg [.v (.int .i64 0), .v (.int .i64 0), .v (.int .i64 0), .v (.int .i64 0), .v (.int .i64 0), .v (.int .i64 0), .v (.int .i64 0), .v (.int .i64 0), .sl 0 [] true, .v (.bool false), .sl 0 [] true, .sl 0 [] true, .v (.string ⟨#[]⟩), .v (.int .i64 0)], 168, []⟩
set_option maxRecDepth 100000
def tys : TT := .node 57 (.node 34 (.node 23 (.node 9 (.node 3 (.node 2 (.leaf 1 ⟨.func, 1, false, .v .nilFunc, 8, []⟩) (.leaf 2 ⟨.int .i64, 1, false, .v (.int .i64 0), 8, []⟩)) (.node 4 (.leaf 3 ⟨.int .i64, 1, false, .v (.int .i64 0), 8, []⟩) (.node 5 (.leaf 4 ⟨.bool, 1, false, .v (.bool false), 1, []⟩) (.leaf 5 ⟨.int .u8, 1, false, .v (.int .u8 0), 1, []⟩)))) (.node 13 (.node 12 (.leaf 9 ⟨.string, 1, false, .v (.string ⟨#[]⟩), 16, []⟩) (.leaf 12 ⟨.int .u64, 1, false, .v (.int .u64 0), 8, []⟩)) (.node 21 (.leaf 13 ⟨.struct [(0, 9), (1, 12)], 2, true, .agg [.v (.string ⟨#[]⟩), .v (.int .u64 0)], 24, []⟩) (.node 22 (.leaf 21 ⟨.int .i32, 1, false, .v (.int .i32 0), 4, []⟩) (.leaf 22 ⟨.slice 3, 1, false, .sl 0 [] true, 24, []⟩))))) (.node 28 (.node 25 (.node 24 (.leaf 23 ⟨.slice 58, 1, false, .sl 0 [] true, 24, []⟩) (.leaf 24 ⟨.struct [(0, 3), (1, 3), (2, 3), (3, 3), (4, 3), (5, 3), (6, 3), (7, 3), (8, 22), (9, 4), (10, 23)], 11, true, .agg [.v (.int .i64 0), .v (.int .i64 0), .v (.int .i64 0), .v (.int .i64 0), .v (.int .i64 0), .v (.int .i64 0), .v (.int .i64 0), .v (.int .i64 0), .sl 0 [] true, .v (.bool false), .sl 0 [] true], 120, []⟩)) (.node 26 (.leaf 25 ⟨.struct [(0, 3), (1, 3), (2, 3), (3, 3), (4, 3), (5, 3), (6, 3), (7, 3), (8, 22), (9, 4), (10, 23)], 11, true, .agg [.v (.int .i64 0), .v (.int .i64 0), .v (.int .i64 0), .v (.int .i64 0), .v (.int .i64 0), .v (.int .i64 0), .v (.int .i64 0), .v (.int .i64 0), .sl 0 [] true, .v (.bool false), .sl 0 [] true], 120, []⟩) (.node 27 (.leaf 26 ti26) (.leaf 27 ⟨.struct [(0, 25), (11, 23), (12, 9), (13, 3)], 14, true, .agg [.v (.int .i64 0), .v (.int .i64 0), .v (.int .i64 0), .v (.int .i64 0), .v (.int .i64 0), .v (.int .i64 0), .v (.int .i64 0), .v (.int .i64 0), .sl 0 [] true, .v (.bool false), .sl 0 [] true, .sl 0 [] true, .v (.string ⟨#[]⟩), .v (.int .i64 0)], 168, []⟩)))) (.node 31 (.node 30 (.leaf 28 ⟨.int .i64, 1, false, .v (.int .i64 0), 8, []⟩) (.leaf 30 ⟨.func, 1, false, .v .nilFunc, 8, []⟩)) (.node 32 (.leaf 31 ⟨.func, 1, false, .v .nilFunc, 8, []⟩) (.node 33 (.leaf 32 ⟨.func, 1, false, .v .nilFunc, 8, []⟩) (.leaf 33 ⟨.func, 1, false, .v .nilFunc, 8, []⟩)))))) (.node 45 (.node 40 (.node 37 (.node 36 (.leaf 34 ⟨.func, 1, false, .v .nilFunc, 8, []⟩) (.leaf 36 ⟨.func, 1, false, .v .nilFunc, 8, []⟩)) (.node 38 (.leaf 37 ⟨.func, 1, false, .v .nilFunc, 8, []⟩) (.node 39 (.leaf 38 ⟨.func, 1, false, .v .nilFunc, 8, []⟩) (.leaf 39 ⟨.func, 1, false, .v .nilFunc, 8, []⟩)))) (.node 42 (.node 41 (.leaf 40 ⟨.slice 9, 1, false, .sl 0 [] true, 24, []⟩) (.leaf 41 ⟨.func, 1, false, .v .nilFunc, 8, []⟩)) (.node 43 (.leaf 42 ⟨.func, 1, false, .v .nilFunc, 8, []⟩) (.node 44 (.leaf 43 ⟨.func, 1, false, .v .nilFunc, 8, []⟩) (.leaf 44 ⟨.func, 1, false, .v .nilFunc, 8, []⟩))))) (.node 51 (.node 48 (.node 47 (.leaf 45 ⟨.func, 1, false, .v .nilFunc, 8, []⟩) (.leaf 47 ⟨.func, 1, false, .v .nilFunc, 8, []⟩)) (.node 49 (.leaf 48 ⟨.func, 1, false, .v .nilFunc, 8, []⟩) (.node 50 (.leaf 49 ⟨.func, 1, false, .v .nilFunc, 8, []⟩) (.leaf 50 ⟨.pointer, 1, false, .v (.pointer none), 8, []⟩)))) (.node 54 (.node 52 (.leaf 51 ⟨.func, 1, false, .v .nilFunc, 8, []⟩) (.node 53 (.leaf 52 ⟨.func, 1, false, .v .nilFunc, 8, []⟩) (.leaf 53 ⟨.func, 1, false, .v .nilFunc, 8, []⟩))) (.node 55 (.leaf 54 ⟨.func, 1, false, .v .nilFunc, 8, []⟩) (.node 56 (.leaf 55 ⟨.func, 1, false, .v .nilFunc, 8, []⟩) (.leaf 56 ⟨.func, 1, false, .v .nilFunc, 8, []⟩))))))) (.node 84 (.node 70 (.node 62 (.node 59 (.node 58 (.leaf 57 ⟨.func, 1, false, .v .nilFunc, 8, []⟩) (.leaf 58 ⟨.int .u32, 1, false, .v (.int .u32 0), 4, []⟩)) (.node 60 (.leaf 59 ⟨.pointer, 1, false, .v (.pointer none), 8, []⟩) (.node 61 (.leaf 60 ⟨.slice 5, 1, false, .sl 0 [] true, 24, []⟩) (.leaf 61 ⟨.struct [(0, 59), (1, 60)], 2, true, .agg [.v (.pointer none), .sl 0 [] true], 32, []⟩)))) (.node 67 (.node 66 (.leaf 62 ⟨.struct [(0, 59), (1, 60)], 2, true, .agg [.v (.pointer none), .sl 0 [] true], 32, []⟩) (.leaf 66 ⟨.func, 1, false, .v .nilFunc, 8, []⟩)) (.node 68 (.leaf 67 ⟨.func, 1, false, .v .nilFunc, 8, []⟩) (.node 69 (.leaf 68 ⟨.func, 1, false, .v .nilFunc, 8, []⟩) (.leaf 69 ⟨.func, 1, false, .v .nilFunc, 8, []⟩))))) (.node 76 (.node 72 (.node 71 (.leaf 70 ⟨.func, 1, false, .v .nilFunc, 8, []⟩) (.leaf 71 ⟨.func, 1, false, .v .nilFunc, 8, []⟩)) (.node 73 (.leaf 72 ⟨.pointer, 1, false, .v (.pointer none), 8, []⟩) (.node 74 (.leaf 73 ⟨.func, 1, false, .v .nilFunc, 8, []⟩) (.leaf 74 ⟨.array 14 9, 14, true, .agg [.v (.string ⟨#[]⟩), .v (.string ⟨#[]⟩), .v (.string ⟨#[]⟩), .v (.string ⟨#[]⟩), .v (.string ⟨#[]⟩), .v (.string ⟨#[]⟩), .v (.string ⟨#[]⟩), .v (.string ⟨#[]⟩), .v (.string ⟨#[]⟩), .v (.string ⟨#[]⟩), .v (.string ⟨#[]⟩), .v (.string ⟨#[]⟩), .v (.string ⟨#[]⟩), .v (.string ⟨#[]⟩)], 224, []⟩)))) (.node 79 (.node 77 (.leaf 76 ⟨.func, 1, false, .v .nilFunc, 8, []⟩) (.leaf 77 ⟨.func, 1, false, .v .nilFunc, 8, []⟩)) (.node 80 (.leaf 79 ⟨.func, 1, false, .v .nilFunc, 8, []⟩) (.node 81 (.leaf 80 ⟨.func, 1, false, .v .nilFunc, 8, []⟩) (.leaf 81 ⟨.func, 1, false, .v .nilFunc, 8, []⟩)))))) (.node 94 (.node 89 (.node 86 (.node 85 (.leaf 84 ⟨.func, 1, false, .v .nilFunc, 8, []⟩) (.leaf 85 ⟨.func, 1, false, .v .nilFunc, 8, []⟩)) (.node 87 (.leaf 86 ⟨.func, 1, false, .v .nilFunc, 8, []⟩) (.node 88 (.leaf 87 ⟨.func, 1, false, .v .nilFunc, 8, []⟩) (.leaf 88 ⟨.func, 1, false, .v .nilFunc, 8, []⟩)))) (.node 91 (.node 90 (.leaf 89 ⟨.func, 1, false, .v .nilFunc, 8, []⟩) (.leaf 90 ⟨.func, 1, false, .v .nilFunc, 8, []⟩)) (.node 92 (.leaf 91 ⟨.pointer, 1, false, .v (.pointer none), 8, []⟩) (.node 93 (.leaf 92 ⟨.func, 1, false, .v .nilFunc, 8, []⟩) (.leaf 93 ⟨.func, 1, false, .v .nilFunc, 8, []⟩))))) (.node 101 (.node 97 (.node 96 (.leaf 94 ⟨.func, 1, false, .v .nilFunc, 8, []⟩) (.leaf 96 ⟨.func, 1, false, .v .nilFunc, 8, []⟩)) (.node 98 (.leaf 97 ⟨.int .u64, 1, false, .v (.int .u64 0), 8, []⟩) (.node 100 (.leaf 98 ⟨.array 3 9, 3, true, .agg [.v (.string ⟨#[]⟩), .v (.string ⟨#[]⟩), .v (.string ⟨#[]⟩)], 48, []⟩) (.leaf 100 ⟨.func, 1, false, .v .nilFunc, 8, []⟩)))) (.node 105 (.node 103 (.leaf 101 ⟨.func, 1, false, .v .nilFunc, 8, []⟩) (.node 104 (.leaf 103 ⟨.func, 1, false, .v .nilFunc, 8, []⟩) (.leaf 104 ⟨.func, 1, false, .v .nilFunc, 8, []⟩))) (.node 106 (.leaf 105 ⟨.func, 1, false, .v .nilFunc, 8, []⟩) (.node 108 (.leaf 106 ⟨.func, 1, false, .v .nilFunc, 8, []⟩) (.leaf 108 ⟨.func, 1, false, .v .nilFunc, 8, []⟩)))))))
theorem tysOk : AllTy Tryd.prog tys := ⟨⟨⟨⟨⟨⟨cTyq Tryd.t1 Tryd.underlying1 trivial, cTyq Tryd.t2 Tryd.underlying2 rfl⟩, ⟨cTyq Tryd.t3 Tryd.underlying3 rfl, ⟨cTyq Tryd.t4 Tryd.underlying4 rfl, cTyq Tryd.t5 Tryd.underlying5 rfl⟩⟩⟩, ⟨⟨cTyq Tryd.t9 Tryd.underlying9 rfl, cTyq Tryd.t12 Tryd.underlying12 rfl⟩, ⟨cTyq Tryd.t13 Tryd.underlying13 ⟨_, rfl, by kernel_rfl, by kernel_rfl⟩, ⟨cTyq Tryd.t21 Tryd.underlying21 rfl, cTyq Tryd.t22 Tryd.underlying22 rfl⟩⟩⟩⟩, ⟨⟨⟨cTyq Tryd.t23 Tryd.underlying23 rfl, cTyq Tryd.t24 Tryd.underlying24 ⟨_, rfl, by kernel_rfl, by kernel_rfl⟩⟩, ⟨cTyq Tryd.t25 Tryd.underlying25 ⟨_, rfl, by kernel_rfl, by kernel_rfl⟩, ⟨cTyq Tryd.t26 Tryd.underlying26 ⟨_, rfl, by kernel_rfl, by kernel_rfl⟩, cTyq Tryd.t27 Tryd.underlying27 ⟨_, rfl, by kernel_rfl, by kernel_rfl⟩⟩⟩⟩, ⟨⟨cTyq Tryd.t28 Tryd.underlying28 rfl, cTyq Tryd.t30 Tryd.underlying30 trivial⟩, ⟨cTyq Tryd.t31 Tryd.underlying31 trivial, ⟨cTyq Tryd.t32 Tryd.underlying32 trivial, cTyq Tryd.t33 Tryd.underlying33 trivial⟩⟩⟩⟩⟩, ⟨⟨⟨⟨cTyq Tryd.t34 Tryd.underlying34 trivial, cTyq Tryd.t36 Tryd.underlying36 trivial⟩, ⟨cTyq Tryd.t37 Tryd.underlying37 trivial, ⟨cTyq Tryd.t38 Tryd.underlying38 trivial, cTyq Tryd.t39 Tryd.underlying39 trivial⟩⟩⟩, ⟨⟨cTyq Tryd.t40 Tryd.underlying40 rfl, cTyq Tryd.t41 Tryd.underlying41 trivial⟩, ⟨cTyq Tryd.t42 Tryd.underlying42 trivial, ⟨cTyq Tryd.t43 Tryd.underlying43 trivial, cTyq Tryd.t44 Tryd.underlying44 trivial⟩⟩⟩⟩, ⟨⟨⟨cTyq Tryd.t45 Tryd.underlying45 trivial, cTyq Tryd.t47 Tryd.underlying47 trivial⟩, ⟨cTyq Tryd.t48 Tryd.underlying48 trivial, ⟨cTyq Tryd.t49 Tryd.underlying49 trivial, cTyq Tryd.t50 Tryd.underlying50 ⟨_, rfl⟩⟩⟩⟩, ⟨⟨cTyq Tryd.t51 Tryd.underlying51 trivial, ⟨cTyq Tryd.t52 Tryd.underlying52 trivial, cTyq Tryd.t53 Tryd.underlying53 trivial⟩⟩, ⟨cTyq Tryd.t54 Tryd.underlying54 trivial, ⟨cTyq Tryd.t55 Tryd.underlying55 trivial, cTyq Tryd.t56 Tryd.underlying56 trivial⟩⟩⟩⟩⟩⟩, ⟨⟨⟨⟨⟨cTyq Tryd.t57 Tryd.underlying57 trivial, cTyq Tryd.t58 Tryd.underlying58 rfl⟩, ⟨cTyq Tryd.t59 Tryd.underlying59 ⟨_, rfl⟩, ⟨cTyq Tryd.t60 Tryd.underlying60 rfl, cTyq Tryd.t61 Tryd.underlying61 ⟨_, rfl, by kernel_rfl, by kernel_rfl⟩⟩⟩⟩, ⟨⟨cTyq Tryd.t62 Tryd.underlying62 ⟨_, rfl, by kernel_rfl, by kernel_rfl⟩, cTyq Tryd.t66 Tryd.underlying66 trivial⟩, ⟨cTyq Tryd.t67 Tryd.underlying67 trivial, ⟨cTyq Tryd.t68 Tryd.underlying68 trivial, cTyq Tryd.t69 Tryd.underlying69 trivial⟩⟩⟩⟩, ⟨⟨⟨cTyq Tryd.t70 Tryd.underlying70 trivial, cTyq Tryd.t71 Tryd.underlying71 trivial⟩, ⟨cTyq Tryd.t72 Tryd.underlying72 ⟨_, rfl⟩, ⟨cTyq Tryd.t73 Tryd.underlying73 trivial, cTyq Tryd.t74 Tryd.underlying74 rfl⟩⟩⟩, ⟨⟨cTyq Tryd.t76 Tryd.underlying76 trivial, cTyq Tryd.t77 Tryd.underlying77 trivial⟩, ⟨cTyq Tryd.t79 Tryd.underlying79 trivial, ⟨cTyq Tryd.t80 Tryd.underlying80 trivial, cTyq Tryd.t81 Tryd.underlying81 trivial⟩⟩⟩⟩⟩, ⟨⟨⟨⟨cTyq Tryd.t84 Tryd.underlying84 trivial, cTyq Tryd.t85 Tryd.underlying85 trivial⟩, ⟨cTyq Tryd.t86 Tryd.underlying86 trivial, ⟨cTyq Tryd.t87 Tryd.underlying87 trivial, cTyq Tryd.t88 Tryd.underlying88 trivial⟩⟩⟩, ⟨⟨cTyq Tryd.t89 Tryd.underlying89 trivial, cTyq Tryd.t90 Tryd.underlying90 trivial⟩, ⟨cTyq Tryd.t91 Tryd.underlying91 ⟨_, rfl⟩, ⟨cTyq Tryd.t92 Tryd.underlying92 trivial, cTyq Tryd.t93 Tryd.underlying93 trivial⟩⟩⟩⟩, ⟨⟨⟨cTyq Tryd.t94 Tryd.underlying94 trivial, cTyq Tryd.t96 Tryd.underlying96 trivial⟩, ⟨cTyq Tryd.t97 Tryd.underlying97 rfl, ⟨cTyq Tryd.t98 Tryd.underlying98 rfl, cTyq Tryd.t100 Tryd.underlying100 trivial⟩⟩⟩, ⟨⟨cTyq Tryd.t101 Tryd.underlying101 trivial, ⟨cTyq Tryd.t103 Tryd.underlying103 trivial, cTyq Tryd.t104 Tryd.underlying104 trivial⟩⟩, ⟨cTyq Tryd.t105 Tryd.underlying105 trivial, ⟨cTyq Tryd.t106 Tryd.underlying106 trivial, cTyq Tryd.t108 Tryd.underlying108 trivial⟩⟩⟩⟩⟩⟩⟩
def powL : List Int := [1, 10, 100, 1000, 10000, 100000, 1000000, 10000000, 100000000, 1000000000, 10000000000, 100000000000, 1000000000000, 10000000000000, 100000000000000, 1000000000000000, 10000000000000000, 100000000000000000, 1000000000000000000, 10000000000000000000]
def gPow : List AV := powL.map fun k => .v (.int .u64 k)
noncomputable def C0 : Ctx := { P := Tryd.prog, ty := tys.find, G := fun g => match g with | 3 => some gPow | _ => none, H := HSem Tryd.prog (fun g => match g with | 3 => some gPow | _ => none) }
theorem c0Ok : CtxOk C0 := ⟨TT.find_ok tys tysOk, by kernel_rfl, fun _ _ _ _ _ h => h⟩
abbrev rowU (n : Nat) : List AV := [.v (.int .u32 (n : Int))]
abbrev rowI (n : Int) : List AV := [.v (.int .i64 n)]
theorem bytesOfRows_map : ∀ (l : List UInt8), bytesOfRows (l.map fun b => [.v (.int .u8 (b.toNat : Int))]) = some l
  | [] => rfl
  | b :: l => by
    simp only [List.map_cons, bytesOfRows, bytesOfRows_map l]
    simp
theorem finTA {C : Ctx} {fn : Func} {r : AV} {st : ASt} {rs : List AV} (h1 : resA C st fn.results.toList = some rs) (h2 : lenOkA st.h (retA rs)) (h3 : closedA (datA st.h (retA rs)) = true) (h4 : datA st.h (retA rs) = r) : RetA C fn r st := retA_eq h1 h2 h3 h4
mutual
theorem mapA_closed (σ : Nat → Nat) : ∀ (a : AV), closedA a = true → mapA σ a = a
  | .v _, _ | .sl _ _ _, _ | .dp _ _ _, _ => by simp [mapA]
  | .agg cs, h => by simp only [mapA, mapL_closed σ cs (by simpa [closedA] using h)]
  | .tup cs, h => by simp only [mapA, mapL_closed σ cs (by simpa [closedA] using h)]
  | .clo f a b, h => by
    simp only [closedA] at h
    split at h
    · rename_i ha; simp only [mapA, mapL_closed σ a ha, mapL_closed σ b h]
    · cases h
  | .ptr _ _, h | .ptr2 _ _ _, h | .osl _ _ _ _, h | .opt _ _, h | .any, h => by cases h
theorem mapL_closed (σ : Nat → Nat) : ∀ (cs : List AV), closedL cs = true → mapL σ cs = cs
  | [], _ => by simp [mapL]
  | c :: cs, h => by
    simp only [closedL] at h
    split at h
    · rename_i hc; simp only [mapL, mapA_closed σ c hc, mapL_closed σ cs h]
    · cases h
end
mutual
theorem belowA_closed (n : Nat) : ∀ (a : AV), closedA a = true → belowA n a = true
  | .v _, _ | .sl _ _ _, _ | .dp _ _ _, _ => by simp [belowA]
  | .agg cs, h => by simp only [belowA, belowL_closed n cs (by simpa [closedA] using h)]
  | .tup cs, h => by simp only [belowA, belowL_closed n cs (by simpa [closedA] using h)]
  | .clo f a b, h => by
    simp only [closedA] at h
    split at h
    · rename_i ha; simp only [belowA, belowL_closed n a ha, belowL_closed n b h]
    · cases h
  | .ptr _ _, h | .ptr2 _ _ _, h | .osl _ _ _ _, h | .opt _ _, h | .any, h => by cases h
theorem belowL_closed (n : Nat) : ∀ (cs : List AV), closedL cs = true → belowL n cs = true
  | [], _ => by simp [belowL]
  | c :: cs, h => by
    simp only [closedL] at h
    split at h
    · rename_i hc; simp only [belowL, belowA_closed n c hc, belowL_closed n cs h]
    · cases h
end
theorem boxM (σ : Nat → Nat) {cs : List AV} (h : closedL cs = true) : some (Blk.box cs) = some (mapB σ (.box cs)) := by simp only [mapB, mapL_closed σ cs h]
theorem boxB (n : Nat) {cs : List AV} (h : closedL cs = true) : belowB n (.box cs) = true := by simp only [belowB, belowL_closed n cs h]
theorem minN64 (a b : Nat) : Res.ok (.v (.int .i64 (if (b : Int) < (a : Int) then (b : Int) else (a : Int)))) = .ok (.v (.int .i64 ((min a b : Nat) : Int))) := by congr 3; split <;> omega
theorem getM {α : Type} {f : α → List AV} {l : List α} {k : Nat} {x : α} (h : l[k]? = some x) : (l.map f)[k]? = some (f x) := by rw [List.getElem?_map, h]; rfl
theorem lenMap {α : Type} (f : α → List AV) (l : List α) : Res.ok (.v (.int .i64 ((l.map f).length : Int))) = .ok (.v (.int .i64 ((l.length : Nat) : Int))) := by rw [List.length_map]
noncomputable def C1 : Ctx := { C0 with lt := true }
theorem c1Ok : CtxOk C1 := ⟨c0Ok.1, c0Ok.2, c0Ok.3⟩
theorem dc1 {f : FuncId} {args : List AV} {r : AV} (h : DCall C1 f args r) : DCall C0 f args r := h
theorem cOr (c y : Bool) : cond2 c true y = (c || y) := by cases c <;> rfl
theorem cAnd (c x : Bool) : cond2 c x false = (c && x) := by cases c <;> rfl
theorem beq_t {α : Type} [BEq α] [LawfulBEq α] {a b : α} (h : (a == b) = true) : a = b := eq_of_beq h
theorem beq_f {α : Type} [BEq α] [LawfulBEq α] {a b : α} (h : (a == b) = false) : ¬ a = b := fun e => by rw [e, beq_self_eq_true] at h; cases h
theorem bne_t {α : Type} [BEq α] [LawfulBEq α] {a b : α} (h : (a != b) = true) : ¬ a = b := fun e => by rw [e] at h; simp at h
theorem bne_f {α : Type} [BEq α] [LawfulBEq α] {a b : α} (h : (a != b) = false) : a = b := by simpa using h
theorem getZ {α : Type} {l : List α} {k : Nat} {x : α} (h : l[k]? = some x) : l[0 + k]? = some x := by rwa [Nat.zero_add]
theorem mk_eq {p : Prop} {x : AV} {h : AH} {b rs : Nat} {r r' : List (List AV)} (e : r = r') : Res.fx p x (upd h b (some (.arr r rs))) = .fx p x (upd h b (some (.arr r' rs))) := by rw [e]
theorem set_eqZ {α : Type} {f : α → List AV} {l : List α} {k : Nat} {x : α} {h : AH} {b rs : Nat} : some (upd h b (some (.arr ((l.map f).set (0 + k) (f x)) rs))) = some (upd h b (some (.arr ((l.set k x).map f) rs))) := by rw [Nat.zero_add, List.map_set]
theorem needS {p : Prop} {rs : Nat} {r r' : List (List AV)} {c : Bool} (e : r = r') : Res.need p (.sl rs r c) = .need p (.sl rs r' c) := by rw [e]
section
variable {α : Type} (f : α → List AV)
section
variable (l : List α)
theorem sliceH (H : Nat) : List.drop 0 (List.take H (l.map f)) = (l.take H).map f := by rw [List.drop_zero, List.map_take]
theorem sliceL (L : Nat) : List.drop L (List.take (l.map f).length (l.map f)) = (l.drop L).map f := by rw [List.take_length, List.map_drop]
theorem app_nil {p : Prop} {H : AH} {s rs m : Nat} {c : List (List AV)} (hl : c.length = m) : Res.fx p (.osl s 0 c.length false) (upd H s (some (.arr c rs))) = .fx p (.osl s 0 m false) (upd H s (some (.arr c rs))) := by rw [hl]
theorem app_own {p : Prop} {H : AH} {s rs n m : Nat} (B : List α) (h1 : l.length = n) (h2 : l.length + B.length = m) :
    Res.fx p (.osl s 0 ((List.take n (List.drop 0 (l.map f))).length + (B.map f).length) false) (upd H s (some (.arr (List.take n (List.drop 0 (l.map f)) ++ B.map f) rs))) = .fx p (.osl s 0 m false) (upd H s (some (.arr ((l ++ B).map f) rs))) := by
  rw [List.drop_zero, List.take_of_length_le (by rw [List.length_map, h1]; exact Nat.le_refl _), List.length_map, List.length_map, h2, List.map_append]
theorem app_sl {p : Prop} {H : AH} {s rs m : Nat} (B : List α) (h2 : l.length + B.length = m) :
    Res.fx p (.osl s 0 ((l.map f).length + (B.map f).length) false) (upd H s (some (.arr (l.map f ++ B.map f) rs))) = .fx p (.osl s 0 m false) (upd H s (some (.arr ((l ++ B).map f) rs))) := by
  rw [List.length_map, List.length_map, h2, List.map_append]
end
section
variable (l : List α)
end
end
theorem subN64 {a b B : Nat} (h : b ≤ a) (h2 : a ≤ B) (hB : Nat.ble B 9223372036854775807 = true) : IntKind.wrap .i64 ((a : Int) - (b : Int)) = ((a - b : Nat) : Int) := by
  have := Nat.le_of_ble_eq_true hB
  rw [wrap_i64 (by omega) (by omega)]; omega
theorem tmodN (a b : Nat) : Int.tmod (a : Int) (b : Int) = ((a % b : Nat) : Int) := Int.ofNat_tmod a b |>.symm
theorem bool_eq {b b' : Bool} (h : b = b') : AV.v (.bool b) = .v (.bool b') := by rw [h]
open Go.Lib
def cutL (c : UInt8) : List UInt8 → List UInt8 × List UInt8 × Bool
  | [] => ([], [], false)
  | x :: s => if x = c then ([], s, true) else (x :: (cutL c s).1, (cutL c s).2.1, (cutL c s).2.2)
def splitL (c : UInt8) : List UInt8 → List (List UInt8)
  | [] => [[]]
  | x :: s => if x = c then [] :: splitL c s else (x :: (splitL c s).headD []) :: (splitL c s).tail
def joinL (c : UInt8) : List (List UInt8) → List UInt8
  | [] => []
  | [w] => w
  | w :: v :: ws => w ++ c :: joinL c (v :: ws)
theorem split_ne (c : UInt8) : ∀ s, splitL c s ≠ []
  | [] => by simp [splitL]
  | x :: s => by unfold splitL; split <;> simp
theorem join_split (c : UInt8) : ∀ s, joinL c (splitL c s) = s
  | [] => rfl
  | x :: s => by
    have ih := join_split c s
    have hn := split_ne c s
    unfold splitL
    cases hs : splitL c s with
    | nil => exact absurd hs hn
    | cons w ws =>
      rw [hs] at ih
      split
      · rename_i e; show [] ++ c :: joinL c (w :: ws) = _; rw [ih, e]; rfl
      · show joinL c ((x :: w) :: ws) = _
        cases ws with
        | nil => show x :: w = _; rw [← ih]; rfl
        | cons v ws => show (x :: w) ++ c :: joinL c (v :: ws) = _; rw [← ih]; rfl
theorem split_one {c : UInt8} : ∀ {w : List UInt8}, c ∉ w → splitL c w = [w]
  | [], _ => rfl
  | x :: w, h => by
    have h1 : ¬ x = c := fun e => h (e ▸ List.mem_cons_self)
    have h2 := split_one (w := w) (fun q => h (List.mem_cons_of_mem _ q))
    unfold splitL; rw [if_neg h1, h2]; rfl
theorem split_app {c : UInt8} {s : List UInt8} : ∀ {w : List UInt8}, c ∉ w → splitL c (w ++ c :: s) = w :: splitL c s
  | [], _ => by show splitL c (c :: s) = _; unfold splitL; rw [if_pos rfl]; cases s <;> rfl
  | x :: w, h => by
    have h1 : ¬ x = c := fun e => h (e ▸ List.mem_cons_self)
    have h2 := split_app (s := s) (w := w) (fun q => h (List.mem_cons_of_mem _ q))
    show splitL c (x :: (w ++ c :: s)) = _
    rw [splitL, if_neg h1, h2]; rfl
theorem split_join {c : UInt8} : ∀ {l : List (List UInt8)}, l ≠ [] → (∀ w ∈ l, c ∉ w) → splitL c (joinL c l) = l
  | [], h, _ => absurd rfl h
  | [w], _, h => split_one (h w List.mem_cons_self)
  | w :: v :: ws, _, h => by
    show splitL c (w ++ c :: joinL c (v :: ws)) = _
    rw [split_app (h w List.mem_cons_self), split_join (by simp) (fun x hx => h x (List.mem_cons_of_mem _ hx))]
def digB (x : UInt8) : Bool := decide (48 ≤ x.toNat) && decide (x.toNat ≤ 57)
def decV (w : List UInt8) : Nat := w.foldl (fun n x => 10 * n + (x.toNat - 48)) 0
def decOk (w : List UInt8) : Prop := w ≠ [] ∧ (∀ x ∈ w, digB x = true) ∧ (w.head? = some 48 → w = [48])
theorem decV_snoc (w : List UInt8) (x : UInt8) : decV (w ++ [x]) = 10 * decV w + (x.toNat - 48) := by unfold decV; rw [List.foldl_append]; rfl
theorem u8_of {x : UInt8} (h : digB x = true) : UInt8.ofNat (48 + (x.toNat - 48)) = x ∧ x.toNat - 48 ≤ 9 := by
  unfold digB at h
  simp only [Bool.and_eq_true, decide_eq_true_eq] at h
  refine ⟨?_, by omega⟩
  rw [show 48 + (x.toNat - 48) = x.toNat by omega]
  exact UInt8.ofNat_toNat
theorem dec_of (n : Nat) : ∀ w : List UInt8, w.length = n → decOk w → decDigits (decV w) = w ∧ (1 < w.length → 1 ≤ decV w) ∧ (w.head? ≠ some 48 → 1 ≤ decV w) := by
  induction n with
  | zero => intro w h ok; exact absurd (List.length_eq_zero_iff.1 h) ok.1
  | succ n ih =>
    intro w h ok
    obtain ⟨v, x, rfl⟩ : ∃ v x, w = v ++ [x] := ⟨w.dropLast, w.getLast ok.1, (List.dropLast_concat_getLast ok.1).symm⟩
    have hx := ok.2.1 x (by simp)
    obtain ⟨h1, h2⟩ := u8_of hx
    rw [decV_snoc]
    cases v with
    | nil =>
      show decDigits (10 * 0 + _) = [x] ∧ _
      rw [show 10 * 0 + (x.toNat - 48) = x.toNat - 48 by omega]
      refine ⟨?_, fun q => absurd q (by simp), fun q => ?_⟩
      · rw [decDigits, dif_pos (by omega), h1]
      · have hh : x ≠ 48 := fun e => q (by rw [e]; rfl)
        show 1 ≤ 10 * decV [] + (x.toNat - 48)
        have : x.toNat ≠ 48 := fun e => hh (UInt8.toNat_inj.1 e)
        unfold digB at hx
        simp only [Bool.and_eq_true, decide_eq_true_eq] at hx
        omega
    | cons y t =>
      have hy : (y :: t).head? ≠ some 48 := fun e => by
        have := ok.2.2 (by simpa using e)
        simp at this
      have okv : decOk (y :: t) := ⟨by simp, fun z hz => ok.2.1 z (by simp at hz ⊢; rcases hz with hz | hz; exact .inl hz; exact .inr (.inl hz)), fun e => absurd e hy⟩
      obtain ⟨g1, g2, g3⟩ := ih (y :: t) (by simpa using h) okv
      have g := g3 hy
      refine ⟨?_, fun _ => by omega, fun _ => by omega⟩
      rw [decDigits, dif_neg (by omega), show (10 * decV (y :: t) + (x.toNat - 48)) / 10 = decV (y :: t) by omega, show (10 * decV (y :: t) + (x.toNat - 48)) % 10 = x.toNat - 48 by omega, g1, h1]
theorem dec_digits (n : Nat) : ∀ u, u ≤ n → decOk (decDigits u) ∧ decV (decDigits u) = u ∧ (0 < u → (decDigits u).head? ≠ some 48) := by
  induction n with
  | zero =>
    intro u h
    obtain rfl : u = 0 := by omega
    rw [decDigits, dif_pos (by decide)]
    exact ⟨⟨by simp, fun x hx => by rw [List.mem_singleton.1 hx]; decide, fun _ => rfl⟩, by decide, fun h => absurd h (by decide)⟩
  | succ n ih =>
    intro u h
    by_cases hu : u < 10
    · rw [decDigits, dif_pos hu]
      have e : (UInt8.ofNat (48 + u)).toNat = 48 + u := by rw [UInt8.toNat_ofNat']; exact Nat.mod_eq_of_lt (by omega)
      refine ⟨⟨by simp, fun x hx => ?_, fun q => ?_⟩, ?_, fun q z => ?_⟩
      · rw [List.mem_singleton.1 hx]; unfold digB; rw [e]; simp; omega
      · have q2 : UInt8.ofNat (48 + u) = 48 := Option.some.inj q
        rw [q2]
      · show 10 * 0 + ((UInt8.ofNat (48 + u)).toNat - 48) = u; rw [e]; omega
      · have z1 : UInt8.ofNat (48 + u) = 48 := Option.some.inj z
        have := congrArg UInt8.toNat z1; rw [e] at this; have z2 : (48 : UInt8).toNat = 48 := rfl; omega
    · rw [decDigits, dif_neg hu]
      obtain ⟨g1, g2, g3⟩ := ih (u / 10) (by omega)
      have e : (UInt8.ofNat (48 + u % 10)).toNat = 48 + u % 10 := by rw [UInt8.toNat_ofNat']; exact Nat.mod_eq_of_lt (by omega)
      have hd := g3 (by omega)
      have hh : (decDigits (u / 10) ++ [UInt8.ofNat (48 + u % 10)]).head? = (decDigits (u / 10)).head? := by
        cases hq : decDigits (u / 10) with
        | nil => exact absurd hq g1.1
        | cons a t => rfl
      refine ⟨⟨by simp, fun x hx => ?_, fun q => absurd (hh ▸ q) hd⟩, ?_, fun _ => by rw [hh]; exact hd⟩
      · rcases List.mem_append.1 hx with hx | hx
        · exact g1.2.1 x hx
        · rw [List.mem_singleton.1 hx]; unfold digB; rw [e]; simp; omega
      · rw [decV_snoc, g2, e]; omega
def hexB (x : UInt8) : Bool := digB x || (decide (97 ≤ x.toNat) && decide (x.toNat ≤ 102))
def hexN (x : UInt8) : Nat := if x.toNat ≤ 57 then x.toNat - 48 else x.toNat - 87
def hexD (d : Nat) : UInt8 := if d < 10 then UInt8.ofNat (48 + d) else UInt8.ofNat (87 + d)
def digH (v : Nat) : Nat → List UInt8
  | 0 => []
  | m + 1 => digH (v / 16) m ++ [hexD (v % 16)]
def codV (w : List UInt8) : Nat := w.foldl (fun n x => 16 * n + hexN x) 0
theorem codV_snoc (w : List UInt8) (x : UInt8) : codV (w ++ [x]) = 16 * codV w + hexN x := by unfold codV; rw [List.foldl_append]; rfl
theorem hex_lt {x : UInt8} (h : hexB x = true) : hexN x < 16 ∧ hexD (hexN x) = x := by
  unfold hexB digB at h
  simp only [Bool.or_eq_true, Bool.and_eq_true, decide_eq_true_eq] at h
  unfold hexN hexD
  split
  · refine ⟨by omega, ?_⟩
    rw [if_pos (by omega), show 48 + (x.toNat - 48) = x.toNat by omega]; exact UInt8.ofNat_toNat
  · refine ⟨by omega, ?_⟩
    rw [if_neg (by omega), show 87 + (x.toNat - 87) = x.toNat by omega]; exact UInt8.ofNat_toNat
theorem hexD_ok {d : Nat} (h : d < 16) : hexB (hexD d) = true ∧ hexN (hexD d) = d := by
  have : ∀ i : _root_.Fin 16, hexB (hexD i.val) = true ∧ hexN (hexD i.val) = i.val := by decide +kernel
  exact this ⟨d, h⟩
theorem digH_len : ∀ (m v : Nat), (digH v m).length = m
  | 0, _ => rfl
  | m + 1, v => by show (digH (v / 16) m ++ _).length = _; rw [List.length_append, digH_len m]; rfl
theorem digH_of (n : Nat) : ∀ w : List UInt8, w.length = n → (∀ x ∈ w, hexB x = true) → digH (codV w) n = w := by
  induction n with
  | zero => intro w h _; rw [List.length_eq_zero_iff.1 h]; rfl
  | succ n ih =>
    intro w h ok
    have hne : w ≠ [] := fun e => by rw [e] at h; cases h
    obtain ⟨v, x, rfl⟩ : ∃ v x, w = v ++ [x] := ⟨w.dropLast, w.getLast hne, (List.dropLast_concat_getLast hne).symm⟩
    obtain ⟨h1, h2⟩ := hex_lt (ok x (by simp))
    rw [codV_snoc]
    show digH ((16 * codV v + hexN x) / 16) n ++ [hexD ((16 * codV v + hexN x) % 16)] = _
    rw [show (16 * codV v + hexN x) / 16 = codV v by omega, show (16 * codV v + hexN x) % 16 = hexN x by omega, h2, ih v (by simpa using h) (fun z hz => ok z (by simp [hz]))]
theorem digH_ok : ∀ (m v : Nat), (∀ x ∈ digH v m, hexB x = true) ∧ codV (digH v m) = v % 16 ^ m
  | 0, v => ⟨fun x hx => absurd hx List.not_mem_nil, by show 0 = v % 1; omega⟩
  | m + 1, v => by
    obtain ⟨g1, g2⟩ := digH_ok m (v / 16)
    have hd := hexD_ok (d := v % 16) (by omega)
    refine ⟨fun x hx => ?_, ?_⟩
    · rcases List.mem_append.1 hx with hx | hx
      · exact g1 x hx
      · rw [List.mem_singleton.1 hx]; exact hd.1
    · show codV (digH (v / 16) m ++ [hexD (v % 16)]) = _
      rw [codV_snoc, g2, hd.2, Nat.pow_succ, Nat.mul_comm (16 ^ m) 16, Nat.mod_mul]; omega
def hexL (b : List UInt8) : List UInt8 := b.flatMap fun x => [hexD (x.toNat / 16), hexD (x.toNat % 16)]
def pairL : List UInt8 → Option (List UInt8)
  | [] => some []
  | [_] => none
  | x :: y :: t => if hexB x = true ∧ hexB y = true then (pairL t).map fun l => UInt8.ofNat (16 * hexN x + hexN y) :: l else none
theorem pair_of : ∀ (w b : List UInt8), pairL w = some b → hexL b = w
  | [], b, h => by injection h with h; subst h; rfl
  | [_], b, h => by cases h
  | x :: y :: t, b, h => by
    unfold pairL at h
    split at h
    · rename_i q
      obtain ⟨l, hl, rfl⟩ := Option.map_eq_some_iff.1 h
      obtain ⟨a1, a2⟩ := hex_lt q.1
      obtain ⟨b1, b2⟩ := hex_lt q.2
      have e : (UInt8.ofNat (16 * hexN x + hexN y)).toNat = 16 * hexN x + hexN y := by rw [UInt8.toNat_ofNat']; exact Nat.mod_eq_of_lt (by omega)
      show [hexD ((UInt8.ofNat (16 * hexN x + hexN y)).toNat / 16), hexD ((UInt8.ofNat (16 * hexN x + hexN y)).toNat % 16)] ++ hexL l = _
      rw [e, show (16 * hexN x + hexN y) / 16 = hexN x by omega, show (16 * hexN x + hexN y) % 16 = hexN y by omega, a2, b2, pair_of t l hl]; rfl
    · cases h
theorem pair_hex : ∀ b : List UInt8, pairL (hexL b) = some b
  | [] => rfl
  | x :: b => by
    have hx := UInt8.toNat_lt x
    have h1 := hexD_ok (d := x.toNat / 16) (by omega)
    have h2 := hexD_ok (d := x.toNat % 16) (by omega)
    show pairL (hexD (x.toNat / 16) :: hexD (x.toNat % 16) :: hexL b) = _
    rw [pairL, if_pos ⟨h1.1, h2.1⟩, pair_hex b, h1.2, h2.2]
    show some (UInt8.ofNat (16 * (x.toNat / 16) + x.toNat % 16) :: b) = _
    rw [show 16 * (x.toNat / 16) + x.toNat % 16 = x.toNat by omega, UInt8.ofNat_toNat]
theorem hex_no {x : UInt8} (h : hexB x = true) : x ≠ 32 ∧ x ≠ 10 := by
  refine ⟨fun e => ?_, fun e => ?_⟩ <;> (subst e; revert h; decide)
theorem dig_no {x : UInt8} (h : digB x = true) : x ≠ 32 ∧ x ≠ 10 := hex_no (by unfold hexB; rw [h]; rfl)
theorem hexL_ok (b : List UInt8) : ∀ x ∈ hexL b, hexB x = true := fun x hx => by
  obtain ⟨y, _, hy⟩ := List.mem_flatMap.1 hx
  have h := UInt8.toNat_lt y
  rcases List.mem_cons.1 hy with e | e
  · rw [e]; exact (hexD_ok (by omega)).1
  · rw [List.mem_singleton.1 e]; exact (hexD_ok (by omega)).1
abbrev W := List UInt8
def refD (base : Nat) (x : UInt8) : Nat := if 48 ≤ x.toNat ∧ x.toNat ≤ 57 then x.toNat - 48 else if base = 16 ∧ 97 ≤ x.toNat ∧ x.toNat ≤ 102 then x.toNat - 97 + 10 else 0
def valV (base : Nat) (w : W) : Nat := (w.take 9).foldl (fun n x => base * n + refD base x) 0
instance (w : W) : Decidable (decOk w) := by unfold decOk; infer_instance
def Codec {σ α : Type} (ok : α → Prop) (rd : σ → Option α) (wr : α → σ) (rf : σ → α) : Prop :=
  ∀ a, ok a → (∀ s, rd s = some a ↔ s = wr a) ∧ rf (wr a) = a
theorem foldl_eq {β : Type} {f g : β → UInt8 → β} : ∀ {l : W} (b : β), (∀ x ∈ l, ∀ b, f b x = g b x) → l.foldl f b = l.foldl g b
  | [], _, _ => rfl
  | x :: l, b, h => by
    show l.foldl f (f b x) = l.foldl g (g b x)
    rw [h x List.mem_cons_self, foldl_eq _ (fun y hy => h y (List.mem_cons_of_mem _ hy))]
theorem val_dec {w : W} (h : ∀ x ∈ w, digB x = true) (hl : w.length ≤ 9) : valV 10 w = decV w := by
  unfold valV decV
  rw [List.take_of_length_le hl]
  refine foldl_eq _ fun x hx b => ?_
  have := h x hx
  unfold digB at this
  simp only [Bool.and_eq_true, decide_eq_true_eq] at this
  unfold refD; rw [if_pos this]
theorem val_hex {w : W} (h : ∀ x ∈ w, hexB x = true) (hl : w.length ≤ 9) : valV 16 w = codV w := by
  unfold valV codV
  rw [List.take_of_length_le hl]
  refine foldl_eq _ fun x hx b => ?_
  have := h x hx
  unfold hexB digB at this
  simp only [Bool.or_eq_true, Bool.and_eq_true, decide_eq_true_eq] at this
  unfold refD hexN
  by_cases q : x.toNat ≤ 57
  · rw [if_pos (by omega), if_pos q]
  · rw [if_neg (by omega), if_pos (by omega), if_neg q]; omega
def readD (w : W) : Option Int := if decOk w ∧ w.length ≤ 9 then some (decV w : Int) else none
theorem itoa_of {a : Int} (h : 0 ≤ a) : itoa a = decDigits a.toNat := by unfold itoa; rw [if_neg (by omega)]
theorem dig_len {n : Nat} (h : n ≤ 999999999) : (decDigits n).length ≤ 9 := by
  rw [decDigits_length]
  by_cases h1 : n < 10
  · rw [nDigits_small h1]; omega
  · have h2 : ∃ k, k ≤ 8 ∧ 10 ^ k ≤ n ∧ n < 10 ^ (k + 1) := by
      by_cases g1 : n < 10 ^ 2
      · exact ⟨1, by omega, by omega, g1⟩
      by_cases g2 : n < 10 ^ 3
      · exact ⟨2, by omega, by omega, g2⟩
      by_cases g3 : n < 10 ^ 4
      · exact ⟨3, by omega, by omega, g3⟩
      by_cases g4 : n < 10 ^ 5
      · exact ⟨4, by omega, by omega, g4⟩
      by_cases g5 : n < 10 ^ 6
      · exact ⟨5, by omega, by omega, g5⟩
      by_cases g6 : n < 10 ^ 7
      · exact ⟨6, by omega, by omega, g6⟩
      by_cases g7 : n < 10 ^ 8
      · exact ⟨7, by omega, by omega, g7⟩
      · exact ⟨8, by omega, by omega, by omega⟩
    obtain ⟨k, hk, a, b⟩ := h2
    rw [nDigits_unique k n a b]; omega
theorem cod_dec : Codec (fun a : Int => 0 ≤ a ∧ a ≤ 999999999) readD itoa (fun w => (valV 10 w : Int)) := fun a ok => by
  have e : itoa a = decDigits a.toNat := itoa_of ok.1
  obtain ⟨g1, g2, _⟩ := dec_digits a.toNat a.toNat (Nat.le_refl _)
  have gl := dig_len (n := a.toNat) (by omega)
  refine ⟨fun s => ⟨fun h => ?_, fun h => ?_⟩, ?_⟩
  · unfold readD at h
    split at h
    · rename_i q
      have h := Option.some.inj h
      rw [e, ← h, Int.toNat_natCast, (dec_of _ s rfl q.1).1]
    · cases h
  · rw [h, e]; unfold readD; rw [if_pos ⟨g1, gl⟩, g2]; congr 1; omega
  · show ((valV 10 (itoa a) : Nat) : Int) = a
    rw [e, val_dec g1.2.1 gl, g2]; omega
def readC (w : W) : Option Nat := if w.length = 8 ∧ ∀ x ∈ w, hexB x = true then some (codV w) else none
theorem cod_word : Codec (fun a : Nat => a < 4294967296) readC (fun a => digH a 8) (fun w => valV 16 w % 4294967296) := fun a ok => by
  obtain ⟨g1, g2⟩ := digH_ok 8 a
  have gl := digH_len 8 a
  have g3 : codV (digH a 8) = a := by rw [g2]; exact Nat.mod_eq_of_lt ok
  refine ⟨fun s => ⟨fun h => ?_, fun h => ?_⟩, ?_⟩
  · unfold readC at h
    split at h
    · rename_i q
      have h := Option.some.inj h
      rw [← h]; exact (digH_of 8 s q.1 q.2).symm
    · cases h
  · rw [h]; unfold readC; rw [if_pos ⟨gl, g1⟩, g3]
  · show valV 16 (digH a 8) % _ = a
    rw [val_hex g1 (by omega), g3]; exact Nat.mod_eq_of_lt ok
def refB : W → W
  | x :: y :: t => UInt8.ofNat (valV 16 [x, y]) :: refB t
  | _ => []
theorem refB_hex : ∀ b : W, refB (hexL b) = b
  | [] => rfl
  | x :: b => by
    have hx := UInt8.toNat_lt x
    have h1 := hexD_ok (d := x.toNat / 16) (by omega)
    have h2 := hexD_ok (d := x.toNat % 16) (by omega)
    show UInt8.ofNat (valV 16 [hexD (x.toNat / 16), hexD (x.toNat % 16)]) :: refB (hexL b) = _
    rw [refB_hex b, val_hex (by intro y hy; simp at hy; rcases hy with rfl | rfl; exact h1.1; exact h2.1) (by simp)]
    show UInt8.ofNat (16 * (16 * 0 + hexN (hexD (x.toNat / 16))) + hexN (hexD (x.toNat % 16))) :: b = _
    rw [h1.2, h2.2, show 16 * (16 * 0 + x.toNat / 16) + x.toNat % 16 = x.toNat by omega, UInt8.ofNat_toNat]
theorem cod_bytes : Codec (fun _ : W => True) pairL hexL refB := fun a _ => ⟨fun s => ⟨fun h => (pair_of s a h).symm, fun h => h ▸ pair_hex a⟩, refB_hex a⟩
def partsL {α : Type} (rd : W → Option α) : List W → Option (List α)
  | [] => some []
  | w :: t => match rd w with
    | none => none
    | some a => (partsL rd t).map (a :: ·)
theorem cod_list {α : Type} {ok : α → Prop} {rd : W → Option α} {wr : α → W} {rf : W → α} (c : Codec ok rd wr rf) :
    Codec (fun l : List α => ∀ a ∈ l, ok a) (partsL rd) (List.map wr) (List.map rf) := by
  intro l
  induction l with
  | nil =>
    intro _
    refine ⟨fun s => ⟨fun h => ?_, fun h => h ▸ rfl⟩, rfl⟩
    cases s with
    | nil => rfl
    | cons w t =>
      unfold partsL at h
      split at h
      · cases h
      · cases hp : partsL rd t with
        | none => rw [hp] at h; cases h
        | some q => rw [hp] at h; cases h
  | cons a l ih =>
    intro ok
    obtain ⟨i1, i2⟩ := ih (fun b hb => ok b (List.mem_cons_of_mem _ hb))
    obtain ⟨c1, c2⟩ := c a (ok a List.mem_cons_self)
    refine ⟨fun s => ⟨fun h => ?_, fun h => ?_⟩, by show rf (wr a) :: List.map rf (List.map wr l) = _; rw [c2, i2]⟩
    · cases s with
      | nil => cases h
      | cons w t =>
        unfold partsL at h
        split at h
        · cases h
        · rename_i b hb
          obtain ⟨q, hq, e⟩ := Option.map_eq_some_iff.1 h
          injection e with e1 e2
          subst e1 e2
          show w :: t = wr b :: List.map wr q
          rw [(c1 w).1 hb, (i1 t).1 hq]
    · subst h
      show partsL rd (wr a :: List.map wr l) = _
      rw [partsL, (c1 _).2 rfl]
      show Option.map _ (partsL rd (List.map wr l)) = _
      rw [(i1 _).2 rfl]; rfl
def oneL {α : Type} (rd : W → Option α) : List W → Option α
  | [w] => rd w
  | _ => none
theorem cod_one {α : Type} {ok : α → Prop} {rd : W → Option α} {wr : α → W} {rf : W → α} (c : Codec ok rd wr rf) :
    Codec ok (oneL rd) (fun a => [wr a]) (fun s => rf (s.headD [])) := fun a h => by
  obtain ⟨c1, c2⟩ := c a h
  refine ⟨fun s => ⟨fun h => ?_, fun h => ?_⟩, c2⟩
  · match s, h with
    | [w], h => rw [(c1 w).1 h]
  · subst h; exact (c1 _).2 rfl
def offW : W := [111, 102, 102]
def taintW : W := [116, 97, 105, 110, 116]
def strictW : W := [115, 116, 114, 105, 99, 116]
def tablesW : W := [116, 97, 98, 108, 101, 115]
def tapeW : W := [116, 97, 112, 101]
def modeW (a : Int) : W := if a = 1 then taintW else if a = 2 then strictW else offW
def readO (w : W) : Option Int := if w = offW then some 0 else if w = taintW then some 1 else if w = strictW then some 2 else none
def refO (w : W) : Int := if w = strictW then 2 else if w = taintW then 1 else 0
theorem cod_mode : Codec (fun a : Int => 0 ≤ a ∧ a ≤ 2) readO modeW refO := fun a ok => by
  have h : a = 0 ∨ a = 1 ∨ a = 2 := by omega
  refine ⟨fun s => ?_, by rcases h with rfl | rfl | rfl <;> decide⟩
  unfold readO
  rcases h with rfl | rfl | rfl
  · rw [show modeW 0 = offW from rfl]; constructor
    · intro q; split at q
      · assumption
      · split at q
        · injection q with q; cases q
        · split at q
          · injection q with q; cases q
          · cases q
    · intro q; rw [if_pos q]
  · rw [show modeW 1 = taintW from rfl]; constructor
    · intro q; split at q
      · injection q with q; cases q
      · split at q
        · assumption
        · split at q
          · injection q with q; cases q
          · cases q
    · intro q; subst q; decide
  · rw [show modeW 2 = strictW from rfl]; constructor
    · intro q; split at q
      · injection q with q; cases q
      · split at q
        · injection q with q; cases q
        · split at q
          · assumption
          · cases q
    · intro q; subst q; decide
def tableW (a : Bool) : W := if a = true then tablesW else tapeW
def readT (w : W) : Option Bool := if w = tablesW then some true else if w = tapeW then some false else none
def refT (w : W) : Bool := decide (w = tablesW)
theorem cod_table : Codec (fun _ : Bool => True) readT tableW refT := fun a _ => by
  refine ⟨fun s => ?_, by cases a <;> decide⟩
  unfold readT
  cases a
  · rw [show tableW false = tapeW from rfl]; constructor
    · intro q; split at q
      · injection q with q; cases q
      · split at q
        · assumption
        · cases q
    · intro q; subst q; decide
  · rw [show tableW true = tablesW from rfl]; constructor
    · intro q; split at q
      · assumption
      · split at q
        · injection q with q; cases q
        · cases q
    · intro q; rw [if_pos q]
structure ScPlan where
  mode : Int
  width : Int
  rob : Int
  queue : Int
  stores : Int
  slots : Int
  sets : Int
  ways : Int
  tables : Bool
  lat : List Int
  tape : List Nat
  prog : List Nat
  mem : List UInt8
  cycles : Int
def nameL : Nat → W
  | 0 => [109, 111, 100, 101]
  | 1 => [119, 105, 100, 116, 104]
  | 2 => [114, 111, 98]
  | 3 => [113, 117, 101, 117, 101]
  | 4 => [115, 116, 111, 114, 101, 115]
  | 5 => [115, 108, 111, 116, 115]
  | 6 => [115, 101, 116, 115]
  | 7 => [119, 97, 121, 115]
  | 8 => [103, 117, 101, 115, 115]
  | 9 => [108, 97, 116]
  | 10 => [116, 97, 112, 101]
  | 11 => [112, 114, 111, 103]
  | 12 => [109, 101, 109]
  | 13 => [99, 121, 99, 108, 101, 115]
  | _ => []
def writtenL (p : ScPlan) : Nat → List W
  | 0 => [modeW p.mode]
  | 1 => [itoa p.width]
  | 2 => [itoa p.rob]
  | 3 => [itoa p.queue]
  | 4 => [itoa p.stores]
  | 5 => [itoa p.slots]
  | 6 => [itoa p.sets]
  | 7 => [itoa p.ways]
  | 8 => [tableW p.tables]
  | 9 => p.lat.map itoa
  | 10 => p.tape.map fun a => digH a 8
  | 11 => p.prog.map fun a => digH a 8
  | 12 => [hexL p.mem]
  | 13 => [itoa p.cycles]
  | _ => []
def LineL (p : ScPlan) (k : Nat) : W := joinL 32 (nameL k :: writtenL p k)
def OkL (okM : W → Prop) (p : ScPlan) : Nat → Prop
  | 0 => 0 ≤ p.mode ∧ p.mode ≤ 2
  | 1 => 1 ≤ p.width ∧ p.width ≤ 2
  | 2 => 2 ≤ p.rob ∧ p.rob ≤ 8
  | 3 => 1 ≤ p.queue ∧ p.queue ≤ 4
  | 4 => 1 ≤ p.stores ∧ p.stores ≤ 4
  | 5 => 2 ≤ p.slots ∧ p.slots ≤ 6
  | 6 => 1 ≤ p.sets ∧ p.sets ≤ 4 ∧ p.sets ≠ 3
  | 7 => 1 ≤ p.ways ∧ p.ways ≤ 2
  | 8 => True
  | 9 => p.lat.length ≤ 64 ∧ ∀ a ∈ p.lat, 1 ≤ a ∧ a ≤ 8
  | 10 => p.tape.length ≤ 64 ∧ ∀ a ∈ p.tape, a < 4294967296
  | 11 => p.prog.length ≤ 64 ∧ ∀ a ∈ p.prog, a < 4294967296
  | 12 => okM p.mem
  | 13 => 0 ≤ p.cycles ∧ p.cycles ≤ 600
  | _ => True
def RightL (okM : W → Prop) (p : ScPlan) : Prop := ∀ k, OkL okM p k
def setF (q p : ScPlan) : Nat → ScPlan
  | 0 => { p with mode := q.mode }
  | 1 => { p with width := q.width }
  | 2 => { p with rob := q.rob }
  | 3 => { p with queue := q.queue }
  | 4 => { p with stores := q.stores }
  | 5 => { p with slots := q.slots }
  | 6 => { p with sets := q.sets }
  | 7 => { p with ways := q.ways }
  | 8 => { p with tables := q.tables }
  | 9 => { p with lat := q.lat }
  | 10 => { p with tape := q.tape }
  | 11 => { p with prog := q.prog }
  | 12 => { p with mem := q.mem }
  | 13 => { p with cycles := q.cycles }
  | _ => p
def readM (p : ScPlan) (t : List W) : Nat → Option ScPlan
  | 0 => (oneL readO t).map fun x => { p with mode := x }
  | 1 => (oneL readD t).map fun x => { p with width := x }
  | 2 => (oneL readD t).map fun x => { p with rob := x }
  | 3 => (oneL readD t).map fun x => { p with queue := x }
  | 4 => (oneL readD t).map fun x => { p with stores := x }
  | 5 => (oneL readD t).map fun x => { p with slots := x }
  | 6 => (oneL readD t).map fun x => { p with sets := x }
  | 7 => (oneL readD t).map fun x => { p with ways := x }
  | 8 => (oneL readT t).map fun x => { p with tables := x }
  | 9 => (partsL readD t).map fun x => { p with lat := x }
  | 10 => (partsL readC t).map fun x => { p with tape := x }
  | 11 => (partsL readC t).map fun x => { p with prog := x }
  | 12 => (oneL pairL t).map fun x => { p with mem := x }
  | 13 => (oneL readD t).map fun x => { p with cycles := x }
  | _ => none
def readR (p : ScPlan) (t : List W) : Nat → ScPlan
  | 0 => { p with mode := refO (t.headD []) }
  | 1 => { p with width := (valV 10 (t.headD []) : Int) }
  | 2 => { p with rob := (valV 10 (t.headD []) : Int) }
  | 3 => { p with queue := (valV 10 (t.headD []) : Int) }
  | 4 => { p with stores := (valV 10 (t.headD []) : Int) }
  | 5 => { p with slots := (valV 10 (t.headD []) : Int) }
  | 6 => { p with sets := (valV 10 (t.headD []) : Int) }
  | 7 => { p with ways := (valV 10 (t.headD []) : Int) }
  | 8 => { p with tables := refT (t.headD []) }
  | 9 => { p with lat := t.map fun w => (valV 10 w : Int) }
  | 10 => { p with tape := t.map fun w => valV 16 w % 4294967296 }
  | 11 => { p with prog := t.map fun w => valV 16 w % 4294967296 }
  | 12 => { p with mem := refB (t.headD []) }
  | 13 => { p with cycles := (valV 10 (t.headD []) : Int) }
  | _ => p
theorem fld {α : Type} {ok : α → Prop} {rd : List W → Option α} {wr : α → List W} {rf : List W → α} (c : Codec ok rd wr rf)
    {set : α → ScPlan} {get : ScPlan → α} (hg : ∀ a, get (set a) = a) {p' : ScPlan} {t : List W} (hp : ok (get p')) :
    (rd t).map set = some p' ↔ (p' = set (rf t) ∧ wr (get p') = t) := by
  obtain ⟨c1, c2⟩ := c _ hp
  constructor
  · intro h
    obtain ⟨a, ha, rfl⟩ := Option.map_eq_some_iff.1 h
    rw [hg] at c1 c2 ⊢
    have e := (c1 t).1 ha
    exact ⟨by rw [e, c2], e.symm⟩
  · intro h
    have h2 := (c1 t).2 h.2.symm
    rw [h2]
    show some (set (get p')) = some p'
    rw [← h.2, c2] at h
    rw [← h.1]
theorem fld_set {α : Type} {ok : α → Prop} {rd : List W → Option α} {wr : α → List W} {rf : List W → α} (c : Codec ok rd wr rf) {a : α} (h : ok a) : rf (wr a) = a := (c a h).2
theorem okD {a l u : Int} (h : l ≤ a ∧ a ≤ u) (hl : 0 ≤ l) (hu : u ≤ 999999999) : 0 ≤ a ∧ a ≤ 999999999 := ⟨by omega, by omega⟩
theorem read_iff {okM : W → Prop} {p p' : ScPlan} {t : List W} : ∀ (k : Nat), k < 14 → OkL okM p' k → (readM p t k = some p' ↔ (p' = readR p t k ∧ writtenL p' k = t))
  | 0, _, h => fld (cod_one cod_mode) (set := fun x => { p with mode := x }) (get := (·.mode)) (fun _ => rfl) h
  | 1, _, h => fld (cod_one cod_dec) (set := fun x => { p with width := x }) (get := (·.width)) (fun _ => rfl) (okD h (by decide) (by decide))
  | 2, _, h => fld (cod_one cod_dec) (set := fun x => { p with rob := x }) (get := (·.rob)) (fun _ => rfl) (okD h (by decide) (by decide))
  | 3, _, h => fld (cod_one cod_dec) (set := fun x => { p with queue := x }) (get := (·.queue)) (fun _ => rfl) (okD h (by decide) (by decide))
  | 4, _, h => fld (cod_one cod_dec) (set := fun x => { p with stores := x }) (get := (·.stores)) (fun _ => rfl) (okD h (by decide) (by decide))
  | 5, _, h => fld (cod_one cod_dec) (set := fun x => { p with slots := x }) (get := (·.slots)) (fun _ => rfl) (okD h (by decide) (by decide))
  | 6, _, h => fld (cod_one cod_dec) (set := fun x => { p with sets := x }) (get := (·.sets)) (fun _ => rfl) (okD ⟨h.1, h.2.1⟩ (by decide) (by decide))
  | 7, _, h => fld (cod_one cod_dec) (set := fun x => { p with ways := x }) (get := (·.ways)) (fun _ => rfl) (okD h (by decide) (by decide))
  | 8, _, h => fld (cod_one cod_table) (set := fun x => { p with tables := x }) (get := (·.tables)) (fun _ => rfl) trivial
  | 9, _, h => fld (cod_list cod_dec) (set := fun x => { p with lat := x }) (get := (·.lat)) (fun _ => rfl) (fun a ha => okD (h.2 a ha) (by decide) (by decide))
  | 10, _, h => fld (cod_list cod_word) (set := fun x => { p with tape := x }) (get := (·.tape)) (fun _ => rfl) h.2
  | 11, _, h => fld (cod_list cod_word) (set := fun x => { p with prog := x }) (get := (·.prog)) (fun _ => rfl) h.2
  | 12, _, h => fld (cod_one cod_bytes) (set := fun x => { p with mem := x }) (get := (·.mem)) (fun _ => rfl) trivial
  | 13, _, h => fld (cod_one cod_dec) (set := fun x => { p with cycles := x }) (get := (·.cycles)) (fun _ => rfl) (okD h (by decide) (by decide))
  | n + 14, h, _ => absurd h (by omega)
theorem read_written {okM : W → Prop} {p q : ScPlan} : ∀ (k : Nat), k < 14 → OkL okM q k → readR p (writtenL q k) k = setF q p k
  | 0, _, h => congrArg (fun x => { p with mode := x }) (fld_set (cod_one cod_mode) (a := q.mode) h)
  | 1, _, h => congrArg (fun x => { p with width := x }) (fld_set (cod_one cod_dec) (a := q.width) (okD h (by decide) (by decide)))
  | 2, _, h => congrArg (fun x => { p with rob := x }) (fld_set (cod_one cod_dec) (a := q.rob) (okD h (by decide) (by decide)))
  | 3, _, h => congrArg (fun x => { p with queue := x }) (fld_set (cod_one cod_dec) (a := q.queue) (okD h (by decide) (by decide)))
  | 4, _, h => congrArg (fun x => { p with stores := x }) (fld_set (cod_one cod_dec) (a := q.stores) (okD h (by decide) (by decide)))
  | 5, _, h => congrArg (fun x => { p with slots := x }) (fld_set (cod_one cod_dec) (a := q.slots) (okD h (by decide) (by decide)))
  | 6, _, h => congrArg (fun x => { p with sets := x }) (fld_set (cod_one cod_dec) (a := q.sets) (okD ⟨h.1, h.2.1⟩ (by decide) (by decide)))
  | 7, _, h => congrArg (fun x => { p with ways := x }) (fld_set (cod_one cod_dec) (a := q.ways) (okD h (by decide) (by decide)))
  | 8, _, h => congrArg (fun x => { p with tables := x }) (fld_set (cod_one cod_table) (a := q.tables) trivial)
  | 9, _, h => congrArg (fun x => { p with lat := x }) (fld_set (cod_list cod_dec) (a := q.lat) (fun a ha => okD (h.2 a ha) (by decide) (by decide)))
  | 10, _, h => congrArg (fun x => { p with tape := x }) (fld_set (cod_list cod_word) (a := q.tape) h.2)
  | 11, _, h => congrArg (fun x => { p with prog := x }) (fld_set (cod_list cod_word) (a := q.prog) h.2)
  | 12, _, h => congrArg (fun x => { p with mem := x }) (fld_set (cod_one cod_bytes) (a := q.mem) trivial)
  | 13, _, h => congrArg (fun x => { p with cycles := x }) (fld_set (cod_one cod_dec) (a := q.cycles) (okD h (by decide) (by decide)))
  | n + 14, h, _ => absurd h (by omega)
theorem itoa_no {a : Int} (h : 0 ≤ a) : ∀ x ∈ itoa a, x ≠ 32 ∧ x ≠ 10 := fun x hx => by
  rw [itoa_of h] at hx
  exact dig_no ((dec_digits a.toNat a.toNat (Nat.le_refl _)).1.2.1 x hx)
theorem digH_no (a m : Nat) : ∀ x ∈ digH a m, x ≠ 32 ∧ x ≠ 10 := fun x hx => hex_no ((digH_ok m a).1 x hx)
def Clear (w : W) : Prop := ∀ x ∈ w, x ≠ 32 ∧ x ≠ 10
theorem clear_one {w : W} (h : Clear w) : ∀ v ∈ [w], Clear v := fun _ hv => by rw [List.mem_singleton.1 hv]; exact h
theorem clear_map {α : Type} {f : α → W} {l : List α} (h : ∀ a ∈ l, Clear (f a)) : ∀ v ∈ l.map f, Clear v := fun v hv => by
  obtain ⟨a, ha, rfl⟩ := List.mem_map.1 hv; exact h a ha
theorem mode_clear (a : Int) : Clear (modeW a) := by
  unfold modeW; split
  · unfold Clear; decide
  · split
    · unfold Clear; decide
    · unfold Clear; decide
theorem table_clear (a : Bool) : Clear (tableW a) := by unfold Clear; cases a <;> decide
theorem written_clear {okM : W → Prop} {p : ScPlan} : ∀ (k : Nat), OkL okM p k → ∀ w ∈ writtenL p k, Clear w
  | 0, _ => clear_one (mode_clear _)
  | 1, h => clear_one (itoa_no (by have := h.1; omega))
  | 2, h => clear_one (itoa_no (by have := h.1; omega))
  | 3, h => clear_one (itoa_no (by have := h.1; omega))
  | 4, h => clear_one (itoa_no (by have := h.1; omega))
  | 5, h => clear_one (itoa_no (by have := h.1; omega))
  | 6, h => clear_one (itoa_no (by have := h.1; omega))
  | 7, h => clear_one (itoa_no (by have := h.1; omega))
  | 8, _ => clear_one (table_clear _)
  | 9, h => clear_map fun a ha => itoa_no (by have := h.2 a ha; omega)
  | 10, _ => clear_map fun a _ => digH_no a 8
  | 11, _ => clear_map fun a _ => digH_no a 8
  | 12, _ => clear_one fun x hx => hex_no (hexL_ok _ x hx)
  | 13, h => clear_one (itoa_no (by have := h.1; omega))
  | n + 14, _ => fun w hw => absurd hw List.not_mem_nil
theorem name_clear : ∀ k, Clear (nameL k)
  | 0 => by unfold Clear; decide
  | 1 => by unfold Clear; decide
  | 2 => by unfold Clear; decide
  | 3 => by unfold Clear; decide
  | 4 => by unfold Clear; decide
  | 5 => by unfold Clear; decide
  | 6 => by unfold Clear; decide
  | 7 => by unfold Clear; decide
  | 8 => by unfold Clear; decide
  | 9 => by unfold Clear; decide
  | 10 => by unfold Clear; decide
  | 11 => by unfold Clear; decide
  | 12 => by unfold Clear; decide
  | 13 => by unfold Clear; decide
  | n + 14 => fun x hx => absurd hx List.not_mem_nil
theorem words_clear {okM : W → Prop} {p : ScPlan} {k : Nat} (h : OkL okM p k) : ∀ w ∈ nameL k :: writtenL p k, 32 ∉ w := fun w hw q => by
  rcases List.mem_cons.1 hw with e | e
  · exact (name_clear k 32 (e ▸ q)).1 rfl
  · exact (written_clear k h w e 32 q).1 rfl
theorem split_line {okM : W → Prop} {p : ScPlan} {k : Nat} (h : OkL okM p k) : splitL 32 (LineL p k) = nameL k :: writtenL p k := split_join (by simp) (words_clear h)
theorem join_mem {c y : UInt8} : ∀ {l : List W}, y ∈ joinL c l → y = c ∨ ∃ w ∈ l, y ∈ w
  | [], h => absurd h List.not_mem_nil
  | [w], h => .inr ⟨w, List.mem_cons_self, h⟩
  | w :: v :: ws, h => by
    rcases List.mem_append.1 (show y ∈ w ++ c :: joinL c (v :: ws) from h) with h | h
    · exact .inr ⟨w, List.mem_cons_self, h⟩
    · rcases List.mem_cons.1 h with h | h
      · exact .inl h
      · rcases join_mem h with h | ⟨u, hu, h⟩
        · exact .inl h
        · exact .inr ⟨u, List.mem_cons_of_mem _ hu, h⟩
theorem line_clear {okM : W → Prop} {p : ScPlan} {k : Nat} (h : OkL okM p k) : 10 ∉ LineL p k := fun q => by
  rcases join_mem q with e | ⟨w, hw, e⟩
  · revert e; decide
  · rcases List.mem_cons.1 hw with hw | hw
    · exact (name_clear k 10 (hw ▸ e)).2 rfl
    · exact (written_clear k h w hw 10 e).2 rfl
noncomputable section
open Classical
def stepM (okM : W → Prop) (p : ScPlan) (k : Nat) (line : W) : Option ScPlan :=
  if (splitL 32 line).headD [] = nameL k then (readM p (splitL 32 line).tail k).bind fun p' => if RightL okM p' then some p' else none else none
def stepR (okM : W → Prop) (p : ScPlan) (k : Nat) (line : W) : Option ScPlan :=
  if RightL okM (readR p (splitL 32 line).tail k) ∧ LineL (readR p (splitL 32 line).tail k) k = line then some (readR p (splitL 32 line).tail k) else none
theorem stepM_iff {okM : W → Prop} {p p' : ScPlan} {k : Nat} {line : W} : stepM okM p k line = some p' ↔ ((splitL 32 line).headD [] = nameL k ∧ readM p (splitL 32 line).tail k = some p' ∧ RightL okM p') := by
  unfold stepM
  constructor
  · intro h
    split at h
    · rename_i q
      obtain ⟨x, hx, h⟩ := Option.bind_eq_some_iff.1 h
      split at h
      · rename_i r
        injection h with h; subst h
        exact ⟨q, hx, r⟩
      · cases h
    · cases h
  · rintro ⟨a, b, c⟩
    rw [if_pos a, b]
    show (if RightL okM p' then some p' else none) = _
    rw [if_pos c]
theorem stepR_iff {okM : W → Prop} {p p' : ScPlan} {k : Nat} {line : W} : stepR okM p k line = some p' ↔ (p' = readR p (splitL 32 line).tail k ∧ RightL okM p' ∧ LineL p' k = line) := by
  unfold stepR
  constructor
  · intro h
    split at h
    · rename_i q
      injection h with h; subst h
      exact ⟨rfl, q⟩
    · cases h
  · rintro ⟨rfl, q⟩
    rw [if_pos q]
theorem step_eq {okM : W → Prop} {p : ScPlan} {k : Nat} (hk : k < 14) (line : W) : stepM okM p k line = stepR okM p k line := by
  apply Option.ext
  intro p'
  rw [stepM_iff, stepR_iff]
  have hn := split_ne 32 line
  have hj := join_split 32 line
  cases hs : splitL 32 line with
  | nil => exact absurd hs hn
  | cons w t =>
    rw [hs] at hj
    constructor
    · rintro ⟨a, b, c⟩
      obtain ⟨d, e⟩ := (read_iff k hk (c k)).1 b
      refine ⟨d, c, ?_⟩
      show joinL 32 (nameL k :: writtenL p' k) = line
      rw [e, ← show w = nameL k from a]; exact hj
    · rintro ⟨a, b, c⟩
      have e := split_line (b k)
      rw [c, hs] at e
      injection e with e1 e2
      exact ⟨e1, (read_iff k hk (b k)).2 ⟨a, e2.symm⟩, b⟩
def goG (step : ScPlan → Nat → W → Option ScPlan) (p0 : ScPlan) (s : W) : Nat → Except Nat (ScPlan × W)
  | 0 => .ok (p0, s)
  | k + 1 => match goG step p0 s k with
    | .error n => .error n
    | .ok (p, rest) => if (cutL 10 rest).2.2 = true then match step p k (cutL 10 rest).1 with
      | some p' => .ok (p', (cutL 10 rest).2.1)
      | none => .error (k + 1)
      else .error (k + 1)
theorem go_eq {okM : W → Prop} (p0 : ScPlan) (s : W) : ∀ k, k ≤ 14 → goG (stepM okM) p0 s k = goG (stepR okM) p0 s k
  | 0, _ => rfl
  | k + 1, h => by
    unfold goG
    rw [go_eq p0 s k (by omega)]
    cases goG (stepR okM) p0 s k with
    | error n => rfl
    | ok x => show (if _ then _ else _) = (if _ then _ else _); rw [step_eq (by omega)]
theorem go_err {step : ScPlan → Nat → W → Option ScPlan} {p0 : ScPlan} {s : W} {k e : Nat} (h : goG step p0 s k = .error e) : ∀ d, goG step p0 s (k + d) = .error e
  | 0 => h
  | d + 1 => by show goG step p0 s (k + d + 1) = _; unfold goG; rw [go_err h d]
def parseG (step : ScPlan → Nat → W → Option ScPlan) (p0 pz : ScPlan) (s : W) : ScPlan × Int × Int :=
  match goG step p0 s 14 with
  | .error n => (pz, 250, n)
  | .ok (p, rest) => if rest = [] then (p, 0, 0) else (pz, 250, 15)
theorem parse_eq {okM : W → Prop} (p0 pz : ScPlan) (s : W) : parseG (stepM okM) p0 pz s = parseG (stepR okM) p0 pz s := by
  unfold parseG; rw [go_eq p0 s 14 (Nat.le_refl _)]
def textTo (p : ScPlan) : Nat → W
  | 0 => []
  | k + 1 => textTo p k ++ (LineL p k ++ [10])
def mixF (q p : ScPlan) : Nat → ScPlan
  | 0 => p
  | k + 1 => setF q (mixF q p k) k
theorem cut_app {c : UInt8} {s : W} : ∀ {w : W}, c ∉ w → cutL c (w ++ c :: s) = (w, s, true)
  | [], _ => by show cutL c (c :: s) = _; unfold cutL; rw [if_pos rfl]
  | x :: w, h => by
    have h1 : ¬ x = c := fun e => h (e ▸ List.mem_cons_self)
    show cutL c (x :: (w ++ c :: s)) = _
    rw [cutL, if_neg h1, cut_app (fun q => h (List.mem_cons_of_mem _ q))]
theorem cut_of {c : UInt8} : ∀ {s : W}, (cutL c s).2.2 = true → s = (cutL c s).1 ++ c :: (cutL c s).2.1
  | [], h => by cases h
  | x :: s, h => by
    unfold cutL at h ⊢
    split
    · rename_i e; rw [e]; rfl
    · rename_i e
      rw [if_neg e] at h
      show x :: s = x :: ((cutL c s).1 ++ c :: (cutL c s).2.1)
      rw [← cut_of h]
theorem mix_all (q p : ScPlan) : mixF q p 14 = q := by cases q; rfl
theorem set_ok {okM : W → Prop} {q p : ScPlan} : ∀ k j, OkL okM q k → OkL okM p j → OkL okM (setF q p k) j
  | k, j, h, h' => by
    rcases k with _ | _ | _ | _ | _ | _ | _ | _ | _ | _ | _ | _ | _ | _ | k <;> rcases j with _ | _ | _ | _ | _ | _ | _ | _ | _ | _ | _ | _ | _ | _ | j <;> first | exact h' | exact h
theorem written_own (q p : ScPlan) : ∀ k, writtenL (setF q p k) k = writtenL q k := by
    intro k
    rcases k with _ | _ | _ | _ | _ | _ | _ | _ | _ | _ | _ | _ | _ | _ | k <;> rfl
theorem mix_ok {okM : W → Prop} {q p : ScPlan} (hq : RightL okM q) (hp : RightL okM p) : ∀ k, RightL okM (mixF q p k)
  | 0 => hp
  | k + 1 => fun j => set_ok k j (hq k) (mix_ok hq hp k j)
theorem step_line {okM : W → Prop} {q p : ScPlan} {k : Nat} (hk : k < 14) (hq : RightL okM q) (hp : RightL okM p) : stepR okM p k (LineL q k) = some (setF q p k) := by
  rw [stepR_iff, split_line (hq k)]
  refine ⟨(read_written k hk (hq k)).symm, fun j => set_ok k j (hq k) (hp j), ?_⟩
  unfold LineL; rw [written_own]
theorem go_text {okM : W → Prop} {q p0 : ScPlan} (hq : RightL okM q) (hp : RightL okM p0) : ∀ k tail, k ≤ 14 → goG (stepR okM) p0 (textTo q k ++ tail) k = .ok (mixF q p0 k, tail)
  | 0, _, _ => rfl
  | k + 1, tail, hk => by
    have ih := go_text hq hp k (LineL q k ++ 10 :: tail) (by omega)
    have e : textTo q (k + 1) ++ tail = textTo q k ++ (LineL q k ++ 10 :: tail) := by simp [textTo]
    rw [e]; unfold goG; rw [ih]
    simp only [cut_app (line_clear (hq k)), if_true]
    rw [step_line (by omega) hq (mix_ok hq hp k)]; rfl
theorem parse_text {okM : W → Prop} {q p0 pz : ScPlan} (hq : RightL okM q) (hp : RightL okM p0) : parseG (stepR okM) p0 pz (textTo q 14) = (q, 0, 0) := by
  have h := go_text hq hp 14 [] (Nat.le_refl _)
  rw [List.append_nil] at h
  unfold parseG; rw [h, mix_all]; rfl
theorem parse_more {okM : W → Prop} {q p0 pz : ScPlan} {x : W} (hq : RightL okM q) (hp : RightL okM p0) (hx : x ≠ []) : parseG (stepR okM) p0 pz (textTo q 14 ++ x) = (pz, 250, 15) := by
  have h := go_text hq hp 14 x (Nat.le_refl _)
  unfold parseG; rw [h]
  show (if x = [] then _ else _) = _
  rw [if_neg hx]
def textFrom (p : ScPlan) (k : Nat) : Nat → W
  | 0 => []
  | n + 1 => LineL p k ++ 10 :: textFrom p (k + 1) n
theorem text_from (p : ScPlan) : ∀ n k, textTo p (k + n) = textTo p k ++ textFrom p k n
  | 0, k => (List.append_nil _).symm
  | n + 1, k => by
    rw [show k + (n + 1) = k + 1 + n by omega, text_from p n (k + 1)]
    show (textTo p k ++ (LineL p k ++ [10])) ++ _ = textTo p k ++ (LineL p k ++ 10 :: _)
    simp
theorem name_ne : ∀ k, k < 13 → nameL (k + 1) ≠ nameL k := by decide +kernel
theorem parse_less {okM : W → Prop} {q p0 pz : ScPlan} (hq : RightL okM q) (hp : RightL okM p0) {k : Nat} (hk : k < 14) :
    parseG (stepR okM) p0 pz (textTo q k ++ textFrom q (k + 1) (13 - k)) = (pz, 250, (k : Int) + 1) := by
  have h := go_text hq hp k (textFrom q (k + 1) (13 - k)) (by omega)
  have h1 : goG (stepR okM) p0 (textTo q k ++ textFrom q (k + 1) (13 - k)) (k + 1) = .error (k + 1) := by
    unfold goG; rw [h]
    by_cases h3 : k = 13
    · subst h3; rfl
    · rw [show 13 - k = (12 - k) + 1 by omega]
      show (if (cutL 10 (LineL q (k + 1) ++ 10 :: textFrom q (k + 1 + 1) (12 - k))).2.2 = true then _ else _) = _
      simp only [textFrom, cut_app (line_clear (hq (k + 1))), if_true]
      rw [← step_eq hk]
      have : stepM okM (mixF q p0 k) k (LineL q (k + 1)) = none := by
        unfold stepM
        rw [split_line (hq (k + 1)), if_neg]
        exact name_ne k (by omega)
      rw [this]
  have h2 := go_err h1 (13 - k)
  rw [show k + 1 + (13 - k) = 14 by omega] at h2
  unfold parseG; rw [h2]
  show (pz, (250 : Int), ((k + 1 : Nat) : Int)) = _
  rw [show ((k + 1 : Nat) : Int) = (k : Int) + 1 by omega]
end
end Go.Proofs.YtpefnjbmbfdmmaaDoor
namespace Go.Proofs.YtpefnjbmbfdmmaaDoor
open Go.RowKit
def sB (l : List UInt8) : ByteArray := ⟨l.toArray⟩
abbrev vS (l : List UInt8) : AV := .v (.string (sB l))
abbrev rowS (l : List UInt8) : List AV := [vS l]
abbrev row8 (x : UInt8) : List AV := [.v (.int .u8 ((x.toNat : Nat) : Int))]
theorem needSt {p : Prop} {a b : ByteArray} (h : a = b) : Res.need p (.v (.string a)) = .need p (.v (.string b)) := by rw [h]
theorem okBo {a b : Bool} (h : a = b) : Res.ok (.v (.bool a)) = .ok (.v (.bool b)) := by rw [h]
theorem cat_sB (a b : List UInt8) : sB a ++ sB b = sB (a ++ b) := by
  apply ByteArray.ext; show _ = (a ++ b).toArray
  rw [ByteArray.data_append]; show a.toArray ++ b.toArray = _; simp
theorem ext_sB (l : List UInt8) (i j : Nat) : (sB l).extract i j = sB ((l.take j).drop i) := by
  apply ByteArray.ext; rw [ByteArray.data_extract]; show (l.toArray).extract i j = _
  rw [List.extract_toArray, List.extract_eq_drop_take']; rfl
theorem ext_to (l : List UInt8) (j : Nat) : (sB l).extract 0 j = sB (l.take j) := ext_sB l 0 j
theorem ext_from (l : List UInt8) (i : Nat) : (sB l).extract i (sB l).size = sB (l.drop i) := by rw [ext_sB]; show sB ((l.take l.length).drop i) = _; rw [List.take_length]
theorem eq_tL (a b : List UInt8) : ((sB a).toList == (sB b).toList) = decide (a = b) := by
  rw [ByteArray.toList_eq, ByteArray.toList_eq]
  show (a == b) = decide (a = b)
  rw [Bool.eq_iff_iff, decide_eq_true_eq, beq_iff_eq]
theorem u8_le (x : UInt8) : x.toNat ≤ 255 := by have := UInt8.toNat_lt x; omega
theorem subI8 {x y B : Nat} (h : y ≤ B) (hB : Nat.ble B 256 = true) : IntKind.wrap .u8 ((x : Int) - (y : Int)) = (((x + 256 - y) % 256 : Nat) : Int) := by
  have := Nat.le_of_ble_eq_true hB
  simp only [IntKind.wrap, IntKind.signed, IntKind.bits]
  simp
  omega
set_option maxRecDepth 100000
set_option maxHeartbeats 4000000
open Go.RowKit Go.Lib
theorem cut_hit {c x : UInt8} : ∀ {s : List UInt8} {k : Nat}, c ∉ s.take k → s.getD k 0 = c → k < s.length → cutL c s = (s.take k, s.drop (k + 1), true)
  | [], k, _, _, h => absurd h (Nat.not_lt_zero _)
  | y :: s, 0, _, h, _ => by
    have h : y = c := h
    rw [cutL, if_pos h]; rfl
  | y :: s, k + 1, h, h1, h2 => by
    rw [cutL, if_neg (fun e => h (by rw [← e]; exact List.mem_cons_self)), cut_hit (x := x) (fun q => h (List.mem_cons_of_mem _ q)) h1 (Nat.lt_of_succ_lt_succ h2)]; rfl
theorem cut_miss {c : UInt8} : ∀ {s : List UInt8}, c ∉ s → cutL c s = (s, [], false)
  | [], _ => rfl
  | y :: s, h => by
    rw [cutL, if_neg (fun e => h (by rw [← e]; exact List.mem_cons_self)), cut_miss (fun q => h (List.mem_cons_of_mem _ q))]
abbrev tupS (x : List UInt8 × List UInt8 × Bool) : AV := .tup [vS x.1, vS x.2.1, vB x.2.2]
theorem u8_eq {x y : UInt8} (h : x.toNat = y.toNat) : x = y := UInt8.toNat_inj.1 h
theorem eMode (a : Int) : DCall C0 53 [vI a] (vS (modeW a)) := by
  refine DCall.intro c0Ok Tryd.func53 rfl rfl (by kernel_rfl) rfl <| cSeq <| cReg rfl <| oR 1 rfl <| rE 1 <| cSeq <| cSeq <| cReg rfl <| oR 1 rfl <| rOk (x := vB (a == 1)) rfl rfl rfl <| rE 3 ?_
  refine cCond rfl (fun h1 => ?_) (fun h1 => ?_)
  · have h1p := beq_t h1
    refine cSeq <| cReg rfl <| oR 1 rfl <| rE 4 <| cRet ?_
    exact finTA rfl trivial rfl (congrArg vS (by unfold modeW; simp only [beq_iff_eq, beq_eq_false_iff_ne, ne_eq] at h1; simp [h1] : taintW = modeW a))
  · have h1p := beq_f h1
    refine cSkip <| cSeq <| cSeq <| cReg rfl <| oR 1 rfl <| rOk (x := vB (a == 2)) rfl rfl rfl <| rE 5 ?_
    refine cCond rfl (fun h2 => ?_) (fun h2 => ?_)
    · have h2p := beq_t h2
      refine cSeq <| cReg rfl <| oR 1 rfl <| rE 6 <| cRet ?_
      exact finTA rfl trivial rfl (congrArg vS (by unfold modeW; simp only [beq_iff_eq, beq_eq_false_iff_ne, ne_eq] at h1 h2; simp [h1, h2] : strictW = modeW a))
    · have h2p := beq_f h2
      refine cSkip <| cSeq <| cReg rfl <| oR 1 rfl <| rE 6 <| cRet ?_
      exact finTA rfl trivial rfl (congrArg vS (by unfold modeW; simp only [beq_iff_eq, beq_eq_false_iff_ne, ne_eq] at h1 h2; simp [h1, h2] : offW = modeW a))
theorem eName (k : Nat) (hk : k < 14) : DCall C0 52 [vN k] (vS (nameL k)) := by
  refine DCall.intro c0Ok Tryd.func52 rfl rfl (by kernel_rfl) rfl <| cSeq <| cReg rfl <| oR 1 rfl <| rE 1 <| cSeq <| cReg rfl <| rOk (x := .sl 1 ([[.v (.string (⟨#[109, 111, 100, 101]⟩ : ByteArray))], [.v (.string (⟨#[119, 105, 100, 116, 104]⟩ : ByteArray))], [.v (.string (⟨#[114, 111, 98]⟩ : ByteArray))], [.v (.string (⟨#[113, 117, 101, 117, 101]⟩ : ByteArray))], [.v (.string (⟨#[115, 116, 111, 114, 101, 115]⟩ : ByteArray))], [.v (.string (⟨#[115, 108, 111, 116, 115]⟩ : ByteArray))], [.v (.string (⟨#[115, 101, 116, 115]⟩ : ByteArray))], [.v (.string (⟨#[119, 97, 121, 115]⟩ : ByteArray))], [.v (.string (⟨#[103, 117, 101, 115, 115]⟩ : ByteArray))], [.v (.string (⟨#[108, 97, 116]⟩ : ByteArray))], [.v (.string (⟨#[116, 97, 112, 101]⟩ : ByteArray))], [.v (.string (⟨#[112, 114, 111, 103]⟩ : ByteArray))], [.v (.string (⟨#[109, 101, 109]⟩ : ByteArray))], [.v (.string (⟨#[99, 121, 99, 108, 101, 115]⟩ : ByteArray))]]) true) rfl rfl rfl <| oR 1 rfl ?_
  have hn_ : ([[.v (.string (⟨#[109, 111, 100, 101]⟩ : ByteArray))], [.v (.string (⟨#[119, 105, 100, 116, 104]⟩ : ByteArray))], [.v (.string (⟨#[114, 111, 98]⟩ : ByteArray))], [.v (.string (⟨#[113, 117, 101, 117, 101]⟩ : ByteArray))], [.v (.string (⟨#[115, 116, 111, 114, 101, 115]⟩ : ByteArray))], [.v (.string (⟨#[115, 108, 111, 116, 115]⟩ : ByteArray))], [.v (.string (⟨#[115, 101, 116, 115]⟩ : ByteArray))], [.v (.string (⟨#[119, 97, 121, 115]⟩ : ByteArray))], [.v (.string (⟨#[103, 117, 101, 115, 115]⟩ : ByteArray))], [.v (.string (⟨#[108, 97, 116]⟩ : ByteArray))], [.v (.string (⟨#[116, 97, 112, 101]⟩ : ByteArray))], [.v (.string (⟨#[112, 114, 111, 103]⟩ : ByteArray))], [.v (.string (⟨#[109, 101, 109]⟩ : ByteArray))], [.v (.string (⟨#[99, 121, 99, 108, 101, 115]⟩ : ByteArray))]])[k]? = some (rowS (nameL k)) := by rcases k with _ | _ | _ | _ | _ | _ | _ | _ | _ | _ | _ | _ | _ | _ | k <;> first | rfl | omega
  refine rIdx (rowS (nameL k)) (x := .dp 1 0 (rowS (nameL k))) rfl rfl rfl (⟨Int.natCast_nonneg _, hn_⟩) rfl <| oR 2 rfl <| rE 6 <| cRet ?_
  exact finTA rfl trivial rfl rfl
theorem split_no {c : UInt8} : ∀ {s : List UInt8}, (cutL c s).2.2 = false → splitL c s = [(cutL c s).1]
  | [], _ => rfl
  | x :: s, h => by
    unfold cutL at h ⊢
    unfold splitL
    split at h
    · cases h
    · rename_i q; rw [if_neg q, if_neg q, split_no h]; rfl
theorem split_yes {c : UInt8} {s : List UInt8} (h : (cutL c s).2.2 = true) : splitL c s = (cutL c s).1 :: splitL c (cutL c s).2.1 := by
  induction s with
  | nil => cases h
  | cons x s ih =>
    unfold cutL at h ⊢
    rw [splitL]
    split at h
    · rename_i q; rw [if_pos q, if_pos q]
    · rename_i q; rw [if_neg q, if_neg q, ih h]; rfl
def hexT (m w k : Nat) : List UInt8 := (List.range k).map fun i => hexD ((w / 2 ^ (4 * (m - 1 - i))) % 16)
theorem hexT_next (m w k : Nat) : hexT m w k ++ [hexD ((w / 2 ^ (4 * (m - 1 - k))) % 16)] = hexT m w (k + 1) := by unfold hexT; rw [List.range_succ, List.map_append]; rfl
theorem hexT_len (m w k : Nat) : (hexT m w k).length = k := by unfold hexT; rw [List.length_map, List.length_range]
theorem digH_eq : ∀ m w, digH w m = hexT m w m
  | 0, _ => rfl
  | m + 1, w => by
    rw [← hexT_next]
    show digH (w / 16) m ++ [hexD (w % 16)] = _
    rw [digH_eq m (w / 16)]
    congr 1
    · unfold hexT
      refine List.map_congr_left fun i hi => ?_
      have := List.mem_range.1 hi
      rw [show 4 * (m + 1 - 1 - i) = 4 + 4 * (m - 1 - i) by omega, Nat.pow_add, Nat.div_div_eq_div_mul]
    · rw [show 4 * (m + 1 - 1 - m) = 0 by omega, Nat.pow_zero, Nat.div_one]
theorem hx_at {d : Nat} (h : d < 16) : (((sB [48, 49, 50, 51, 52, 53, 54, 55, 56, 57, 97, 98, 99, 100, 101, 102]).data.toList.getD d 0).toNat : Int) = ((hexD d).toNat : Int) := by
  have : ∀ i : _root_.Fin 16, (([48, 49, 50, 51, 52, 53, 54, 55, 56, 57, 97, 98, 99, 100, 101, 102] : List UInt8).getD i.val 0).toNat = (hexD i.val).toNat := by decide +kernel
  exact congrArg Int.ofNat (this ⟨d, h⟩)
theorem hx_c {m k : Nat} : decide (((m : Int) - (k : Int)) ≥ 0) = decide (k < m + 1) := by
  rw [Bool.eq_iff_iff, decide_eq_true_eq, decide_eq_true_eq]; omega
theorem hx_4 {m k : Nat} (h : k ≤ m) (hm : m ≤ 100) : IntKind.wrap .i64 (4 * ((m : Int) - (k : Int))) = ((4 * (m - k) : Nat) : Int) := by rw [wrap_i64 (by omega) (by omega)]; omega
theorem hx_1 {m k : Nat} (h : k ≤ m) (hm : m ≤ 100) : IntKind.wrap .i64 (((m : Int) - (k : Int)) - 1) = (m : Int) - ((k + 1 : Nat) : Int) := by rw [wrap_i64 (by omega) (by omega)]; omega
theorem rows8 {l : List UInt8} {n : Nat} (h : l.length = n) : bytesOfRows (List.take n (List.drop 0 (l.map row8))) = some l := by
  rw [List.drop_zero, List.take_of_length_le (by rw [List.length_map]; omega)]; exact bytesOfRows_map l
theorem eHex8 (w : Nat) (hw : w ≤ 4294967295) : DCall C0 55 [vU w, vI 8] (vS (digH w 8)) := by
  refine DCall.intro c0Ok Tryd.func55 rfl rfl (by kernel_rfl) rfl <| cSeq <| cReg rfl <| oR 1 rfl <| rE 1 <| cSeq <| cReg rfl <| rOk (x := .sl 1 ([]) true) rfl rfl rfl <| oR 1 rfl <| rE 3 <| cSeq <| cSeq <| cReg rfl <| oR 1 rfl <| rOk (x := vI (((7 : Nat) : Int) - ((0 : Nat) : Int))) rfl rfl rfl <| oR 1 rfl ?_
  refine rE 6 <| cBlock <| cLoop (κ := Nat × Bool) (fun z_ => match z_ with | (k, false) => ⟨slotsF [(0, vU w), (4, .v (.string (⟨#[]⟩ : ByteArray))), (6, vI (((7 : Nat) : Int) - ((k : Nat) : Int))), (5, .sl 1 ([]) true)], heapF [], 7⟩ | (k, true) => ⟨slotsF [(0, vU w), (4, .v (.string (⟨#[]⟩ : ByteArray))), (6, vI (((7 : Nat) : Int) - ((k : Nat) : Int))), (5, .osl 6 0 ((hexT 8 w k).length) false)], heapF [(6, .arr ((hexT 8 w k).map row8) 1)], 7⟩) (fun z_ => match z_ with | (k, false) => (k ≤ 8 ∧ hexT 8 w k = []) | (k, true) => (k ≤ 8)) (fun z_ => 8 - z_.1) (0, false) (fun s => s) (Weak.of_lists (fun s => s) wT trivial rfl) (⟨Nat.zero_le _, (show hexT 8 w 0 = [] from rfl)⟩) ?_
  intro z_ hk
  obtain ⟨k, b_⟩ := z_; cases b_
  · have hk_ := hk
    have hnn : k ≤ 8 := hk_.1
    have hkB : k ≤ 1000000 := by omega
    have hNk : hexT 8 w k = [] := hk_.2
    refine cSeq <| cSeq <| cReg rfl <| oR 1 rfl <| rOk (x := vB (decide (k < 7 + 1))) rfl rfl (okBo hx_c) <| rE 9 ?_
    refine cCond rfl (fun h1 => ?_) (fun h1 => ?_)
    · have h1p := of_decide_eq_true h1
      refine cSkip <| cSeq <| cBlock <| cReg rfl <| oR 3 rfl <| rOk (x := vN (4 * (7 - k))) rfl rfl (okI (hx_4 (by omega) (by omega))) <| rOk (x := .v (.int .u64 ((4 * (7 - k) : Nat) : Int))) rfl rfl (okI (modI (show 4 * (7 - k) ≤ 28 by omega) rfl)) ?_
      have b1 : w / 2 ^ (4 * (7 - k)) ≤ 4294967295 := Nat.le_trans (Nat.div_le_self _ _) hw
      refine rNeed (x := vU (w / 2 ^ (4 * (7 - k)))) rfl rfl (needI (shrI32 (4 * (7 - k)) hw rfl)) (Int.natCast_nonneg _) ?_
      have b2 : (w / 2 ^ (4 * (7 - k))) % 16 ≤ 15 := Nat.le_of_lt_succ (Nat.mod_lt _ (by decide))
      refine rNeed (x := vU ((w / 2 ^ (4 * (7 - k))) % 16)) rfl rfl rfl (by decide) <| rNeed (x := .v (.int .u8 (((hexD (((w / 2 ^ (4 * (7 - k))) % 16))).toNat : Nat) : Int))) rfl rfl (needI (hx_at (by omega))) (⟨Int.natCast_nonneg _, Int.ofNat_lt.2 (by show (((w / 2 ^ (4 * (7 - k))) % 16)) < 16; omega)⟩) <| rOk (x := .sl 1 ([[.v (.int .u8 (((hexD (((w / 2 ^ (4 * (7 - k))) % 16))).toNat : Nat) : Int))]]) true) rfl rfl rfl <| rFx (x := .osl 18 0 1 false) (h' := upd _ 18 (some (.arr (([(hexD (((w / 2 ^ (4 * (7 - k))) % 16)))]).map row8) 1))) rfl rfl (app_sl row8 ([] : List UInt8) ([(hexD (((w / 2 ^ (4 * (7 - k))) % 16)))]) omT) (⟨by exact omT, by exact omT, trivial, trivial⟩) <| oR 1 rfl <| rE 20 <| cReg rfl <| oR 1 rfl <| rOk (x := vI (((7 : Nat) : Int) - ((k + 1 : Nat) : Int))) rfl rfl (okI (hx_1 (by omega) (by omega))) <| oR 1 rfl <| rE 23 ?_
      refine ⟨(k + 1, true), fun i => match i with | 6 => 18 | i => i, Weak.of_lists (fun i => match i with | 6 => 18 | i => i) ⟨⟨rfl, rfl⟩, ⟨rfl, rfl⟩, ⟨rfl, rfl⟩, ⟨(show AV.osl 18 0 (1) false = AV.osl 18 0 (hexT 8 w (k + 1)).length false from by rw [← (show [(hexD (((w / 2 ^ (4 * (7 - k))) % 16)))] = hexT 8 w (k + 1) from (by rw [← (hexT_next 8 w k), hNk]; rfl))]; first | done | rfl | (congr 1 <;> (first | exact omT | simp))), rfl⟩, trivial⟩ ⟨⟨rfl, (congrArg (fun z : List UInt8 => some (Blk.arr (z.map row8) 1)) (show [(hexD (((w / 2 ^ (4 * (7 - k))) % 16)))] = hexT 8 w (k + 1) from (by rw [← (hexT_next 8 w k), hNk]; rfl))), rfl⟩, trivial⟩ rfl, by omega, by show 8 - (k + 1) < 8 - k; omega⟩
    · have h1p := of_decide_eq_false h1
      refine cExit <| cSeq <| cReg rfl <| oR 1 rfl <| rStr ([]) (d := 25) rfl rfl rfl (trivial) (rfl) <| oR 1 rfl <| rE 12 <| cRet ?_
      exact absurd (by have q := congrArg List.length hNk; rw [hexT_len] at q; exact q : k = 0) (by omega)
  · have hk_ := hk
    have hnn : k ≤ 8 := hk_
    have hkB : k ≤ 1000000 := by omega
    have habk : (hexT 8 w k).length ≤ 900000 := (by rw [hexT_len]; omega)
    refine cSeq <| cSeq <| cReg rfl <| oR 1 rfl <| rOk (x := vB (decide (k < 7 + 1))) rfl rfl (okBo hx_c) <| rE 9 ?_
    refine cCond rfl (fun h2 => ?_) (fun h2 => ?_)
    · have h2p := of_decide_eq_true h2
      refine cSkip <| cSeq <| cBlock <| cReg rfl <| oR 3 rfl <| rOk (x := vN (4 * (7 - k))) rfl rfl (okI (hx_4 (by omega) (by omega))) <| rOk (x := .v (.int .u64 ((4 * (7 - k) : Nat) : Int))) rfl rfl (okI (modI (show 4 * (7 - k) ≤ 28 by omega) rfl)) ?_
      have b3 : w / 2 ^ (4 * (7 - k)) ≤ 4294967295 := Nat.le_trans (Nat.div_le_self _ _) hw
      refine rNeed (x := vU (w / 2 ^ (4 * (7 - k)))) rfl rfl (needI (shrI32 (4 * (7 - k)) hw rfl)) (Int.natCast_nonneg _) ?_
      have b4 : (w / 2 ^ (4 * (7 - k))) % 16 ≤ 15 := Nat.le_of_lt_succ (Nat.mod_lt _ (by decide))
      refine rNeed (x := vU ((w / 2 ^ (4 * (7 - k))) % 16)) rfl rfl rfl (by decide) <| rNeed (x := .v (.int .u8 (((hexD (((w / 2 ^ (4 * (7 - k))) % 16))).toNat : Nat) : Int))) rfl rfl (needI (hx_at (by omega))) (⟨Int.natCast_nonneg _, Int.ofNat_lt.2 (by show (((w / 2 ^ (4 * (7 - k))) % 16)) < 16; omega)⟩) <| rOk (x := .sl 1 ([[.v (.int .u8 (((hexD (((w / 2 ^ (4 * (7 - k))) % 16))).toNat : Nat) : Int))]]) true) rfl rfl rfl <| rFx (x := .osl 18 0 ((hexT 8 w k).length + 1) false) (h' := upd (upd _ 6 none) 18 (some (.arr (((hexT 8 w k) ++ ([(hexD (((w / 2 ^ (4 * (7 - k))) % 16)))])).map row8) 1))) rfl rfl (app_own row8 (hexT 8 w k) ([(hexD (((w / 2 ^ (4 * (7 - k))) % 16)))]) omT omT) (⟨by exact omT, by exact omT, trivial⟩) <| oR 1 rfl <| rE 20 <| cReg rfl <| oR 1 rfl <| rOk (x := vI (((7 : Nat) : Int) - ((k + 1 : Nat) : Int))) rfl rfl (okI (hx_1 (by omega) (by omega))) <| oR 1 rfl <| rE 23 ?_
      refine ⟨(k + 1, true), fun i => match i with | 6 => 18 | i => i, Weak.of_lists (fun i => match i with | 6 => 18 | i => i) ⟨⟨rfl, rfl⟩, ⟨rfl, rfl⟩, ⟨rfl, rfl⟩, ⟨(show AV.osl 18 0 ((hexT 8 w k).length + 1) false = AV.osl 18 0 (hexT 8 w (k + 1)).length false from by rw [← (show (hexT 8 w k) ++ ([(hexD (((w / 2 ^ (4 * (7 - k))) % 16)))]) = hexT 8 w (k + 1) from hexT_next 8 w k)]; first | done | rfl | (congr 1 <;> (first | exact omT | simp))), rfl⟩, trivial⟩ ⟨⟨rfl, (congrArg (fun z : List UInt8 => some (Blk.arr (z.map row8) 1)) (show (hexT 8 w k) ++ ([(hexD (((w / 2 ^ (4 * (7 - k))) % 16)))]) = hexT 8 w (k + 1) from hexT_next 8 w k)), rfl⟩, trivial⟩ rfl, by omega, by show 8 - (k + 1) < 8 - k; omega⟩
    · have h2p := of_decide_eq_false h2
      refine cExit <| cSeq <| cReg rfl <| oR 1 rfl <| rStr (hexT 8 w k) (d := 25) rfl rfl rfl ((by show 0 + (hexT 8 w k).length ≤ ((hexT 8 w k).map row8).length; rw [List.length_map]; omega)) (rows8 rfl) <| oR 1 rfl <| rE 12 <| cRet ?_
      have hk8 : k = 8 := by omega
      subst hk8
      exact finTA rfl trivial rfl (congrArg vS (digH_eq 8 w).symm)
theorem eHex2 (w : Nat) (hw : w ≤ 4294967295) : DCall C0 55 [vU w, vI 2] (vS (digH w 2)) := by
  refine DCall.intro c0Ok Tryd.func55 rfl rfl (by kernel_rfl) rfl <| cSeq <| cReg rfl <| oR 1 rfl <| rE 1 <| cSeq <| cReg rfl <| rOk (x := .sl 1 ([]) true) rfl rfl rfl <| oR 1 rfl <| rE 3 <| cSeq <| cSeq <| cReg rfl <| oR 1 rfl <| rOk (x := vI (((1 : Nat) : Int) - ((0 : Nat) : Int))) rfl rfl rfl <| oR 1 rfl ?_
  refine rE 6 <| cBlock <| cLoop (κ := Nat × Bool) (fun z_ => match z_ with | (k, false) => ⟨slotsF [(0, vU w), (4, .v (.string (⟨#[]⟩ : ByteArray))), (6, vI (((1 : Nat) : Int) - ((k : Nat) : Int))), (5, .sl 1 ([]) true)], heapF [], 7⟩ | (k, true) => ⟨slotsF [(0, vU w), (4, .v (.string (⟨#[]⟩ : ByteArray))), (6, vI (((1 : Nat) : Int) - ((k : Nat) : Int))), (5, .osl 6 0 ((hexT 2 w k).length) false)], heapF [(6, .arr ((hexT 2 w k).map row8) 1)], 7⟩) (fun z_ => match z_ with | (k, false) => (k ≤ 2 ∧ hexT 2 w k = []) | (k, true) => (k ≤ 2)) (fun z_ => 2 - z_.1) (0, false) (fun s => s) (Weak.of_lists (fun s => s) wT trivial rfl) (⟨Nat.zero_le _, (show hexT 2 w 0 = [] from rfl)⟩) ?_
  intro z_ hk
  obtain ⟨k, b_⟩ := z_; cases b_
  · have hk_ := hk
    have hnn : k ≤ 2 := hk_.1
    have hkB : k ≤ 1000000 := by omega
    have hNk : hexT 2 w k = [] := hk_.2
    refine cSeq <| cSeq <| cReg rfl <| oR 1 rfl <| rOk (x := vB (decide (k < 1 + 1))) rfl rfl (okBo hx_c) <| rE 9 ?_
    refine cCond rfl (fun h1 => ?_) (fun h1 => ?_)
    · have h1p := of_decide_eq_true h1
      refine cSkip <| cSeq <| cBlock <| cReg rfl <| oR 3 rfl <| rOk (x := vN (4 * (1 - k))) rfl rfl (okI (hx_4 (by omega) (by omega))) <| rOk (x := .v (.int .u64 ((4 * (1 - k) : Nat) : Int))) rfl rfl (okI (modI (show 4 * (1 - k) ≤ 4 by omega) rfl)) ?_
      have b1 : w / 2 ^ (4 * (1 - k)) ≤ 4294967295 := Nat.le_trans (Nat.div_le_self _ _) hw
      refine rNeed (x := vU (w / 2 ^ (4 * (1 - k)))) rfl rfl (needI (shrI32 (4 * (1 - k)) hw rfl)) (Int.natCast_nonneg _) ?_
      have b2 : (w / 2 ^ (4 * (1 - k))) % 16 ≤ 15 := Nat.le_of_lt_succ (Nat.mod_lt _ (by decide))
      refine rNeed (x := vU ((w / 2 ^ (4 * (1 - k))) % 16)) rfl rfl rfl (by decide) <| rNeed (x := .v (.int .u8 (((hexD (((w / 2 ^ (4 * (1 - k))) % 16))).toNat : Nat) : Int))) rfl rfl (needI (hx_at (by omega))) (⟨Int.natCast_nonneg _, Int.ofNat_lt.2 (by show (((w / 2 ^ (4 * (1 - k))) % 16)) < 16; omega)⟩) <| rOk (x := .sl 1 ([[.v (.int .u8 (((hexD (((w / 2 ^ (4 * (1 - k))) % 16))).toNat : Nat) : Int))]]) true) rfl rfl rfl <| rFx (x := .osl 18 0 1 false) (h' := upd _ 18 (some (.arr (([(hexD (((w / 2 ^ (4 * (1 - k))) % 16)))]).map row8) 1))) rfl rfl (app_sl row8 ([] : List UInt8) ([(hexD (((w / 2 ^ (4 * (1 - k))) % 16)))]) omT) (⟨by exact omT, by exact omT, trivial, trivial⟩) <| oR 1 rfl <| rE 20 <| cReg rfl <| oR 1 rfl <| rOk (x := vI (((1 : Nat) : Int) - ((k + 1 : Nat) : Int))) rfl rfl (okI (hx_1 (by omega) (by omega))) <| oR 1 rfl <| rE 23 ?_
      refine ⟨(k + 1, true), fun i => match i with | 6 => 18 | i => i, Weak.of_lists (fun i => match i with | 6 => 18 | i => i) ⟨⟨rfl, rfl⟩, ⟨rfl, rfl⟩, ⟨rfl, rfl⟩, ⟨(show AV.osl 18 0 (1) false = AV.osl 18 0 (hexT 2 w (k + 1)).length false from by rw [← (show [(hexD (((w / 2 ^ (4 * (1 - k))) % 16)))] = hexT 2 w (k + 1) from (by rw [← (hexT_next 2 w k), hNk]; rfl))]; first | done | rfl | (congr 1 <;> (first | exact omT | simp))), rfl⟩, trivial⟩ ⟨⟨rfl, (congrArg (fun z : List UInt8 => some (Blk.arr (z.map row8) 1)) (show [(hexD (((w / 2 ^ (4 * (1 - k))) % 16)))] = hexT 2 w (k + 1) from (by rw [← (hexT_next 2 w k), hNk]; rfl))), rfl⟩, trivial⟩ rfl, by omega, by show 2 - (k + 1) < 2 - k; omega⟩
    · have h1p := of_decide_eq_false h1
      refine cExit <| cSeq <| cReg rfl <| oR 1 rfl <| rStr ([]) (d := 25) rfl rfl rfl (trivial) (rfl) <| oR 1 rfl <| rE 12 <| cRet ?_
      exact absurd (by have q := congrArg List.length hNk; rw [hexT_len] at q; exact q : k = 0) (by omega)
  · have hk_ := hk
    have hnn : k ≤ 2 := hk_
    have hkB : k ≤ 1000000 := by omega
    have habk : (hexT 2 w k).length ≤ 900000 := (by rw [hexT_len]; omega)
    refine cSeq <| cSeq <| cReg rfl <| oR 1 rfl <| rOk (x := vB (decide (k < 1 + 1))) rfl rfl (okBo hx_c) <| rE 9 ?_
    refine cCond rfl (fun h2 => ?_) (fun h2 => ?_)
    · have h2p := of_decide_eq_true h2
      refine cSkip <| cSeq <| cBlock <| cReg rfl <| oR 3 rfl <| rOk (x := vN (4 * (1 - k))) rfl rfl (okI (hx_4 (by omega) (by omega))) <| rOk (x := .v (.int .u64 ((4 * (1 - k) : Nat) : Int))) rfl rfl (okI (modI (show 4 * (1 - k) ≤ 4 by omega) rfl)) ?_
      have b3 : w / 2 ^ (4 * (1 - k)) ≤ 4294967295 := Nat.le_trans (Nat.div_le_self _ _) hw
      refine rNeed (x := vU (w / 2 ^ (4 * (1 - k)))) rfl rfl (needI (shrI32 (4 * (1 - k)) hw rfl)) (Int.natCast_nonneg _) ?_
      have b4 : (w / 2 ^ (4 * (1 - k))) % 16 ≤ 15 := Nat.le_of_lt_succ (Nat.mod_lt _ (by decide))
      refine rNeed (x := vU ((w / 2 ^ (4 * (1 - k))) % 16)) rfl rfl rfl (by decide) <| rNeed (x := .v (.int .u8 (((hexD (((w / 2 ^ (4 * (1 - k))) % 16))).toNat : Nat) : Int))) rfl rfl (needI (hx_at (by omega))) (⟨Int.natCast_nonneg _, Int.ofNat_lt.2 (by show (((w / 2 ^ (4 * (1 - k))) % 16)) < 16; omega)⟩) <| rOk (x := .sl 1 ([[.v (.int .u8 (((hexD (((w / 2 ^ (4 * (1 - k))) % 16))).toNat : Nat) : Int))]]) true) rfl rfl rfl <| rFx (x := .osl 18 0 ((hexT 2 w k).length + 1) false) (h' := upd (upd _ 6 none) 18 (some (.arr (((hexT 2 w k) ++ ([(hexD (((w / 2 ^ (4 * (1 - k))) % 16)))])).map row8) 1))) rfl rfl (app_own row8 (hexT 2 w k) ([(hexD (((w / 2 ^ (4 * (1 - k))) % 16)))]) omT omT) (⟨by exact omT, by exact omT, trivial⟩) <| oR 1 rfl <| rE 20 <| cReg rfl <| oR 1 rfl <| rOk (x := vI (((1 : Nat) : Int) - ((k + 1 : Nat) : Int))) rfl rfl (okI (hx_1 (by omega) (by omega))) <| oR 1 rfl <| rE 23 ?_
      refine ⟨(k + 1, true), fun i => match i with | 6 => 18 | i => i, Weak.of_lists (fun i => match i with | 6 => 18 | i => i) ⟨⟨rfl, rfl⟩, ⟨rfl, rfl⟩, ⟨rfl, rfl⟩, ⟨(show AV.osl 18 0 ((hexT 2 w k).length + 1) false = AV.osl 18 0 (hexT 2 w (k + 1)).length false from by rw [← (show (hexT 2 w k) ++ ([(hexD (((w / 2 ^ (4 * (1 - k))) % 16)))]) = hexT 2 w (k + 1) from hexT_next 2 w k)]; first | done | rfl | (congr 1 <;> (first | exact omT | simp))), rfl⟩, trivial⟩ ⟨⟨rfl, (congrArg (fun z : List UInt8 => some (Blk.arr (z.map row8) 1)) (show (hexT 2 w k) ++ ([(hexD (((w / 2 ^ (4 * (1 - k))) % 16)))]) = hexT 2 w (k + 1) from hexT_next 2 w k)), rfl⟩, trivial⟩ rfl, by omega, by show 2 - (k + 1) < 2 - k; omega⟩
    · have h2p := of_decide_eq_false h2
      refine cExit <| cSeq <| cReg rfl <| oR 1 rfl <| rStr (hexT 2 w k) (d := 25) rfl rfl rfl ((by show 0 + (hexT 2 w k).length ≤ ((hexT 2 w k).map row8).length; rw [List.length_map]; omega)) (rows8 rfl) <| oR 1 rfl <| rE 12 <| cRet ?_
      have hk8 : k = 2 := by omega
      subst hk8
      exact finTA rfl trivial rfl (congrArg vS (digH_eq 2 w).symm)
abbrev planL (p : ScPlan) (a b c : Bool) : List AV := [vI p.mode, vI p.width, vI p.rob, vI p.queue, vI p.stores, vI p.slots, vI p.sets, vI p.ways, .sl 1 (p.lat.map rowI) a, vB p.tables, .sl 1 (p.tape.map rowU) b, .sl 1 (p.prog.map rowU) c, vS p.mem, vI p.cycles]
structure ScPlan.ok (p : ScPlan) : Prop where
  lat : p.lat.length ≤ 900000
  tape : p.tape.length ≤ 900000
  tp : ∀ x ∈ p.tape, x ≤ 4294967295
  prog : p.prog.length ≤ 900000
  pr : ∀ x ∈ p.prog, x ≤ 4294967295
  mem : p.mem.length ≤ 900000
def cntL (p : ScPlan) : Nat → Int
  | 0 => p.mode
  | 1 => p.width
  | 2 => p.rob
  | 3 => p.queue
  | 4 => p.stores
  | 5 => p.slots
  | 6 => p.sets
  | 7 => p.ways
  | 13 => p.cycles
  | _ => 0
theorem eCount (p : ScPlan) (a b c : Bool) (k : Nat) (hk : k < 14) : DCall C0 56 [.agg (planL p a b c), vN k] (vI (cntL p k)) := by
  refine DCall.intro c0Ok Tryd.func56 rfl rfl (by kernel_rfl) rfl <| cSeq <| cReg rfl <| rAl 0 rfl rfl <| oR 1 rfl <| rE 2 <| cSeq <| cReg rfl <| oR 2 rfl <| rAl 4 rfl rfl <| rSt rfl <| rE 6 <| cSeq <| cReg rfl <| oR 18 rfl <| rOk (x := .sl 1 ([[vI p.mode], [vI p.width], [vI p.rob], [vI p.queue], [vI p.stores], [vI p.slots], [vI p.sets], [vI p.ways], [vI 0], [vI 0], [vI 0], [vI 0], [vI 0], [vI p.cycles]]) true) rfl rfl rfl ?_
  refine oR 1 rfl ?_
  have hn_ : ([[vI p.mode], [vI p.width], [vI p.rob], [vI p.queue], [vI p.stores], [vI p.slots], [vI p.sets], [vI p.ways], [vI 0], [vI 0], [vI 0], [vI 0], [vI 0], [vI p.cycles]])[k]? = some (rowI (cntL p k)) := by rcases k with _ | _ | _ | _ | _ | _ | _ | _ | _ | _ | _ | _ | _ | _ | k <;> first | rfl | omega
  refine rIdx (rowI (cntL p k)) (x := .dp 1 0 (rowI (cntL p k))) rfl rfl rfl (⟨Int.natCast_nonneg _, hn_⟩) rfl <| oR 2 rfl <| rE 29 <| cRet ?_
  exact finTA rfl trivial rfl rfl
def tailT {α : Type} (f : α → List UInt8) (l : List α) (j : Nat) : List UInt8 := (l.take j).flatMap fun n => 32 :: f n
theorem tailT_next {α : Type} {f : α → List UInt8} {l : List α} {j : Nat} {x : α} (h : l[j]? = some x) (A : List UInt8) : A ++ tailT f l j ++ [32] ++ f x = A ++ tailT f l (j + 1) := by
  unfold tailT; rw [List.take_add_one, h]; simp
theorem tailT_len {α : Type} {f : α → List UInt8} {l : List α} (hf : ∀ x ∈ l, (f x).length ≤ 9) : ∀ j, (tailT f l j).length ≤ 10 * j
  | 0 => by show 0 ≤ _; omega
  | j + 1 => by
    have ih := tailT_len hf j
    cases h : l[j]? with
    | none => have e : tailT f l (j + 1) = tailT f l j := by unfold tailT; rw [List.take_add_one, h]; simp
              rw [e]; omega
    | some x =>
      have e := congrArg List.length (tailT_next (f := f) h [])
      have := hf x (List.mem_of_getElem? h)
      simp only [List.nil_append, List.length_append, List.length_cons, List.length_nil] at e
      omega
theorem tailT_end {α : Type} {f : α → List UInt8} {l : List α} {j : Nat} (h : l.length ≤ j) : tailT f l j = tailT f l l.length := by unfold tailT; rw [List.take_of_length_le h, List.take_length]
theorem hexL_app (a b : List UInt8) : hexL (a ++ b) = hexL a ++ hexL b := by unfold hexL; rw [List.flatMap_append]
theorem hexL_len (m : List UInt8) : ∀ j, (hexL (m.take j)).length ≤ 2 * j
  | 0 => by show 0 ≤ _; omega
  | j + 1 => by
    have ih := hexL_len m j
    rw [List.take_add_one, hexL_app, List.length_append]
    cases m[j]? with
    | none => show _ + 0 ≤ _; omega
    | some x => show _ + 2 ≤ _; omega
theorem dig2 (x : UInt8) : digH x.toNat 2 = hexL [x] := by
  have := UInt8.toNat_lt x
  show [] ++ [hexD (x.toNat / 16 % 16)] ++ [hexD (x.toNat % 16)] = [hexD (x.toNat / 16), hexD (x.toNat % 16)]
  rw [Nat.mod_eq_of_lt (by omega : x.toNat / 16 < 16)]; rfl
theorem hexL_next {m : List UInt8} {j : Nat} (h : j < m.length) (A : List UInt8) : A ++ hexL (m.take j) ++ digH (m.getD j 0).toNat 2 = A ++ hexL (m.take (j + 1)) := by
  rw [dig2, List.take_add_one, List.getElem?_eq_getElem h, hexL_app, List.getD_eq_getElem?_getD, List.getElem?_eq_getElem h, List.append_assoc]; rfl
theorem join_tail {α : Type} (f : α → List UInt8) (w : List UInt8) : ∀ (l : List α), joinL 32 (w :: l.map f) = w ++ tailT f l l.length := by
  intro l
  unfold tailT
  rw [List.take_length]
  induction l generalizing w with
  | nil => show w = w ++ []; simp
  | cons x l ih => show w ++ 32 :: joinL 32 (f x :: l.map f) = _; rw [ih]; simp
theorem mode_len (a : Int) : (modeW a).length ≤ 6 := by unfold modeW; split <;> (try split) <;> decide
theorem tailT_0 {α : Type} (f : α → List UInt8) (l : List α) (A : List UInt8) : A = A ++ tailT f l 0 := (List.append_nil A).symm
theorem hexL_0 (m : List UInt8) (A : List UInt8) : A = A ++ hexL (m.take 0) := (List.append_nil A).symm
theorem itoa_len {a : Int} (h : 0 ≤ a) (h2 : a ≤ 600) : (itoa a).length ≤ 9 := by rw [itoa_of h]; exact dig_len (by omega)
theorem name_len : ∀ k, k < 14 → (nameL k).length ≤ 6 := by decide +kernel
theorem cnt_ok {okM : List UInt8 → Prop} {p : ScPlan} (hR : RightL okM p) {k : Nat} (hk : k < 14) : 0 ≤ cntL p k ∧ cntL p k ≤ 600 := by
  have h := hR k
  rcases k with _ | _ | _ | _ | _ | _ | _ | _ | _ | _ | _ | _ | _ | _ | k
  all_goals first | (exfalso; omega) | (simp only [OkL] at h; simp only [cntL]; omega)
attribute [local irreducible] digH hexL
theorem eLine {okM : List UInt8 → Prop} (p : ScPlan) (a b c : Bool) (k : Nat) (hk : k < 14) (hp : p.ok) (hR : RightL okM p) (hI : ∀ n : Int, 0 ≤ n → n ≤ 600 → DCall C0 54 [vI n] (vS (itoa n))) : DCall C0 30 [.agg (planL p a b c), vN k] (vS (LineL p k)) := by
  refine DCall.intro c0Ok Tryd.func30 rfl rfl (by kernel_rfl) rfl ?_
  have hfl : ∀ x ∈ p.lat, (itoa x).length ≤ 9 := fun x hx => by have := (hR 9).2 x hx; exact itoa_len (by omega) (by omega)
  have b1_ := hp.lat
  have b2_ := hp.tape
  have b3_ := hp.prog
  have b4_ := hp.mem
  have h1_ := name_len k hk
  have h2_ := mode_len p.mode
  have h3_ : (itoa (cntL p k)).length ≤ 9 := itoa_len (cnt_ok hR hk).1 (cnt_ok hR hk).2
  refine cSeq <| cReg rfl <| rAl 0 rfl rfl <| oR 1 rfl <| rE 2 <| cSeq <| cReg rfl <| oR 1 rfl <| rCl rfl (.inl rfl) (eName k hk) <| oR 1 rfl <| rE 5 <| cSeq <| cSeq <| cReg rfl <| oR 1 rfl <| rE 6 ?_
  refine cBlock <| cSeq <| cReg rfl <| rOk (x := vB (k == 0)) rfl rfl (okB (eqN _ _)) <| oR 1 rfl <| rE 8 ?_
  refine cCond rfl (fun h1 => ?_) (fun h1 => ?_)
  · have h1p := beq_t h1
    refine cSeq <| cReg rfl <| oR 1 rfl <| rNeed (x := vS ((nameL k) ++ ([32]))) rfl rfl (needSt (cat_sB (nameL k) ([32]))) (by show (((nameL k).length + ([32]).length : Nat) : Int) ≤ 9223372036854775807; (simp only [List.length_append, List.length_cons, List.length_nil, digH_len]; first | omega | (have := hfl _ (List.mem_of_getElem? hx); omega))) <| oR 3 rfl <| rCl rfl (.inl rfl) (eMode p.mode) <| rNeed (x := vS (((nameL k) ++ ([32])) ++ (modeW p.mode))) rfl rfl (needSt (cat_sB ((nameL k) ++ ([32])) (modeW p.mode))) (by show ((((nameL k) ++ ([32])).length + (modeW p.mode).length : Nat) : Int) ≤ 9223372036854775807; (simp only [List.length_append, List.length_cons, List.length_nil, digH_len]; first | omega | (have := hfl _ (List.mem_of_getElem? hx); omega))) <| oR 1 rfl <| rE 16 <| cRet ?_
    have ek := beq_t h1
    subst ek
    exact finTA rfl trivial rfl (congrArg vS (by show nameL 0 ++ [32] ++ modeW p.mode = nameL 0 ++ 32 :: modeW p.mode; simp))
  · have h1p := beq_f h1
    refine cSeq <| cReg rfl <| rOk (x := vB (k == 8)) rfl rfl (okB (eqN _ _)) <| oR 1 rfl <| rE 10 ?_
    refine cCond rfl (fun h2 => ?_) (fun h2 => ?_)
    · have h2p := beq_t h2
      refine cSeq <| cSeq <| cReg rfl <| oR 3 rfl <| rE 13 ?_
      refine cCond rfl (fun h3 => ?_) (fun h3 => ?_)
      · refine cSeq <| cReg rfl <| oR 1 rfl <| rNeed (x := vS ((nameL k) ++ ([32, 116, 97, 98, 108, 101, 115]))) rfl rfl (needSt (cat_sB (nameL k) ([32, 116, 97, 98, 108, 101, 115]))) (by show (((nameL k).length + ([32, 116, 97, 98, 108, 101, 115]).length : Nat) : Int) ≤ 9223372036854775807; (simp only [List.length_append, List.length_cons, List.length_nil, digH_len]; first | omega | (have := hfl _ (List.mem_of_getElem? hx); omega))) <| oR 1 rfl <| rE 16 <| cRet ?_
        have ek := beq_t h2
        subst ek
        have ht := h3
        exact finTA rfl trivial rfl (congrArg vS (by show _ = nameL 8 ++ 32 :: tableW p.tables; rw [ht]; rfl))
      · refine cSkip <| cSeq <| cReg rfl <| oR 1 rfl <| rNeed (x := vS ((nameL k) ++ ([32, 116, 97, 112, 101]))) rfl rfl (needSt (cat_sB (nameL k) ([32, 116, 97, 112, 101]))) (by show (((nameL k).length + ([32, 116, 97, 112, 101]).length : Nat) : Int) ≤ 9223372036854775807; (simp only [List.length_append, List.length_cons, List.length_nil, digH_len]; first | omega | (have := hfl _ (List.mem_of_getElem? hx); omega))) <| oR 1 rfl <| rE 16 <| cRet ?_
        have ek := beq_t h2
        subst ek
        have ht := h3
        exact finTA rfl trivial rfl (congrArg vS (by show _ = nameL 8 ++ 32 :: tableW p.tables; rw [ht]; rfl))
    · have h2p := beq_f h2
      refine cSeq <| cReg rfl <| rOk (x := vB (k == 9)) rfl rfl (okB (eqN _ _)) <| oR 1 rfl <| rE 12 ?_
      refine cCond rfl (fun h4 => ?_) (fun h4 => ?_)
      · have h4p := beq_t h4
        refine cSeq <| cSeq <| cReg rfl <| oR 3 rfl <| rOk (x := vN p.lat.length) rfl rfl (lenMap rowI p.lat) <| oR 1 rfl <| rE 17 <| cBlock <| cLoop (κ := Nat) (fun j => ⟨slotsF [(1, vN k), (2, .ptr 0 0), (4, .v (.string (⟨#[]⟩ : ByteArray))), (15, vN k), (16, vB (k == 0)), (25, vB (k == 8)), (34, vB (k == 9)), (38, .sl 1 (p.lat.map rowI) a), (39, vN p.lat.length), (5, vS (nameL k ++ tailT (itoa) p.lat j)), (40, vN j)], heapF [(0, .box [vI p.mode, vI p.width, vI p.rob, vI p.queue, vI p.stores, vI p.slots, vI p.sets, vI p.ways, .sl 1 (p.lat.map rowI) a, vB p.tables, .sl 1 (p.tape.map rowU) b, .sl 1 (p.prog.map rowU) c, vS p.mem, vI p.cycles])], 17⟩) (fun j => j ≤ p.lat.length) (fun j => p.lat.length - j) 0 (fun s => s) (Weak.of_lists (fun s => s) ⟨⟨rfl, rfl⟩, ⟨rfl, rfl⟩, ⟨rfl, rfl⟩, ⟨rfl, rfl⟩, ⟨rfl, rfl⟩, ⟨rfl, rfl⟩, ⟨rfl, rfl⟩, ⟨rfl, rfl⟩, ⟨rfl, rfl⟩, ⟨(congrArg vS (tailT_0 _ _ _)), rfl⟩, ⟨rfl, rfl⟩, trivial⟩ wH rfl) (Nat.zero_le _) ?_
        intro j hj
        have hjn : j ≤ p.lat.length := hj
        have hjB : j ≤ 900000 := by omega
        have hlj : (tailT (itoa) p.lat j).length ≤ 10 * j := tailT_len (by first | exact hfl | exact fun x _ => by rw [digH_len]; omega) j
        refine cSeq <| cReg rfl <| rOk (x := vB (decide (j < p.lat.length))) rfl rfl (okB (ltN _ _)) <| rE 18 <| cSeq ?_
        refine cCond rfl (fun h5 => ?_) (fun h5 => ?_)
        · have h5p := of_decide_eq_true h5
          refine cSkip <| cSeq <| cBlock <| cSeq <| cReg rfl ?_
          obtain ⟨x, hx⟩ : ∃ y_, p.lat[j]? = some y_ := ⟨_, List.getElem?_eq_getElem omT⟩
          refine rIdx (rowI x) (x := .dp 1 0 (rowI x)) rfl rfl rfl (⟨Int.natCast_nonneg _, getM hx⟩) rfl <| oR 2 rfl <| rE 21 <| cReg rfl <| oR 1 rfl <| rNeed (x := vS ((nameL k ++ tailT (itoa) p.lat j) ++ ([32]))) rfl rfl (needSt (cat_sB (nameL k ++ tailT (itoa) p.lat j) ([32]))) (by show (((nameL k ++ tailT (itoa) p.lat j).length + ([32]).length : Nat) : Int) ≤ 9223372036854775807; (simp only [List.length_append, List.length_cons, List.length_nil, digH_len]; first | omega | (have := hfl _ (List.mem_of_getElem? hx); omega))) <| oR 1 rfl <| rCl rfl (.inl rfl) (hI x (by have := (hR 9).2 x (List.mem_of_getElem? hx); omega) (by have := (hR 9).2 x (List.mem_of_getElem? hx); omega)) <| rNeed (x := vS (((nameL k ++ tailT (itoa) p.lat j) ++ ([32])) ++ (itoa x))) rfl rfl (needSt (cat_sB ((nameL k ++ tailT (itoa) p.lat j) ++ ([32])) (itoa x))) (by show ((((nameL k ++ tailT (itoa) p.lat j) ++ ([32])).length + (itoa x).length : Nat) : Int) ≤ 9223372036854775807; (simp only [List.length_append, List.length_cons, List.length_nil, digH_len]; first | omega | (have := hfl _ (List.mem_of_getElem? hx); omega))) <| oR 1 rfl <| rE 27 <| cReg rfl ?_
          have b1 : j + 1 ≤ 900001 := Nat.add_le_add hjB (Nat.le_refl 1)
          refine rOk (x := vN (j + 1)) rfl rfl (okI (wrapI64 b1 rfl)) <| oR 1 rfl <| rE 29 ?_
          refine ⟨j + 1, fun s => s, Weak.of_lists (fun s => s) ⟨⟨rfl, rfl⟩, ⟨rfl, rfl⟩, ⟨rfl, rfl⟩, ⟨rfl, rfl⟩, ⟨rfl, rfl⟩, ⟨rfl, rfl⟩, ⟨rfl, rfl⟩, ⟨rfl, rfl⟩, ⟨rfl, rfl⟩, ⟨(congrArg vS (tailT_next (f := itoa) hx (nameL k))), rfl⟩, ⟨rfl, rfl⟩, trivial⟩ wH rfl, by omega, by show p.lat.length - (j + 1) < p.lat.length - j; omega⟩
        · have h5p := of_decide_eq_false h5
          refine cExit <| cSeq <| cReg rfl <| oR 2 rfl <| rE 20 <| cRet ?_
          have ek := beq_t h4
          subst ek
          have hj := of_decide_eq_false h5
          exact finTA rfl trivial rfl (congrArg vS (by show _ = joinL 32 (nameL 9 :: p.lat.map itoa); rw [join_tail, tailT_end (by omega)]))
      · have h4p := beq_f h4
        refine cSeq <| cReg rfl <| rOk (x := vB (k == 10)) rfl rfl (okB (eqN _ _)) <| oR 1 rfl <| rE 14 ?_
        refine cCond rfl (fun h6 => ?_) (fun h6 => ?_)
        · have h6p := beq_t h6
          refine cSeq <| cSeq <| cReg rfl <| oR 3 rfl <| rOk (x := vN p.tape.length) rfl rfl (lenMap rowU p.tape) <| oR 1 rfl <| rE 19 <| cBlock <| cLoop (κ := Nat) (fun j => ⟨slotsF [(1, vN k), (2, .ptr 0 0), (4, .v (.string (⟨#[]⟩ : ByteArray))), (15, vN k), (16, vB (k == 0)), (25, vB (k == 8)), (34, vB (k == 9)), (51, vB (k == 10)), (55, .sl 1 (p.tape.map rowU) b), (56, vN p.tape.length), (5, vS (nameL k ++ tailT (fun w => digH w 8) p.tape j)), (57, vN j)], heapF [(0, .box [vI p.mode, vI p.width, vI p.rob, vI p.queue, vI p.stores, vI p.slots, vI p.sets, vI p.ways, .sl 1 (p.lat.map rowI) a, vB p.tables, .sl 1 (p.tape.map rowU) b, .sl 1 (p.prog.map rowU) c, vS p.mem, vI p.cycles])], 19⟩) (fun j => j ≤ p.tape.length) (fun j => p.tape.length - j) 0 (fun s => s) (Weak.of_lists (fun s => s) ⟨⟨rfl, rfl⟩, ⟨rfl, rfl⟩, ⟨rfl, rfl⟩, ⟨rfl, rfl⟩, ⟨rfl, rfl⟩, ⟨rfl, rfl⟩, ⟨rfl, rfl⟩, ⟨rfl, rfl⟩, ⟨rfl, rfl⟩, ⟨rfl, rfl⟩, ⟨(congrArg vS (tailT_0 _ _ _)), rfl⟩, ⟨rfl, rfl⟩, trivial⟩ wH rfl) (Nat.zero_le _) ?_
          intro j hj
          have hjn : j ≤ p.tape.length := hj
          have hjB : j ≤ 900000 := by omega
          have hlj : (tailT (fun w => digH w 8) p.tape j).length ≤ 10 * j := tailT_len (by first | exact hfl | exact fun x _ => by rw [digH_len]; omega) j
          refine cSeq <| cReg rfl <| rOk (x := vB (decide (j < p.tape.length))) rfl rfl (okB (ltN _ _)) <| rE 20 <| cSeq ?_
          refine cCond rfl (fun h7 => ?_) (fun h7 => ?_)
          · have h7p := of_decide_eq_true h7
            refine cSkip <| cSeq <| cBlock <| cSeq <| cReg rfl ?_
            obtain ⟨y, hy⟩ : ∃ y_, p.tape[j]? = some y_ := ⟨_, List.getElem?_eq_getElem omT⟩
            have hyo := hp.tp y (List.mem_of_getElem? hy)
            refine rIdx (rowU y) (x := .dp 1 0 (rowU y)) rfl rfl rfl (⟨Int.natCast_nonneg _, getM hy⟩) rfl <| oR 2 rfl <| rE 23 <| cReg rfl <| oR 1 rfl <| rNeed (x := vS ((nameL k ++ tailT (fun w => digH w 8) p.tape j) ++ ([32]))) rfl rfl (needSt (cat_sB (nameL k ++ tailT (fun w => digH w 8) p.tape j) ([32]))) (by show (((nameL k ++ tailT (fun w => digH w 8) p.tape j).length + ([32]).length : Nat) : Int) ≤ 9223372036854775807; (simp only [List.length_append, List.length_cons, List.length_nil, digH_len]; first | omega | (have := hfl _ (List.mem_of_getElem? hx); omega))) <| oR 1 rfl <| rCl rfl (.inl rfl) (eHex8 y (by omega)) <| rNeed (x := vS (((nameL k ++ tailT (fun w => digH w 8) p.tape j) ++ ([32])) ++ (digH y 8))) rfl rfl (needSt (cat_sB ((nameL k ++ tailT (fun w => digH w 8) p.tape j) ++ ([32])) (digH y 8))) (by show ((((nameL k ++ tailT (fun w => digH w 8) p.tape j) ++ ([32])).length + (digH y 8).length : Nat) : Int) ≤ 9223372036854775807; (simp only [List.length_append, List.length_cons, List.length_nil, digH_len]; first | omega | (have := hfl _ (List.mem_of_getElem? hx); omega))) <| oR 1 rfl <| rE 29 <| cReg rfl ?_
            have b2 : j + 1 ≤ 900001 := Nat.add_le_add hjB (Nat.le_refl 1)
            refine rOk (x := vN (j + 1)) rfl rfl (okI (wrapI64 b2 rfl)) <| oR 1 rfl <| rE 31 ?_
            refine ⟨j + 1, fun s => s, Weak.of_lists (fun s => s) ⟨⟨rfl, rfl⟩, ⟨rfl, rfl⟩, ⟨rfl, rfl⟩, ⟨rfl, rfl⟩, ⟨rfl, rfl⟩, ⟨rfl, rfl⟩, ⟨rfl, rfl⟩, ⟨rfl, rfl⟩, ⟨rfl, rfl⟩, ⟨rfl, rfl⟩, ⟨(congrArg vS (tailT_next (f := fun w => digH w 8) hy (nameL k))), rfl⟩, ⟨rfl, rfl⟩, trivial⟩ wH rfl, by omega, by show p.tape.length - (j + 1) < p.tape.length - j; omega⟩
          · have h7p := of_decide_eq_false h7
            refine cExit <| cSeq <| cReg rfl <| oR 2 rfl <| rE 22 <| cRet ?_
            have ek := beq_t h6
            subst ek
            have hj := of_decide_eq_false h7
            exact finTA rfl trivial rfl (congrArg vS (by show _ = joinL 32 (nameL 10 :: p.tape.map (fun w => digH w 8)); rw [join_tail, tailT_end (by omega)]))
        · have h6p := beq_f h6
          refine cSeq <| cReg rfl <| rOk (x := vB (k == 11)) rfl rfl (okB (eqN _ _)) <| oR 1 rfl <| rE 16 ?_
          refine cCond rfl (fun h8 => ?_) (fun h8 => ?_)
          · have h8p := beq_t h8
            refine cSeq <| cSeq <| cReg rfl <| oR 2 rfl <| rOk (x := vN p.prog.length) rfl rfl (lenMap rowU p.prog) <| oR 1 rfl <| rE 20 <| cBlock <| cLoop (κ := Nat) (fun j => ⟨slotsF [(1, vN k), (2, .ptr 0 0), (4, .v (.string (⟨#[]⟩ : ByteArray))), (15, vN k), (16, vB (k == 0)), (25, vB (k == 8)), (34, vB (k == 9)), (51, vB (k == 10)), (68, vB (k == 11)), (71, .sl 1 (p.prog.map rowU) c), (72, vN p.prog.length), (5, vS (nameL k ++ tailT (fun w => digH w 8) p.prog j)), (73, vN j)], heapF [(0, .box [vI p.mode, vI p.width, vI p.rob, vI p.queue, vI p.stores, vI p.slots, vI p.sets, vI p.ways, .sl 1 (p.lat.map rowI) a, vB p.tables, .sl 1 (p.tape.map rowU) b, .sl 1 (p.prog.map rowU) c, vS p.mem, vI p.cycles])], 20⟩) (fun j => j ≤ p.prog.length) (fun j => p.prog.length - j) 0 (fun s => s) (Weak.of_lists (fun s => s) ⟨⟨rfl, rfl⟩, ⟨rfl, rfl⟩, ⟨rfl, rfl⟩, ⟨rfl, rfl⟩, ⟨rfl, rfl⟩, ⟨rfl, rfl⟩, ⟨rfl, rfl⟩, ⟨rfl, rfl⟩, ⟨rfl, rfl⟩, ⟨rfl, rfl⟩, ⟨rfl, rfl⟩, ⟨(congrArg vS (tailT_0 _ _ _)), rfl⟩, ⟨rfl, rfl⟩, trivial⟩ wH rfl) (Nat.zero_le _) ?_
            intro j hj
            have hjn : j ≤ p.prog.length := hj
            have hjB : j ≤ 900000 := by omega
            have hlj : (tailT (fun w => digH w 8) p.prog j).length ≤ 10 * j := tailT_len (by first | exact hfl | exact fun x _ => by rw [digH_len]; omega) j
            refine cSeq <| cReg rfl <| rOk (x := vB (decide (j < p.prog.length))) rfl rfl (okB (ltN _ _)) <| rE 21 <| cSeq ?_
            refine cCond rfl (fun h9 => ?_) (fun h9 => ?_)
            · have h9p := of_decide_eq_true h9
              refine cSkip <| cSeq <| cBlock <| cSeq <| cReg rfl ?_
              obtain ⟨z, hz⟩ : ∃ y_, p.prog[j]? = some y_ := ⟨_, List.getElem?_eq_getElem omT⟩
              have hzo := hp.pr z (List.mem_of_getElem? hz)
              refine rIdx (rowU z) (x := .dp 1 0 (rowU z)) rfl rfl rfl (⟨Int.natCast_nonneg _, getM hz⟩) rfl <| oR 2 rfl <| rE 24 <| cReg rfl <| oR 1 rfl <| rNeed (x := vS ((nameL k ++ tailT (fun w => digH w 8) p.prog j) ++ ([32]))) rfl rfl (needSt (cat_sB (nameL k ++ tailT (fun w => digH w 8) p.prog j) ([32]))) (by show (((nameL k ++ tailT (fun w => digH w 8) p.prog j).length + ([32]).length : Nat) : Int) ≤ 9223372036854775807; (simp only [List.length_append, List.length_cons, List.length_nil, digH_len]; first | omega | (have := hfl _ (List.mem_of_getElem? hx); omega))) <| oR 1 rfl <| rCl rfl (.inl rfl) (eHex8 z (by omega)) <| rNeed (x := vS (((nameL k ++ tailT (fun w => digH w 8) p.prog j) ++ ([32])) ++ (digH z 8))) rfl rfl (needSt (cat_sB ((nameL k ++ tailT (fun w => digH w 8) p.prog j) ++ ([32])) (digH z 8))) (by show ((((nameL k ++ tailT (fun w => digH w 8) p.prog j) ++ ([32])).length + (digH z 8).length : Nat) : Int) ≤ 9223372036854775807; (simp only [List.length_append, List.length_cons, List.length_nil, digH_len]; first | omega | (have := hfl _ (List.mem_of_getElem? hx); omega))) <| oR 1 rfl <| rE 30 <| cReg rfl ?_
              have b3 : j + 1 ≤ 900001 := Nat.add_le_add hjB (Nat.le_refl 1)
              refine rOk (x := vN (j + 1)) rfl rfl (okI (wrapI64 b3 rfl)) <| oR 1 rfl <| rE 32 ?_
              refine ⟨j + 1, fun s => s, Weak.of_lists (fun s => s) ⟨⟨rfl, rfl⟩, ⟨rfl, rfl⟩, ⟨rfl, rfl⟩, ⟨rfl, rfl⟩, ⟨rfl, rfl⟩, ⟨rfl, rfl⟩, ⟨rfl, rfl⟩, ⟨rfl, rfl⟩, ⟨rfl, rfl⟩, ⟨rfl, rfl⟩, ⟨rfl, rfl⟩, ⟨(congrArg vS (tailT_next (f := fun w => digH w 8) hz (nameL k))), rfl⟩, ⟨rfl, rfl⟩, trivial⟩ wH rfl, by omega, by show p.prog.length - (j + 1) < p.prog.length - j; omega⟩
            · have h9p := of_decide_eq_false h9
              refine cExit <| cSeq <| cReg rfl <| oR 2 rfl <| rE 23 <| cRet ?_
              have ek := beq_t h8
              subst ek
              have hj := of_decide_eq_false h9
              exact finTA rfl trivial rfl (congrArg vS (by show _ = joinL 32 (nameL 11 :: p.prog.map (fun w => digH w 8)); rw [join_tail, tailT_end (by omega)]))
          · have h8p := beq_f h8
            refine cSeq <| cReg rfl <| rOk (x := vB (k == 12)) rfl rfl (okB (eqN _ _)) <| oR 1 rfl <| rE 18 ?_
            refine cCond rfl (fun h10 => ?_) (fun h10 => ?_)
            · have h10p := beq_t h10
              refine cSeq <| cReg rfl <| oR 1 rfl <| rNeed (x := vS ((nameL k) ++ ([32]))) rfl rfl (needSt (cat_sB (nameL k) ([32]))) (by show (((nameL k).length + ([32]).length : Nat) : Int) ≤ 9223372036854775807; (simp only [List.length_append, List.length_cons, List.length_nil, digH_len]; first | omega | (have := hfl _ (List.mem_of_getElem? hx); omega))) <| oR 1 rfl <| rE 21 <| cSeq <| cSeq <| cReg rfl <| oR 1 rfl <| rE 22 <| cBlock <| cLoop (κ := Nat) (fun j => ⟨slotsF [(1, vN k), (2, .ptr 0 0), (4, .v (.string (⟨#[]⟩ : ByteArray))), (16, vB (k == 0)), (25, vB (k == 8)), (34, vB (k == 9)), (51, vB (k == 10)), (68, vB (k == 11)), (84, vB (k == 12)), (5, vS (nameL k ++ [32] ++ hexL (p.mem.take j))), (12, vN j)], heapF [(0, .box [vI p.mode, vI p.width, vI p.rob, vI p.queue, vI p.stores, vI p.slots, vI p.sets, vI p.ways, .sl 1 (p.lat.map rowI) a, vB p.tables, .sl 1 (p.tape.map rowU) b, .sl 1 (p.prog.map rowU) c, vS p.mem, vI p.cycles])], 22⟩) (fun j => j ≤ p.mem.length) (fun j => p.mem.length - j) 0 (fun s => s) (Weak.of_lists (fun s => s) ⟨⟨rfl, rfl⟩, ⟨rfl, rfl⟩, ⟨rfl, rfl⟩, ⟨rfl, rfl⟩, ⟨rfl, rfl⟩, ⟨rfl, rfl⟩, ⟨rfl, rfl⟩, ⟨rfl, rfl⟩, ⟨rfl, rfl⟩, ⟨(congrArg vS (hexL_0 _ _)), rfl⟩, ⟨rfl, rfl⟩, trivial⟩ wH rfl) (Nat.zero_le _) ?_
              intro j hj
              have hjn : j ≤ p.mem.length := hj
              have hjB : j ≤ 900000 := by omega
              have hlj : (hexL (p.mem.take j)).length ≤ 2 * j := hexL_len _ _
              refine cSeq <| cSeq <| cReg rfl <| oR 3 rfl <| rOk (x := vN p.mem.length) rfl rfl rfl <| rOk (x := vB (decide (j < p.mem.length))) rfl rfl (okB (ltN _ _)) <| rE 27 ?_
              refine cCond rfl (fun h11 => ?_) (fun h11 => ?_)
              · have h11p := of_decide_eq_true h11
                refine cSkip <| cSeq <| cBlock <| cReg rfl <| oR 4 rfl <| rNeed (x := .v (.int .u8 (((p.mem.getD j 0).toNat : Nat) : Int))) rfl rfl rfl (⟨Int.natCast_nonneg _, Int.ofNat_lt.2 (by show j < p.mem.length; omega)⟩) <| rOk (x := vU ((p.mem.getD j 0).toNat)) rfl rfl (okI (modI (u8_le _) rfl)) <| rCl rfl (.inl rfl) (eHex2 ((p.mem.getD j 0).toNat) (Nat.le_trans (u8_le _) (by decide))) <| rNeed (x := vS ((nameL k ++ [32] ++ hexL (p.mem.take j)) ++ (digH ((p.mem.getD j 0).toNat) 2))) rfl rfl (needSt (cat_sB (nameL k ++ [32] ++ hexL (p.mem.take j)) (digH ((p.mem.getD j 0).toNat) 2))) (by show (((nameL k ++ [32] ++ hexL (p.mem.take j)).length + (digH ((p.mem.getD j 0).toNat) 2).length : Nat) : Int) ≤ 9223372036854775807; (simp only [List.length_append, List.length_cons, List.length_nil, digH_len]; first | omega | (have := hfl _ (List.mem_of_getElem? hx); omega))) <| oR 1 rfl <| rE 36 <| cReg rfl <| oR 1 rfl ?_
                have b4 : j + 1 ≤ 900001 := Nat.add_le_add hjB (Nat.le_refl 1)
                refine rOk (x := vN (j + 1)) rfl rfl (okI (wrapI64 b4 rfl)) <| oR 1 rfl <| rE 39 ?_
                refine ⟨j + 1, fun s => s, Weak.of_lists (fun s => s) ⟨⟨rfl, rfl⟩, ⟨rfl, rfl⟩, ⟨rfl, rfl⟩, ⟨rfl, rfl⟩, ⟨rfl, rfl⟩, ⟨rfl, rfl⟩, ⟨rfl, rfl⟩, ⟨rfl, rfl⟩, ⟨rfl, rfl⟩, ⟨(congrArg vS (hexL_next (by omega) _)), rfl⟩, ⟨rfl, rfl⟩, trivial⟩ wH rfl, by omega, by show p.mem.length - (j + 1) < p.mem.length - j; omega⟩
              · have h11p := of_decide_eq_false h11
                refine cExit <| cSeq <| cReg rfl <| oR 2 rfl <| rE 29 <| cRet ?_
                have ek := beq_t h10
                subst ek
                have hj := of_decide_eq_false h11
                exact finTA rfl trivial rfl (congrArg vS (by show _ = nameL 12 ++ 32 :: hexL p.mem; rw [List.take_of_length_le (by omega)]; simp))
            · have h10p := beq_f h10
              refine cSkip <| cSeq <| cReg rfl <| oR 1 rfl <| rNeed (x := vS ((nameL k) ++ ([32]))) rfl rfl (needSt (cat_sB (nameL k) ([32]))) (by show (((nameL k).length + ([32]).length : Nat) : Int) ≤ 9223372036854775807; (simp only [List.length_append, List.length_cons, List.length_nil, digH_len]; first | omega | (have := hfl _ (List.mem_of_getElem? hx); omega))) <| oR 2 rfl <| rCl rfl (.inl rfl) (eCount p a b c k hk) <| rCl rfl (.inl rfl) (hI _ (cnt_ok hR hk).1 (cnt_ok hR hk).2) <| rNeed (x := vS (((nameL k) ++ ([32])) ++ (itoa (cntL p k)))) rfl rfl (needSt (cat_sB ((nameL k) ++ ([32])) (itoa (cntL p k)))) (by show ((((nameL k) ++ ([32])).length + (itoa (cntL p k)).length : Nat) : Int) ≤ 9223372036854775807; (simp only [List.length_append, List.length_cons, List.length_nil, digH_len]; first | omega | (have := hfl _ (List.mem_of_getElem? hx); omega))) <| oR 1 rfl <| rE 26 <| cRet ?_
              have e0 := beq_f h1; have e1 := beq_f h2; have e2 := beq_f h4; have e3 := beq_f h6; have e4 := beq_f h8; have e5 := beq_f h10
              refine finTA rfl trivial rfl (congrArg vS ?_)
              rcases k with _ | _ | _ | _ | _ | _ | _ | _ | _ | _ | _ | _ | _ | _ | k
              all_goals first | (exfalso; omega) | (simp [LineL, joinL, writtenL, cntL]; done)
theorem line_len {okM : List UInt8 → Prop} {p : ScPlan} (hp : p.ok) (hR : RightL okM p) {k : Nat} (hk : k < 14) : (LineL p k).length ≤ 9000020 := by
  have h1 := name_len k hk
  have hi : (itoa (cntL p k)).length ≤ 9 := itoa_len (cnt_ok hR hk).1 (cnt_ok hR hk).2
  have two : ∀ a b : List UInt8, (joinL 32 [a, b]).length = a.length + 1 + b.length := fun a b => by show (a ++ 32 :: b).length = _; rw [List.length_append, List.length_cons]; omega
  have h9 : (joinL 32 (nameL 9 :: p.lat.map itoa)).length ≤ 9000020 := by
    rw [join_tail, List.length_append]
    have := tailT_len (f := itoa) (l := p.lat) (fun x hx => by have := (hR 9).2 x hx; exact itoa_len (by omega) (by omega)) p.lat.length
    have := name_len 9 (by decide); have := hp.lat; omega
  have hd : ∀ (l : List Nat) (w : List UInt8), l.length ≤ 900000 → w.length ≤ 6 → (joinL 32 (w :: l.map fun a => digH a 8)).length ≤ 9000020 := fun l w hl hw => by
    rw [join_tail, List.length_append]
    have := tailT_len (f := fun a => digH a 8) (l := l) (fun x _ => by rw [digH_len]; omega) l.length
    omega
  have hm : (hexL p.mem).length ≤ 1800000 := by
    have := hexL_len p.mem p.mem.length
    rw [List.take_length] at this
    have := hp.mem; omega
  have ht : (tableW p.tables).length ≤ 6 := by cases p.tables <;> decide
  have ho := mode_len p.mode
  have q1 : (joinL 32 [nameL k, itoa (cntL p k)]).length ≤ 9000020 := by rw [two]; omega
  have q2 : (joinL 32 [nameL k, modeW p.mode]).length ≤ 9000020 := by rw [two]; omega
  have q3 : (joinL 32 [nameL k, tableW p.tables]).length ≤ 9000020 := by rw [two]; omega
  have q4 : (joinL 32 [nameL k, hexL p.mem]).length ≤ 9000020 := by rw [two]; omega
  rcases k with _ | _ | _ | _ | _ | _ | _ | _ | _ | _ | _ | _ | _ | _ | k
  · exact q2
  · exact q1
  · exact q1
  · exact q1
  · exact q1
  · exact q1
  · exact q1
  · exact q1
  · exact q3
  · exact h9
  · exact hd p.tape (nameL 10) hp.tape h1
  · exact hd p.prog (nameL 11) hp.prog h1
  · exact q4
  · exact q1
  · exfalso; omega
theorem text_len {okM : List UInt8 → Prop} {p : ScPlan} (hp : p.ok) (hR : RightL okM p) : ∀ {k : Nat}, k ≤ 14 → (textTo p k).length ≤ 9000021 * k
  | 0, _ => Nat.zero_le _
  | k + 1, h => by
    have ih := text_len hp hR (k := k) (by omega)
    have := line_len hp hR (k := k) (by omega)
    show (textTo p k ++ (LineL p k ++ [10])).length ≤ _
    rw [List.length_append, List.length_append, List.length_singleton]; omega
theorem text_next (p : ScPlan) (k : Nat) : textTo p k ++ LineL p k ++ [10] = textTo p (k + 1) := by show _ = textTo p k ++ (LineL p k ++ [10]); rw [List.append_assoc]
theorem eText {okM : List UInt8 → Prop} (p : ScPlan) (a b c : Bool) (hp : p.ok) (hR : RightL okM p) (hI : ∀ n : Int, 0 ≤ n → n ≤ 600 → DCall C0 54 [vI n] (vS (itoa n))) : DCall C0 15 [.agg (planL p a b c)] (vS (textTo p 14)) := by
  refine DCall.intro c0Ok Tryd.func15 rfl rfl (by kernel_rfl) rfl <| cSeq <| cReg rfl <| rAl 0 rfl rfl <| oR 1 rfl <| rE 2 <| cSeq <| cReg rfl <| oR 1 rfl <| rE 3 <| cSeq <| cSeq <| cReg rfl <| oR 1 rfl <| rE 4 <| cBlock ?_
  refine cLoop (κ := Nat) (fun k => ⟨slotsF [(1, .ptr 0 0), (2, .v (.string (⟨#[]⟩ : ByteArray))), (3, vS (textTo p k)), (4, vN k)], heapF [(0, .box [vI p.mode, vI p.width, vI p.rob, vI p.queue, vI p.stores, vI p.slots, vI p.sets, vI p.ways, .sl 1 (p.lat.map rowI) a, vB p.tables, .sl 1 (p.tape.map rowU) b, .sl 1 (p.prog.map rowU) c, vS p.mem, vI p.cycles])], 4⟩) (fun k => k ≤ 14) (fun k => 14 - k) 0 (fun s => s) (Weak.of_lists (fun s => s) wT wH rfl) (Nat.zero_le _) ?_
  intro k hk
  have hkn : k ≤ 14 := hk
  have hkB : k ≤ 14 := by omega
  refine cSeq <| cSeq <| cReg rfl <| oR 1 rfl <| rOk (x := vB (decide (k < 14))) rfl rfl (okB (ltN _ _)) <| rE 6 ?_
  refine cCond rfl (fun h1 => ?_) (fun h1 => ?_)
  · have h1p := of_decide_eq_true h1
    refine cSkip <| cSeq <| cBlock <| cReg rfl <| oR 3 rfl <| rCl rfl (.inl rfl) (eLine p a b c k (by omega) hp hR hI) <| rNeed (x := vS ((textTo p k) ++ (LineL p k))) rfl rfl (needSt (cat_sB (textTo p k) (LineL p k))) (by show (((textTo p k).length + (LineL p k).length : Nat) : Int) ≤ 9223372036854775807; ((try simp only [List.length_append, List.length_cons, List.length_nil]); have := text_len hp hR (k := k) (by omega); have := line_len hp hR (k := k) (by omega); omega)) <| rNeed (x := vS (((textTo p k) ++ (LineL p k)) ++ ([10]))) rfl rfl (needSt (cat_sB ((textTo p k) ++ (LineL p k)) ([10]))) (by show ((((textTo p k) ++ (LineL p k)).length + ([10]).length : Nat) : Int) ≤ 9223372036854775807; ((try simp only [List.length_append, List.length_cons, List.length_nil]); have := text_len hp hR (k := k) (by omega); have := line_len hp hR (k := k) (by omega); omega)) <| oR 1 rfl <| rE 13 <| cReg rfl <| oR 1 rfl ?_
    have b1 : k + 1 ≤ 15 := Nat.add_le_add hkB (Nat.le_refl 1)
    refine rOk (x := vN (k + 1)) rfl rfl (okI (wrapI64 b1 rfl)) <| oR 1 rfl <| rE 16 ?_
    refine ⟨k + 1, fun s => s, Weak.of_lists (fun s => s) ⟨⟨rfl, rfl⟩, ⟨rfl, rfl⟩, ⟨(congrArg vS (text_next p k)), rfl⟩, ⟨rfl, rfl⟩, trivial⟩ wH rfl, by omega, by show 14 - (k + 1) < 14 - k; omega⟩
  · have h1p := of_decide_eq_false h1
    refine cExit <| cSeq <| cReg rfl <| oR 2 rfl <| rE 8 <| cRet ?_
    have hk14 : k = 14 := by have := h1; simp at this; omega
    subst hk14
    exact finTA rfl trivial rfl rfl
