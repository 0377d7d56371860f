
/- An argument that is an entry. -/
import Derived.Test.YtckjihpdjefpgaaExec
import Derived.Test.YtckjihpdjefpgaaRows
import Derived.Deep.Strs
namespace Go.Proofs.Ytckjihpdjefpgaa
open Go.RowKit Go.ChangeShapes Go.WideShapes Go.ChangeAt Go.Deep

theorem u32_nat {n : Int} (h : (Lit.int .u32 n).wf = true) : ∃ m : Nat, n = m ∧ m < 4294967296 := by
  simp only [Lit.wf, IntKind.min, IntKind.max, IntKind.signed, IntKind.bits, Bool.and_eq_true, decide_eq_true_eq] at h
  simp at h
  exact ⟨n.toNat, by omega, by omega⟩
section
variable {H : Type} {enc : TypeId × Value → H} {P : Program} {w : World} {base : Nat} {spare : Nat → Bool} {held : Bool}
/-- A field of a struct, by its offset and size. -/
theorem field_at {e : TypeId} {fs : Array Field} {n : Nat} {vs : List Value} {y : DataW H × List MemPlace} (he : P.underlying e = some (.struct fs))
    (h : DataW.trod enc P w base spare held n e vs = some y) : ∃ n', vs.length = P.cellsOf e ∧ ∀ (j : Nat) (f : Field), fs[j]? = some f → ∀ k, P.cellsOf f.type = k → ∃ y', DataW.trod enc P w base spare held n' f.type ((vs.drop f.offset).take k) = some y' := by
  obtain ⟨ys, n', -, -, hlen, hyl, hfd⟩ := DataW.trod_struct he h
  refine ⟨n', hlen, fun j f hj k hk => ?_⟩
  subst hk
  have hjl : j < fs.size := (Array.getElem?_eq_some_iff.1 hj).1
  have h1 := hfd j f hj
  exact ⟨ys[j]'(by omega), h1.trans (List.getElem?_eq_getElem (by omega))⟩
end

set_option maxRecDepth 100000 in

theorem open_entry {H : Type} {enc : TypeId × Value → H} {w : World} {base : Nat} {spare : Nat → Bool} {held : Bool} {r : Reach} {b0 : Nat} {v : Value} {d : DataW H} {p : List MemPlace}
    (hv : Value.okWide Try.prog w r b0 26 v) (h : DataW.Trod enc Try.prog w base spare held 26 v d p) :
    ∃ e : En, v = .agg #[.int .i64 e.no, .int .u32 e.pc, .int .i64 e.op, .int .i64 e.rd, .int .i64 e.rs1, .int .i64 e.rs2, .int .u32 e.imm, .int .u32 e.guess, .int .i64 e.is, .int .i64 e.left, .int .u32 e.value, .int .u32 e.next, .int .u32 e.addr, .int .i64 e.halt, .int .i64 e.took, .bool e.known, .bool e.filled] ∧ e.pc < 4294967296 ∧ e.imm < 4294967296 := by
  obtain ⟨cs, rfl, hsz⟩ := okWide_struct Try.underlying26 hv
  obtain ⟨fuel, hf⟩ := h
  obtain ⟨n', hl, hfd⟩ := field_at Try.underlying26 hf
  obtain ⟨l⟩ := cs
  replace hl : l.length = 17 := hl.trans (by kernel_rfl)
  match l, hl with
  | [v0, v1, v2, v3, v4, v5, v6, v7, v8, v9, v10, v11, v12, v13, v14, v15, v16], _ =>
    obtain ⟨y0, t0⟩ := hfd 0 _ rfl 1 (by kernel_rfl)
    obtain ⟨y1, t1⟩ := hfd 1 _ rfl 1 (by kernel_rfl)
    obtain ⟨y2, t2⟩ := hfd 2 _ rfl 5 (by kernel_rfl)
    obtain ⟨y3, t3⟩ := hfd 3 _ rfl 1 (by kernel_rfl)
    obtain ⟨y4, t4⟩ := hfd 4 _ rfl 1 (by kernel_rfl)
    obtain ⟨y5, t5⟩ := hfd 5 _ rfl 1 (by kernel_rfl)
    obtain ⟨y6, t6⟩ := hfd 6 _ rfl 1 (by kernel_rfl)
    obtain ⟨y7, t7⟩ := hfd 7 _ rfl 1 (by kernel_rfl)
    obtain ⟨y8, t8⟩ := hfd 8 _ rfl 1 (by kernel_rfl)
    obtain ⟨y9, t9⟩ := hfd 9 _ rfl 1 (by kernel_rfl)
    obtain ⟨y10, t10⟩ := hfd 10 _ rfl 1 (by kernel_rfl)
    obtain ⟨y11, t11⟩ := hfd 11 _ rfl 1 (by kernel_rfl)
    obtain ⟨y12, t12⟩ := hfd 12 _ rfl 1 (by kernel_rfl)
    obtain ⟨n0, a0, -, q0⟩ := DataW.trod_int Try.underlying3 t0
    obtain rfl : v0 = .int .i64 n0 := by simpa [Value.cells] using a0
    obtain ⟨n1, a1, -, q1⟩ := DataW.trod_int Try.underlying22 t1
    obtain rfl : v1 = .int .u32 n1 := by simpa [Value.cells] using a1
    obtain ⟨n3, a3, -, q3⟩ := DataW.trod_int Try.underlying22 t3
    obtain rfl : v7 = .int .u32 n3 := by simpa [Value.cells] using a3
    obtain ⟨n4, a4, -, q4⟩ := DataW.trod_int Try.underlying3 t4
    obtain rfl : v8 = .int .i64 n4 := by simpa [Value.cells] using a4
    obtain ⟨n5, a5, -, q5⟩ := DataW.trod_int Try.underlying3 t5
    obtain rfl : v9 = .int .i64 n5 := by simpa [Value.cells] using a5
    obtain ⟨n6, a6, -, q6⟩ := DataW.trod_int Try.underlying22 t6
    obtain rfl : v10 = .int .u32 n6 := by simpa [Value.cells] using a6
    obtain ⟨n7, a7, -, q7⟩ := DataW.trod_int Try.underlying22 t7
    obtain rfl : v11 = .int .u32 n7 := by simpa [Value.cells] using a7
    obtain ⟨n8, a8, -, q8⟩ := DataW.trod_int Try.underlying22 t8
    obtain rfl : v12 = .int .u32 n8 := by simpa [Value.cells] using a8
    obtain ⟨n9, a9, -, q9⟩ := DataW.trod_int Try.underlying3 t9
    obtain rfl : v13 = .int .i64 n9 := by simpa [Value.cells] using a9
    obtain ⟨n10, a10, -, q10⟩ := DataW.trod_int Try.underlying3 t10
    obtain rfl : v14 = .int .i64 n10 := by simpa [Value.cells] using a10
    obtain ⟨n11, a11, -⟩ := DataW.trod_bool Try.underlying4 t11
    obtain rfl : v15 = .bool n11 := by simpa [Value.cells] using a11
    obtain ⟨n12, a12, -⟩ := DataW.trod_bool Try.underlying4 t12
    obtain rfl : v16 = .bool n12 := by simpa [Value.cells] using a12
    obtain ⟨ni, hli, hfi⟩ := field_at Try.underlying24 t2
    obtain ⟨z0, s0⟩ := hfi 0 _ rfl 1 (by kernel_rfl)
    obtain ⟨m0, b0, -, r0⟩ := DataW.trod_int Try.underlying3 s0
    obtain rfl : v2 = .int .i64 m0 := by simpa [Value.cells] using b0
    obtain ⟨z1, s1⟩ := hfi 1 _ rfl 1 (by kernel_rfl)
    obtain ⟨m1, b1, -, r1⟩ := DataW.trod_int Try.underlying3 s1
    obtain rfl : v3 = .int .i64 m1 := by simpa [Value.cells] using b1
    obtain ⟨z2, s2⟩ := hfi 2 _ rfl 1 (by kernel_rfl)
    obtain ⟨m2, b2, -, r2⟩ := DataW.trod_int Try.underlying3 s2
    obtain rfl : v4 = .int .i64 m2 := by simpa [Value.cells] using b2
    obtain ⟨z3, s3⟩ := hfi 3 _ rfl 1 (by kernel_rfl)
    obtain ⟨m3, b3, -, r3⟩ := DataW.trod_int Try.underlying3 s3
    obtain rfl : v5 = .int .i64 m3 := by simpa [Value.cells] using b3
    obtain ⟨z4, s4⟩ := hfi 4 _ rfl 1 (by kernel_rfl)
    obtain ⟨m4, b4, -, r4⟩ := DataW.trod_int Try.underlying22 s4
    obtain rfl : v6 = .int .u32 m4 := by simpa [Value.cells] using b4
    obtain ⟨pc, rfl, hpc⟩ := u32_nat q1
    obtain ⟨im, rfl, him⟩ := u32_nat r4
    exact ⟨⟨n0, pc, m0, m1, m2, m3, im, n3, n4, n5, n6, n7, n8, n9, n10, n11, n12⟩, rfl, hpc, him⟩
end Go.Proofs.Ytckjihpdjefpgaa
