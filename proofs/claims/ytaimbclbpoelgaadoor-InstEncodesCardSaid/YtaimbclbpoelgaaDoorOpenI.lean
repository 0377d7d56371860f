/- An argument that is an instruction. -/
import Derived.Test.YtaimbclbpoelgaaDoorCodes
import Derived.Deep.Strs
namespace Go.Proofs.YtaimbclbpoelgaaDoor
open Go.RowKit Go.ChangeShapes Go.WideShapes Go.ChangeAt Go.Deep

section
variable {H : Type} {enc : TypeId × Value → H} {P : Program} {w : World} {base : Nat} {spare : Nat → Bool} {held : Bool}
theorem fields_one {e : TypeId} {fs : Array Field} {n : Nat} {vs : List Value} {y : DataW H × List MemPlace} (he : P.underlying e = some (.struct fs)) (hone : oneCellFields P fs = true) (hC : P.cellsOf e = fs.size)
    (h : DataW.trod enc P w base spare held n e vs = some y) : ∃ n', vs.length = fs.size ∧ ∀ (j : Nat) (f : Field), fs[j]? = some f → ∃ v y, vs[j]? = some v ∧ DataW.trod enc P w base spare held n' f.type [v] = some y := by
  obtain ⟨ys, n', -, -, hlen, hyl, hfd⟩ := DataW.trod_struct he h
  have hcl : vs.length = fs.size := by omega
  refine ⟨n', hcl, fun j f hj => ?_⟩
  obtain ⟨ho, hk⟩ := hone_of hone j f hj
  have hjl : j < fs.size := (Array.getElem?_eq_some_iff.1 hj).1
  have h1 := hfd j f hj
  rw [ho, hk] at h1
  have hdr : (vs.drop j).take 1 = [vs[j]'(by omega)] := by rw [List.drop_eq_getElem_cons (by omega)]; rfl
  rw [hdr] at h1
  exact ⟨vs[j]'(by omega), ys[j]'(by omega), List.getElem?_eq_getElem (by omega), h1.trans (List.getElem?_eq_getElem (by omega))⟩
end

theorem open_inst {H : Type} {enc : TypeId × Value → H} {w : World} {base : Nat} {spare : Nat → Bool} {held : Bool} {r : Reach} {b0 : Nat} {v : Value} {d : DataW H} {p : List MemPlace}
    (hv : Value.okWide Tryd.prog w r b0 24 v) (h : DataW.Trod enc Tryd.prog w base spare held 24 v d p) :
    ∃ (op rd rs1 rs2 : Int) (imm : Nat), v = .agg #[.int .i64 op, .int .i64 rd, .int .i64 rs1, .int .i64 rs2, .int .u32 imm] ∧ imm < 4294967296 := by
  obtain ⟨cs, rfl, hsz⟩ := okWide_struct Tryd.underlying24 hv
  obtain ⟨fuel, hf⟩ := h
  obtain ⟨n', hl, hfd⟩ := fields_one Tryd.underlying24 (by kernel_rfl) (by kernel_rfl) hf
  obtain ⟨l⟩ := cs
  replace hl : l.length = 5 := hl
  match l, hl with
  | [v0, v1, v2, v3, v4], _ =>
    obtain ⟨_, y0, e0, t0⟩ := hfd 0 _ rfl
    obtain ⟨_, y1, e1, t1⟩ := hfd 1 _ rfl
    obtain ⟨_, y2, e2, t2⟩ := hfd 2 _ rfl
    obtain ⟨_, y3, e3, t3⟩ := hfd 3 _ rfl
    obtain ⟨_, y4, e4, t4⟩ := hfd 4 _ rfl
    cases e0; cases e1; cases e2; cases e3; cases e4
    obtain ⟨n0, a0, -, -⟩ := DataW.trod_int Tryd.underlying3 t0
    obtain ⟨n1, a1, -, -⟩ := DataW.trod_int Tryd.underlying3 t1
    obtain ⟨n2, a2, -, -⟩ := DataW.trod_int Tryd.underlying3 t2
    obtain ⟨n3, a3, -, -⟩ := DataW.trod_int Tryd.underlying3 t3
    obtain ⟨n4, a4, -, w4⟩ := DataW.trod_int Tryd.underlying22 t4
    cases a0; cases a1; cases a2; cases a3; cases a4
    obtain ⟨m, rfl, hm⟩ := u32_nat w4
    exact ⟨n0, n1, n2, n3, m, rfl, hm⟩
end Go.Proofs.YtaimbclbpoelgaaDoor
