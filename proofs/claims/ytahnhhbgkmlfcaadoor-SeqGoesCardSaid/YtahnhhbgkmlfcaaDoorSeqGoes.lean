/- SeqGoes: a run goes on where it was left: so many steps and so many more are one run; only the last step tells a halt; register 0 and the size of the memory stay: for every program, memory and numbers; no conditions. -/
import Derived.Test.YtahnhhbgkmlfcaaDoorCodes
import Derived.Test.YtahnhhbgkmlfcaaDoorGoesW
namespace Go.Proofs.YtahnhhbgkmlfcaaDoor
open Go.RowKit Go.ChangeShapes Go.WideShapes Go.ChangeAt

set_option maxRecDepth 100000 in
theorem seqGoes_lifted (os : Os) (started : os.Started) (H : Type) (enc : TypeId × Value → H) :
    ReturnsInHanded {} Tryd.checked os 4 .any (fun w args => (Rows.seqGoesSpec.pre enc Tryd.prog Tryd.f4 [] false w args ∧ laidMetH Tryd.prog laid0 w) ∧ sizedMet enc Tryd.prog Tryd.f4 (OpenSpec.ofChange Rows.seqGoesSpec) false w args)
      (Rows.seqGoesSpec.post enc Tryd.prog Tryd.f4 false true false false) := by
  refine returnsInHanded_of_change_and (C := Tryd.checked) (X := fun w _ => laidMetH Tryd.prog laid0 w) (fun _ _ _ hh h => h.of_heap hh) ownK started (by kernel_rfl) Tryd.func4
    (ChangeSpec.witness_shaped (enc := enc) (C := Tryd.checked) (os := os) (X := fun w _ => laidMetH Tryd.prog laid0 w) false (World.doorLaid Tryd.prog 400 os) #[.slice none 0 0, .string ⟨#[]⟩, .int .i64 0, .int .i64 0] 8 rfl (World.shaped_of_RefB (by kernel_rfl) (by kernel_rfl)) (by kernel_rfl) (by kernel_rfl) (by kernel_rfl) (door_met os _)) ?_
  intro W base args ds gs before hval0 hW _ _ hL _
  have hval : ∀ (j : Nat) t v, Tryd.f4.params[j]? = some t → args[j]? = some v → Value.okWide Tryd.prog W .any base t v := hval0
  have hW' := hW
  obtain ⟨p, q, hA0, hV, rfl, hfz, hnd⟩ := hW
  have hA : DataW.TrodAll enc Tryd.prog W 0 (fun _ => true) true Tryd.f4.params.toList args.toList ds p := hA0
  have hA1 := hA
  rw [Tryd.params4] at hA hval
  obtain ⟨v0, vs0, d0, ds0, p0, q0, hargs, rfl, rfl, h0, r0⟩ := trodAll_cons hA
  obtain ⟨v1, vs1, d1, ds1, p1, q1, rfl, rfl, rfl, h1, r1⟩ := trodAll_cons r0
  obtain ⟨v2, vs2, d2, ds2, p2, q2, rfl, rfl, rfl, h2, r2⟩ := trodAll_cons r1
  obtain ⟨v3, vs3, d3, ds3, p3, q3, rfl, rfl, rfl, h3, r3⟩ := trodAll_cons r2
  obtain ⟨rfl, rfl, rfl⟩ := trodAll_nil r3
  obtain rfl : args = #[v0, v1, v2, v3] := by cases args; simp_all
  obtain ⟨rfl, rfl⟩ := trodVars_none hV
  obtain ⟨l0, hb0, hl0, rp0⟩ := open_u32s (hval 0 _ v0 rfl rfl) h0
  obtain ⟨a1, rfl, w1⟩ := open_str Tryd.underlying9 (hval 1 _ v1 rfl rfl)
  obtain ⟨a2, rfl, rfl, rfl, w2⟩ := open_int Tryd.underlying3 (hval 2 _ v2 rfl rfl) h2
  obtain ⟨a3, rfl, rfl, rfl, w3⟩ := open_int Tryd.underlying3 (hval 3 _ v3 rfl rfl) h3
  have hC := codes_of_laid hL
  refine ((dSeqGoes l0 a1 a2 a3 hb0 hl0 w1).law hC (RepL.cons rp0 (RepL.cons (.v _) (RepL.cons (.v _) (RepL.cons (.v _) (RepL.nil _ _ _)))))).mono fun e W' ⟨he, hb⟩ => ?_
  subst he
  exact ⟨_, rfl, law_post laidOutK (by kernel_rfl) hW' hA1 rfl rfl rfl rfl (by kernel_rfl) Tryd.underlying4 rfl rfl rfl hb⟩

theorem seqGoes_row : Rows.SeqGoesSaid :=
  OpenClaim.holds_of_wide 4 Tryd.f4 rfl rfl rfl rfl rfl rfl rfl ⟨rfl, rfl, rfl, rfl, rfl⟩ rfl rfl rfl rfl rfl (by kernel_rfl) Tryd.func4 (by kernel_rfl)
    (of_decide_eq_true (by kernel_rfl)) (by unfold Func.isWrapper; first | (rw [if_pos (by decide +kernel)]; kernel_rfl) | (rw [if_neg (by decide +kernel)]; exact ⟨rfl, rfl⟩))
    (fun os started H enc _ => seqGoes_lifted os started H enc)

theorem seqGoes_holds : Rows.SeqGoesCardSaid :=
  Claim7.holds_tied_plain_at .later [] [.data] true (true, "ffdcf19602f668422a4ca1f4c1ec0ab5c67e1113dd95f34fe321f26fd3b4bd40") false
    seqGoes_row (fun _ h => by cases h) (by kernel_rfl) (fun _ h => by cases h) seqGoes_row_tie rfl ⟨rfl, rfl⟩ (by kernel_rfl) rfl
    (fun f fn hf hfn => by
      obtain rfl : f = 4 := Option.some.inj ((show Tryd.prog.funcNamed "auspex/auspexlaw06.SeqGoes" = some 4 by kernel_rfl).symm.trans hf) |>.symm
      obtain rfl : fn = Tryd.f4 := (Option.some.inj (Tryd.func4.symm.trans hfn)).symm
      exact ⟨by kernel_rfl, fun j t ht => by
        have h3 : (Tryd.f4.params.toList.all fun t => Tryd.prog.wantsStandIn t == false) = true := by kernel_rfl
        have h4 := List.all_eq_true.1 h3 t (Array.mem_toList_iff.2 (Array.mem_of_getElem? ht))
        exact beq_iff_eq.1 h4⟩)
    (by kernel_rfl)
#print axioms seqGoes_holds
end Go.Proofs.YtahnhhbgkmlfcaaDoor
