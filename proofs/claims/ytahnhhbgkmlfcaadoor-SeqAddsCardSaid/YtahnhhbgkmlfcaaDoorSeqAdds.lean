/- SeqAdds: a program of additions to one register runs to its end: its sum, its place, its halt and its number of events: for every list of words; no conditions. -/
import Derived.Test.YtahnhhbgkmlfcaaDoorCodes
import Derived.Test.YtahnhhbgkmlfcaaDoorAddsW
namespace Go.Proofs.YtahnhhbgkmlfcaaDoor
open Go.RowKit Go.ChangeShapes Go.WideShapes Go.ChangeAt

set_option maxRecDepth 100000 in
theorem seqAdds_lifted (os : Os) (started : os.Started) (H : Type) (enc : TypeId × Value → H) :
    ReturnsInHanded {} Tryd.checked os 7 .any (fun w args => (Rows.seqAddsSpec.pre enc Tryd.prog Tryd.f7 [] false w args ∧ laidMetH Tryd.prog laid0 w) ∧ sizedMet enc Tryd.prog Tryd.f7 (OpenSpec.ofChange Rows.seqAddsSpec) false w args)
      (Rows.seqAddsSpec.post enc Tryd.prog Tryd.f7 false true false false) := by
  refine returnsInHanded_of_change_and (C := Tryd.checked) (X := fun w _ => laidMetH Tryd.prog laid0 w) (fun _ _ _ hh h => h.of_heap hh) ownK started (by kernel_rfl) Tryd.func7
    (ChangeSpec.witness_shaped (enc := enc) (C := Tryd.checked) (os := os) (X := fun w _ => laidMetH Tryd.prog laid0 w) false (World.doorLaid Tryd.prog 400 os) #[.slice none 0 0] 8 rfl (World.shaped_of_RefB (by kernel_rfl) (by kernel_rfl)) (by kernel_rfl) (by kernel_rfl) (by kernel_rfl) (door_met os _)) ?_
  intro W base args ds gs before hval0 hW _ _ hL _
  have hval : ∀ (j : Nat) t v, Tryd.f7.params[j]? = some t → args[j]? = some v → Value.okWide Tryd.prog W .any base t v := hval0
  have hW' := hW
  obtain ⟨p, q, hA0, hV, rfl, hfz, hnd⟩ := hW
  have hA : DataW.TrodAll enc Tryd.prog W 0 (fun _ => true) true Tryd.f7.params.toList args.toList ds p := hA0
  have hA1 := hA
  rw [Tryd.params7] at hA hval
  obtain ⟨v0, vs0, d0, ds0, p0, q0, hargs, rfl, rfl, h0, r0⟩ := trodAll_cons hA
  obtain ⟨rfl, rfl, rfl⟩ := trodAll_nil r0
  obtain rfl : args = #[v0] := by cases args; simp_all
  obtain ⟨rfl, rfl⟩ := trodVars_none hV
  obtain ⟨l0, hb0, hl0, rp0⟩ := open_u32s (hval 0 _ v0 rfl rfl) h0
  have hC := codes_of_laid hL
  refine ((dSeqAdds l0 hb0 hl0).law hC (RepL.cons rp0 (RepL.nil _ _ _))).mono fun e W' ⟨he, hb⟩ => ?_
  subst he
  exact ⟨_, rfl, law_post laidOutK (by kernel_rfl) hW' hA1 rfl rfl rfl rfl (by kernel_rfl) Tryd.underlying4 rfl rfl rfl hb⟩

theorem seqAdds_row : Rows.SeqAddsSaid :=
  OpenClaim.holds_of_wide 7 Tryd.f7 rfl rfl rfl rfl rfl rfl rfl ⟨rfl, rfl, rfl, rfl, rfl⟩ rfl rfl rfl rfl rfl (by kernel_rfl) Tryd.func7 (by kernel_rfl)
    (of_decide_eq_true (by kernel_rfl)) (by unfold Func.isWrapper; first | (rw [if_pos (by decide +kernel)]; kernel_rfl) | (rw [if_neg (by decide +kernel)]; exact ⟨rfl, rfl⟩))
    (fun os started H enc _ => seqAdds_lifted os started H enc)

theorem seqAdds_holds : Rows.SeqAddsCardSaid :=
  Claim7.holds_tied_plain_at .later [] [.data] true (true, "ffdcf19602f668422a4ca1f4c1ec0ab5c67e1113dd95f34fe321f26fd3b4bd40") false
    seqAdds_row (fun _ h => by cases h) (by kernel_rfl) (fun _ h => by cases h) seqAdds_row_tie rfl ⟨rfl, rfl⟩ (by kernel_rfl) rfl
    (fun f fn hf hfn => by
      obtain rfl : f = 7 := Option.some.inj ((show Tryd.prog.funcNamed "auspex/auspexlaw06.SeqAdds" = some 7 by kernel_rfl).symm.trans hf) |>.symm
      obtain rfl : fn = Tryd.f7 := (Option.some.inj (Tryd.func7.symm.trans hfn)).symm
      exact ⟨by kernel_rfl, fun j t ht => by
        have h3 : (Tryd.f7.params.toList.all fun t => Tryd.prog.wantsStandIn t == false) = true := by kernel_rfl
        have h4 := List.all_eq_true.1 h3 t (Array.mem_toList_iff.2 (Array.mem_of_getElem? ht))
        exact beq_iff_eq.1 h4⟩)
    (by kernel_rfl)
#print axioms seqAdds_holds
end Go.Proofs.YtahnhhbgkmlfcaaDoor
