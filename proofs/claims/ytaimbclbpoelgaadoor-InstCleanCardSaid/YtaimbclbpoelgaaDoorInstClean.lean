/- InstClean: what a word tells of an instruction is clean -/
import Derived.Test.YtaimbclbpoelgaaDoorCodes
import Derived.Test.YtaimbclbpoelgaaDoorLaw02C
namespace Go.Proofs.YtaimbclbpoelgaaDoor
open Go.RowKit Go.ChangeShapes Go.WideShapes Go.ChangeAt

set_option maxRecDepth 100000 in
theorem instClean_lifted (os : Os) (started : os.Started) (H : Type) (enc : TypeId × Value → H) :
    ReturnsInHanded {} Tryd.checked os 9 .any (fun w args => (Rows.instCleanSpec.pre enc Tryd.prog Tryd.f9 [] false w args ∧ laidMetH Tryd.prog laid0 w) ∧ sizedMet enc Tryd.prog Tryd.f9 (OpenSpec.ofChange Rows.instCleanSpec) false w args)
      (Rows.instCleanSpec.post enc Tryd.prog Tryd.f9 false true false false) := by
  refine returnsInHanded_of_change_and (C := Tryd.checked) (X := fun w _ => laidMetH Tryd.prog laid0 w) (fun _ _ _ hh h => h.of_heap hh) ownK started (by kernel_rfl) Tryd.func9
    (ChangeSpec.witness_shaped (enc := enc) (C := Tryd.checked) (os := os) (X := fun w _ => laidMetH Tryd.prog laid0 w) false (World.doorLaid Tryd.prog 400 os) #[.int .u32 0] 8 rfl (World.shaped_of_RefB (by kernel_rfl) (by kernel_rfl)) (by kernel_rfl) (by kernel_rfl) (by kernel_rfl) (door_met os _)) ?_
  intro W base args ds gs before hval0 hW _ _ hL _
  have hval : ∀ (j : Nat) t v, Tryd.f9.params[j]? = some t → args[j]? = some v → Value.okWide Tryd.prog W .any base t v := hval0
  have hW' := hW
  obtain ⟨p, q, hA0, hV, rfl, hfz, hnd⟩ := hW
  have hA : DataW.TrodAll enc Tryd.prog W 0 (fun _ => true) true Tryd.f9.params.toList args.toList ds p := hA0
  have hA1 := hA
  rw [Tryd.params9] at hA hval
  obtain ⟨v0, vs0, d0, ds0, p0, q0, hargs, rfl, rfl, h0, r0⟩ := trodAll_cons hA
  obtain ⟨rfl, rfl, rfl⟩ := trodAll_nil r0
  obtain rfl : args = #[v0] := by cases args; simp_all
  obtain ⟨rfl, rfl⟩ := trodVars_none hV
  obtain ⟨a0, rfl, rfl, rfl, w0⟩ := open_int Tryd.underlying22 (hval 0 _ v0 rfl rfl) h0
  obtain ⟨x0, rfl, hx0⟩ := u32_nat w0
  have hC := codes_of_laid hL
  refine (clean_walk x0 W hC hx0).mono fun e W' ⟨he, hb⟩ => ?_
  subst he
  exact ⟨_, rfl, law_post laidOutK (by kernel_rfl) hW' hA1 rfl rfl rfl rfl (by kernel_rfl) Tryd.underlying4 rfl rfl rfl hb⟩

theorem instClean_row : Rows.InstCleanSaid :=
  OpenClaim.holds_of_wide 9 Tryd.f9 rfl rfl rfl rfl rfl rfl rfl ⟨rfl, rfl, rfl, rfl, rfl⟩ rfl rfl rfl rfl rfl (by kernel_rfl) Tryd.func9 (by kernel_rfl)
    (of_decide_eq_true (by kernel_rfl)) (by unfold Func.isWrapper; first | (rw [if_pos (by decide +kernel)]; kernel_rfl) | (rw [if_neg (by decide +kernel)]; exact ⟨rfl, rfl⟩))
    (fun os started H enc _ => instClean_lifted os started H enc)

theorem instClean_holds : Rows.InstCleanCardSaid :=
  Claim7.holds_tied_plain_at .later [] [.data] true (true, "5d3f654d333997ff8c06aff37d1a3c2a6929897307425be37710963327a1d4f7") false
    instClean_row (fun _ h => by cases h) (by kernel_rfl) (fun _ h => by cases h) instClean_row_tie rfl ⟨rfl, rfl⟩ (by kernel_rfl) rfl
    (fun f fn hf hfn => by
      obtain rfl : f = 9 := Option.some.inj ((show Tryd.prog.funcNamed "auspex/auspexlaw02.InstClean" = some 9 by kernel_rfl).symm.trans hf) |>.symm
      obtain rfl : fn = Tryd.f9 := (Option.some.inj (Tryd.func9.symm.trans hfn)).symm
      exact ⟨by kernel_rfl, fun j t ht => by
        have h3 : (Tryd.f9.params.toList.all fun t => Tryd.prog.wantsStandIn t == false) = true := by kernel_rfl
        have h4 := List.all_eq_true.1 h3 t (Array.mem_toList_iff.2 (Array.mem_of_getElem? ht))
        exact beq_iff_eq.1 h4⟩)
    (by kernel_rfl)
#print axioms instClean_holds
end Go.Proofs.YtaimbclbpoelgaaDoor
