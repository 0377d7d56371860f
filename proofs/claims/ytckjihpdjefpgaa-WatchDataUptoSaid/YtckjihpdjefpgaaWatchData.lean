/- WatchData: with other bytes in memory, lines and a register any core is seen alike: for every core and byte of bulk at most 1048576; no other condition. -/
import Derived.Test.YtckjihpdjefpgaaLawD
import Derived.Test.YtckjihpdjefpgaaOpenD
import Derived.Test.YtckjihpdjefpgaaRows
namespace Go.Proofs.Ytckjihpdjefpgaa
open Go.RowKit Go.ChangeShapes Go.WideShapes Go.ChangeAt Go.Deep

theorem ownWatchData : ownKnob Try.prog.godebug = none := by kernel_rfl
theorem laidOutWatchData : laidOutB Try.prog = true := by kernel_rfl
set_option maxRecDepth 100000 in
theorem watchData_lifted (os : Os) (started : os.Started) (H : Type) (enc : TypeId × Value → H) (F : Stop.Interp) :
    ReturnsInHanded {} Try.checked os 8 .any ((Rows.OpenSpec.upto Rows.watchDataSpec).pre6 enc Try.prog Try.f8 Rows.watchDataUptoRow.domain false) (((Rows.OpenSpec.upto Rows.watchDataSpec).at F).post enc Try.prog Try.f8 false true false false) := by
  refine returnsInHanded_of_cond (C := Try.checked) (s := Rows.OpenSpec.upto Rows.watchDataSpec) (k := Rows.uptoSmall) rfl ownWatchData started (by kernel_rfl) Try.func8
    (OpenSpec.witness (enc := enc) (C := Try.checked) (s := Rows.OpenSpec.upto Rows.watchDataSpec) (k := Rows.uptoSmall) rfl false ⟨#[], #[.agg #[.int .i64 0, .int .i64 0, .int .i64 0, .int .i64 0, .int .i64 0, .int .i64 0, .int .i64 0, .int .i64 0, .slice none 0 0, .bool false, .slice none 0 0, .slice none 0 0, .int .i64 0, .int .u32 0, .int .u32 0, .int .u32 0, .int .u32 0, .int .u32 0, .int .u32 0, .int .u32 0, .int .u32 0, .int .u32 0, .int .u32 0, .int .u32 0, .int .u32 0, .int .u32 0, .int .u32 0, .int .u32 0, .int .u32 0, .int .u32 0, .int .u32 0, .int .u32 0, .int .u32 0, .int .u32 0, .int .u32 0, .int .u32 0, .int .u32 0, .int .u32 0, .int .u32 0, .int .u32 0, .int .u32 0, .int .u32 0, .int .u32 0, .int .u32 0, .int .u32 0, .int .u32 0, .bool false, .slice none 0 0, .slice none 0 0, .int .i64 0, .slice none 0 0, .int .i64 0, .slice none 0 0, .int .i64 0, .slice none 0 0, .slice none 0 0, .int .i64 0, .int .i64 0, .string ⟨#[]⟩, .slice none 0 0, .int .u32 0, .slice none 0 0, .int .i64 0, .slice none 0 0], .int .u8 0], []⟩ 8 (by kernel_rfl) (by kernel_rfl) (by kernel_rfl)
      (x := ([.agg [.agg [.lit (.int .i64 0), .lit (.int .i64 0), .lit (.int .i64 0), .lit (.int .i64 0), .lit (.int .i64 0), .lit (.int .i64 0), .lit (.int .i64 0), .lit (.int .i64 0), .nil, .lit (.bool false), .nil], .nil, .lit (.int .i64 0), .agg [.lit (.int .u32 0), .lit (.int .u32 0), .lit (.int .u32 0), .lit (.int .u32 0), .lit (.int .u32 0), .lit (.int .u32 0), .lit (.int .u32 0), .lit (.int .u32 0), .lit (.int .u32 0), .lit (.int .u32 0), .lit (.int .u32 0), .lit (.int .u32 0), .lit (.int .u32 0), .lit (.int .u32 0), .lit (.int .u32 0), .lit (.int .u32 0), .lit (.int .u32 0), .lit (.int .u32 0), .lit (.int .u32 0), .lit (.int .u32 0), .lit (.int .u32 0), .lit (.int .u32 0), .lit (.int .u32 0), .lit (.int .u32 0), .lit (.int .u32 0), .lit (.int .u32 0), .lit (.int .u32 0), .lit (.int .u32 0), .lit (.int .u32 0), .lit (.int .u32 0), .lit (.int .u32 0), .lit (.int .u32 0)], .lit (.int .u32 0), .lit (.bool false), .nil, .nil, .lit (.int .i64 0), .nil, .agg [.lit (.int .i64 0), .nil], .agg [.lit (.int .i64 0), .nil], .nil, .lit (.int .i64 0), .lit (.int .i64 0), .lit (.string []), .agg [.nil, .lit (.int .u32 0), .nil], .lit (.int .i64 0), .nil], .lit (.int .u8 0)], [], [])) (by kernel_rfl) rfl (by kernel_rfl)) ?_
  intro W base args ds gs before hval0 hW _ hk _
  have hval : ∀ (j : Nat) t v, Try.f8.params[j]? = some t → args[j]? = some v → Value.okWide Try.prog W .any base t v := hval0
  have hW' := hW
  obtain ⟨p, q, hA0, hV, rfl, hfz, hnd⟩ := hW
  have hA : DataW.TrodAll enc Try.prog W 0 (fun _ => true) true Try.f8.params.toList args.toList ds p := hA0
  have hA1 := hA
  rw [Try.params8] at hA hval
  have hbk0 : Rows.uptoBulkAll (ds ++ gs) ≤ 1048576 := of_decide_eq_true hk
  obtain ⟨v0, vs0, d0, ds0, p0, q0, hargs, rfl, rfl, h0, r0⟩ := trodAll_cons hA
  obtain ⟨v1, vs1, d1, ds1, p1, q1, rfl, rfl, rfl, h1, r1⟩ := trodAll_cons r0
  obtain ⟨rfl, rfl, rfl⟩ := trodAll_nil r1
  obtain rfl : args = #[v0, v1] := by cases args; simp_all
  obtain ⟨rfl, rfl⟩ := trodVars_none hV
  have hbk := hbk0
  obtain ⟨c0, rp0, ⟨cb0, cr0, cd0, cw0, cl0, cm0, cg0⟩, cs0, ct0⟩ := open_core (hval 0 _ v0 rfl rfl) h0 (Nat.le_trans (bulk_part (by simp)) hbk)
  obtain ⟨a1, rfl, rfl, rfl, w1⟩ := open_int Try.underlying5 (hval 1 _ v1 rfl rfl) h1
  obtain ⟨b1, rfl, hb1⟩ : ∃ m : Nat, a1 = m ∧ m ≤ 255 := by
    simp only [Lit.wf, IntKind.min, IntKind.max, IntKind.signed, IntKind.bits, Bool.and_eq_true, decide_eq_true_eq] at w1
    simp at w1
    exact ⟨a1.toNat, by omega, by omega⟩
  refine ((dWatchData c0 b1 ⟨cd0, cw0, cb0, cr0, cl0, cm0⟩ hb1 (cg0 1) (by omega) (fun s hs => Nat.le_trans (ct0 s hs) (by decide))).lawP (RepL.cons rp0 (RepL.cons (.v _) (RepL.nil _ _ _)))).mono fun e W' ⟨he, hb⟩ => ?_
  subst he
  exact ⟨_, rfl, law_post laidOutWatchData (by kernel_rfl) hW' hA1 rfl rfl rfl rfl (by kernel_rfl) Try.underlying4 rfl rfl rfl hb⟩

theorem watchDataUpto_holds : Rows.WatchDataUptoSaid :=
  OpenClaim.holds_of_cond 8 Try.f8 rfl rfl rfl rfl rfl rfl rfl ⟨rfl, rfl, rfl, rfl, rfl⟩ rfl rfl rfl rfl rfl (by kernel_rfl) Try.func8 (by kernel_rfl)
    (of_decide_eq_true (by kernel_rfl)) (by unfold Func.isWrapper; first | (rw [if_pos (by decide +kernel)]; kernel_rfl) | (rw [if_neg (by decide +kernel)]; exact ⟨rfl, rfl⟩))
    (fun os started H enc _ F => watchData_lifted os started H enc F)
#print axioms watchDataUpto_holds
end Go.Proofs.Ytckjihpdjefpgaa
