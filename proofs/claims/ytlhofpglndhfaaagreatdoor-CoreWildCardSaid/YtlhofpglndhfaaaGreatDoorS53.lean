/- CoreWild: whatever core there is, a cycle ends; one that may not be stays as it is, one that may goes on by one cycle: for every core; no conditions. -/
import Derived.Test.YtlhofpglndhfaaaGreatDoorTie
import Derived.Test.YtlhofpglndhfaaaGreatDoorCards
import Derived.Test.YtlhofpglndhfaaaGreatDoorS1
import Derived.Test.YtlhofpglndhfaaaGreatDoorS49
import Derived.Test.YtlhofpglndhfaaaGreatDoorS51
set_option linter.unusedVariables false
set_option linter.unusedSimpArgs false
namespace Go.Proofs.YtlhofpglndhfaaaGreatDoor
open Go.RowKit Go.ChangeShapes Go.WideShapes Go.ChangeAt
set_option maxRecDepth 100000 in
theorem Dq(os:Os)(started:os.Started)(H:Type)(enc:TypeId×Value→H):
  ReturnsInHanded {} Tryz.checked os 7 .any (λ w args=>(Rows.coreWildSpec.pre enc Tryz.prog Tryz.f7 [] false w args∧laidMetH Tryz.prog Dr w)∧sizedMet enc Tryz.prog Tryz.f7 (OpenSpec.ofChange Rows.coreWildSpec) false w args)
   (Rows.coreWildSpec.post enc Tryz.prog Tryz.f7 false true false false):=by
 refine returnsInHanded_of_change_and (C:=Tryz.checked) (X:=λ w _=>laidMetH Tryz.prog Dr w) (λ _ _ _ hh h=>h.of_heap hh) WJ started (by kernel_rfl) Tryz.func7
  (ChangeSpec.witness_shaped (enc:=enc) (C:=Tryz.checked) (os:=os) (X:=λ w _=>laidMetH Tryz.prog Dr w) false (World.doorLaid Tryz.prog 400 os) #[.agg #[.int .i64 0,.int .i64 0,.int .i64 0,.int .i64 0,.int .i64 0,.int .i64 0,.int .i64 0,.int .i64 0,.slice none 0 0,.bool false,.slice none 0 0,.slice none 0 0,.int .i64 0,.int .u32 0,.int .u32 0,.int .u32 0,.int .u32 0,.int .u32 0,.int .u32 0,.int .u32 0,.int .u32 0,.int .u32 0,.int .u32 0,.int .u32 0,.int .u32 0,.int .u32 0,.int .u32 0,.int .u32 0,.int .u32 0,.int .u32 0,.int .u32 0,.int .u32 0,.int .u32 0,.int .u32 0,.int .u32 0,.int .u32 0,.int .u32 0,.int .u32 0,.int .u32 0,.int .u32 0,.int .u32 0,.int .u32 0,.int .u32 0,.int .u32 0,.int .u32 0,.int .u32 0,.bool false,.slice none 0 0,.slice none 0 0,.int .i64 0,.slice none 0 0,.int .i64 0,.slice none 0 0,.int .i64 0,.slice none 0 0,.slice none 0 0,.int .i64 0,.int .i64 0,.string ⟨#[]⟩,.slice none 0 0,.int .u32 0,.slice none 0 0,.int .i64 0,.slice none 0 0]] 8 rfl (World.shaped_of_RefB (by kernel_rfl) (by kernel_rfl)) (by kernel_rfl) (by kernel_rfl) (by kernel_rfl) (Gi os _)) ?_
 intro W base args ds gs before hval0 hW _ _ hL _;have hval:∀ (j:Nat) t v,Tryz.f7.params[j]?=some t→args[j]?=some v→Value.okWide Tryz.prog W .any base t v:=hval0;have hW':=hW;obtain⟨p,q,hA0,hV,rfl,hfz,hnd⟩:=hW;have hA:DataW.TrodAll enc Tryz.prog W 0 (λ _=>true) true Tryz.f7.params.toList args.toList ds p:=hA0;have hA1:=hA;rw[Tryz.params7]at hA hval;obtain⟨v0,vs0,d0,ds0,p0,q0,hargs,rfl,rfl,h0,r0⟩:=trodAll_cons hA;obtain⟨rfl,rfl,rfl⟩:=trodAll_nil r0;obtain rfl:args= #[v0]:=by cases args;simp_all
 obtain⟨rfl,rfl⟩:=trodVars_none hV;obtain⟨c0,rp0,hA0⟩:=PS (hval 0 _ v0 rfl rfl) h0;have hC:=xE hL;refine ((NJ c0 hA0).law hC (RepL.cons rp0 (RepL.nil _ _ _))).mono λ e W' ⟨he,hb⟩=>?_;subst he;exact⟨_,rfl,Gg Gh (by kernel_rfl) hW' hA1 rfl rfl rfl rfl (by kernel_rfl) Tryz.underlying4 rfl rfl rfl hb⟩
set_option maxRecDepth 10000 in
set_option maxHeartbeats 4000000 in
theorem Ez:joinedFacts Tryz.prog 7 Tryz.f7 Rows.coreWildSpec Rows.coreWildRow=true:=by
 unfold joinedFacts;rw[aK];refine⟨?_,by as_aux_lemma=>kernel_rfl⟩
 repeat (rw[aK];refine⟨?_,by as_aux_lemma=>kernel_rfl⟩)
 as_aux_lemma=>kernel_rfl
theorem HL:Rows.CoreWildSaid:=
 OpenClaim.holds_of_wide 7 Tryz.f7 rfl rfl rfl rfl rfl rfl rfl ⟨rfl,rfl,rfl,rfl,rfl⟩ rfl rfl rfl rfl rfl (by kernel_rfl) Tryz.func7 Ez
  (of_decide_eq_true (by kernel_rfl)) (by unfold Func.isWrapper;first|(rw[if_pos (by decide+kernel)];kernel_rfl)|(rw[if_neg (by decide+kernel)];exact⟨rfl,rfl⟩))
  (λ os started H enc _=>Dq os started H enc)
theorem coreWild_holds:Rows.CoreWildCardSaid:=
 Claim7.holds_tied_plain_at .later [] [.data] true (true, "21d9afec82f0bd7b733735d36af2b3dccba2783b529c70502f59daaaa80a9f9a") false
  HL (λ _ h=>by cases h) (by kernel_rfl) (λ _ h=>by cases h) coreWild_row_tie rfl ⟨rfl,rfl⟩ (by kernel_rfl) rfl
  (λ f fn hf hfn=>by
   obtain rfl:f=7:=Option.some.inj ((show Tryz.prog.funcNamed "auspex/auspexlaw21.CoreWild" =some 7 by kernel_rfl).symm.trans hf) |>.symm;obtain rfl:fn=Tryz.f7:=(Option.some.inj (Tryz.func7.symm.trans hfn)).symm;exact⟨by kernel_rfl,λ j t ht=>by
    have h3:(Tryz.f7.params.toList.all λ t=>Tryz.prog.wantsStandIn t==false)=true:=by kernel_rfl
    have h4:=qI.1 h3 t (Hj.2 (fZ ht));exact pD.1 h4⟩)
  (by kernel_rfl)
#print axioms coreWild_holds
end Go.Proofs.YtlhofpglndhfaaaGreatDoor
