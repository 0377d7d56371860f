/- CoreRuns: at each cycle what retired are the first steps of the program, and the core stands where these leave it: for every shape, program, memory and count; no conditions. -/
import Derived.Test.YtlpkggpdjobpmaaGreatDoorTie
import Derived.Test.YtlpkggpdjobpmaaGreatDoorCards
import Derived.Test.YtlpkggpdjobpmaaGreatDoorS1
import Derived.Test.YtlpkggpdjobpmaaGreatDoorS8
import Derived.Test.YtlpkggpdjobpmaaGreatDoorS36
import Derived.Test.YtlpkggpdjobpmaaGreatDoorS39
set_option linter.all false
namespace Go.Proofs.YtlpkggpdjobpmaaGreatDoor
open Go.Proofs.Tryz
open Go.RowKit Go.ChangeShapes Go.WideShapes Go.ChangeAt
set_option maxRecDepth 100000 in
theorem apN(os:Os)(started:os.Started)(H:Type)(enc:TypeId×Value->H):
  ReturnsInHanded {} Tryz.checked os 3 .any (λw args=>(Rows.coreRunsSpec.pre enc Tryz.prog Tryz.f3 [] false w args∧laidMetH Tryz.prog PX w)∧sizedMet enc Tryz.prog Tryz.f3 (OpenSpec.ofChange Rows.coreRunsSpec) false w args)
   (Rows.coreRunsSpec.post enc Tryz.prog Tryz.f3 false true false false):=by
 refine returnsInHanded_of_change_and (C:=Tryz.checked) (X:=λw _=>laidMetH Tryz.prog PX w) (λ_ _ _ hh h=>h.of_heap hh) ad7 started (by kernel_rfl) func3
  (ChangeSpec.witness_shaped (enc:=enc) (C:=Tryz.checked) (os:=os) (X:=λw _=>laidMetH Tryz.prog PX w) false (World.doorLaid Tryz.prog 400 os) #[.agg #[.int .i64 0,.int .i64 0,.int .i64 0,.int .i64 0,.int .i64 0,.int .i64 0,.int .i64 0,.int .i64 0,.slice none 0 0,.bool false,.slice none 0 0],.slice none 0 0,.string ⟨#[]⟩,.int .i64 0] 8 rfl (World.shaped_of_RefB (by kernel_rfl) (by kernel_rfl)) (by kernel_rfl) (by kernel_rfl) (by kernel_rfl) (TG os _)) ?_
 intro W base args ds gs before hval0 hW _ _ hL _;have hval:∀(j:Nat) t v,Tryz.f3.params[j]?=some t->args[j]?=some v->Value.okWide Tryz.prog W .any base t v:=hval0;have hW':=hW;obtain⟨p,q,hA0,hV,rfl,hfz,hnd⟩:=hW;have hA:DataW.TrodAll enc Tryz.prog W 0 (λ_=>true) true Tryz.f3.params.toList args.toList ds p:=hA0;have hA1:=hA;rw[Tryz.params3]at hA hval;obtain⟨v0,vs0,d0,ds0,p0,q0,hargs,rfl,rfl,h0,r0⟩:=trodAll_cons hA;obtain⟨v1,vs1,d1,ds1,p1,q1,rfl,rfl,rfl,h1,r1⟩:=trodAll_cons r0;obtain⟨v2,vs2,d2,ds2,p2,q2,rfl,rfl,rfl,h2,r2⟩:=trodAll_cons r1;obtain⟨v3,vs3,d3,ds3,p3,q3,rfl,rfl,rfl,h3,r3⟩:=trodAll_cons r2;obtain⟨rfl,rfl,rfl⟩:=trodAll_nil r3;obtain rfl:args= #[v0,v1,v2,v3]:=by cases args;simp_all
 obtain⟨rfl,rfl⟩:=trodVars_none hV;obtain⟨c0,rp0,hZ0⟩:=Qh (hval 0 _ v0 rfl rfl) h0;obtain⟨l1,hb1,hl1,rp1⟩:=Qi (hval 1 _ v1 rfl rfl) h1;obtain⟨a2,rfl,w2⟩:=Vc underlying9 (hval 2 _ v2 rfl rfl);obtain⟨a3,rfl,rfl,rfl,w3⟩:=open_int underlying3 (hval 3 _ v3 rfl rfl) h3;have hC:=HY hL;refine((ap1 c0 l1 a2 a3 ⟨hZ0.agW,hZ0.tape,hZ0.tp⟩ hb1 hl1 (aI w2)).law hC (RepL.cons rp0 (RepL.cons rp1 (RepL.cons (.v _) (RepL.cons (.v _) (RepL.nil _ _ _)))))).mono λe W' ⟨he,hb⟩=>?_;subst he;exact⟨_,rfl,TE TF (by kernel_rfl) hW' hA1 rfl rfl rfl rfl (by kernel_rfl) underlying4 rfl rfl rfl hb⟩
set_option maxRecDepth 10000 in
set_option maxHeartbeats 4000000 in
theorem apO:joinedFacts Tryz.prog 3 Tryz.f3 Rows.coreRunsSpec Rows.coreRunsRow=true:=by
 unfold joinedFacts;rw[aP];refine⟨?_,by as_aux_lemma=>kernel_rfl⟩
 repeat (rw[aP];refine⟨?_,by as_aux_lemma=>kernel_rfl⟩)
 as_aux_lemma=>kernel_rfl
def apR:Rows.CoreRunsSaid:=
 OpenClaim.holds_of_wide 3 Tryz.f3 rfl rfl rfl rfl rfl rfl rfl ⟨rfl,rfl,rfl,rfl,rfl⟩ rfl rfl rfl rfl rfl (by kernel_rfl) func3 apO
  (af0 (by kernel_rfl)) (by unfold Func.isWrapper;first|(rw[af1 (by decide+kernel)];kernel_rfl)|(rw[dZ (by decide+kernel)];exact⟨rfl,rfl⟩))
  (λos started H enc _=>apN os started H enc)
theorem coreRuns_holds:Rows.CoreRunsCardSaid:=
 Claim7.holds_tied_plain_at .later [] [.data] true (true, "c3f69c46388428aca8ce686f05098df2ccd55c3a6b291a233818163c0375ddde") false
  apR (λ_ h=>by cases h) (by kernel_rfl) (λ_ h=>by cases h) coreRuns_row_tie rfl ⟨rfl,rfl⟩ (by kernel_rfl) rfl
  (λf fn hf hfn=>by
   obtain rfl:f=3:=af5 ((show Tryz.prog.funcNamed "auspex/auspexlaw21.CoreRuns" =some 3 by kernel_rfl).symm.trans hf) |>.symm;obtain rfl:fn=Tryz.f3:=(af5 (func3.symm.trans hfn)).symm;exact⟨by kernel_rfl,λ j t ht=>by
    have h3:(Tryz.f3.params.toList.all λt=>Tryz.prog.wantsStandIn t==false)=true:=by kernel_rfl
    have h4:=rC.1 h3 t (Jt.2 (nI ht));exact pU.1 h4⟩)
  (by kernel_rfl)
#print axioms coreRuns_holds
end Go.Proofs.YtlpkggpdjobpmaaGreatDoor
