/- CoreStops: behind its halt nothing retires, no register changes, nothing is fetched or starts, and memory, with all that is on its way to it, stays: for every shape, program, memory and counts; no conditions. -/
import Derived.Test.YtlhofpglndhfaaaGreatDoorTie
import Derived.Test.YtlhofpglndhfaaaGreatDoorCards
import Derived.Test.YtlhofpglndhfaaaGreatDoorS201
import Derived.Test.YtlhofpglndhfaaaGreatDoorS208
import Derived.Test.YtlhofpglndhfaaaGreatDoorS235
import Derived.Test.YtlhofpglndhfaaaGreatDoorS236
set_option linter.unusedVariables false
set_option linter.unusedSimpArgs false
namespace Go.Proofs.YtlhofpglndhfaaaGreatDoor
open Go.RowKit Go.ChangeShapes Go.WideShapes Go.ChangeAt
set_option maxRecDepth 100000 in
theorem Dm(os:Os)(started:os.Started)(H:Type)(enc:TypeId×Value→H):
  ReturnsInHanded {} Tryz.checked os 10 .any (λ w args=>(Rows.coreStopsSpec.pre enc Tryz.prog Tryz.f10 [] false w args∧laidMetH Tryz.prog OU w)∧sizedMet enc Tryz.prog Tryz.f10 (OpenSpec.ofChange Rows.coreStopsSpec) false w args)
   (Rows.coreStopsSpec.post enc Tryz.prog Tryz.f10 false true false false):=by
 refine returnsInHanded_of_change_and (C:=Tryz.checked) (X:=λ w _=>laidMetH Tryz.prog OU w) (λ _ _ _ hh h=>h.of_heap hh) aaT started (by kernel_rfl) Tryz.func10
  (ChangeSpec.witness_shaped (enc:=enc) (C:=Tryz.checked) (os:=os) (X:=λ w _=>laidMetH Tryz.prog OU w) false (World.doorLaid Tryz.prog 400 os) #[.agg #[.int .i64 0,.int .i64 0,.int .i64 0,.int .i64 0,.int .i64 0,.int .i64 0,.int .i64 0,.int .i64 0,.slice none 0 0,.bool false,.slice none 0 0],.slice none 0 0,.string ⟨#[]⟩,.int .i64 0,.int .i64 0] 8 rfl (World.shaped_of_RefB (by kernel_rfl) (by kernel_rfl)) (by kernel_rfl) (by kernel_rfl) (by kernel_rfl) (Sk os _)) ?_
 intro W base args ds gs before hval0 hW _ _ hL _;have hval:∀ (j:Nat) t v,Tryz.f10.params[j]?=some t→args[j]?=some v→Value.okWide Tryz.prog W .any base t v:=hval0;have hW':=hW;obtain⟨p,q,hA0,hV,rfl,hfz,hnd⟩:=hW;have hA:DataW.TrodAll enc Tryz.prog W 0 (λ _=>true) true Tryz.f10.params.toList args.toList ds p:=hA0;have hA1:=hA;rw[Tryz.params10]at hA hval;obtain⟨v0,vs0,d0,ds0,p0,q0,hargs,rfl,rfl,h0,r0⟩:=trodAll_cons hA;obtain⟨v1,vs1,d1,ds1,p1,q1,rfl,rfl,rfl,h1,r1⟩:=trodAll_cons r0;obtain⟨v2,vs2,d2,ds2,p2,q2,rfl,rfl,rfl,h2,r2⟩:=trodAll_cons r1;obtain⟨v3,vs3,d3,ds3,p3,q3,rfl,rfl,rfl,h3,r3⟩:=trodAll_cons r2;obtain⟨v4,vs4,d4,ds4,p4,q4,rfl,rfl,rfl,h4,r4⟩:=trodAll_cons r3;obtain⟨rfl,rfl,rfl⟩:=trodAll_nil r4;obtain rfl:args= #[v0,v1,v2,v3,v4]:=by cases args;simp_all
 obtain⟨rfl,rfl⟩:=trodVars_none hV;obtain⟨c0,rp0,hZ0⟩:=Pe (hval 0 _ v0 rfl rfl) h0;obtain⟨l1,hb1,hl1,rp1⟩:=Pf (hval 1 _ v1 rfl rfl) h1;obtain⟨a2,rfl,w2⟩:=TC Tryz.underlying9 (hval 2 _ v2 rfl rfl);obtain⟨a3,rfl,rfl,rfl,w3⟩:=open_int Tryz.underlying3 (hval 3 _ v3 rfl rfl) h3;obtain⟨a4,rfl,rfl,rfl,w4⟩:=open_int Tryz.underlying3 (hval 4 _ v4 rfl rfl) h4;have hC:=Hq hL;refine ((NZ c0 l1 a2 a3 a4 ⟨hZ0.lat,hZ0.tape,hZ0.tp⟩ hb1 hl1 (aT w2)).law hC (RepL.cons rp0 (RepL.cons rp1 (RepL.cons (.v _) (RepL.cons (.v _) (RepL.cons (.v _) (RepL.nil _ _ _))))))).mono λ e W' ⟨he,hb⟩=>?_;subst he;exact⟨_,rfl,Si Sj (by kernel_rfl) hW' hA1 rfl rfl rfl rfl (by kernel_rfl) Tryz.underlying4 rfl rfl rfl hb⟩
set_option maxRecDepth 10000 in
set_option maxHeartbeats 4000000 in
theorem Ea:joinedFacts Tryz.prog 10 Tryz.f10 Rows.coreStopsSpec Rows.coreStopsRow=true:=by
 unfold joinedFacts;rw[aH];refine⟨?_,by as_aux_lemma=>kernel_rfl⟩
 repeat (rw[aH];refine⟨?_,by as_aux_lemma=>kernel_rfl⟩)
 as_aux_lemma=>kernel_rfl
theorem Hp:Rows.CoreStopsSaid:=
 OpenClaim.holds_of_wide 10 Tryz.f10 rfl rfl rfl rfl rfl rfl rfl ⟨rfl,rfl,rfl,rfl,rfl⟩ rfl rfl rfl rfl rfl (by kernel_rfl) Tryz.func10 Ea
  (of_decide_eq_true (by kernel_rfl)) (by unfold Func.isWrapper;first|(rw[if_pos (by decide+kernel)];kernel_rfl)|(rw[if_neg (by decide+kernel)];exact⟨rfl,rfl⟩))
  (λ os started H enc _=>Dm os started H enc)
theorem coreStops_holds:Rows.CoreStopsCardSaid:=
 Claim7.holds_tied_plain_at .later [] [.data] true (true, "21d9afec82f0bd7b733735d36af2b3dccba2783b529c70502f59daaaa80a9f9a") false
  Hp (λ _ h=>by cases h) (by kernel_rfl) (λ _ h=>by cases h) coreStops_row_tie rfl ⟨rfl,rfl⟩ (by kernel_rfl) rfl
  (λ f fn hf hfn=>by
   obtain rfl:f=10:=Option.some.inj ((show Tryz.prog.funcNamed "auspex/auspexlaw21.CoreStops" =some 10 by kernel_rfl).symm.trans hf) |>.symm;obtain rfl:fn=Tryz.f10:=(Option.some.inj (Tryz.func10.symm.trans hfn)).symm;exact⟨by kernel_rfl,λ j t ht=>by
    have h3:(Tryz.f10.params.toList.all λ t=>Tryz.prog.wantsStandIn t==false)=true:=by kernel_rfl
    have h4:=iO.1 h3 t (Iz.2 (nA ht));exact pS.1 h4⟩)
  (by kernel_rfl)
#print axioms coreStops_holds
end Go.Proofs.YtlhofpglndhfaaaGreatDoor
