/- TopEvents: what the contracts tell of a core's steps is the beginning of what they tell of the program's run: for every shape, program, memory, count and contract; no conditions. -/
import Derived.Test.YtffibhgbpgjioaaGreatDoorTie
import Derived.Test.YtffibhgbpgjioaaGreatDoorCards
import Derived.Test.YtffibhgbpgjioaaGreatDoorS1
import Derived.Test.YtffibhgbpgjioaaGreatDoorS8
import Derived.Test.YtffibhgbpgjioaaGreatDoorS34
import Derived.Test.YtffibhgbpgjioaaGreatDoorS36
set_option linter.all false
namespace Go.Proofs.YtffibhgbpgjioaaGreatDoor
open Go.Proofs.Tryz
open Go.RowKit Go.ChangeShapes Go.WideShapes Go.ChangeAt
set_option maxRecDepth 100000 in
theorem ao5(os:Os)(started:os.Started)(H:Type)(enc:TypeId×Value->H):
  ReturnsInHanded {} Tryz.checked os 3 .any (λw args=>(Rows.topEventsSpec.pre enc Tryz.prog Tryz.f3 [] false w args∧laidMetH Tryz.prog PX w)∧sizedMet enc Tryz.prog Tryz.f3 (OpenSpec.ofChange Rows.topEventsSpec) false w args)
   (Rows.topEventsSpec.post enc Tryz.prog Tryz.f3 false true false false):=by
 refine returnsInHanded_of_change_and (C:=Tryz.checked) (X:=λw _=>laidMetH Tryz.prog PX w) (λ_ _ _ hh h=>h.of_heap hh) ad7 started (by kernel_rfl) func3
  (ChangeSpec.witness_shaped (enc:=enc) (C:=Tryz.checked) (os:=os) (X:=λw _=>laidMetH Tryz.prog PX w) false (World.doorLaid Tryz.prog 400 os) #[.agg #[.int .i64 0,.int .i64 0,.int .i64 0,.int .i64 0,.int .i64 0,.int .i64 0,.int .i64 0,.int .i64 0,.slice none 0 0,.bool false,.slice none 0 0],.slice none 0 0,.string ⟨#[]⟩,.int .i64 0,.bool false] 8 rfl (World.shaped_of_RefB (by kernel_rfl) (by kernel_rfl)) (by kernel_rfl) (by kernel_rfl) (by kernel_rfl) (TG os _)) ?_
 intro W base args ds gs before hval0 hW _ _ hL _;have hval:∀(j:Nat) t v,Tryz.f3.params[j]?=some t->args[j]?=some v->Value.okWide Tryz.prog W .any base t v:=hval0;have hW':=hW;obtain⟨p,q,hA0,hV,rfl,hfz,hnd⟩:=hW;have hA:DataW.TrodAll enc Tryz.prog W 0 (λ_=>true) true Tryz.f3.params.toList args.toList ds p:=hA0;have hA1:=hA;rw[Tryz.params3]at hA hval;obtain⟨v0,vs0,d0,ds0,p0,q0,hargs,rfl,rfl,h0,r0⟩:=trodAll_cons hA;obtain⟨v1,vs1,d1,ds1,p1,q1,rfl,rfl,rfl,h1,r1⟩:=trodAll_cons r0;obtain⟨v2,vs2,d2,ds2,p2,q2,rfl,rfl,rfl,h2,r2⟩:=trodAll_cons r1;obtain⟨v3,vs3,d3,ds3,p3,q3,rfl,rfl,rfl,h3,r3⟩:=trodAll_cons r2;obtain⟨v4,vs4,d4,ds4,p4,q4,rfl,rfl,rfl,h4,r4⟩:=trodAll_cons r3;obtain⟨rfl,rfl,rfl⟩:=trodAll_nil r4;obtain rfl:args= #[v0,v1,v2,v3,v4]:=by cases args;simp_all
 obtain⟨rfl,rfl⟩:=trodVars_none hV;obtain⟨c0,rp0,hZ0⟩:=Qh (hval 0 _ v0 rfl rfl) h0;obtain⟨l1,hb1,hl1,rp1⟩:=Qi (hval 1 _ v1 rfl rfl) h1;obtain⟨a2,rfl,w2⟩:=Vc underlying9 (hval 2 _ v2 rfl rfl);obtain⟨a3,rfl,rfl,rfl,w3⟩:=open_int underlying3 (hval 3 _ v3 rfl rfl) h3;obtain⟨a4,rfl,rfl,rfl⟩:=open_bool underlying4 (hval 4 _ v4 rfl rfl) h4;have hC:=HY hL;refine((ajJ c0 l1 a2 a3 a4 ⟨hZ0.agW,hZ0.tape,hZ0.tp⟩ hb1 hl1 (aI w2)).law hC (RepL.cons rp0 (RepL.cons rp1 (RepL.cons (.v _) (RepL.cons (.v _) (RepL.cons (.v _) (RepL.nil _ _ _))))))).mono λe W' ⟨he,hb⟩=>?_;subst he;exact⟨_,rfl,TE TF (by kernel_rfl) hW' hA1 rfl rfl rfl rfl (by kernel_rfl) underlying4 rfl rfl rfl hb⟩
set_option maxRecDepth 10000 in
set_option maxHeartbeats 4000000 in
theorem ag4:joinedFacts Tryz.prog 3 Tryz.f3 Rows.topEventsSpec Rows.topEventsRow=true:=by
 unfold joinedFacts;rw[aP];refine⟨?_,by as_aux_lemma=>kernel_rfl⟩
 repeat (rw[aP];refine⟨?_,by as_aux_lemma=>kernel_rfl⟩)
 as_aux_lemma=>kernel_rfl
def ah0:Rows.TopEventsSaid:=
 OpenClaim.holds_of_wide 3 Tryz.f3 rfl rfl rfl rfl rfl rfl rfl ⟨rfl,rfl,rfl,rfl,rfl⟩ rfl rfl rfl rfl rfl (by kernel_rfl) func3 ag4
  (af0 (by kernel_rfl)) (by unfold Func.isWrapper;first|(rw[af1 (by decide+kernel)];kernel_rfl)|(rw[dZ (by decide+kernel)];exact⟨rfl,rfl⟩))
  (λos started H enc _=>ao5 os started H enc)
theorem topEvents_holds:Rows.TopEventsCardSaid:=
 Claim7.holds_tied_plain_at .later [] [.data] true (true, "7f4b46cac41f49a94478774a5051a3fed9e869d9fafd5ca33a9fa1abcccd4dbb") false
  ah0 (λ_ h=>by cases h) (by kernel_rfl) (λ_ h=>by cases h) topEvents_row_tie rfl ⟨rfl,rfl⟩ (by kernel_rfl) rfl
  (λf fn hf hfn=>by
   obtain rfl:f=3:=af5 ((show Tryz.prog.funcNamed "auspex/auspextop.TopEvents" =some 3 by kernel_rfl).symm.trans hf) |>.symm;obtain rfl:fn=Tryz.f3:=(af5 (func3.symm.trans hfn)).symm;exact⟨by kernel_rfl,λ j t ht=>by
    have h3:(Tryz.f3.params.toList.all λt=>Tryz.prog.wantsStandIn t==false)=true:=by kernel_rfl
    have h4:=rC.1 h3 t (Jt.2 (nI ht));exact pU.1 h4⟩)
  (by kernel_rfl)
#print axioms topEvents_holds
end Go.Proofs.YtffibhgbpgjioaaGreatDoor
