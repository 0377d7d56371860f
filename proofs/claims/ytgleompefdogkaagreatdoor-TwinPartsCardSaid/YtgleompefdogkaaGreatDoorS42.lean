/- TwinParts: what agrees far enough for so many cycles does for fewer, and what is seen apart in fewer cycles is in more, at the same one: for every shape, program, two memories, counts and contract; no conditions. -/
import Derived.Test.YtgleompefdogkaaGreatDoorTie
import Derived.Test.YtgleompefdogkaaGreatDoorCards
import Derived.Test.YtgleompefdogkaaGreatDoorS1
import Derived.Test.YtgleompefdogkaaGreatDoorS8
import Derived.Test.YtgleompefdogkaaGreatDoorS35
import Derived.Test.YtgleompefdogkaaGreatDoorS37
set_option linter.unusedVariables false
set_option linter.unusedSimpArgs false
set_option linter.defProp false
namespace Go.Proofs.YtgleompefdogkaaGreatDoor
open Go.RowKit Go.ChangeShapes Go.WideShapes Go.ChangeAt
set_option maxRecDepth 100000 in
theorem acE(os:Os)(started:os.Started)(H:Type)(enc:TypeId×Value->H):
  ReturnsInHanded {} Tryz.checked os 5 .any (λw args=>(Rows.twinPartsSpec.pre enc Tryz.prog Tryz.f5 [] false w args∧laidMetH Tryz.prog acH w)∧sizedMet enc Tryz.prog Tryz.f5 (OpenSpec.ofChange Rows.twinPartsSpec) false w args)
   (Rows.twinPartsSpec.post enc Tryz.prog Tryz.f5 false true false false):=by
 refine returnsInHanded_of_change_and (C:=Tryz.checked) (X:=λw _=>laidMetH Tryz.prog acH w) (λ_ _ _ hh h=>h.of_heap hh) afA started (by kernel_rfl) Tryz.func5
  (ChangeSpec.witness_shaped (enc:=enc) (C:=Tryz.checked) (os:=os) (X:=λw _=>laidMetH Tryz.prog acH w) false (World.doorLaid Tryz.prog 400 os) #[.agg #[.int .i64 0,.int .i64 0,.int .i64 0,.int .i64 0,.int .i64 0,.int .i64 0,.int .i64 0,.int .i64 0,.slice none 0 0,.bool false,.slice none 0 0],.slice none 0 0,.string ⟨#[]⟩,.string ⟨#[]⟩,.int .i64 0,.int .i64 0,.bool false] 8 rfl (World.shaped_of_RefB (by kernel_rfl) (by kernel_rfl)) (by kernel_rfl) (by kernel_rfl) (by kernel_rfl) (acX os _)) ?_
 intro W base args ds gs before hval0 hW _ _ hL _;have hval:∀(j:Nat) t v,Tryz.f5.params[j]?=some t->args[j]?=some v->Value.okWide Tryz.prog W .any base t v:=hval0;have hW':=hW;obtain⟨p,q,hA0,hV,rfl,hfz,hnd⟩:=hW;have hA:DataW.TrodAll enc Tryz.prog W 0 (λ_=>true) true Tryz.f5.params.toList args.toList ds p:=hA0;have hA1:=hA;rw[Tryz.params5]at hA hval;obtain⟨v0,vs0,d0,ds0,p0,q0,hargs,rfl,rfl,h0,r0⟩:=trodAll_cons hA;obtain⟨v1,vs1,d1,ds1,p1,q1,rfl,rfl,rfl,h1,r1⟩:=trodAll_cons r0;obtain⟨v2,vs2,d2,ds2,p2,q2,rfl,rfl,rfl,h2,r2⟩:=trodAll_cons r1;obtain⟨v3,vs3,d3,ds3,p3,q3,rfl,rfl,rfl,h3,r3⟩:=trodAll_cons r2;obtain⟨v4,vs4,d4,ds4,p4,q4,rfl,rfl,rfl,h4,r4⟩:=trodAll_cons r3;obtain⟨v5,vs5,d5,ds5,p5,q5,rfl,rfl,rfl,h5,r5⟩:=trodAll_cons r4;obtain⟨v6,vs6,d6,ds6,p6,q6,rfl,rfl,rfl,h6,r6⟩:=trodAll_cons r5;obtain⟨rfl,rfl,rfl⟩:=trodAll_nil r6;obtain rfl:args= #[v0,v1,v2,v3,v4,v5,v6]:=by cases args;simp_all
 obtain⟨rfl,rfl⟩:=trodVars_none hV;obtain⟨c0,rp0,hZ0⟩:=Ru (hval 0 _ v0 rfl rfl) h0;obtain⟨l1,hb1,hl1,rp1⟩:=acI (hval 1 _ v1 rfl rfl) h1;obtain⟨a2,rfl,w2⟩:=acA Tryz.underlying9 (hval 2 _ v2 rfl rfl);obtain⟨a3,rfl,w3⟩:=acA Tryz.underlying9 (hval 3 _ v3 rfl rfl);obtain⟨a4,rfl,rfl,rfl,w4⟩:=open_int Tryz.underlying3 (hval 4 _ v4 rfl rfl) h4;obtain⟨a5,rfl,rfl,rfl,w5⟩:=open_int Tryz.underlying3 (hval 5 _ v5 rfl rfl) h5;obtain⟨a6,rfl,rfl,rfl⟩:=open_bool Tryz.underlying4 (hval 6 _ v6 rfl rfl) h6;have hC:=ab3 hL;refine((adG c0 l1 a2 a3 a4 a5 a6 ⟨hZ0.lat,hZ0.tape,hZ0.tp⟩ hb1 hl1 (aY w2) (aY w3)).law hC (RepL.cons rp0 (RepL.cons rp1 (RepL.cons (.v _) (RepL.cons (.v _) (RepL.cons (.v _) (RepL.cons (.v _) (RepL.cons (.v _) (RepL.nil _ _ _))))))))).mono λe W' ⟨he,hb⟩=>?_;subst he;exact⟨_,rfl,acU acW (by kernel_rfl) hW' hA1 rfl rfl rfl rfl (by kernel_rfl) Tryz.underlying4 rfl rfl rfl hb⟩
set_option maxRecDepth 10000 in
set_option maxHeartbeats 4000000 in
theorem acP:joinedFacts Tryz.prog 5 Tryz.f5 Rows.twinPartsSpec Rows.twinPartsRow=true:=by
 unfold joinedFacts;rw[aJ];refine⟨?_,by as_aux_lemma=>kernel_rfl⟩
 repeat (rw[aJ];refine⟨?_,by as_aux_lemma=>kernel_rfl⟩)
 as_aux_lemma=>kernel_rfl
def ac5:Rows.TwinPartsSaid:=
 OpenClaim.holds_of_wide 5 Tryz.f5 rfl rfl rfl rfl rfl rfl rfl ⟨rfl,rfl,rfl,rfl,rfl⟩ rfl rfl rfl rfl rfl (by kernel_rfl) Tryz.func5 acP
  (of_decide_eq_true (by kernel_rfl)) (by unfold Func.isWrapper;first|(rw[if_pos (by decide+kernel)];kernel_rfl)|(rw[if_neg (by decide+kernel)];exact⟨rfl,rfl⟩))
  (λos started H enc _=>acE os started H enc)
theorem twinParts_holds:Rows.TwinPartsCardSaid:=
 Claim7.holds_tied_plain_at .later [] [.data] true (true, "c83d45d2838098cc85c043be517dfe0ad1b2acf669cea55d0a6e45578e65030b") false
  ac5 (λ_ h=>by cases h) (by kernel_rfl) (λ_ h=>by cases h) twinParts_row_tie rfl ⟨rfl,rfl⟩ (by kernel_rfl) rfl
  (λf fn hf hfn=>by
   obtain rfl:f=5:=Option.some.inj ((show Tryz.prog.funcNamed "auspex/auspexlaw23.TwinParts" =some 5 by kernel_rfl).symm.trans hf) |>.symm;obtain rfl:fn=Tryz.f5:=(Option.some.inj (Tryz.func5.symm.trans hfn)).symm;exact⟨by kernel_rfl,λ j t ht=>by
    have h3:(Tryz.f5.params.toList.all λt=>Tryz.prog.wantsStandIn t==false)=true:=by kernel_rfl
    have h4:=lE.1 h3 t (IB.2 (nI ht));exact pY.1 h4⟩)
  (by kernel_rfl)
#print axioms twinParts_holds
end Go.Proofs.YtgleompefdogkaaGreatDoor
