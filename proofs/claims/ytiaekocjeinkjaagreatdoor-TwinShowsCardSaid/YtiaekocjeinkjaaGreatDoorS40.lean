/- TwinShows: of the known programs the first one is seen apart in the open mode alone, the second one in the middle one, too, the third one leaves other registers and is not seen apart in the strict one: for every number; no conditions. -/
import Derived.Test.YtiaekocjeinkjaaGreatDoorS39
set_option linter.all false
namespace Go.Proofs.YtiaekocjeinkjaaGreatDoor
open Go.Proofs.Tryz
open Go.RowKit Go.ChangeShapes Go.WideShapes Go.ChangeAt
set_option maxRecDepth 100000 in
theorem Lo(os:Os)(a:os.Started)(H:Type)(enc:TypeId×Value->H):
  ReturnsInHanded {} Tryz.checked os 6 .any (λw args=>(Rows.twinShowsSpec.pre enc Tryz.prog Tryz.f6 [] false w args/\laidMetH Tryz.prog PX w)/\sizedMet enc Tryz.prog Tryz.f6 (OpenSpec.ofChange Rows.twinShowsSpec) false w args)
   (Rows.twinShowsSpec.post enc Tryz.prog Tryz.f6 false true false false):=by
 refine returnsInHanded_of_change_and (C:=Tryz.checked) (X:=λw _=>laidMetH Tryz.prog PX w) (λ_ _ _ A h=>h.of_heap A) By a (by kernel_rfl) func6
  (ChangeSpec.witness_shaped (enc:=enc) (C:=Tryz.checked) (os:=os) (X:=λw _=>laidMetH Tryz.prog PX w) false (World.doorLaid Tryz.prog 400 os) #[.int .i64 0] 8 R (World.shaped_of_RefB (by kernel_rfl) (by kernel_rfl)) (by kernel_rfl) (by kernel_rfl) (by kernel_rfl) (TG os _)) ?_
 intro W base args o I f c k _ _ u _;have b:∀(j:Nat) t v,Tryz.f6.params[j]?=some t->args[j]?=some v->Value.okWide Tryz.prog W .any base t v:=c;have l:=k;obtain⟨p,q,g,x,rfl,D,E⟩:=k;have d:DataW.TrodAll enc Tryz.prog W 0 (λ_=>true) true Tryz.f6.params.toList args.toList o p:=g;have i:=d;rw[Tryz.params6]at d b;obtain⟨m,F,d0,C,J,K,n,rfl,rfl,r,B⟩:=trodAll_cons d;obtain⟨rfl,rfl,rfl⟩:=trodAll_nil B;obtain rfl:args= #[m]:=by cases args;simp_all
 obtain⟨rfl,rfl⟩:=trodVars_none x;obtain⟨a0,rfl,rfl,rfl,L⟩:=open_int underlying3 (b 0 _ m R R) r;have s:=HY u;refine((ig a0).law s (b6.cons (.v _) (b6.nil _ _ _))).mono λe G ⟨z,y⟩=>?_;subst z;exact⟨_,R,TE TF (by kernel_rfl) l i R R R R (by kernel_rfl) underlying4 R R R y⟩
set_option maxRecDepth 10000 in
set_option maxHeartbeats 4000000 in
theorem NW:joinedFacts Tryz.prog 6 Tryz.f6 Rows.twinShowsSpec Rows.twinShowsRow=true:=by
 unfold joinedFacts;rw[aP];refine⟨?_,by as_aux_lemma=>kernel_rfl⟩
 repeat (rw[aP];refine⟨?_,by as_aux_lemma=>kernel_rfl⟩)
 as_aux_lemma=>kernel_rfl
def RI:Rows.TwinShowsSaid:=
 OpenClaim.holds_of_wide 6 Tryz.f6 R R R R R R R ⟨R,R,R,R,R⟩ R R R R R (by kernel_rfl) func6 NW
  (ax (by kernel_rfl)) (by unfold Func.isWrapper;first|(rw[aa (by decide+kernel)];kernel_rfl)|(rw[dZ (by decide+kernel)];exact⟨rfl,rfl⟩))
  (λos a H enc _=>Lo os a H enc)
theorem twinShows_holds:Rows.TwinShowsCardSaid:=
 Claim7.holds_tied_plain_at .later [] [.data] true (true, "f26a31bfe172e2632cda1d1403b31b5b8f6abb5ed09a740627f90a668733c126") false
  RI (λ_ h=>by cases h) (by kernel_rfl) (λ_ h=>by cases h) twinShows_row_tie R ⟨R,R⟩ (by kernel_rfl) R
  (λf b e a=>by
   obtain rfl:f=6:=fj ((show Tryz.prog.funcNamed "auspex/auspexlaw23.TwinShows" =some 6 by kernel_rfl).symm.trans e) |>.symm;obtain rfl:b=Tryz.f6:=(fj (func6.symm.trans a)).symm;exact⟨by kernel_rfl,λ j t g=>by
    have c:(Tryz.f6.params.toList.all λt=>Tryz.prog.wantsStandIn t==false)=true:=by kernel_rfl
    have d:=rC.1 c t (Array.mem_toList_iff.2 (Array.mem_of_getElem? g));exact pU.1 d⟩)
  (by kernel_rfl)
#print axioms twinShows_holds
end Go.Proofs.YtiaekocjeinkjaaGreatDoor
