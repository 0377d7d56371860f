/- TwinHolds: in the strict mode two runs that agree far enough in their places, addresses and how long they divide are not seen apart: for every shape, program, both memories and count; no conditions. -/
import Derived.Test.YtiaekocjeinkjaaGreatDoorS41
set_option linter.all false
namespace Go.Proofs.YtiaekocjeinkjaaGreatDoor
open Go.Proofs.Tryz
open Go.RowKit Go.ChangeShapes Go.WideShapes Go.ChangeAt
set_option maxRecDepth 100000 in
theorem N0(os:Os)(b:os.Started)(H:Type)(enc:TypeId×Value->H):
  ReturnsInHanded {} Tryz.checked os 5 .any (λw args=>(Rows.twinHoldsSpec.pre enc Tryz.prog Tryz.f5 [] false w args/\laidMetH Tryz.prog PX w)/\sizedMet enc Tryz.prog Tryz.f5 (OpenSpec.ofChange Rows.twinHoldsSpec) false w args)
   (Rows.twinHoldsSpec.post enc Tryz.prog Tryz.f5 false true false false):=by
 refine returnsInHanded_of_change_and (C:=Tryz.checked) (X:=λw _=>laidMetH Tryz.prog PX w) (λ_ _ _ Q h=>h.of_heap Q) By b (by kernel_rfl) func5
  (ChangeSpec.witness_shaped (enc:=enc) (C:=Tryz.checked) (os:=os) (X:=λw _=>laidMetH Tryz.prog PX w) false (World.doorLaid Tryz.prog 400 os) #[.agg #[.int .i64 0,.int .i64 0,.int .i64 0,.int .i64 0,.int .i64 0,.int .i64 0,.int .i64 0,.int .i64 0,.slice none 0 0,.bool false,.slice none 0 0],.slice none 0 0,.string ⟨#[]⟩,.string ⟨#[]⟩,.int .i64 0] 8 R (World.shaped_of_RefB (by kernel_rfl) (by kernel_rfl)) (by kernel_rfl) (by kernel_rfl) (by kernel_rfl) (TG os _)) ?_
 intro W base args G gs g d l _ _ M _;have a:∀(j:Nat) t v,Tryz.f5.params[j]?=some t->args[j]?=some v->Value.okWide Tryz.prog W .any base t v:=d;have m:=l;obtain⟨p,aq,i,N,rfl,aj,ak⟩:=l;have f:DataW.TrodAll enc Tryz.prog W 0 (λ_=>true) true Tryz.f5.params.toList args.toList G p:=i;have k:=f;rw[Tryz.params5]at f a;obtain⟨u,al,d0,q,p0,q0,B,rfl,rfl,I,T⟩:=trodAll_cons f;obtain⟨x,am,d1,aa,p1,q1,rfl,rfl,rfl,J,U⟩:=trodAll_cons T;obtain⟨y,an,d2,ab,p2,q2,rfl,rfl,rfl,h2,V⟩:=trodAll_cons U;obtain⟨z,ao,d3,ag,p3,q3,rfl,rfl,rfl,h3,X⟩:=trodAll_cons V;obtain⟨A,ap,d4,ai,p4,q4,rfl,rfl,rfl,K,r4⟩:=trodAll_cons X;obtain⟨rfl,rfl,rfl⟩:=trodAll_nil r4;obtain rfl:args= #[u,x,y,z,A]:=by cases args;simp_all
 obtain⟨rfl,rfl⟩:=trodVars_none N;obtain⟨F,r,c⟩:=Qh (a 0 _ u R R) I;obtain⟨S,n,o,s⟩:=Qi (a 1 _ x R R) J;obtain⟨C,rfl,Y⟩:=Vc underlying9 (a 2 _ y R R);obtain⟨D,rfl,Z⟩:=Vc underlying9 (a 3 _ z R R);obtain⟨E,rfl,rfl,rfl,w4⟩:=open_int underlying3 (a 4 _ A R R) K;have L:=HY M;refine((N4 F S C D E ⟨c.q,c.tape,c.tp⟩ n o (aI Y) (aI Z)).law L (b6.cons r (b6.cons s (b6.cons (.v _) (b6.cons (.v _) (b6.cons (.v _) (b6.nil _ _ _))))))).mono λe W' ⟨P,O⟩=>?_;subst P;exact⟨_,R,TE TF (by kernel_rfl) m k R R R R (by kernel_rfl) underlying4 R R R O⟩
set_option maxRecDepth 10000 in
set_option maxHeartbeats 4000000 in
theorem N1:joinedFacts Tryz.prog 5 Tryz.f5 Rows.twinHoldsSpec Rows.twinHoldsRow=true:=by
 unfold joinedFacts;rw[aP];refine⟨?_,by as_aux_lemma=>kernel_rfl⟩
 repeat (rw[aP];refine⟨?_,by as_aux_lemma=>kernel_rfl⟩)
 as_aux_lemma=>kernel_rfl
def N2:Rows.TwinHoldsSaid:=
 OpenClaim.holds_of_wide 5 Tryz.f5 R R R R R R R ⟨R,R,R,R,R⟩ R R R R R (by kernel_rfl) func5 N1
  (ax (by kernel_rfl)) (by unfold Func.isWrapper;first|(rw[aa (by decide+kernel)];kernel_rfl)|(rw[dZ (by decide+kernel)];exact⟨rfl,rfl⟩))
  (λos a H enc _=>N0 os a H enc)
theorem twinHolds_holds:Rows.TwinHoldsCardSaid:=
 Claim7.holds_tied_plain_at .later [] [.data] true (true, "f26a31bfe172e2632cda1d1403b31b5b8f6abb5ed09a740627f90a668733c126") false
  N2 (λ_ h=>by cases h) (by kernel_rfl) (λ_ h=>by cases h) twinHolds_row_tie R ⟨R,R⟩ (by kernel_rfl) R
  (λf b e a=>by
   obtain rfl:f=5:=fj ((show Tryz.prog.funcNamed "auspex/auspexlaw23.TwinHolds" =some 5 by kernel_rfl).symm.trans e) |>.symm;obtain rfl:b=Tryz.f5:=(fj (func5.symm.trans a)).symm;exact⟨by kernel_rfl,λ j t g=>by
    have c:(Tryz.f5.params.toList.all λt=>Tryz.prog.wantsStandIn t==false)=true:=by kernel_rfl
    have d:=rC.1 c t (Jt.2 (nI g));exact pU.1 d⟩)
  (by kernel_rfl)
#print axioms twinHolds_holds
end Go.Proofs.YtiaekocjeinkjaaGreatDoor
