/- TopBlind: bytes that no load of the program's run reads are not seen in the middle and the strict mode: for every shape, program, memory, place, byte and count; no conditions. -/
import Derived.Test.YtiaekocjeinkjaaGreatDoorS40
set_option linter.all false
namespace Go.Proofs.YtiaekocjeinkjaaGreatDoor
open Go.Proofs.Tryz
open Go.RowKit Go.ChangeShapes Go.WideShapes Go.ChangeAt
set_option maxRecDepth 100000 in
theorem P_(os:Os)(b:os.Started)(H:Type)(enc:TypeId×Value->H):
  ReturnsInHanded {} Tryz.checked os 3 .any (λw args=>(Rows.topBlindSpec.pre enc Tryz.prog Tryz.f3 [] false w args/\laidMetH Tryz.prog PX w)/\sizedMet enc Tryz.prog Tryz.f3 (OpenSpec.ofChange Rows.topBlindSpec) false w args)
   (Rows.topBlindSpec.post enc Tryz.prog Tryz.f3 false true false false):=by
 refine returnsInHanded_of_change_and (C:=Tryz.checked) (X:=λw _=>laidMetH Tryz.prog PX w) (λ_ _ _ V h=>h.of_heap V) By b (by kernel_rfl) func3
  (ChangeSpec.witness_shaped (enc:=enc) (C:=Tryz.checked) (os:=os) (X:=λw _=>laidMetH Tryz.prog PX w) false (World.doorLaid Tryz.prog 400 os) #[.agg #[.int .i64 0,.int .i64 0,.int .i64 0,.int .i64 0,.int .i64 0,.int .i64 0,.int .i64 0,.int .i64 0,.slice none 0 0,.bool false,.slice none 0 0],.slice none 0 0,.string ⟨#[]⟩,.int .i64 0,.int .u8 0,.int .i64 0] 8 R (World.shaped_of_RefB (by kernel_rfl) (by kernel_rfl)) (by kernel_rfl) (by kernel_rfl) (by kernel_rfl) (TG os _)) ?_
 intro W base args J gs g d l _ _ Q _;have a:∀(j:Nat) t v,Tryz.f3.params[j]?=some t->args[j]?=some v->Value.okWide Tryz.prog W .any base t v:=d;have m:=l;obtain⟨p,au,i,S,rfl,ak,al⟩:=l;have f:DataW.TrodAll enc Tryz.prog W 0 (λ_=>true) true Tryz.f3.params.toList args.toList J p:=i;have k:=f;rw[Tryz.params3]at f a;obtain⟨u,am,d0,q,p0,q0,C,rfl,rfl,K,Y⟩:=trodAll_cons f;obtain⟨x,an,d1,aa,p1,q1,rfl,rfl,rfl,L,Z⟩:=trodAll_cons Y;obtain⟨y,ao,d2,ab,p2,q2,rfl,rfl,rfl,h2,r2⟩:=trodAll_cons Z;obtain⟨z,ap,d3,ag,p3,q3,rfl,rfl,rfl,M,r3⟩:=trodAll_cons r2;obtain⟨A,aq,d4,ai,p4,q4,rfl,rfl,rfl,N,r4⟩:=trodAll_cons r3;obtain⟨B,ar,d5,aj,p5,q5,rfl,rfl,rfl,O,r5⟩:=trodAll_cons r4;obtain⟨rfl,rfl,rfl⟩:=trodAll_nil r5;obtain rfl:args= #[u,x,y,z,A,B]:=by cases args;simp_all
 obtain⟨rfl,rfl⟩:=trodVars_none S;obtain⟨G,r,c⟩:=Qh (a 0 _ u R R) K;obtain⟨X,n,o,s⟩:=Qi (a 1 _ x R R) L;obtain⟨D,rfl,w2⟩:=Vc underlying9 (a 2 _ y R R);obtain⟨E,rfl,rfl,rfl,w3⟩:=open_int underlying3 (a 3 _ z R R) M;obtain⟨a4,rfl,rfl,rfl,w4⟩:=open_int underlying5 (a 4 _ A R R) N;obtain⟨I,rfl⟩:=U0 w4;obtain⟨F,rfl,rfl,rfl,w5⟩:=open_int underlying3 (a 5 _ B R R) O;have P:=HY Q;refine((JP G X D E I F ⟨c.q,c.tape,c.tp⟩ n o (aI w2)).law P (b6.cons r (b6.cons s (b6.cons (.v _) (b6.cons (.v _) (b6.cons (.v _) (b6.cons (.v _) (b6.nil _ _ _)))))))).mono λe W' ⟨U,T⟩=>?_;subst U;exact⟨_,R,TE TF (by kernel_rfl) m k R R R R (by kernel_rfl) underlying4 R R R T⟩
set_option maxRecDepth 10000 in
set_option maxHeartbeats 4000000 in
theorem P':joinedFacts Tryz.prog 3 Tryz.f3 Rows.topBlindSpec Rows.topBlindRow=true:=by
 unfold joinedFacts;rw[aP];refine⟨?_,by as_aux_lemma=>kernel_rfl⟩
 repeat (rw[aP];refine⟨?_,by as_aux_lemma=>kernel_rfl⟩)
 as_aux_lemma=>kernel_rfl
def R0:Rows.TopBlindSaid:=
 OpenClaim.holds_of_wide 3 Tryz.f3 R R R R R R R ⟨R,R,R,R,R⟩ R R R R R (by kernel_rfl) func3 P'
  (ax (by kernel_rfl)) (by unfold Func.isWrapper;first|(rw[aa (by decide+kernel)];kernel_rfl)|(rw[dZ (by decide+kernel)];exact⟨rfl,rfl⟩))
  (λos a H enc _=>P_ os a H enc)
theorem topBlind_holds:Rows.TopBlindCardSaid:=
 Claim7.holds_tied_plain_at .later [] [.data] true (true, "f26a31bfe172e2632cda1d1403b31b5b8f6abb5ed09a740627f90a668733c126") false
  R0 (λ_ h=>by cases h) (by kernel_rfl) (λ_ h=>by cases h) topBlind_row_tie R ⟨R,R⟩ (by kernel_rfl) R
  (λf b e a=>by
   obtain rfl:f=3:=fj ((show Tryz.prog.funcNamed "auspex/auspextop.TopBlind" =some 3 by kernel_rfl).symm.trans e) |>.symm;obtain rfl:b=Tryz.f3:=(fj (func3.symm.trans a)).symm;exact⟨by kernel_rfl,λ j t g=>by
    have c:(Tryz.f3.params.toList.all λt=>Tryz.prog.wantsStandIn t==false)=true:=by kernel_rfl
    have d:=rC.1 c t (Jt.2 (nI g));exact pU.1 d⟩)
  (by kernel_rfl)
#print axioms topBlind_holds
end Go.Proofs.YtiaekocjeinkjaaGreatDoor
