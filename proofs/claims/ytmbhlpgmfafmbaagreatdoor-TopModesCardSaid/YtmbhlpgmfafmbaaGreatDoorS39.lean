/- TopModes: within the bound of its program a core of whichever policy halts, rests and has run the program: for all shapes, programs, memories and counts; no conditions. -/
import Derived.Test.YtmbhlpgmfafmbaaGreatDoorTie
import Derived.Test.YtmbhlpgmfafmbaaGreatDoorCards
import Derived.Test.YtmbhlpgmfafmbaaGreatDoorS1
import Derived.Test.YtmbhlpgmfafmbaaGreatDoorS8
import Derived.Test.YtmbhlpgmfafmbaaGreatDoorS34
import Derived.Test.YtmbhlpgmfafmbaaGreatDoorS38
set_option linter.all false
namespace Go.Proofs.YtmbhlpgmfafmbaaGreatDoor
open Go.Proofs.Tryz
open Go.RowKit Go.ChangeShapes Go.WideShapes Go.ChangeAt
set_option maxRecDepth 100000 in
theorem ye(os:Os)(b:os.Started)(H:Type)(enc:TypeId×Value->H):
  ReturnsInHanded {} Tryz.checked os 3 .any (λw args=>(Rows.topModesSpec.pre enc Tryz.prog Tryz.f3 [] false w args∧laidMetH Tryz.prog PX w)∧sizedMet enc Tryz.prog Tryz.f3 (OpenSpec.ofChange Rows.topModesSpec) false w args)
   (Rows.topModesSpec.post enc Tryz.prog Tryz.f3 false true false false):=by
 refine returnsInHanded_of_change_and (C:=Tryz.checked) (X:=λw _=>laidMetH Tryz.prog PX w) (λ_ _ _ T h=>h.of_heap T) D9 b (by kernel_rfl) func3
  (ChangeSpec.witness_shaped (enc:=enc) (C:=Tryz.checked) (os:=os) (X:=λw _=>laidMetH Tryz.prog PX w) false (World.doorLaid Tryz.prog 400 os) #[.agg #[.int .i64 0,.int .i64 0,.int .i64 0,.int .i64 0,.int .i64 0,.int .i64 0,.int .i64 0,.int .i64 0,.slice none 0 0,.bool false,.slice none 0 0],.agg #[.int .i64 0,.int .i64 0,.int .i64 0,.int .i64 0,.int .i64 0,.int .i64 0,.int .i64 0,.int .i64 0,.slice none 0 0,.bool false,.slice none 0 0],.slice none 0 0,.string ⟨#[]⟩,.int .i64 0] 8 rfl (World.shaped_of_RefB (by kernel_rfl) (by kernel_rfl)) (by kernel_rfl) (by kernel_rfl) (by kernel_rfl) (TG os _)) ?_
 intro W g args J gs i f m _ _ P _;have a:∀(j:Nat) t v,Tryz.f3.params[j]?=some t->args[j]?=some v->Value.okWide Tryz.prog W .any g t v:=f;have n:=m;obtain⟨p,q,k,Q,rfl,al,am⟩:=m;have hA:DataW.TrodAll enc Tryz.prog W 0 (λ_=>true) true Tryz.f3.params.toList args.toList J p:=k;have l:=hA;rw[Tryz.params3]at hA a;obtain⟨y,an,d0,aa,p0,q0,D,rfl,rfl,K,V⟩:=trodAll_cons hA;obtain⟨z,ao,d1,ab,p1,q1,rfl,rfl,rfl,L,X⟩:=trodAll_cons V;obtain⟨A,ap,d2,ag,p2,q2,rfl,rfl,rfl,M,Y⟩:=trodAll_cons X;obtain⟨B,aq,d3,ai,p3,q3,rfl,rfl,rfl,h3,Z⟩:=trodAll_cons Y;obtain⟨C,ar,d4,ak,p4,q4,rfl,rfl,rfl,N,r4⟩:=trodAll_cons Z;obtain⟨rfl,rfl,rfl⟩:=trodAll_nil r4;obtain rfl:args= #[y,z,A,B,C]:=by cases args;simp_all
 obtain⟨rfl,rfl⟩:=trodVars_none Q;obtain⟨G,s,c⟩:=Qh (a 0 _ y rfl rfl) K;obtain⟨I,u,d⟩:=Qh (a 1 _ z rfl rfl) L;obtain⟨U,o,r,x⟩:=Qi (a 2 _ A rfl rfl) M;obtain⟨E,rfl,w3⟩:=Vc underlying9 (a 3 _ B rfl rfl);obtain⟨F,rfl,rfl,rfl,w4⟩:=open_int underlying3 (a 4 _ C rfl rfl) N;have O:=HY P;refine((y1 G I U E F ⟨c.J,c.tape,c.tp⟩ ⟨d.J,d.tape,d.tp⟩ o r (aI w3)).law O (bs.cons s (bs.cons u (bs.cons x (bs.cons (.v _) (bs.cons (.v _) (bs.nil _ _ _))))))).mono λe W' ⟨S,R⟩=>?_;subst S;exact⟨_,rfl,TE TF (by kernel_rfl) n l rfl rfl rfl rfl (by kernel_rfl) underlying4 rfl rfl rfl R⟩
set_option maxRecDepth 10000 in
set_option maxHeartbeats 4000000 in
theorem w6:joinedFacts Tryz.prog 3 Tryz.f3 Rows.topModesSpec Rows.topModesRow=true:=by
 unfold joinedFacts;rw[aP];refine⟨?_,by as_aux_lemma=>kernel_rfl⟩
 repeat (rw[aP];refine⟨?_,by as_aux_lemma=>kernel_rfl⟩)
 as_aux_lemma=>kernel_rfl
def y':Rows.TopModesSaid:=
 OpenClaim.holds_of_wide 3 Tryz.f3 rfl rfl rfl rfl rfl rfl rfl ⟨rfl,rfl,rfl,rfl,rfl⟩ rfl rfl rfl rfl rfl (by kernel_rfl) func3 w6
  (a7 (by kernel_rfl)) (by unfold Func.isWrapper;first|(rw[aa (by decide+kernel)];kernel_rfl)|(rw[dZ (by decide+kernel)];exact⟨rfl,rfl⟩))
  (λos a H enc _=>ye os a H enc)
theorem topModes_holds:Rows.TopModesCardSaid:=
 Claim7.holds_tied_plain_at .later [] [.data] true (true, "ed6f47e350c29857b1d1a0ed53dc0f2fab265d46c419bdad9b68c0307ae53bfd") false
  y' (λ_ h=>by cases h) (by kernel_rfl) (λ_ h=>by cases h) topModes_row_tie rfl ⟨rfl,rfl⟩ (by kernel_rfl) rfl
  (λf b e a=>by
   obtain rfl:f=3:=ft ((show Tryz.prog.funcNamed "auspex/auspextop.TopModes" =some 3 by kernel_rfl).symm.trans e) |>.symm;obtain rfl:b=Tryz.f3:=(ft (func3.symm.trans a)).symm;exact⟨by kernel_rfl,λ j t g=>by
    have c:(Tryz.f3.params.toList.all λt=>Tryz.prog.wantsStandIn t==false)=true:=by kernel_rfl
    have d:=rC.1 c t (Jt.2 (nI g));exact pU.1 d⟩)
  (by kernel_rfl)
#print axioms topModes_holds
end Go.Proofs.YtmbhlpgmfafmbaaGreatDoor
