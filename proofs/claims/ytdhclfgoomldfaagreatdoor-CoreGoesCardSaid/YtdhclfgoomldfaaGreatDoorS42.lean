/- CoreGoes: behind so many cycles at least as many retired as the bound says, or all up to the halt: for every shape, program, memory and count; no conditions. -/
import Derived.Test.YtdhclfgoomldfaaGreatDoorTie
import Derived.Test.YtdhclfgoomldfaaGreatDoorCards
import Derived.Test.YtdhclfgoomldfaaGreatDoorS1
import Derived.Test.YtdhclfgoomldfaaGreatDoorS8
import Derived.Test.YtdhclfgoomldfaaGreatDoorS36
import Derived.Test.YtdhclfgoomldfaaGreatDoorS41
set_option linter.all false
namespace Go.Proofs.YtdhclfgoomldfaaGreatDoor
open Go.Proofs.Tryz
open Go.RowKit Go.ChangeShapes Go.WideShapes Go.ChangeAt
set_option maxRecDepth 100000 in
theorem L4(os:Os)(b:os.Started)(H:Type)(enc:TypeId×Value->H):
  ReturnsInHanded {} Tryz.checked os 3 .any (λw args=>(Rows.coreGoesSpec.pre enc Tryz.prog Tryz.f3 [] false w args∧laidMetH Tryz.prog PX w)∧sizedMet enc Tryz.prog Tryz.f3 (OpenSpec.ofChange Rows.coreGoesSpec) false w args)
   (Rows.coreGoesSpec.post enc Tryz.prog Tryz.f3 false true false false):=by
 refine returnsInHanded_of_change_and (C:=Tryz.checked) (X:=λw _=>laidMetH Tryz.prog PX w) (λ_ _ _ O h=>h.of_heap O) B' b (by kernel_rfl) func3
  (ChangeSpec.witness_shaped (enc:=enc) (C:=Tryz.checked) (os:=os) (X:=λw _=>laidMetH Tryz.prog PX w) false (World.doorLaid Tryz.prog 400 os) #[.agg #[.int .i64 0,.int .i64 0,.int .i64 0,.int .i64 0,.int .i64 0,.int .i64 0,.int .i64 0,.int .i64 0,.slice none 0 0,.bool false,.slice none 0 0],.slice none 0 0,.string ⟨#[]⟩,.int .i64 0] 8 rfl (World.shaped_of_RefB (by kernel_rfl) (by kernel_rfl)) (by kernel_rfl) (by kernel_rfl) (by kernel_rfl) (TG os _)) ?_
 intro W base args E gs g d l _ _ K _;have a:∀(j:Nat) t v,Tryz.f3.params[j]?=some t->args[j]?=some v->Value.okWide Tryz.prog W .any base t v:=d;have m:=l;obtain⟨p,q,i,L,rfl,aa,ab⟩:=l;have f:DataW.TrodAll enc Tryz.prog W 0 (λ_=>true) true Tryz.f3.params.toList args.toList E p:=i;have k:=f;rw[Tryz.params3]at f a;obtain⟨u,ag,d0,V,p0,q0,A,rfl,rfl,F,Q⟩:=trodAll_cons f;obtain⟨x,ai,d1,X,p1,q1,rfl,rfl,rfl,G,R⟩:=trodAll_cons Q;obtain⟨y,aj,d2,Y,p2,q2,rfl,rfl,rfl,h2,S⟩:=trodAll_cons R;obtain⟨z,ak,d3,Z,p3,q3,rfl,rfl,rfl,I,T⟩:=trodAll_cons S;obtain⟨rfl,rfl,rfl⟩:=trodAll_nil T;obtain rfl:args= #[u,x,y,z]:=by cases args;simp_all
 obtain⟨rfl,rfl⟩:=trodVars_none L;obtain⟨D,r,c⟩:=Qh (a 0 _ u rfl rfl) F;obtain⟨P,n,o,s⟩:=Qi (a 1 _ x rfl rfl) G;obtain⟨B,rfl,U⟩:=Vc underlying9 (a 2 _ y rfl rfl);obtain⟨C,rfl,rfl,rfl,w3⟩:=open_int underlying3 (a 3 _ z rfl rfl) I;have J:=HY K;refine((N8 D P B C ⟨c.J,c.tape,c.tp⟩ n o (aI U)).law J (b2.cons r (b2.cons s (b2.cons (.v _) (b2.cons (.v _) (b2.nil _ _ _)))))).mono λe W' ⟨N,M⟩=>?_;subst N;exact⟨_,rfl,TE TF (by kernel_rfl) m k rfl rfl rfl rfl (by kernel_rfl) underlying4 rfl rfl rfl M⟩
set_option maxRecDepth 10000 in
set_option maxHeartbeats 4000000 in
theorem L9:joinedFacts Tryz.prog 3 Tryz.f3 Rows.coreGoesSpec Rows.coreGoesRow=true:=by
 unfold joinedFacts;rw[aP];refine⟨?_,by as_aux_lemma=>kernel_rfl⟩
 repeat (rw[aP];refine⟨?_,by as_aux_lemma=>kernel_rfl⟩)
 as_aux_lemma=>kernel_rfl
def L_:Rows.CoreGoesSaid:=
 OpenClaim.holds_of_wide 3 Tryz.f3 rfl rfl rfl rfl rfl rfl rfl ⟨rfl,rfl,rfl,rfl,rfl⟩ rfl rfl rfl rfl rfl (by kernel_rfl) func3 L9
  (a6 (by kernel_rfl)) (by unfold Func.isWrapper;first|(rw[aa (by decide+kernel)];kernel_rfl)|(rw[dZ (by decide+kernel)];exact⟨rfl,rfl⟩))
  (λos a H enc _=>L4 os a H enc)
theorem coreGoes_holds:Rows.CoreGoesCardSaid:=
 Claim7.holds_tied_plain_at .later [] [.data] true (true, "31368cd6c27fe56881ef8bf2aa7d531030d88bc5d4d7494a48fb462979574ea6") false
  L_ (λ_ h=>by cases h) (by kernel_rfl) (λ_ h=>by cases h) coreGoes_row_tie rfl ⟨rfl,rfl⟩ (by kernel_rfl) rfl
  (λf b e a=>by
   obtain rfl:f=3:=ga ((show Tryz.prog.funcNamed "auspex/auspexlaw21.CoreGoes" =some 3 by kernel_rfl).symm.trans e) |>.symm;obtain rfl:b=Tryz.f3:=(ga (func3.symm.trans a)).symm;exact⟨by kernel_rfl,λ j t g=>by
    have c:(Tryz.f3.params.toList.all λt=>Tryz.prog.wantsStandIn t==false)=true:=by kernel_rfl
    have d:=rC.1 c t (Jt.2 (nI g));exact pU.1 d⟩)
  (by kernel_rfl)
#print axioms coreGoes_holds
end Go.Proofs.YtdhclfgoomldfaaGreatDoor
