/- CoreFirst: a program's first instruction that halts halts the core there, and nothing else is told: for every shape, word and memory; no conditions. -/
import Derived.Test.YtdhclfgoomldfaaGreatDoorTie
import Derived.Test.YtdhclfgoomldfaaGreatDoorCards
import Derived.Test.YtdhclfgoomldfaaGreatDoorS1
import Derived.Test.YtdhclfgoomldfaaGreatDoorS8
import Derived.Test.YtdhclfgoomldfaaGreatDoorS36
import Derived.Test.YtdhclfgoomldfaaGreatDoorS40
set_option linter.all false
namespace Go.Proofs.YtdhclfgoomldfaaGreatDoor
open Go.Proofs.Tryz
open Go.RowKit Go.ChangeShapes Go.WideShapes Go.ChangeAt
set_option maxRecDepth 100000 in
theorem J7(os:Os)(b:os.Started)(H:Type)(enc:TypeId×Value->H):
  ReturnsInHanded {} Tryz.checked os 4 .any (λw args=>(Rows.coreFirstSpec.pre enc Tryz.prog Tryz.f4 [] false w args∧laidMetH Tryz.prog PX w)∧sizedMet enc Tryz.prog Tryz.f4 (OpenSpec.ofChange Rows.coreFirstSpec) false w args)
   (Rows.coreFirstSpec.post enc Tryz.prog Tryz.f4 false true false false):=by
 refine returnsInHanded_of_change_and (C:=Tryz.checked) (X:=λw _=>laidMetH Tryz.prog PX w) (λ_ _ _ J h=>h.of_heap J) Br b (by kernel_rfl) func4
  (ChangeSpec.witness_shaped (enc:=enc) (C:=Tryz.checked) (os:=os) (X:=λw _=>laidMetH Tryz.prog PX w) false (World.doorLaid Tryz.prog 400 os) #[.agg #[.int .i64 0,.int .i64 0,.int .i64 0,.int .i64 0,.int .i64 0,.int .i64 0,.int .i64 0,.int .i64 0,.slice none 0 0,.bool false,.slice none 0 0],.int .u32 0,.string ⟨#[]⟩] 8 rfl (World.shaped_of_RefB (by kernel_rfl) (by kernel_rfl)) (by kernel_rfl) (by kernel_rfl) (by kernel_rfl) (TG os _)) ?_
 intro W base args A gs f d k _ _ E _;have a:∀(j:Nat) t v,Tryz.f4.params[j]?=some t->args[j]?=some v->Value.okWide Tryz.prog W .any base t v:=d;have l:=k;obtain⟨p,q,g,F,rfl,T,U⟩:=k;have hA:DataW.TrodAll enc Tryz.prog W 0 (λ_=>true) true Tryz.f4.params.toList args.toList A p:=g;have i:=hA;rw[Tryz.params4]at hA a;obtain⟨o,V,d0,Q,p0,q0,x,rfl,rfl,B,K⟩:=trodAll_cons hA;obtain⟨r,X,d1,R,p1,q1,rfl,rfl,rfl,C,L⟩:=trodAll_cons K;obtain⟨s,Y,d2,S,p2,q2,rfl,rfl,rfl,h2,M⟩:=trodAll_cons L;obtain⟨rfl,rfl,rfl⟩:=trodAll_nil M;obtain rfl:args= #[o,r,s]:=by cases args;simp_all
 obtain⟨rfl,rfl⟩:=trodVars_none F;obtain⟨z,n,c⟩:=Qh (a 0 _ o rfl rfl) B;obtain⟨a1,rfl,rfl,rfl,N⟩:=open_int underlying28 (a 1 _ r rfl rfl) C;obtain⟨P,rfl,m⟩:=OF N;obtain⟨y,rfl,O⟩:=Vc underlying9 (a 2 _ s rfl rfl);have D:=HY E;refine((L2 z P y ⟨c.y,c.tape,c.tp⟩ (aI m) (aI O)).law D (b2.cons n (b2.cons (.v _) (b2.cons (.v _) (b2.nil _ _ _))))).mono λe Z ⟨I,G⟩=>?_;subst I;exact⟨_,rfl,TE TF (by kernel_rfl) l i rfl rfl rfl rfl (by kernel_rfl) underlying4 rfl rfl rfl G⟩
set_option maxRecDepth 10000 in
set_option maxHeartbeats 4000000 in
theorem J8:joinedFacts Tryz.prog 4 Tryz.f4 Rows.coreFirstSpec Rows.coreFirstRow=true:=by
 unfold joinedFacts;rw[aP];refine⟨?_,by as_aux_lemma=>kernel_rfl⟩
 repeat (rw[aP];refine⟨?_,by as_aux_lemma=>kernel_rfl⟩)
 as_aux_lemma=>kernel_rfl
def Ku:Rows.CoreFirstSaid:=
 OpenClaim.holds_of_wide 4 Tryz.f4 rfl rfl rfl rfl rfl rfl rfl ⟨rfl,rfl,rfl,rfl,rfl⟩ rfl rfl rfl rfl rfl (by kernel_rfl) func4 J8
  (bj (by kernel_rfl)) (by unfold Func.isWrapper;first|(rw[aa (by decide+kernel)];kernel_rfl)|(rw[dZ (by decide+kernel)];exact⟨rfl,rfl⟩))
  (λos a H enc _=>J7 os a H enc)
theorem coreFirst_holds:Rows.CoreFirstCardSaid:=
 Claim7.holds_tied_plain_at .later [] [.data] true (true, "31368cd6c27fe56881ef8bf2aa7d531030d88bc5d4d7494a48fb462979574ea6") false
  Ku (λ_ h=>by cases h) (by kernel_rfl) (λ_ h=>by cases h) coreFirst_row_tie rfl ⟨rfl,rfl⟩ (by kernel_rfl) rfl
  (λf d i b=>by
   obtain rfl:f=4:=ga ((show Tryz.prog.funcNamed "auspex/auspexlaw21.CoreFirst" =some 4 by kernel_rfl).symm.trans i) |>.symm;obtain rfl:d=Tryz.f4:=(ga (func4.symm.trans b)).symm;exact⟨by kernel_rfl,λ j t k=>by
    have e:(Tryz.f4.params.toList.all λt=>Tryz.prog.wantsStandIn t==false)=true:=by kernel_rfl
    have g:=rC.1 e t (Jt.2 (nI k));exact pU.1 g⟩)
  (by kernel_rfl)
#print axioms coreFirst_holds
end Go.Proofs.YtdhclfgoomldfaaGreatDoor
