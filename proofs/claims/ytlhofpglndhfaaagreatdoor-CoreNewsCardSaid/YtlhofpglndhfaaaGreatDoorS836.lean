/- Joined texts. -/
import Derived.WideShapes
import Derived.Test.YtlhofpglndhfaaaGreatDoorS801
import Derived.Test.YtlhofpglndhfaaaGreatDoorS808
import Derived.Test.YtlhofpglndhfaaaGreatDoorS828
import Derived.Test.YtlhofpglndhfaaaGreatDoorS829
import Derived.Test.YtlhofpglndhfaaaGreatDoorS835
set_option linter.unusedVariables false
set_option linter.unusedSimpArgs false
namespace Go.Proofs.YtlhofpglndhfaaaGreatDoor
set_option maxRecDepth 100000
set_option maxHeartbeats 4000000
open Go.RowKit
def s0(c:Co):Co:={c with cycle:=wrap64 (c.cycle+1)}
def s1(c:Co):Co:=jL (s0 c)
def s2(c:Co):Co:=iD (s1 c)
def s3(c:Co):Co:=dV (s2 c)
def s4(c:Co):Co:=fF (s3 c)
def s5(c:Co):Co:=iP (s4 c)
def s6(c:Co):Co:=dY (s5 c)
def s7(c:Co):Co:=pX (s6 c)
theorem SJ(c:Co):Qm c=s7 c:=rfl
theorem XU{c:Co}{n:Nat}(h:c.okM n):(s0 c).okM n:=⟨⟨h.ok.conf,h.ok.prog,h.ok.progo,h.ok.r,h.ok.fetch,h.ok.fet,h.ok.feto,h.ok.rob,h.ok.robo,h.ok.sto,h.ok.stoo,h.ok.data,h.ok.words,h.ok.bus,h.ok.buso,h.ok.asked,h.ok.guessed,h.ok.mem,h.ok.guess,h.ok.ret,h.ok.reto⟩,h.nb,h.cf,h.data,h.words,h.guess,h.rob,h.fet,h.sto,h.prog,h.mem,h.std⟩
structure StepOk(c:Co)(n:Nat):Prop where
 k0:(s0 c).okM n
 k1:(s1 c).okM (n+1)
 k2:(s2 c).okM (n+1)
 k3:(s3 c).okM (n+5)
 k4:(s4 c).okM (n+7)
 k5:(s5 c).okM (n+7)
 k6:(s6 c).okM (n+8)
 k7:(s7 c).okM (n+10)
theorem Jk{c:Co}{n:Nat}(h:c.okM n)(hb:n+20≤890000):StepOk c n:=by
 have k0:=XU h;have k1:(s1 c).okM (n+1):=KZ k0 omT;have k2:(s2 c).okM (n+1):=Lb k1;have k3:(s3 c).okM (n+5):=Hs k2 omT;have k4:(s4 c).okM (n+7):=Jl k3 omT;have k5:(s5 c).okM (n+7):=(zS k4).1;have k6:(s6 c).okM (n+8):=(uO k5 omT).1;exact⟨k0,k1,k2,k3,k4,k5,k6,(wG k6 omT).1⟩
theorem xJ{c:Co}{n:Nat}(h:c.ok n)(hb:n+20≤890000):(lI c).ok (n+10):=by
 unfold lI;split
 ·rename_i hr;rw[SJ];exact (Jk (BN h omT hr) hb).k7.ok
 ·exact⟨h.conf,h.prog,h.progo,h.r,h.fetch,h.fet,h.feto,h.rob,h.robo,h.sto,h.stoo,h.data,h.words,aN h.bus omT,h.buso,h.asked,h.guessed,h.mem,h.guess,aN h.ret omT,h.reto⟩
theorem Hr{c:Co}{R R' F F' S S' T T':AV}(hR:R=R')(hF:F=F')(hS:S=S')(hT:T=T'):some (Blk.box (mcX c R F S T))=some (Blk.box (mcX c R' F' S' T')):=by rw[hR,hF,hS,hT]
inductive Stg where
 |e0|o0|e1|o1|e2
 |o2 (A B:List Ent) (k:Bool)
 |e3
 |o3 (A B:List Ent) (k:Bool)
 |s4|s5|s6|s7
theorem ZC(c:Co)(nb:Nat)(hm:c.okM nb)(hne:c.rob≠[])(kR kF kS kT:Bool):qF C0.P C0.G 51 [.ptr 0 0] (heapF [(0,.box (mcX c (.sl 17 (c.rob.map enL) kR) (.sl 2 (c.fetched.map ftL) kF) (.sl 2 (c.stores.map ptL) kS) (.sl 9 (c.retired.map spL) kT)))]) 1 (λ x h'=>x=.tup []∧h'=heapF [(0,.box (mcX c (.osl 1 0 c.rob.length false) (.sl 2 (c.fetched.map ftL) true) (.sl 2 (c.stores.map ptL) true) (.sl 9 (c.retired.map spL) true))),(1,.arr (c.rob.map enL) 17)]):=by
 obtain⟨e,l,hel⟩:=List.exists_cons_of_ne_nil hne;have hl:=hm.rob;rw[hel]at hl⊢;exact aaO c nb hm e l hl kR kF kS kT
theorem VI(c:Co)(nb:Nat)(hm:c.okM nb)(A B:List Ent)(lo n:Nat)(kR:Bool)(hlo:A.length=lo)(hn:c.rob.length=n)(hA:A.length+n+B.length≤1000)(hAo:∀ x∈A,x.ok)(hBo:∀ x∈B,x.ok)(kS kT:Bool)(xS xT:List (List AV)):qF C0.P C0.G 53 [.ptr 0 0] (heapF [(0,.box (mcX c (.osl 1 lo n kR) (.sl 2 (c.fetched.map ftL) true) (.sl 2 xS kS) (.sl 9 xT kT))),(1,.arr ((A++c.rob++B).map enL) 17)]) 2 (λ x h'=>x=.tup []∧UK 2 (iD c) (.sl 2 ((iD c).fetched.map ftL) true) (.sl 2 xS kS) (.sl 9 xT kT) h'):=by
 cases hw:xN (dD c)with
 |none=>exact VO c nb hm A B lo n kR hlo hn hA hAo hBo hw kS kT xS xT
 |some i=>exact VP c nb hm A B lo n kR hlo hn hA hAo hBo i hw kS kT xS xT
theorem Pr{α:Type}{l m:List α}(h:l=[])(e:m.length=l.length):[]=m:=by
 subst h;exact (bB e).symm
theorem UJ{b:Bool}(h:(!b)=true): ¬ b=true:=by cases b<;>simp_all
theorem XV(c:Co)(nb:Nat)(hok:c.ok nb)(hb:nb+20≤890000)(hr:gH c=false):bV C0 25 [.agg (coL c)] (.agg (coL (lI c))):=by
 refine dc1 (bV.intro c1Ok Tryz.func25 rfl rfl (by kernel_rfl) rfl ?_);refine cSR<|rAl 0 rfl rfl<|rAl 1 rfl rfl<|rE 2<|bI<|cSR<|oR 1 rfl<|rCi rfl (DB c nb hok omT)<|oR 1 rfl<|rE 5 ?_;refine aQ rfl (λ _=>?_) (λ h1=>by exact absurd (dO (sH h1)) (by rw[hr];decide));refine cSR<|oR 1 rfl<|rSx 1 (coL c) rfl rfl rfl<|rE 7<|cM ?_;rw[show lI c=c from if_neg (by rw[hr];decide)];exact eW rfl tvT rfl rfl
noncomputable def abD:Code→Code
 | .seq a _=>a
 |c=>c
noncomputable def VJ:Code→Code
 | .seq _ b=>b
 |c=>c
noncomputable def VK:Code:=(VJ (abD (VJ (VJ (VJ (VJ (VJ (VJ (Tryz.f25.body.getD .skip)))))))))
abbrev aa3(c:Co):Stg→ASt:=λ z_=>match z_ with| .e0=>⟨slotsF [(2,.ptr 1 0),(9,vB (!(gH c))),(3,.ptr 7 0),(21,.agg [.clo 52 [] [],.clo 53 [] [],.clo 54 [] [],.clo 55 [] [],.clo 56 [] [],.clo 57 [] [],.clo 58 [] []]),(22,vI 0)],heapF [(1,.box zCo),(7,.box (mcX (s0 c) (.sl 17 ([]) false) (.sl 2 ((s0 c).fetched.map ftL) true) (.sl 2 ((s0 c).stores.map ptL) true) (.sl 9 ((s0 c).retired.map spL) true)))],23⟩| .o0=>⟨slotsF [(2,.ptr 1 0),(9,vB (!(gH c))),(3,.ptr 7 0),(21,.agg [.clo 52 [] [],.clo 53 [] [],.clo 54 [] [],.clo 55 [] [],.clo 56 [] [],.clo 57 [] [],.clo 58 [] []]),(22,vI 0)],heapF [(1,.box zCo),(7,.box (mcX (s0 c) (.osl 22 0 c.rob.length false) (.sl 2 ((s0 c).fetched.map ftL) true) (.sl 2 ((s0 c).stores.map ptL) true) (.sl 9 ((s0 c).retired.map spL) true))),(22,.arr ((([]:List Ent)++(s0 c).rob++[]).map enL) 17)],23⟩| .e1=>⟨slotsF [(2,.ptr 1 0),(9,vB (!(gH c))),(3,.ptr 7 0),(21,.agg [.clo 52 [] [],.clo 53 [] [],.clo 54 [] [],.clo 55 [] [],.clo 56 [] [],.clo 57 [] [],.clo 58 [] []]),(22,vI 1)],heapF [(1,.box zCo),(7,.box (mcX (s1 c) (.sl 17 ([]) false) (.sl 2 ((s1 c).fetched.map ftL) true) (.sl 2 ((s1 c).stores.map ptL) true) (.sl 9 ((s1 c).retired.map spL) true)))],23⟩| .o1=>⟨slotsF [(2,.ptr 1 0),(9,vB (!(gH c))),(3,.ptr 7 0),(21,.agg [.clo 52 [] [],.clo 53 [] [],.clo 54 [] [],.clo 55 [] [],.clo 56 [] [],.clo 57 [] [],.clo 58 [] []]),(22,vI 1)],heapF [(1,.box zCo),(7,.box (mcX (s1 c) (.osl 22 0 c.rob.length false) (.sl 2 ((s1 c).fetched.map ftL) true) (.sl 2 ((s1 c).stores.map ptL) true) (.sl 9 ((s1 c).retired.map spL) true))),(22,.arr ((([]:List Ent)++(s1 c).rob++[]).map enL) 17)],23⟩| .e2=>⟨slotsF [(2,.ptr 1 0),(9,vB (!(gH c))),(3,.ptr 7 0),(21,.agg [.clo 52 [] [],.clo 53 [] [],.clo 54 [] [],.clo 55 [] [],.clo 56 [] [],.clo 57 [] [],.clo 58 [] []]),(22,vI 2)],heapF [(1,.box zCo),(7,.box (mcX (s2 c) (.sl 17 ([]) false) (.sl 2 ((s2 c).fetched.map ftL) true) (.sl 2 ((s2 c).stores.map ptL) true) (.sl 9 ((s2 c).retired.map spL) true)))],23⟩| .o2 A B kk=>⟨slotsF [(2,.ptr 1 0),(9,vB (!(gH c))),(3,.ptr 7 0),(21,.agg [.clo 52 [] [],.clo 53 [] [],.clo 54 [] [],.clo 55 [] [],.clo 56 [] [],.clo 57 [] [],.clo 58 [] []]),(22,vI 2)],heapF [(1,.box zCo),(7,.box (mcX (s2 c) (.osl 22 A.length ((s2 c).rob.length) kk) (.sl 2 ((s2 c).fetched.map ftL) true) (.sl 2 ((s2 c).stores.map ptL) true) (.sl 9 ((s2 c).retired.map spL) true))),(22,.arr ((A++(s2 c).rob++B).map enL) 17)],23⟩| .e3=>⟨slotsF [(2,.ptr 1 0),(9,vB (!(gH c))),(3,.ptr 7 0),(21,.agg [.clo 52 [] [],.clo 53 [] [],.clo 54 [] [],.clo 55 [] [],.clo 56 [] [],.clo 57 [] [],.clo 58 [] []]),(22,vI 3)],heapF [(1,.box zCo),(7,.box (mcX (s3 c) (.sl 17 ([]) false) (.sl 2 ((s3 c).fetched.map ftL) true) (.sl 2 ((s3 c).stores.map ptL) false) (.sl 9 ((s3 c).retired.map spL) false)))],23⟩| .o3 A B kk=>⟨slotsF [(2,.ptr 1 0),(9,vB (!(gH c))),(3,.ptr 7 0),(21,.agg [.clo 52 [] [],.clo 53 [] [],.clo 54 [] [],.clo 55 [] [],.clo 56 [] [],.clo 57 [] [],.clo 58 [] []]),(22,vI 3)],heapF [(1,.box zCo),(7,.box (mcX (s3 c) (.osl 22 A.length ((s3 c).rob.length) kk) (.sl 2 ((s3 c).fetched.map ftL) true) (.sl 2 ((s3 c).stores.map ptL) false) (.sl 9 ((s3 c).retired.map spL) false))),(22,.arr ((A++(s3 c).rob++B).map enL) 17)],23⟩| .s4=>⟨slotsF [(2,.ptr 1 0),(9,vB (!(gH c))),(3,.ptr 7 0),(21,.agg [.clo 52 [] [],.clo 53 [] [],.clo 54 [] [],.clo 55 [] [],.clo 56 [] [],.clo 57 [] [],.clo 58 [] []]),(22,vI 4)],heapF [(1,.box zCo),(7,.box (mcX (s4 c) (.sl 17 ((s4 c).rob.map enL) false) (.sl 2 ((s4 c).fetched.map ftL) true) (.sl 2 ((s4 c).stores.map ptL) false) (.sl 9 ((s4 c).retired.map spL) false)))],23⟩| .s5=>⟨slotsF [(2,.ptr 1 0),(9,vB (!(gH c))),(3,.ptr 7 0),(21,.agg [.clo 52 [] [],.clo 53 [] [],.clo 54 [] [],.clo 55 [] [],.clo 56 [] [],.clo 57 [] [],.clo 58 [] []]),(22,vI 5)],heapF [(1,.box zCo),(7,.box (mcX (s5 c) (.sl 17 ((s5 c).rob.map enL) false) (.sl 2 ((s5 c).fetched.map ftL) true) (.sl 2 ((s5 c).stores.map ptL) false) (.sl 9 ((s5 c).retired.map spL) false)))],23⟩| .s6=>⟨slotsF [(2,.ptr 1 0),(9,vB (!(gH c))),(3,.ptr 7 0),(21,.agg [.clo 52 [] [],.clo 53 [] [],.clo 54 [] [],.clo 55 [] [],.clo 56 [] [],.clo 57 [] [],.clo 58 [] []]),(22,vI 6)],heapF [(1,.box zCo),(7,.box (mcX (s6 c) (.sl 17 ((s6 c).rob.map enL) false) (.sl 2 ((s6 c).fetched.map ftL) false) (.sl 2 ((s6 c).stores.map ptL) false) (.sl 9 ((s6 c).retired.map spL) false)))],23⟩| .s7=>⟨slotsF [(2,.ptr 1 0),(9,vB (!(gH c))),(3,.ptr 7 0),(21,.agg [.clo 52 [] [],.clo 53 [] [],.clo 54 [] [],.clo 55 [] [],.clo 56 [] [],.clo 57 [] [],.clo 58 [] []]),(22,vI 7)],heapF [(1,.box zCo),(7,.box (mcX (s7 c) (.sl 17 ((s7 c).rob.map enL) false) (.sl 2 ((s7 c).fetched.map ftL) false) (.sl 2 ((s7 c).stores.map ptL) false) (.sl 9 ((s7 c).retired.map spL) false)))],23⟩
abbrev aa4(c:Co):Stg→Prop:=λ z_=>match z_ with| .e0=>(s0 c).rob=[]| .e1=>(s1 c).rob=[]| .e2=>(s2 c).rob=[]| .e3=>(s3 c).rob=[]| .o2 A B _=>A.length+(s2 c).rob.length+B.length≤1000| .o3 A B _=>A.length+(s3 c).rob.length+B.length≤1000|_=>True
abbrev abE:Stg→Nat:=λ z_=>match z_ with| .e0| .o0=>7| .e1| .o1=>6| .e2| .o2 _ _ _=>5| .e3| .o3 _ _ _=>4| .s4=>3| .s5=>2| .s6=>1| .s7=>0
theorem Mh(c:Co)(nb:Nat)(hm:c.okM nb)(hb:nb+20≤890000)(hk:StepOk c nb){Q:AEx→ASt→Prop}(hQ:∀ st' σ',Weak st' ⟨slotsF [(2,.ptr 1 0),(3,.ptr 7 0)],heapF [(1,.box zCo),(7,.box (mcX (s7 c) (.sl 17 ((s7 c).rob.map enL) false) (.sl 2 ((s7 c).fetched.map ftL) false) (.sl 2 ((s7 c).stores.map ptL) false) (.sl 9 ((s7 c).retired.map spL) false)))],23⟩ σ'→Q .normal st')(z0:Stg)(hz:aa4 c z0){st:ASt}(σ:Nat→Nat)(hW:Weak st (aa3 c z0) σ):fW C1 (bV C1) VK st Q:=by
 refine bE<|sW (κ:=Stg) (aa3 c) (aa4 c) abE z0 (σ) hW rfl hz ?_;intro z_ hq;rcases z_ with _|_|_|_|_|⟨A,B,kk⟩|_|⟨A,B,kk⟩|_|_|_|_
 ·have hG:(s0 c).rob=[]:=hq;refine cSR<|rV (vB true) rfl<|rE 24<|bI ?_;refine aQ rfl (λ _=>?_) (λ h=>by cases h);refine aY<|bI<|bE<|cSR<|nW (.clo 52 [] []) rfl rfl (⟨by decide,by decide⟩)<|oR 1 rfl<|rE 26<|cRg<|oR 1 rfl<|fX (args:=[.ptr 7 0]) (d:=26) _ rfl rfl rfl ((VN (s0 c) nb hk.k0 hG true true true ((s0 c).fetched.map ftL) ((s0 c).retired.map spL)).frameB (λ _=>7) _ _ rfl ⟨⟨rfl,rfl,rfl,rfl⟩,trivial⟩ rfl rfl rfl rfl) ?_;rintro _ _ ⟨rfl,rfl⟩;refine rE 28<|cRg<|rV (vI 1) rfl<|oR 1 rfl<|rE 30 ?_;refine .mk _ (.refl _) ⟨.e1,λ i=>i,Weak.of_lists _ wT ⟨⟨rfl,rfl,rfl⟩,⟨rfl,(Hr (c:=s1 c) rfl (congrArg (λ z:List Ft=>AV.sl 2 (z.map ftL) true) (show (s0 c).fetched=(s1 c).fetched from ((rG (s0 c)).1).symm)) (congrArg (λ z:List Pt=>AV.sl 2 (z.map ptL) true) (show (s0 c).stores=(s1 c).stores from ((rG (s0 c)).2.1).symm)) (congrArg (λ z:List Sp=>AV.sl 9 (z.map spL) true) (show (s0 c).retired=(s1 c).retired from ((rG (s0 c)).2.2.1).symm))),rfl⟩,trivial⟩ rfl,rfl,(Pr hG (rG (s0 c)).2.2.2).symm,by show (6:Nat)<7;decide⟩
 ·refine cSR<|rV (vB true) rfl<|rE 24<|bI ?_;refine aQ rfl (λ _=>?_) (λ h=>by cases h);refine aY<|bI<|bE<|cSR<|nW (.clo 52 [] []) rfl rfl (⟨by decide,by decide⟩)<|oR 1 rfl<|rE 26<|cRg<|oR 1 rfl<|fX (args:=[.ptr 7 0]) (d:=26) _ rfl rfl rfl ((Yb (s0 c) nb hk.k0 [] [] 0 c.rob.length false rfl rfl (by have:=hm.rob;simpa using this) true true true ((s0 c).fetched.map ftL) ((s0 c).retired.map spL)).frameB2 (λ z=>match z with|0=>7|_=>22) _ _ rfl ⟨⟨rfl,rfl,rfl,rfl⟩,⟨rfl,rfl,rfl,rfl⟩,trivial⟩ rfl rfl rfl rfl rfl) ?_;rintro _ _ ⟨rfl,rfl⟩;refine rE 28<|cRg<|rV (vI 1) rfl<|oR 1 rfl<|rE 30 ?_;refine .mk _ (.refl _) ⟨.o1,λ i=>i,Weak.of_lists _ wT ⟨⟨rfl,rfl,rfl⟩,⟨rfl,(Hr (c:=s1 c) rfl (congrArg (λ z:List Ft=>AV.sl 2 (z.map ftL) true) (show (s0 c).fetched=(s1 c).fetched from ((rG (s0 c)).1).symm)) (congrArg (λ z:List Pt=>AV.sl 2 (z.map ptL) true) (show (s0 c).stores=(s1 c).stores from ((rG (s0 c)).2.1).symm)) (congrArg (λ z:List Sp=>AV.sl 9 (z.map spL) true) (show (s0 c).retired=(s1 c).retired from ((rG (s0 c)).2.2.1).symm))),rfl⟩,⟨rfl,rfl,rfl⟩,trivial⟩ rfl,rfl,trivial,by show (6:Nat)<7;decide⟩
 ·have hG:(s1 c).rob=[]:=hq;refine cSR<|rV (vB true) rfl<|rE 24<|bI ?_;refine aQ rfl (λ _=>?_) (λ h=>by cases h);refine aY<|bI<|bE<|cSR<|nW (.clo 53 [] []) rfl rfl (⟨by decide,by decide⟩)<|oR 1 rfl<|rE 26<|cRg<|oR 1 rfl<|fX (args:=[.ptr 7 0]) (d:=26) _ rfl rfl rfl (Ps (VQ (s1 c) (nb+1) hk.k1 hG true true ((s1 c).stores.map ptL) ((s1 c).retired.map spL)) 7 _ _ ⟨⟨rfl,rfl,rfl,rfl⟩,trivial⟩) ?_;rintro _ _ ⟨rfl,⟨hz,rfl⟩|⟨_,A,B,kk,rfl|rfl,hl,rfl⟩⟩
  ·refine rE 28<|cRg<|rV (vI 2) rfl<|oR 1 rfl<|rE 30 ?_;refine .mk _ (.refl _) ⟨.e2,λ i=>i,Weak.of_lists _ wT ⟨⟨rfl,rfl,rfl⟩,⟨rfl,(Hr (c:=s2 c) rfl rfl (congrArg (λ z:List Pt=>AV.sl 2 (z.map ptL) true) (show (s1 c).stores=(s2 c).stores from ((mA (s1 c)).1).symm)) (congrArg (λ z:List Sp=>AV.sl 9 (z.map spL) true) (show (s1 c).retired=(s2 c).retired from ((mA (s1 c)).2).symm))),rfl⟩,trivial⟩ rfl,rfl,hz,by show (5:Nat)<6;decide⟩
  ·refine rE 28<|cRg<|rV (vI 2) rfl<|oR 1 rfl<|rE 30 ?_;refine .mk _ (.refl _) ⟨(.o2 A B kk),λ i=>match i with|22=>27|i=>i,Weak.of_lists _ wT ⟨⟨rfl,rfl,rfl⟩,⟨rfl,(Hr (c:=s2 c) rfl rfl (congrArg (λ z:List Pt=>AV.sl 2 (z.map ptL) true) (show (s1 c).stores=(s2 c).stores from ((mA (s1 c)).1).symm)) (congrArg (λ z:List Sp=>AV.sl 9 (z.map spL) true) (show (s1 c).retired=(s2 c).retired from ((mA (s1 c)).2).symm))),rfl⟩,⟨rfl,rfl,rfl⟩,trivial⟩ rfl,rfl,hl,by show (5:Nat)<6;decide⟩
  ·refine rE 28<|cRg<|rV (vI 2) rfl<|oR 1 rfl<|rE 30 ?_;refine .mk _ (.refl _) ⟨(.o2 A B kk),λ i=>match i with|22=>27|i=>i,Weak.of_lists _ wT ⟨⟨rfl,rfl,rfl⟩,⟨rfl,(Hr (c:=s2 c) rfl rfl (congrArg (λ z:List Pt=>AV.sl 2 (z.map ptL) true) (show (s1 c).stores=(s2 c).stores from ((mA (s1 c)).1).symm)) (congrArg (λ z:List Sp=>AV.sl 9 (z.map spL) true) (show (s1 c).retired=(s2 c).retired from ((mA (s1 c)).2).symm))),rfl⟩,⟨rfl,rfl,rfl⟩,trivial⟩ rfl,rfl,hl,by show (5:Nat)<6;decide⟩
 ·refine cSR<|rV (vB true) rfl<|rE 24<|bI ?_;refine aQ rfl (λ _=>?_) (λ h=>by cases h);refine aY<|bI<|bE<|cSR<|nW (.clo 53 [] []) rfl rfl (⟨by decide,by decide⟩)<|oR 1 rfl<|rE 26<|cRg<|oR 1 rfl<|fX (args:=[.ptr 7 0]) (d:=26) _ rfl rfl rfl (Pu (VI (s1 c) (nb+1) hk.k1 [] [] 0 c.rob.length false rfl (rG (s0 c)).2.2.2 (by have:=hm.rob;simpa using this) (λ x h=>by cases h) (λ x h=>by cases h) true true ((s1 c).stores.map ptL) ((s1 c).retired.map spL)) 7 22 _ _ ⟨⟨rfl,rfl,rfl,rfl⟩,⟨rfl,rfl,rfl,rfl⟩,trivial⟩ (by decide)) ?_;rintro _ _ ⟨rfl,⟨hz,rfl⟩|⟨_,A,B,kk,rfl|rfl,hl,rfl⟩⟩
  ·refine rE 28<|cRg<|rV (vI 2) rfl<|oR 1 rfl<|rE 30 ?_;refine .mk _ (.refl _) ⟨.e2,λ i=>i,Weak.of_lists _ wT ⟨⟨rfl,rfl,rfl⟩,⟨rfl,(Hr (c:=s2 c) rfl rfl (congrArg (λ z:List Pt=>AV.sl 2 (z.map ptL) true) (show (s1 c).stores=(s2 c).stores from ((mA (s1 c)).1).symm)) (congrArg (λ z:List Sp=>AV.sl 9 (z.map spL) true) (show (s1 c).retired=(s2 c).retired from ((mA (s1 c)).2).symm))),rfl⟩,trivial⟩ rfl,rfl,hz,by show (5:Nat)<6;decide⟩
  ·refine rE 28<|cRg<|rV (vI 2) rfl<|oR 1 rfl<|rE 30 ?_;refine .mk _ (.refl _) ⟨(.o2 A B kk),λ i=>i,Weak.of_lists _ wT ⟨⟨rfl,rfl,rfl⟩,⟨rfl,(Hr (c:=s2 c) rfl rfl (congrArg (λ z:List Pt=>AV.sl 2 (z.map ptL) true) (show (s1 c).stores=(s2 c).stores from ((mA (s1 c)).1).symm)) (congrArg (λ z:List Sp=>AV.sl 9 (z.map spL) true) (show (s1 c).retired=(s2 c).retired from ((mA (s1 c)).2).symm))),rfl⟩,⟨rfl,rfl,rfl⟩,trivial⟩ rfl,rfl,hl,by show (5:Nat)<6;decide⟩
  ·refine rE 28<|cRg<|rV (vI 2) rfl<|oR 1 rfl<|rE 30 ?_;refine .mk _ (.refl _) ⟨(.o2 A B kk),λ i=>match i with|22=>27|i=>i,Weak.of_lists _ wT ⟨⟨rfl,rfl,rfl⟩,⟨rfl,(Hr (c:=s2 c) rfl rfl (congrArg (λ z:List Pt=>AV.sl 2 (z.map ptL) true) (show (s1 c).stores=(s2 c).stores from ((mA (s1 c)).1).symm)) (congrArg (λ z:List Sp=>AV.sl 9 (z.map spL) true) (show (s1 c).retired=(s2 c).retired from ((mA (s1 c)).2).symm))),rfl⟩,⟨rfl,rfl,rfl⟩,trivial⟩ rfl,rfl,hl,by show (5:Nat)<6;decide⟩
 ·have hG:(s2 c).rob=[]:=hq;refine cSR<|rV (vB true) rfl<|rE 24<|bI ?_;refine aQ rfl (λ _=>?_) (λ h=>by cases h);refine aY<|bI<|bE<|cSR<|nW (.clo 54 [] []) rfl rfl (⟨by decide,by decide⟩)<|oR 1 rfl<|rE 26<|cRg<|oR 1 rfl<|fX (args:=[.ptr 7 0]) (d:=26) _ rfl rfl rfl (Ps (PA (s2 c) (nb+1) hk.k2 hG) 7 _ _ ⟨⟨rfl,rfl,rfl,rfl⟩,trivial⟩) ?_;rintro _ _ ⟨rfl,⟨hz,rfl⟩|⟨_,A,B,kk,rfl|rfl,hl,rfl⟩⟩
  ·refine rE 28<|cRg<|rV (vI 3) rfl<|oR 1 rfl<|rE 30 ?_;refine .mk _ (.refl _) ⟨.e3,λ i=>i,Weak.of_lists _ wT ⟨⟨rfl,rfl,rfl⟩,⟨rfl,(Hr (c:=s3 c) rfl rfl rfl rfl),rfl⟩,trivial⟩ rfl,rfl,hz,by show (4:Nat)<5;decide⟩
  ·refine rE 28<|cRg<|rV (vI 3) rfl<|oR 1 rfl<|rE 30 ?_;refine .mk _ (.refl _) ⟨(.o3 A B kk),λ i=>match i with|22=>27|i=>i,Weak.of_lists _ wT ⟨⟨rfl,rfl,rfl⟩,⟨rfl,(Hr (c:=s3 c) rfl rfl rfl rfl),rfl⟩,⟨rfl,rfl,rfl⟩,trivial⟩ rfl,rfl,hl,by show (4:Nat)<5;decide⟩
  ·refine rE 28<|cRg<|rV (vI 3) rfl<|oR 1 rfl<|rE 30 ?_;refine .mk _ (.refl _) ⟨(.o3 A B kk),λ i=>match i with|22=>27|i=>i,Weak.of_lists _ wT ⟨⟨rfl,rfl,rfl⟩,⟨rfl,(Hr (c:=s3 c) rfl rfl rfl rfl),rfl⟩,⟨rfl,rfl,rfl⟩,trivial⟩ rfl,rfl,hl,by show (4:Nat)<5;decide⟩
 ·have hG:A.length+(s2 c).rob.length+B.length≤1000:=hq;refine cSR<|rV (vB true) rfl<|rE 24<|bI ?_;refine aQ rfl (λ _=>?_) (λ h=>by cases h);refine aY<|bI<|bE<|cSR<|nW (.clo 54 [] []) rfl rfl (⟨by decide,by decide⟩)<|oR 1 rfl<|rE 26<|cRg<|oR 1 rfl<|fX (args:=[.ptr 7 0]) (d:=26) _ rfl rfl rfl (Pu (SO (s2 c) (nb+1) hk.k2 omT A B A.length (s2 c).rob.length kk rfl rfl hG) 7 22 _ _ ⟨⟨rfl,rfl,rfl,rfl⟩,⟨rfl,rfl,rfl,rfl⟩,trivial⟩ (by decide)) ?_;rintro _ _ ⟨rfl,⟨hz,rfl⟩|⟨_,A,B,kk,rfl|rfl,hl,rfl⟩⟩
  ·refine rE 28<|cRg<|rV (vI 3) rfl<|oR 1 rfl<|rE 30 ?_;refine .mk _ (.refl _) ⟨.e3,λ i=>i,Weak.of_lists _ wT ⟨⟨rfl,rfl,rfl⟩,⟨rfl,(Hr (c:=s3 c) rfl rfl rfl rfl),rfl⟩,trivial⟩ rfl,rfl,hz,by show (4:Nat)<5;decide⟩
  ·refine rE 28<|cRg<|rV (vI 3) rfl<|oR 1 rfl<|rE 30 ?_;refine .mk _ (.refl _) ⟨(.o3 A B kk),λ i=>i,Weak.of_lists _ wT ⟨⟨rfl,rfl,rfl⟩,⟨rfl,(Hr (c:=s3 c) rfl rfl rfl rfl),rfl⟩,⟨rfl,rfl,rfl⟩,trivial⟩ rfl,rfl,hl,by show (4:Nat)<5;decide⟩
  ·refine rE 28<|cRg<|rV (vI 3) rfl<|oR 1 rfl<|rE 30 ?_;refine .mk _ (.refl _) ⟨(.o3 A B kk),λ i=>match i with|22=>27|i=>i,Weak.of_lists _ wT ⟨⟨rfl,rfl,rfl⟩,⟨rfl,(Hr (c:=s3 c) rfl rfl rfl rfl),rfl⟩,⟨rfl,rfl,rfl⟩,trivial⟩ rfl,rfl,hl,by show (4:Nat)<5;decide⟩
 ·have hG:(s3 c).rob=[]:=hq;refine cSR<|rV (vB true) rfl<|rE 24<|bI ?_;refine aQ rfl (λ _=>?_) (λ h=>by cases h);refine aY<|bI<|bE<|cSR<|nW (.clo 55 [] []) rfl rfl (⟨by decide,by decide⟩)<|oR 1 rfl<|rE 26<|cRg<|oR 1 rfl<|fX (args:=[.ptr 7 0]) (d:=26) _ rfl rfl rfl ((SP (s3 c) (nb+5) hk.k3 hG true false false ((s3 c).fetched.map ftL) ((s3 c).retired.map spL)).frameB (λ _=>7) _ _ rfl ⟨⟨rfl,rfl,rfl,rfl⟩,trivial⟩ rfl rfl rfl rfl) ?_;rintro _ _ ⟨rfl,rfl⟩;refine rE 28<|cRg<|rV (vI 4) rfl<|oR 1 rfl<|rE 30 ?_;refine .mk _ (.refl _) ⟨.s4,λ i=>i,Weak.of_lists _ wT ⟨⟨rfl,rfl,rfl⟩,⟨rfl,(Hr (c:=s4 c) (congrArg (λ z:List Ent=>AV.sl 17 (z.map enL) false) (Pr hG (oA hk.k3 omT).1)) (congrArg (λ z:List Ft=>AV.sl 2 (z.map ftL) true) (show (s3 c).fetched=(s4 c).fetched from ((oA hk.k3 omT).2.2.1).symm)) rfl (congrArg (λ z:List Sp=>AV.sl 9 (z.map spL) false) (show (s3 c).retired=(s4 c).retired from ((oA hk.k3 omT).2.2.2).symm))),rfl⟩,trivial⟩ rfl,rfl,trivial,by show (3:Nat)<4;decide⟩
 ·have hG:A.length+(s3 c).rob.length+B.length≤1000:=hq;refine cSR<|rV (vB true) rfl<|rE 24<|bI ?_;refine aQ rfl (λ _=>?_) (λ h=>by cases h);refine aY<|bI<|bE<|cSR<|nW (.clo 55 [] []) rfl rfl (⟨by decide,by decide⟩)<|oR 1 rfl<|rE 26<|cRg<|oR 1 rfl<|fX (args:=[.ptr 7 0]) (d:=26) _ rfl rfl rfl ((VS (s3 c) (nb+5) hk.k3 omT A B A.length (s3 c).rob.length kk true false false ((s3 c).fetched.map ftL) ((s3 c).retired.map spL) rfl rfl hG).frameB2 (λ z=>match z with|0=>7|_=>22) _ _ rfl ⟨⟨rfl,rfl,rfl,rfl⟩,⟨rfl,rfl,rfl,rfl⟩,trivial⟩ rfl rfl rfl rfl rfl) ?_;rintro _ _ ⟨rfl,rfl⟩;refine rE 28<|cRg<|rV (vI 4) rfl<|oR 1 rfl<|rE 30 ?_;refine .mk _ (.step (some (22,17,(A++(s4 c).rob++B).map enL)) (Ghost.of_lists (l:=[(2,.ptr 1 0),(9,vB (!(gH c))),(3,.ptr 7 0),(21,.agg [.clo 52 [] [],.clo 53 [] [],.clo 54 [] [],.clo 55 [] [],.clo 56 [] [],.clo 57 [] [],.clo 58 [] []]),(22,vI 4)]) (hp:=[(1,.box zCo),(7,.box (mcX (s4 c) (.sl 17 ((((A++(s4 c).rob++B).drop A.length).take (s3 c).rob.length).map enL) false) (.sl 2 ((s3 c).fetched.map ftL) true) (.sl 2 ((s4 c).stores.map ptL) false) (.sl 9 ((s3 c).retired.map spL) false)))]) rfl rfT ⟨⟨rfl,_,rfl,.refl _⟩,⟨rfl,_,rfl,LeB.boxL (rB (HJ (by simp only[aW];have:=(oA hk.k3 omT).1;show A.length+(s3 c).rob.length≤A.length+(fF (s3 c)).rob.length+B.length;omega)) (.refl _) (.refl _) (.refl _))⟩,trivial⟩) (.refl _)) ⟨.s4,λ i=>i,Weak.of_lists _ wT ⟨⟨rfl,rfl,rfl⟩,⟨rfl,(Hr (c:=s4 c) (congrArg (λ z:List Ent=>AV.sl 17 (z.map enL) false) (Pw rfl (oA hk.k3 omT).1)) (congrArg (λ z:List Ft=>AV.sl 2 (z.map ftL) true) (show (s3 c).fetched=(s4 c).fetched from ((oA hk.k3 omT).2.2.1).symm)) rfl (congrArg (λ z:List Sp=>AV.sl 9 (z.map spL) false) (show (s3 c).retired=(s4 c).retired from ((oA hk.k3 omT).2.2.2).symm))),rfl⟩,trivial⟩ rfl,rfl,trivial,by show (3:Nat)<4;decide⟩
 ·refine cSR<|rV (vB true) rfl<|rE 24<|bI ?_;refine aQ rfl (λ _=>?_) (λ h=>by cases h);refine aY<|bI<|bE<|cSR<|nW (.clo 56 [] []) rfl rfl (⟨by decide,by decide⟩)<|oR 1 rfl<|rE 26<|cRg<|oR 1 rfl<|fX (args:=[.ptr 7 0]) (d:=26) _ rfl rfl rfl ((VU (s4 c) (nb+7) hk.k4 false ((s4 c).stores.map ptL) false ((s4 c).retired.map spL)).frameB (λ _=>7) _ _ rfl ⟨⟨rfl,rfl,rfl,rfl⟩,trivial⟩ rfl rfl rfl rfl) ?_;rintro _ _ ⟨rfl,rfl⟩;refine rE 28<|cRg<|rV (vI 5) rfl<|oR 1 rfl<|rE 30 ?_;refine .mk _ (.refl _) ⟨.s5,λ i=>i,Weak.of_lists _ wT ⟨⟨rfl,rfl,rfl⟩,⟨rfl,(Hr (c:=s5 c) rfl rfl (congrArg (λ z:List Pt=>AV.sl 2 (z.map ptL) false) (show (s4 c).stores=(s5 c).stores from ((zS hk.k4).2.1).symm)) (congrArg (λ z:List Sp=>AV.sl 9 (z.map spL) false) (show (s4 c).retired=(s5 c).retired from ((zS hk.k4).2.2).symm))),rfl⟩,trivial⟩ rfl,rfl,trivial,by show (2:Nat)<3;decide⟩
 ·refine cSR<|rV (vB true) rfl<|rE 24<|bI ?_;refine aQ rfl (λ _=>?_) (λ h=>by cases h);refine aY<|bI<|bE<|cSR<|nW (.clo 57 [] []) rfl rfl (⟨by decide,by decide⟩)<|oR 1 rfl<|rE 26<|cRg<|oR 1 rfl<|fX (args:=[.ptr 7 0]) (d:=26) _ rfl rfl rfl ((SR (s5 c) (nb+7) hk.k5 false ((s5 c).rob.map enL) false ((s5 c).stores.map ptL) false ((s5 c).retired.map spL)).frameB (λ _=>7) _ _ rfl ⟨⟨rfl,rfl,rfl,rfl⟩,trivial⟩ rfl rfl rfl rfl) ?_;rintro _ _ ⟨rfl,rfl⟩;refine rE 28<|cRg<|rV (vI 6) rfl<|oR 1 rfl<|rE 30 ?_;refine .mk _ (.refl _) ⟨.s6,λ i=>i,Weak.of_lists _ wT ⟨⟨rfl,rfl,rfl⟩,⟨rfl,(Hr (c:=s6 c) (congrArg (λ z:List Ent=>AV.sl 17 (z.map enL) false) (show (s5 c).rob=(s6 c).rob from ((uO hk.k5 omT).2.2.2).symm)) rfl (congrArg (λ z:List Pt=>AV.sl 2 (z.map ptL) false) (show (s5 c).stores=(s6 c).stores from ((uO hk.k5 omT).2.1).symm)) (congrArg (λ z:List Sp=>AV.sl 9 (z.map spL) false) (show (s5 c).retired=(s6 c).retired from ((uO hk.k5 omT).2.2.1).symm))),rfl⟩,trivial⟩ rfl,rfl,trivial,by show (1:Nat)<2;decide⟩
 ·refine cSR<|rV (vB true) rfl<|rE 24<|bI ?_;refine aQ rfl (λ _=>?_) (λ h=>by cases h);refine aY<|bI<|bE<|cSR<|nW (.clo 58 [] []) rfl rfl (⟨by decide,by decide⟩)<|oR 1 rfl<|rE 26<|cRg<|oR 1 rfl<|fX (args:=[.ptr 7 0]) (d:=26) _ rfl rfl rfl ((VW (s6 c) (nb+8) hk.k6 omT false ((s6 c).rob.map enL) false ((s6 c).fetched.map ftL) false ((s6 c).retired.map spL)).frameB (λ _=>7) _ _ rfl ⟨⟨rfl,rfl,rfl,rfl⟩,trivial⟩ rfl rfl rfl rfl) ?_;rintro _ _ ⟨rfl,rfl⟩;refine rE 28<|cRg<|rV (vI 7) rfl<|oR 1 rfl<|rE 30 ?_;refine .mk _ (.refl _) ⟨.s7,λ i=>i,Weak.of_lists _ wT ⟨⟨rfl,rfl,rfl⟩,⟨rfl,(Hr (c:=s7 c) (congrArg (λ z:List Ent=>AV.sl 17 (z.map enL) false) (show (s6 c).rob=(s7 c).rob from ((wG hk.k6 omT).2.2.2).symm)) (congrArg (λ z:List Ft=>AV.sl 2 (z.map ftL) false) (show (s6 c).fetched=(s7 c).fetched from ((wG hk.k6 omT).2.1).symm)) rfl (congrArg (λ z:List Sp=>AV.sl 9 (z.map spL) false) (show (s6 c).retired=(s7 c).retired from ((wG hk.k6 omT).2.2.1).symm))),rfl⟩,trivial⟩ rfl,rfl,trivial,by show (0:Nat)<1;decide⟩
 ·refine cSR<|rV (vB false) rfl<|rE 24<|bI ?_;refine aQ rfl (λ h=>by cases h) (λ _=>?_);refine dR ?_;exact hQ _ (λ s=>s) (Weak.of_lists (λ s=>s) wT wH rfl)
theorem XW(c:Co)(nb:Nat)(hok:c.ok nb)(hb:nb+20≤890000)(hr:gH c=true)(h0:c.rob=[]):bV C0 25 [.agg (coL c)] (.agg (coL (lI c))):=by
 refine dc1 (bV.intro c1Ok Tryz.func25 rfl rfl (by kernel_rfl) rfl ?_);have hm:=BN hok omT hr;have hk:=Jk hm hb;refine cSR<|rAl 0 rfl rfl<|rAl 1 rfl rfl<|rE 2<|bI<|cSR<|oR 1 rfl<|rCi rfl (DB c nb hok omT)<|oR 1 rfl<|rE 5 ?_;refine aQ rfl (λ h1=>by exact absurd hr (UJ h1)) (λ _=>?_);refine aY<|cSR<|oR 1 rfl<|rV (.agg (coL c)) rfl<|rAl 7 rfl rfl<|rSx 7 (coL c) rfl rfl rfl<|rE 9<|cSR<|fX (args:=[.ptr 7 0]) (d:=13) _ rfl rfl rfl ((show qF C0.P C0.G 51 [.ptr 0 0] (heapF [(0,.box (mcX c (.sl 17 (c.rob.map enL) false) (.sl 2 (c.fetched.map ftL) false) (.sl 2 (c.stores.map ptL) false) (.sl 9 (c.retired.map spL) false)))]) 1 _ from by rw[h0];exact aaN c nb hm false false false false).frameB (λ _=>7) _ _ rfl ⟨⟨rfl,rfl,rfl,rfl⟩,trivial⟩ rfl rfl rfl rfl) ?_;rintro _ _ ⟨rfl,rfl⟩;refine rE 10<|cSR<|oR 3 rfl<|rW (vI (wrap64 (c.cycle+1))) rfl (okI (w64 _))<|oR 2 rfl<|rSx 7 (mcX ({c with cycle:=wrap64 (c.cycle+1)}:Co) (.sl 17 ([]) false) (.sl 2 (c.fetched.map ftL) true) (.sl 2 (c.stores.map ptL) true) (.sl 9 (c.retired.map spL) true)) rfl rfl rfl<|rE 17<|cSR<|rV (.agg [.clo 52 [] [],.clo 53 [] [],.clo 54 [] [],.clo 55 [] [],.clo 56 [] [],.clo 57 [] [],.clo 58 [] []]) rfl<|rAl 18 rfl rfl<|rSt rfl<|rE 20 ?_;refine CG (κ:=Unit) (λ u_=>⟨slotsF [(2,.ptr 1 0),(3,.ptr 7 0)],heapF [(1,.box zCo),(7,.box (mcX (s7 c) (.sl 17 ((s7 c).rob.map enL) false) (.sl 2 ((s7 c).fetched.map ftL) false) (.sl 2 ((s7 c).stores.map ptL) false) (.sl 9 ((s7 c).retired.map spL) false)))],23⟩) (λ u_=>True) ?_ ?_
 ·refine cSR<|oR 2 rfl<|rE 22 ?_;refine Mh c nb hm hb hk ?_ .e0 h0 (λ s=>s) (Weak.of_lists (λ s=>s) wT wH rfl);intro st' σ h;exact .mk _ (.refl _) ⟨(),σ,h,rfl,trivial⟩
 ·intro u_ _;refine cSR<|oR 2 rfl<|rSx 1 (mcX (s7 c) (.sl 17 ((s7 c).rob.map enL) false) (.sl 2 ((s7 c).fetched.map ftL) false) (.sl 2 ((s7 c).stores.map ptL) false) (.sl 9 ((s7 c).retired.map spL) false)) rfl rfl rfl<|rE 26<|cM ?_;rw[show lI c=s7 c from if_pos hr];exact eW rfl tvT rfl rfl
theorem XX(c:Co)(nb:Nat)(hok:c.ok nb)(hb:nb+20≤890000)(hr:gH c=true)(hne:c.rob≠[]):bV C0 25 [.agg (coL c)] (.agg (coL (lI c))):=by
 refine dc1 (bV.intro c1Ok Tryz.func25 rfl rfl (by kernel_rfl) rfl ?_);have hm:=BN hok omT hr;have hk:=Jk hm hb;refine cSR<|rAl 0 rfl rfl<|rAl 1 rfl rfl<|rE 2<|bI<|cSR<|oR 1 rfl<|rCi rfl (DB c nb hok omT)<|oR 1 rfl<|rE 5 ?_;refine aQ rfl (λ h1=>by exact absurd hr (UJ h1)) (λ _=>?_);refine aY<|cSR<|oR 1 rfl<|rV (.agg (coL c)) rfl<|rAl 7 rfl rfl<|rSx 7 (coL c) rfl rfl rfl<|rE 9<|cSR<|fX (args:=[.ptr 7 0]) (d:=13) _ rfl rfl rfl (XZ (ZC c nb hm hne false false false false) 7 _ _ ⟨⟨rfl,rfl,rfl,rfl⟩,trivial⟩) ?_;rintro _ _ ⟨rfl,rfl⟩;refine rE 10<|cSR<|oR 3 rfl<|rW (vI (wrap64 (c.cycle+1))) rfl (okI (w64 _))<|oR 2 rfl<|rSx 7 (mcX ({c with cycle:=wrap64 (c.cycle+1)}:Co) (.osl 9 0 c.rob.length false) (.sl 2 (c.fetched.map ftL) true) (.sl 2 (c.stores.map ptL) true) (.sl 9 (c.retired.map spL) true)) rfl rfl rfl<|rE 17<|cSR<|rV (.agg [.clo 52 [] [],.clo 53 [] [],.clo 54 [] [],.clo 55 [] [],.clo 56 [] [],.clo 57 [] [],.clo 58 [] []]) rfl<|rAl 18 rfl rfl<|rSt rfl<|rE 20 ?_;refine CG (κ:=Unit) (λ u_=>⟨slotsF [(2,.ptr 1 0),(3,.ptr 7 0)],heapF [(1,.box zCo),(7,.box (mcX (s7 c) (.sl 17 ((s7 c).rob.map enL) false) (.sl 2 ((s7 c).fetched.map ftL) false) (.sl 2 ((s7 c).stores.map ptL) false) (.sl 9 ((s7 c).retired.map spL) false)))],23⟩) (λ u_=>True) ?_ ?_
 ·refine cSR<|oR 2 rfl<|rE 22 ?_;refine Mh c nb hm hb hk ?_ .o0 trivial (λ i=>match i with|22=>9|i=>i) (Weak.of_lists (λ i=>match i with|22=>9|i=>i) wT ⟨⟨rfl,rfl,rfl⟩,⟨rfl,rfl,rfl⟩,⟨rfl,(by show some (Blk.arr (c.rob.map enL) 17)=some (Blk.arr (([]++c.rob++[]).map enL) 17);rw[iZ,dX]),rfl⟩,trivial⟩ rfl);intro st' σ h;exact .mk _ (.refl _) ⟨(),σ,h,rfl,trivial⟩
 ·intro u_ _;refine cSR<|oR 2 rfl<|rSx 1 (mcX (s7 c) (.sl 17 ((s7 c).rob.map enL) false) (.sl 2 ((s7 c).fetched.map ftL) false) (.sl 2 ((s7 c).stores.map ptL) false) (.sl 9 ((s7 c).retired.map spL) false)) rfl rfl rfl<|rE 26<|cM ?_;rw[show lI c=s7 c from if_pos hr];exact eW rfl tvT rfl rfl
theorem VL(c:Co)(nb:Nat)(hok:c.ok nb)(hb:nb+20≤890000):bV C0 25 [.agg (coL c)] (.agg (coL (lI c))):=by
 cases hr:gH c with
 |false=>exact XV c nb hok hb hr
 |true=>
  by_cases h0:c.rob=[]
  ·exact XW c nb hok hb hr h0
  ·exact XX c nb hok hb hr h0
def xY(n:Int):Nat:=(min n 2000).toNat
theorem UF(a b:Int):(if b<a then b else a)=min a b:=by split<;>omega
theorem BK(a b:Int):(vZ a b).ok:=by
 unfold vZ;refine⟨?_,λ s hs=>?_⟩
 ·have h:(if aP a 1 4=3 then 2 else aP a 1 4).toNat≤4:=by unfold aP;(repeat' split)<;>omega
  show (List.replicate _ _).length≤_;rw[cC];omega
 ·rw[gL hs];exact⟨aE _,λ x hx=>by cases hx⟩
theorem Md:Ts.ok:=by
 refine⟨by decide,by decide,by decide,?_,?_⟩
 ·intro x hx;have:x=⟨0,0⟩:=gL (n:=8) hx;subst this;exact⟨aE _,aE _⟩
 ·intro x hx;cases hx
theorem BL(c:Cf)(prog:List Nat)(m:ByteArray)(hc:c.ok)(hp:∀ x∈prog,x≤4294967295):(eQ c prog m).ok 0:=by
 have hm:(lK m).size≤256:=by
  rw[Bj];unfold upS;repeat' split
  all_goals omega
 have hl:(prog.take (min prog.length 64)).length≤9223372036854775807:=by rw[aL];omega
 refine⟨⟨aN (Jy c) (by decide),aN (Gk c) (by decide),DC hc.tp⟩,hl,pW (P:=λ x=>x≤4294967295) hp,λ _=>aE _,aE _,aE _,(λ x hx=>by cases hx),aE _,(λ x hx=>by cases hx),aE _,(λ x hx=>by cases hx),BK _ _,BK _ _,aE _,(λ x hx=>by cases hx),(by show (0:Int)≤9223372036854775807;decide),(by show (0:Int)≤9223372036854775807;decide),?_,Md,aE _,(λ x hx=>by cases hx)⟩;show (lK m).size≤1000000;omega
theorem uN{c:Co}{n:Nat}(h:c.ok n):∀ k,n+10 * k+20≤890000→(jN c k).ok (n+10 * k)
 |0,_=>h
 |k+1,hb=>by
  have ih:=xJ (uN h k omT) omT;rw[show n+10 * (k+1)=n+10 * k+10 by omega];exact ih
theorem abC(c:Cf)(prog:List Nat)(m:ByteArray)(n:Int)(hc:c.ok)(hp:∀ x∈prog,x≤4294967295)(hl:prog.length≤1000):bV C0 28 [.agg (cfL c false false),.sl 1 (prog.map dI) false,.v (.string m),vI n] (.agg (coL (jN (eQ c prog m) (xY n)))):=by
 refine dc1 (bV.intro c1Ok Tryz.func28 rfl rfl (by kernel_rfl) rfl ?_);have hX:=BL c prog m hc hp;refine cSR<|rAl 0 rfl rfl<|rAl 1 rfl rfl<|rE 2<|cSR<|oR 3 rfl<|rCi rfl (MC c prog m hc omT)<|rAl 6 rfl rfl<|rSx 6 (coL (eQ c prog m)) rfl rfl rfl<|rE 8<|bI<|cSR<|oR 1 rfl ?_;refine rW (vI (min n 2000)) rfl (okI (UF n 2000))<|oR 1 rfl<|rE 11<|bE<|jG (κ:=Nat) (λ k=>⟨slotsF [(8,.ptr 1 0),(9,.ptr 6 0),(15,vI (min n 2000)),(16,vN k)],heapF [(0,.box [vI c.mode,vI c.width,vI c.rob,vI c.queue,vI c.stores,vI c.slots,vI c.sets,vI c.ways,.sl 1 (c.lat.map fD) false,vB c.tables,.sl 1 (c.tape.map dI) false]),(1,.box zCo),(6,.box (coL (jN (eQ c prog m) k)))],11⟩) (λ k=>k≤xY n) (λ k=>xY n - k) 0 (λ s=>s) (Weak.of_lists (λ s=>s) wT wH rfl) (aE _) ?_;intro k hk;have hkn:k≤xY n:=hk;have hkB:k≤2000:=by have:xY n≤2000:=(by unfold xY;omega);omega
 have hN:xY n=(min n 2000).toNat:=rfl;refine cSR<|rV (vB (decide ((k:Int)<(min n 2000)))) rfl<|rE 12<|bI ?_;refine aQ rfl (λ h1=>?_) (λ h1=>?_)
 ·have h1p:=of_decide_eq_true h1;refine aY<|bI<|bE<|cRg<|oR 1 rfl<|rCi rfl (VL (jN (eQ c prog m) k) (0+10 * k) (uN hX k omT) omT)<|rSx 6 (coL (lI (jN (eQ c prog m) k))) rfl rfl rfl<|rE 15<|cRg ?_;have b1:k+1≤2001:=aF hkB (aC 1);refine rW (vN (k+1)) rfl (okI (bL b1 rfl))<|oR 1 rfl<|rE 17 ?_;refine⟨k+1,λ s=>s,Weak.of_lists _ wT wH rfl,by omega,by show xY n - (k+1)<xY n - k;omega⟩
 ·have h1p:=aD h1;refine dR<|cSR<|oR 1 rfl<|rSx 1 (coL (jN (eQ c prog m) k)) rfl rfl rfl<|rE 14<|cM ?_;have hk2:k=xY n:=by omega
  rw[show jN (eQ c prog m) (xY n)=jN (eQ c prog m) k from by rw[hk2]];exact eW rfl tvT rfl rfl
open Go.RowKit Go.ChangeShapes Go.WideShapes Go.ChangeAt Go.Deep
theorem SE{n:Int}(h:(Lit.int .u32 n).wf=true):∃ m:Nat,n=m∧m≤4294967295:=by
 simp only[Lit.wf,IntKind.min,IntKind.max,IntKind.signed,IntKind.bits,aK,aZ]at h;simp at h;exact⟨n.toNat,by omega,by omega⟩
theorem BJ{cs:List AV}(h:TyV Tryz.prog 3 cs):∃ n:Int,cs=[.v (.int .i64 n)]∧True:=by
 have hu:=Tryz.underlying3
 cases h with
 |int h n hn=>rw[hu]at h;injection h with h;injection h with h;subst h;exact⟨n,rfl,trivial⟩
 |bool h=>rw[hu]at h;cases h
 |string h=>rw[hu]at h;cases h
 |slice h=>rw[hu]at h;cases h
 |struct h=>rw[hu]at h;cases h
 |array h=>rw[hu]at h;cases h
theorem XR{cs:List AV}(h:TyV Tryz.prog 26 cs):∃ n:Nat,cs=[.v (.int .u32 (n:Int))]∧n≤4294967295:=by
 have hu:=Tryz.underlying26
 cases h with
 |int h n hn=>
  rw[hu]at h;injection h with h;injection h with h;subst h;obtain⟨m,rfl,hm⟩:=SE hn
  exact⟨m,rfl,hm⟩
 |bool h=>rw[hu]at h;cases h
 |string h=>rw[hu]at h;cases h
 |slice h=>rw[hu]at h;cases h
 |struct h=>rw[hu]at h;cases h
 |array h=>rw[hu]at h;cases h
theorem VA{cs:List AV}(h:TyV Tryz.prog 4 cs):∃ b:Bool,cs=[.v (.bool b)]∧True:=by
 have hu:=Tryz.underlying4
 cases h with
 |bool h b=>exact⟨b,rfl,trivial⟩
 |int h=>rw[hu]at h;cases h
 |string h=>rw[hu]at h;cases h
 |slice h=>rw[hu]at h;cases h
 |struct h=>rw[hu]at h;cases h
 |array h=>rw[hu]at h;cases h
theorem Pm{α:Type}{f:α→List AV}{p:α→Prop}:∀ (rows:List (List AV)),(∀ row∈rows,∃ x,row=f x∧p x)→∃ l:List α,rows=l.map f∧l.length=rows.length∧∀ x∈l,p x
 |[],_=>⟨[],rfl,rfl,λ x h=>by cases h⟩
 |row::rows,h=>by
  obtain⟨x,rfl,hx⟩:=h row (bQ);obtain⟨l,rfl,hl,hp⟩:=Pm rows λ r hr=>h r (bX _ hr);exact⟨x::l,rfl,by simp,λ y hy=>by rcases al_List_mem_cons.1 hy with rfl|hy;exact hx;exact hp y hy⟩
theorem Mc{α:Type}{t e:TypeId}{k:Nat}{f:α→List AV}{p:α→Prop}(hu:Tryz.prog.underlying t=some (.slice e))(hk:Tryz.prog.cellsOf e=k)(hrow:∀ row,TyV Tryz.prog e row→∃ x,row=f x∧p x){cs:List AV}(h:TyV Tryz.prog t cs):
  ∃ l:List α,cs=[.sl k (l.map f) false]∧l.length≤9223372036854775807∧∀ x∈l,p x:=by
 cases h with
 |slice h rows hl hr hrs=>
  rw[hu]at h;injection h with h;injection h with h;subst h;subst hk;obtain⟨l,rfl,h1,h2⟩:=Pm rows λ row hrow'=>hrow row (hr row hrow')
  exact⟨l,rfl,aN (Nat.le_of_eq h1) (aN hl (by decide)),h2⟩
 |int h=>rw[hu]at h;cases h
 |bool h=>rw[hu]at h;cases h
 |string h=>rw[hu]at h;cases h
 |struct h=>rw[hu]at h;cases h
 |array h=>rw[hu]at h;cases h
theorem VB(row:List AV)(h:TyV Tryz.prog 26 row):∃ n:Nat,row=dI n∧n≤4294967295:=XR h
theorem VC(row:List AV)(h:TyV Tryz.prog 3 row):∃ n:Int,row=fD n∧True:=BJ h
theorem Pn{cs:List AV}(h:TyV Tryz.prog 23 cs):∃ l:List Nat,cs=[.sl 1 (l.map dI) false]∧l.length≤9223372036854775807∧∀ x∈l,(λ n:Nat=>n≤4294967295) x:=
 Mc (f:=dI) (p:=(λ n:Nat=>n≤4294967295)) Tryz.underlying23 (by kernel_rfl) (λ row hr=>VB _ hr) h
theorem VD{cs:List AV}(h:TyV Tryz.prog 22 cs):∃ l:List Int,cs=[.sl 1 (l.map fD) false]∧l.length≤9223372036854775807∧∀ x∈l,(λ (_:Int)=>True) x:=
 Mc (f:=fD) (p:=(λ (_:Int)=>True)) Tryz.underlying22 (by kernel_rfl) (λ row hr=>VC _ hr) h
theorem VE{cs:List AV}(h:TyV Tryz.prog 25 cs):∃ x:Cf,cs=cfL x false false∧x.okW:=by
 have hu:=Tryz.underlying25
 cases h with
 |bool h=>rw[hu]at h;cases h
 |int h=>rw[hu]at h;cases h
 |string h=>rw[hu]at h;cases h
 |slice h=>rw[hu]at h;cases h
 |array h=>rw[hu]at h;cases h
 |struct h parts hp=>
  rw[hu]at h;injection h with h;injection h with h;subst h;obtain⟨x0,e0,p0⟩:=BJ (hp 0 _ rfl);obtain⟨x1,e1,p1⟩:=BJ (hp 1 _ rfl);obtain⟨x2,e2,p2⟩:=BJ (hp 2 _ rfl);obtain⟨x3,e3,p3⟩:=BJ (hp 3 _ rfl);obtain⟨x4,e4,p4⟩:=BJ (hp 4 _ rfl);obtain⟨x5,e5,p5⟩:=BJ (hp 5 _ rfl);obtain⟨x6,e6,p6⟩:=BJ (hp 6 _ rfl);obtain⟨x7,e7,p7⟩:=BJ (hp 7 _ rfl);obtain⟨x8,e8,p8⟩:=VD (hp 8 _ rfl);obtain⟨x9,e9,p9⟩:=VA (hp 9 _ rfl);obtain⟨x10,e10,p10⟩:=Pn (hp 10 _ rfl);refine⟨⟨x0,x1,x2,x3,x4,x5,x6,x7,x8,x9,x10⟩,?_,⟨p8.1,p10.1,p10.2⟩⟩;show parts 0++(parts 1++(parts 2++(parts 3++(parts 4++(parts 5++(parts 6++(parts 7++(parts 8++(parts 9++(parts 10++[]))))))))))=_;rw[e0,e1,e2,e3,e4,e5,e6,e7,e8,e9,e10];rfl
structure Co.okA(c:Co):Prop where
 conf:c.conf.okW
 prog:c.prog.length≤9223372036854775807
 progo:∀ x∈c.prog,x≤4294967295
 r:∀ k,c.r k≤4294967295
 fetch:c.fetch≤4294967295
 fet:c.fetched.length≤9223372036854775807
 feto:∀ x∈c.fetched,x.ok
 rob:c.rob.length≤9223372036854775807
 robo:∀ x∈c.rob,x.ok
 sto:c.stores.length≤9223372036854775807
 stoo:∀ x∈c.stores,x.ok
 data:c.data.ok
 words:c.words.ok
 bus:c.bus.length≤9223372036854775807
 buso:∀ x∈c.bus,x.ok
 asked:c.asked≤9223372036854775807
 guessed:c.guessed≤9223372036854775807
 mem:c.mem.size≤9223372036854775807
 guess:c.guess.ok
 ret:c.retired.length≤9223372036854775807
 reto:∀ x∈c.retired,x.ok
theorem Ej{H:Type}{enc:TypeId×Value→H}{w:World}{base:Nat}{spare:Nat→Bool}{held:Bool}{r:Reach}{b0:Nat}{v:Value}{d:DataW H}{p:List MemPlace}
  (hv:Value.okWide Tryz.prog w r b0 25 v) (h:DataW.Trod enc Tryz.prog w base spare held 25 v d p):
  ∃ c:Cf,Rep (· <w.heap.size) w noB (.agg (cfL c false false)) v∧c.okW:=by
 obtain⟨cs,rfl,hsz⟩:=okWide_struct Tryz.underlying25 hv;obtain⟨fuel,hf⟩:=h;obtain⟨cells,ho⟩:=vL 6 fuel _ _ _ hf (by kernel_rfl);obtain⟨c,rfl,hc⟩:=VE ho.ty;refine⟨c,.agg _ cs ?_ (λ i u hu=>ho.one u ?_) (λ i a u h1 h2=>ho.rep.2 i a u h1 ?_),hc⟩
 ·exact ho.rep.1
 ·exact Iy.2 (kB hu)
 ·show cs.toList[i]?=some u;rw[bK];exact h2
theorem Jg{H:Type}{enc:TypeId×Value→H}{w:World}{base:Nat}{spare:Nat→Bool}{held:Bool}{r:Reach}{b0:Nat}{v:Value}{d:DataW H}{p:List MemPlace}
  (hv:Value.okWide Tryz.prog w r b0 23 v) (h:DataW.Trod enc Tryz.prog w base spare held 23 v d p):
  ∃ l:List Nat,(∀ x∈l,x≤4294967295)∧l.length≤9223372036854775807∧Rep (· <w.heap.size) w noB (.sl 1 (l.map dI) false) v:=by
 obtain⟨a0,len,cap,rfl⟩:=okWide_slice Tryz.underlying23 hv;obtain⟨fuel,hf⟩:=h;obtain⟨cs,ho⟩:=vL 3 fuel _ _ _ hf (by kernel_rfl);obtain⟨l,rfl,h1,h2⟩:=Pn ho.ty;exact⟨l,h2,h1,ho.rep.2 0 _ _ rfl rfl⟩
theorem Po{w:World}(h:Ef w):0<w.heap.size:=by
 have:=h 0 (by decide);unfold World.cell? at this
 cases hq:w.heap[0]? with
 |none=>simp[hq]at this
 |some o=>exact (Du.1 hq).1
theorem bV.law{f:FuncId}{args:List AV}{vs:List Value}{w:World}(h:bV C0 f args (.v (.bool true)))(hC:Ef w)(ha:RepL (· <w.heap.size) w noB args vs):
  Calls Tryz.prog f vs.toArray w λ e w'=>e=.returned (.bool true)∧Below w.heap.size w w':=
 (h.2 (· <w.heap.size) w vs (λ _ h=>h) (abO hC (Po hC)) ha).mono λ e w' ⟨v,h1,h2,h3⟩=>⟨by rw[h1,lP h3],h2⟩
open Go.RowKit Go.ChangeShapes Go.WideShapes
theorem Nd{P:Program}{w:World}{r:Reach}{base:Nat}{t:TypeId}{v:Value}(ht:P.underlying t=some .string)(h:Value.okWide P w r base t v):∃ s,v=.string s∧s.size<9223372036854775808:=by
 obtain⟨s,rfl⟩:=okWide_string ht h;refine⟨s,rfl,?_⟩;have h2:IntKind.i64.max=9223372036854775807:=rfl;have h3:(s.size:Int)≤IntKind.i64.max:=by simpa [Value.okWide,Cell.okWide,Cell.ok,ht]using h
 omega
def Ue:Cf:=⟨0,0,0,0,0,0,0,0,[],false,[]⟩
theorem Za:(jN (eQ Ue [1048691] mR) (xY 20)).halt=7∧(jN (eQ Ue [1048691] mR) (xY 20)).retired.length=1:=by
 decide+kernel
theorem tM(a:ByteArray):(a==a)=true:=by
 show (a.data==a.data)=true;exact iL _
theorem bV.of_sub{C:Ctx}{f:FuncId}{xs ys:List AV}{r:AV}(h:bV C f xs r)(k:Xw ys xs):bV C f ys r:=by
 obtain⟨k1,k2⟩:=k.get;refine⟨h.1,λ S w vs hS hG hr=>h.2 S w vs hS hG ⟨k1 ▸ hr.1,λ i a v ha hv=>?_⟩⟩;have hi:i<ys.length:=by rw[k1];exact (DN.1 ha).1
 exact k2 i _ a (aA hi) ha _ _ _ (hr.2 i _ v (aA hi) hv)
theorem YY:bV C0 28 [.agg [vI 0,vI 0,vI 0,vI 0,vI 0,vI 0,vI 0,vI 0,.sl 0 [] true,vB false,.sl 0 [] true],.sl 1 [[vU 1048691]] true,.v (.string mR),vI 20] (.agg (coL (jN (eQ Ue [1048691] mR) (xY 20)))):=
 (abC Ue [1048691] mR 20 ⟨aE _,aE _,λ x hx=>by cases hx⟩ (λ x hx=>by rw[uD.1 hx];decide) (by decide)).of_sub ⟨Sub.agg ⟨Sub.refl _,Sub.refl _,Sub.refl _,Sub.refl _,Sub.refl _,Sub.refl _,Sub.refl _,Sub.refl _,mQ 1 false,Sub.refl _,mQ 1 false,trivial⟩,Sub.clip _ _ _,Sub.refl _,Sub.refl _,trivial⟩
theorem YZ:bV C0 17 [] (vB true):=by
 refine dc1 (bV.intro c1Ok Tryz.func17 rfl rfl (by kernel_rfl) rfl ?_);have hnb:(200:Nat)≤890000:=by decide
 refine cSR<|oR 1 rfl<|rE 1<|cSR<|rV (.agg [vI 0,vI 0,vI 0,vI 0,vI 0,vI 0,vI 0,vI 0,.sl 0 ([]) true,vB false,.sl 0 ([]) true]) rfl<|rV (.sl 1 ([[.v (.int .u32 1048691)]]) true) rfl<|rCi rfl (YY)<|rAl 4 rfl rfl<|rSx 4 (coL (jN (eQ Ue [1048691] mR) (xY 20))) rfl rfl rfl<|rE 6<|cSR<|oR 2 rfl<|rV (vB (((jN (eQ Ue [1048691] mR) (xY 20)).halt)==7)) rfl ?_;refine oR 1 rfl<|gN rfl<|gS rfl id<|gBS (x:=vN (((jN (eQ Ue [1048691] mR) (xY 20)).retired).length)) rfl id (bJ spL ((jN (eQ Ue [1048691] mR) (xY 20)).retired))<|gBS (x:=vB ((((jN (eQ Ue [1048691] mR) (xY 20)).retired).length)==1)) rfl id (okB (eqN _ _))<|cL rfl rfl rfl (λ h=>h)<|oR 1 rfl<|rE 16<|cM ?_;exact fT rfl (dH (by simp[c2a,Za.1,Za.2]))
structure Kp(c d:Co):Prop where
 cycle:d.cycle=c.cycle
 ret:c.retired.length≤d.retired.length
 mem:d.mem.size=c.mem.size
theorem Kp.refl(c:Co):Kp c c:=⟨rfl,aC _,rfl⟩
theorem Kp.trans{a b c:Co}(h:Kp a b)(k:Kp b c):Kp a c:=⟨k.cycle.trans h.cycle,aN h.ret k.ret,k.mem.trans h.mem⟩
theorem Ub(c:Co):Kp c (jL c):=by
 rw[iM];split
 ·unfold Be
  repeat' split
  ·exact⟨rfl,aC _,rfl⟩
  ·exact⟨rfl,aC _,rfl⟩
  ·rw[←pB];exact⟨rfl,aC _,rfl⟩
  ·exact⟨rfl,aC _,iB ..⟩
  ·exact⟨rfl,aC _,rfl⟩
 ·exact⟨rfl,aC _,rfl⟩
theorem Uc(c:Co):Kp c (iD c):=by
 unfold iD;split
 ·exact .refl c
 ·split<;>exact⟨rfl,aC _,rfl⟩
theorem Rp(d:Co)(e:Ent):Kp d (xL d e):=⟨rfl,(by show d.retired.length≤(d.retired++[bH e]).length;simp),rfl⟩
theorem Rq(d:Co)(e:Ent):Kp d (Et d e):=⟨rfl,(by show d.retired.length≤(d.retired++[bH e]).length;simp),rfl⟩
theorem Bm:∀ (n:Nat) (c:Co),Kp c (eB n c)
 |0,c=>.refl c
 | n +1,c=>by
  by_cases h0:c.halt≠0∨c.rob.length=0
  ·rw[jE h0];exact .refl c
  ·have hx:c.rob[0]?=some (c.rob[0]'omT):=aA omT;rw[fV omT (λ q=>h0 (.inl q)) hx];split
   ·exact .refl c
   ·split
    ·exact⟨rfl,(by show c.retired.length≤(c.retired++[_]).length;simp),rfl⟩
    ·split
     ·exact .refl c
     ·rw[gK];by_cases hk:kindOf (c.rob[0]'omT).i.op=3
      ·rw[zX hk];exact (Rq c _).trans (Bm n _)
      ·rw[tY hk];exact (Rp c _).trans (Bm n _)
theorem Xh(c:Co)(i:Nat):Kp c (kL c i):=by
 unfold kL
 cases c.rob[i]? with
 |none=>exact .refl c
 |some e=>
  dsimp only
  repeat' split
  all_goals exact⟨rfl,aC _,rfl⟩
theorem Ud(c:Co)(i:Nat):Kp c (fH c i):=by
 unfold fH
 cases c.rob[i]? with
 |none=>exact .refl c
 | some e=>
  dsimp only;split
  ·exact⟨rfl,aC _,rfl⟩
  ·split
   ·exact Kp.trans (b:=setE c i (qY e c.mem.size (lQ c.rob c.r i).1)) ⟨rfl,aC _,rfl⟩ (Xh _ i)
   ·exact⟨rfl,aC _,rfl⟩
theorem Ki:∀ (p:List Nat) (c:Co),Kp c (p.foldl fH c)
 |[],c=>.refl c
 |i::p,c=>(Ud c i).trans (Ki p _)
theorem Rr(c:Co):Kp c (fF c):=by
 unfold fF;split
 ·exact .refl c
 ·exact Ki _ c
theorem GC:∀ (n:Nat) (c:Co),Kp c (jM n c)
 |0,c=>.refl c
 | n+1,c=>by
  by_cases h0:(c.rob.length:Int)≥c.conf.rob∨c.fetched.length=0
  ·rw[rI h0];exact .refl c
  ·have hx:c.fetched[0]?=some (c.fetched[0]'omT):=aA omT;have e:=uU (n:=n+1) (k:=0) omT (λ q=>h0 (.inl q)) hx;rw[show n+1 - (0+1)=n by omega,show n+1 - 0=n+1 by omega]at e;rw[←e];have h1:Kp c (Gg c (c.fetched[0]'omT)):=⟨rfl,aC _,rfl⟩;exact h1.trans (GC n _)
theorem Rs(c:Co):Kp c (iP c):=by
 unfold iP;split
 ·exact .refl c
 ·exact GC _ c
theorem Rt(c:Co):Kp c (ab9 c):=by
 have h:Kp (gY c) (cQ (gY c) (fetchW c.prog c.fetch)).1:=by
  unfold cQ;split
  ·exact .refl _
  ·split<;>exact⟨rfl,aC _,rfl⟩
 exact⟨h.cycle,h.ret,h.mem⟩
theorem EZ:∀ (n:Nat) (c:Co),Kp c (eG n c)
 |0,c=>.refl c
 | n +1,c=>by
  by_cases h0:c.stop=true∨(c.fetched.length:Int)≥c.conf.queue
  ·rw[pV h0];exact .refl c
  ·by_cases hf:(fetchP c.prog c.fetch).isSome=false
   ·rw[rJ omT h0 hf];exact⟨rfl,aC _,rfl⟩
   ·by_cases hw:(bF c.words (lineOf c.fetch)).2.isSome=false
    ·rw[nQ omT h0 hf hw];split
     ·exact⟨rfl,aC _,rfl⟩
     ·exact .refl c
    ·have e:=tG (n:=n+1) (k:=0) omT h0 hf hw;rw[show n+1 - (0+1)=n by omega,show n+1 - 0=n+1 by omega]at e;rw[←e];exact (Rt c).trans (EZ n _)
theorem Om(c:Co):Kp c (dY c):=by
 unfold dY;split
 ·exact .refl c
 ·exact EZ _ c
theorem LE(c:Co):Kp c (mV c):=by
 unfold mV;split
 ·exact .refl c
 ·split
  ·exact⟨rfl,aC _,rfl⟩
  ·exact .refl c
theorem GD(c:Co):Kp c (kJ c):=by
 unfold kJ;split
 ·exact .refl c
 ·unfold mI;split
  ·split
   ·exact⟨rfl,aC _,rfl⟩
   ·exact .refl c
  ·exact .refl c
theorem Ru(c:Co):Kp c (pX c):=by
 have h1:Kp c (aU c):=⟨rfl,aC _,rfl⟩;rw[jJ];split
 ·exact (h1.trans (LE _)).trans (GD _)
 ·exact h1.trans (GD _)
theorem Xi(c:Co):Kp (s0 c) (Qm c):=
 ((((((Ub (s0 c)).trans (Uc _)).trans (Bm _ _)).trans (Rr _)).trans (Rs _)).trans (Om _)).trans (Ru _)
theorem Xj{c:Co}(h:gH c=true):(lI c).cycle=wrap64 (c.cycle+1)∧c.retired.length≤(lI c).retired.length∧(lI c).mem.size=c.mem.size:=by
 have k:=Xi c;unfold lI;rw[if_pos h];exact⟨k.cycle,k.ret,k.mem⟩
def Kk(prog:List Nat):List Nat:=prog.take (min prog.length 64)
def On(m:ByteArray):ByteArray:=m.extract 0 (min m.size 300)
def upTo(a:Int)(hi:Nat):Nat:=(min (max a 0) hi).toNat
theorem Rv(a:Int)(hi:Nat):upTo a hi≤hi:=by unfold upTo;omega
theorem Rw(a:Int)(hi:Nat):(if (hi:Int)<max a 0 then (hi:Int)else max a 0)=((upTo a hi:Nat):Int):=by unfold upTo;split<;>omega
theorem Vh(a b:Int):(if b>a then b else a)=max a b:=by split<;>omega
end Go.Proofs.YtlhofpglndhfaaaGreatDoor
