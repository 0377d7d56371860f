/- Joined texts. -/
import Derived.WideShapes
import Derived.Test.YtgleompefdogkaaGreatDoorS1
import Derived.Test.YtgleompefdogkaaGreatDoorS8
import Derived.Test.YtgleompefdogkaaGreatDoorS28
import Derived.Test.YtgleompefdogkaaGreatDoorS29
import Derived.Test.YtgleompefdogkaaGreatDoorS34
set_option linter.unusedVariables false
set_option linter.unusedSimpArgs false
set_option linter.defProp false
namespace Go.Proofs.YtgleompefdogkaaGreatDoor
set_option maxRecDepth 100000
set_option maxHeartbeats 4000000
open Go.RowKit
def s0(c:Co):Co:={c with cycle:=wrap64 (c.cycle+1)}
def s1(c:Co):Co:=jO (s0 c)
def s2(c:Co):Co:=gZ (s1 c)
def s3(c:Co):Co:=dP (s2 c)
def s4(c:Co):Co:=eW (s3 c)
def s5(c:Co):Co:=iP (s4 c)
def s6(c:Co):Co:=dS (s5 c)
def s7(c:Co):Co:=pT (s6 c)
def Sx(c:Co):Qd c=s7 c:=rfl
def XE{c:Co}{n:Nat}(h:c.okM n):(s0 c).okM n:=⟨⟨h.ok.conf,h.ok.prog,h.ok.progo,h.ok.r,h.ok.fetch,h.ok.fet,h.ok.feto,h.ok.rob,h.ok.robo,h.ok.sto,h.ok.stoo,h.ok.data,h.ok.words,h.ok.bus,h.ok.buso,h.ok.asked,h.ok.guessed,h.ok.mem,h.ok.guess,h.ok.ret,h.ok.reto⟩,h.nb,h.cf,h.data,h.words,h.guess,h.rob,h.fet,h.sto,h.prog,h.mem,h.std⟩
structure StepOk(c:Co)(n:Nat):Prop where
 k0:(s0 c).okM n
 k1:(s1 c).okM (n+1)
 k2:(s2 c).okM (n+1)
 k3:(s3 c).okM (n+5)
 k4:(s4 c).okM (n+7)
 k5:(s5 c).okM (n+7)
 k6:(s6 c).okM (n+8)
 k7:(s7 c).okM (n+10)
def Jh{c:Co}{n:Nat}(h:c.okM n)(hb:n+20<=890000):StepOk c n:=by
 have k0:=XE h;have k1:(s1 c).okM (n+1):=KQ k0 omT;have k2:(s2 c).okM (n+1):=KS k1;have k3:(s3 c).okM (n+5):=Hu k2 omT;have k4:(s4 c).okM (n+7):=Ji k3 omT;have k5:(s5 c).okM (n+7):=(Aj k4).1;have k6:(s6 c).okM (n+8):=(uY k5 omT).1;exact⟨k0,k1,k2,k3,k4,k5,k6,(wS k6 omT).1⟩
def Ah{c:Co}{n:Nat}(h:c.ok n)(hb:n+20<=890000):(lM c).ok (n+10):=by
 unfold lM;split
 ·rename_i hr;rw[Sx];exact(Jh (BT h omT hr) hb).k7.ok
 ·exact⟨h.conf,h.prog,h.progo,h.r,h.fetch,h.fet,h.feto,h.rob,h.robo,h.sto,h.stoo,h.data,h.words,aN h.bus omT,h.buso,h.asked,h.guessed,h.mem,h.guess,aN h.ret omT,h.reto⟩
def Ht{c:Co}{R R' F F' S S' T T':AV}(hR:R=R')(hF:F=F')(hS:S=S')(hT:T=T'):some (Blk.box (mcX c R F S T))=some (Blk.box (mcX c R' F' S' T')):=by rw[hR,hF,hS,hT]
inductive Stg where
 |e0|o0|e1|o1|e2
 |o2 (A B:List Ent) (k:Bool)
 |e3
 |o3 (A B:List Ent) (k:Bool)
 |s4|s5|s6|s7
def Zt(c:Co)(nb:Nat)(hm:c.okM nb)(hne:c.rob≠[])(kR kF kS kT:Bool):qE C0.P C0.G 24 [.ptr 0 0] (heapF [(0,.box (mcX c (.sl 17 (c.rob.map enL) kR) (.sl 2 (c.fetched.map ftL) kF) (.sl 2 (c.stores.map ptL) kS) (.sl 9 (c.retired.map spL) kT)))]) 1 (λx h'=>x=.tup []∧h'=heapF [(0,.box (mcX c (.osl 1 0 c.rob.length false) (.sl 2 (c.fetched.map ftL) true) (.sl 2 (c.stores.map ptL) true) (.sl 9 (c.retired.map spL) true))),(1,.arr (c.rob.map enL) 17)]):=by
 obtain⟨e,l,hel⟩:=List.exists_cons_of_ne_nil hne;have hl:=hm.rob;rw[hel]at hl⊢;exact aaH c nb hm e l hl kR kF kS kT
def Vl(c:Co)(nb:Nat)(hm:c.okM nb)(A B:List Ent)(lo n:Nat)(kR:Bool)(hlo:A.length=lo)(hn:c.rob.length=n)(hA:A.length+n+B.length<=1000)(hAo:∀x∈A,x.ok)(hBo:∀x∈B,x.ok)(kS kT:Bool)(xS xT:List (List AV)):qE C0.P C0.G 26 [.ptr 0 0] (heapF [(0,.box (mcX c (.osl 1 lo n kR) (.sl 2 (c.fetched.map ftL) true) (.sl 2 xS kS) (.sl 9 xT kT))),(1,.arr ((A++c.rob++B).map enL) 17)]) 2 (λx h'=>x=.tup []∧Um 2 (gZ c) (.sl 2 ((gZ c).fetched.map ftL) true) (.sl 2 xS kS) (.sl 9 xT kT) h'):=by
 cases hw:yB (dA c)with
 |none=>exact Vq c nb hm A B lo n kR hlo hn hA hAo hBo hw kS kT xS xT
 |some i=>exact Vr c nb hm A B lo n kR hlo hn hA hAo hBo i hw kS kT xS xT
def Pi{α:Type}{l m:List α}(h:l=[])(e:m.length=l.length):[]=m:=by
 subst h;exact(aR e).symm
def Ul{b:Bool}(h:(!b)=true): ¬b=true:=by cases b<;>simp_all
def XF(c:Co)(nb:Nat)(hok:c.ok nb)(hb:nb+20<=890000)(hr:iA c=false):cA C0 9 [.agg (coL c)] (.agg (coL (lM c))):=by
 refine dc1 (cA.intro c1Ok Tryz.func9 rfl rfl (by kernel_rfl) rfl ?_);refine qS 0 rfl<|rCi rfl (HC c nb hok omT)<|qRC 0 rfl<|aS rfl (λ_=>?_) (λh1=>by exact absurd (dK (sL h1)) (by rw[hr];decide));refine qCN 0 rfl<|rSt rfl<|qRF 0 rfl ?_;rw[show lM c=c from if_neg (by rw[hr];decide)];exact dF rfl tvT rfl rfl
noncomputable def aa2:Code->Code
 | .seq a _=>a
 |c=>c
noncomputable def Vm:Code->Code
 | .seq _ b=>b
 |c=>c
noncomputable def Vn:Code:=(Vm (aa2 (Vm (Vm (Vm (Vm (Vm (Vm (Tryz.f9.body.getD .skip)))))))))
abbrev aaS(c:Co):Stg->ASt:=λz_=>match z_ with| .e0=>⟨slotsF [(2,.ptr 1 0),(9,vB (!(iA c))),(3,.ptr 7 0),(21,.agg [.clo 25 [] [],.clo 26 [] [],.clo 27 [] [],.clo 28 [] [],.clo 29 [] [],.clo 30 [] [],.clo 31 [] []]),(22,vI 0)],heapF [(1,.box zCo),(7,.box (mcX (s0 c) (.sl 17 ([]) false) (.sl 2 ((s0 c).fetched.map ftL) true) (.sl 2 ((s0 c).stores.map ptL) true) (.sl 9 ((s0 c).retired.map spL) true)))],23⟩| .o0=>⟨slotsF [(2,.ptr 1 0),(9,vB (!(iA c))),(3,.ptr 7 0),(21,.agg [.clo 25 [] [],.clo 26 [] [],.clo 27 [] [],.clo 28 [] [],.clo 29 [] [],.clo 30 [] [],.clo 31 [] []]),(22,vI 0)],heapF [(1,.box zCo),(7,.box (mcX (s0 c) (.osl 22 0 c.rob.length false) (.sl 2 ((s0 c).fetched.map ftL) true) (.sl 2 ((s0 c).stores.map ptL) true) (.sl 9 ((s0 c).retired.map spL) true))),(22,.arr ((([]:List Ent)++(s0 c).rob++[]).map enL) 17)],23⟩| .e1=>⟨slotsF [(2,.ptr 1 0),(9,vB (!(iA c))),(3,.ptr 7 0),(21,.agg [.clo 25 [] [],.clo 26 [] [],.clo 27 [] [],.clo 28 [] [],.clo 29 [] [],.clo 30 [] [],.clo 31 [] []]),(22,vI 1)],heapF [(1,.box zCo),(7,.box (mcX (s1 c) (.sl 17 ([]) false) (.sl 2 ((s1 c).fetched.map ftL) true) (.sl 2 ((s1 c).stores.map ptL) true) (.sl 9 ((s1 c).retired.map spL) true)))],23⟩| .o1=>⟨slotsF [(2,.ptr 1 0),(9,vB (!(iA c))),(3,.ptr 7 0),(21,.agg [.clo 25 [] [],.clo 26 [] [],.clo 27 [] [],.clo 28 [] [],.clo 29 [] [],.clo 30 [] [],.clo 31 [] []]),(22,vI 1)],heapF [(1,.box zCo),(7,.box (mcX (s1 c) (.osl 22 0 c.rob.length false) (.sl 2 ((s1 c).fetched.map ftL) true) (.sl 2 ((s1 c).stores.map ptL) true) (.sl 9 ((s1 c).retired.map spL) true))),(22,.arr ((([]:List Ent)++(s1 c).rob++[]).map enL) 17)],23⟩| .e2=>⟨slotsF [(2,.ptr 1 0),(9,vB (!(iA c))),(3,.ptr 7 0),(21,.agg [.clo 25 [] [],.clo 26 [] [],.clo 27 [] [],.clo 28 [] [],.clo 29 [] [],.clo 30 [] [],.clo 31 [] []]),(22,vI 2)],heapF [(1,.box zCo),(7,.box (mcX (s2 c) (.sl 17 ([]) false) (.sl 2 ((s2 c).fetched.map ftL) true) (.sl 2 ((s2 c).stores.map ptL) true) (.sl 9 ((s2 c).retired.map spL) true)))],23⟩| .o2 A B kk=>⟨slotsF [(2,.ptr 1 0),(9,vB (!(iA c))),(3,.ptr 7 0),(21,.agg [.clo 25 [] [],.clo 26 [] [],.clo 27 [] [],.clo 28 [] [],.clo 29 [] [],.clo 30 [] [],.clo 31 [] []]),(22,vI 2)],heapF [(1,.box zCo),(7,.box (mcX (s2 c) (.osl 22 A.length ((s2 c).rob.length) kk) (.sl 2 ((s2 c).fetched.map ftL) true) (.sl 2 ((s2 c).stores.map ptL) true) (.sl 9 ((s2 c).retired.map spL) true))),(22,.arr ((A++(s2 c).rob++B).map enL) 17)],23⟩| .e3=>⟨slotsF [(2,.ptr 1 0),(9,vB (!(iA c))),(3,.ptr 7 0),(21,.agg [.clo 25 [] [],.clo 26 [] [],.clo 27 [] [],.clo 28 [] [],.clo 29 [] [],.clo 30 [] [],.clo 31 [] []]),(22,vI 3)],heapF [(1,.box zCo),(7,.box (mcX (s3 c) (.sl 17 ([]) false) (.sl 2 ((s3 c).fetched.map ftL) true) (.sl 2 ((s3 c).stores.map ptL) false) (.sl 9 ((s3 c).retired.map spL) false)))],23⟩| .o3 A B kk=>⟨slotsF [(2,.ptr 1 0),(9,vB (!(iA c))),(3,.ptr 7 0),(21,.agg [.clo 25 [] [],.clo 26 [] [],.clo 27 [] [],.clo 28 [] [],.clo 29 [] [],.clo 30 [] [],.clo 31 [] []]),(22,vI 3)],heapF [(1,.box zCo),(7,.box (mcX (s3 c) (.osl 22 A.length ((s3 c).rob.length) kk) (.sl 2 ((s3 c).fetched.map ftL) true) (.sl 2 ((s3 c).stores.map ptL) false) (.sl 9 ((s3 c).retired.map spL) false))),(22,.arr ((A++(s3 c).rob++B).map enL) 17)],23⟩| .s4=>⟨slotsF [(2,.ptr 1 0),(9,vB (!(iA c))),(3,.ptr 7 0),(21,.agg [.clo 25 [] [],.clo 26 [] [],.clo 27 [] [],.clo 28 [] [],.clo 29 [] [],.clo 30 [] [],.clo 31 [] []]),(22,vI 4)],heapF [(1,.box zCo),(7,.box (mcX (s4 c) (.sl 17 ((s4 c).rob.map enL) false) (.sl 2 ((s4 c).fetched.map ftL) true) (.sl 2 ((s4 c).stores.map ptL) false) (.sl 9 ((s4 c).retired.map spL) false)))],23⟩| .s5=>⟨slotsF [(2,.ptr 1 0),(9,vB (!(iA c))),(3,.ptr 7 0),(21,.agg [.clo 25 [] [],.clo 26 [] [],.clo 27 [] [],.clo 28 [] [],.clo 29 [] [],.clo 30 [] [],.clo 31 [] []]),(22,vI 5)],heapF [(1,.box zCo),(7,.box (mcX (s5 c) (.sl 17 ((s5 c).rob.map enL) false) (.sl 2 ((s5 c).fetched.map ftL) true) (.sl 2 ((s5 c).stores.map ptL) false) (.sl 9 ((s5 c).retired.map spL) false)))],23⟩| .s6=>⟨slotsF [(2,.ptr 1 0),(9,vB (!(iA c))),(3,.ptr 7 0),(21,.agg [.clo 25 [] [],.clo 26 [] [],.clo 27 [] [],.clo 28 [] [],.clo 29 [] [],.clo 30 [] [],.clo 31 [] []]),(22,vI 6)],heapF [(1,.box zCo),(7,.box (mcX (s6 c) (.sl 17 ((s6 c).rob.map enL) false) (.sl 2 ((s6 c).fetched.map ftL) false) (.sl 2 ((s6 c).stores.map ptL) false) (.sl 9 ((s6 c).retired.map spL) false)))],23⟩| .s7=>⟨slotsF [(2,.ptr 1 0),(9,vB (!(iA c))),(3,.ptr 7 0),(21,.agg [.clo 25 [] [],.clo 26 [] [],.clo 27 [] [],.clo 28 [] [],.clo 29 [] [],.clo 30 [] [],.clo 31 [] []]),(22,vI 7)],heapF [(1,.box zCo),(7,.box (mcX (s7 c) (.sl 17 ((s7 c).rob.map enL) false) (.sl 2 ((s7 c).fetched.map ftL) false) (.sl 2 ((s7 c).stores.map ptL) false) (.sl 9 ((s7 c).retired.map spL) false)))],23⟩
abbrev aaT(c:Co):Stg->Prop:=λz_=>match z_ with| .e0=>(s0 c).rob=[]| .e1=>(s1 c).rob=[]| .e2=>(s2 c).rob=[]| .e3=>(s3 c).rob=[]| .o2 A B _=>A.length+(s2 c).rob.length+B.length<=1000| .o3 A B _=>A.length+(s3 c).rob.length+B.length<=1000|_=>True
abbrev aa3:Stg->Nat:=λz_=>match z_ with| .e0| .o0=>7| .e1| .o1=>6| .e2| .o2 _ _ _=>5| .e3| .o3 _ _ _=>4| .s4=>3| .s5=>2| .s6=>1| .s7=>0
def Mf(c:Co)(nb:Nat)(hm:c.okM nb)(hb:nb+20<=890000)(hk:StepOk c nb){Q:AEx->ASt->Prop}(hQ:∀st' σ',Weak st' ⟨slotsF [(2,.ptr 1 0),(3,.ptr 7 0)],heapF [(1,.box zCo),(7,.box (mcX (s7 c) (.sl 17 ((s7 c).rob.map enL) false) (.sl 2 ((s7 c).fetched.map ftL) false) (.sl 2 ((s7 c).stores.map ptL) false) (.sl 9 ((s7 c).retired.map spL) false)))],23⟩ σ'->Q .normal st')(z0:Stg)(hz:aaT c z0){st:ASt}(σ:Nat->Nat)(hW:Weak st (aaS c z0) σ):eJ C1 (cA C1) Vn st Q:=by
 refine qV<|tC (κ:=Stg) (aaS c) (aaT c) aa3 z0 (σ) hW rfl hz ?_;intro z_ hq;rcases z_ with _|_|_|_|_|⟨A,B,kk⟩|_|⟨A,B,kk⟩|_|_|_|_
 ·have hG:(s0 c).rob=[]:=hq;refine cSR<|rV (vB true) rfl<|rE 24<|fZ<|aS rfl (λ_=>?_) (λh=>by cases h);refine mH<|fZ<|qV<|cSR<|nW (.clo 25 [] []) rfl rfl (⟨by decide,by decide⟩)<|oR 1 rfl<|rE 26<|cRg<|oR 1 rfl<|fV _ rfl rfl rfl ((Vp (s0 c) nb hk.k0 hG true true true ((s0 c).fetched.map ftL) ((s0 c).retired.map spL)).frameB (λ_=>7) _ _ rfl ⟨⟨rfl,rfl,rfl,rfl⟩,trivial⟩ rfl rfl rfl rfl) ?_;rintro _ _ ⟨rfl,rfl⟩;refine rE 28<|cRg<|rV (vI 1) rfl<|oR 1 rfl<|rE 30<|.mk _ (.refl _) ⟨.e1,λi=>i,Weak.of_lists _ wT ⟨⟨rfl,rfl,rfl⟩,⟨rfl,(Ht (c:=s1 c) rfl (congrArg (λz:List Ft=>AV.sl 2 (z.map ftL) true) (show(s0 c).fetched=(s1 c).fetched from((rN (s0 c)).1).symm)) (congrArg (λz:List Pt=>AV.sl 2 (z.map ptL) true) (show(s0 c).stores=(s1 c).stores from((rN (s0 c)).2.1).symm)) (congrArg (λz:List Sp=>AV.sl 9 (z.map spL) true) (show(s0 c).retired=(s1 c).retired from((rN (s0 c)).2.2.1).symm))),rfl⟩,trivial⟩ rfl,rfl,(Pi hG (rN (s0 c)).2.2.2).symm,by show(6:Nat)<7;decide⟩
 ·refine cSR<|rV (vB true) rfl<|rE 24<|fZ<|aS rfl (λ_=>?_) (λh=>by cases h);refine mH<|fZ<|qV<|cSR<|nW (.clo 25 [] []) rfl rfl (⟨by decide,by decide⟩)<|oR 1 rfl<|rE 26<|cRg<|oR 1 rfl<|fV _ rfl rfl rfl ((XK (s0 c) nb hk.k0 [] [] 0 c.rob.length false rfl rfl (by have:=hm.rob;simpa using this) true true true ((s0 c).fetched.map ftL) ((s0 c).retired.map spL)).frameB2 (λz=>match z with|0=>7|_=>22) _ _ rfl ⟨⟨rfl,rfl,rfl,rfl⟩,⟨rfl,rfl,rfl,rfl⟩,trivial⟩ rfl rfl rfl rfl rfl) ?_;rintro _ _ ⟨rfl,rfl⟩;refine rE 28<|cRg<|rV (vI 1) rfl<|oR 1 rfl<|rE 30<|.mk _ (.refl _) ⟨.o1,λi=>i,Weak.of_lists _ wT ⟨⟨rfl,rfl,rfl⟩,⟨rfl,(Ht (c:=s1 c) rfl (congrArg (λz:List Ft=>AV.sl 2 (z.map ftL) true) (show(s0 c).fetched=(s1 c).fetched from((rN (s0 c)).1).symm)) (congrArg (λz:List Pt=>AV.sl 2 (z.map ptL) true) (show(s0 c).stores=(s1 c).stores from((rN (s0 c)).2.1).symm)) (congrArg (λz:List Sp=>AV.sl 9 (z.map spL) true) (show(s0 c).retired=(s1 c).retired from((rN (s0 c)).2.2.1).symm))),rfl⟩,⟨rfl,rfl,rfl⟩,trivial⟩ rfl,rfl,trivial,by show(6:Nat)<7;decide⟩
 ·have hG:(s1 c).rob=[]:=hq;refine cSR<|rV (vB true) rfl<|rE 24<|fZ<|aS rfl (λ_=>?_) (λh=>by cases h);refine mH<|fZ<|qV<|cSR<|nW (.clo 26 [] []) rfl rfl (⟨by decide,by decide⟩)<|oR 1 rfl<|rE 26<|cRg<|oR 1 rfl<|fV _ rfl rfl rfl (Pj (Vs (s1 c) (nb+1) hk.k1 hG true true ((s1 c).stores.map ptL) ((s1 c).retired.map spL)) 7 _ _ ⟨⟨rfl,rfl,rfl,rfl⟩,trivial⟩) ?_;rintro _ _ ⟨rfl,⟨hz,rfl⟩|⟨_,A,B,kk,rfl|rfl,hl,rfl⟩⟩
  ·refine rE 28<|cRg<|rV (vI 2) rfl<|oR 1 rfl<|rE 30<|.mk _ (.refl _) ⟨.e2,λi=>i,Weak.of_lists _ wT ⟨⟨rfl,rfl,rfl⟩,⟨rfl,(Ht (c:=s2 c) rfl rfl (congrArg (λz:List Pt=>AV.sl 2 (z.map ptL) true) (show(s1 c).stores=(s2 c).stores from((lX (s1 c)).1).symm)) (congrArg (λz:List Sp=>AV.sl 9 (z.map spL) true) (show(s1 c).retired=(s2 c).retired from((lX (s1 c)).2).symm))),rfl⟩,trivial⟩ rfl,rfl,hz,by show(5:Nat)<6;decide⟩
  ·refine rE 28<|cRg<|rV (vI 2) rfl<|oR 1 rfl<|rE 30<|.mk _ (.refl _) ⟨(.o2 A B kk),λi=>match i with|22=>27|i=>i,Weak.of_lists _ wT ⟨⟨rfl,rfl,rfl⟩,⟨rfl,(Ht (c:=s2 c) rfl rfl (congrArg (λz:List Pt=>AV.sl 2 (z.map ptL) true) (show(s1 c).stores=(s2 c).stores from((lX (s1 c)).1).symm)) (congrArg (λz:List Sp=>AV.sl 9 (z.map spL) true) (show(s1 c).retired=(s2 c).retired from((lX (s1 c)).2).symm))),rfl⟩,⟨rfl,rfl,rfl⟩,trivial⟩ rfl,rfl,hl,by show(5:Nat)<6;decide⟩
  ·refine rE 28<|cRg<|rV (vI 2) rfl<|oR 1 rfl<|rE 30<|.mk _ (.refl _) ⟨(.o2 A B kk),λi=>match i with|22=>27|i=>i,Weak.of_lists _ wT ⟨⟨rfl,rfl,rfl⟩,⟨rfl,(Ht (c:=s2 c) rfl rfl (congrArg (λz:List Pt=>AV.sl 2 (z.map ptL) true) (show(s1 c).stores=(s2 c).stores from((lX (s1 c)).1).symm)) (congrArg (λz:List Sp=>AV.sl 9 (z.map spL) true) (show(s1 c).retired=(s2 c).retired from((lX (s1 c)).2).symm))),rfl⟩,⟨rfl,rfl,rfl⟩,trivial⟩ rfl,rfl,hl,by show(5:Nat)<6;decide⟩
 ·refine cSR<|rV (vB true) rfl<|rE 24<|fZ<|aS rfl (λ_=>?_) (λh=>by cases h);refine mH<|fZ<|qV<|cSR<|nW (.clo 26 [] []) rfl rfl (⟨by decide,by decide⟩)<|oR 1 rfl<|rE 26<|cRg<|oR 1 rfl<|fV _ rfl rfl rfl (Pk (Vl (s1 c) (nb+1) hk.k1 [] [] 0 c.rob.length false rfl (rN (s0 c)).2.2.2 (by have:=hm.rob;simpa using this) (λx h=>by cases h) (λx h=>by cases h) true true ((s1 c).stores.map ptL) ((s1 c).retired.map spL)) 7 22 _ _ ⟨⟨rfl,rfl,rfl,rfl⟩,⟨rfl,rfl,rfl,rfl⟩,trivial⟩ (by decide)) ?_;rintro _ _ ⟨rfl,⟨hz,rfl⟩|⟨_,A,B,kk,rfl|rfl,hl,rfl⟩⟩
  ·refine rE 28<|cRg<|rV (vI 2) rfl<|oR 1 rfl<|rE 30<|.mk _ (.refl _) ⟨.e2,λi=>i,Weak.of_lists _ wT ⟨⟨rfl,rfl,rfl⟩,⟨rfl,(Ht (c:=s2 c) rfl rfl (congrArg (λz:List Pt=>AV.sl 2 (z.map ptL) true) (show(s1 c).stores=(s2 c).stores from((lX (s1 c)).1).symm)) (congrArg (λz:List Sp=>AV.sl 9 (z.map spL) true) (show(s1 c).retired=(s2 c).retired from((lX (s1 c)).2).symm))),rfl⟩,trivial⟩ rfl,rfl,hz,by show(5:Nat)<6;decide⟩
  ·refine rE 28<|cRg<|rV (vI 2) rfl<|oR 1 rfl<|rE 30<|.mk _ (.refl _) ⟨(.o2 A B kk),λi=>i,Weak.of_lists _ wT ⟨⟨rfl,rfl,rfl⟩,⟨rfl,(Ht (c:=s2 c) rfl rfl (congrArg (λz:List Pt=>AV.sl 2 (z.map ptL) true) (show(s1 c).stores=(s2 c).stores from((lX (s1 c)).1).symm)) (congrArg (λz:List Sp=>AV.sl 9 (z.map spL) true) (show(s1 c).retired=(s2 c).retired from((lX (s1 c)).2).symm))),rfl⟩,⟨rfl,rfl,rfl⟩,trivial⟩ rfl,rfl,hl,by show(5:Nat)<6;decide⟩
  ·refine rE 28<|cRg<|rV (vI 2) rfl<|oR 1 rfl<|rE 30<|.mk _ (.refl _) ⟨(.o2 A B kk),λi=>match i with|22=>27|i=>i,Weak.of_lists _ wT ⟨⟨rfl,rfl,rfl⟩,⟨rfl,(Ht (c:=s2 c) rfl rfl (congrArg (λz:List Pt=>AV.sl 2 (z.map ptL) true) (show(s1 c).stores=(s2 c).stores from((lX (s1 c)).1).symm)) (congrArg (λz:List Sp=>AV.sl 9 (z.map spL) true) (show(s1 c).retired=(s2 c).retired from((lX (s1 c)).2).symm))),rfl⟩,⟨rfl,rfl,rfl⟩,trivial⟩ rfl,rfl,hl,by show(5:Nat)<6;decide⟩
 ·have hG:(s2 c).rob=[]:=hq;refine cSR<|rV (vB true) rfl<|rE 24<|fZ<|aS rfl (λ_=>?_) (λh=>by cases h);refine mH<|fZ<|qV<|cSR<|nW (.clo 27 [] []) rfl rfl (⟨by decide,by decide⟩)<|oR 1 rfl<|rE 26<|cRg<|oR 1 rfl<|fV _ rfl rfl rfl (Pj (Po (s2 c) (nb+1) hk.k2 hG) 7 _ _ ⟨⟨rfl,rfl,rfl,rfl⟩,trivial⟩) ?_;rintro _ _ ⟨rfl,⟨hz,rfl⟩|⟨_,A,B,kk,rfl|rfl,hl,rfl⟩⟩
  ·refine rE 28<|cRg<|rV (vI 3) rfl<|oR 1 rfl<|rE 30<|.mk _ (.refl _) ⟨.e3,λi=>i,Weak.of_lists _ wT ⟨⟨rfl,rfl,rfl⟩,⟨rfl,(Ht (c:=s3 c) rfl rfl rfl rfl),rfl⟩,trivial⟩ rfl,rfl,hz,by show(4:Nat)<5;decide⟩
  ·refine rE 28<|cRg<|rV (vI 3) rfl<|oR 1 rfl<|rE 30<|.mk _ (.refl _) ⟨(.o3 A B kk),λi=>match i with|22=>27|i=>i,Weak.of_lists _ wT ⟨⟨rfl,rfl,rfl⟩,⟨rfl,(Ht (c:=s3 c) rfl rfl rfl rfl),rfl⟩,⟨rfl,rfl,rfl⟩,trivial⟩ rfl,rfl,hl,by show(4:Nat)<5;decide⟩
  ·refine rE 28<|cRg<|rV (vI 3) rfl<|oR 1 rfl<|rE 30<|.mk _ (.refl _) ⟨(.o3 A B kk),λi=>match i with|22=>27|i=>i,Weak.of_lists _ wT ⟨⟨rfl,rfl,rfl⟩,⟨rfl,(Ht (c:=s3 c) rfl rfl rfl rfl),rfl⟩,⟨rfl,rfl,rfl⟩,trivial⟩ rfl,rfl,hl,by show(4:Nat)<5;decide⟩
 ·have hG:A.length+(s2 c).rob.length+B.length<=1000:=hq;refine cSR<|rV (vB true) rfl<|rE 24<|fZ<|aS rfl (λ_=>?_) (λh=>by cases h);refine mH<|fZ<|qV<|cSR<|nW (.clo 27 [] []) rfl rfl (⟨by decide,by decide⟩)<|oR 1 rfl<|rE 26<|cRg<|oR 1 rfl<|fV _ rfl rfl rfl (Pk (SD (s2 c) (nb+1) hk.k2 omT A B A.length (s2 c).rob.length kk rfl rfl hG) 7 22 _ _ ⟨⟨rfl,rfl,rfl,rfl⟩,⟨rfl,rfl,rfl,rfl⟩,trivial⟩ (by decide)) ?_;rintro _ _ ⟨rfl,⟨hz,rfl⟩|⟨_,A,B,kk,rfl|rfl,hl,rfl⟩⟩
  ·refine rE 28<|cRg<|rV (vI 3) rfl<|oR 1 rfl<|rE 30<|.mk _ (.refl _) ⟨.e3,λi=>i,Weak.of_lists _ wT ⟨⟨rfl,rfl,rfl⟩,⟨rfl,(Ht (c:=s3 c) rfl rfl rfl rfl),rfl⟩,trivial⟩ rfl,rfl,hz,by show(4:Nat)<5;decide⟩
  ·refine rE 28<|cRg<|rV (vI 3) rfl<|oR 1 rfl<|rE 30<|.mk _ (.refl _) ⟨(.o3 A B kk),λi=>i,Weak.of_lists _ wT ⟨⟨rfl,rfl,rfl⟩,⟨rfl,(Ht (c:=s3 c) rfl rfl rfl rfl),rfl⟩,⟨rfl,rfl,rfl⟩,trivial⟩ rfl,rfl,hl,by show(4:Nat)<5;decide⟩
  ·refine rE 28<|cRg<|rV (vI 3) rfl<|oR 1 rfl<|rE 30<|.mk _ (.refl _) ⟨(.o3 A B kk),λi=>match i with|22=>27|i=>i,Weak.of_lists _ wT ⟨⟨rfl,rfl,rfl⟩,⟨rfl,(Ht (c:=s3 c) rfl rfl rfl rfl),rfl⟩,⟨rfl,rfl,rfl⟩,trivial⟩ rfl,rfl,hl,by show(4:Nat)<5;decide⟩
 ·have hG:(s3 c).rob=[]:=hq;refine cSR<|rV (vB true) rfl<|rE 24<|fZ<|aS rfl (λ_=>?_) (λh=>by cases h);refine mH<|fZ<|qV<|cSR<|nW (.clo 28 [] []) rfl rfl (⟨by decide,by decide⟩)<|oR 1 rfl<|rE 26<|cRg<|oR 1 rfl<|fV _ rfl rfl rfl ((SE (s3 c) (nb+5) hk.k3 hG true false false ((s3 c).fetched.map ftL) ((s3 c).retired.map spL)).frameB (λ_=>7) _ _ rfl ⟨⟨rfl,rfl,rfl,rfl⟩,trivial⟩ rfl rfl rfl rfl) ?_;rintro _ _ ⟨rfl,rfl⟩;refine rE 28<|cRg<|rV (vI 4) rfl<|oR 1 rfl<|rE 30<|.mk _ (.refl _) ⟨.s4,λi=>i,Weak.of_lists _ wT ⟨⟨rfl,rfl,rfl⟩,⟨rfl,(Ht (c:=s4 c) (congrArg (λz:List Ent=>AV.sl 17 (z.map enL) false) (Pi hG (nP hk.k3 omT).1)) (congrArg (λz:List Ft=>AV.sl 2 (z.map ftL) true) (show(s3 c).fetched=(s4 c).fetched from((nP hk.k3 omT).2.2.1).symm)) rfl (congrArg (λz:List Sp=>AV.sl 9 (z.map spL) false) (show(s3 c).retired=(s4 c).retired from((nP hk.k3 omT).2.2.2).symm))),rfl⟩,trivial⟩ rfl,rfl,trivial,by show(3:Nat)<4;decide⟩
 ·have hG:A.length+(s3 c).rob.length+B.length<=1000:=hq;refine cSR<|rV (vB true) rfl<|rE 24<|fZ<|aS rfl (λ_=>?_) (λh=>by cases h);refine mH<|fZ<|qV<|cSR<|nW (.clo 28 [] []) rfl rfl (⟨by decide,by decide⟩)<|oR 1 rfl<|rE 26<|cRg<|oR 1 rfl<|fV _ rfl rfl rfl ((Vu (s3 c) (nb+5) hk.k3 omT A B A.length (s3 c).rob.length kk true false false ((s3 c).fetched.map ftL) ((s3 c).retired.map spL) rfl rfl hG).frameB2 (λz=>match z with|0=>7|_=>22) _ _ rfl ⟨⟨rfl,rfl,rfl,rfl⟩,⟨rfl,rfl,rfl,rfl⟩,trivial⟩ rfl rfl rfl rfl rfl) ?_;rintro _ _ ⟨rfl,rfl⟩;refine rE 28<|cRg<|rV (vI 4) rfl<|oR 1 rfl<|rE 30<|.mk _ (.step (some (22,17,(A++(s4 c).rob++B).map enL)) (Ghost.of_lists (l:=[(2,.ptr 1 0),(9,vB (!(iA c))),(3,.ptr 7 0),(21,.agg [.clo 25 [] [],.clo 26 [] [],.clo 27 [] [],.clo 28 [] [],.clo 29 [] [],.clo 30 [] [],.clo 31 [] []]),(22,vI 4)]) (hp:=[(1,.box zCo),(7,.box (mcX (s4 c) (.sl 17 ((((A++(s4 c).rob++B).drop A.length).take (s3 c).rob.length).map enL) false) (.sl 2 ((s3 c).fetched.map ftL) true) (.sl 2 ((s4 c).stores.map ptL) false) (.sl 9 ((s3 c).retired.map spL) false)))]) rfl rfT ⟨⟨rfl,_,rfl,.refl _⟩,⟨rfl,_,rfl,LeB.boxL (rA (HQ (by simp only[aQ];have:=(nP hk.k3 omT).1;show A.length+(s3 c).rob.length<=A.length+(eW (s3 c)).rob.length+B.length;omega)) (.refl _) (.refl _) (.refl _))⟩,trivial⟩) (.refl _)) ⟨.s4,λi=>i,Weak.of_lists _ wT ⟨⟨rfl,rfl,rfl⟩,⟨rfl,(Ht (c:=s4 c) (congrArg (λz:List Ent=>AV.sl 17 (z.map enL) false) (Pm rfl (nP hk.k3 omT).1)) (congrArg (λz:List Ft=>AV.sl 2 (z.map ftL) true) (show(s3 c).fetched=(s4 c).fetched from((nP hk.k3 omT).2.2.1).symm)) rfl (congrArg (λz:List Sp=>AV.sl 9 (z.map spL) false) (show(s3 c).retired=(s4 c).retired from((nP hk.k3 omT).2.2.2).symm))),rfl⟩,trivial⟩ rfl,rfl,trivial,by show(3:Nat)<4;decide⟩
 ·refine cSR<|rV (vB true) rfl<|rE 24<|fZ<|aS rfl (λ_=>?_) (λh=>by cases h);refine mH<|fZ<|qV<|cSR<|nW (.clo 29 [] []) rfl rfl (⟨by decide,by decide⟩)<|oR 1 rfl<|rE 26<|cRg<|oR 1 rfl<|fV _ rfl rfl rfl ((Vw (s4 c) (nb+7) hk.k4 false ((s4 c).stores.map ptL) false ((s4 c).retired.map spL)).frameB (λ_=>7) _ _ rfl ⟨⟨rfl,rfl,rfl,rfl⟩,trivial⟩ rfl rfl rfl rfl) ?_;rintro _ _ ⟨rfl,rfl⟩;refine rE 28<|cRg<|rV (vI 5) rfl<|oR 1 rfl<|rE 30<|.mk _ (.refl _) ⟨.s5,λi=>i,Weak.of_lists _ wT ⟨⟨rfl,rfl,rfl⟩,⟨rfl,(Ht (c:=s5 c) rfl rfl (congrArg (λz:List Pt=>AV.sl 2 (z.map ptL) false) (show(s4 c).stores=(s5 c).stores from((Aj hk.k4).2.1).symm)) (congrArg (λz:List Sp=>AV.sl 9 (z.map spL) false) (show(s4 c).retired=(s5 c).retired from((Aj hk.k4).2.2).symm))),rfl⟩,trivial⟩ rfl,rfl,trivial,by show(2:Nat)<3;decide⟩
 ·refine cSR<|rV (vB true) rfl<|rE 24<|fZ<|aS rfl (λ_=>?_) (λh=>by cases h);refine mH<|fZ<|qV<|cSR<|nW (.clo 30 [] []) rfl rfl (⟨by decide,by decide⟩)<|oR 1 rfl<|rE 26<|cRg<|oR 1 rfl<|fV _ rfl rfl rfl ((SG (s5 c) (nb+7) hk.k5 false ((s5 c).rob.map enL) false ((s5 c).stores.map ptL) false ((s5 c).retired.map spL)).frameB (λ_=>7) _ _ rfl ⟨⟨rfl,rfl,rfl,rfl⟩,trivial⟩ rfl rfl rfl rfl) ?_;rintro _ _ ⟨rfl,rfl⟩;refine rE 28<|cRg<|rV (vI 6) rfl<|oR 1 rfl<|rE 30<|.mk _ (.refl _) ⟨.s6,λi=>i,Weak.of_lists _ wT ⟨⟨rfl,rfl,rfl⟩,⟨rfl,(Ht (c:=s6 c) (congrArg (λz:List Ent=>AV.sl 17 (z.map enL) false) (show(s5 c).rob=(s6 c).rob from((uY hk.k5 omT).2.2.2).symm)) rfl (congrArg (λz:List Pt=>AV.sl 2 (z.map ptL) false) (show(s5 c).stores=(s6 c).stores from((uY hk.k5 omT).2.1).symm)) (congrArg (λz:List Sp=>AV.sl 9 (z.map spL) false) (show(s5 c).retired=(s6 c).retired from((uY hk.k5 omT).2.2.1).symm))),rfl⟩,trivial⟩ rfl,rfl,trivial,by show(1:Nat)<2;decide⟩
 ·refine cSR<|rV (vB true) rfl<|rE 24<|fZ<|aS rfl (λ_=>?_) (λh=>by cases h);refine mH<|fZ<|qV<|cSR<|nW (.clo 31 [] []) rfl rfl (⟨by decide,by decide⟩)<|oR 1 rfl<|rE 26<|cRg<|oR 1 rfl<|fV _ rfl rfl rfl ((Vy (s6 c) (nb+8) hk.k6 omT false ((s6 c).rob.map enL) false ((s6 c).fetched.map ftL) false ((s6 c).retired.map spL)).frameB (λ_=>7) _ _ rfl ⟨⟨rfl,rfl,rfl,rfl⟩,trivial⟩ rfl rfl rfl rfl) ?_;rintro _ _ ⟨rfl,rfl⟩;refine rE 28<|cRg<|rV (vI 7) rfl<|oR 1 rfl<|rE 30<|.mk _ (.refl _) ⟨.s7,λi=>i,Weak.of_lists _ wT ⟨⟨rfl,rfl,rfl⟩,⟨rfl,(Ht (c:=s7 c) (congrArg (λz:List Ent=>AV.sl 17 (z.map enL) false) (show(s6 c).rob=(s7 c).rob from((wS hk.k6 omT).2.2.2).symm)) (congrArg (λz:List Ft=>AV.sl 2 (z.map ftL) false) (show(s6 c).fetched=(s7 c).fetched from((wS hk.k6 omT).2.1).symm)) rfl (congrArg (λz:List Sp=>AV.sl 9 (z.map spL) false) (show(s6 c).retired=(s7 c).retired from((wS hk.k6 omT).2.2.1).symm))),rfl⟩,trivial⟩ rfl,rfl,trivial,by show(0:Nat)<1;decide⟩
 ·refine cSR<|rV (vB false) rfl<|rE 24<|fZ<|aS rfl (λh=>by cases h) (λ_=>?_);refine Je ?_;exact hQ _ (λs=>s) (Weak.of_lists (λs=>s) wT wH rfl)
def XG(c:Co)(nb:Nat)(hok:c.ok nb)(hb:nb+20<=890000)(hr:iA c=true)(h0:c.rob=[]):cA C0 9 [.agg (coL c)] (.agg (coL (lM c))):=by
 refine dc1 (cA.intro c1Ok Tryz.func9 rfl rfl (by kernel_rfl) rfl ?_);have hm:=BT hok omT hr;have hk:=Jh hm hb;refine cSR<|rAl 0 rfl rfl<|rAl 1 rfl rfl<|rE 2<|fZ<|cSR<|oR 1 rfl<|rCi rfl (HC c nb hok omT)<|oR 1 rfl<|rE 5<|aS rfl (λh1=>by exact absurd hr (Ul h1)) (λ_=>?_);refine mH<|cSR<|oR 1 rfl<|rV (.agg (coL c)) rfl<|rAl 7 rfl rfl<|rSt rfl<|rE 9<|cSR<|fV _ rfl rfl rfl ((show qE C0.P C0.G 24 [.ptr 0 0] (heapF [(0,.box (mcX c (.sl 17 (c.rob.map enL) false) (.sl 2 (c.fetched.map ftL) false) (.sl 2 (c.stores.map ptL) false) (.sl 9 (c.retired.map spL) false)))]) 1 _ from by rw[h0];exact aaG c nb hm false false false false).frameB (λ_=>7) _ _ rfl ⟨⟨rfl,rfl,rfl,rfl⟩,trivial⟩ rfl rfl rfl rfl) ?_;rintro _ _ ⟨rfl,rfl⟩;refine rE 10<|cSR<|oR 3 rfl<|rW (vI (wrap64 (c.cycle+1))) rfl (okI (w64 _))<|oR 2 rfl<|rSt rfl<|rE 17<|cSR<|rV (.agg [.clo 25 [] [],.clo 26 [] [],.clo 27 [] [],.clo 28 [] [],.clo 29 [] [],.clo 30 [] [],.clo 31 [] []]) rfl<|rAl 18 rfl rfl<|rSt rfl<|rE 20<|CO (κ:=Unit) (λu_=>⟨slotsF [(2,.ptr 1 0),(3,.ptr 7 0)],heapF [(1,.box zCo),(7,.box (mcX (s7 c) (.sl 17 ((s7 c).rob.map enL) false) (.sl 2 ((s7 c).fetched.map ftL) false) (.sl 2 ((s7 c).stores.map ptL) false) (.sl 9 ((s7 c).retired.map spL) false)))],23⟩) (λu_=>True) ?_ ?_
 ·refine cSR<|oR 2 rfl<|rE 22<|Mf c nb hm hb hk ?_ .e0 h0 (λs=>s) (Weak.of_lists (λs=>s) wT wH rfl);intro st' σ h;exact .mk _ (.refl _) ⟨(),σ,h,rfl,trivial⟩
 ·intro u_ _;refine cSR<|oR 2 rfl<|rSt rfl<|rE 26<|rL ?_;rw[show lM c=s7 c from if_pos hr];exact dF rfl tvT rfl rfl
def XH(c:Co)(nb:Nat)(hok:c.ok nb)(hb:nb+20<=890000)(hr:iA c=true)(hne:c.rob≠[]):cA C0 9 [.agg (coL c)] (.agg (coL (lM c))):=by
 refine dc1 (cA.intro c1Ok Tryz.func9 rfl rfl (by kernel_rfl) rfl ?_);have hm:=BT hok omT hr;have hk:=Jh hm hb;refine cSR<|rAl 0 rfl rfl<|rAl 1 rfl rfl<|rE 2<|fZ<|cSR<|oR 1 rfl<|rCi rfl (HC c nb hok omT)<|oR 1 rfl<|rE 5<|aS rfl (λh1=>by exact absurd hr (Ul h1)) (λ_=>?_);refine mH<|cSR<|oR 1 rfl<|rV (.agg (coL c)) rfl<|rAl 7 rfl rfl<|rSt rfl<|rE 9<|cSR<|fV _ rfl rfl rfl (XI (Zt c nb hm hne false false false false) 7 _ _ ⟨⟨rfl,rfl,rfl,rfl⟩,trivial⟩) ?_;rintro _ _ ⟨rfl,rfl⟩;refine rE 10<|cSR<|oR 3 rfl<|rW (vI (wrap64 (c.cycle+1))) rfl (okI (w64 _))<|oR 2 rfl<|rSt rfl<|rE 17<|cSR<|rV (.agg [.clo 25 [] [],.clo 26 [] [],.clo 27 [] [],.clo 28 [] [],.clo 29 [] [],.clo 30 [] [],.clo 31 [] []]) rfl<|rAl 18 rfl rfl<|rSt rfl<|rE 20<|CO (κ:=Unit) (λu_=>⟨slotsF [(2,.ptr 1 0),(3,.ptr 7 0)],heapF [(1,.box zCo),(7,.box (mcX (s7 c) (.sl 17 ((s7 c).rob.map enL) false) (.sl 2 ((s7 c).fetched.map ftL) false) (.sl 2 ((s7 c).stores.map ptL) false) (.sl 9 ((s7 c).retired.map spL) false)))],23⟩) (λu_=>True) ?_ ?_
 ·refine cSR<|oR 2 rfl<|rE 22<|Mf c nb hm hb hk ?_ .o0 trivial (λi=>match i with|22=>9|i=>i) (Weak.of_lists (λi=>match i with|22=>9|i=>i) wT ⟨⟨rfl,rfl,rfl⟩,⟨rfl,rfl,rfl⟩,⟨rfl,(by show some (Blk.arr (c.rob.map enL) 17)=some (Blk.arr (([]++c.rob++[]).map enL) 17);rw[iZ,dR]),rfl⟩,trivial⟩ rfl);intro st' σ h;exact .mk _ (.refl _) ⟨(),σ,h,rfl,trivial⟩
 ·intro u_ _;refine cSR<|oR 2 rfl<|rSt rfl<|rE 26<|rL ?_;rw[show lM c=s7 c from if_pos hr];exact dF rfl tvT rfl rfl
def abT(c:Co)(nb:Nat)(hok:c.ok nb)(hb:nb+20<=890000):cA C0 9 [.agg (coL c)] (.agg (coL (lM c))):=by
 cases hr:iA c with
 |false=>exact XF c nb hok hb hr
 |true=>
  by_cases h0:c.rob=[]
  ·exact XG c nb hok hb hr h0
  ·exact XH c nb hok hb hr h0
def Hs(n:Int):Nat:=(min n 2000).toNat
def XD(a b:Int):(if b<a then b else a)=min a b:=by split<;>omega
def Me(a b:Int):(Cl a b).ok:=by
 unfold Cl;refine⟨?_,λs hs=>?_⟩
 ·have h:(if bW a 1 4=3 then 2 else bW a 1 4).toNat<=4:=by unfold bW;(repeat' split)<;>omega
  show(List.replicate _ _).length<=_;rw[cV];omega
 ·rw[gH hs];exact⟨aE _,λx hx=>by cases hx⟩
def Sv:Ym.ok:=by
 refine⟨by decide,by decide,by decide,?_,?_⟩
 ·intro x hx;have:x=⟨0,0⟩:=gH (n:=8) hx;subst this;exact⟨aE _,aE _⟩
 ·intro x hx;cases hx
def Sw(c:Cf)(prog:List Nat)(m:ByteArray)(hc:c.ok)(hp:∀x∈prog,x<=4294967295):(gP c prog m).ok 0:=by
 have hm:(sW m).size<=256:=by
  rw[EW];unfold upS;repeat' split
  all_goals omega
 have hl:(prog.take (min prog.length 64)).length<=9223372036854775807:=by rw[aL];omega
 refine⟨⟨aN (PP c) (by decide),aN (NH c) (by decide),HG hc.tp⟩,hl,AQ (P:=λx=>x<=4294967295) hp,λ_=>aE _,aE _,aE _,(λx hx=>by cases hx),aE _,(λx hx=>by cases hx),aE _,(λx hx=>by cases hx),Me _ _,Me _ _,aE _,(λx hx=>by cases hx),(by show(0:Int)<=9223372036854775807;decide),(by show(0:Int)<=9223372036854775807;decide),?_,Sv,aE _,(λx hx=>by cases hx)⟩;show(sW m).size<=1000000;omega
theorem yW{c:Co}{n:Nat}(h:c.ok n):∀k,n+10*k+20<=890000->(pB c k).ok (n+10*k)
 |0,_=>h
 |k+1,hb=>by
  have ih:=Ah (yW h k omT) omT;rw[show n+10*(k+1)=n+10*k+10 by omega];exact ih
open Go.RowKit Go.ChangeShapes Go.WideShapes Go.ChangeAt Go.Deep
def TY{n:Int}(h:(Lit.int .u32 n).wf=true):∃m:Nat,n=m∧m<=4294967295:=by
 simp only[Lit.wf,IntKind.min,IntKind.max,IntKind.signed,IntKind.bits,aJ,bB]at h;simp at h;exact⟨n.toNat,by omega,by omega⟩
def mN{cs:List AV}(h:TyV Tryz.prog 3 cs):∃n:Int,cs=[.v (.int .i64 n)]∧True:=by
 have hu:=Tryz.underlying3
 cases h with
 |int h n hn=>rw[hu]at h;injection h with h;injection h with h;subst h;exact⟨n,rfl,trivial⟩
 |bool h=>rw[hu]at h;cases h
 |string h=>rw[hu]at h;cases h
 |slice h=>rw[hu]at h;cases h
 |struct h=>rw[hu]at h;cases h
 |array h=>rw[hu]at h;cases h
def rC{cs:List AV}(h:TyV Tryz.prog 28 cs):∃n:Nat,cs=[.v (.int .u32 (n:Int))]∧n<=4294967295:=by
 have hu:=Tryz.underlying28
 cases h with
 |int h n hn=>
  rw[hu]at h;injection h with h;injection h with h;subst h;obtain⟨m,rfl,hm⟩:=TY hn
  exact⟨m,rfl,hm⟩
 |bool h=>rw[hu]at h;cases h
 |string h=>rw[hu]at h;cases h
 |slice h=>rw[hu]at h;cases h
 |struct h=>rw[hu]at h;cases h
 |array h=>rw[hu]at h;cases h
def CV{cs:List AV}(h:TyV Tryz.prog 4 cs):∃b:Bool,cs=[.v (.bool b)]∧True:=by
 have hu:=Tryz.underlying4
 cases h with
 |bool h b=>exact⟨b,rfl,trivial⟩
 |int h=>rw[hu]at h;cases h
 |string h=>rw[hu]at h;cases h
 |slice h=>rw[hu]at h;cases h
 |struct h=>rw[hu]at h;cases h
 |array h=>rw[hu]at h;cases h
theorem Rr{α:Type}{f:α->List AV}{p:α->Prop}:∀(rows:List (List AV)),(∀row∈rows,∃x,row=f x∧p x)->∃l:List α,rows=l.map f∧l.length=rows.length∧∀x∈l,p x
 |[],_=>⟨[],rfl,rfl,λx h=>by cases h⟩
 |row::rows,h=>by
  obtain⟨x,rfl,hx⟩:=h row (bI);obtain⟨l,rfl,hl,hp⟩:=Rr rows λr hr=>h r (bP _ hr);exact⟨x::l,rfl,by simp,λy hy=>by rcases al_List_mem_cons.1 hy with rfl|hy;exact hx;exact hp y hy⟩
def uD{α:Type}{t e:TypeId}{k:Nat}{f:α->List AV}{p:α->Prop}(hu:Tryz.prog.underlying t=some (.slice e))(hk:Tryz.prog.cellsOf e=k)(hrow:∀row,TyV Tryz.prog e row->∃x,row=f x∧p x){cs:List AV}(h:TyV Tryz.prog t cs):
  ∃l:List α,cs=[.sl k (l.map f) false]∧l.length<=9223372036854775807∧∀x∈l,p x:=by
 cases h with
 |slice h rows hl hr hrs=>
  rw[hu]at h;injection h with h;injection h with h;subst h;subst hk;obtain⟨l,rfl,h1,h2⟩:=Rr rows λrow hrow'=>hrow row (hr row hrow')
  exact⟨l,rfl,aN (Nat.le_of_eq h1) (aN hl (by decide)),h2⟩
 |int h=>rw[hu]at h;cases h
 |bool h=>rw[hu]at h;cases h
 |string h=>rw[hu]at h;cases h
 |struct h=>rw[hu]at h;cases h
 |array h=>rw[hu]at h;cases h
def WU(row:List AV)(h:TyV Tryz.prog 28 row):∃n:Nat,row=eE n∧n<=4294967295:=rC h
def WV(row:List AV)(h:TyV Tryz.prog 3 row):∃n:Int,row=iK n∧True:=mN h
def LN{cs:List AV}(h:TyV Tryz.prog 23 cs):∃l:List Nat,cs=[.sl 1 (l.map eE) false]∧l.length<=9223372036854775807∧∀x∈l,(λn:Nat=>n<=4294967295) x:=
 uD (f:=eE) (p:=(λn:Nat=>n<=4294967295)) Tryz.underlying23 (by kernel_rfl) (λrow hr=>WU _ hr) h
def WW{cs:List AV}(h:TyV Tryz.prog 22 cs):∃l:List Int,cs=[.sl 1 (l.map iK) false]∧l.length<=9223372036854775807∧∀x∈l,(λ(_:Int)=>True) x:=
 uD (f:=iK) (p:=(λ(_:Int)=>True)) Tryz.underlying22 (by kernel_rfl) (λrow hr=>WV _ hr) h
def Rs{cs:List AV}(h:TyV Tryz.prog 25 cs):∃x:Cf,cs=cfL x false false∧x.okW:=by
 have hu:=Tryz.underlying25
 cases h with
 |bool h=>rw[hu]at h;cases h
 |int h=>rw[hu]at h;cases h
 |string h=>rw[hu]at h;cases h
 |slice h=>rw[hu]at h;cases h
 |array h=>rw[hu]at h;cases h
 |struct h parts hp=>
  rw[hu]at h;injection h with h;injection h with h;subst h;obtain⟨x0,e0,p0⟩:=mN (hp 0 _ rfl);obtain⟨x1,e1,p1⟩:=mN (hp 1 _ rfl);obtain⟨x2,e2,p2⟩:=mN (hp 2 _ rfl);obtain⟨x3,e3,p3⟩:=mN (hp 3 _ rfl);obtain⟨x4,e4,p4⟩:=mN (hp 4 _ rfl);obtain⟨x5,e5,p5⟩:=mN (hp 5 _ rfl);obtain⟨x6,e6,p6⟩:=mN (hp 6 _ rfl);obtain⟨x7,e7,p7⟩:=mN (hp 7 _ rfl);obtain⟨x8,e8,p8⟩:=WW (hp 8 _ rfl);obtain⟨x9,e9,p9⟩:=CV (hp 9 _ rfl);obtain⟨x10,e10,p10⟩:=LN (hp 10 _ rfl);refine⟨⟨x0,x1,x2,x3,x4,x5,x6,x7,x8,x9,x10⟩,?_,⟨p8.1,p10.1,p10.2⟩⟩;show parts 0++(parts 1++(parts 2++(parts 3++(parts 4++(parts 5++(parts 6++(parts 7++(parts 8++(parts 9++(parts 10++[]))))))))))=_;rw[e0,e1,e2,e3,e4,e5,e6,e7,e8,e9,e10];rfl
structure Co.okA(c:Co):Prop where
 conf:c.conf.okW
 prog:c.prog.length<=9223372036854775807
 progo:∀x∈c.prog,x<=4294967295
 r:∀k,c.r k<=4294967295
 fetch:c.fetch<=4294967295
 fet:c.fetched.length<=9223372036854775807
 feto:∀x∈c.fetched,x.ok
 rob:c.rob.length<=9223372036854775807
 robo:∀x∈c.rob,x.ok
 sto:c.stores.length<=9223372036854775807
 stoo:∀x∈c.stores,x.ok
 data:c.data.ok
 words:c.words.ok
 bus:c.bus.length<=9223372036854775807
 buso:∀x∈c.bus,x.ok
 asked:c.asked<=9223372036854775807
 guessed:c.guessed<=9223372036854775807
 mem:c.mem.size<=9223372036854775807
 guess:c.guess.ok
 ret:c.retired.length<=9223372036854775807
 reto:∀x∈c.retired,x.ok
def Ru{H:Type}{enc:TypeId×Value->H}{w:World}{base:Nat}{spare:Nat->Bool}{held:Bool}{r:Reach}{b0:Nat}{v:Value}{d:DataW H}{p:List MemPlace}
  (hv:Value.okWide Tryz.prog w r b0 25 v) (h:DataW.Trod enc Tryz.prog w base spare held 25 v d p):
  ∃c:Cf,Rep (· <w.heap.size) w noB (.agg (cfL c false false)) v∧c.okW:=by
 obtain⟨cs,rfl,hsz⟩:=okWide_struct Tryz.underlying25 hv;obtain⟨fuel,hf⟩:=h;obtain⟨cells,ho⟩:=wJ 6 fuel _ _ _ hf (by kernel_rfl);obtain⟨c,rfl,hc⟩:=Rs ho.ty;refine⟨c,.agg _ cs ?_ (λi u hu=>ho.one u ?_) (λi a u h1 h2=>ho.rep.2 i a u h1 ?_),hc⟩
 ·exact ho.rep.1
 ·exact IB.2 (nI hu)
 ·show cs.toList[i]?=some u;rw[bH];exact h2
def acI{H:Type}{enc:TypeId×Value->H}{w:World}{base:Nat}{spare:Nat->Bool}{held:Bool}{r:Reach}{b0:Nat}{v:Value}{d:DataW H}{p:List MemPlace}
  (hv:Value.okWide Tryz.prog w r b0 23 v) (h:DataW.Trod enc Tryz.prog w base spare held 23 v d p):
  ∃l:List Nat,(∀x∈l,x<=4294967295)∧l.length<=9223372036854775807∧Rep (· <w.heap.size) w noB (.sl 1 (l.map eE) false) v:=by
 obtain⟨a0,len,cap,rfl⟩:=okWide_slice Tryz.underlying23 hv;obtain⟨fuel,hf⟩:=h;obtain⟨cs,ho⟩:=wJ 3 fuel _ _ _ hf (by kernel_rfl);obtain⟨l,rfl,h1,h2⟩:=LN ho.ty;exact⟨l,h2,h1,ho.rep.2 0 _ _ rfl rfl⟩
def adH{w:World}(h:Lj w):0<w.heap.size:=by
 have:=h 0 (by decide);unfold World.cell? at this
 cases hq:w.heap[0]? with
 |none=>simp[hq]at this
 |some o=>exact(DC.1 hq).1
theorem cA.law{f:FuncId}{args:List AV}{vs:List Value}{w:World}(h:cA C0 f args (.v (.bool true)))(hC:Lj w)(ha:RepL (· <w.heap.size) w noB args vs):
  Calls Tryz.prog f vs.toArray w λe w'=>e=.returned (.bool true)∧Below w.heap.size w w':=
 (h.2 (· <w.heap.size) w vs (λ_ h=>h) (afC hC (adH hC)) ha).mono λe w' ⟨v,h1,h2,h3⟩=>⟨by rw[h1,lN h3],h2⟩
open Go.RowKit Go.ChangeShapes Go.WideShapes
def acA{P:Program}{w:World}{r:Reach}{base:Nat}{t:TypeId}{v:Value}(ht:P.underlying t=some .string)(h:Value.okWide P w r base t v):∃s,v=.string s∧s.size<9223372036854775808:=by
 obtain⟨s,rfl⟩:=okWide_string ht h;refine⟨s,rfl,?_⟩;have h2:IntKind.i64.max=9223372036854775807:=rfl;have h3:(s.size:Int)<=IntKind.i64.max:=by simpa [Value.okWide,Cell.okWide,Cell.ok,ht]using h
 omega
end Go.Proofs.YtgleompefdogkaaGreatDoor
namespace Go.Proofs.YtgleompefdogkaaGreatDoor
open Go.RowKit
end Go.Proofs.YtgleompefdogkaaGreatDoor
namespace Go.Proofs.YtgleompefdogkaaGreatDoor
open Go.RowKit
structure Kp(c d:Co):Prop where
 cycle:d.cycle=c.cycle
 ret:c.retired <+: d.retired
 mem:d.mem.size=c.mem.size
theorem Kp.refl(c:Co):Kp c c:=⟨rfl,List.prefix_refl _,rfl⟩
theorem Kp.trans{a b c:Co}(h:Kp a b)(k:Kp b c):Kp a c:=⟨k.cycle.trans h.cycle,List.IsPrefix.trans h.ret k.ret,k.mem.trans h.mem⟩
def Sr(c:Co):Kp c (jO c):=by
 rw[iL];split
 ·unfold Bp
  repeat' split
  ·exact⟨rfl,List.prefix_refl _,rfl⟩
  ·exact⟨rfl,List.prefix_refl _,rfl⟩
  ·rw[<-oU];exact⟨rfl,List.prefix_refl _,rfl⟩
  ·exact⟨rfl,List.prefix_refl _,gW ..⟩
  ·exact⟨rfl,List.prefix_refl _,rfl⟩
 ·exact⟨rfl,List.prefix_refl _,rfl⟩
def Ss(c:Co):Kp c (gZ c):=by
 unfold gZ;split
 ·exact .refl c
 ·split<;>exact⟨rfl,List.prefix_refl _,rfl⟩
def Pc(d:Co)(e:Ent):Kp d (xX d e):=⟨rfl,List.prefix_append _ _,rfl⟩
def Pd(d:Co)(e:Ent):Kp d (Et d e):=⟨rfl,List.prefix_append _ _,rfl⟩
theorem Bn:∀(n:Nat) (c:Co),Kp c (dW n c)
 |0,c=>.refl c
 | n +1,c=>by
  by_cases h0:c.halt≠0∨c.rob.length=0
  ·rw[jF h0];exact .refl c
  ·have hx:c.rob[0]?=some (c.rob[0]'omT):=aA omT;rw[gO omT (λq=>h0 (.inl q)) hx];split
   ·exact .refl c
   ·split
    ·exact⟨rfl,List.prefix_append _ _,rfl⟩
    ·split
     ·exact .refl c
     ·rw[gG];by_cases hk:kindOf (c.rob[0]'omT).i.op=3
      ·rw[Ao hk];exact(Pd c _).trans (Bn n _)
      ·rw[uJ hk];exact(Pc c _).trans (Bn n _)
def Vi(c:Co)(i:Nat):Kp c (kL c i):=by
 unfold kL
 cases c.rob[i]? with
 |none=>exact .refl c
 |some e=>
  dsimp only
  repeat' split
  all_goals exact⟨rfl,List.prefix_refl _,rfl⟩
def Su(c:Co)(i:Nat):Kp c (fD c i):=by
 unfold fD
 cases c.rob[i]? with
 |none=>exact .refl c
 | some e=>
  dsimp only;split
  ·exact⟨rfl,List.prefix_refl _,rfl⟩
  ·split
   ·exact Kp.trans (b:=setE c i (rI e c.mem.size (lK c.rob c.r i).1)) ⟨rfl,List.prefix_refl _,rfl⟩ (Vi _ i)
   ·exact⟨rfl,List.prefix_refl _,rfl⟩
theorem Jg:∀(p:List Nat) (c:Co),Kp c (p.foldl fD c)
 |[],c=>.refl c
 |i::p,c=>(Su c i).trans (Jg p _)
def Pe(c:Co):Kp c (eW c):=by
 unfold eW;split
 ·exact .refl c
 ·exact Jg _ c
theorem Ga:∀(n:Nat) (c:Co),Kp c (jP n c)
 |0,c=>.refl c
 | n+1,c=>by
  by_cases h0:(c.rob.length:Int)>=c.conf.rob∨c.fetched.length=0
  ·rw[rP h0];exact .refl c
  ·have hx:c.fetched[0]?=some (c.fetched[0]'omT):=aA omT;have e:=vF (n:=n+1) (k:=0) omT (λq=>h0 (.inl q)) hx;rw[show n+1-(0+1)=n by omega,show n+1-0=n+1 by omega]at e;rw[<-e];have h1:Kp c (Gk c (c.fetched[0]'omT)):=⟨rfl,List.prefix_refl _,rfl⟩;exact h1.trans (Ga n _)
def Pf(c:Co):Kp c (iP c):=by
 unfold iP;split
 ·exact .refl c
 ·exact Ga _ c
def Pg(c:Co):Kp c (xZ c):=by
 have h:Kp (gK c) (cN (gK c) (fetchW c.prog c.fetch)).1:=by
  unfold cN;split
  ·exact .refl _
  ·split<;>exact⟨rfl,List.prefix_refl _,rfl⟩
 exact⟨h.cycle,h.ret,h.mem⟩
theorem Ej:∀(n:Nat) (c:Co),Kp c (eC n c)
 |0,c=>.refl c
 | n +1,c=>by
  by_cases h0:c.stop=true∨(c.fetched.length:Int)>=c.conf.queue
  ·rw[pP h0];exact .refl c
  ·by_cases hf:(fetchP c.prog c.fetch).isSome=false
   ·rw[rQ omT h0 hf];exact⟨rfl,List.prefix_refl _,rfl⟩
   ·by_cases hw:(bG c.words (lineOf c.fetch)).2.isSome=false
    ·rw[nM omT h0 hf hw];split
     ·exact⟨rfl,List.prefix_refl _,rfl⟩
     ·exact .refl c
    ·have e:=tO (n:=n+1) (k:=0) omT h0 hf hw;rw[show n+1-(0+1)=n by omega,show n+1-0=n+1 by omega]at e;rw[<-e];exact(Pg c).trans (Ej n _)
def Ny(c:Co):Kp c (dS c):=by
 unfold dS;split
 ·exact .refl c
 ·exact Ej _ c
def KN(c:Co):Kp c (mO c):=by
 unfold mO;split
 ·exact .refl c
 ·split
  ·exact⟨rfl,List.prefix_refl _,rfl⟩
  ·exact .refl c
def Gb(c:Co):Kp c (kH c):=by
 unfold kH;split
 ·exact .refl c
 ·unfold mD;split
  ·split
   ·exact⟨rfl,List.prefix_refl _,rfl⟩
   ·exact .refl c
  ·exact .refl c
def Ph(c:Co):Kp c (pT c):=by
 have h1:Kp c (aZ c):=⟨rfl,List.prefix_refl _,rfl⟩;rw[jL];split
 ·exact(h1.trans (KN _)).trans (Gb _)
 ·exact h1.trans (Gb _)
def Vj(c:Co):Kp (s0 c) (Qd c):=
 ((((((Sr (s0 c)).trans (Ss _)).trans (Bn _ _)).trans (Pe _)).trans (Pf _)).trans (Ny _)).trans (Ph _)
def Vk{c:Co}(h:iA c=true):(lM c).cycle=wrap64 (c.cycle+1)∧c.retired <+: (lM c).retired∧(lM c).mem.size=c.mem.size:=by
 have k:=Vj c;unfold lM;rw[if_pos h];exact⟨k.cycle,k.ret,k.mem⟩
def adE{c:Co}(h:iA c=false):lM c=c:=by unfold lM;rw[if_neg (by rw[h];decide)]
set_option maxRecDepth 100000
set_option maxHeartbeats 4000000
structure Seen where
 data:List (List Wy)
 words:List (List Wy)
 bus:List Req
 pcs:List Nat
abbrev seL(s:Seen):List AV:=[.sl 1 (s.data.map aV) false,.sl 1 (s.words.map aV) false,.sl 4 (s.bus.map rqL) false,.sl 1 (s.pcs.map eE) false]
def Rx(x:Req):Req:=⟨x.kind,x.line,0,oX⟩
abbrev DI(x:Req):List AV:=[.v (.int .i64 x.kind),.v (.int .u32 (x.line:Int)),.v (.int .i64 0),.v (.string oX)]
abbrev pcL(x:Sp):List AV:=[.v (.int .u32 (x.pc:Int))]
def Ct(b:Int):Int:=if 0>b then 0 else b
def Xz(c:Co)(before:Int):Seen:=⟨fE c.data,fE c.words,c.bus.map Rx,(c.retired.drop (Ct before).toNat).map (·.pc)⟩
structure Co.okW(c:Co):Prop where
 data:c.data.ok
 words:c.words.ok
 bus:c.bus.length<=1000000
 busr:∀x∈c.bus,x.line<=4294967295
 ret:c.retired.length<=1000000
 retr:∀x∈c.retired,x.pc<=4294967295
def wP{α:Type}(f:α->List AV)(l:List α){j:Nat}(h:j<l.length):(List.take j (List.drop 0 ((l.take j).map f))).length=j:=by simp;omega
def KM{α:Type}(f:α->List AV)(l:List α){x:α}(hx:l[0]?=some x):[f x]=(l.take 1).map f:=by
 cases l with
 |nil=>cases hx
 |cons y l=>injection hx with hx;subst hx;rfl
def Vh{α:Type}(f:α->List AV)(l:List α){x:α}{j:Nat}(hx:l[j]?=some x):List.take j (List.drop 0 ((l.take j).map f))++[f x]=(l.take (j+1)).map f:=by
 obtain⟨hj,hx'⟩:=DS.1 hx;rw[cB,aM (by simp;omega),bV,hx];simp
def BS{α:Type}(f:α->List AV)(l:List α){j:Nat}(h:j=l.length):List.take j (List.drop 0 ((l.take j).map f))=l.map f:=by
 subst h;rw[cB,cM,aM (by simp)]
def Zo(c:Co)(before:Int)(hok:c.okW):cA C0 17 [.agg (coL c),.v (.int .i64 before)] (.agg (seL (Xz c before))):=by
 refine cA.intro c0Ok Tryz.func17 rfl rfl (by kernel_rfl) rfl ?_;obtain⟨B,hB⟩:∃B:Nat,(if 0>before then 0 else before)=(B:Int):=⟨(Ct before).toNat,by unfold Ct;split<;>omega⟩;refine qSC 0 rfl<|cRg<|oR 2 rfl<|rCi rfl (Yj c.data false hok.data)<|oR 2 rfl<|rCi rfl (Yj c.words false hok.words)<|rV (.agg [.sl 1 ((fE c.data).map aV) false,.sl 1 ((fE c.words).map aV) false,.sl 0 ([]) true,.sl 0 ([]) true]) rfl<|rAl 9 rfl rfl<|rSt rfl<|rE 11<|qX 0 rfl<|rW (vN c.bus.length) rfl (bT rqL c.bus)<|qRC 0 rfl<|jX (κ:=Nat) (λj=>match j with|0=>⟨slotsF [(1,vI before),(2,.ptr 0 0),(4,.ptr 1 0),(5,.ptr 9 0),(17,.sl 4 (c.bus.map rqL) false),(18,vN c.bus.length),(19,vN 0)],heapF [(0,.box [vI c.conf.mode,vI c.conf.width,vI c.conf.rob,vI c.conf.queue,vI c.conf.stores,vI c.conf.slots,vI c.conf.sets,vI c.conf.ways,.sl 1 (c.conf.lat.map iK) false,vB c.conf.tables,.sl 1 (c.conf.tape.map eE) false,.sl 1 (c.prog.map eE) false,vI c.cycle,vU (c.r 0),vU (c.r 1),vU (c.r 2),vU (c.r 3),vU (c.r 4),vU (c.r 5),vU (c.r 6),vU (c.r 7),vU (c.r 8),vU (c.r 9),vU (c.r 10),vU (c.r 11),vU (c.r 12),vU (c.r 13),vU (c.r 14),vU (c.r 15),vU (c.r 16),vU (c.r 17),vU (c.r 18),vU (c.r 19),vU (c.r 20),vU (c.r 21),vU (c.r 22),vU (c.r 23),vU (c.r 24),vU (c.r 25),vU (c.r 26),vU (c.r 27),vU (c.r 28),vU (c.r 29),vU (c.r 30),vU (c.r 31),vU c.fetch,vB c.stop,.sl 2 (c.fetched.map ftL) false,.sl 17 (c.rob.map enL) false,vI c.next,.sl 2 (c.stores.map ptL) false,vI c.data.ways,.sl 1 (c.data.sets.map aV) false,vI c.words.ways,.sl 1 (c.words.sets.map aV) false,.sl 4 (c.bus.map rqL) false,vI c.asked,vI c.guessed,.v (.string c.mem),.sl 2 (c.guess.slots.map gsL) false,vU c.guess.hist,.sl 1 (c.guess.rets.map eE) false,vI c.halt,.sl 9 (c.retired.map spL) false]),(1,.box [.sl 0 ([]) true,.sl 0 ([]) true,.sl 0 ([]) true,.sl 0 ([]) true]),(9,.box [.sl 1 ((fE c.data).map aV) false,.sl 1 ((fE c.words).map aV) false,.sl 0 ([]) true,.sl 0 ([]) true])],61⟩|j+1=>⟨slotsF [(1,vI before),(2,.ptr 0 0),(4,.ptr 1 0),(5,.ptr 9 0),(17,.sl 4 (c.bus.map rqL) false),(18,vN c.bus.length),(19,vN (j+1))],heapF [(0,.box [vI c.conf.mode,vI c.conf.width,vI c.conf.rob,vI c.conf.queue,vI c.conf.stores,vI c.conf.slots,vI c.conf.sets,vI c.conf.ways,.sl 1 (c.conf.lat.map iK) false,vB c.conf.tables,.sl 1 (c.conf.tape.map eE) false,.sl 1 (c.prog.map eE) false,vI c.cycle,vU (c.r 0),vU (c.r 1),vU (c.r 2),vU (c.r 3),vU (c.r 4),vU (c.r 5),vU (c.r 6),vU (c.r 7),vU (c.r 8),vU (c.r 9),vU (c.r 10),vU (c.r 11),vU (c.r 12),vU (c.r 13),vU (c.r 14),vU (c.r 15),vU (c.r 16),vU (c.r 17),vU (c.r 18),vU (c.r 19),vU (c.r 20),vU (c.r 21),vU (c.r 22),vU (c.r 23),vU (c.r 24),vU (c.r 25),vU (c.r 26),vU (c.r 27),vU (c.r 28),vU (c.r 29),vU (c.r 30),vU (c.r 31),vU c.fetch,vB c.stop,.sl 2 (c.fetched.map ftL) false,.sl 17 (c.rob.map enL) false,vI c.next,.sl 2 (c.stores.map ptL) false,vI c.data.ways,.sl 1 (c.data.sets.map aV) false,vI c.words.ways,.sl 1 (c.words.sets.map aV) false,.sl 4 (c.bus.map rqL) false,vI c.asked,vI c.guessed,.v (.string c.mem),.sl 2 (c.guess.slots.map gsL) false,vU c.guess.hist,.sl 1 (c.guess.rets.map eE) false,vI c.halt,.sl 9 (c.retired.map spL) false]),(1,.box [.sl 0 ([]) true,.sl 0 ([]) true,.sl 0 ([]) true,.sl 0 ([]) true]),(9,.box [.sl 1 ((fE c.data).map aV) false,.sl 1 ((fE c.words).map aV) false,.osl 60 0 (j+1) false,.sl 0 ([]) true]),(60,.arr ((c.bus.take (j+1)).map DI) 4)],61⟩) (λj=>j<=c.bus.length) (λj=>c.bus.length-j) 0 (λs=>s) (Weak.of_lists (λs=>s) wT wH rfl) (aE _) ?_;intro j hj;rcases j with _|j
 ·refine qS 0 rfl<|rW (vB (decide (0<c.bus.length))) rfl (okB (ltN _ _))<|qRC 0 rfl<|aS rfl (λh1=>?_) (λh1=>?_)
  ·skip
   obtain⟨x,hx⟩:∃x,c.bus[0]?=some x:=⟨_,aA (of_decide_eq_true h1)⟩;have hxo:=hok.busr x (aB hx);refine qC 0 rfl<|rIx (rqL x) (.dp 4 0 (rqL x)) rfl rfl (fW hx) rfl<|qR 0 rfl<|rV (.agg [vI x.kind,vU x.line,vI 0,.v (.string (⟨#[]⟩))]) rfl<|rV (.sl 4 ([[vI x.kind,vU x.line,vI 0,.v (.string (⟨#[]⟩))]]) true) rfl<|rFx (x:=.osl 74 0 1 false) (h':=upd _ 74 (some (.arr ([[vI x.kind,vU x.line,vI 0,.v (.string (⟨#[]⟩))]]) 4))) rfl rfl (rfl) (⟨rfl,by simp[gJ],by simp[gJ],trivial⟩) ?_;have b1:0+1<=1:=aF (aC 0) (aC 1);refine qR 0 rfl<|rW (vN (0+1)) rfl (okI (bJ b1 rfl))<|qRF 0 rfl<|⟨1,λs=>match s with|60=>74|s=>s,Weak.of_lists _ wT ⟨⟨rfl,rfl,rfl⟩,⟨rfl,rfl,rfl⟩,⟨rfl,rfl,rfl⟩,⟨rfl,(congrArg (λz=>some (Blk.arr z 4)) (KM DI c.bus hx)),rfl⟩,trivial⟩ rfl,of_decide_eq_true h1,by have:=of_decide_eq_true h1;show c.bus.length-(1)<c.bus.length-(0);omega⟩
  ·refine qCF 0 rfl<|qX 0 rfl<|rV (vI (if 0>before then 0 else before)) rfl<|qRC 0 rfl<|jX (κ:=Nat) (λk=>match k with|0=>⟨slotsF [(2,.ptr 0 0),(4,.ptr 1 0),(5,.ptr 9 0),(8,vN B)],heapF [(0,.box [vI c.conf.mode,vI c.conf.width,vI c.conf.rob,vI c.conf.queue,vI c.conf.stores,vI c.conf.slots,vI c.conf.sets,vI c.conf.ways,.sl 1 (c.conf.lat.map iK) false,vB c.conf.tables,.sl 1 (c.conf.tape.map eE) false,.sl 1 (c.prog.map eE) false,vI c.cycle,vU (c.r 0),vU (c.r 1),vU (c.r 2),vU (c.r 3),vU (c.r 4),vU (c.r 5),vU (c.r 6),vU (c.r 7),vU (c.r 8),vU (c.r 9),vU (c.r 10),vU (c.r 11),vU (c.r 12),vU (c.r 13),vU (c.r 14),vU (c.r 15),vU (c.r 16),vU (c.r 17),vU (c.r 18),vU (c.r 19),vU (c.r 20),vU (c.r 21),vU (c.r 22),vU (c.r 23),vU (c.r 24),vU (c.r 25),vU (c.r 26),vU (c.r 27),vU (c.r 28),vU (c.r 29),vU (c.r 30),vU (c.r 31),vU c.fetch,vB c.stop,.sl 2 (c.fetched.map ftL) false,.sl 17 (c.rob.map enL) false,vI c.next,.sl 2 (c.stores.map ptL) false,vI c.data.ways,.sl 1 (c.data.sets.map aV) false,vI c.words.ways,.sl 1 (c.words.sets.map aV) false,.sl 4 (c.bus.map rqL) false,vI c.asked,vI c.guessed,.v (.string c.mem),.sl 2 (c.guess.slots.map gsL) false,vU c.guess.hist,.sl 1 (c.guess.rets.map eE) false,vI c.halt,.sl 9 (c.retired.map spL) false]),(1,.box [.sl 0 ([]) true,.sl 0 ([]) true,.sl 0 ([]) true,.sl 0 ([]) true]),(9,.box [.sl 1 ((fE c.data).map aV) false,.sl 1 ((fE c.words).map aV) false,.sl 0 ([]) true,.sl 0 ([]) true])],71⟩|k+1=>⟨slotsF [(2,.ptr 0 0),(4,.ptr 1 0),(5,.ptr 9 0),(8,vN (B+(k+1)))],heapF [(0,.box [vI c.conf.mode,vI c.conf.width,vI c.conf.rob,vI c.conf.queue,vI c.conf.stores,vI c.conf.slots,vI c.conf.sets,vI c.conf.ways,.sl 1 (c.conf.lat.map iK) false,vB c.conf.tables,.sl 1 (c.conf.tape.map eE) false,.sl 1 (c.prog.map eE) false,vI c.cycle,vU (c.r 0),vU (c.r 1),vU (c.r 2),vU (c.r 3),vU (c.r 4),vU (c.r 5),vU (c.r 6),vU (c.r 7),vU (c.r 8),vU (c.r 9),vU (c.r 10),vU (c.r 11),vU (c.r 12),vU (c.r 13),vU (c.r 14),vU (c.r 15),vU (c.r 16),vU (c.r 17),vU (c.r 18),vU (c.r 19),vU (c.r 20),vU (c.r 21),vU (c.r 22),vU (c.r 23),vU (c.r 24),vU (c.r 25),vU (c.r 26),vU (c.r 27),vU (c.r 28),vU (c.r 29),vU (c.r 30),vU (c.r 31),vU c.fetch,vB c.stop,.sl 2 (c.fetched.map ftL) false,.sl 17 (c.rob.map enL) false,vI c.next,.sl 2 (c.stores.map ptL) false,vI c.data.ways,.sl 1 (c.data.sets.map aV) false,vI c.words.ways,.sl 1 (c.words.sets.map aV) false,.sl 4 (c.bus.map rqL) false,vI c.asked,vI c.guessed,.v (.string c.mem),.sl 2 (c.guess.slots.map gsL) false,vU c.guess.hist,.sl 1 (c.guess.rets.map eE) false,vI c.halt,.sl 9 (c.retired.map spL) false]),(1,.box [.sl 0 ([]) true,.sl 0 ([]) true,.sl 0 ([]) true,.sl 0 ([]) true]),(9,.box [.sl 1 ((fE c.data).map aV) false,.sl 1 ((fE c.words).map aV) false,.sl 0 ([]) true,.osl 70 0 (k+1) false]),(70,.arr (((c.retired.drop B).take (k+1)).map pcL) 1)],71⟩) (λk=>k=0∨B+k<=c.retired.length) (λk=>c.retired.length-B-k) 0 (λs=>s) (Weak.of_lists (λs=>s) ⟨⟨rfl,rfl⟩,⟨rfl,rfl⟩,⟨rfl,rfl⟩,⟨(congrArg (λz:Int=>AV.v (.int .i64 z)) hB),rfl⟩,trivial⟩ wH rfl) (.inl rfl) ?_;intro k hk;rcases k with _|k
   ·refine qS 0 rfl<|rW (vN c.retired.length) rfl (bT spL c.retired)<|rW (vB (decide (B<c.retired.length))) rfl (okB (ltN _ _))<|qRC 0 rfl<|aS rfl (λh2=>?_) (λh2=>?_)
    ·refine qCC 0 rfl<|cRg ?_;obtain⟨y,hy⟩:∃y,c.retired[B]?=some y:=⟨_,aA (of_decide_eq_true h2)⟩;have hyo:=hok.retr y (aB hy);have hy0:(c.retired.drop B)[0]?=some y:=by rw[cE];exact hy
     refine oR 5 rfl<|rIx (spL y) (.dp 9 0 (spL y)) rfl rfl (fW hy) rfl<|oR 2 rfl<|rV (.sl 1 ([[vU y.pc]]) true) rfl<|rFx (x:=.osl 85 0 1 false) (h':=upd _ 85 (some (.arr ([[vU y.pc]]) 1))) rfl rfl (rfl) (⟨rfl,by simp[gJ],by simp[gJ],trivial⟩)<|oR 1 rfl<|rSt rfl<|rE 88 ?_;have b2:B+1<=1000000:=by have:=of_decide_eq_true h2;have:=hok.ret;omega
     refine qX 0 rfl<|rW (vN (B+1)) rfl (okI (bJ b2 rfl))<|qRF 0 rfl<|⟨1,λs=>match s with|70=>85|s=>s,Weak.of_lists _ wT ⟨⟨rfl,rfl,rfl⟩,⟨rfl,rfl,rfl⟩,⟨rfl,rfl,rfl⟩,⟨rfl,(congrArg (λz=>some (Blk.arr z 1)) (KM pcL (c.retired.drop B) hy0)),rfl⟩,trivial⟩ rfl,Or.inr (by have:=of_decide_eq_true h2;omega),by have:=of_decide_eq_true h2;show c.retired.length-B-(1)<c.retired.length-B-(0);omega⟩
    ·refine qCF 0 rfl<|qXF 0 rfl ?_;have hB2:(Ct before).toNat=B:=by have:Ct before=(B:Int):=hB;rw[this];rfl
     have hb0:c.bus=[]:=aR (by have:=aD h1;omega);have hr0:(c.retired.drop B)=[]:=cC (by have:=aD h2;omega);exact⟨_,rfl,tvT,rfl,Sub.agg ⟨Sub.refl _,Sub.refl _,(by show Sub (.sl 0 [] true) (.sl 4 ((c.bus.map Rx).map rqL) false);rw[hb0];exact lP 4 false),(by show Sub (.sl 0 [] true) (.sl 1 (((c.retired.drop (Ct before).toNat).map (·.pc)).map eE) false);rw[hB2,hr0];exact lP 1 false),trivial⟩⟩
   ·have hkl:B+(k+1)<=c.retired.length:=by omega
    have hkB:B+(k+1)<=1000000:=by have:=hok.ret;omega
    refine qS 0 rfl<|rW (vN c.retired.length) rfl (bT spL c.retired)<|rW (vB (decide ((B+(k+1))<c.retired.length))) rfl (okB (ltN _ _))<|qRC 0 rfl<|aS rfl (λh3=>?_) (λh3=>?_)
    ·refine qCC 0 rfl<|cRg ?_;obtain⟨y,hy⟩:∃y,c.retired[B+(k+1)]?=some y:=⟨_,aA (of_decide_eq_true h3)⟩;have hyo:=hok.retr y (aB hy);have hy0:(c.retired.drop B)[k+1]?=some y:=by rw[cE];exact hy
     refine oR 5 rfl<|rIx (spL y) (.dp 9 0 (spL y)) rfl rfl (fW hy) rfl<|oR 2 rfl<|rV (.sl 1 ([[vU y.pc]]) true) rfl<|rFx (x:=.osl 85 0 (k+1+1) false) (h':=upd (upd _ 70 none) 85 (some (.arr (((c.retired.drop B).take (k+1+1)).map pcL) 1))) rfl rfl (Bf (wP _ _ (show k+1<(c.retired.drop B).length from by rw[aU];have:=of_decide_eq_true h3;omega)) (Vh pcL (c.retired.drop B) hy0)) (⟨by rw[wP _ _ (show k+1<(c.retired.drop B).length from by rw[aU];have:=of_decide_eq_true h3;omega)];have:=hok.ret;show k+1+1<=1000000;have:=of_decide_eq_true h3;omega,by rw[bF];simp;have:=of_decide_eq_true h3;omega,trivial⟩)<|oR 1 rfl<|rSt rfl<|rE 88 ?_;have b3:B+(k+1)+1<=1000000:=by have:=of_decide_eq_true h3;have:=hok.ret;omega
     refine qX 0 rfl<|rW (vN (B+(k+1)+1)) rfl (okI (bJ b3 rfl))<|qRF 0 rfl<|⟨(k+1)+1,λs=>match s with|70=>85|s=>s,Weak.of_lists _ wT wH rfl,Or.inr (by have:=of_decide_eq_true h3;omega),by have:=of_decide_eq_true h3;show c.retired.length-B-((k+1)+1)<c.retired.length-B-(k+1);omega⟩
    ·refine qCF 0 rfl<|qXF 0 rfl ?_;have hB2:(Ct before).toNat=B:=by have:Ct before=(B:Int):=hB;rw[this];rfl
     have hb0:c.bus=[]:=aR (by have:=aD h1;omega);have hk2:k+1=(c.retired.drop B).length:=by rw[aU];have:=aD h3;omega
     exact⟨_,rfl,⟨trivial,trivial,trivial,(by show 0+(k+1)<=(((c.retired.drop B).take (k+1)).map pcL).length;rw[aG,aL];omega),trivial⟩,rfl,Sub.agg ⟨Sub.refl _,Sub.refl _,(by show Sub (.sl 0 [] true) (.sl 4 ((c.bus.map Rx).map rqL) false);rw[hb0];exact lP 4 false),(by show Sub (.sl 1 (List.take (k+1) (List.drop 0 (((c.retired.drop B).take (k+1)).map pcL))) false) (.sl 1 (((c.retired.drop (Ct before).toNat).map (·.pc)).map eE) false);rw[hB2,BS pcL (c.retired.drop B) hk2,List.map_map];exact Sub.refl _),trivial⟩⟩
 ·have hjB:j+1<=1000000:=by have:=hok.bus;omega
  refine qS 0 rfl<|rW (vB (decide ((j+1)<c.bus.length))) rfl (okB (ltN _ _))<|qRC 0 rfl<|aS rfl (λh4=>?_) (λh4=>?_)
  ·skip
   obtain⟨x,hx⟩:∃x,c.bus[(j+1)]?=some x:=⟨_,aA (of_decide_eq_true h4)⟩;have hxo:=hok.busr x (aB hx);refine qC 0 rfl<|rIx (rqL x) (.dp 4 0 (rqL x)) rfl rfl (fW hx) rfl<|qR 0 rfl<|rV (.agg [vI x.kind,vU x.line,vI 0,.v (.string (⟨#[]⟩))]) rfl<|rV (.sl 4 ([[vI x.kind,vU x.line,vI 0,.v (.string (⟨#[]⟩))]]) true) rfl<|rFx (x:=.osl 74 0 (j+1+1) false) (h':=upd (upd _ 60 none) 74 (some (.arr ((c.bus.take (j+1+1)).map DI) 4))) rfl rfl (Bf (wP _ _ (of_decide_eq_true h4)) (Vh DI c.bus hx)) (⟨by rw[wP _ _ (of_decide_eq_true h4)];have:=hok.bus;show j+1+1<=1000000;have:=of_decide_eq_true h4;omega,by rw[bF];simp;have:=of_decide_eq_true h4;omega,trivial⟩) ?_;have b4:(j+1)+1<=1000001:=aF hjB (aC 1);refine qR 0 rfl<|rW (vN ((j+1)+1)) rfl (okI (bJ b4 rfl))<|qRF 0 rfl<|⟨(j+1)+1,λs=>match s with|60=>74|s=>s,Weak.of_lists _ wT wH rfl,of_decide_eq_true h4,by have:=of_decide_eq_true h4;show c.bus.length-((j+1)+1)<c.bus.length-(j+1);omega⟩
  ·refine qCF 0 rfl<|qX 0 rfl<|rV (vI (if 0>before then 0 else before)) rfl<|qRC 0 rfl<|jX (κ:=Nat) (λk=>match k with|0=>⟨slotsF [(2,.ptr 0 0),(4,.ptr 1 0),(5,.ptr 9 0),(8,vN B)],heapF [(0,.box [vI c.conf.mode,vI c.conf.width,vI c.conf.rob,vI c.conf.queue,vI c.conf.stores,vI c.conf.slots,vI c.conf.sets,vI c.conf.ways,.sl 1 (c.conf.lat.map iK) false,vB c.conf.tables,.sl 1 (c.conf.tape.map eE) false,.sl 1 (c.prog.map eE) false,vI c.cycle,vU (c.r 0),vU (c.r 1),vU (c.r 2),vU (c.r 3),vU (c.r 4),vU (c.r 5),vU (c.r 6),vU (c.r 7),vU (c.r 8),vU (c.r 9),vU (c.r 10),vU (c.r 11),vU (c.r 12),vU (c.r 13),vU (c.r 14),vU (c.r 15),vU (c.r 16),vU (c.r 17),vU (c.r 18),vU (c.r 19),vU (c.r 20),vU (c.r 21),vU (c.r 22),vU (c.r 23),vU (c.r 24),vU (c.r 25),vU (c.r 26),vU (c.r 27),vU (c.r 28),vU (c.r 29),vU (c.r 30),vU (c.r 31),vU c.fetch,vB c.stop,.sl 2 (c.fetched.map ftL) false,.sl 17 (c.rob.map enL) false,vI c.next,.sl 2 (c.stores.map ptL) false,vI c.data.ways,.sl 1 (c.data.sets.map aV) false,vI c.words.ways,.sl 1 (c.words.sets.map aV) false,.sl 4 (c.bus.map rqL) false,vI c.asked,vI c.guessed,.v (.string c.mem),.sl 2 (c.guess.slots.map gsL) false,vU c.guess.hist,.sl 1 (c.guess.rets.map eE) false,vI c.halt,.sl 9 (c.retired.map spL) false]),(1,.box [.sl 0 ([]) true,.sl 0 ([]) true,.sl 0 ([]) true,.sl 0 ([]) true]),(9,.box [.sl 1 ((fE c.data).map aV) false,.sl 1 ((fE c.words).map aV) false,.osl 60 0 (j+1) false,.sl 0 ([]) true]),(60,.arr ((c.bus.take (j+1)).map DI) 4)],71⟩|k+1=>⟨slotsF [(2,.ptr 0 0),(4,.ptr 1 0),(5,.ptr 9 0),(8,vN (B+(k+1)))],heapF [(0,.box [vI c.conf.mode,vI c.conf.width,vI c.conf.rob,vI c.conf.queue,vI c.conf.stores,vI c.conf.slots,vI c.conf.sets,vI c.conf.ways,.sl 1 (c.conf.lat.map iK) false,vB c.conf.tables,.sl 1 (c.conf.tape.map eE) false,.sl 1 (c.prog.map eE) false,vI c.cycle,vU (c.r 0),vU (c.r 1),vU (c.r 2),vU (c.r 3),vU (c.r 4),vU (c.r 5),vU (c.r 6),vU (c.r 7),vU (c.r 8),vU (c.r 9),vU (c.r 10),vU (c.r 11),vU (c.r 12),vU (c.r 13),vU (c.r 14),vU (c.r 15),vU (c.r 16),vU (c.r 17),vU (c.r 18),vU (c.r 19),vU (c.r 20),vU (c.r 21),vU (c.r 22),vU (c.r 23),vU (c.r 24),vU (c.r 25),vU (c.r 26),vU (c.r 27),vU (c.r 28),vU (c.r 29),vU (c.r 30),vU (c.r 31),vU c.fetch,vB c.stop,.sl 2 (c.fetched.map ftL) false,.sl 17 (c.rob.map enL) false,vI c.next,.sl 2 (c.stores.map ptL) false,vI c.data.ways,.sl 1 (c.data.sets.map aV) false,vI c.words.ways,.sl 1 (c.words.sets.map aV) false,.sl 4 (c.bus.map rqL) false,vI c.asked,vI c.guessed,.v (.string c.mem),.sl 2 (c.guess.slots.map gsL) false,vU c.guess.hist,.sl 1 (c.guess.rets.map eE) false,vI c.halt,.sl 9 (c.retired.map spL) false]),(1,.box [.sl 0 ([]) true,.sl 0 ([]) true,.sl 0 ([]) true,.sl 0 ([]) true]),(9,.box [.sl 1 ((fE c.data).map aV) false,.sl 1 ((fE c.words).map aV) false,.osl 60 0 (j+1) false,.osl 70 0 (k+1) false]),(60,.arr ((c.bus.take (j+1)).map DI) 4),(70,.arr (((c.retired.drop B).take (k+1)).map pcL) 1)],71⟩) (λk=>k=0∨B+k<=c.retired.length) (λk=>c.retired.length-B-k) 0 (λs=>s) (Weak.of_lists (λs=>s) ⟨⟨rfl,rfl⟩,⟨rfl,rfl⟩,⟨rfl,rfl⟩,⟨(congrArg (λz:Int=>AV.v (.int .i64 z)) hB),rfl⟩,trivial⟩ wH rfl) (.inl rfl) ?_;intro k hk;rcases k with _|k
   ·refine qS 0 rfl<|rW (vN c.retired.length) rfl (bT spL c.retired)<|rW (vB (decide (B<c.retired.length))) rfl (okB (ltN _ _))<|qRC 0 rfl<|aS rfl (λh5=>?_) (λh5=>?_)
    ·refine qCC 0 rfl<|cRg ?_;obtain⟨y,hy⟩:∃y,c.retired[B]?=some y:=⟨_,aA (of_decide_eq_true h5)⟩;have hyo:=hok.retr y (aB hy);have hy0:(c.retired.drop B)[0]?=some y:=by rw[cE];exact hy
     refine oR 5 rfl<|rIx (spL y) (.dp 9 0 (spL y)) rfl rfl (fW hy) rfl<|oR 2 rfl<|rV (.sl 1 ([[vU y.pc]]) true) rfl<|rFx (x:=.osl 85 0 1 false) (h':=upd _ 85 (some (.arr ([[vU y.pc]]) 1))) rfl rfl (rfl) (⟨rfl,by simp[gJ],by simp[gJ],trivial⟩)<|oR 1 rfl<|rSt rfl<|rE 88 ?_;have b5:B+1<=1000000:=by have:=of_decide_eq_true h5;have:=hok.ret;omega
     refine qX 0 rfl<|rW (vN (B+1)) rfl (okI (bJ b5 rfl))<|qRF 0 rfl<|⟨1,λs=>match s with|70=>85|s=>s,Weak.of_lists _ wT ⟨⟨rfl,rfl,rfl⟩,⟨rfl,rfl,rfl⟩,⟨rfl,rfl,rfl⟩,⟨rfl,rfl,rfl⟩,⟨rfl,(congrArg (λz=>some (Blk.arr z 1)) (KM pcL (c.retired.drop B) hy0)),rfl⟩,trivial⟩ rfl,Or.inr (by have:=of_decide_eq_true h5;omega),by have:=of_decide_eq_true h5;show c.retired.length-B-(1)<c.retired.length-B-(0);omega⟩
    ·refine qCF 0 rfl<|qXF 0 rfl ?_;have hB2:(Ct before).toNat=B:=by have:Ct before=(B:Int):=hB;rw[this];rfl
     have hj2:j+1=c.bus.length:=by have:=aD h4;omega
     have hr0:(c.retired.drop B)=[]:=cC (by have:=aD h5;omega);exact⟨_,rfl,⟨trivial,trivial,(by show 0+(j+1)<=((c.bus.take (j+1)).map DI).length;rw[aG,aL];omega),trivial,trivial⟩,rfl,Sub.agg ⟨Sub.refl _,Sub.refl _,(by show Sub (.sl 4 (List.take (j+1) (List.drop 0 ((c.bus.take (j+1)).map DI))) false) (.sl 4 ((c.bus.map Rx).map rqL) false);rw[BS DI c.bus hj2,List.map_map];exact Sub.refl _),(by show Sub (.sl 0 [] true) (.sl 1 (((c.retired.drop (Ct before).toNat).map (·.pc)).map eE) false);rw[hB2,hr0];exact lP 1 false),trivial⟩⟩
   ·have hkl:B+(k+1)<=c.retired.length:=by omega
    have hkB:B+(k+1)<=1000000:=by have:=hok.ret;omega
    refine qS 0 rfl<|rW (vN c.retired.length) rfl (bT spL c.retired)<|rW (vB (decide ((B+(k+1))<c.retired.length))) rfl (okB (ltN _ _))<|qRC 0 rfl<|aS rfl (λh6=>?_) (λh6=>?_)
    ·refine qCC 0 rfl<|cRg ?_;obtain⟨y,hy⟩:∃y,c.retired[B+(k+1)]?=some y:=⟨_,aA (of_decide_eq_true h6)⟩;have hyo:=hok.retr y (aB hy);have hy0:(c.retired.drop B)[k+1]?=some y:=by rw[cE];exact hy
     refine oR 5 rfl<|rIx (spL y) (.dp 9 0 (spL y)) rfl rfl (fW hy) rfl<|oR 2 rfl<|rV (.sl 1 ([[vU y.pc]]) true) rfl<|rFx (x:=.osl 85 0 (k+1+1) false) (h':=upd (upd _ 70 none) 85 (some (.arr (((c.retired.drop B).take (k+1+1)).map pcL) 1))) rfl rfl (Bf (wP _ _ (show k+1<(c.retired.drop B).length from by rw[aU];have:=of_decide_eq_true h6;omega)) (Vh pcL (c.retired.drop B) hy0)) (⟨by rw[wP _ _ (show k+1<(c.retired.drop B).length from by rw[aU];have:=of_decide_eq_true h6;omega)];have:=hok.ret;show k+1+1<=1000000;have:=of_decide_eq_true h6;omega,by rw[bF];simp;have:=of_decide_eq_true h6;omega,trivial⟩)<|oR 1 rfl<|rSt rfl<|rE 88 ?_;have b6:B+(k+1)+1<=1000000:=by have:=of_decide_eq_true h6;have:=hok.ret;omega
     refine qX 0 rfl<|rW (vN (B+(k+1)+1)) rfl (okI (bJ b6 rfl))<|qRF 0 rfl<|⟨(k+1)+1,λs=>match s with|70=>85|s=>s,Weak.of_lists _ wT wH rfl,Or.inr (by have:=of_decide_eq_true h6;omega),by have:=of_decide_eq_true h6;show c.retired.length-B-((k+1)+1)<c.retired.length-B-(k+1);omega⟩
    ·refine qCF 0 rfl<|qXF 0 rfl ?_;have hB2:(Ct before).toNat=B:=by have:Ct before=(B:Int):=hB;rw[this];rfl
     have hj2:j+1=c.bus.length:=by have:=aD h4;omega
     have hk2:k+1=(c.retired.drop B).length:=by rw[aU];have:=aD h6;omega
     exact⟨_,rfl,⟨trivial,trivial,(by show 0+(j+1)<=((c.bus.take (j+1)).map DI).length;rw[aG,aL];omega),(by show 0+(k+1)<=(((c.retired.drop B).take (k+1)).map pcL).length;rw[aG,aL];omega),trivial⟩,rfl,Sub.agg ⟨Sub.refl _,Sub.refl _,(by show Sub (.sl 4 (List.take (j+1) (List.drop 0 ((c.bus.take (j+1)).map DI))) false) (.sl 4 ((c.bus.map Rx).map rqL) false);rw[BS DI c.bus hj2,List.map_map];exact Sub.refl _),(by show Sub (.sl 1 (List.take (k+1) (List.drop 0 (((c.retired.drop B).take (k+1)).map pcL))) false) (.sl 1 (((c.retired.drop (Ct before).toNat).map (·.pc)).map eE) false);rw[hB2,BS pcL (c.retired.drop B) hk2,List.map_map];exact Sub.refl _),trivial⟩⟩
def mA{α:Type}(e:α->α->Bool):List α->List α->Bool
 |[],[]=>true
 |x::a,y::b=>e x y&&mA e a b
 |_,_=>false
def uI{α:Type}{e:α->α->Bool}{a b:List α}{j:Nat}{x y:α}(hx:a[j]?=some x)(hy:b[j]?=some y)(he:e x y=true)(h:mA e a b=mA e (a.drop j) (b.drop j)):mA e a b=mA e (a.drop (j+1)) (b.drop (j+1)):=by
 obtain⟨h1,h1'⟩:=DS.1 hx;obtain⟨h2,h2'⟩:=DS.1 hy;rw[h,bR h1,bR h2,h1',h2'];simp only[mA,he,eF]
def yV{α:Type}{e:α->α->Bool}{a b:List α}{j:Nat}{x y:α}(hx:a[j]?=some x)(hy:b[j]?=some y)(he:e x y=false)(h:mA e a b=mA e (a.drop j) (b.drop j)):mA e a b=false:=by
 obtain⟨h1,h1'⟩:=DS.1 hx;obtain⟨h2,h2'⟩:=DS.1 hy;rw[h,bR h1,bR h2,h1',h2'];simp only[mA,he,qA]
def wQ{α:Type}{e:α->α->Bool}{a b:List α}{j:Nat}(ha:a.length<=j)(hb:b.length<=j)(h:mA e a b=mA e (a.drop j) (b.drop j)):mA e a b=true:=by
 rw[h,cC ha,cC hb];rfl
theorem wR{α:Type}{e:α->α->Bool}:∀{a b:List α},a.length≠b.length->mA e a b=false
 |[],[],h=>absurd rfl h
 |[],_::_,_=>rfl
 |_::_,[],_=>rfl
 |x::a,y::b,h=>by simp only[mA,wR (a:=a) (b:=b) (λk=>h (by simp[k])),Bool.and_false]
def eqU(x y:Nat):Bool:=x==y
def Ag(x y:Wy):Bool:=(((x.line:Int)==(y.line:Int))&&((x.dirty==y.dirty)&&((x.data==y.data)&&true)))
def Md(x y:Req):Bool:=((x.kind==y.kind)&&(((x.line:Int)==(y.line:Int))&&((x.left==y.left)&&((x.data==y.data)&&true))))
def tF(x y:Seen):Bool:=mA (mA Ag) x.data y.data&&(mA (mA Ag) x.words y.words&&(mA Md x.bus y.bus&&mA eqU x.pcs y.pcs))
def aaZ(x y:Nat):cA C0 89 [vU x,vU y] (.v (.bool (eqU x y))):=by
 refine cA.intro c0Ok Tryz.func89 rfl rfl (by kernel_rfl) rfl<|qS 0 rfl<|rW (vB (x==y)) rfl (okB (eqN _ _))<|qRF 0 rfl ?_;exact fT rfl rfl
def aa0(x y:Wy):cA C0 126 [.agg (wyL x),.agg (wyL y)] (.v (.bool (Ag x y))):=by
 refine cA.intro c0Ok Tryz.func126 rfl rfl (by kernel_rfl) rfl<|qS 0 rfl<|rV (vB ((((x.line:Nat):Int)==((y.line:Nat):Int))&&((x.dirty==y.dirty)&&((x.data==y.data)&&true)))) rfl<|qRF 0 rfl ?_;exact fT rfl rfl
def aa1(x y:Req):cA C0 87 [.agg (rqL x),.agg (rqL y)] (.v (.bool (Md x y))):=by
 refine cA.intro c0Ok Tryz.func87 rfl rfl (by kernel_rfl) rfl<|qS 0 rfl<|rV (vB ((x.kind==y.kind)&&((((x.line:Nat):Int)==((y.line:Nat):Int))&&((x.left==y.left)&&((x.data==y.data)&&true))))) rfl<|qRF 0 rfl ?_;exact fT rfl rfl
def Zp(a b:List Wy)(ha:a.length<=1000000)(hb:b.length<=1000000):cA C0 125 [.sl 3 (a.map wyL) false,.sl 3 (b.map wyL) false,.clo 126 [] []] (.v (.bool (mA Ag a b))):=by
 refine cA.intro c0Ok Tryz.func125 rfl rfl (by kernel_rfl) rfl<|qS 0 rfl<|rW (vN a.length) rfl (bT wyL a)<|qR 0 rfl<|rW (vN b.length) rfl (bT wyL b)<|rW (vB (a.length != b.length)) rfl (okB (neN _ _))<|qRC 0 rfl<|aS rfl (λh1=>?_) (λh1=>?_)
 ·refine qCF 0 rfl ?_;exact fT rfl (congrArg (λz=>AV.v (.bool z)) (wR (by simpa using h1)).symm)
 ·refine qC 0 rfl<|rW (vN a.length) rfl (bT wyL a)<|qRC 0 rfl<|jX (κ:=Nat) (λj=>⟨slotsF [(0,.sl 3 (a.map wyL) false),(1,.sl 3 (b.map wyL) false),(2,.clo 126 [] []),(14,vN a.length),(15,vN j)],heapF [],9⟩) (λj=>j<=a.length∧mA Ag a b=mA Ag (a.drop j) (b.drop j)) (λj=>a.length-j) 0 (λs=>s) (Weak.of_lists (λs=>s) wT trivial rfl) (⟨aE _,rfl⟩) ?_;intro j hj;have hjB:j<=1000000:=by have:=hj.1;omega
  refine qS 0 rfl<|rW (vB (decide (j<a.length))) rfl (okB (ltN _ _))<|qRC 0 rfl<|aS rfl (λh2=>?_) (λh2=>?_)
  ·refine qCC 0 rfl<|cRg<|oR 3 rfl ?_;have hjl:=of_decide_eq_true h2;obtain⟨x,hx⟩:∃x,a[j]?=some x:=⟨_,aA hjl⟩;obtain⟨y,hy⟩:∃y,b[j]?=some y:=⟨_,aA (by have:a.length=b.length:=(by simpa using h1);omega)⟩;refine rIx (wyL x) (.dp 3 0 (wyL x)) rfl rfl (fW hx) rfl<|oR 3 rfl<|rIx (wyL y) (.dp 3 0 (wyL y)) rfl rfl (fW hy) rfl<|oR 1 rfl<|rCi rfl (aa0 x y)<|oR 1 rfl<|rE 23<|qXC 0 rfl<|aS rfl (λh3=>?_) (λh3=>?_)
   ·refine qCF 0 rfl<|qXF 0 rfl ?_;exact fT rfl (congrArg (λz=>AV.v (.bool z)) (yV hx hy (by simpa using h3) hj.2).symm)
   ·skip
    have b1:j+1<=1000001:=aF hjB (aC 1);refine qC 0 rfl<|rW (vN (j+1)) rfl (okI (bJ b1 rfl))<|qRF 0 rfl<|⟨j+1,λs=>s,Weak.of_lists _ wT trivial rfl,⟨hjl,uI hx hy (by simpa using h3) hj.2⟩,by show a.length-(j+1)<a.length-j;omega⟩
  ·refine qCF 0 rfl<|qXF 0 rfl ?_;have hab:a.length=b.length:=(by simpa using h1);have hje:=aD h2;exact fT rfl (congrArg (λz=>AV.v (.bool z)) (wQ omT omT hj.2).symm)
def Zq(a b:List Req)(ha:a.length<=1000000)(hb:b.length<=1000000):cA C0 86 [.sl 4 (a.map rqL) false,.sl 4 (b.map rqL) false,.clo 87 [] []] (.v (.bool (mA Md a b))):=by
 refine cA.intro c0Ok Tryz.func86 rfl rfl (by kernel_rfl) rfl<|qS 0 rfl<|rW (vN a.length) rfl (bT rqL a)<|qR 0 rfl<|rW (vN b.length) rfl (bT rqL b)<|rW (vB (a.length != b.length)) rfl (okB (neN _ _))<|qRC 0 rfl<|aS rfl (λh1=>?_) (λh1=>?_)
 ·refine qCF 0 rfl ?_;exact fT rfl (congrArg (λz=>AV.v (.bool z)) (wR (by simpa using h1)).symm)
 ·refine qC 0 rfl<|rW (vN a.length) rfl (bT rqL a)<|qRC 0 rfl<|jX (κ:=Nat) (λj=>⟨slotsF [(0,.sl 4 (a.map rqL) false),(1,.sl 4 (b.map rqL) false),(2,.clo 87 [] []),(14,vN a.length),(15,vN j)],heapF [],9⟩) (λj=>j<=a.length∧mA Md a b=mA Md (a.drop j) (b.drop j)) (λj=>a.length-j) 0 (λs=>s) (Weak.of_lists (λs=>s) wT trivial rfl) (⟨aE _,rfl⟩) ?_;intro j hj;have hjB:j<=1000000:=by have:=hj.1;omega
  refine qS 0 rfl<|rW (vB (decide (j<a.length))) rfl (okB (ltN _ _))<|qRC 0 rfl<|aS rfl (λh2=>?_) (λh2=>?_)
  ·refine qCC 0 rfl<|cRg<|oR 3 rfl ?_;have hjl:=of_decide_eq_true h2;obtain⟨x,hx⟩:∃x,a[j]?=some x:=⟨_,aA hjl⟩;obtain⟨y,hy⟩:∃y,b[j]?=some y:=⟨_,aA (by have:a.length=b.length:=(by simpa using h1);omega)⟩;refine rIx (rqL x) (.dp 4 0 (rqL x)) rfl rfl (fW hx) rfl<|oR 3 rfl<|rIx (rqL y) (.dp 4 0 (rqL y)) rfl rfl (fW hy) rfl<|oR 1 rfl<|rCi rfl (aa1 x y)<|oR 1 rfl<|rE 23<|qXC 0 rfl<|aS rfl (λh3=>?_) (λh3=>?_)
   ·refine qCF 0 rfl<|qXF 0 rfl ?_;exact fT rfl (congrArg (λz=>AV.v (.bool z)) (yV hx hy (by simpa using h3) hj.2).symm)
   ·skip
    have b1:j+1<=1000001:=aF hjB (aC 1);refine qC 0 rfl<|rW (vN (j+1)) rfl (okI (bJ b1 rfl))<|qRF 0 rfl<|⟨j+1,λs=>s,Weak.of_lists _ wT trivial rfl,⟨hjl,uI hx hy (by simpa using h3) hj.2⟩,by show a.length-(j+1)<a.length-j;omega⟩
  ·refine qCF 0 rfl<|qXF 0 rfl ?_;have hab:a.length=b.length:=(by simpa using h1);have hje:=aD h2;exact fT rfl (congrArg (λz=>AV.v (.bool z)) (wQ omT omT hj.2).symm)
def Zr(a b:List Nat)(ha:a.length<=1000000)(hb:b.length<=1000000):cA C0 88 [.sl 1 (a.map eE) false,.sl 1 (b.map eE) false,.clo 89 [] []] (.v (.bool (mA eqU a b))):=by
 refine cA.intro c0Ok Tryz.func88 rfl rfl (by kernel_rfl) rfl<|qS 0 rfl<|rW (vN a.length) rfl (bT eE a)<|qR 0 rfl<|rW (vN b.length) rfl (bT eE b)<|rW (vB (a.length != b.length)) rfl (okB (neN _ _))<|qRC 0 rfl<|aS rfl (λh1=>?_) (λh1=>?_)
 ·refine qCF 0 rfl ?_;exact fT rfl (congrArg (λz=>AV.v (.bool z)) (wR (by simpa using h1)).symm)
 ·refine qC 0 rfl<|rW (vN a.length) rfl (bT eE a)<|qRC 0 rfl<|jX (κ:=Nat) (λj=>⟨slotsF [(0,.sl 1 (a.map eE) false),(1,.sl 1 (b.map eE) false),(2,.clo 89 [] []),(14,vN a.length),(15,vN j)],heapF [],9⟩) (λj=>j<=a.length∧mA eqU a b=mA eqU (a.drop j) (b.drop j)) (λj=>a.length-j) 0 (λs=>s) (Weak.of_lists (λs=>s) wT trivial rfl) (⟨aE _,rfl⟩) ?_;intro j hj;have hjB:j<=1000000:=by have:=hj.1;omega
  refine qS 0 rfl<|rW (vB (decide (j<a.length))) rfl (okB (ltN _ _))<|qRC 0 rfl<|aS rfl (λh2=>?_) (λh2=>?_)
  ·refine qCC 0 rfl<|cRg<|oR 3 rfl ?_;have hjl:=of_decide_eq_true h2;obtain⟨x,hx⟩:∃x,a[j]?=some x:=⟨_,aA hjl⟩;obtain⟨y,hy⟩:∃y,b[j]?=some y:=⟨_,aA (by have:a.length=b.length:=(by simpa using h1);omega)⟩;refine rIx (eE x) (.dp 1 0 (eE x)) rfl rfl (fW hx) rfl<|oR 3 rfl<|rIx (eE y) (.dp 1 0 (eE y)) rfl rfl (fW hy) rfl<|oR 1 rfl<|rCi rfl (aaZ x y)<|oR 1 rfl<|rE 23<|qXC 0 rfl<|aS rfl (λh3=>?_) (λh3=>?_)
   ·refine qCF 0 rfl<|qXF 0 rfl ?_;exact fT rfl (congrArg (λz=>AV.v (.bool z)) (yV hx hy (by simpa using h3) hj.2).symm)
   ·skip
    have b1:j+1<=1000001:=aF hjB (aC 1);refine qC 0 rfl<|rW (vN (j+1)) rfl (okI (bJ b1 rfl))<|qRF 0 rfl<|⟨j+1,λs=>s,Weak.of_lists _ wT trivial rfl,⟨hjl,uI hx hy (by simpa using h3) hj.2⟩,by show a.length-(j+1)<a.length-j;omega⟩
  ·refine qCF 0 rfl<|qXF 0 rfl ?_;have hab:a.length=b.length:=(by simpa using h1);have hje:=aD h2;exact fT rfl (congrArg (λz=>AV.v (.bool z)) (wQ omT omT hj.2).symm)
def Zs(a b:List Wy)(ha:a.length<=1000000)(hb:b.length<=1000000):cA C0 85 [.sl 3 (a.map wyL) false,.sl 3 (b.map wyL) false] (.v (.bool (mA Ag a b))):=by
 refine cA.intro c0Ok Tryz.func85 rfl rfl (by kernel_rfl) rfl<|qS 0 rfl<|rCi rfl (Zp a b ha hb)<|qRF 0 rfl ?_;exact fT rfl rfl
def XB(a b:List (List Wy))(ha:a.length<=1000000)(hb:b.length<=1000000)(hsa:∀s∈a,s.length<=1000000)(hsb:∀s∈b,s.length<=1000000):cA C0 84 [.sl 1 (a.map aV) false,.sl 1 (b.map aV) false,.clo 85 [] []] (.v (.bool (mA (mA Ag) a b))):=by
 refine cA.intro c0Ok Tryz.func84 rfl rfl (by kernel_rfl) rfl<|qS 0 rfl<|rW (vN a.length) rfl (bT aV a)<|qR 0 rfl<|rW (vN b.length) rfl (bT aV b)<|rW (vB (a.length != b.length)) rfl (okB (neN _ _))<|qRC 0 rfl<|aS rfl (λh1=>?_) (λh1=>?_)
 ·refine qCF 0 rfl ?_;exact fT rfl (congrArg (λz=>AV.v (.bool z)) (wR (by simpa using h1)).symm)
 ·refine qC 0 rfl<|rW (vN a.length) rfl (bT aV a)<|qRC 0 rfl<|jX (κ:=Nat) (λj=>⟨slotsF [(0,.sl 1 (a.map aV) false),(1,.sl 1 (b.map aV) false),(2,.clo 85 [] []),(14,vN a.length),(15,vN j)],heapF [],9⟩) (λj=>j<=a.length∧mA (mA Ag) a b=mA (mA Ag) (a.drop j) (b.drop j)) (λj=>a.length-j) 0 (λs=>s) (Weak.of_lists (λs=>s) wT trivial rfl) (⟨aE _,rfl⟩) ?_;intro j hj;have hjB:j<=1000000:=by have:=hj.1;omega
  refine qS 0 rfl<|rW (vB (decide (j<a.length))) rfl (okB (ltN _ _))<|qRC 0 rfl<|aS rfl (λh2=>?_) (λh2=>?_)
  ·refine qCC 0 rfl<|cRg<|oR 3 rfl ?_;have hjl:=of_decide_eq_true h2;obtain⟨x,hx⟩:∃x,a[j]?=some x:=⟨_,aA hjl⟩;obtain⟨y,hy⟩:∃y,b[j]?=some y:=⟨_,aA (by have:a.length=b.length:=(by simpa using h1);omega)⟩;refine rIx (aV x) (.dp 1 0 (aV x)) rfl rfl (fW hx) rfl<|oR 3 rfl<|rIx (aV y) (.dp 1 0 (aV y)) rfl rfl (fW hy) rfl<|oR 1 rfl<|rCi rfl (Zs x y (hsa x (aB hx)) (hsb y (aB hy)))<|oR 1 rfl<|rE 23<|qXC 0 rfl<|aS rfl (λh3=>?_) (λh3=>?_)
   ·refine qCF 0 rfl<|qXF 0 rfl ?_;exact fT rfl (congrArg (λz=>AV.v (.bool z)) (yV hx hy (by simpa using h3) hj.2).symm)
   ·skip
    have b1:j+1<=1000001:=aF hjB (aC 1);refine qC 0 rfl<|rW (vN (j+1)) rfl (okI (bJ b1 rfl))<|qRF 0 rfl<|⟨j+1,λs=>s,Weak.of_lists _ wT trivial rfl,⟨hjl,uI hx hy (by simpa using h3) hj.2⟩,by show a.length-(j+1)<a.length-j;omega⟩
  ·refine qCF 0 rfl<|qXF 0 rfl ?_;have hab:a.length=b.length:=(by simpa using h1);have hje:=aD h2;exact fT rfl (congrArg (λz=>AV.v (.bool z)) (wQ omT omT hj.2).symm)
structure Seen.ok(s:Seen):Prop where
 data:s.data.length<=1000000
 dat:∀x∈s.data,x.length<=1000000
 words:s.words.length<=1000000
 word:∀x∈s.words,x.length<=1000000
 bus:s.bus.length<=1000000
 pcs:s.pcs.length<=1000000
def XC(x y:Seen)(hx:x.ok)(hy:y.ok):cA C0 34 [.agg (seL x),.agg (seL y)] (.v (.bool (tF x y))):=by
 refine cA.intro c0Ok Tryz.func34 rfl rfl (by kernel_rfl) rfl<|qS 0 rfl<|rCi rfl (XB x.data y.data hx.data hy.data hx.dat hy.dat)<|qR 0 rfl<|gS rfl id<|qR 0 rfl<|gS rfl id<|jU (x:=vB (mA (mA Ag) x.words y.words)) (g:=mA (mA Ag) x.data y.data) rfl rfl rfl rfl hsT rfl rfl rfl (.inl rfl) rfl (λhg=>XB x.words y.words hx.words hy.words hx.word hy.word)<|cU rfl rfl rfl (λh=>h)<|qR 0 rfl<|gS rfl id<|qR 0 rfl<|gS rfl id<|jU (x:=vB (mA Md x.bus y.bus)) (g:=cR (mA (mA Ag) x.data y.data) (mA (mA Ag) x.words y.words) false) rfl rfl rfl rfl hsT rfl rfl rfl (.inl rfl) rfl (λhg=>Zq x.bus y.bus hx.bus hy.bus)<|cU rfl rfl rfl (λh=>h)<|qR 0 rfl<|gS rfl id<|qR 0 rfl<|gS rfl id<|jU (x:=vB (mA eqU x.pcs y.pcs)) (g:=cR (cR (mA (mA Ag) x.data y.data) (mA (mA Ag) x.words y.words) false) (mA Md x.bus y.bus) false) rfl rfl rfl rfl hsT rfl rfl rfl (.inl rfl) rfl (λhg=>Zr x.pcs y.pcs hx.pcs hy.pcs)<|cU rfl rfl rfl (λh=>h)<|qRF 0 rfl ?_;exact fT rfl (congrArg (λz=>AV.v (.bool z)) (by simp only[c2,tF,Bool.and_false,Bool.or_false,nB]))
theorem cA.args{C:Ctx}{f:FuncId}{xs ys:List AV}{r:AV}(h:cA C f ys r)(k:Ye xs ys):cA C f xs r:=
 ⟨h.1,λS w vs hS hG hr=>h.2 S w vs hS hG ⟨k.get.1 ▸ hr.1,λi a u p q=>by
  have hi:i<xs.length:=by rw[k.get.1];exact(DS.1 p).1
  exact k.get.2 i xs[i] a (aA hi) p S w u (hr.2 i _ u (aA hi) q)⟩⟩
def cf0:Cf:=⟨0,0,0,0,0,0,0,0,[],false,[]⟩
def Zn:cA C0 8 [.agg [.v (.int .i64 0),.v (.int .i64 0),.v (.int .i64 0),.v (.int .i64 0),.v (.int .i64 0),.v (.int .i64 0),.v (.int .i64 0),.v (.int .i64 0),.sl 0 [] true,.v (.bool false),.sl 0 [] true],.sl 0 [] true,.v (.string ⟨#[]⟩)] (.agg (coL (gP cf0 [] ⟨#[]⟩))):=
 (Uu cf0 [] ⟨#[]⟩ ⟨by simp[cf0],by simp[cf0],λx hx=>by cases hx⟩ (by simp)).args ⟨Sub.agg ⟨Sub.refl _,Sub.refl _,Sub.refl _,Sub.refl _,Sub.refl _,Sub.refl _,Sub.refl _,Sub.refl _,lP 1 false,Sub.refl _,lP 1 false,trivial⟩,lP 1 false,Sub.refl _,trivial⟩
def Vf(co:Co)(s0:Seen)(hnew:cA C0 8 [.agg [.v (.int .i64 0),.v (.int .i64 0),.v (.int .i64 0),.v (.int .i64 0),.v (.int .i64 0),.v (.int .i64 0),.v (.int .i64 0),.v (.int .i64 0),.sl 0 [] true,.v (.bool false),.sl 0 [] true],.sl 0 [] true,.v (.string ⟨#[]⟩)] (.agg (coL co)))(hsee:cA C0 17 [.agg (coL co),.v (.int .i64 0)] (.agg (seL s0)))(hk:s0.ok)(hd:s0.data.length=1)(hw:s0.words.length=1)(hs:tF s0 s0=true):cA C0 12 [] (.v (.bool true)):=by
 refine cA.intro c0Ok Tryz.func12 rfl rfl (by kernel_rfl) rfl<|qS 0 rfl<|rV (.agg [vI 0,vI 0,vI 0,vI 0,vI 0,vI 0,vI 0,vI 0,.sl 0 ([]) true,vB false,.sl 0 ([]) true]) rfl<|rCi rfl (hnew)<|rCi rfl (hsee)<|qR 0 rfl<|rW (vN s0.data.length) rfl (bT aV s0.data)<|rW (vB (s0.data.length==1)) rfl (okB (eqN _ _))<|qR 0 rfl<|gS rfl id<|gBS rfl id (bT aV s0.words)<|gBS rfl id (okB (eqN _ _))<|cU rfl rfl rfl (λh=>h)<|qR 0 rfl<|jU (x:=vB (tF s0 s0)) (g:=cR (s0.data.length==1) (s0.words.length==1) false) rfl rfl rfl rfl hsT rfl rfl rfl (.inl rfl) rfl (λhg=>XC s0 s0 hk hk)<|cU rfl rfl rfl (λh=>h)<|qRF 0 rfl ?_;exact fT rfl (congrArg (λz=>AV.v (.bool z)) (by rw[hd,hw,hs];rfl))
theorem vT{α:Type}{e:α->α->Bool}(h:∀x,e x x=true):∀a:List α,mA e a a=true
 |[]=>rfl
 |x::a=>by simp only[mA,h x,vT h a,Bool.and_self]
theorem ab1{α:Type}{e:α->α->Bool}(h:∀x y,e x y=e y x):∀a b:List α,mA e a b=mA e b a
 |[],[]=>rfl
 |[],_::_=>rfl
 |_::_,[]=>rfl
 |x::a,y::b=>by simp only[mA,h x y,ab1 h a b]
def FZ{α:Type}{e:α->α->Bool}{a b:List α}(h:mA e a b=true):a.length=b.length:=by
 by_cases hl:a.length=b.length
 ·exact hl
 ·rw[wR hl]at h;cases h
def Pa(a:ByteArray):(a==a)=true:=by
 show(a.data==a.data)=true;simp
def adJ(a b:ByteArray):(a==b)=(b==a):=by
 show(a.data==b.data)=(b.data==a.data);rw[bX];simp only[pY];exact eq_comm
def ab5{α:Type}[BEq α][LawfulBEq α](a b:α):(a==b)=(b==a):=by rw[bX];simp only[pY];exact eq_comm
def Jf(x:Wy):Ag x x=true:=by unfold Ag;simp[Pa]
def ac6(x y:Wy):Ag x y=Ag y x:=by unfold Ag;rw[ab5 (x.line:Int),ab5 x.dirty,adJ x.data]
def Pb(x:Req):Md x x=true:=by unfold Md;simp[Pa]
def adK(x y:Req):Md x y=Md y x:=by unfold Md;rw[ab5 (x.line:Int),ab5 x.kind,ab5 x.left,adJ x.data]
def Sq(x:Nat):eqU x x=true:=by unfold eqU;simp
def ad7(x y:Nat):eqU x y=eqU y x:=by unfold eqU;rw[ab5 x]
def KL(x:Seen):tF x x=true:=by
 unfold tF;rw[vT (vT Jf),vT (vT Jf),vT Pb,vT Sq];rfl
def ac8(x y:Seen):tF x y=tF y x:=by
 unfold tF;rw[ab1 (ab1 ac6) x.data,ab1 (ab1 ac6) x.words,ab1 adK x.bus,ab1 ad7 x.pcs]
def Hr(c:Ca):(fE c).length<=4∧∀s∈fE c,s.length<=2:=by
 unfold fE;split
 ·rename_i h;obtain⟨⟨h1,h2⟩,h3⟩:=(eS c).1 h;refine⟨by rw[aG];omega,λs hs=>?_⟩;obtain⟨s0,hs0,rfl⟩:=sY.1 hs;obtain⟨k,hk⟩:=List.getElem?_of_mem hs0;have:=((fN c k s0).1 (h3 k s0 hk)).1;rw[aG];omega
 ·exact⟨aE _,λs hs=>by cases hs⟩
def Xw(c:Co)(b:Int)(hb:c.bus.length<=1000000)(hr:c.retired.length<=1000000):(Xz c b).ok:=by
 refine⟨?_,λs hs=>?_,?_,λs hs=>?_,?_,?_⟩
 ·have:=(Hr c.data).1;show(fE c.data).length<=_;omega
 ·have:=(Hr c.data).2 s hs;omega
 ·have:=(Hr c.words).1;show(fE c.words).length<=_;omega
 ·have:=(Hr c.words).2 s hs;omega
 ·show(c.bus.map Rx).length<=_;rw[aG];omega
 ·show((c.retired.drop (Ct b).toNat).map (·.pc)).length<=_;rw[aG,aU];omega
def co0:Co:=gP cf0 [] ⟨#[]⟩
def ca0:Cl (cD cf0).sets (cD cf0).ways=⟨1,[[]]⟩:=rfl
def aaQ:co0.data=⟨1,[[]]⟩:=ca0
def aaR:co0.words=⟨1,[[]]⟩:=ca0
def Uk:(⟨1,[[]]⟩:Ca).ok:=⟨by simp,λs hs=>by simp at hs;subst hs;exact⟨by simp,λx hx=>by cases hx⟩⟩
def Xx:co0.okW:=⟨aaQ ▸ Uk,aaR ▸ Uk,by show([]:List Req).length<=_;simp,λx hx=>(List.not_mem_nil hx).elim,by show([]:List Sp).length<=_;simp,λx hx=>(List.not_mem_nil hx).elim⟩
theorem Co.ok.w{c:Co}{n:Nat}(h:c.ok n)(hn:n<=890000):c.okW:=⟨h.data,h.words,by have:=h.bus;omega,λx hx=>(h.buso x hx).line,by have:=h.ret;omega,λx hx=>(h.reto x hx).pc⟩
def Xy:fE ⟨1,[[]]⟩=[[]]:=rfl
def Vg:cA C0 12 [] (.v (.bool true)):=
 Vf co0 (Xz co0 0) Zn (Zo co0 0 Xx) (Xw co0 0 (by show([]:List Req).length<=_;simp) (by show([]:List Sp).length<=_;simp)) (by show(fE co0.data).length=1;rw[aaQ,Xy];rfl) (by show(fE co0.words).length=1;rw[aaR,Xy];rfl) (KL _)
def Ke(a b:List (List Wy))(ha:a.length<=1000000)(hb:b.length<=1000000)(hsa:∀s∈a,s.length<=1000000)(hsb:∀s∈b,s.length<=1000000):cA C0 32 [.sl 1 (a.map aV) false,.sl 1 (b.map aV) false] (.v (.bool (mA (mA Ag) a b))):=by
 refine cA.intro c0Ok Tryz.func32 rfl rfl (by kernel_rfl) rfl<|qS 0 rfl<|rW (vN a.length) rfl (bT aV a)<|qR 0 rfl<|rW (vN b.length) rfl (bT aV b)<|rW (vB (a.length != b.length)) rfl (okB (neN _ _))<|qRC 0 rfl<|aS rfl (λh1=>?_) (λh1=>?_)
 ·refine qCF 0 rfl ?_;exact fT rfl (congrArg (λz=>AV.v (.bool z)) (wR (by simpa using h1)).symm)
 ·refine qC 0 rfl<|rW (vN a.length) rfl (bT aV a)<|qRC 0 rfl<|jX (κ:=Nat) (λk=>⟨slotsF [(0,.sl 1 (a.map aV) false),(1,.sl 1 (b.map aV) false),(13,vN a.length),(14,vN k)],heapF [],9⟩) (λk=>k<=a.length∧mA (mA Ag) a b=mA (mA Ag) (a.drop k) (b.drop k)) (λk=>a.length-k) 0 (λs=>s) (Weak.of_lists (λs=>s) wT trivial rfl) (⟨aE _,rfl⟩) ?_;intro k hk;have hkB:k<=1000000:=by have:=hk.1;omega
  refine qS 0 rfl<|rW (vB (decide (k<a.length))) rfl (okB (ltN _ _))<|qRC 0 rfl<|aS rfl (λh2=>?_) (λh2=>?_)
  ·refine qCC 0 rfl<|cRg<|oR 2 rfl ?_;have hkl:=of_decide_eq_true h2;obtain⟨s,hs⟩:∃s,a[k]?=some s:=⟨_,aA hkl⟩;obtain⟨t,ht⟩:∃t,b[k]?=some t:=⟨_,aA (by have:a.length=b.length:=(by simpa using h1);omega)⟩;have hsl:=hsa s (aB hs);have htl:=hsb t (aB ht);refine rIx (aV s) (.dp 1 0 (aV s)) rfl rfl (fW hs) rfl<|oR 1 rfl<|rW (vN s.length) rfl (bT wyL s)<|oR 2 rfl<|rIx (aV t) (.dp 1 0 (aV t)) rfl rfl (fW ht) rfl<|oR 1 rfl<|rW (vN t.length) rfl (bT wyL t)<|rW (vB (s.length != t.length)) rfl (okB (neN _ _))<|rE 23<|qXC 0 rfl<|aS rfl (λh3=>?_) (λh3=>?_)
   ·refine qCF 0 rfl<|qXF 0 rfl ?_;exact fT rfl (congrArg (λz=>AV.v (.bool z)) (yV hs ht (wR (by simpa using h3)) hk.2).symm)
   ·refine qC 0 rfl<|rIx (aV s) (.dp 1 0 (aV s)) rfl rfl (fW hs) rfl<|qR 0 rfl<|rW (vN s.length) rfl (bT wyL s)<|qRC 0 rfl<|jX (κ:=Nat) (λj=>⟨slotsF [(0,.sl 1 (a.map aV) false),(1,.sl 1 (b.map aV) false),(13,vN a.length),(14,vN k),(5,vN k),(32,vN s.length),(33,vN j)],heapF [],29⟩) (λj=>j<=s.length∧mA Ag s t=mA Ag (s.drop j) (t.drop j)) (λj=>s.length-j) 0 (λs=>s) (Weak.of_lists (λs=>s) wT trivial rfl) (⟨aE _,rfl⟩) ?_;intro j hj;have hjB:j<=1000000:=by have:=hj.1;omega
    refine qS 0 rfl<|rW (vB (decide (j<s.length))) rfl (okB (ltN _ _))<|qRC 0 rfl<|aS rfl (λh4=>?_) (λh4=>?_)
    ·refine qCC 0 rfl<|cRg ?_;have hjl:=of_decide_eq_true h4;obtain⟨x,hx⟩:∃x,s[j]?=some x:=⟨_,aA hjl⟩;obtain⟨y,hy⟩:∃y,t[j]?=some y:=⟨_,aA (by have:s.length=t.length:=(by simpa using h3);omega)⟩;refine oR 2 rfl<|rIx (aV s) (.dp 1 0 (aV s)) rfl rfl (fW hs) rfl<|oR 2 rfl<|rIx (wyL x) (.dp 3 0 (wyL x)) rfl rfl (fW hx) rfl<|oR 3 rfl<|rIx (aV t) (.dp 1 0 (aV t)) rfl rfl (fW ht) rfl<|oR 2 rfl<|rIx (wyL y) (.dp 3 0 (wyL y)) rfl rfl (fW hy) rfl<|oR 1 rfl<|rV (vB (!((((x.line:Nat):Int)==((y.line:Nat):Int))&&((x.dirty==y.dirty)&&((x.data==y.data)&&true))))) rfl<|rE 47<|qXC 0 rfl<|aS rfl (λh5=>?_) (λh5=>?_)
     ·refine qCF 0 rfl<|qXF 0 rfl<|qXF 0 rfl ?_;exact fT rfl (congrArg (λz=>AV.v (.bool z)) (yV hs ht (yV hx hy (by have q:(!(Ag x y))=true:=h5;simpa using q) hj.2) hk.2).symm)
     ·skip
      have b1:j+1<=1000001:=aF hjB (aC 1);refine qC 0 rfl<|rW (vN (j+1)) rfl (okI (bJ b1 rfl))<|qRF 0 rfl<|⟨j+1,λs=>s,Weak.of_lists _ wT trivial rfl,⟨hjl,uI hx hy (by have q:(!(Ag x y))=false:=h5;simpa using q) hj.2⟩,by show s.length-(j+1)<s.length-j;omega⟩
    ·refine qCF 0 rfl ?_;have b2:k+1<=1000001:=aF hkB (aC 1);refine qX 0 rfl<|rW (vN (k+1)) rfl (okI (bJ b2 rfl))<|qRF 0 rfl<|⟨k+1,λs=>s,Weak.of_lists _ wT trivial rfl,⟨hkl,uI hs ht (wQ (by have:=aD h4;omega) (by have:=aD h4;have:s.length=t.length:=(by simpa using h3);omega) hj.2) hk.2⟩,by show a.length-(k+1)<a.length-k;omega⟩
  ·refine qCF 0 rfl<|qXF 0 rfl ?_;have hab:a.length=b.length:=(by simpa using h1);have hke:=aD h2;exact fT rfl (congrArg (λz=>AV.v (.bool z)) (wQ omT omT hk.2).symm)
def AY(x y:Seen):tF x y=true↔mA (mA Ag) x.data y.data=true∧mA (mA Ag) x.words y.words=true∧mA Md x.bus y.bus=true∧mA eqU x.pcs y.pcs=true:=by
 unfold tF;simp only[aJ]
def Iz{x y:Seen}(h: ¬tF x y=true):tF x y=false:=by simpa using h
def b4:∀a b c d:Bool,cR (cR (cR (!a) true (!b)) true c) true d=false->a=true∧b=true∧c=false∧d=false:=by decide
def WD{x y:Seen}(h:cR (cR (cR (!(mA (mA Ag) x.data y.data)) true (!(mA (mA Ag) x.words y.words))) true (x.bus.length != y.bus.length)) true (x.pcs.length != y.pcs.length)=false):
  mA (mA Ag) x.data y.data=true∧mA (mA Ag) x.words y.words=true∧x.bus.length=y.bus.length∧x.pcs.length=y.pcs.length:=by
 obtain⟨h1,h2,h3,h4⟩:=b4 _ _ _ _ h;exact⟨h1,h2,by simpa using h3,by simpa using h4⟩
def aaI{x y:Seen}(h:cR (cR (cR (!(mA (mA Ag) x.data y.data)) true (!(mA (mA Ag) x.words y.words))) true (x.bus.length != y.bus.length)) true (x.pcs.length != y.pcs.length)=true):tF x y=false:=Iz λk=>by
 obtain⟨h1,h2,h3,h4⟩:=(AY x y).1 k;rw[h1,h2,FZ h3,FZ h4]at h;simp[cR]at h
def aaJ(x y:Seen)(hx:x.ok)(hy:y.ok):cA C0 10 [.agg (seL x),.agg (seL y)] (.v (.bool (tF x y))):=by
 refine cA.intro c0Ok Tryz.func10 rfl rfl (by kernel_rfl) rfl<|qS 0 rfl<|rCi rfl (Ke x.data y.data hx.data hy.data hx.dat hy.dat)<|qR 0 rfl<|gS rfl id<|qR 0 rfl<|gS rfl id<|jU (x:=vB (mA (mA Ag) x.words y.words)) (g:= !(!(mA (mA Ag) x.data y.data))) rfl rfl rfl rfl hsT rfl rfl rfl (.inl rfl) rfl (λhg=>Ke x.words y.words hx.words hy.words hx.word hy.word)<|gS rfl id<|cU rfl rfl rfl (by simp)<|qR 0 rfl<|gS rfl id<|gBS rfl id (bT rqL x.bus)<|qR 0 rfl<|gS rfl id<|gBS rfl id (bT rqL y.bus)<|gBS rfl hsT (okB (neN _ _))<|cU rfl rfl rfl (by simp)<|qR 0 rfl<|gS rfl id<|gBS rfl id (bT eE x.pcs)<|qR 0 rfl<|gS rfl id<|gBS rfl id (bT eE y.pcs)<|gBS rfl hsT (okB (neN _ _))<|cU rfl rfl rfl (by simp)<|qRC 0 rfl<|aS rfl (λh1=>?_) (λh1=>?_)
 ·refine qCF 0 rfl ?_;exact fT rfl (congrArg (λz=>AV.v (.bool z)) (aaI h1).symm)
 ·refine qC 0 rfl<|rW (vN x.bus.length) rfl (bT rqL x.bus)<|qRC 0 rfl<|jX (κ:=Nat) (λj=>⟨slotsF [(2,.ptr 0 0),(3,.ptr 1 0),(41,vN x.bus.length),(42,vN j)],heapF [(0,.box [.sl 1 (x.data.map aV) false,.sl 1 (x.words.map aV) false,.sl 4 (x.bus.map rqL) false,.sl 1 (x.pcs.map eE) false]),(1,.box [.sl 1 (y.data.map aV) false,.sl 1 (y.words.map aV) false,.sl 4 (y.bus.map rqL) false,.sl 1 (y.pcs.map eE) false])],39⟩) (λj=>j<=x.bus.length∧mA Md x.bus y.bus=mA Md (x.bus.drop j) (y.bus.drop j)) (λj=>x.bus.length-j) 0 (λs=>s) (Weak.of_lists (λs=>s) wT wH rfl) (⟨aE _,rfl⟩) ?_;intro j hj;have hjB:j<=1000000:=by have:=hj.1;have:=hx.bus;omega
  refine qS 0 rfl<|rW (vB (decide (j<x.bus.length))) rfl (okB (ltN _ _))<|qRC 0 rfl<|aS rfl (λh2=>?_) (λh2=>?_)
  ·refine qCC 0 rfl<|cRg ?_;have hjl:=of_decide_eq_true h2;obtain⟨p,hp⟩:∃p,x.bus[j]?=some p:=⟨_,aA hjl⟩;obtain⟨q,hq⟩:∃q,y.bus[j]?=some q:=⟨_,aA (by have:=WD h1;omega)⟩;refine oR 3 rfl<|rIx (rqL p) (.dp 4 0 (rqL p)) rfl rfl (fW hp) rfl<|oR 4 rfl<|rIx (rqL q) (.dp 4 0 (rqL q)) rfl rfl (fW hq) rfl<|oR 1 rfl<|rV (vB (!((p.kind==q.kind)&&((((p.line:Nat):Int)==((q.line:Nat):Int))&&((p.left==q.left)&&((p.data==q.data)&&true)))))) rfl<|rE 53<|qXC 0 rfl<|aS rfl (λh3=>?_) (λh3=>?_)
   ·refine qCF 0 rfl<|qXF 0 rfl ?_;exact fT rfl (congrArg (λz=>AV.v (.bool z)) (Iz λc=>by have c1:=((AY x y).1 c).2.2.1;rw[yV hp hq (by have z:(!(Md p q))=true:=h3;simpa using z) hj.2]at c1;cases c1).symm)
   ·skip
    have b1:j+1<=1000001:=aF hjB (aC 1);refine qC 0 rfl<|rW (vN (j+1)) rfl (okI (bJ b1 rfl))<|qRF 0 rfl<|⟨j+1,λs=>s,Weak.of_lists _ wT wH rfl,⟨hjl,uI hp hq (by have z:(!(Md p q))=false:=h3;simpa using z) hj.2⟩,by show x.bus.length-(j+1)<x.bus.length-j;omega⟩
  ·refine qCF 0 rfl<|qX 0 rfl<|rW (vN x.pcs.length) rfl (bT eE x.pcs)<|qRC 0 rfl<|jX (κ:=Nat) (λk=>⟨slotsF [(2,.ptr 0 0),(3,.ptr 1 0),(59,vN x.pcs.length),(60,vN k)],heapF [(0,.box [.sl 1 (x.data.map aV) false,.sl 1 (x.words.map aV) false,.sl 4 (x.bus.map rqL) false,.sl 1 (x.pcs.map eE) false]),(1,.box [.sl 1 (y.data.map aV) false,.sl 1 (y.words.map aV) false,.sl 4 (y.bus.map rqL) false,.sl 1 (y.pcs.map eE) false])],44⟩) (λk=>k<=x.pcs.length∧mA eqU x.pcs y.pcs=mA eqU (x.pcs.drop k) (y.pcs.drop k)) (λk=>x.pcs.length-k) 0 (λs=>s) (Weak.of_lists (λs=>s) wT wH rfl) (⟨aE _,rfl⟩) ?_;intro k hk;have hkB:k<=1000000:=by have:=hk.1;have:=hx.pcs;omega
   refine qS 0 rfl<|rW (vB (decide (k<x.pcs.length))) rfl (okB (ltN _ _))<|qRC 0 rfl<|aS rfl (λh4=>?_) (λh4=>?_)
   ·refine qCC 0 rfl<|cRg ?_;have hkl:=of_decide_eq_true h4;obtain⟨p,hp⟩:∃p,x.pcs[k]?=some p:=⟨_,aA hkl⟩;obtain⟨q,hq⟩:∃q,y.pcs[k]?=some q:=⟨_,aA (by have:=WD h1;omega)⟩;refine oR 3 rfl<|rIx (eE p) (.dp 1 0 (eE p)) rfl rfl (fW hp) rfl<|oR 4 rfl<|rIx (eE q) (.dp 1 0 (eE q)) rfl rfl (fW hq) rfl<|oR 1 rfl<|rW (vB (p != q)) rfl (okB (neN _ _))<|rE 58<|qXC 0 rfl<|aS rfl (λh5=>?_) (λh5=>?_)
    ·refine qCF 0 rfl<|qXF 0 rfl ?_;exact fT rfl (congrArg (λz=>AV.v (.bool z)) (Iz λc=>by have c1:=((AY x y).1 c).2.2.2;rw[yV hp hq (by have z:(!(eqU p q))=true:=h5;simpa using z) hk.2]at c1;cases c1).symm)
    ·skip
     have b2:k+1<=1000001:=aF hkB (aC 1);refine qC 0 rfl<|rW (vN (k+1)) rfl (okI (bJ b2 rfl))<|qRF 0 rfl<|⟨k+1,λs=>s,Weak.of_lists _ wT wH rfl,⟨hkl,uI hp hq (by have z:(!(eqU p q))=false:=h5;simpa using z) hk.2⟩,by show x.pcs.length-(k+1)<x.pcs.length-k;omega⟩
   ·refine qCF 0 rfl<|qXF 0 rfl ?_;have r0:=WD h1;have r1:=aD h2;have r2:=aD h4;exact fT rfl (congrArg (λz=>AV.v (.bool z)) ((AY x y).2 ⟨r0.1,r0.2.1,wQ omT omT hj.2,wQ omT omT hk.2⟩).symm)
def uH(X:Co)(k:Nat):Seen:=Xz (lM (pB X k)) ((pB X k).retired.length:Nat)
def iH(X:Co)(k:Nat):List Seen:=(List.range k).map (uH X)
def BQ(X:Co)(k:Nat):iH X k++[uH X k]=iH X (k+1):=by
 unfold iH;rw[kA,dY];rfl
def Nv(X:Co)(k:Nat):(iH X k).length=k:=by unfold iH;rw[aG,gT]
def ab4{X:Co}{k i:Nat}(h:i<k):(iH X k)[i]?=some (uH X i):=by
 unfold iH;rw[bD,gX h];rfl
def acY{X:Co}(hX:X.ok 0){k:Nat}(hk:10*k+50<=890000):(uH X k).ok:=by
 have h:=(Ah (yW hX k omT) omT).w omT;exact Xw _ _ h.bus h.ret
def acK{X:Co}(hX:X.ok 0){k:Nat}(hk:k<=2000):∀s∈iH X k,s.ok:=λs hs=>by
 obtain⟨i,hi,rfl⟩:=sY.1 hs;exact acY hX (by have:=nE.1 hi;omega)
def xV:List Seen->List Seen->Nat->Int
 |[],[],_=> -1
 |x::a,y::b,k=>if tF x y=true then xV a b (k+1)else k
 |_,_,k=>k
def KG{a b:List Seen}{k:Nat}{x y:Seen}(hx:a[k]?=some x)(hy:b[k]?=some y)(he:tF x y=true):xV (a.drop k) (b.drop k) k=xV (a.drop (k+1)) (b.drop (k+1)) (k+1):=by
 obtain⟨h1,h1'⟩:=DS.1 hx;obtain⟨h2,h2'⟩:=DS.1 hy;rw[bR h1,bR h2,h1',h2'];exact if_pos he
def OX{a b:List Seen}{k:Nat}{x y:Seen}(hx:a[k]?=some x)(hy:b[k]?=some y)(he:tF x y=false):xV (a.drop k) (b.drop k) k=k:=by
 obtain⟨h1,h1'⟩:=DS.1 hx;obtain⟨h2,h2'⟩:=DS.1 hy;rw[bR h1,bR h2,h1',h2'];exact if_neg (by rw[he];decide)
def Si{a b:List Seen}{k:Nat}(ha:a.length<=k)(hb:k<b.length):xV (a.drop k) (b.drop k) k=k:=by
 rw[cC ha,bR hb];rfl
def Sj{a b:List Seen}{k:Nat}(ha:k<a.length)(hb:b.length<=k):xV (a.drop k) (b.drop k) k=k:=by
 rw[cC hb,bR ha];rfl
def Nw{a b:List Seen}{k:Nat}(ha:a.length<=k)(hb:b.length<=k):xV (a.drop k) (b.drop k) k= -1:=by
 rw[cC ha,cC hb];rfl
def Xr(a b:Nat):(if(b:Int)>(a:Int)then(b:Int)else(a:Int))=((max a b:Nat):Int):=by split<;>omega
def Ug{l:List Seen}(hl:∀s∈l,s.ok)(k:Nat):∃y,y.ok∧(k<l.length->l[k]?=some y):=by
 cases h:l[k]? with
 |none=>exact⟨⟨[],[],[],[]⟩,⟨aE _,λx hx=>(List.not_mem_nil hx).elim,aE _,λx hx=>(List.not_mem_nil hx).elim,aE _,aE _⟩,λhk=>by rw[aA hk]at h;cases h⟩
 |some y=>exact⟨y,hl y (aB h),λ_=>rfl⟩
def g2{k m n:Nat}(h:(!(cR (decide (k>=m)) true (decide (k>=n))))=true):k<m∧k<n:=by
 rw[c2o]at h;simp at h;omega
def g1{k n:Nat}(h:(!(decide (k>=n)))=true):k<n:=by simp at h;omega
def Xs{a b:List Seen}{k:Nat}{x y:Seen}(hk:k<a.length∨k<b.length)(hx:k<a.length->a[k]?=some x)(hy:k<b.length->b[k]?=some y){p:Bool}(h:cR p true (!(tF x y))=true)(hp:p=true->a.length<=k∨b.length<=k):xV (a.drop k) (b.drop k) k=k:=by
 by_cases h1:a.length<=k
 ·exact Si h1 omT
 ·by_cases h2:b.length<=k
  ·exact Sj omT h2
  ·refine OX (hx omT) (hy omT) ?_
   cases p with
   |true=>exact absurd (hp rfl) omT
   |false=>rw[c2o]at h;simpa using h
def Vb{a b:List Seen}{k:Nat}{x y:Seen}(hx:k<a.length->a[k]?=some x)(hy:k<b.length->b[k]?=some y){p:Bool}(h:cR p true (!(tF x y))=false)(hp:p=false->k<a.length∧k<b.length):xV (a.drop k) (b.drop k) k=xV (a.drop (k+1)) (b.drop (k+1)) (k+1):=by
 rw[c2o]at h;simp only[dH,mF]at h;exact KG (hx (hp h.1).1) (hy (hp h.1).2) h.2
def Zj(c:Cf)(prog:List Nat)(m:ByteArray)(n:Int)(hc:c.ok)(hp:∀x∈prog,x<=4294967295)(hl:prog.length<=1000):cA C0 7 [.agg (cfL c false false),.sl 1 (prog.map eE) false,.v (.string m),vI n] (.tup [.agg (coL (pB (gP c prog m) (Hs n))),.sl 4 ((iH (gP c prog m) (Hs n)).map seL) false]):=by
 refine dc1 (cA.intro c1Ok Tryz.func7 rfl rfl (by kernel_rfl) rfl ?_);have hX:=Sw c prog m hc hp;refine qS 0 rfl<|rCi rfl (Uu c prog m hc omT)<|qRN 0 rfl<|rSt rfl<|qR 0 rfl<|rW (vI (min n 2000)) rfl (okI (XD n 2000))<|qRC 0 rfl<|jX (κ:=Nat×Bool) (λz_=>match z_ with|(k,false)=>⟨slotsF [(8,.ptr 1 0),(9,.sl 0 ([]) true),(11,.ptr 8 0),(18,vI (min n 2000)),(19,vN k),(10,.sl 0 ([]) true)],heapF [(0,.box [vI c.mode,vI c.width,vI c.rob,vI c.queue,vI c.stores,vI c.slots,vI c.sets,vI c.ways,.sl 1 (c.lat.map iK) false,vB c.tables,.sl 1 (c.tape.map eE) false]),(1,.box zCo),(8,.box (coL (pB (gP c prog m) k)))],14⟩|(k,true)=>⟨slotsF [(8,.ptr 1 0),(9,.sl 0 ([]) true),(11,.ptr 8 0),(18,vI (min n 2000)),(19,vN k),(10,.osl 13 0 ((iH (gP c prog m) k).length) false)],heapF [(0,.box [vI c.mode,vI c.width,vI c.rob,vI c.queue,vI c.stores,vI c.slots,vI c.sets,vI c.ways,.sl 1 (c.lat.map iK) false,vB c.tables,.sl 1 (c.tape.map eE) false]),(1,.box zCo),(8,.box (coL (pB (gP c prog m) k))),(13,.arr ((iH (gP c prog m) k).map seL) 4)],14⟩) (λz_=>match z_ with|(k,false)=>(k<=Hs n∧iH (gP c prog m) k=[])|(k,true)=>(k<=Hs n)) (λz_=>Hs n-z_.1) (0,false) (λs=>s) (Weak.of_lists (λs=>s) wT wH rfl) (⟨aE _,(show iH (gP c prog m) 0=[]from rfl)⟩) ?_;intro z_ hk;obtain⟨k,b_⟩:=z_;cases b_
 ·have hk_:=hk;have hnn:k<=Hs n:=hk_.1;have hkB:k<=2000:=by have:Hs n<=2000:=(by unfold Hs;omega);omega
  have hNk:iH (gP c prog m) k=[]:=hk_.2;have hN:Hs n=(min n 2000).toNat:=rfl;have hso:(lM (pB (gP c prog m) k)).ok (0+10*k+10):=Ah (yW hX k omT) omT;have hnb:0+10*k+10<=890000:=by omega
  refine qS 0 rfl<|rV (vB (decide ((k:Int)<(min n 2000)))) rfl<|qRC 0 rfl<|aS rfl (λh1=>?_) (λh1=>?_)
  ·have h1p:=of_decide_eq_true h1;refine qC 0 rfl<|rW (vN (((pB (gP c prog m) k).retired).length)) rfl (bT spL ((pB (gP c prog m) k).retired))<|qR 0 rfl<|rCi rfl (abT (pB (gP c prog m) k) (0+10*k) (yW hX k omT) omT)<|rSt rfl<|qR 0 rfl<|rCi rfl (Zo (lM (pB (gP c prog m) k)) ((pB (gP c prog m) k).retired.length:Nat) ((Ah (yW hX k omT) omT).w omT))<|rV (.sl 4 ([[.sl 1 (((uH (gP c prog m) k).data).map aV) false,.sl 1 (((uH (gP c prog m) k).words).map aV) false,.sl 4 (((uH (gP c prog m) k).bus).map rqL) false,.sl 1 (((uH (gP c prog m) k).pcs).map eE) false]]) true) rfl<|rFx (x:=.osl 27 0 1 false) (h':=upd _ 27 (some (.arr (([uH (gP c prog m) k]).map seL) 4))) rfl rfl (La omT) (⟨rfl,by exact omT,by exact omT,trivial⟩) ?_;have b1:k+1<=2001:=aF hkB (aC 1);refine qR 0 rfl<|rW (vN (k+1)) rfl (okI (bJ b1 rfl))<|qRF 0 rfl<|⟨(k+1,true),λi=>match i with|13=>27|i=>i,Weak.of_lists _ ⟨⟨rfl,rfl⟩,⟨rfl,rfl⟩,⟨rfl,rfl⟩,⟨rfl,rfl⟩,⟨rfl,rfl⟩,⟨(show AV.osl 27 0 (1) false=AV.osl 27 0 (iH (gP c prog m) (k+1)).length false from by rw[<-(show [uH (gP c prog m) k]=iH (gP c prog m) (k+1)from(by rw[<-(BQ (gP c prog m) k),hNk];rfl))];first|done|rfl|(congr 1<;>(first|exact omT|simp))),rfl⟩,trivial⟩ ⟨⟨rfl,rfl,rfl⟩,⟨rfl,rfl,rfl⟩,⟨rfl,rfl,rfl⟩,⟨rfl,(congrArg (λz:List Seen=>some (Blk.arr (z.map seL) 4)) (show [uH (gP c prog m) k]=iH (gP c prog m) (k+1)from(by rw[<-(BQ (gP c prog m) k),hNk];rfl))),rfl⟩,trivial⟩ rfl,by omega,by show Hs n-(k+1)<Hs n-k;omega⟩
  ·have h1p:=aD h1;refine qCF 0 rfl<|qXN 0 rfl<|rSt rfl<|qRF 0 rfl ?_;have hk2:k=Hs n:=by omega
   rw[<-hk2];exact⟨_,rfl,trivial,rfl,Sub.tup ⟨Sub.refl _,(by show Sub (.sl 0 [] true) (.sl 4 ((iH (gP c prog m) k).map seL) false);rw[hNk];exact lP 4 false),trivial⟩⟩
 ·have hk_:=hk;have hnn:k<=Hs n:=hk_;have hkB:k<=2000:=by have:Hs n<=2000:=(by unfold Hs;omega);omega
  have habk:(iH (gP c prog m) k).length<=2000:=(by rw[Nv];omega);have hN:Hs n=(min n 2000).toNat:=rfl;have hso:(lM (pB (gP c prog m) k)).ok (0+10*k+10):=Ah (yW hX k omT) omT;have hnb:0+10*k+10<=890000:=by omega
  refine qS 0 rfl<|rV (vB (decide ((k:Int)<(min n 2000)))) rfl<|qRC 0 rfl<|aS rfl (λh2=>?_) (λh2=>?_)
  ·have h2p:=of_decide_eq_true h2;refine qC 0 rfl<|rW (vN (((pB (gP c prog m) k).retired).length)) rfl (bT spL ((pB (gP c prog m) k).retired))<|qR 0 rfl<|rCi rfl (abT (pB (gP c prog m) k) (0+10*k) (yW hX k omT) omT)<|rSt rfl<|qR 0 rfl<|rCi rfl (Zo (lM (pB (gP c prog m) k)) ((pB (gP c prog m) k).retired.length:Nat) ((Ah (yW hX k omT) omT).w omT))<|rV (.sl 4 ([[.sl 1 (((uH (gP c prog m) k).data).map aV) false,.sl 1 (((uH (gP c prog m) k).words).map aV) false,.sl 4 (((uH (gP c prog m) k).bus).map rqL) false,.sl 1 (((uH (gP c prog m) k).pcs).map eE) false]]) true) rfl<|rFx (x:=.osl 27 0 ((iH (gP c prog m) k).length+1) false) (h':=upd (upd _ 13 none) 27 (some (.arr (((iH (gP c prog m) k)++([uH (gP c prog m) k])).map seL) 4))) rfl rfl (jN seL (iH (gP c prog m) k) ([uH (gP c prog m) k]) omT omT) (⟨by exact omT,by exact omT,trivial⟩) ?_;have b2:k+1<=2001:=aF hkB (aC 1);refine qR 0 rfl<|rW (vN (k+1)) rfl (okI (bJ b2 rfl))<|qRF 0 rfl<|⟨(k+1,true),λi=>match i with|13=>27|i=>i,Weak.of_lists _ ⟨⟨rfl,rfl⟩,⟨rfl,rfl⟩,⟨rfl,rfl⟩,⟨rfl,rfl⟩,⟨rfl,rfl⟩,⟨(show AV.osl 27 0 ((iH (gP c prog m) k).length+1) false=AV.osl 27 0 (iH (gP c prog m) (k+1)).length false from by rw[<-(show(iH (gP c prog m) k)++([uH (gP c prog m) k])=iH (gP c prog m) (k+1)from BQ (gP c prog m) k)];first|done|rfl|(congr 1<;>(first|exact omT|simp))),rfl⟩,trivial⟩ ⟨⟨rfl,rfl,rfl⟩,⟨rfl,rfl,rfl⟩,⟨rfl,rfl,rfl⟩,⟨rfl,(congrArg (λz:List Seen=>some (Blk.arr (z.map seL) 4)) (show(iH (gP c prog m) k)++([uH (gP c prog m) k])=iH (gP c prog m) (k+1)from BQ (gP c prog m) k)),rfl⟩,trivial⟩ rfl,by omega,by show Hs n-(k+1)<Hs n-k;omega⟩
  ·have h2p:=aD h2;refine qCF 0 rfl<|qXN 0 rfl<|rSt rfl<|qRF 0 rfl ?_;have hk2:k=Hs n:=by omega
   rw[<-hk2];exact⟨_,rfl,⟨tvT,(by show 0+((iH (gP c prog m) k).length)<=((iH (gP c prog m) k).map seL).length;exact omT),trivial⟩,rfl,Sub.tup ⟨Sub.refl _,(by show Sub (.sl 4 (List.take (iH (gP c prog m) k).length (List.drop 0 ((iH (gP c prog m) k).map seL))) false) (.sl 4 ((iH (gP c prog m) k).map seL) false);rw[kG seL (iH (gP c prog m) k) (aC _)];exact Sub.refl _),trivial⟩⟩
def Vc(a b:List Seen)(ha:a.length<=2000)(hb:b.length<=2000)(hao:∀s∈a,s.ok)(hbo:∀s∈b,s.ok):cA C0 35 [.sl 4 (a.map seL) false,.sl 4 (b.map seL) false] (vI (xV a b 0)):=by
 refine cA.intro c0Ok Tryz.func35 rfl rfl (by kernel_rfl) rfl<|qS 0 rfl<|rW (vN a.length) rfl (bT seL a)<|qR 0 rfl<|rW (vN b.length) rfl (bT seL b)<|rW (vN (max a.length b.length)) rfl (okI (Xr a.length b.length))<|qRC 0 rfl<|jX (κ:=Nat) (λk=>⟨slotsF [(0,.sl 4 (a.map seL) false),(1,.sl 4 (b.map seL) false),(10,vN (max a.length b.length)),(11,vN k)],heapF [],7⟩) (λk=>k<=(max a.length b.length)∧xV a b 0=xV (a.drop k) (b.drop k) k) (λk=>(max a.length b.length)-k) 0 (λs=>s) (Weak.of_lists (λs=>s) wT trivial rfl) (⟨aE _,rfl⟩) ?_;intro k hk;have hkn:k<=(max a.length b.length):=hk.1;have hkB:k<=2000:=by omega
 obtain⟨x1,hx1o,hx1⟩:=Ug hao k;obtain⟨x2,hx2o,hx2⟩:=Ug hbo k;refine qS 0 rfl<|rW (vB (decide (k<(max a.length b.length)))) rfl (okB (ltN _ _))<|qRC 0 rfl<|aS rfl (λh1=>?_) (λh1=>?_)
 ·have h1p:=of_decide_eq_true h1;refine qCC 0 rfl<|cRg<|oR 2 rfl<|rW (vN a.length) rfl (bT seL a)<|rW (vB (decide (k>=a.length))) rfl (okB (geN _ _))<|oR 1 rfl<|gN rfl<|gN rfl<|gBS rfl id (bT seL b)<|gBS rfl hsT (okB (geN _ _))<|cU rfl rfl rfl (by simp)<|oR 1 rfl<|gN rfl<|gN rfl<|Hp (seL x1) (x:=.dp 4 0 (seL x1)) (g:= !(cR (decide (k>=a.length)) true (decide (k>=b.length)))) rfl rfl rfl rfl hsT rfl rfl (λhg=>⟨aH _,fW (hx1 (g2 hg).1)⟩) rfl<|gS rfl id<|gN rfl<|gN rfl<|Hp (seL x2) (x:=.dp 4 0 (seL x2)) (g:= !(cR (decide (k>=a.length)) true (decide (k>=b.length)))) rfl rfl rfl rfl hsT rfl rfl (λhg=>⟨aH _,fW (hx2 (g2 hg).2)⟩) rfl<|gS rfl id<|jU (x:=vB (tF x1 x2)) (g:= !(cR (decide (k>=a.length)) true (decide (k>=b.length)))) rfl rfl rfl rfl hsT rfl rfl rfl (.inl rfl) rfl (λhg=>XC x1 x2 hx1o hx2o)<|gS rfl id<|cU rfl rfl rfl (by simp)<|rE 32<|qXC 0 rfl<|aS rfl (λh2=>?_) (λh2=>?_)
  ·refine qCF 0 rfl<|qXF 0 rfl ?_;exact fT rfl (congrArg (λz:Int=>AV.v (.int .i64 z)) (hk.2.trans (Xs omT hx1 hx2 h2 (λz=>by rw[c2o]at z;simp at z;omega))).symm)
  ·skip
   have b1:k+1<=2001:=aF hkB (aC 1);refine qC 0 rfl<|rW (vN (k+1)) rfl (okI (bJ b1 rfl))<|qRF 0 rfl<|⟨k+1,λs=>s,Weak.of_lists _ wT trivial rfl,⟨by omega,hk.2.trans (Vb hx1 hx2 h2 (λz=>by rw[c2o]at z;simp at z;omega))⟩,by show(max a.length b.length)-(k+1)<(max a.length b.length)-k;omega⟩
 ·have h1p:=aD h1;refine qCF 0 rfl<|qXF 0 rfl ?_;exact fT rfl (congrArg (λz:Int=>AV.v (.int .i64 z)) (hk.2.trans (Nw omT omT)).symm)
def abX(prog:List Nat):List Nat:=prog.take (min prog.length 64)
def abW(m:ByteArray):ByteArray:=m.extract 0 (min m.size 300)
def upTo(a:Int)(hi:Nat):Nat:=(min (max a 0) hi).toNat
def acZ(a:Int)(hi:Nat):upTo a hi<=hi:=by unfold upTo;omega
def ac0(a:Int)(hi:Nat):(if(hi:Int)<max a 0 then(hi:Int)else max a 0)=((upTo a hi:Nat):Int):=by unfold upTo;split<;>omega
def ac7(a b:Int):(if b>a then b else a)=max a b:=by split<;>omega
end Go.Proofs.YtgleompefdogkaaGreatDoor
