/- Joined texts. -/
import Derived.Test.YtlhofpglndhfaaaGreatDoorS1
import Derived.Test.YtlhofpglndhfaaaGreatDoorS31
import Derived.Test.YtlhofpglndhfaaaGreatDoorS34
import Derived.Test.YtlhofpglndhfaaaGreatDoorS45
set_option linter.unusedVariables false
set_option linter.unusedSimpArgs false
namespace Go.Proofs.YtlhofpglndhfaaaGreatDoor
set_option maxRecDepth 100000
set_option maxHeartbeats 4000000
open Go.RowKit
def s0(c:Co):Co:={c with cycle:=wrap64 (c.cycle+1)}
def s1(c:Co):Co:=jK (s0 c)
def s2(c:Co):Co:=iE (s1 c)
def s3(c:Co):Co:=dN (s2 c)
def s4(c:Co):Co:=fJ (s3 c)
def s5(c:Co):Co:=iY (s4 c)
def s6(c:Co):Co:=dW (s5 c)
def s7(c:Co):Co:=pZ (s6 c)
theorem QU(c:Co):TW c=s7 c:=rfl
theorem Vm{c:Co}{n:Nat}(h:c.okM n):(s0 c).okM n:=⟨⟨h.ok.conf,h.ok.prog,h.ok.progo,h.ok.r,h.ok.fetch,h.ok.fet,h.ok.feto,h.ok.rob,h.ok.robo,h.ok.sto,h.ok.stoo,h.ok.data,h.ok.words,h.ok.bus,h.ok.buso,h.ok.asked,h.ok.guessed,h.ok.mem,h.ok.guess,h.ok.ret,h.ok.reto⟩,h.nb,h.cf,h.data,h.words,h.guess,h.rob,h.fet,h.sto,h.prog,h.mem,h.std⟩
structure StepOk(c:Co)(n:Nat):Prop where
 k0:(s0 c).okM n
 k1:(s1 c).okM (n+1)
 k2:(s2 c).okM (n+1)
 k3:(s3 c).okM (n+5)
 k4:(s4 c).okM (n+7)
 k5:(s5 c).okM (n+7)
 k6:(s6 c).okM (n+8)
 k7:(s7 c).okM (n+10)
theorem NT{c:Co}{n:Nat}(h:c.okM n)(hb:n+20≤890000):StepOk c n:=by
 have k0:=Vm h;have k1:(s1 c).okM (n+1):=JP k0 omT;have k2:(s2 c).okM (n+1):=JS k1;have k3:(s3 c).okM (n+5):=Gt k2 omT;have k4:(s4 c).okM (n+7):=Id k3 omT;have k5:(s5 c).okM (n+7):=(tD k4).1;have k6:(s6 c).okM (n+8):=(mX k5 omT).1;exact⟨k0,k1,k2,k3,k4,k5,k6,(oN k6 omT).1⟩
theorem Ic{c:Co}{n:Nat}(h:c.ok n)(hb:n+20≤890000):(dP c).ok (n+10):=by
 unfold dP;split
 ·rename_i hr;rw[QU];exact (NT (Dx h omT hr) hb).k7.ok
 ·exact⟨h.conf,h.prog,h.progo,h.r,h.fetch,h.fet,h.feto,h.rob,h.robo,h.sto,h.stoo,h.data,h.words,aL h.bus omT,h.buso,h.asked,h.guessed,h.mem,h.guess,aL h.ret omT,h.reto⟩
theorem yE{c:Co}{R R' F F' S S' T T':AV}(hR:R=R')(hF:F=F')(hS:S=S')(hT:T=T'):some (Blk.box (mcX c R F S T))=some (Blk.box (mcX c R' F' S' T')):=by rw[hR,hF,hS,hT]
inductive Stg where
 |e0|o0|e1|o1|e2
 |o2 (A B:List Ent) (k:Bool)
 |e3
 |o3 (A B:List Ent) (k:Bool)
 |s4|s5|s6|s7
theorem WP(c:Co)(nb:Nat)(hm:c.okM nb)(hne:c.rob≠[])(kR kF kS kT:Bool):pJ C0.P C0.G 51 [.ptr 0 0] (heapF [(0,.box (mcX c (.sl 17 (c.rob.map enL) kR) (.sl 2 (c.fetched.map ftL) kF) (.sl 2 (c.stores.map ptL) kS) (.sl 9 (c.retired.map spL) kT)))]) 1 (λ x h'=>x=.tup []∧h'=heapF [(0,.box (mcX c (.osl 1 0 c.rob.length false) (.sl 2 (c.fetched.map ftL) true) (.sl 2 (c.stores.map ptL) true) (.sl 9 (c.retired.map spL) true))),(1,.arr (c.rob.map enL) 17)]):=by
 obtain⟨e,l,hel⟩:=List.exists_cons_of_ne_nil hne;have hl:=hm.rob;rw[hel]at hl⊢;exact Xm c nb hm e l hl kR kF kS kT
theorem NU(c:Co)(nb:Nat)(hm:c.okM nb)(A B:List Ent)(lo n:Nat)(kR:Bool)(hlo:A.length=lo)(hn:c.rob.length=n)(hA:A.length+n+B.length≤1000)(hAo:∀ x∈A,x.ok)(hBo:∀ x∈B,x.ok)(kS kT:Bool)(xS xT:List (List AV)):pJ C0.P C0.G 53 [.ptr 0 0] (heapF [(0,.box (mcX c (.osl 1 lo n kR) (.sl 2 (c.fetched.map ftL) true) (.sl 2 xS kS) (.sl 9 xT kT))),(1,.arr ((A++c.rob++B).map enL) 17)]) 2 (λ x h'=>x=.tup []∧Sw 2 (iE c) (.sl 2 ((iE c).fetched.map ftL) true) (.sl 2 xS kS) (.sl 9 xT kT) h'):=by
 cases hw:wO (dC c)with
 |none=>exact Tw c nb hm A B lo n kR hlo hn hA hAo hBo hw kS kT xS xT
 |some i=>exact Tx c nb hm A B lo n kR hlo hn hA hAo hBo i hw kS kT xS xT
theorem Gp{α:Type}{l m:List α}(h:l=[])(e:m.length=l.length):[]=m:=by
 subst h;exact (bF e).symm
theorem Su{b:Bool}(h:(!b)=true): ¬ b=true:=by cases b<;>simp_all
abbrev Xt(c:Co):Stg→ASt:=λ z_=>match z_ with| .e0=>⟨cI [(2,.ptr 1 0),(9,vB (!(fK c))),(3,.ptr 7 0),(21,.agg [.clo 52 [] [],.clo 53 [] [],.clo 54 [] [],.clo 55 [] [],.clo 56 [] [],.clo 57 [] [],.clo 58 [] []]),(22,vI 0)],heapF [(1,.box zCo),(7,.box (mcX (s0 c) (.sl 17 ([]) false) (.sl 2 ((s0 c).fetched.map ftL) true) (.sl 2 ((s0 c).stores.map ptL) true) (.sl 9 ((s0 c).retired.map spL) true)))],23⟩| .o0=>⟨cI [(2,.ptr 1 0),(9,vB (!(fK c))),(3,.ptr 7 0),(21,.agg [.clo 52 [] [],.clo 53 [] [],.clo 54 [] [],.clo 55 [] [],.clo 56 [] [],.clo 57 [] [],.clo 58 [] []]),(22,vI 0)],heapF [(1,.box zCo),(7,.box (mcX (s0 c) (.osl 22 0 c.rob.length false) (.sl 2 ((s0 c).fetched.map ftL) true) (.sl 2 ((s0 c).stores.map ptL) true) (.sl 9 ((s0 c).retired.map spL) true))),(22,.arr ((([]:List Ent)++(s0 c).rob++[]).map enL) 17)],23⟩| .e1=>⟨cI [(2,.ptr 1 0),(9,vB (!(fK c))),(3,.ptr 7 0),(21,.agg [.clo 52 [] [],.clo 53 [] [],.clo 54 [] [],.clo 55 [] [],.clo 56 [] [],.clo 57 [] [],.clo 58 [] []]),(22,vI 1)],heapF [(1,.box zCo),(7,.box (mcX (s1 c) (.sl 17 ([]) false) (.sl 2 ((s1 c).fetched.map ftL) true) (.sl 2 ((s1 c).stores.map ptL) true) (.sl 9 ((s1 c).retired.map spL) true)))],23⟩| .o1=>⟨cI [(2,.ptr 1 0),(9,vB (!(fK c))),(3,.ptr 7 0),(21,.agg [.clo 52 [] [],.clo 53 [] [],.clo 54 [] [],.clo 55 [] [],.clo 56 [] [],.clo 57 [] [],.clo 58 [] []]),(22,vI 1)],heapF [(1,.box zCo),(7,.box (mcX (s1 c) (.osl 22 0 c.rob.length false) (.sl 2 ((s1 c).fetched.map ftL) true) (.sl 2 ((s1 c).stores.map ptL) true) (.sl 9 ((s1 c).retired.map spL) true))),(22,.arr ((([]:List Ent)++(s1 c).rob++[]).map enL) 17)],23⟩| .e2=>⟨cI [(2,.ptr 1 0),(9,vB (!(fK c))),(3,.ptr 7 0),(21,.agg [.clo 52 [] [],.clo 53 [] [],.clo 54 [] [],.clo 55 [] [],.clo 56 [] [],.clo 57 [] [],.clo 58 [] []]),(22,vI 2)],heapF [(1,.box zCo),(7,.box (mcX (s2 c) (.sl 17 ([]) false) (.sl 2 ((s2 c).fetched.map ftL) true) (.sl 2 ((s2 c).stores.map ptL) true) (.sl 9 ((s2 c).retired.map spL) true)))],23⟩| .o2 A B kk=>⟨cI [(2,.ptr 1 0),(9,vB (!(fK c))),(3,.ptr 7 0),(21,.agg [.clo 52 [] [],.clo 53 [] [],.clo 54 [] [],.clo 55 [] [],.clo 56 [] [],.clo 57 [] [],.clo 58 [] []]),(22,vI 2)],heapF [(1,.box zCo),(7,.box (mcX (s2 c) (.osl 22 A.length ((s2 c).rob.length) kk) (.sl 2 ((s2 c).fetched.map ftL) true) (.sl 2 ((s2 c).stores.map ptL) true) (.sl 9 ((s2 c).retired.map spL) true))),(22,.arr ((A++(s2 c).rob++B).map enL) 17)],23⟩| .e3=>⟨cI [(2,.ptr 1 0),(9,vB (!(fK c))),(3,.ptr 7 0),(21,.agg [.clo 52 [] [],.clo 53 [] [],.clo 54 [] [],.clo 55 [] [],.clo 56 [] [],.clo 57 [] [],.clo 58 [] []]),(22,vI 3)],heapF [(1,.box zCo),(7,.box (mcX (s3 c) (.sl 17 ([]) false) (.sl 2 ((s3 c).fetched.map ftL) true) (.sl 2 ((s3 c).stores.map ptL) false) (.sl 9 ((s3 c).retired.map spL) false)))],23⟩| .o3 A B kk=>⟨cI [(2,.ptr 1 0),(9,vB (!(fK c))),(3,.ptr 7 0),(21,.agg [.clo 52 [] [],.clo 53 [] [],.clo 54 [] [],.clo 55 [] [],.clo 56 [] [],.clo 57 [] [],.clo 58 [] []]),(22,vI 3)],heapF [(1,.box zCo),(7,.box (mcX (s3 c) (.osl 22 A.length ((s3 c).rob.length) kk) (.sl 2 ((s3 c).fetched.map ftL) true) (.sl 2 ((s3 c).stores.map ptL) false) (.sl 9 ((s3 c).retired.map spL) false))),(22,.arr ((A++(s3 c).rob++B).map enL) 17)],23⟩| .s4=>⟨cI [(2,.ptr 1 0),(9,vB (!(fK c))),(3,.ptr 7 0),(21,.agg [.clo 52 [] [],.clo 53 [] [],.clo 54 [] [],.clo 55 [] [],.clo 56 [] [],.clo 57 [] [],.clo 58 [] []]),(22,vI 4)],heapF [(1,.box zCo),(7,.box (mcX (s4 c) (.sl 17 ((s4 c).rob.map enL) false) (.sl 2 ((s4 c).fetched.map ftL) true) (.sl 2 ((s4 c).stores.map ptL) false) (.sl 9 ((s4 c).retired.map spL) false)))],23⟩| .s5=>⟨cI [(2,.ptr 1 0),(9,vB (!(fK c))),(3,.ptr 7 0),(21,.agg [.clo 52 [] [],.clo 53 [] [],.clo 54 [] [],.clo 55 [] [],.clo 56 [] [],.clo 57 [] [],.clo 58 [] []]),(22,vI 5)],heapF [(1,.box zCo),(7,.box (mcX (s5 c) (.sl 17 ((s5 c).rob.map enL) false) (.sl 2 ((s5 c).fetched.map ftL) true) (.sl 2 ((s5 c).stores.map ptL) false) (.sl 9 ((s5 c).retired.map spL) false)))],23⟩| .s6=>⟨cI [(2,.ptr 1 0),(9,vB (!(fK c))),(3,.ptr 7 0),(21,.agg [.clo 52 [] [],.clo 53 [] [],.clo 54 [] [],.clo 55 [] [],.clo 56 [] [],.clo 57 [] [],.clo 58 [] []]),(22,vI 6)],heapF [(1,.box zCo),(7,.box (mcX (s6 c) (.sl 17 ((s6 c).rob.map enL) false) (.sl 2 ((s6 c).fetched.map ftL) false) (.sl 2 ((s6 c).stores.map ptL) false) (.sl 9 ((s6 c).retired.map spL) false)))],23⟩| .s7=>⟨cI [(2,.ptr 1 0),(9,vB (!(fK c))),(3,.ptr 7 0),(21,.agg [.clo 52 [] [],.clo 53 [] [],.clo 54 [] [],.clo 55 [] [],.clo 56 [] [],.clo 57 [] [],.clo 58 [] []]),(22,vI 7)],heapF [(1,.box zCo),(7,.box (mcX (s7 c) (.sl 17 ((s7 c).rob.map enL) false) (.sl 2 ((s7 c).fetched.map ftL) false) (.sl 2 ((s7 c).stores.map ptL) false) (.sl 9 ((s7 c).retired.map spL) false)))],23⟩
abbrev Xu(c:Co):Stg→Prop:=λ z_=>match z_ with| .e0=>(s0 c).rob=[]| .e1=>(s1 c).rob=[]| .e2=>(s2 c).rob=[]| .e3=>(s3 c).rob=[]| .o2 A B _=>A.length+(s2 c).rob.length+B.length≤1000| .o3 A B _=>A.length+(s3 c).rob.length+B.length≤1000|_=>True
abbrev Xv:Stg→Nat:=λ z_=>match z_ with| .e0| .o0=>7| .e1| .o1=>6| .e2| .o2 _ _ _=>5| .e3| .o3 _ _ _=>4| .s4=>3| .s5=>2| .s6=>1| .s7=>0
theorem Vn(c:Co)(nb:Nat)(hok:c.ok nb)(hb:nb+20≤890000)(hr:fK c=true)(h0:c.rob=[]):bY C0 25 [.agg (coL c)] (.agg (coL (dP c))):=by
 refine dc1 (bY.intro c1Ok Tryz.func25 rfl rfl (by kernel_rfl) rfl ?_);have hm:=Dx hok omT hr;have hk:=NT hm hb;refine aE<|aG rfl<|rAl 0 rfl rfl<|rAl 1 rfl rfl<|rE 2<|aE<|aE<|aG rfl<|oR 1 rfl<|rCi rfl (Bi c nb hok omT)<|oR 1 rfl<|rE 5 ?_;refine aU rfl (λ h1=>by exact absurd hr (Su h1)) (λ _=>?_);refine aZ<|aE<|aG rfl<|oR 1 rfl<|rV (.agg (coL c)) rfl<|rAl 7 rfl rfl<|rSx 7 (coL c) rfl rfl rfl<|rE 9<|aE<|aG rfl<|eE (args:=[.ptr 7 0]) (d:=13) _ rfl rfl rfl ((show pJ C0.P C0.G 51 [.ptr 0 0] (heapF [(0,.box (mcX c (.sl 17 (c.rob.map enL) false) (.sl 2 (c.fetched.map ftL) false) (.sl 2 (c.stores.map ptL) false) (.sl 9 (c.retired.map spL) false)))]) 1 _ from by rw[h0];exact Xl c nb hm false false false false).frameB (λ _=>7) _ _ rfl ⟨⟨rfl,rfl,rfl,rfl⟩,trivial⟩ rfl rfl rfl rfl) ?_;rintro _ _ ⟨rfl,rfl⟩;refine rE 10<|aE<|aG rfl<|oR 3 rfl<|rW (vI (wrap64 (c.cycle+1))) rfl (okI (w64 _))<|oR 2 rfl<|rSx 7 (mcX ({c with cycle:=wrap64 (c.cycle+1)}:Co) (.sl 17 ([]) false) (.sl 2 (c.fetched.map ftL) true) (.sl 2 (c.stores.map ptL) true) (.sl 9 (c.retired.map spL) true)) rfl rfl rfl<|rE 17<|aE<|aG rfl<|rV (.agg [.clo 52 [] [],.clo 53 [] [],.clo 54 [] [],.clo 55 [] [],.clo 56 [] [],.clo 57 [] [],.clo 58 [] []]) rfl<|rAl 18 rfl rfl<|rSt rfl<|rE 20<|aE<|aE ?_;refine aG rfl<|oR 2 rfl<|rE 22<|bI<|qW (κ:=Stg) (Xt c) (Xu c) Xv .e0 (λ s=>s) (Weak.of_lists (λ s=>s) wT wH rfl) rfl h0 ?_;intro z_ hq;rcases z_ with _|_|_|_|_|⟨A,B,kk⟩|_|⟨A,B,kk⟩|_|_|_|_
 ·have hG:(s0 c).rob=[]:=hq;refine aE<|aG rfl<|rV (vB true) rfl<|rE 24<|aE ?_;refine aU rfl (λ _=>?_) (λ h=>by cases h);refine aZ<|aE<|bI<|aE<|aG rfl<|nW (.clo 52 [] []) rfl rfl (⟨by decide,by decide⟩)<|oR 1 rfl<|rE 26<|aG rfl<|oR 1 rfl<|eE (args:=[.ptr 7 0]) (d:=26) _ rfl rfl rfl ((NW (s0 c) nb hk.k0 hG true true true ((s0 c).fetched.map ftL) ((s0 c).retired.map spL)).frameB (λ _=>7) _ _ rfl ⟨⟨rfl,rfl,rfl,rfl⟩,trivial⟩ rfl rfl rfl rfl) ?_;rintro _ _ ⟨rfl,rfl⟩;refine rE 28<|aG rfl<|rV (vI 1) rfl<|oR 1 rfl<|rE 30 ?_;refine .mk _ (.refl _) ⟨.e1,λ i=>i,Weak.of_lists _ wT ⟨⟨rfl,rfl,rfl⟩,⟨rfl,(yE (c:=s1 c) rfl (congrArg (λ z:List Ft=>AV.sl 2 (z.map ftL) true) (show (s0 c).fetched=(s1 c).fetched from ((iQ (s0 c)).1).symm)) (congrArg (λ z:List Pt=>AV.sl 2 (z.map ptL) true) (show (s0 c).stores=(s1 c).stores from ((iQ (s0 c)).2.1).symm)) (congrArg (λ z:List Sp=>AV.sl 9 (z.map spL) true) (show (s0 c).retired=(s1 c).retired from ((iQ (s0 c)).2.2.1).symm))),rfl⟩,trivial⟩ rfl,rfl,(Gp hG (iQ (s0 c)).2.2.2).symm,by show (6:Nat)<7;decide⟩
 ·refine aE<|aG rfl<|rV (vB true) rfl<|rE 24<|aE ?_;refine aU rfl (λ _=>?_) (λ h=>by cases h);refine aZ<|aE<|bI<|aE<|aG rfl<|nW (.clo 52 [] []) rfl rfl (⟨by decide,by decide⟩)<|oR 1 rfl<|rE 26<|aG rfl<|oR 1 rfl<|eE (args:=[.ptr 7 0]) (d:=26) _ rfl rfl rfl ((Sv (s0 c) nb hk.k0 [] [] 0 c.rob.length false rfl rfl (by have:=hm.rob;simpa using this) true true true ((s0 c).fetched.map ftL) ((s0 c).retired.map spL)).frameB2 (λ z=>match z with|0=>7|_=>22) _ _ rfl ⟨⟨rfl,rfl,rfl,rfl⟩,⟨rfl,rfl,rfl,rfl⟩,trivial⟩ rfl rfl rfl rfl rfl) ?_;rintro _ _ ⟨rfl,rfl⟩;refine rE 28<|aG rfl<|rV (vI 1) rfl<|oR 1 rfl<|rE 30 ?_;refine .mk _ (.refl _) ⟨.o1,λ i=>i,Weak.of_lists _ wT ⟨⟨rfl,rfl,rfl⟩,⟨rfl,(yE (c:=s1 c) rfl (congrArg (λ z:List Ft=>AV.sl 2 (z.map ftL) true) (show (s0 c).fetched=(s1 c).fetched from ((iQ (s0 c)).1).symm)) (congrArg (λ z:List Pt=>AV.sl 2 (z.map ptL) true) (show (s0 c).stores=(s1 c).stores from ((iQ (s0 c)).2.1).symm)) (congrArg (λ z:List Sp=>AV.sl 9 (z.map spL) true) (show (s0 c).retired=(s1 c).retired from ((iQ (s0 c)).2.2.1).symm))),rfl⟩,⟨rfl,rfl,rfl⟩,trivial⟩ rfl,rfl,trivial,by show (6:Nat)<7;decide⟩
 ·have hG:(s1 c).rob=[]:=hq;refine aE<|aG rfl<|rV (vB true) rfl<|rE 24<|aE ?_;refine aU rfl (λ _=>?_) (λ h=>by cases h);refine aZ<|aE<|bI<|aE<|aG rfl<|nW (.clo 53 [] []) rfl rfl (⟨by decide,by decide⟩)<|oR 1 rfl<|rE 26<|aG rfl<|oR 1 rfl<|eE (args:=[.ptr 7 0]) (d:=26) _ rfl rfl rfl (Gq (NY (s1 c) (nb+1) hk.k1 hG true true ((s1 c).stores.map ptL) ((s1 c).retired.map spL)) 7 _ _ ⟨⟨rfl,rfl,rfl,rfl⟩,trivial⟩) ?_;rintro _ _ ⟨rfl,⟨hz,rfl⟩|⟨_,A,B,kk,rfl|rfl,hl,rfl⟩⟩
  ·refine rE 28<|aG rfl<|rV (vI 2) rfl<|oR 1 rfl<|rE 30 ?_;refine .mk _ (.refl _) ⟨.e2,λ i=>i,Weak.of_lists _ wT ⟨⟨rfl,rfl,rfl⟩,⟨rfl,(yE (c:=s2 c) rfl rfl (congrArg (λ z:List Pt=>AV.sl 2 (z.map ptL) true) (show (s1 c).stores=(s2 c).stores from ((eU (s1 c)).1).symm)) (congrArg (λ z:List Sp=>AV.sl 9 (z.map spL) true) (show (s1 c).retired=(s2 c).retired from ((eU (s1 c)).2).symm))),rfl⟩,trivial⟩ rfl,rfl,hz,by show (5:Nat)<6;decide⟩
  ·refine rE 28<|aG rfl<|rV (vI 2) rfl<|oR 1 rfl<|rE 30 ?_;refine .mk _ (.refl _) ⟨(.o2 A B kk),λ i=>match i with|22=>27|i=>i,Weak.of_lists _ wT ⟨⟨rfl,rfl,rfl⟩,⟨rfl,(yE (c:=s2 c) rfl rfl (congrArg (λ z:List Pt=>AV.sl 2 (z.map ptL) true) (show (s1 c).stores=(s2 c).stores from ((eU (s1 c)).1).symm)) (congrArg (λ z:List Sp=>AV.sl 9 (z.map spL) true) (show (s1 c).retired=(s2 c).retired from ((eU (s1 c)).2).symm))),rfl⟩,⟨rfl,rfl,rfl⟩,trivial⟩ rfl,rfl,hl,by show (5:Nat)<6;decide⟩
  ·refine rE 28<|aG rfl<|rV (vI 2) rfl<|oR 1 rfl<|rE 30 ?_;refine .mk _ (.refl _) ⟨(.o2 A B kk),λ i=>match i with|22=>27|i=>i,Weak.of_lists _ wT ⟨⟨rfl,rfl,rfl⟩,⟨rfl,(yE (c:=s2 c) rfl rfl (congrArg (λ z:List Pt=>AV.sl 2 (z.map ptL) true) (show (s1 c).stores=(s2 c).stores from ((eU (s1 c)).1).symm)) (congrArg (λ z:List Sp=>AV.sl 9 (z.map spL) true) (show (s1 c).retired=(s2 c).retired from ((eU (s1 c)).2).symm))),rfl⟩,⟨rfl,rfl,rfl⟩,trivial⟩ rfl,rfl,hl,by show (5:Nat)<6;decide⟩
 ·refine aE<|aG rfl<|rV (vB true) rfl<|rE 24<|aE ?_;refine aU rfl (λ _=>?_) (λ h=>by cases h);refine aZ<|aE<|bI<|aE<|aG rfl<|nW (.clo 53 [] []) rfl rfl (⟨by decide,by decide⟩)<|oR 1 rfl<|rE 26<|aG rfl<|oR 1 rfl<|eE (args:=[.ptr 7 0]) (d:=26) _ rfl rfl rfl (Gr (NU (s1 c) (nb+1) hk.k1 [] [] 0 c.rob.length false rfl (iQ (s0 c)).2.2.2 (by have:=hm.rob;simpa using this) (λ x h=>by cases h) (λ x h=>by cases h) true true ((s1 c).stores.map ptL) ((s1 c).retired.map spL)) 7 22 _ _ ⟨⟨rfl,rfl,rfl,rfl⟩,⟨rfl,rfl,rfl,rfl⟩,trivial⟩ (by decide)) ?_;rintro _ _ ⟨rfl,⟨hz,rfl⟩|⟨_,A,B,kk,rfl|rfl,hl,rfl⟩⟩
  ·refine rE 28<|aG rfl<|rV (vI 2) rfl<|oR 1 rfl<|rE 30 ?_;refine .mk _ (.refl _) ⟨.e2,λ i=>i,Weak.of_lists _ wT ⟨⟨rfl,rfl,rfl⟩,⟨rfl,(yE (c:=s2 c) rfl rfl (congrArg (λ z:List Pt=>AV.sl 2 (z.map ptL) true) (show (s1 c).stores=(s2 c).stores from ((eU (s1 c)).1).symm)) (congrArg (λ z:List Sp=>AV.sl 9 (z.map spL) true) (show (s1 c).retired=(s2 c).retired from ((eU (s1 c)).2).symm))),rfl⟩,trivial⟩ rfl,rfl,hz,by show (5:Nat)<6;decide⟩
  ·refine rE 28<|aG rfl<|rV (vI 2) rfl<|oR 1 rfl<|rE 30 ?_;refine .mk _ (.refl _) ⟨(.o2 A B kk),λ i=>i,Weak.of_lists _ wT ⟨⟨rfl,rfl,rfl⟩,⟨rfl,(yE (c:=s2 c) rfl rfl (congrArg (λ z:List Pt=>AV.sl 2 (z.map ptL) true) (show (s1 c).stores=(s2 c).stores from ((eU (s1 c)).1).symm)) (congrArg (λ z:List Sp=>AV.sl 9 (z.map spL) true) (show (s1 c).retired=(s2 c).retired from ((eU (s1 c)).2).symm))),rfl⟩,⟨rfl,rfl,rfl⟩,trivial⟩ rfl,rfl,hl,by show (5:Nat)<6;decide⟩
  ·refine rE 28<|aG rfl<|rV (vI 2) rfl<|oR 1 rfl<|rE 30 ?_;refine .mk _ (.refl _) ⟨(.o2 A B kk),λ i=>match i with|22=>27|i=>i,Weak.of_lists _ wT ⟨⟨rfl,rfl,rfl⟩,⟨rfl,(yE (c:=s2 c) rfl rfl (congrArg (λ z:List Pt=>AV.sl 2 (z.map ptL) true) (show (s1 c).stores=(s2 c).stores from ((eU (s1 c)).1).symm)) (congrArg (λ z:List Sp=>AV.sl 9 (z.map spL) true) (show (s1 c).retired=(s2 c).retired from ((eU (s1 c)).2).symm))),rfl⟩,⟨rfl,rfl,rfl⟩,trivial⟩ rfl,rfl,hl,by show (5:Nat)<6;decide⟩
 ·have hG:(s2 c).rob=[]:=hq;refine aE<|aG rfl<|rV (vB true) rfl<|rE 24<|aE ?_;refine aU rfl (λ _=>?_) (λ h=>by cases h);refine aZ<|aE<|bI<|aE<|aG rfl<|nW (.clo 54 [] []) rfl rfl (⟨by decide,by decide⟩)<|oR 1 rfl<|rE 26<|aG rfl<|oR 1 rfl<|eE (args:=[.ptr 7 0]) (d:=26) _ rfl rfl rfl (Gq (Ii (s2 c) (nb+1) hk.k2 hG) 7 _ _ ⟨⟨rfl,rfl,rfl,rfl⟩,trivial⟩) ?_;rintro _ _ ⟨rfl,⟨hz,rfl⟩|⟨_,A,B,kk,rfl|rfl,hl,rfl⟩⟩
  ·refine rE 28<|aG rfl<|rV (vI 3) rfl<|oR 1 rfl<|rE 30 ?_;refine .mk _ (.refl _) ⟨.e3,λ i=>i,Weak.of_lists _ wT ⟨⟨rfl,rfl,rfl⟩,⟨rfl,(yE (c:=s3 c) rfl rfl rfl rfl),rfl⟩,trivial⟩ rfl,rfl,hz,by show (4:Nat)<5;decide⟩
  ·refine rE 28<|aG rfl<|rV (vI 3) rfl<|oR 1 rfl<|rE 30 ?_;refine .mk _ (.refl _) ⟨(.o3 A B kk),λ i=>match i with|22=>27|i=>i,Weak.of_lists _ wT ⟨⟨rfl,rfl,rfl⟩,⟨rfl,(yE (c:=s3 c) rfl rfl rfl rfl),rfl⟩,⟨rfl,rfl,rfl⟩,trivial⟩ rfl,rfl,hl,by show (4:Nat)<5;decide⟩
  ·refine rE 28<|aG rfl<|rV (vI 3) rfl<|oR 1 rfl<|rE 30 ?_;refine .mk _ (.refl _) ⟨(.o3 A B kk),λ i=>match i with|22=>27|i=>i,Weak.of_lists _ wT ⟨⟨rfl,rfl,rfl⟩,⟨rfl,(yE (c:=s3 c) rfl rfl rfl rfl),rfl⟩,⟨rfl,rfl,rfl⟩,trivial⟩ rfl,rfl,hl,by show (4:Nat)<5;decide⟩
 ·have hG:A.length+(s2 c).rob.length+B.length≤1000:=hq;refine aE<|aG rfl<|rV (vB true) rfl<|rE 24<|aE ?_;refine aU rfl (λ _=>?_) (λ h=>by cases h);refine aZ<|aE<|bI<|aE<|aG rfl<|nW (.clo 54 [] []) rfl rfl (⟨by decide,by decide⟩)<|oR 1 rfl<|rE 26<|aG rfl<|oR 1 rfl<|eE (args:=[.ptr 7 0]) (d:=26) _ rfl rfl rfl (Gr (KT (s2 c) (nb+1) hk.k2 omT A B A.length (s2 c).rob.length kk rfl rfl hG) 7 22 _ _ ⟨⟨rfl,rfl,rfl,rfl⟩,⟨rfl,rfl,rfl,rfl⟩,trivial⟩ (by decide)) ?_;rintro _ _ ⟨rfl,⟨hz,rfl⟩|⟨_,A,B,kk,rfl|rfl,hl,rfl⟩⟩
  ·refine rE 28<|aG rfl<|rV (vI 3) rfl<|oR 1 rfl<|rE 30 ?_;refine .mk _ (.refl _) ⟨.e3,λ i=>i,Weak.of_lists _ wT ⟨⟨rfl,rfl,rfl⟩,⟨rfl,(yE (c:=s3 c) rfl rfl rfl rfl),rfl⟩,trivial⟩ rfl,rfl,hz,by show (4:Nat)<5;decide⟩
  ·refine rE 28<|aG rfl<|rV (vI 3) rfl<|oR 1 rfl<|rE 30 ?_;refine .mk _ (.refl _) ⟨(.o3 A B kk),λ i=>i,Weak.of_lists _ wT ⟨⟨rfl,rfl,rfl⟩,⟨rfl,(yE (c:=s3 c) rfl rfl rfl rfl),rfl⟩,⟨rfl,rfl,rfl⟩,trivial⟩ rfl,rfl,hl,by show (4:Nat)<5;decide⟩
  ·refine rE 28<|aG rfl<|rV (vI 3) rfl<|oR 1 rfl<|rE 30 ?_;refine .mk _ (.refl _) ⟨(.o3 A B kk),λ i=>match i with|22=>27|i=>i,Weak.of_lists _ wT ⟨⟨rfl,rfl,rfl⟩,⟨rfl,(yE (c:=s3 c) rfl rfl rfl rfl),rfl⟩,⟨rfl,rfl,rfl⟩,trivial⟩ rfl,rfl,hl,by show (4:Nat)<5;decide⟩
 ·have hG:(s3 c).rob=[]:=hq;refine aE<|aG rfl<|rV (vB true) rfl<|rE 24<|aE ?_;refine aU rfl (λ _=>?_) (λ h=>by cases h);refine aZ<|aE<|bI<|aE<|aG rfl<|nW (.clo 55 [] []) rfl rfl (⟨by decide,by decide⟩)<|oR 1 rfl<|rE 26<|aG rfl<|oR 1 rfl<|eE (args:=[.ptr 7 0]) (d:=26) _ rfl rfl rfl ((KU (s3 c) (nb+5) hk.k3 hG true false false ((s3 c).fetched.map ftL) ((s3 c).retired.map spL)).frameB (λ _=>7) _ _ rfl ⟨⟨rfl,rfl,rfl,rfl⟩,trivial⟩ rfl rfl rfl rfl) ?_;rintro _ _ ⟨rfl,rfl⟩;refine rE 28<|aG rfl<|rV (vI 4) rfl<|oR 1 rfl<|rE 30 ?_;refine .mk _ (.refl _) ⟨.s4,λ i=>i,Weak.of_lists _ wT ⟨⟨rfl,rfl,rfl⟩,⟨rfl,(yE (c:=s4 c) (congrArg (λ z:List Ent=>AV.sl 17 (z.map enL) false) (Gp hG (fV hk.k3 omT).1)) (congrArg (λ z:List Ft=>AV.sl 2 (z.map ftL) true) (show (s3 c).fetched=(s4 c).fetched from ((fV hk.k3 omT).2.2.1).symm)) rfl (congrArg (λ z:List Sp=>AV.sl 9 (z.map spL) false) (show (s3 c).retired=(s4 c).retired from ((fV hk.k3 omT).2.2.2).symm))),rfl⟩,trivial⟩ rfl,rfl,trivial,by show (3:Nat)<4;decide⟩
 ·have hG:A.length+(s3 c).rob.length+B.length≤1000:=hq;refine aE<|aG rfl<|rV (vB true) rfl<|rE 24<|aE ?_;refine aU rfl (λ _=>?_) (λ h=>by cases h);refine aZ<|aE<|bI<|aE<|aG rfl<|nW (.clo 55 [] []) rfl rfl (⟨by decide,by decide⟩)<|oR 1 rfl<|rE 26<|aG rfl<|oR 1 rfl<|eE (args:=[.ptr 7 0]) (d:=26) _ rfl rfl rfl ((Oc (s3 c) (nb+5) hk.k3 omT A B A.length (s3 c).rob.length kk true false false ((s3 c).fetched.map ftL) ((s3 c).retired.map spL) rfl rfl hG).frameB2 (λ z=>match z with|0=>7|_=>22) _ _ rfl ⟨⟨rfl,rfl,rfl,rfl⟩,⟨rfl,rfl,rfl,rfl⟩,trivial⟩ rfl rfl rfl rfl rfl) ?_;rintro _ _ ⟨rfl,rfl⟩;refine rE 28<|aG rfl<|rV (vI 4) rfl<|oR 1 rfl<|rE 30 ?_;refine .mk _ (.step (some (22,17,(A++(s4 c).rob++B).map enL)) (Ghost.of_lists (l:=[(2,.ptr 1 0),(9,vB (!(fK c))),(3,.ptr 7 0),(21,.agg [.clo 52 [] [],.clo 53 [] [],.clo 54 [] [],.clo 55 [] [],.clo 56 [] [],.clo 57 [] [],.clo 58 [] []]),(22,vI 4)]) (hp:=[(1,.box zCo),(7,.box (mcX (s4 c) (.sl 17 ((((A++(s4 c).rob++B).drop A.length).take (s3 c).rob.length).map enL) false) (.sl 2 ((s3 c).fetched.map ftL) true) (.sl 2 ((s4 c).stores.map ptL) false) (.sl 9 ((s3 c).retired.map spL) false)))]) rfl rfT ⟨⟨rfl,_,rfl,.refl _⟩,⟨rfl,_,rfl,LeB.boxL (nN (CV (by simp only[aY];have:=(fV hk.k3 omT).1;show A.length+(s3 c).rob.length≤A.length+(fJ (s3 c)).rob.length+B.length;omega)) (.refl _) (.refl _) (.refl _))⟩,trivial⟩) (.refl _)) ⟨.s4,λ i=>i,Weak.of_lists _ wT ⟨⟨rfl,rfl,rfl⟩,⟨rfl,(yE (c:=s4 c) (congrArg (λ z:List Ent=>AV.sl 17 (z.map enL) false) (JR rfl (fV hk.k3 omT).1)) (congrArg (λ z:List Ft=>AV.sl 2 (z.map ftL) true) (show (s3 c).fetched=(s4 c).fetched from ((fV hk.k3 omT).2.2.1).symm)) rfl (congrArg (λ z:List Sp=>AV.sl 9 (z.map spL) false) (show (s3 c).retired=(s4 c).retired from ((fV hk.k3 omT).2.2.2).symm))),rfl⟩,trivial⟩ rfl,rfl,trivial,by show (3:Nat)<4;decide⟩
 ·refine aE<|aG rfl<|rV (vB true) rfl<|rE 24<|aE ?_;refine aU rfl (λ _=>?_) (λ h=>by cases h);refine aZ<|aE<|bI<|aE<|aG rfl<|nW (.clo 56 [] []) rfl rfl (⟨by decide,by decide⟩)<|oR 1 rfl<|rE 26<|aG rfl<|oR 1 rfl<|eE (args:=[.ptr 7 0]) (d:=26) _ rfl rfl rfl ((Og (s4 c) (nb+7) hk.k4 false ((s4 c).stores.map ptL) false ((s4 c).retired.map spL)).frameB (λ _=>7) _ _ rfl ⟨⟨rfl,rfl,rfl,rfl⟩,trivial⟩ rfl rfl rfl rfl) ?_;rintro _ _ ⟨rfl,rfl⟩;refine rE 28<|aG rfl<|rV (vI 5) rfl<|oR 1 rfl<|rE 30 ?_;refine .mk _ (.refl _) ⟨.s5,λ i=>i,Weak.of_lists _ wT ⟨⟨rfl,rfl,rfl⟩,⟨rfl,(yE (c:=s5 c) rfl rfl (congrArg (λ z:List Pt=>AV.sl 2 (z.map ptL) false) (show (s4 c).stores=(s5 c).stores from ((tD hk.k4).2.1).symm)) (congrArg (λ z:List Sp=>AV.sl 9 (z.map spL) false) (show (s4 c).retired=(s5 c).retired from ((tD hk.k4).2.2).symm))),rfl⟩,trivial⟩ rfl,rfl,trivial,by show (2:Nat)<3;decide⟩
 ·refine aE<|aG rfl<|rV (vB true) rfl<|rE 24<|aE ?_;refine aU rfl (λ _=>?_) (λ h=>by cases h);refine aZ<|aE<|bI<|aE<|aG rfl<|nW (.clo 57 [] []) rfl rfl (⟨by decide,by decide⟩)<|oR 1 rfl<|rE 26<|aG rfl<|oR 1 rfl<|eE (args:=[.ptr 7 0]) (d:=26) _ rfl rfl rfl ((KX (s5 c) (nb+7) hk.k5 false ((s5 c).rob.map enL) false ((s5 c).stores.map ptL) false ((s5 c).retired.map spL)).frameB (λ _=>7) _ _ rfl ⟨⟨rfl,rfl,rfl,rfl⟩,trivial⟩ rfl rfl rfl rfl) ?_;rintro _ _ ⟨rfl,rfl⟩;refine rE 28<|aG rfl<|rV (vI 6) rfl<|oR 1 rfl<|rE 30 ?_;refine .mk _ (.refl _) ⟨.s6,λ i=>i,Weak.of_lists _ wT ⟨⟨rfl,rfl,rfl⟩,⟨rfl,(yE (c:=s6 c) (congrArg (λ z:List Ent=>AV.sl 17 (z.map enL) false) (show (s5 c).rob=(s6 c).rob from ((mX hk.k5 omT).2.2.2).symm)) rfl (congrArg (λ z:List Pt=>AV.sl 2 (z.map ptL) false) (show (s5 c).stores=(s6 c).stores from ((mX hk.k5 omT).2.1).symm)) (congrArg (λ z:List Sp=>AV.sl 9 (z.map spL) false) (show (s5 c).retired=(s6 c).retired from ((mX hk.k5 omT).2.2.1).symm))),rfl⟩,trivial⟩ rfl,rfl,trivial,by show (1:Nat)<2;decide⟩
 ·refine aE<|aG rfl<|rV (vB true) rfl<|rE 24<|aE ?_;refine aU rfl (λ _=>?_) (λ h=>by cases h);refine aZ<|aE<|bI<|aE<|aG rfl<|nW (.clo 58 [] []) rfl rfl (⟨by decide,by decide⟩)<|oR 1 rfl<|rE 26<|aG rfl<|oR 1 rfl<|eE (args:=[.ptr 7 0]) (d:=26) _ rfl rfl rfl ((Ok (s6 c) (nb+8) hk.k6 omT false ((s6 c).rob.map enL) false ((s6 c).fetched.map ftL) false ((s6 c).retired.map spL)).frameB (λ _=>7) _ _ rfl ⟨⟨rfl,rfl,rfl,rfl⟩,trivial⟩ rfl rfl rfl rfl) ?_;rintro _ _ ⟨rfl,rfl⟩;refine rE 28<|aG rfl<|rV (vI 7) rfl<|oR 1 rfl<|rE 30 ?_;refine .mk _ (.refl _) ⟨.s7,λ i=>i,Weak.of_lists _ wT ⟨⟨rfl,rfl,rfl⟩,⟨rfl,(yE (c:=s7 c) (congrArg (λ z:List Ent=>AV.sl 17 (z.map enL) false) (show (s6 c).rob=(s7 c).rob from ((oN hk.k6 omT).2.2.2).symm)) (congrArg (λ z:List Ft=>AV.sl 2 (z.map ftL) false) (show (s6 c).fetched=(s7 c).fetched from ((oN hk.k6 omT).2.1).symm)) rfl (congrArg (λ z:List Sp=>AV.sl 9 (z.map spL) false) (show (s6 c).retired=(s7 c).retired from ((oN hk.k6 omT).2.2.1).symm))),rfl⟩,trivial⟩ rfl,rfl,trivial,by show (0:Nat)<1;decide⟩
 ·refine aE<|aG rfl<|rV (vB false) rfl<|rE 24<|aE ?_;refine aU rfl (λ h=>by cases h) (λ _=>?_);refine eA<|aE<|aG rfl<|oR 2 rfl<|rSx 1 (mcX (s7 c) (.sl 17 ((s7 c).rob.map enL) false) (.sl 2 ((s7 c).fetched.map ftL) false) (.sl 2 ((s7 c).stores.map ptL) false) (.sl 9 ((s7 c).retired.map spL) false)) rfl rfl rfl<|rE 27<|cT ?_;rw[show dP c=s7 c from if_pos hr];exact eW rfl tvT rfl rfl
theorem Vo(c:Co)(nb:Nat)(hok:c.ok nb)(hb:nb+20≤890000)(hr:fK c=true)(hne:c.rob≠[]):bY C0 25 [.agg (coL c)] (.agg (coL (dP c))):=by
 refine dc1 (bY.intro c1Ok Tryz.func25 rfl rfl (by kernel_rfl) rfl ?_);have hm:=Dx hok omT hr;have hk:=NT hm hb;refine aE<|aG rfl<|rAl 0 rfl rfl<|rAl 1 rfl rfl<|rE 2<|aE<|aE<|aG rfl<|oR 1 rfl<|rCi rfl (Bi c nb hok omT)<|oR 1 rfl<|rE 5 ?_;refine aU rfl (λ h1=>by exact absurd hr (Su h1)) (λ _=>?_);refine aZ<|aE<|aG rfl<|oR 1 rfl<|rV (.agg (coL c)) rfl<|rAl 7 rfl rfl<|rSx 7 (coL c) rfl rfl rfl<|rE 9<|aE<|aG rfl<|eE (args:=[.ptr 7 0]) (d:=13) _ rfl rfl rfl (Vq (WP c nb hm hne false false false false) 7 _ _ ⟨⟨rfl,rfl,rfl,rfl⟩,trivial⟩) ?_;rintro _ _ ⟨rfl,rfl⟩;refine rE 10<|aE<|aG rfl<|oR 3 rfl<|rW (vI (wrap64 (c.cycle+1))) rfl (okI (w64 _))<|oR 2 rfl<|rSx 7 (mcX ({c with cycle:=wrap64 (c.cycle+1)}:Co) (.osl 9 0 c.rob.length false) (.sl 2 (c.fetched.map ftL) true) (.sl 2 (c.stores.map ptL) true) (.sl 9 (c.retired.map spL) true)) rfl rfl rfl<|rE 17<|aE<|aG rfl<|rV (.agg [.clo 52 [] [],.clo 53 [] [],.clo 54 [] [],.clo 55 [] [],.clo 56 [] [],.clo 57 [] [],.clo 58 [] []]) rfl<|rAl 18 rfl rfl<|rSt rfl<|rE 20<|aE<|aE ?_;refine aG rfl<|oR 2 rfl<|rE 22<|bI<|qW (κ:=Stg) (Xt c) (Xu c) Xv .o0 (λ i=>match i with|22=>9|i=>i) (Weak.of_lists (λ i=>match i with|22=>9|i=>i) wT ⟨⟨rfl,rfl,rfl⟩,⟨rfl,rfl,rfl⟩,⟨rfl,(by show some (Blk.arr (c.rob.map enL) 17)=some (Blk.arr (([]++c.rob++[]).map enL) 17);rw[iN,eQ]),rfl⟩,trivial⟩ rfl) rfl trivial ?_;intro z_ hq;rcases z_ with _|_|_|_|_|⟨A,B,kk⟩|_|⟨A,B,kk⟩|_|_|_|_
 ·have hG:(s0 c).rob=[]:=hq;refine aE<|aG rfl<|rV (vB true) rfl<|rE 24<|aE ?_;refine aU rfl (λ _=>?_) (λ h=>by cases h);refine aZ<|aE<|bI<|aE<|aG rfl<|nW (.clo 52 [] []) rfl rfl (⟨by decide,by decide⟩)<|oR 1 rfl<|rE 26<|aG rfl<|oR 1 rfl<|eE (args:=[.ptr 7 0]) (d:=26) _ rfl rfl rfl ((NW (s0 c) nb hk.k0 hG true true true ((s0 c).fetched.map ftL) ((s0 c).retired.map spL)).frameB (λ _=>7) _ _ rfl ⟨⟨rfl,rfl,rfl,rfl⟩,trivial⟩ rfl rfl rfl rfl) ?_;rintro _ _ ⟨rfl,rfl⟩;refine rE 28<|aG rfl<|rV (vI 1) rfl<|oR 1 rfl<|rE 30 ?_;refine .mk _ (.refl _) ⟨.e1,λ i=>i,Weak.of_lists _ wT ⟨⟨rfl,rfl,rfl⟩,⟨rfl,(yE (c:=s1 c) rfl (congrArg (λ z:List Ft=>AV.sl 2 (z.map ftL) true) (show (s0 c).fetched=(s1 c).fetched from ((iQ (s0 c)).1).symm)) (congrArg (λ z:List Pt=>AV.sl 2 (z.map ptL) true) (show (s0 c).stores=(s1 c).stores from ((iQ (s0 c)).2.1).symm)) (congrArg (λ z:List Sp=>AV.sl 9 (z.map spL) true) (show (s0 c).retired=(s1 c).retired from ((iQ (s0 c)).2.2.1).symm))),rfl⟩,trivial⟩ rfl,rfl,(Gp hG (iQ (s0 c)).2.2.2).symm,by show (6:Nat)<7;decide⟩
 ·refine aE<|aG rfl<|rV (vB true) rfl<|rE 24<|aE ?_;refine aU rfl (λ _=>?_) (λ h=>by cases h);refine aZ<|aE<|bI<|aE<|aG rfl<|nW (.clo 52 [] []) rfl rfl (⟨by decide,by decide⟩)<|oR 1 rfl<|rE 26<|aG rfl<|oR 1 rfl<|eE (args:=[.ptr 7 0]) (d:=26) _ rfl rfl rfl ((Sv (s0 c) nb hk.k0 [] [] 0 c.rob.length false rfl rfl (by have:=hm.rob;simpa using this) true true true ((s0 c).fetched.map ftL) ((s0 c).retired.map spL)).frameB2 (λ z=>match z with|0=>7|_=>22) _ _ rfl ⟨⟨rfl,rfl,rfl,rfl⟩,⟨rfl,rfl,rfl,rfl⟩,trivial⟩ rfl rfl rfl rfl rfl) ?_;rintro _ _ ⟨rfl,rfl⟩;refine rE 28<|aG rfl<|rV (vI 1) rfl<|oR 1 rfl<|rE 30 ?_;refine .mk _ (.refl _) ⟨.o1,λ i=>i,Weak.of_lists _ wT ⟨⟨rfl,rfl,rfl⟩,⟨rfl,(yE (c:=s1 c) rfl (congrArg (λ z:List Ft=>AV.sl 2 (z.map ftL) true) (show (s0 c).fetched=(s1 c).fetched from ((iQ (s0 c)).1).symm)) (congrArg (λ z:List Pt=>AV.sl 2 (z.map ptL) true) (show (s0 c).stores=(s1 c).stores from ((iQ (s0 c)).2.1).symm)) (congrArg (λ z:List Sp=>AV.sl 9 (z.map spL) true) (show (s0 c).retired=(s1 c).retired from ((iQ (s0 c)).2.2.1).symm))),rfl⟩,⟨rfl,rfl,rfl⟩,trivial⟩ rfl,rfl,trivial,by show (6:Nat)<7;decide⟩
 ·have hG:(s1 c).rob=[]:=hq;refine aE<|aG rfl<|rV (vB true) rfl<|rE 24<|aE ?_;refine aU rfl (λ _=>?_) (λ h=>by cases h);refine aZ<|aE<|bI<|aE<|aG rfl<|nW (.clo 53 [] []) rfl rfl (⟨by decide,by decide⟩)<|oR 1 rfl<|rE 26<|aG rfl<|oR 1 rfl<|eE (args:=[.ptr 7 0]) (d:=26) _ rfl rfl rfl (Gq (NY (s1 c) (nb+1) hk.k1 hG true true ((s1 c).stores.map ptL) ((s1 c).retired.map spL)) 7 _ _ ⟨⟨rfl,rfl,rfl,rfl⟩,trivial⟩) ?_;rintro _ _ ⟨rfl,⟨hz,rfl⟩|⟨_,A,B,kk,rfl|rfl,hl,rfl⟩⟩
  ·refine rE 28<|aG rfl<|rV (vI 2) rfl<|oR 1 rfl<|rE 30 ?_;refine .mk _ (.refl _) ⟨.e2,λ i=>i,Weak.of_lists _ wT ⟨⟨rfl,rfl,rfl⟩,⟨rfl,(yE (c:=s2 c) rfl rfl (congrArg (λ z:List Pt=>AV.sl 2 (z.map ptL) true) (show (s1 c).stores=(s2 c).stores from ((eU (s1 c)).1).symm)) (congrArg (λ z:List Sp=>AV.sl 9 (z.map spL) true) (show (s1 c).retired=(s2 c).retired from ((eU (s1 c)).2).symm))),rfl⟩,trivial⟩ rfl,rfl,hz,by show (5:Nat)<6;decide⟩
  ·refine rE 28<|aG rfl<|rV (vI 2) rfl<|oR 1 rfl<|rE 30 ?_;refine .mk _ (.refl _) ⟨(.o2 A B kk),λ i=>match i with|22=>27|i=>i,Weak.of_lists _ wT ⟨⟨rfl,rfl,rfl⟩,⟨rfl,(yE (c:=s2 c) rfl rfl (congrArg (λ z:List Pt=>AV.sl 2 (z.map ptL) true) (show (s1 c).stores=(s2 c).stores from ((eU (s1 c)).1).symm)) (congrArg (λ z:List Sp=>AV.sl 9 (z.map spL) true) (show (s1 c).retired=(s2 c).retired from ((eU (s1 c)).2).symm))),rfl⟩,⟨rfl,rfl,rfl⟩,trivial⟩ rfl,rfl,hl,by show (5:Nat)<6;decide⟩
  ·refine rE 28<|aG rfl<|rV (vI 2) rfl<|oR 1 rfl<|rE 30 ?_;refine .mk _ (.refl _) ⟨(.o2 A B kk),λ i=>match i with|22=>27|i=>i,Weak.of_lists _ wT ⟨⟨rfl,rfl,rfl⟩,⟨rfl,(yE (c:=s2 c) rfl rfl (congrArg (λ z:List Pt=>AV.sl 2 (z.map ptL) true) (show (s1 c).stores=(s2 c).stores from ((eU (s1 c)).1).symm)) (congrArg (λ z:List Sp=>AV.sl 9 (z.map spL) true) (show (s1 c).retired=(s2 c).retired from ((eU (s1 c)).2).symm))),rfl⟩,⟨rfl,rfl,rfl⟩,trivial⟩ rfl,rfl,hl,by show (5:Nat)<6;decide⟩
 ·refine aE<|aG rfl<|rV (vB true) rfl<|rE 24<|aE ?_;refine aU rfl (λ _=>?_) (λ h=>by cases h);refine aZ<|aE<|bI<|aE<|aG rfl<|nW (.clo 53 [] []) rfl rfl (⟨by decide,by decide⟩)<|oR 1 rfl<|rE 26<|aG rfl<|oR 1 rfl<|eE (args:=[.ptr 7 0]) (d:=26) _ rfl rfl rfl (Gr (NU (s1 c) (nb+1) hk.k1 [] [] 0 c.rob.length false rfl (iQ (s0 c)).2.2.2 (by have:=hm.rob;simpa using this) (λ x h=>by cases h) (λ x h=>by cases h) true true ((s1 c).stores.map ptL) ((s1 c).retired.map spL)) 7 22 _ _ ⟨⟨rfl,rfl,rfl,rfl⟩,⟨rfl,rfl,rfl,rfl⟩,trivial⟩ (by decide)) ?_;rintro _ _ ⟨rfl,⟨hz,rfl⟩|⟨_,A,B,kk,rfl|rfl,hl,rfl⟩⟩
  ·refine rE 28<|aG rfl<|rV (vI 2) rfl<|oR 1 rfl<|rE 30 ?_;refine .mk _ (.refl _) ⟨.e2,λ i=>i,Weak.of_lists _ wT ⟨⟨rfl,rfl,rfl⟩,⟨rfl,(yE (c:=s2 c) rfl rfl (congrArg (λ z:List Pt=>AV.sl 2 (z.map ptL) true) (show (s1 c).stores=(s2 c).stores from ((eU (s1 c)).1).symm)) (congrArg (λ z:List Sp=>AV.sl 9 (z.map spL) true) (show (s1 c).retired=(s2 c).retired from ((eU (s1 c)).2).symm))),rfl⟩,trivial⟩ rfl,rfl,hz,by show (5:Nat)<6;decide⟩
  ·refine rE 28<|aG rfl<|rV (vI 2) rfl<|oR 1 rfl<|rE 30 ?_;refine .mk _ (.refl _) ⟨(.o2 A B kk),λ i=>i,Weak.of_lists _ wT ⟨⟨rfl,rfl,rfl⟩,⟨rfl,(yE (c:=s2 c) rfl rfl (congrArg (λ z:List Pt=>AV.sl 2 (z.map ptL) true) (show (s1 c).stores=(s2 c).stores from ((eU (s1 c)).1).symm)) (congrArg (λ z:List Sp=>AV.sl 9 (z.map spL) true) (show (s1 c).retired=(s2 c).retired from ((eU (s1 c)).2).symm))),rfl⟩,⟨rfl,rfl,rfl⟩,trivial⟩ rfl,rfl,hl,by show (5:Nat)<6;decide⟩
  ·refine rE 28<|aG rfl<|rV (vI 2) rfl<|oR 1 rfl<|rE 30 ?_;refine .mk _ (.refl _) ⟨(.o2 A B kk),λ i=>match i with|22=>27|i=>i,Weak.of_lists _ wT ⟨⟨rfl,rfl,rfl⟩,⟨rfl,(yE (c:=s2 c) rfl rfl (congrArg (λ z:List Pt=>AV.sl 2 (z.map ptL) true) (show (s1 c).stores=(s2 c).stores from ((eU (s1 c)).1).symm)) (congrArg (λ z:List Sp=>AV.sl 9 (z.map spL) true) (show (s1 c).retired=(s2 c).retired from ((eU (s1 c)).2).symm))),rfl⟩,⟨rfl,rfl,rfl⟩,trivial⟩ rfl,rfl,hl,by show (5:Nat)<6;decide⟩
 ·have hG:(s2 c).rob=[]:=hq;refine aE<|aG rfl<|rV (vB true) rfl<|rE 24<|aE ?_;refine aU rfl (λ _=>?_) (λ h=>by cases h);refine aZ<|aE<|bI<|aE<|aG rfl<|nW (.clo 54 [] []) rfl rfl (⟨by decide,by decide⟩)<|oR 1 rfl<|rE 26<|aG rfl<|oR 1 rfl<|eE (args:=[.ptr 7 0]) (d:=26) _ rfl rfl rfl (Gq (Ii (s2 c) (nb+1) hk.k2 hG) 7 _ _ ⟨⟨rfl,rfl,rfl,rfl⟩,trivial⟩) ?_;rintro _ _ ⟨rfl,⟨hz,rfl⟩|⟨_,A,B,kk,rfl|rfl,hl,rfl⟩⟩
  ·refine rE 28<|aG rfl<|rV (vI 3) rfl<|oR 1 rfl<|rE 30 ?_;refine .mk _ (.refl _) ⟨.e3,λ i=>i,Weak.of_lists _ wT ⟨⟨rfl,rfl,rfl⟩,⟨rfl,(yE (c:=s3 c) rfl rfl rfl rfl),rfl⟩,trivial⟩ rfl,rfl,hz,by show (4:Nat)<5;decide⟩
  ·refine rE 28<|aG rfl<|rV (vI 3) rfl<|oR 1 rfl<|rE 30 ?_;refine .mk _ (.refl _) ⟨(.o3 A B kk),λ i=>match i with|22=>27|i=>i,Weak.of_lists _ wT ⟨⟨rfl,rfl,rfl⟩,⟨rfl,(yE (c:=s3 c) rfl rfl rfl rfl),rfl⟩,⟨rfl,rfl,rfl⟩,trivial⟩ rfl,rfl,hl,by show (4:Nat)<5;decide⟩
  ·refine rE 28<|aG rfl<|rV (vI 3) rfl<|oR 1 rfl<|rE 30 ?_;refine .mk _ (.refl _) ⟨(.o3 A B kk),λ i=>match i with|22=>27|i=>i,Weak.of_lists _ wT ⟨⟨rfl,rfl,rfl⟩,⟨rfl,(yE (c:=s3 c) rfl rfl rfl rfl),rfl⟩,⟨rfl,rfl,rfl⟩,trivial⟩ rfl,rfl,hl,by show (4:Nat)<5;decide⟩
 ·have hG:A.length+(s2 c).rob.length+B.length≤1000:=hq;refine aE<|aG rfl<|rV (vB true) rfl<|rE 24<|aE ?_;refine aU rfl (λ _=>?_) (λ h=>by cases h);refine aZ<|aE<|bI<|aE<|aG rfl<|nW (.clo 54 [] []) rfl rfl (⟨by decide,by decide⟩)<|oR 1 rfl<|rE 26<|aG rfl<|oR 1 rfl<|eE (args:=[.ptr 7 0]) (d:=26) _ rfl rfl rfl (Gr (KT (s2 c) (nb+1) hk.k2 omT A B A.length (s2 c).rob.length kk rfl rfl hG) 7 22 _ _ ⟨⟨rfl,rfl,rfl,rfl⟩,⟨rfl,rfl,rfl,rfl⟩,trivial⟩ (by decide)) ?_;rintro _ _ ⟨rfl,⟨hz,rfl⟩|⟨_,A,B,kk,rfl|rfl,hl,rfl⟩⟩
  ·refine rE 28<|aG rfl<|rV (vI 3) rfl<|oR 1 rfl<|rE 30 ?_;refine .mk _ (.refl _) ⟨.e3,λ i=>i,Weak.of_lists _ wT ⟨⟨rfl,rfl,rfl⟩,⟨rfl,(yE (c:=s3 c) rfl rfl rfl rfl),rfl⟩,trivial⟩ rfl,rfl,hz,by show (4:Nat)<5;decide⟩
  ·refine rE 28<|aG rfl<|rV (vI 3) rfl<|oR 1 rfl<|rE 30 ?_;refine .mk _ (.refl _) ⟨(.o3 A B kk),λ i=>i,Weak.of_lists _ wT ⟨⟨rfl,rfl,rfl⟩,⟨rfl,(yE (c:=s3 c) rfl rfl rfl rfl),rfl⟩,⟨rfl,rfl,rfl⟩,trivial⟩ rfl,rfl,hl,by show (4:Nat)<5;decide⟩
  ·refine rE 28<|aG rfl<|rV (vI 3) rfl<|oR 1 rfl<|rE 30 ?_;refine .mk _ (.refl _) ⟨(.o3 A B kk),λ i=>match i with|22=>27|i=>i,Weak.of_lists _ wT ⟨⟨rfl,rfl,rfl⟩,⟨rfl,(yE (c:=s3 c) rfl rfl rfl rfl),rfl⟩,⟨rfl,rfl,rfl⟩,trivial⟩ rfl,rfl,hl,by show (4:Nat)<5;decide⟩
 ·have hG:(s3 c).rob=[]:=hq;refine aE<|aG rfl<|rV (vB true) rfl<|rE 24<|aE ?_;refine aU rfl (λ _=>?_) (λ h=>by cases h);refine aZ<|aE<|bI<|aE<|aG rfl<|nW (.clo 55 [] []) rfl rfl (⟨by decide,by decide⟩)<|oR 1 rfl<|rE 26<|aG rfl<|oR 1 rfl<|eE (args:=[.ptr 7 0]) (d:=26) _ rfl rfl rfl ((KU (s3 c) (nb+5) hk.k3 hG true false false ((s3 c).fetched.map ftL) ((s3 c).retired.map spL)).frameB (λ _=>7) _ _ rfl ⟨⟨rfl,rfl,rfl,rfl⟩,trivial⟩ rfl rfl rfl rfl) ?_;rintro _ _ ⟨rfl,rfl⟩;refine rE 28<|aG rfl<|rV (vI 4) rfl<|oR 1 rfl<|rE 30 ?_;refine .mk _ (.refl _) ⟨.s4,λ i=>i,Weak.of_lists _ wT ⟨⟨rfl,rfl,rfl⟩,⟨rfl,(yE (c:=s4 c) (congrArg (λ z:List Ent=>AV.sl 17 (z.map enL) false) (Gp hG (fV hk.k3 omT).1)) (congrArg (λ z:List Ft=>AV.sl 2 (z.map ftL) true) (show (s3 c).fetched=(s4 c).fetched from ((fV hk.k3 omT).2.2.1).symm)) rfl (congrArg (λ z:List Sp=>AV.sl 9 (z.map spL) false) (show (s3 c).retired=(s4 c).retired from ((fV hk.k3 omT).2.2.2).symm))),rfl⟩,trivial⟩ rfl,rfl,trivial,by show (3:Nat)<4;decide⟩
 ·have hG:A.length+(s3 c).rob.length+B.length≤1000:=hq;refine aE<|aG rfl<|rV (vB true) rfl<|rE 24<|aE ?_;refine aU rfl (λ _=>?_) (λ h=>by cases h);refine aZ<|aE<|bI<|aE<|aG rfl<|nW (.clo 55 [] []) rfl rfl (⟨by decide,by decide⟩)<|oR 1 rfl<|rE 26<|aG rfl<|oR 1 rfl<|eE (args:=[.ptr 7 0]) (d:=26) _ rfl rfl rfl ((Oc (s3 c) (nb+5) hk.k3 omT A B A.length (s3 c).rob.length kk true false false ((s3 c).fetched.map ftL) ((s3 c).retired.map spL) rfl rfl hG).frameB2 (λ z=>match z with|0=>7|_=>22) _ _ rfl ⟨⟨rfl,rfl,rfl,rfl⟩,⟨rfl,rfl,rfl,rfl⟩,trivial⟩ rfl rfl rfl rfl rfl) ?_;rintro _ _ ⟨rfl,rfl⟩;refine rE 28<|aG rfl<|rV (vI 4) rfl<|oR 1 rfl<|rE 30 ?_;refine .mk _ (.step (some (22,17,(A++(s4 c).rob++B).map enL)) (Ghost.of_lists (l:=[(2,.ptr 1 0),(9,vB (!(fK c))),(3,.ptr 7 0),(21,.agg [.clo 52 [] [],.clo 53 [] [],.clo 54 [] [],.clo 55 [] [],.clo 56 [] [],.clo 57 [] [],.clo 58 [] []]),(22,vI 4)]) (hp:=[(1,.box zCo),(7,.box (mcX (s4 c) (.sl 17 ((((A++(s4 c).rob++B).drop A.length).take (s3 c).rob.length).map enL) false) (.sl 2 ((s3 c).fetched.map ftL) true) (.sl 2 ((s4 c).stores.map ptL) false) (.sl 9 ((s3 c).retired.map spL) false)))]) rfl rfT ⟨⟨rfl,_,rfl,.refl _⟩,⟨rfl,_,rfl,LeB.boxL (nN (CV (by simp only[aY];have:=(fV hk.k3 omT).1;show A.length+(s3 c).rob.length≤A.length+(fJ (s3 c)).rob.length+B.length;omega)) (.refl _) (.refl _) (.refl _))⟩,trivial⟩) (.refl _)) ⟨.s4,λ i=>i,Weak.of_lists _ wT ⟨⟨rfl,rfl,rfl⟩,⟨rfl,(yE (c:=s4 c) (congrArg (λ z:List Ent=>AV.sl 17 (z.map enL) false) (JR rfl (fV hk.k3 omT).1)) (congrArg (λ z:List Ft=>AV.sl 2 (z.map ftL) true) (show (s3 c).fetched=(s4 c).fetched from ((fV hk.k3 omT).2.2.1).symm)) rfl (congrArg (λ z:List Sp=>AV.sl 9 (z.map spL) false) (show (s3 c).retired=(s4 c).retired from ((fV hk.k3 omT).2.2.2).symm))),rfl⟩,trivial⟩ rfl,rfl,trivial,by show (3:Nat)<4;decide⟩
 ·refine aE<|aG rfl<|rV (vB true) rfl<|rE 24<|aE ?_;refine aU rfl (λ _=>?_) (λ h=>by cases h);refine aZ<|aE<|bI<|aE<|aG rfl<|nW (.clo 56 [] []) rfl rfl (⟨by decide,by decide⟩)<|oR 1 rfl<|rE 26<|aG rfl<|oR 1 rfl<|eE (args:=[.ptr 7 0]) (d:=26) _ rfl rfl rfl ((Og (s4 c) (nb+7) hk.k4 false ((s4 c).stores.map ptL) false ((s4 c).retired.map spL)).frameB (λ _=>7) _ _ rfl ⟨⟨rfl,rfl,rfl,rfl⟩,trivial⟩ rfl rfl rfl rfl) ?_;rintro _ _ ⟨rfl,rfl⟩;refine rE 28<|aG rfl<|rV (vI 5) rfl<|oR 1 rfl<|rE 30 ?_;refine .mk _ (.refl _) ⟨.s5,λ i=>i,Weak.of_lists _ wT ⟨⟨rfl,rfl,rfl⟩,⟨rfl,(yE (c:=s5 c) rfl rfl (congrArg (λ z:List Pt=>AV.sl 2 (z.map ptL) false) (show (s4 c).stores=(s5 c).stores from ((tD hk.k4).2.1).symm)) (congrArg (λ z:List Sp=>AV.sl 9 (z.map spL) false) (show (s4 c).retired=(s5 c).retired from ((tD hk.k4).2.2).symm))),rfl⟩,trivial⟩ rfl,rfl,trivial,by show (2:Nat)<3;decide⟩
 ·refine aE<|aG rfl<|rV (vB true) rfl<|rE 24<|aE ?_;refine aU rfl (λ _=>?_) (λ h=>by cases h);refine aZ<|aE<|bI<|aE<|aG rfl<|nW (.clo 57 [] []) rfl rfl (⟨by decide,by decide⟩)<|oR 1 rfl<|rE 26<|aG rfl<|oR 1 rfl<|eE (args:=[.ptr 7 0]) (d:=26) _ rfl rfl rfl ((KX (s5 c) (nb+7) hk.k5 false ((s5 c).rob.map enL) false ((s5 c).stores.map ptL) false ((s5 c).retired.map spL)).frameB (λ _=>7) _ _ rfl ⟨⟨rfl,rfl,rfl,rfl⟩,trivial⟩ rfl rfl rfl rfl) ?_;rintro _ _ ⟨rfl,rfl⟩;refine rE 28<|aG rfl<|rV (vI 6) rfl<|oR 1 rfl<|rE 30 ?_;refine .mk _ (.refl _) ⟨.s6,λ i=>i,Weak.of_lists _ wT ⟨⟨rfl,rfl,rfl⟩,⟨rfl,(yE (c:=s6 c) (congrArg (λ z:List Ent=>AV.sl 17 (z.map enL) false) (show (s5 c).rob=(s6 c).rob from ((mX hk.k5 omT).2.2.2).symm)) rfl (congrArg (λ z:List Pt=>AV.sl 2 (z.map ptL) false) (show (s5 c).stores=(s6 c).stores from ((mX hk.k5 omT).2.1).symm)) (congrArg (λ z:List Sp=>AV.sl 9 (z.map spL) false) (show (s5 c).retired=(s6 c).retired from ((mX hk.k5 omT).2.2.1).symm))),rfl⟩,trivial⟩ rfl,rfl,trivial,by show (1:Nat)<2;decide⟩
 ·refine aE<|aG rfl<|rV (vB true) rfl<|rE 24<|aE ?_;refine aU rfl (λ _=>?_) (λ h=>by cases h);refine aZ<|aE<|bI<|aE<|aG rfl<|nW (.clo 58 [] []) rfl rfl (⟨by decide,by decide⟩)<|oR 1 rfl<|rE 26<|aG rfl<|oR 1 rfl<|eE (args:=[.ptr 7 0]) (d:=26) _ rfl rfl rfl ((Ok (s6 c) (nb+8) hk.k6 omT false ((s6 c).rob.map enL) false ((s6 c).fetched.map ftL) false ((s6 c).retired.map spL)).frameB (λ _=>7) _ _ rfl ⟨⟨rfl,rfl,rfl,rfl⟩,trivial⟩ rfl rfl rfl rfl) ?_;rintro _ _ ⟨rfl,rfl⟩;refine rE 28<|aG rfl<|rV (vI 7) rfl<|oR 1 rfl<|rE 30 ?_;refine .mk _ (.refl _) ⟨.s7,λ i=>i,Weak.of_lists _ wT ⟨⟨rfl,rfl,rfl⟩,⟨rfl,(yE (c:=s7 c) (congrArg (λ z:List Ent=>AV.sl 17 (z.map enL) false) (show (s6 c).rob=(s7 c).rob from ((oN hk.k6 omT).2.2.2).symm)) (congrArg (λ z:List Ft=>AV.sl 2 (z.map ftL) false) (show (s6 c).fetched=(s7 c).fetched from ((oN hk.k6 omT).2.1).symm)) rfl (congrArg (λ z:List Sp=>AV.sl 9 (z.map spL) false) (show (s6 c).retired=(s7 c).retired from ((oN hk.k6 omT).2.2.1).symm))),rfl⟩,trivial⟩ rfl,rfl,trivial,by show (0:Nat)<1;decide⟩
 ·refine aE<|aG rfl<|rV (vB false) rfl<|rE 24<|aE ?_;refine aU rfl (λ h=>by cases h) (λ _=>?_);refine eA<|aE<|aG rfl<|oR 2 rfl<|rSx 1 (mcX (s7 c) (.sl 17 ((s7 c).rob.map enL) false) (.sl 2 ((s7 c).fetched.map ftL) false) (.sl 2 ((s7 c).stores.map ptL) false) (.sl 9 ((s7 c).retired.map spL) false)) rfl rfl rfl<|rE 27<|cT ?_;rw[show dP c=s7 c from if_pos hr];exact eW rfl tvT rfl rfl
theorem Vp(c:Co)(nb:Nat)(hok:c.ok nb)(hb:nb+20≤890000)(hr:fK c=false):bY C0 25 [.agg (coL c)] (.agg (coL (dP c))):=by
 refine dc1 (bY.intro c1Ok Tryz.func25 rfl rfl (by kernel_rfl) rfl ?_);refine aE<|aG rfl<|rAl 0 rfl rfl<|rAl 1 rfl rfl<|rE 2<|aE<|aE<|aG rfl<|oR 1 rfl<|rCi rfl (Bi c nb hok omT)<|oR 1 rfl<|rE 5 ?_;refine aU rfl (λ _=>?_) (λ h1=>by exact absurd (dB (qU h1)) (by rw[hr];decide));refine aE<|aG rfl<|oR 1 rfl<|rSx 1 (coL c) rfl rfl rfl<|rE 7<|cT ?_;rw[show dP c=c from if_neg (by rw[hr];decide)];exact eW rfl tvT rfl rfl
theorem NV(c:Co)(nb:Nat)(hok:c.ok nb)(hb:nb+20≤890000):bY C0 25 [.agg (coL c)] (.agg (coL (dP c))):=by
 cases hr:fK c with
 |false=>exact Vp c nb hok hb hr
 |true=>
  by_cases h0:c.rob=[]
  ·exact Vn c nb hok hb hr h0
  ·exact Vo c nb hok hb hr h0
def EA(n:Int):Nat:=(min n 2000).toNat
theorem Vl(a b:Int):(if b<a then b else a)=min a b:=by split<;>omega
theorem KQ(a b:Int):(BT a b).ok:=by
 unfold BT;refine⟨?_,λ s hs=>?_⟩
 ·have h:(if aV a 1 4=3 then 2 else aV a 1 4).toNat≤4:=by unfold aV;(repeat' split)<;>omega
  show (List.replicate _ _).length≤_;rw[cU];omega
 ·rw[iM hs];exact⟨aF _,λ x hx=>by cases hx⟩
theorem QT:VQ.ok:=by
 refine⟨by decide,by decide,by decide,?_,?_⟩
 ·intro x hx;have:x=⟨0,0⟩:=iM (n:=8) hx;subst this;exact⟨aF _,aF _⟩
 ·intro x hx;cases hx
theorem Gn(c:Cf)(prog:List Nat)(m:ByteArray)(hc:c.ok)(hp:∀ x∈prog,x≤4294967295):(vE c prog m).ok 0:=by
 have hm:(qQ m).size≤256:=by
  rw[xY];unfold upS;repeat' split
  all_goals omega
 have hl:(prog.take (min prog.length 64)).length≤9223372036854775807:=by rw[aQ];omega
 refine⟨⟨aL (OG c) (by decide),aL (Mu c) (by decide),GB hc.tp⟩,hl,sW (P:=λ x=>x≤4294967295) hp,λ _=>aF _,aF _,aF _,(λ x hx=>by cases hx),aF _,(λ x hx=>by cases hx),aF _,(λ x hx=>by cases hx),KQ _ _,KQ _ _,aF _,(λ x hx=>by cases hx),(by show (0:Int)≤9223372036854775807;decide),(by show (0:Int)≤9223372036854775807;decide),?_,QT,aF _,(λ x hx=>by cases hx)⟩;show (qQ m).size≤1000000;omega
theorem vM{c:Co}{n:Nat}(h:c.ok n):∀ k,n+10 * k+20≤890000→(dJ c k).ok (n+10 * k)
 |0,_=>h
 |k+1,hb=>by
  have ih:=Ic (vM h k omT) omT;rw[show n+10 * (k+1)=n+10 * k+10 by omega];exact ih
theorem Xs(c:Cf)(prog:List Nat)(m:ByteArray)(n:Int)(hc:c.ok)(hp:∀ x∈prog,x≤4294967295)(hl:prog.length≤1000):bY C0 28 [.agg (cfL c false false),.sl 1 (prog.map eJ) false,.v (.string m),vI n] (.agg (coL (dJ (vE c prog m) (EA n)))):=by
 refine dc1 (bY.intro c1Ok Tryz.func28 rfl rfl (by kernel_rfl) rfl ?_);have hX:=Gn c prog m hc hp;refine aE<|aG rfl<|rAl 0 rfl rfl<|rAl 1 rfl rfl<|rE 2<|aE<|aG rfl<|oR 3 rfl<|rCi rfl (SF c prog m hc omT)<|rAl 6 rfl rfl<|rSx 6 (coL (vE c prog m)) rfl rfl rfl<|rE 8<|aE<|aE<|aG rfl<|oR 1 rfl ?_;refine rW (vI (min n 2000)) rfl (okI (Vl n 2000))<|oR 1 rfl<|rE 11<|bI<|kZ (κ:=Nat) (λ k=>⟨cI [(8,.ptr 1 0),(9,.ptr 6 0),(15,vI (min n 2000)),(16,vN k)],heapF [(0,.box [vI c.mode,vI c.width,vI c.rob,vI c.queue,vI c.stores,vI c.slots,vI c.sets,vI c.ways,.sl 1 (c.lat.map fD) false,vB c.tables,.sl 1 (c.tape.map eJ) false]),(1,.box zCo),(6,.box (coL (dJ (vE c prog m) k)))],11⟩) (λ k=>k≤EA n) (λ k=>EA n - k) 0 (λ s=>s) (Weak.of_lists (λ s=>s) wT wH rfl) (aF _) ?_;intro k hk;have hkn:k≤EA n:=hk;have hkB:k≤2000:=by have:EA n≤2000:=(by unfold EA;omega);omega
 have hN:EA n=(min n 2000).toNat:=rfl;refine aE<|aG rfl<|rV (vB (decide ((k:Int)<(min n 2000)))) rfl<|rE 12<|aE ?_;refine aU rfl (λ h1=>?_) (λ h1=>?_)
 ·have h1p:=of_decide_eq_true h1;refine aZ<|aE<|bI<|aG rfl<|oR 1 rfl<|rCi rfl (NV (dJ (vE c prog m) k) (0+10 * k) (vM hX k omT) omT)<|rSx 6 (coL (dP (dJ (vE c prog m) k))) rfl rfl rfl<|rE 15<|aG rfl ?_;have b1:k+1≤2001:=aH hkB (aC 1);refine rW (vN (k+1)) rfl (okI (bS b1 rfl))<|oR 1 rfl<|rE 17 ?_;refine⟨k+1,λ s=>s,Weak.of_lists _ wT wH rfl,by omega,by show EA n - (k+1)<EA n - k;omega⟩
 ·have h1p:=aD h1;refine eA<|aE<|aG rfl<|oR 1 rfl<|rSx 1 (coL (dJ (vE c prog m) k)) rfl rfl rfl<|rE 14<|cT ?_;have hk2:k=EA n:=by omega
  rw[show dJ (vE c prog m) (EA n)=dJ (vE c prog m) k from by rw[hk2]];exact eW rfl tvT rfl rfl
def QS:Cf:=⟨0,0,0,0,0,0,0,0,[],false,[]⟩
theorem Vk:(dJ (vE QS [1048691] mH) (EA 20)).halt=7∧(dJ (vE QS [1048691] mH) (EA 20)).retired.length=1:=by
 decide+kernel
theorem kM(a:ByteArray):(a==a)=true:=by
 show (a.data==a.data)=true;exact qJ _
theorem Ss(prog:List Nat)(m:ByteArray)(hl:prog.length≤9223372036854775807)(hm:m.size≤9223372036854775807):bY C0 24 [.sl 1 (prog.map eJ) false,.v (.string m)] (.tup [.sl 1 ((prog.take (min prog.length 64)).map eJ) false,.v (.string (m.extract 0 (min m.size 300)))]):=by
 refine dc1 (bY.intro c1Ok Tryz.func24 rfl rfl (by kernel_rfl) rfl ?_);refine aE<|aG rfl<|oR 2 rfl<|rE 2<|aE<|aG rfl<|oR 2 rfl<|rW (vN prog.length) rfl (bQ eJ prog)<|rW (vN (min prog.length 64)) rfl (Bp prog.length 64) ?_;refine nW (.sl 1 ((prog.take (min prog.length 64)).map eJ) false) rfl (vX (tT eJ prog (min prog.length 64))) slT ?_;refine oR 2 rfl<|rV (vN m.size) rfl<|rW (vN (min m.size 300)) rfl (Bp m.size 300) ?_;refine nW (.v (.string (m.extract 0 (min m.size 300)))) rfl rfl (by refine⟨?_,?_,?_⟩<;>(first|exact aI _|decide|(apply Eo.2;exact omT))) ?_;refine oR 2 rfl<|rE 14<|cT ?_;exact fT rfl rfl
theorem bY.of_sub{C:Ctx}{f:FuncId}{xs ys:List AV}{r:AV}(h:bY C f xs r)(k:VJ ys xs):bY C f ys r:=by
 obtain⟨k1,k2⟩:=k.get;refine⟨h.1,λ S w vs hS hG hr=>h.2 S w vs hS hG ⟨k1 ▸ hr.1,λ i a v ha hv=>?_⟩⟩;have hi:i<ys.length:=by rw[k1];exact (Db.1 ha).1
 exact k2 i _ a (aA hi) ha _ _ _ (hr.2 i _ v (aA hi) hv)
theorem Vj:bY C0 28 [.agg [vI 0,vI 0,vI 0,vI 0,vI 0,vI 0,vI 0,vI 0,.sl 0 [] true,vB false,.sl 0 [] true],.sl 1 [[vU 1048691]] true,.v (.string mH),vI 20] (.agg (coL (dJ (vE QS [1048691] mH) (EA 20)))):=
 (Xs QS [1048691] mH 20 ⟨aF _,aF _,λ x hx=>by cases hx⟩ (λ x hx=>by rw[tM.1 hx];decide) (by decide)).of_sub ⟨Sub.agg ⟨Sub.refl _,Sub.refl _,Sub.refl _,Sub.refl _,Sub.refl _,Sub.refl _,Sub.refl _,Sub.refl _,uP 1 false,Sub.refl _,uP 1 false,trivial⟩,Sub.clip _ _ _,Sub.refl _,Sub.refl _,trivial⟩
theorem Ib:bY C0 17 [] (vB true):=by
 refine dc1 (bY.intro c1Ok Tryz.func17 rfl rfl (by kernel_rfl) rfl ?_);have hnb:(200:Nat)≤890000:=by decide
 refine aE<|aG rfl<|oR 1 rfl<|rE 1<|aE<|aG rfl<|rV (.agg [vI 0,vI 0,vI 0,vI 0,vI 0,vI 0,vI 0,vI 0,.sl 0 ([]) true,vB false,.sl 0 ([]) true]) rfl<|rV (.sl 1 ([[.v (.int .u32 1048691)]]) true) rfl<|rCi rfl (Vj)<|rAl 4 rfl rfl<|rSx 4 (coL (dJ (vE QS [1048691] mH) (EA 20))) rfl rfl rfl<|rE 6<|aE<|aG rfl<|oR 2 rfl<|rV (vB (((dJ (vE QS [1048691] mH) (EA 20)).halt)==7)) rfl ?_;refine oR 1 rfl<|gN rfl<|gS rfl id<|gBS (x:=vN (((dJ (vE QS [1048691] mH) (EA 20)).retired).length)) rfl id (bQ spL ((dJ (vE QS [1048691] mH) (EA 20)).retired))<|gBS (x:=vB ((((dJ (vE QS [1048691] mH) (EA 20)).retired).length)==1)) rfl id (okB (eqN _ _))<|cH rfl rfl rfl (λ h=>h)<|oR 1 rfl<|rE 16<|cT ?_;exact fT rfl (cY (by simp[c2a,Vk.1,Vk.2]))
structure Kp(c d:Co):Prop where
 cycle:d.cycle=c.cycle
 ret:c.retired.length≤d.retired.length
 mem:d.mem.size=c.mem.size
theorem Kp.refl(c:Co):Kp c c:=⟨rfl,aC _,rfl⟩
theorem Kp.trans{a b c:Co}(h:Kp a b)(k:Kp b c):Kp a c:=⟨k.cycle.trans h.cycle,aL h.ret k.ret,k.mem.trans h.mem⟩
theorem QP(c:Co):Kp c (jK c):=by
 rw[iR];split
 ·unfold BR
  repeat' split
  ·exact⟨rfl,aC _,rfl⟩
  ·exact⟨rfl,aC _,rfl⟩
  ·rw[←pY];exact⟨rfl,aC _,rfl⟩
  ·exact⟨rfl,aC _,iA ..⟩
  ·exact⟨rfl,aC _,rfl⟩
 ·exact⟨rfl,aC _,rfl⟩
theorem QQ(c:Co):Kp c (iE c):=by
 unfold iE;split
 ·exact .refl c
 ·split<;>exact⟨rfl,aC _,rfl⟩
theorem NM(d:Co)(e:Ent):Kp d (tF d e):=⟨rfl,(by show d.retired.length≤(d.retired++[aP e]).length;simp),rfl⟩
theorem NN(d:Co)(e:Ent):Kp d (tG d e):=⟨rfl,(by show d.retired.length≤(d.retired++[aP e]).length;simp),rfl⟩
theorem Aw:∀ (n:Nat) (c:Co),Kp c (dV n c)
 |0,c=>.refl c
 | n +1,c=>by
  by_cases h0:c.halt≠0∨c.rob.length=0
  ·rw[jJ h0];exact .refl c
  ·have hx:c.rob[0]?=some (c.rob[0]'omT):=aA omT;rw[eV omT (λ q=>h0 (.inl q)) hx];split
   ·exact .refl c
   ·split
    ·exact⟨rfl,(by show c.retired.length≤(c.retired++[_]).length;simp),rfl⟩
    ·split
     ·exact .refl c
     ·rw[iC];by_cases hk:kindOf (c.rob[0]'omT).i.op=3
      ·rw[rB hk];exact (NN c _).trans (Aw n _)
      ·rw[rA hk];exact (NM c _).trans (Aw n _)
theorem Tt(c:Co)(i:Nat):Kp c (lZ c i):=by
 unfold lZ
 cases c.rob[i]? with
 |none=>exact .refl c
 |some e=>
  dsimp only
  repeat' split
  all_goals exact⟨rfl,aC _,rfl⟩
theorem QR(c:Co)(i:Nat):Kp c (gF c i):=by
 unfold gF
 cases c.rob[i]? with
 |none=>exact .refl c
 | some e=>
  dsimp only;split
  ·exact⟨rfl,aC _,rfl⟩
  ·split
   ·exact Kp.trans (b:=setE c i (vY e c.mem.size (lE c.rob c.r i).1)) ⟨rfl,aC _,rfl⟩ (Tt _ i)
   ·exact⟨rfl,aC _,rfl⟩
theorem Ia:∀ (p:List Nat) (c:Co),Kp c (p.foldl gF c)
 |[],c=>.refl c
 |i::p,c=>(QR c i).trans (Ia p _)
theorem NO(c:Co):Kp c (fJ c):=by
 unfold fJ;split
 ·exact .refl c
 ·exact Ia _ c
theorem Fe:∀ (n:Nat) (c:Co),Kp c (jL n c)
 |0,c=>.refl c
 | n+1,c=>by
  by_cases h0:(c.rob.length:Int)≥c.conf.rob∨c.fetched.length=0
  ·rw[tH h0];exact .refl c
  ·have hx:c.fetched[0]?=some (c.fetched[0]'omT):=aA omT;have e:=wM (n:=n+1) (k:=0) omT (λ q=>h0 (.inl q)) hx;rw[show n+1 - (0+1)=n by omega,show n+1 - 0=n+1 by omega]at e;rw[←e];have h1:Kp c (Fl c (c.fetched[0]'omT)):=⟨rfl,aC _,rfl⟩;exact h1.trans (Fe n _)
theorem NP(c:Co):Kp c (iY c):=by
 unfold iY;split
 ·exact .refl c
 ·exact Fe _ c
theorem NQ(c:Co):Kp c (wN c):=by
 have h:Kp (gP c) (cN (gP c) (fetchW c.prog c.fetch)).1:=by
  unfold cN;split
  ·exact .refl _
  ·split<;>exact⟨rfl,aC _,rfl⟩
 exact⟨h.cycle,h.ret,h.mem⟩
theorem Dw:∀ (n:Nat) (c:Co),Kp c (eB n c)
 |0,c=>.refl c
 | n +1,c=>by
  by_cases h0:c.stop=true∨(c.fetched.length:Int)≥c.conf.queue
  ·rw[rC h0];exact .refl c
  ·by_cases hf:(fetchP c.prog c.fetch).isSome=false
   ·rw[tI omT h0 hf];exact⟨rfl,aC _,rfl⟩
   ·by_cases hw:(bE c.words (lineOf c.fetch)).2.isSome=false
    ·rw[oP omT h0 hf hw];split
     ·exact⟨rfl,aC _,rfl⟩
     ·exact .refl c
    ·have e:=uN (n:=n+1) (k:=0) omT h0 hf hw;rw[show n+1 - (0+1)=n by omega,show n+1 - 0=n+1 by omega]at e;rw[←e];exact (NQ c).trans (Dw n _)
theorem Ml(c:Co):Kp c (dW c):=by
 unfold dW;split
 ·exact .refl c
 ·exact Dw _ c
theorem JM(c:Co):Kp c (oG c):=by
 unfold oG;split
 ·exact .refl c
 ·split
  ·exact⟨rfl,aC _,rfl⟩
  ·exact .refl c
theorem Ff(c:Co):Kp c (kP c):=by
 unfold kP;split
 ·exact .refl c
 ·unfold mQ;split
  ·split
   ·exact⟨rfl,aC _,rfl⟩
   ·exact .refl c
  ·exact .refl c
theorem NR(c:Co):Kp c (pZ c):=by
 have h1:Kp c (aW c):=⟨rfl,aC _,rfl⟩;rw[jW];split
 ·exact (h1.trans (JM _)).trans (Ff _)
 ·exact h1.trans (Ff _)
theorem Tu(c:Co):Kp (s0 c) (TW c):=
 ((((((QP (s0 c)).trans (QQ _)).trans (Aw _ _)).trans (NO _)).trans (NP _)).trans (Ml _)).trans (NR _)
theorem NS{c:Co}(h:fK c=true):(dP c).cycle=wrap64 (c.cycle+1)∧c.retired.length≤(dP c).retired.length∧(dP c).mem.size=c.mem.size:=by
 have k:=Tu c;unfold dP;rw[if_pos h];exact⟨k.cycle,k.ret,k.mem⟩
theorem BK{c:Co}(h:fK c=false):dP c=c:=by unfold dP;rw[if_neg (by rw[h];decide)]
end Go.Proofs.YtlhofpglndhfaaaGreatDoor
