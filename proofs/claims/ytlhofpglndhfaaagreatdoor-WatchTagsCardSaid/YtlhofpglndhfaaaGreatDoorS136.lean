/- Joined texts. -/
import Derived.WideShapes
import Derived.Test.YtlhofpglndhfaaaGreatDoorS101
import Derived.Test.YtlhofpglndhfaaaGreatDoorS108
import Derived.Test.YtlhofpglndhfaaaGreatDoorS128
import Derived.Test.YtlhofpglndhfaaaGreatDoorS129
import Derived.Test.YtlhofpglndhfaaaGreatDoorS135
set_option linter.unusedVariables false
set_option linter.unusedSimpArgs false
namespace Go.Proofs.YtlhofpglndhfaaaGreatDoor
set_option maxRecDepth 100000
set_option maxHeartbeats 4000000
open Go.RowKit
def s0(c:Co):Co:={c with cycle:=wrap64 (c.cycle+1)}
def s1(c:Co):Co:=iS (s0 c)
def s2(c:Co):Co:=gD (s1 c)
def s3(c:Co):Co:=dI (s2 c)
def s4(c:Co):Co:=eQ (s3 c)
def s5(c:Co):Co:=gW (s4 c)
def s6(c:Co):Co:=dJ (s5 c)
def s7(c:Co):Co:=oV (s6 c)
theorem RZ(c:Co):PG c=s7 c:=rfl
theorem Xp{c:Co}{n:Nat}(h:c.okM n):(s0 c).okM n:=⟨⟨h.ok.conf,h.ok.prog,h.ok.progo,h.ok.r,h.ok.fetch,h.ok.fet,h.ok.feto,h.ok.rob,h.ok.robo,h.ok.sto,h.ok.stoo,h.ok.data,h.ok.words,h.ok.bus,h.ok.buso,h.ok.asked,h.ok.guessed,h.ok.mem,h.ok.guess,h.ok.ret,h.ok.reto⟩,h.nb,h.cf,h.data,h.words,h.guess,h.rob,h.fet,h.sto,h.prog,h.mem,h.std⟩
structure StepOk(c:Co)(n:Nat):Prop where
 k0:(s0 c).okM n
 k1:(s1 c).okM (n+1)
 k2:(s2 c).okM (n+1)
 k3:(s3 c).okM (n+5)
 k4:(s4 c).okM (n+7)
 k5:(s5 c).okM (n+7)
 k6:(s6 c).okM (n+8)
 k7:(s7 c).okM (n+10)
theorem IR{c:Co}{n:Nat}(h:c.okM n)(hb:n+20≤890000):StepOk c n:=by
 have k0:=Xp h;have k1:(s1 c).okM (n+1):=Ky k0 omT;have k2:(s2 c).okM (n+1):=KA k1;have k3:(s3 c).okM (n+5):=Hc k2 omT;have k4:(s4 c).okM (n+7):=IU k3 omT;have k5:(s5 c).okM (n+7):=(zC k4).1;have k6:(s6 c).okM (n+8):=(tZ k5 omT).1;exact⟨k0,k1,k2,k3,k4,k5,k6,(vS k6 omT).1⟩
theorem wN{c:Co}{n:Nat}(h:c.ok n)(hb:n+20≤890000):(kN c).ok (n+10):=by
 unfold kN;split
 ·rename_i hr;rw[RZ];exact (IR (zA h omT hr) hb).k7.ok
 ·exact⟨h.conf,h.prog,h.progo,h.r,h.fetch,h.fet,h.feto,h.rob,h.robo,h.sto,h.stoo,h.data,h.words,aM h.bus omT,h.buso,h.asked,h.guessed,h.mem,h.guess,aM h.ret omT,h.reto⟩
theorem Hb{c:Co}{R R' F F' S S' T T':AV}(hR:R=R')(hF:F=F')(hS:S=S')(hT:T=T'):some (Blk.box (mcX c R F S T))=some (Blk.box (mcX c R' F' S' T')):=by rw[hR,hF,hS,hT]
inductive Stg where
 |e0|o0|e1|o1|e2
 |o2 (A B:List Ent) (k:Bool)
 |e3
 |o3 (A B:List Ent) (k:Bool)
 |s4|s5|s6|s7
theorem YY(c:Co)(nb:Nat)(hm:c.okM nb)(hne:c.rob≠[])(kR kF kS kT:Bool):pV C0.P C0.G 51 [.ptr 0 0] (heapF [(0,.box (mcX c (.sl 17 (c.rob.map enL) kR) (.sl 2 (c.fetched.map ftL) kF) (.sl 2 (c.stores.map ptL) kS) (.sl 9 (c.retired.map spL) kT)))]) 1 (λ x h'=>x=.tup []∧h'=heapF [(0,.box (mcX c (.osl 1 0 c.rob.length false) (.sl 2 (c.fetched.map ftL) true) (.sl 2 (c.stores.map ptL) true) (.sl 9 (c.retired.map spL) true))),(1,.arr (c.rob.map enL) 17)]):=by
 obtain⟨e,l,hel⟩:=List.exists_cons_of_ne_nil hne;have hl:=hm.rob;rw[hel]at hl⊢;exact ZK c nb hm e l hl kR kF kS kT
theorem Vc(c:Co)(nb:Nat)(hm:c.okM nb)(A B:List Ent)(lo n:Nat)(kR:Bool)(hlo:A.length=lo)(hn:c.rob.length=n)(hA:A.length+n+B.length≤1000)(hAo:∀ x∈A,x.ok)(hBo:∀ x∈B,x.ok)(kS kT:Bool)(xS xT:List (List AV)):pV C0.P C0.G 53 [.ptr 0 0] (heapF [(0,.box (mcX c (.osl 1 lo n kR) (.sl 2 (c.fetched.map ftL) true) (.sl 2 xS kS) (.sl 9 xT kT))),(1,.arr ((A++c.rob++B).map enL) 17)]) 2 (λ x h'=>x=.tup []∧Ua 2 (gD c) (.sl 2 ((gD c).fetched.map ftL) true) (.sl 2 xS kS) (.sl 9 xT kT) h'):=by
 cases hw:wV (dA c)with
 |none=>exact Vh c nb hm A B lo n kR hlo hn hA hAo hBo hw kS kT xS xT
 |some i=>exact Vi c nb hm A B lo n kR hlo hn hA hAo hBo i hw kS kT xS xT
theorem OL{α:Type}{l m:List α}(h:l=[])(e:m.length=l.length):[]=m:=by
 subst h;exact (aX e).symm
theorem TZ{b:Bool}(h:(!b)=true): ¬ b=true:=by cases b<;>simp_all
theorem Xq(c:Co)(nb:Nat)(hok:c.ok nb)(hb:nb+20≤890000)(hr:fS c=false):bX C0 25 [.agg (coL c)] (.agg (coL (kN c))):=by
 refine dc1 (bX.intro c1Ok Tryz.func25 rfl rfl (by kernel_rfl) rfl ?_);refine cSR<|rAl 0 rfl rfl<|rAl 1 rfl rfl<|rE 2<|bW<|cSR<|oR 1 rfl<|rCi rfl (Hj c nb hok omT)<|oR 1 rfl<|rE 5<|aW rfl (λ _=>?_) (λ h1=>by exact absurd (dH (rI h1)) (by rw[hr];decide));refine cSR<|oR 1 rfl<|rSx 1 (coL c) rfl rfl rfl<|rE 7<|cO ?_;rw[show kN c=c from if_neg (by rw[hr];decide)];exact fG rfl tvT rfl rfl
noncomputable def aaI:Code→Code
 | .seq a _=>a
 |c=>c
noncomputable def Vd:Code→Code
 | .seq _ b=>b
 |c=>c
noncomputable def Ve:Code:=(Vd (aaI (Vd (Vd (Vd (Vd (Vd (Vd (Tryz.f25.body.getD .skip)))))))))
abbrev ZY(c:Co):Stg→ASt:=λ z_=>match z_ with| .e0=>⟨slotsF [(2,.ptr 1 0),(9,vB (!(fS c))),(3,.ptr 7 0),(21,.agg [.clo 52 [] [],.clo 53 [] [],.clo 54 [] [],.clo 55 [] [],.clo 56 [] [],.clo 57 [] [],.clo 58 [] []]),(22,vI 0)],heapF [(1,.box zCo),(7,.box (mcX (s0 c) (.sl 17 ([]) false) (.sl 2 ((s0 c).fetched.map ftL) true) (.sl 2 ((s0 c).stores.map ptL) true) (.sl 9 ((s0 c).retired.map spL) true)))],23⟩| .o0=>⟨slotsF [(2,.ptr 1 0),(9,vB (!(fS c))),(3,.ptr 7 0),(21,.agg [.clo 52 [] [],.clo 53 [] [],.clo 54 [] [],.clo 55 [] [],.clo 56 [] [],.clo 57 [] [],.clo 58 [] []]),(22,vI 0)],heapF [(1,.box zCo),(7,.box (mcX (s0 c) (.osl 22 0 c.rob.length false) (.sl 2 ((s0 c).fetched.map ftL) true) (.sl 2 ((s0 c).stores.map ptL) true) (.sl 9 ((s0 c).retired.map spL) true))),(22,.arr ((([]:List Ent)++(s0 c).rob++[]).map enL) 17)],23⟩| .e1=>⟨slotsF [(2,.ptr 1 0),(9,vB (!(fS c))),(3,.ptr 7 0),(21,.agg [.clo 52 [] [],.clo 53 [] [],.clo 54 [] [],.clo 55 [] [],.clo 56 [] [],.clo 57 [] [],.clo 58 [] []]),(22,vI 1)],heapF [(1,.box zCo),(7,.box (mcX (s1 c) (.sl 17 ([]) false) (.sl 2 ((s1 c).fetched.map ftL) true) (.sl 2 ((s1 c).stores.map ptL) true) (.sl 9 ((s1 c).retired.map spL) true)))],23⟩| .o1=>⟨slotsF [(2,.ptr 1 0),(9,vB (!(fS c))),(3,.ptr 7 0),(21,.agg [.clo 52 [] [],.clo 53 [] [],.clo 54 [] [],.clo 55 [] [],.clo 56 [] [],.clo 57 [] [],.clo 58 [] []]),(22,vI 1)],heapF [(1,.box zCo),(7,.box (mcX (s1 c) (.osl 22 0 c.rob.length false) (.sl 2 ((s1 c).fetched.map ftL) true) (.sl 2 ((s1 c).stores.map ptL) true) (.sl 9 ((s1 c).retired.map spL) true))),(22,.arr ((([]:List Ent)++(s1 c).rob++[]).map enL) 17)],23⟩| .e2=>⟨slotsF [(2,.ptr 1 0),(9,vB (!(fS c))),(3,.ptr 7 0),(21,.agg [.clo 52 [] [],.clo 53 [] [],.clo 54 [] [],.clo 55 [] [],.clo 56 [] [],.clo 57 [] [],.clo 58 [] []]),(22,vI 2)],heapF [(1,.box zCo),(7,.box (mcX (s2 c) (.sl 17 ([]) false) (.sl 2 ((s2 c).fetched.map ftL) true) (.sl 2 ((s2 c).stores.map ptL) true) (.sl 9 ((s2 c).retired.map spL) true)))],23⟩| .o2 A B kk=>⟨slotsF [(2,.ptr 1 0),(9,vB (!(fS c))),(3,.ptr 7 0),(21,.agg [.clo 52 [] [],.clo 53 [] [],.clo 54 [] [],.clo 55 [] [],.clo 56 [] [],.clo 57 [] [],.clo 58 [] []]),(22,vI 2)],heapF [(1,.box zCo),(7,.box (mcX (s2 c) (.osl 22 A.length ((s2 c).rob.length) kk) (.sl 2 ((s2 c).fetched.map ftL) true) (.sl 2 ((s2 c).stores.map ptL) true) (.sl 9 ((s2 c).retired.map spL) true))),(22,.arr ((A++(s2 c).rob++B).map enL) 17)],23⟩| .e3=>⟨slotsF [(2,.ptr 1 0),(9,vB (!(fS c))),(3,.ptr 7 0),(21,.agg [.clo 52 [] [],.clo 53 [] [],.clo 54 [] [],.clo 55 [] [],.clo 56 [] [],.clo 57 [] [],.clo 58 [] []]),(22,vI 3)],heapF [(1,.box zCo),(7,.box (mcX (s3 c) (.sl 17 ([]) false) (.sl 2 ((s3 c).fetched.map ftL) true) (.sl 2 ((s3 c).stores.map ptL) false) (.sl 9 ((s3 c).retired.map spL) false)))],23⟩| .o3 A B kk=>⟨slotsF [(2,.ptr 1 0),(9,vB (!(fS c))),(3,.ptr 7 0),(21,.agg [.clo 52 [] [],.clo 53 [] [],.clo 54 [] [],.clo 55 [] [],.clo 56 [] [],.clo 57 [] [],.clo 58 [] []]),(22,vI 3)],heapF [(1,.box zCo),(7,.box (mcX (s3 c) (.osl 22 A.length ((s3 c).rob.length) kk) (.sl 2 ((s3 c).fetched.map ftL) true) (.sl 2 ((s3 c).stores.map ptL) false) (.sl 9 ((s3 c).retired.map spL) false))),(22,.arr ((A++(s3 c).rob++B).map enL) 17)],23⟩| .s4=>⟨slotsF [(2,.ptr 1 0),(9,vB (!(fS c))),(3,.ptr 7 0),(21,.agg [.clo 52 [] [],.clo 53 [] [],.clo 54 [] [],.clo 55 [] [],.clo 56 [] [],.clo 57 [] [],.clo 58 [] []]),(22,vI 4)],heapF [(1,.box zCo),(7,.box (mcX (s4 c) (.sl 17 ((s4 c).rob.map enL) false) (.sl 2 ((s4 c).fetched.map ftL) true) (.sl 2 ((s4 c).stores.map ptL) false) (.sl 9 ((s4 c).retired.map spL) false)))],23⟩| .s5=>⟨slotsF [(2,.ptr 1 0),(9,vB (!(fS c))),(3,.ptr 7 0),(21,.agg [.clo 52 [] [],.clo 53 [] [],.clo 54 [] [],.clo 55 [] [],.clo 56 [] [],.clo 57 [] [],.clo 58 [] []]),(22,vI 5)],heapF [(1,.box zCo),(7,.box (mcX (s5 c) (.sl 17 ((s5 c).rob.map enL) false) (.sl 2 ((s5 c).fetched.map ftL) true) (.sl 2 ((s5 c).stores.map ptL) false) (.sl 9 ((s5 c).retired.map spL) false)))],23⟩| .s6=>⟨slotsF [(2,.ptr 1 0),(9,vB (!(fS c))),(3,.ptr 7 0),(21,.agg [.clo 52 [] [],.clo 53 [] [],.clo 54 [] [],.clo 55 [] [],.clo 56 [] [],.clo 57 [] [],.clo 58 [] []]),(22,vI 6)],heapF [(1,.box zCo),(7,.box (mcX (s6 c) (.sl 17 ((s6 c).rob.map enL) false) (.sl 2 ((s6 c).fetched.map ftL) false) (.sl 2 ((s6 c).stores.map ptL) false) (.sl 9 ((s6 c).retired.map spL) false)))],23⟩| .s7=>⟨slotsF [(2,.ptr 1 0),(9,vB (!(fS c))),(3,.ptr 7 0),(21,.agg [.clo 52 [] [],.clo 53 [] [],.clo 54 [] [],.clo 55 [] [],.clo 56 [] [],.clo 57 [] [],.clo 58 [] []]),(22,vI 7)],heapF [(1,.box zCo),(7,.box (mcX (s7 c) (.sl 17 ((s7 c).rob.map enL) false) (.sl 2 ((s7 c).fetched.map ftL) false) (.sl 2 ((s7 c).stores.map ptL) false) (.sl 9 ((s7 c).retired.map spL) false)))],23⟩
abbrev ZZ(c:Co):Stg→Prop:=λ z_=>match z_ with| .e0=>(s0 c).rob=[]| .e1=>(s1 c).rob=[]| .e2=>(s2 c).rob=[]| .e3=>(s3 c).rob=[]| .o2 A B _=>A.length+(s2 c).rob.length+B.length≤1000| .o3 A B _=>A.length+(s3 c).rob.length+B.length≤1000|_=>True
abbrev aaJ:Stg→Nat:=λ z_=>match z_ with| .e0| .o0=>7| .e1| .o1=>6| .e2| .o2 _ _ _=>5| .e3| .o3 _ _ _=>4| .s4=>3| .s5=>2| .s6=>1| .s7=>0
theorem LD(c:Co)(nb:Nat)(hm:c.okM nb)(hb:nb+20≤890000)(hk:StepOk c nb){Q:AEx→ASt→Prop}(hQ:∀ st' σ',Weak st' ⟨slotsF [(2,.ptr 1 0),(3,.ptr 7 0)],heapF [(1,.box zCo),(7,.box (mcX (s7 c) (.sl 17 ((s7 c).rob.map enL) false) (.sl 2 ((s7 c).fetched.map ftL) false) (.sl 2 ((s7 c).stores.map ptL) false) (.sl 9 ((s7 c).retired.map spL) false)))],23⟩ σ'→Q .normal st')(z0:Stg)(hz:ZZ c z0){st:ASt}(σ:Nat→Nat)(hW:Weak st (ZY c z0) σ):fY C1 (bX C1) Ve st Q:=by
 refine bK<|rY (κ:=Stg) (ZY c) (ZZ c) aaJ z0 (σ) hW rfl hz ?_;intro z_ hq;rcases z_ with _|_|_|_|_|⟨A,B,kk⟩|_|⟨A,B,kk⟩|_|_|_|_
 ·have hG:(s0 c).rob=[]:=hq;refine cSR<|rV (vB true) rfl<|rE 24<|bW<|aW rfl (λ _=>?_) (λ h=>by cases h);refine bB<|bW<|bK<|cSR<|nW (.clo 52 [] []) rfl rfl (⟨by decide,by decide⟩)<|oR 1 rfl<|rE 26<|cRg<|oR 1 rfl<|fW _ rfl rfl rfl ((Vg (s0 c) nb hk.k0 hG true true true ((s0 c).fetched.map ftL) ((s0 c).retired.map spL)).frameB (λ _=>7) _ _ rfl ⟨⟨rfl,rfl,rfl,rfl⟩,trivial⟩ rfl rfl rfl rfl) ?_;rintro _ _ ⟨rfl,rfl⟩;refine rE 28<|cRg<|rV (vI 1) rfl<|oR 1 rfl<|rE 30<|.mk _ (.refl _) ⟨.e1,λ i=>i,Weak.of_lists _ wT ⟨⟨rfl,rfl,rfl⟩,⟨rfl,(Hb (c:=s1 c) rfl (congrArg (λ z:List Ft=>AV.sl 2 (z.map ftL) true) (show (s0 c).fetched=(s1 c).fetched from ((qR (s0 c)).1).symm)) (congrArg (λ z:List Pt=>AV.sl 2 (z.map ptL) true) (show (s0 c).stores=(s1 c).stores from ((qR (s0 c)).2.1).symm)) (congrArg (λ z:List Sp=>AV.sl 9 (z.map spL) true) (show (s0 c).retired=(s1 c).retired from ((qR (s0 c)).2.2.1).symm))),rfl⟩,trivial⟩ rfl,rfl,(OL hG (qR (s0 c)).2.2.2).symm,by show (6:Nat)<7;decide⟩
 ·refine cSR<|rV (vB true) rfl<|rE 24<|bW<|aW rfl (λ _=>?_) (λ h=>by cases h);refine bB<|bW<|bK<|cSR<|nW (.clo 52 [] []) rfl rfl (⟨by decide,by decide⟩)<|oR 1 rfl<|rE 26<|cRg<|oR 1 rfl<|fW _ rfl rfl rfl ((Xw (s0 c) nb hk.k0 [] [] 0 c.rob.length false rfl rfl (by have:=hm.rob;simpa using this) true true true ((s0 c).fetched.map ftL) ((s0 c).retired.map spL)).frameB2 (λ z=>match z with|0=>7|_=>22) _ _ rfl ⟨⟨rfl,rfl,rfl,rfl⟩,⟨rfl,rfl,rfl,rfl⟩,trivial⟩ rfl rfl rfl rfl rfl) ?_;rintro _ _ ⟨rfl,rfl⟩;refine rE 28<|cRg<|rV (vI 1) rfl<|oR 1 rfl<|rE 30<|.mk _ (.refl _) ⟨.o1,λ i=>i,Weak.of_lists _ wT ⟨⟨rfl,rfl,rfl⟩,⟨rfl,(Hb (c:=s1 c) rfl (congrArg (λ z:List Ft=>AV.sl 2 (z.map ftL) true) (show (s0 c).fetched=(s1 c).fetched from ((qR (s0 c)).1).symm)) (congrArg (λ z:List Pt=>AV.sl 2 (z.map ptL) true) (show (s0 c).stores=(s1 c).stores from ((qR (s0 c)).2.1).symm)) (congrArg (λ z:List Sp=>AV.sl 9 (z.map spL) true) (show (s0 c).retired=(s1 c).retired from ((qR (s0 c)).2.2.1).symm))),rfl⟩,⟨rfl,rfl,rfl⟩,trivial⟩ rfl,rfl,trivial,by show (6:Nat)<7;decide⟩
 ·have hG:(s1 c).rob=[]:=hq;refine cSR<|rV (vB true) rfl<|rE 24<|bW<|aW rfl (λ _=>?_) (λ h=>by cases h);refine bB<|bW<|bK<|cSR<|nW (.clo 53 [] []) rfl rfl (⟨by decide,by decide⟩)<|oR 1 rfl<|rE 26<|cRg<|oR 1 rfl<|fW _ rfl rfl rfl (OM (Vj (s1 c) (nb+1) hk.k1 hG true true ((s1 c).stores.map ptL) ((s1 c).retired.map spL)) 7 _ _ ⟨⟨rfl,rfl,rfl,rfl⟩,trivial⟩) ?_;rintro _ _ ⟨rfl,⟨hz,rfl⟩|⟨_,A,B,kk,rfl|rfl,hl,rfl⟩⟩
  ·refine rE 28<|cRg<|rV (vI 2) rfl<|oR 1 rfl<|rE 30<|.mk _ (.refl _) ⟨.e2,λ i=>i,Weak.of_lists _ wT ⟨⟨rfl,rfl,rfl⟩,⟨rfl,(Hb (c:=s2 c) rfl rfl (congrArg (λ z:List Pt=>AV.sl 2 (z.map ptL) true) (show (s1 c).stores=(s2 c).stores from ((lQ (s1 c)).1).symm)) (congrArg (λ z:List Sp=>AV.sl 9 (z.map spL) true) (show (s1 c).retired=(s2 c).retired from ((lQ (s1 c)).2).symm))),rfl⟩,trivial⟩ rfl,rfl,hz,by show (5:Nat)<6;decide⟩
  ·refine rE 28<|cRg<|rV (vI 2) rfl<|oR 1 rfl<|rE 30<|.mk _ (.refl _) ⟨(.o2 A B kk),λ i=>match i with|22=>27|i=>i,Weak.of_lists _ wT ⟨⟨rfl,rfl,rfl⟩,⟨rfl,(Hb (c:=s2 c) rfl rfl (congrArg (λ z:List Pt=>AV.sl 2 (z.map ptL) true) (show (s1 c).stores=(s2 c).stores from ((lQ (s1 c)).1).symm)) (congrArg (λ z:List Sp=>AV.sl 9 (z.map spL) true) (show (s1 c).retired=(s2 c).retired from ((lQ (s1 c)).2).symm))),rfl⟩,⟨rfl,rfl,rfl⟩,trivial⟩ rfl,rfl,hl,by show (5:Nat)<6;decide⟩
  ·refine rE 28<|cRg<|rV (vI 2) rfl<|oR 1 rfl<|rE 30<|.mk _ (.refl _) ⟨(.o2 A B kk),λ i=>match i with|22=>27|i=>i,Weak.of_lists _ wT ⟨⟨rfl,rfl,rfl⟩,⟨rfl,(Hb (c:=s2 c) rfl rfl (congrArg (λ z:List Pt=>AV.sl 2 (z.map ptL) true) (show (s1 c).stores=(s2 c).stores from ((lQ (s1 c)).1).symm)) (congrArg (λ z:List Sp=>AV.sl 9 (z.map spL) true) (show (s1 c).retired=(s2 c).retired from ((lQ (s1 c)).2).symm))),rfl⟩,⟨rfl,rfl,rfl⟩,trivial⟩ rfl,rfl,hl,by show (5:Nat)<6;decide⟩
 ·refine cSR<|rV (vB true) rfl<|rE 24<|bW<|aW rfl (λ _=>?_) (λ h=>by cases h);refine bB<|bW<|bK<|cSR<|nW (.clo 53 [] []) rfl rfl (⟨by decide,by decide⟩)<|oR 1 rfl<|rE 26<|cRg<|oR 1 rfl<|fW _ rfl rfl rfl (ON (Vc (s1 c) (nb+1) hk.k1 [] [] 0 c.rob.length false rfl (qR (s0 c)).2.2.2 (by have:=hm.rob;simpa using this) (λ x h=>by cases h) (λ x h=>by cases h) true true ((s1 c).stores.map ptL) ((s1 c).retired.map spL)) 7 22 _ _ ⟨⟨rfl,rfl,rfl,rfl⟩,⟨rfl,rfl,rfl,rfl⟩,trivial⟩ (by decide)) ?_;rintro _ _ ⟨rfl,⟨hz,rfl⟩|⟨_,A,B,kk,rfl|rfl,hl,rfl⟩⟩
  ·refine rE 28<|cRg<|rV (vI 2) rfl<|oR 1 rfl<|rE 30<|.mk _ (.refl _) ⟨.e2,λ i=>i,Weak.of_lists _ wT ⟨⟨rfl,rfl,rfl⟩,⟨rfl,(Hb (c:=s2 c) rfl rfl (congrArg (λ z:List Pt=>AV.sl 2 (z.map ptL) true) (show (s1 c).stores=(s2 c).stores from ((lQ (s1 c)).1).symm)) (congrArg (λ z:List Sp=>AV.sl 9 (z.map spL) true) (show (s1 c).retired=(s2 c).retired from ((lQ (s1 c)).2).symm))),rfl⟩,trivial⟩ rfl,rfl,hz,by show (5:Nat)<6;decide⟩
  ·refine rE 28<|cRg<|rV (vI 2) rfl<|oR 1 rfl<|rE 30<|.mk _ (.refl _) ⟨(.o2 A B kk),λ i=>i,Weak.of_lists _ wT ⟨⟨rfl,rfl,rfl⟩,⟨rfl,(Hb (c:=s2 c) rfl rfl (congrArg (λ z:List Pt=>AV.sl 2 (z.map ptL) true) (show (s1 c).stores=(s2 c).stores from ((lQ (s1 c)).1).symm)) (congrArg (λ z:List Sp=>AV.sl 9 (z.map spL) true) (show (s1 c).retired=(s2 c).retired from ((lQ (s1 c)).2).symm))),rfl⟩,⟨rfl,rfl,rfl⟩,trivial⟩ rfl,rfl,hl,by show (5:Nat)<6;decide⟩
  ·refine rE 28<|cRg<|rV (vI 2) rfl<|oR 1 rfl<|rE 30<|.mk _ (.refl _) ⟨(.o2 A B kk),λ i=>match i with|22=>27|i=>i,Weak.of_lists _ wT ⟨⟨rfl,rfl,rfl⟩,⟨rfl,(Hb (c:=s2 c) rfl rfl (congrArg (λ z:List Pt=>AV.sl 2 (z.map ptL) true) (show (s1 c).stores=(s2 c).stores from ((lQ (s1 c)).1).symm)) (congrArg (λ z:List Sp=>AV.sl 9 (z.map spL) true) (show (s1 c).retired=(s2 c).retired from ((lQ (s1 c)).2).symm))),rfl⟩,⟨rfl,rfl,rfl⟩,trivial⟩ rfl,rfl,hl,by show (5:Nat)<6;decide⟩
 ·have hG:(s2 c).rob=[]:=hq;refine cSR<|rV (vB true) rfl<|rE 24<|bW<|aW rfl (λ _=>?_) (λ h=>by cases h);refine bB<|bW<|bK<|cSR<|nW (.clo 54 [] []) rfl rfl (⟨by decide,by decide⟩)<|oR 1 rfl<|rE 26<|cRg<|oR 1 rfl<|fW _ rfl rfl rfl (OM (OR (s2 c) (nb+1) hk.k2 hG) 7 _ _ ⟨⟨rfl,rfl,rfl,rfl⟩,trivial⟩) ?_;rintro _ _ ⟨rfl,⟨hz,rfl⟩|⟨_,A,B,kk,rfl|rfl,hl,rfl⟩⟩
  ·refine rE 28<|cRg<|rV (vI 3) rfl<|oR 1 rfl<|rE 30<|.mk _ (.refl _) ⟨.e3,λ i=>i,Weak.of_lists _ wT ⟨⟨rfl,rfl,rfl⟩,⟨rfl,(Hb (c:=s3 c) rfl rfl rfl rfl),rfl⟩,trivial⟩ rfl,rfl,hz,by show (4:Nat)<5;decide⟩
  ·refine rE 28<|cRg<|rV (vI 3) rfl<|oR 1 rfl<|rE 30<|.mk _ (.refl _) ⟨(.o3 A B kk),λ i=>match i with|22=>27|i=>i,Weak.of_lists _ wT ⟨⟨rfl,rfl,rfl⟩,⟨rfl,(Hb (c:=s3 c) rfl rfl rfl rfl),rfl⟩,⟨rfl,rfl,rfl⟩,trivial⟩ rfl,rfl,hl,by show (4:Nat)<5;decide⟩
  ·refine rE 28<|cRg<|rV (vI 3) rfl<|oR 1 rfl<|rE 30<|.mk _ (.refl _) ⟨(.o3 A B kk),λ i=>match i with|22=>27|i=>i,Weak.of_lists _ wT ⟨⟨rfl,rfl,rfl⟩,⟨rfl,(Hb (c:=s3 c) rfl rfl rfl rfl),rfl⟩,⟨rfl,rfl,rfl⟩,trivial⟩ rfl,rfl,hl,by show (4:Nat)<5;decide⟩
 ·have hG:A.length+(s2 c).rob.length+B.length≤1000:=hq;refine cSR<|rV (vB true) rfl<|rE 24<|bW<|aW rfl (λ _=>?_) (λ h=>by cases h);refine bB<|bW<|bK<|cSR<|nW (.clo 54 [] []) rfl rfl (⟨by decide,by decide⟩)<|oR 1 rfl<|rE 26<|cRg<|oR 1 rfl<|fW _ rfl rfl rfl (ON (Se (s2 c) (nb+1) hk.k2 omT A B A.length (s2 c).rob.length kk rfl rfl hG) 7 22 _ _ ⟨⟨rfl,rfl,rfl,rfl⟩,⟨rfl,rfl,rfl,rfl⟩,trivial⟩ (by decide)) ?_;rintro _ _ ⟨rfl,⟨hz,rfl⟩|⟨_,A,B,kk,rfl|rfl,hl,rfl⟩⟩
  ·refine rE 28<|cRg<|rV (vI 3) rfl<|oR 1 rfl<|rE 30<|.mk _ (.refl _) ⟨.e3,λ i=>i,Weak.of_lists _ wT ⟨⟨rfl,rfl,rfl⟩,⟨rfl,(Hb (c:=s3 c) rfl rfl rfl rfl),rfl⟩,trivial⟩ rfl,rfl,hz,by show (4:Nat)<5;decide⟩
  ·refine rE 28<|cRg<|rV (vI 3) rfl<|oR 1 rfl<|rE 30<|.mk _ (.refl _) ⟨(.o3 A B kk),λ i=>i,Weak.of_lists _ wT ⟨⟨rfl,rfl,rfl⟩,⟨rfl,(Hb (c:=s3 c) rfl rfl rfl rfl),rfl⟩,⟨rfl,rfl,rfl⟩,trivial⟩ rfl,rfl,hl,by show (4:Nat)<5;decide⟩
  ·refine rE 28<|cRg<|rV (vI 3) rfl<|oR 1 rfl<|rE 30<|.mk _ (.refl _) ⟨(.o3 A B kk),λ i=>match i with|22=>27|i=>i,Weak.of_lists _ wT ⟨⟨rfl,rfl,rfl⟩,⟨rfl,(Hb (c:=s3 c) rfl rfl rfl rfl),rfl⟩,⟨rfl,rfl,rfl⟩,trivial⟩ rfl,rfl,hl,by show (4:Nat)<5;decide⟩
 ·have hG:(s3 c).rob=[]:=hq;refine cSR<|rV (vB true) rfl<|rE 24<|bW<|aW rfl (λ _=>?_) (λ h=>by cases h);refine bB<|bW<|bK<|cSR<|nW (.clo 55 [] []) rfl rfl (⟨by decide,by decide⟩)<|oR 1 rfl<|rE 26<|cRg<|oR 1 rfl<|fW _ rfl rfl rfl ((Sf (s3 c) (nb+5) hk.k3 hG true false false ((s3 c).fetched.map ftL) ((s3 c).retired.map spL)).frameB (λ _=>7) _ _ rfl ⟨⟨rfl,rfl,rfl,rfl⟩,trivial⟩ rfl rfl rfl rfl) ?_;rintro _ _ ⟨rfl,rfl⟩;refine rE 28<|cRg<|rV (vI 4) rfl<|oR 1 rfl<|rE 30<|.mk _ (.refl _) ⟨.s4,λ i=>i,Weak.of_lists _ wT ⟨⟨rfl,rfl,rfl⟩,⟨rfl,(Hb (c:=s4 c) (congrArg (λ z:List Ent=>AV.sl 17 (z.map enL) false) (OL hG (nN hk.k3 omT).1)) (congrArg (λ z:List Ft=>AV.sl 2 (z.map ftL) true) (show (s3 c).fetched=(s4 c).fetched from ((nN hk.k3 omT).2.2.1).symm)) rfl (congrArg (λ z:List Sp=>AV.sl 9 (z.map spL) false) (show (s3 c).retired=(s4 c).retired from ((nN hk.k3 omT).2.2.2).symm))),rfl⟩,trivial⟩ rfl,rfl,trivial,by show (3:Nat)<4;decide⟩
 ·have hG:A.length+(s3 c).rob.length+B.length≤1000:=hq;refine cSR<|rV (vB true) rfl<|rE 24<|bW<|aW rfl (λ _=>?_) (λ h=>by cases h);refine bB<|bW<|bK<|cSR<|nW (.clo 55 [] []) rfl rfl (⟨by decide,by decide⟩)<|oR 1 rfl<|rE 26<|cRg<|oR 1 rfl<|fW _ rfl rfl rfl ((Vl (s3 c) (nb+5) hk.k3 omT A B A.length (s3 c).rob.length kk true false false ((s3 c).fetched.map ftL) ((s3 c).retired.map spL) rfl rfl hG).frameB2 (λ z=>match z with|0=>7|_=>22) _ _ rfl ⟨⟨rfl,rfl,rfl,rfl⟩,⟨rfl,rfl,rfl,rfl⟩,trivial⟩ rfl rfl rfl rfl rfl) ?_;rintro _ _ ⟨rfl,rfl⟩;refine rE 28<|cRg<|rV (vI 4) rfl<|oR 1 rfl<|rE 30<|.mk _ (.step (some (22,17,(A++(s4 c).rob++B).map enL)) (Ghost.of_lists (l:=[(2,.ptr 1 0),(9,vB (!(fS c))),(3,.ptr 7 0),(21,.agg [.clo 52 [] [],.clo 53 [] [],.clo 54 [] [],.clo 55 [] [],.clo 56 [] [],.clo 57 [] [],.clo 58 [] []]),(22,vI 4)]) (hp:=[(1,.box zCo),(7,.box (mcX (s4 c) (.sl 17 ((((A++(s4 c).rob++B).drop A.length).take (s3 c).rob.length).map enL) false) (.sl 2 ((s3 c).fetched.map ftL) true) (.sl 2 ((s4 c).stores.map ptL) false) (.sl 9 ((s3 c).retired.map spL) false)))]) rfl rfT ⟨⟨rfl,_,rfl,.refl _⟩,⟨rfl,_,rfl,LeB.boxL (qO (Ht (by simp only[aV];have:=(nN hk.k3 omT).1;show A.length+(s3 c).rob.length≤A.length+(eQ (s3 c)).rob.length+B.length;omega)) (.refl _) (.refl _) (.refl _))⟩,trivial⟩) (.refl _)) ⟨.s4,λ i=>i,Weak.of_lists _ wT ⟨⟨rfl,rfl,rfl⟩,⟨rfl,(Hb (c:=s4 c) (congrArg (λ z:List Ent=>AV.sl 17 (z.map enL) false) (OP rfl (nN hk.k3 omT).1)) (congrArg (λ z:List Ft=>AV.sl 2 (z.map ftL) true) (show (s3 c).fetched=(s4 c).fetched from ((nN hk.k3 omT).2.2.1).symm)) rfl (congrArg (λ z:List Sp=>AV.sl 9 (z.map spL) false) (show (s3 c).retired=(s4 c).retired from ((nN hk.k3 omT).2.2.2).symm))),rfl⟩,trivial⟩ rfl,rfl,trivial,by show (3:Nat)<4;decide⟩
 ·refine cSR<|rV (vB true) rfl<|rE 24<|bW<|aW rfl (λ _=>?_) (λ h=>by cases h);refine bB<|bW<|bK<|cSR<|nW (.clo 56 [] []) rfl rfl (⟨by decide,by decide⟩)<|oR 1 rfl<|rE 26<|cRg<|oR 1 rfl<|fW _ rfl rfl rfl ((Vn (s4 c) (nb+7) hk.k4 false ((s4 c).stores.map ptL) false ((s4 c).retired.map spL)).frameB (λ _=>7) _ _ rfl ⟨⟨rfl,rfl,rfl,rfl⟩,trivial⟩ rfl rfl rfl rfl) ?_;rintro _ _ ⟨rfl,rfl⟩;refine rE 28<|cRg<|rV (vI 5) rfl<|oR 1 rfl<|rE 30<|.mk _ (.refl _) ⟨.s5,λ i=>i,Weak.of_lists _ wT ⟨⟨rfl,rfl,rfl⟩,⟨rfl,(Hb (c:=s5 c) rfl rfl (congrArg (λ z:List Pt=>AV.sl 2 (z.map ptL) false) (show (s4 c).stores=(s5 c).stores from ((zC hk.k4).2.1).symm)) (congrArg (λ z:List Sp=>AV.sl 9 (z.map spL) false) (show (s4 c).retired=(s5 c).retired from ((zC hk.k4).2.2).symm))),rfl⟩,trivial⟩ rfl,rfl,trivial,by show (2:Nat)<3;decide⟩
 ·refine cSR<|rV (vB true) rfl<|rE 24<|bW<|aW rfl (λ _=>?_) (λ h=>by cases h);refine bB<|bW<|bK<|cSR<|nW (.clo 57 [] []) rfl rfl (⟨by decide,by decide⟩)<|oR 1 rfl<|rE 26<|cRg<|oR 1 rfl<|fW _ rfl rfl rfl ((Sh (s5 c) (nb+7) hk.k5 false ((s5 c).rob.map enL) false ((s5 c).stores.map ptL) false ((s5 c).retired.map spL)).frameB (λ _=>7) _ _ rfl ⟨⟨rfl,rfl,rfl,rfl⟩,trivial⟩ rfl rfl rfl rfl) ?_;rintro _ _ ⟨rfl,rfl⟩;refine rE 28<|cRg<|rV (vI 6) rfl<|oR 1 rfl<|rE 30<|.mk _ (.refl _) ⟨.s6,λ i=>i,Weak.of_lists _ wT ⟨⟨rfl,rfl,rfl⟩,⟨rfl,(Hb (c:=s6 c) (congrArg (λ z:List Ent=>AV.sl 17 (z.map enL) false) (show (s5 c).rob=(s6 c).rob from ((tZ hk.k5 omT).2.2.2).symm)) rfl (congrArg (λ z:List Pt=>AV.sl 2 (z.map ptL) false) (show (s5 c).stores=(s6 c).stores from ((tZ hk.k5 omT).2.1).symm)) (congrArg (λ z:List Sp=>AV.sl 9 (z.map spL) false) (show (s5 c).retired=(s6 c).retired from ((tZ hk.k5 omT).2.2.1).symm))),rfl⟩,trivial⟩ rfl,rfl,trivial,by show (1:Nat)<2;decide⟩
 ·refine cSR<|rV (vB true) rfl<|rE 24<|bW<|aW rfl (λ _=>?_) (λ h=>by cases h);refine bB<|bW<|bK<|cSR<|nW (.clo 58 [] []) rfl rfl (⟨by decide,by decide⟩)<|oR 1 rfl<|rE 26<|cRg<|oR 1 rfl<|fW _ rfl rfl rfl ((Vp (s6 c) (nb+8) hk.k6 omT false ((s6 c).rob.map enL) false ((s6 c).fetched.map ftL) false ((s6 c).retired.map spL)).frameB (λ _=>7) _ _ rfl ⟨⟨rfl,rfl,rfl,rfl⟩,trivial⟩ rfl rfl rfl rfl) ?_;rintro _ _ ⟨rfl,rfl⟩;refine rE 28<|cRg<|rV (vI 7) rfl<|oR 1 rfl<|rE 30<|.mk _ (.refl _) ⟨.s7,λ i=>i,Weak.of_lists _ wT ⟨⟨rfl,rfl,rfl⟩,⟨rfl,(Hb (c:=s7 c) (congrArg (λ z:List Ent=>AV.sl 17 (z.map enL) false) (show (s6 c).rob=(s7 c).rob from ((vS hk.k6 omT).2.2.2).symm)) (congrArg (λ z:List Ft=>AV.sl 2 (z.map ftL) false) (show (s6 c).fetched=(s7 c).fetched from ((vS hk.k6 omT).2.1).symm)) rfl (congrArg (λ z:List Sp=>AV.sl 9 (z.map spL) false) (show (s6 c).retired=(s7 c).retired from ((vS hk.k6 omT).2.2.1).symm))),rfl⟩,trivial⟩ rfl,rfl,trivial,by show (0:Nat)<1;decide⟩
 ·refine cSR<|rV (vB false) rfl<|rE 24<|bW<|aW rfl (λ h=>by cases h) (λ _=>?_);refine eE ?_;exact hQ _ (λ s=>s) (Weak.of_lists (λ s=>s) wT wH rfl)
theorem Xr(c:Co)(nb:Nat)(hok:c.ok nb)(hb:nb+20≤890000)(hr:fS c=true)(h0:c.rob=[]):bX C0 25 [.agg (coL c)] (.agg (coL (kN c))):=by
 refine dc1 (bX.intro c1Ok Tryz.func25 rfl rfl (by kernel_rfl) rfl ?_);have hm:=zA hok omT hr;have hk:=IR hm hb;refine cSR<|rAl 0 rfl rfl<|rAl 1 rfl rfl<|rE 2<|bW<|cSR<|oR 1 rfl<|rCi rfl (Hj c nb hok omT)<|oR 1 rfl<|rE 5<|aW rfl (λ h1=>by exact absurd hr (TZ h1)) (λ _=>?_);refine bB<|cSR<|oR 1 rfl<|rV (.agg (coL c)) rfl<|rAl 7 rfl rfl<|rSx 7 (coL c) rfl rfl rfl<|rE 9<|cSR<|fW _ rfl rfl rfl ((show pV C0.P C0.G 51 [.ptr 0 0] (heapF [(0,.box (mcX c (.sl 17 (c.rob.map enL) false) (.sl 2 (c.fetched.map ftL) false) (.sl 2 (c.stores.map ptL) false) (.sl 9 (c.retired.map spL) false)))]) 1 _ from by rw[h0];exact ZJ c nb hm false false false false).frameB (λ _=>7) _ _ rfl ⟨⟨rfl,rfl,rfl,rfl⟩,trivial⟩ rfl rfl rfl rfl) ?_;rintro _ _ ⟨rfl,rfl⟩;refine rE 10<|cSR<|oR 3 rfl<|rW (vI (wrap64 (c.cycle+1))) rfl (okI (w64 _))<|oR 2 rfl<|rSx 7 (mcX ({c with cycle:=wrap64 (c.cycle+1)}:Co) (.sl 17 ([]) false) (.sl 2 (c.fetched.map ftL) true) (.sl 2 (c.stores.map ptL) true) (.sl 9 (c.retired.map spL) true)) rfl rfl rfl<|rE 17<|cSR<|rV (.agg [.clo 52 [] [],.clo 53 [] [],.clo 54 [] [],.clo 55 [] [],.clo 56 [] [],.clo 57 [] [],.clo 58 [] []]) rfl<|rAl 18 rfl rfl<|rSt rfl<|rE 20<|Es (κ:=Unit) (λ u_=>⟨slotsF [(2,.ptr 1 0),(3,.ptr 7 0)],heapF [(1,.box zCo),(7,.box (mcX (s7 c) (.sl 17 ((s7 c).rob.map enL) false) (.sl 2 ((s7 c).fetched.map ftL) false) (.sl 2 ((s7 c).stores.map ptL) false) (.sl 9 ((s7 c).retired.map spL) false)))],23⟩) (λ u_=>True) ?_ ?_
 ·refine cSR<|oR 2 rfl<|rE 22<|LD c nb hm hb hk ?_ .e0 h0 (λ s=>s) (Weak.of_lists (λ s=>s) wT wH rfl);intro st' σ h;exact .mk _ (.refl _) ⟨(),σ,h,rfl,trivial⟩
 ·intro u_ _;refine cSR<|oR 2 rfl<|rSx 1 (mcX (s7 c) (.sl 17 ((s7 c).rob.map enL) false) (.sl 2 ((s7 c).fetched.map ftL) false) (.sl 2 ((s7 c).stores.map ptL) false) (.sl 9 ((s7 c).retired.map spL) false)) rfl rfl rfl<|rE 26<|cO ?_;rw[show kN c=s7 c from if_pos hr];exact fG rfl tvT rfl rfl
theorem Xs(c:Co)(nb:Nat)(hok:c.ok nb)(hb:nb+20≤890000)(hr:fS c=true)(hne:c.rob≠[]):bX C0 25 [.agg (coL c)] (.agg (coL (kN c))):=by
 refine dc1 (bX.intro c1Ok Tryz.func25 rfl rfl (by kernel_rfl) rfl ?_);have hm:=zA hok omT hr;have hk:=IR hm hb;refine cSR<|rAl 0 rfl rfl<|rAl 1 rfl rfl<|rE 2<|bW<|cSR<|oR 1 rfl<|rCi rfl (Hj c nb hok omT)<|oR 1 rfl<|rE 5<|aW rfl (λ h1=>by exact absurd hr (TZ h1)) (λ _=>?_);refine bB<|cSR<|oR 1 rfl<|rV (.agg (coL c)) rfl<|rAl 7 rfl rfl<|rSx 7 (coL c) rfl rfl rfl<|rE 9<|cSR<|fW _ rfl rfl rfl (Xu (YY c nb hm hne false false false false) 7 _ _ ⟨⟨rfl,rfl,rfl,rfl⟩,trivial⟩) ?_;rintro _ _ ⟨rfl,rfl⟩;refine rE 10<|cSR<|oR 3 rfl<|rW (vI (wrap64 (c.cycle+1))) rfl (okI (w64 _))<|oR 2 rfl<|rSx 7 (mcX ({c with cycle:=wrap64 (c.cycle+1)}:Co) (.osl 9 0 c.rob.length false) (.sl 2 (c.fetched.map ftL) true) (.sl 2 (c.stores.map ptL) true) (.sl 9 (c.retired.map spL) true)) rfl rfl rfl<|rE 17<|cSR<|rV (.agg [.clo 52 [] [],.clo 53 [] [],.clo 54 [] [],.clo 55 [] [],.clo 56 [] [],.clo 57 [] [],.clo 58 [] []]) rfl<|rAl 18 rfl rfl<|rSt rfl<|rE 20<|Es (κ:=Unit) (λ u_=>⟨slotsF [(2,.ptr 1 0),(3,.ptr 7 0)],heapF [(1,.box zCo),(7,.box (mcX (s7 c) (.sl 17 ((s7 c).rob.map enL) false) (.sl 2 ((s7 c).fetched.map ftL) false) (.sl 2 ((s7 c).stores.map ptL) false) (.sl 9 ((s7 c).retired.map spL) false)))],23⟩) (λ u_=>True) ?_ ?_
 ·refine cSR<|oR 2 rfl<|rE 22<|LD c nb hm hb hk ?_ .o0 trivial (λ i=>match i with|22=>9|i=>i) (Weak.of_lists (λ i=>match i with|22=>9|i=>i) wT ⟨⟨rfl,rfl,rfl⟩,⟨rfl,rfl,rfl⟩,⟨rfl,(by show some (Blk.arr (c.rob.map enL) 17)=some (Blk.arr (([]++c.rob++[]).map enL) 17);rw[iZ,dQ]),rfl⟩,trivial⟩ rfl);intro st' σ h;exact .mk _ (.refl _) ⟨(),σ,h,rfl,trivial⟩
 ·intro u_ _;refine cSR<|oR 2 rfl<|rSx 1 (mcX (s7 c) (.sl 17 ((s7 c).rob.map enL) false) (.sl 2 ((s7 c).fetched.map ftL) false) (.sl 2 ((s7 c).stores.map ptL) false) (.sl 9 ((s7 c).retired.map spL) false)) rfl rfl rfl<|rE 26<|cO ?_;rw[show kN c=s7 c from if_pos hr];exact fG rfl tvT rfl rfl
theorem Xt(c:Co)(nb:Nat)(hok:c.ok nb)(hb:nb+20≤890000):bX C0 25 [.agg (coL c)] (.agg (coL (kN c))):=by
 cases hr:fS c with
 |false=>exact Xq c nb hok hb hr
 |true=>
  by_cases h0:c.rob=[]
  ·exact Xr c nb hok hb hr h0
  ·exact Xs c nb hok hb hr h0
def EV(n:Int):Nat:=(min n 2000).toNat
theorem Xm(a b:Int):(if b<a then b else a)=min a b:=by split<;>omega
theorem Lz(a b:Int):(Av a b).ok:=by
 unfold Av;refine⟨?_,λ s hs=>?_⟩
 ·have h:(if bH a 1 4=3 then 2 else bH a 1 4).toNat≤4:=by unfold bH;(repeat' split)<;>omega
  show (List.replicate _ _).length≤_;rw[cR];omega
 ·rw[gH hs];exact⟨aE _,λ x hx=>by cases hx⟩
theorem RV:XX.ok:=by
 refine⟨by decide,by decide,by decide,?_,?_⟩
 ·intro x hx;have:x=⟨0,0⟩:=gH (n:=8) hx;subst this;exact⟨aE _,aE _⟩
 ·intro x hx;cases hx
theorem GZ(c:Cf)(prog:List Nat)(m:ByteArray)(hc:c.ok)(hp:∀ x∈prog,x≤4294967295):(fN c prog m).ok 0:=by
 have hm:(qK m).size≤256:=by
  rw[yF];unfold upS;repeat' split
  all_goals omega
 have hl:(prog.take (min prog.length 64)).length≤9223372036854775807:=by rw[aN];omega
 refine⟨⟨aM (Pr c) (by decide),aM (Nd c) (by decide),Hm hc.tp⟩,hl,xV (P:=λ x=>x≤4294967295) hp,λ _=>aE _,aE _,aE _,(λ x hx=>by cases hx),aE _,(λ x hx=>by cases hx),aE _,(λ x hx=>by cases hx),Lz _ _,Lz _ _,aE _,(λ x hx=>by cases hx),(by show (0:Int)≤9223372036854775807;decide),(by show (0:Int)≤9223372036854775807;decide),?_,RV,aE _,(λ x hx=>by cases hx)⟩;show (qK m).size≤1000000;omega
theorem vR{c:Co}{n:Nat}(h:c.ok n):∀ k,n+10 * k+20≤890000→(jG c k).ok (n+10 * k)
 |0,_=>h
 |k+1,hb=>by
  have ih:=wN (vR h k omT) omT;rw[show n+10 * (k+1)=n+10 * k+10 by omega];exact ih
open Go.RowKit Go.ChangeShapes Go.WideShapes Go.ChangeAt Go.Deep
theorem RU{n:Int}(h:(Lit.int .u32 n).wf=true):∃ m:Nat,n=m∧m≤4294967295:=by
 simp only[Lit.wf,IntKind.min,IntKind.max,IntKind.signed,IntKind.bits,aI,aP]at h;simp at h;exact⟨n.toNat,by omega,by omega⟩
theorem Bp{cs:List AV}(h:TyV Tryz.prog 3 cs):∃ n:Int,cs=[.v (.int .i64 n)]∧True:=by
 have hu:=Tryz.underlying3
 cases h with
 |int h n hn=>rw[hu]at h;injection h with h;injection h with h;subst h;exact⟨n,rfl,trivial⟩
 |bool h=>rw[hu]at h;cases h
 |string h=>rw[hu]at h;cases h
 |slice h=>rw[hu]at h;cases h
 |struct h=>rw[hu]at h;cases h
 |array h=>rw[hu]at h;cases h
theorem Xl{cs:List AV}(h:TyV Tryz.prog 26 cs):∃ n:Nat,cs=[.v (.int .u32 (n:Int))]∧n≤4294967295:=by
 have hu:=Tryz.underlying26
 cases h with
 |int h n hn=>
  rw[hu]at h;injection h with h;injection h with h;subst h;obtain⟨m,rfl,hm⟩:=RU hn
  exact⟨m,rfl,hm⟩
 |bool h=>rw[hu]at h;cases h
 |string h=>rw[hu]at h;cases h
 |slice h=>rw[hu]at h;cases h
 |struct h=>rw[hu]at h;cases h
 |array h=>rw[hu]at h;cases h
theorem UU{cs:List AV}(h:TyV Tryz.prog 4 cs):∃ b:Bool,cs=[.v (.bool b)]∧True:=by
 have hu:=Tryz.underlying4
 cases h with
 |bool h b=>exact⟨b,rfl,trivial⟩
 |int h=>rw[hu]at h;cases h
 |string h=>rw[hu]at h;cases h
 |slice h=>rw[hu]at h;cases h
 |struct h=>rw[hu]at h;cases h
 |array h=>rw[hu]at h;cases h
theorem OD{α:Type}{f:α→List AV}{p:α→Prop}:∀ (rows:List (List AV)),(∀ row∈rows,∃ x,row=f x∧p x)→∃ l:List α,rows=l.map f∧l.length=rows.length∧∀ x∈l,p x
 |[],_=>⟨[],rfl,rfl,λ x h=>by cases h⟩
 |row::rows,h=>by
  obtain⟨x,rfl,hx⟩:=h row (bD);obtain⟨l,rfl,hl,hp⟩:=OD rows λ r hr=>h r (bF _ hr);exact⟨x::l,rfl,by simp,λ y hy=>by rcases al_List_mem_cons.1 hy with rfl|hy;exact hx;exact hp y hy⟩
theorem Ly{α:Type}{t e:TypeId}{k:Nat}{f:α→List AV}{p:α→Prop}(hu:Tryz.prog.underlying t=some (.slice e))(hk:Tryz.prog.cellsOf e=k)(hrow:∀ row,TyV Tryz.prog e row→∃ x,row=f x∧p x){cs:List AV}(h:TyV Tryz.prog t cs):
  ∃ l:List α,cs=[.sl k (l.map f) false]∧l.length≤9223372036854775807∧∀ x∈l,p x:=by
 cases h with
 |slice h rows hl hr hrs=>
  rw[hu]at h;injection h with h;injection h with h;subst h;subst hk;obtain⟨l,rfl,h1,h2⟩:=OD rows λ row hrow'=>hrow row (hr row hrow')
  exact⟨l,rfl,aM (Nat.le_of_eq h1) (aM hl (by decide)),h2⟩
 |int h=>rw[hu]at h;cases h
 |bool h=>rw[hu]at h;cases h
 |string h=>rw[hu]at h;cases h
 |struct h=>rw[hu]at h;cases h
 |array h=>rw[hu]at h;cases h
theorem UV(row:List AV)(h:TyV Tryz.prog 26 row):∃ n:Nat,row=eX n∧n≤4294967295:=Xl h
theorem UW(row:List AV)(h:TyV Tryz.prog 3 row):∃ n:Int,row=iL n∧True:=Bp h
theorem OE{cs:List AV}(h:TyV Tryz.prog 23 cs):∃ l:List Nat,cs=[.sl 1 (l.map eX) false]∧l.length≤9223372036854775807∧∀ x∈l,(λ n:Nat=>n≤4294967295) x:=
 Ly (f:=eX) (p:=(λ n:Nat=>n≤4294967295)) Tryz.underlying23 (by kernel_rfl) (λ row hr=>UV _ hr) h
theorem UX{cs:List AV}(h:TyV Tryz.prog 22 cs):∃ l:List Int,cs=[.sl 1 (l.map iL) false]∧l.length≤9223372036854775807∧∀ x∈l,(λ (_:Int)=>True) x:=
 Ly (f:=iL) (p:=(λ (_:Int)=>True)) Tryz.underlying22 (by kernel_rfl) (λ row hr=>UW _ hr) h
theorem UY{cs:List AV}(h:TyV Tryz.prog 25 cs):∃ x:Cf,cs=cfL x false false∧x.okW:=by
 have hu:=Tryz.underlying25
 cases h with
 |bool h=>rw[hu]at h;cases h
 |int h=>rw[hu]at h;cases h
 |string h=>rw[hu]at h;cases h
 |slice h=>rw[hu]at h;cases h
 |array h=>rw[hu]at h;cases h
 |struct h parts hp=>
  rw[hu]at h;injection h with h;injection h with h;subst h;obtain⟨x0,e0,p0⟩:=Bp (hp 0 _ rfl);obtain⟨x1,e1,p1⟩:=Bp (hp 1 _ rfl);obtain⟨x2,e2,p2⟩:=Bp (hp 2 _ rfl);obtain⟨x3,e3,p3⟩:=Bp (hp 3 _ rfl);obtain⟨x4,e4,p4⟩:=Bp (hp 4 _ rfl);obtain⟨x5,e5,p5⟩:=Bp (hp 5 _ rfl);obtain⟨x6,e6,p6⟩:=Bp (hp 6 _ rfl);obtain⟨x7,e7,p7⟩:=Bp (hp 7 _ rfl);obtain⟨x8,e8,p8⟩:=UX (hp 8 _ rfl);obtain⟨x9,e9,p9⟩:=UU (hp 9 _ rfl);obtain⟨x10,e10,p10⟩:=OE (hp 10 _ rfl);refine⟨⟨x0,x1,x2,x3,x4,x5,x6,x7,x8,x9,x10⟩,?_,⟨p8.1,p10.1,p10.2⟩⟩;show parts 0++(parts 1++(parts 2++(parts 3++(parts 4++(parts 5++(parts 6++(parts 7++(parts 8++(parts 9++(parts 10++[]))))))))))=_;rw[e0,e1,e2,e3,e4,e5,e6,e7,e8,e9,e10];rfl
structure Co.okA(c:Co):Prop where
 conf:c.conf.okW
 prog:c.prog.length≤9223372036854775807
 progo:∀ x∈c.prog,x≤4294967295
 r:∀ k,c.r k≤4294967295
 fetch:c.fetch≤4294967295
 fet:c.fetched.length≤9223372036854775807
 feto:∀ x∈c.fetched,x.ok
 rob:c.rob.length≤9223372036854775807
 robo:∀ x∈c.rob,x.ok
 sto:c.stores.length≤9223372036854775807
 stoo:∀ x∈c.stores,x.ok
 data:c.data.ok
 words:c.words.ok
 bus:c.bus.length≤9223372036854775807
 buso:∀ x∈c.bus,x.ok
 asked:c.asked≤9223372036854775807
 guessed:c.guessed≤9223372036854775807
 mem:c.mem.size≤9223372036854775807
 guess:c.guess.ok
 ret:c.retired.length≤9223372036854775807
 reto:∀ x∈c.retired,x.ok
theorem OG{H:Type}{enc:TypeId×Value→H}{w:World}{base:Nat}{spare:Nat→Bool}{held:Bool}{r:Reach}{b0:Nat}{v:Value}{d:DataW H}{p:List MemPlace}
  (hv:Value.okWide Tryz.prog w r b0 25 v) (h:DataW.Trod enc Tryz.prog w base spare held 25 v d p):
  ∃ c:Cf,Rep (· <w.heap.size) w noB (.agg (cfL c false false)) v∧c.okW:=by
 obtain⟨cs,rfl,hsz⟩:=okWide_struct Tryz.underlying25 hv;obtain⟨fuel,hf⟩:=h;obtain⟨cells,ho⟩:=uS 6 fuel _ _ _ hf (by kernel_rfl);obtain⟨c,rfl,hc⟩:=UY ho.ty;refine⟨c,.agg _ cs ?_ (λ i u hu=>ho.one u ?_) (λ i a u h1 h2=>ho.rep.2 i a u h1 ?_),hc⟩
 ·exact ho.rep.1
 ·exact Ie.2 (nB hu)
 ·show cs.toList[i]?=some u;rw[bG];exact h2
theorem OH{H:Type}{enc:TypeId×Value→H}{w:World}{base:Nat}{spare:Nat→Bool}{held:Bool}{r:Reach}{b0:Nat}{v:Value}{d:DataW H}{p:List MemPlace}
  (hv:Value.okWide Tryz.prog w r b0 23 v) (h:DataW.Trod enc Tryz.prog w base spare held 23 v d p):
  ∃ l:List Nat,(∀ x∈l,x≤4294967295)∧l.length≤9223372036854775807∧Rep (· <w.heap.size) w noB (.sl 1 (l.map eX) false) v:=by
 obtain⟨a0,len,cap,rfl⟩:=okWide_slice Tryz.underlying23 hv;obtain⟨fuel,hf⟩:=h;obtain⟨cs,ho⟩:=uS 3 fuel _ _ _ hf (by kernel_rfl);obtain⟨l,rfl,h1,h2⟩:=OE ho.ty;exact⟨l,h2,h1,ho.rep.2 0 _ _ rfl rfl⟩
theorem OI{w:World}(h:DH w):0<w.heap.size:=by
 have:=h 0 (by decide);unfold World.cell? at this
 cases hq:w.heap[0]? with
 |none=>simp[hq]at this
 |some o=>exact (CZ.1 hq).1
theorem bX.law{f:FuncId}{args:List AV}{vs:List Value}{w:World}(h:bX C0 f args (.v (.bool true)))(hC:DH w)(ha:RepL (· <w.heap.size) w noB args vs):
  Calls Tryz.prog f vs.toArray w λ e w'=>e=.returned (.bool true)∧Below w.heap.size w w':=
 (h.2 (· <w.heap.size) w vs (λ _ h=>h) (aaT hC (OI hC)) ha).mono λ e w' ⟨v,h1,h2,h3⟩=>⟨by rw[h1,lK h3],h2⟩
open Go.RowKit Go.ChangeShapes Go.WideShapes
theorem To{P:Program}{w:World}{r:Reach}{base:Nat}{t:TypeId}{v:Value}(ht:P.underlying t=some .string)(h:Value.okWide P w r base t v):∃ s,v=.string s∧s.size<9223372036854775808:=by
 obtain⟨s,rfl⟩:=okWide_string ht h;refine⟨s,rfl,?_⟩;have h2:IntKind.i64.max=9223372036854775807:=rfl;have h3:(s.size:Int)≤IntKind.i64.max:=by simpa [Value.okWide,Cell.okWide,Cell.ok,ht]using h
 omega
end Go.Proofs.YtlhofpglndhfaaaGreatDoor
namespace Go.Proofs.YtlhofpglndhfaaaGreatDoor
open Go.RowKit
end Go.Proofs.YtlhofpglndhfaaaGreatDoor
set_option maxRecDepth 100000
set_option maxHeartbeats 4000000
namespace Go.Proofs.YtlhofpglndhfaaaGreatDoor
open Go.RowKit
structure Kp(c d:Co):Prop where
 cycle:d.cycle=c.cycle
 ret:c.retired.length≤d.retired.length
 mem:d.mem.size=c.mem.size
theorem Kp.refl(c:Co):Kp c c:=⟨rfl,aC _,rfl⟩
theorem Kp.trans{a b c:Co}(h:Kp a b)(k:Kp b c):Kp a c:=⟨k.cycle.trans h.cycle,aM h.ret k.ret,k.mem.trans h.mem⟩
theorem TE(c:Co):Kp c (iS c):=by
 rw[gX];split
 ·unfold zO
  repeat' split
  ·exact⟨rfl,aC _,rfl⟩
  ·exact⟨rfl,aC _,rfl⟩
  ·rw[←oS];exact⟨rfl,aC _,rfl⟩
  ·exact⟨rfl,aC _,gY ..⟩
  ·exact⟨rfl,aC _,rfl⟩
 ·exact⟨rfl,aC _,rfl⟩
theorem TF(c:Co):Kp c (gD c):=by
 unfold gD;split
 ·exact .refl c
 ·split<;>exact⟨rfl,aC _,rfl⟩
theorem QU(d:Co)(e:Ent):Kp d (wP d e):=⟨rfl,(by show d.retired.length≤(d.retired++[bZ e]).length;simp),rfl⟩
theorem QV(d:Co)(e:Ent):Kp d (DU d e):=⟨rfl,(by show d.retired.length≤(d.retired++[bZ e]).length;simp),rfl⟩
theorem AY:∀ (n:Nat) (c:Co),Kp c (dM n c)
 |0,c=>.refl c
 | n +1,c=>by
  by_cases h0:c.halt≠0∨c.rob.length=0
  ·rw[jE h0];exact .refl c
  ·have hx:c.rob[0]?=some (c.rob[0]'omT):=aA omT;rw[gL omT (λ q=>h0 (.inl q)) hx];split
   ·exact .refl c
   ·split
    ·exact⟨rfl,(by show c.retired.length≤(c.retired++[_]).length;simp),rfl⟩
    ·split
     ·exact .refl c
     ·rw[gG];by_cases hk:kindOf (c.rob[0]'omT).i.op=3
      ·rw[zG hk];exact (QV c _).trans (AY n _)
      ·rw[tI hk];exact (QU c _).trans (AY n _)
theorem WF(c:Co)(i:Nat):Kp c (jT c i):=by
 unfold jT
 cases c.rob[i]? with
 |none=>exact .refl c
 |some e=>
  dsimp only
  repeat' split
  all_goals exact⟨rfl,aC _,rfl⟩
theorem TG(c:Co)(i:Nat):Kp c (eP c i):=by
 unfold eP
 cases c.rob[i]? with
 |none=>exact .refl c
 | some e=>
  dsimp only;split
  ·exact⟨rfl,aC _,rfl⟩
  ·split
   ·exact Kp.trans (b:=setE c i (qL e c.mem.size (lL c.rob c.r i).1)) ⟨rfl,aC _,rfl⟩ (WF _ i)
   ·exact⟨rfl,aC _,rfl⟩
theorem JS:∀ (p:List Nat) (c:Co),Kp c (p.foldl eP c)
 |[],c=>.refl c
 |i::p,c=>(TG c i).trans (JS p _)
theorem QW(c:Co):Kp c (eQ c):=by
 unfold eQ;split
 ·exact .refl c
 ·exact JS _ c
theorem Gh:∀ (n:Nat) (c:Co),Kp c (iT n c)
 |0,c=>.refl c
 | n+1,c=>by
  by_cases h0:(c.rob.length:Int)≥c.conf.rob∨c.fetched.length=0
  ·rw[qT h0];exact .refl c
  ·have hx:c.fetched[0]?=some (c.fetched[0]'omT):=aA omT;have e:=uG (n:=n+1) (k:=0) omT (λ q=>h0 (.inl q)) hx;rw[show n+1 - (0+1)=n by omega,show n+1 - 0=n+1 by omega]at e;rw[←e];have h1:Kp c (FI c (c.fetched[0]'omT)):=⟨rfl,aC _,rfl⟩;exact h1.trans (Gh n _)
theorem QX(c:Co):Kp c (gW c):=by
 unfold gW;split
 ·exact .refl c
 ·exact Gh _ c
theorem QY(c:Co):Kp c (wR c):=by
 have h:Kp (gU c) (cH (gU c) (fetchW c.prog c.fetch)).1:=by
  unfold cH;split
  ·exact .refl _
  ·split<;>exact⟨rfl,aC _,rfl⟩
 exact⟨h.cycle,h.ret,h.mem⟩
theorem EH:∀ (n:Nat) (c:Co),Kp c (dW n c)
 |0,c=>.refl c
 | n +1,c=>by
  by_cases h0:c.stop=true∨(c.fetched.length:Int)≥c.conf.queue
  ·rw[pL h0];exact .refl c
  ·by_cases hf:(fetchP c.prog c.fetch).isSome=false
   ·rw[qU omT h0 hf];exact⟨rfl,aC _,rfl⟩
   ·by_cases hw:(bE c.words (lineOf c.fetch)).2.isSome=false
    ·rw[nJ omT h0 hf hw];split
     ·exact⟨rfl,aC _,rfl⟩
     ·exact .refl c
    ·have e:=sN (n:=n+1) (k:=0) omT h0 hf hw;rw[show n+1 - (0+1)=n by omega,show n+1 - 0=n+1 by omega]at e;rw[←e];exact (QY c).trans (EH n _)
theorem NK(c:Co):Kp c (dJ c):=by
 unfold dJ;split
 ·exact .refl c
 ·exact EH _ c
theorem Lj(c:Co):Kp c (lJ c):=by
 unfold lJ;split
 ·exact .refl c
 ·split
  ·exact⟨rfl,aC _,rfl⟩
  ·exact .refl c
theorem Gi(c:Co):Kp c (jM c):=by
 unfold jM;split
 ·exact .refl c
 ·unfold lD;split
  ·split
   ·exact⟨rfl,aC _,rfl⟩
   ·exact .refl c
  ·exact .refl c
theorem QZ(c:Co):Kp c (oV c):=by
 have h1:Kp c (aT c):=⟨rfl,aC _,rfl⟩;rw[iR];split
 ·exact (h1.trans (Lj _)).trans (Gi _)
 ·exact h1.trans (Gi _)
theorem WG(c:Co):Kp (s0 c) (PG c):=
 ((((((TE (s0 c)).trans (TF _)).trans (AY _ _)).trans (QW _)).trans (QX _)).trans (NK _)).trans (QZ _)
theorem WI{c:Co}(h:fS c=true):(kN c).cycle=wrap64 (c.cycle+1)∧c.retired.length≤(kN c).retired.length∧(kN c).mem.size=c.mem.size:=by
 have k:=WG c;unfold kN;rw[if_pos h];exact⟨k.cycle,k.ret,k.mem⟩
theorem NG{x:Int}(h1: -9223372036854775808≤x)(h2:x<9223372036854775808):wrap64 x=x:=by unfold wrap64;omega
theorem Gf(q:List Req)(k:Int)(line:Nat)(left:Int)(data:ByteArray):jP (xZ q k line left data)=jP q+if k=4 then 0 else 1:=by
 unfold jP xZ;rw[jW,aV];by_cases h:k=4<;>simp[h]
theorem NH(q:List Req):jP (dX q).1≤jP q:=by
 cases q with
 |nil=>exact aC _
 |cons x r=>
  unfold dX;dsimp only;split
  ·unfold jP;simp only[List.filter_cons];by_cases h:x.kind=4<;>simp[h]
  ·unfold jP;simp only[List.filter_cons];by_cases h:x.kind=4<;>simp[h]
structure Bd(f:Cf)(a:Nat)(c:Co):Prop where
 conf:c.conf=f
 rob:(c.rob.length:Int)≤f.rob
 fet:(c.fetched.length:Int)≤f.queue
 sto:(c.stores.length:Int)≤f.stores
 rd:(jP c.bus:Int)≤f.slots
 ret:c.retired.length=a
theorem bring_bus(c:Co)(line:Nat):((eO c line).bus=c.bus∧(eO c line).asked=c.asked)∨∃ l d,(eO c line).bus=xZ c.bus 4 l (kQ c.conf c.asked) d∧(eO c line).asked=wrap64 (c.asked+1):=by
 unfold eO;rcases hB:gC c.data c.bus c.mem line (kQ c.conf c.asked)with ⟨d,q,asked⟩;show (q=c.bus∧(if asked=true then wrap64 (c.asked+1)else c.asked)=c.asked)∨∃ l d,q=xZ c.bus 4 l (kQ c.conf c.asked) d∧(if asked=true then wrap64 (c.asked+1)else c.asked)=wrap64 (c.asked+1);unfold gC at hB;split at hB
 ·cases hB;exact .inl ⟨rfl,rfl⟩
 ·split at hB
  ·cases hB;exact .inl ⟨rfl,rfl⟩
  ·split at hB
   split at hB
   ·cases hB;exact .inr ⟨_,_,rfl,rfl⟩
   ·cases hB;exact .inl ⟨rfl,rfl⟩
theorem Li(c:Co)(line:Nat):jP (eO c line).bus≤jP c.bus:=by
 rcases bring_bus c line with ⟨h, -⟩|⟨l,d,h, -⟩
 ·rw[h];exact aC _
 ·rw[h,Gf,if_pos rfl];exact aC _
theorem NI(c:Co)(line:Nat):(eO c line).conf=c.conf∧(eO c line).rob=c.rob∧(eO c line).fetched=c.fetched∧(eO c line).stores=c.stores∧(eO c line).retired=c.retired:=by
 rw[←oS];exact⟨rfl,rfl,rfl,rfl,rfl⟩
theorem Bd.bring{f:Cf}{a:Nat}{c:Co}(h:Bd f a c)(line:Nat):Bd f a (eO c line):=by
 obtain⟨h1,h2,h3,h4,h5⟩:=NI c line;have:=Li c line;exact⟨h1.trans h.conf,h2 ▸ h.rob,h3 ▸ h.fet,h4 ▸ h.sto,by have:=h.rd;omega,h5 ▸ h.ret⟩
theorem WB{c:Co}{b:Bool}(h:qJ c b=true):(jP c.bus:Int)<c.conf.slots:=by
 unfold qJ at h;split at h
 ·exact of_decide_eq_true h
 ·have:=of_decide_eq_true h;omega
theorem Bd.ask{f:Cf}{a:Nat}{c:Co}(h:Bd f a c){k:Int}{b:Bool}(hr:qJ c b=true∨k=4)(line:Nat)(data:ByteArray):Bd f a (iO c k line data):=by
 refine⟨h.conf,h.rob,h.fet,h.sto,?_,h.ret⟩;show ((jP (xZ c.bus k line _ data):Nat):Int)≤_;rw[Gf];have h1:=h.rd;rcases hr with hr|hr
 ·have:=WB hr;rw[h.conf]at this;split<;>omega
 ·rw[if_pos hr];omega
theorem TB{f:Cf}{a:Nat}{c:Co}(h:Bd f a c):Bd f a (iS c):=by
 have hb:Bd f a (iN c):=⟨h.conf,h.rob,h.fet,h.sto,by have:=NH c.bus;have:=h.rd;show ((jP (dX c.bus).1:Nat):Int)≤_;omega,h.ret⟩;rw[gX];split
 ·unfold zO
  repeat' split
  ·exact⟨hb.conf,by show ((List.map _ _).length:Int)≤_;rw[aF];exact hb.rob,hb.fet,hb.sto,hb.rd,hb.ret⟩
  ·exact⟨hb.conf,hb.rob,hb.fet,hb.sto,hb.rd,hb.ret⟩
  ·exact hb.bring _
  ·exact⟨hb.conf,hb.rob,hb.fet,hb.sto,hb.rd,hb.ret⟩
  ·exact hb
 ·exact hb
theorem WC(l:List Ent)(i:Nat):(BB l i).length≤l.length:=by
 unfold BB;split
 ·rename_i e he;have:=(Dq.1 he).1;rw[aV,aN];simp;omega
 ·exact aC _
theorem TC{f:Cf}{a:Nat}{c:Co}(h:Bd f a c)(hq:0≤f.queue):Bd f a (gD c):=by
 have hl:=mA c;unfold gD;split
 ·exact h
 ·split
  ·rename_i i _;exact⟨h.conf,by have:=WC (dA c) i;have:=h.rob;show ((BB (dA c) i).length:Int)≤_;omega,hq,h.sto,h.rd,h.ret⟩
  ·exact⟨h.conf,by have:=h.rob;show ((dA c).length:Int)≤_;omega,h.fet,h.sto,h.rd,h.ret⟩
theorem UA{f:Cf}{a:Nat}{c:Co}(h:Bd f a c)(s:Sp)(hs: ¬ (s.store=true∧(c.stores.length:Int)≥c.conf.stores)):Bd f (a+1) (fD c s):=by
 refine⟨h.conf,h.rob,h.fet,?_,h.rd,by show (c.retired++[s]).length=_;rw[aV,h.ret];rfl⟩;show (((match gA s with|some p=>c.stores++[p]|none=>c.stores).length:Nat):Int)≤_;split
 ·rename_i p hp;have hst:s.store=true:=by
   unfold gA at hp;split at hp
   ·cases hp
   ·rename_i q;cases hb:s.store with
    |true=>rfl
    |false=>exact absurd (.inl hb) q
  have h1: ¬ (c.stores.length:Int)≥c.conf.stores:=λ q=>hs ⟨hst,q⟩;rw[h.conf]at h1;rw[aV];show ((c.stores.length+1:Nat):Int)≤_;omega
 ·exact h.sto
theorem QP{f:Cf}{a:Nat}{c:Co}(h:Bd f a c)(e:Ent)(hs: ¬ ((bZ e).store=true∧(c.stores.length:Int)≥c.conf.stores)):Bd f (a+1) (wP c e):=by
 have k:=UA h (bZ e) hs;exact⟨k.conf,by have:=h.rob;show ((c.rob.drop 1).length:Int)≤_;rw[aY];omega,k.fet,k.sto,k.rd,k.ret⟩
theorem QQ{f:Cf}{a:Nat}{c:Co}(h:Bd f a c)(e:Ent)(hs: ¬ ((bZ e).store=true∧(c.stores.length:Int)≥c.conf.stores)):Bd f (a+1) (DU c e):=by
 have k:=(UA h (bZ e) hs).bring (bZ e).addr;rw[←oS]at k;exact⟨k.conf,by have:=h.rob;show ((c.rob.drop 1).length:Int)≤_;rw[aY];omega,k.fet,k.sto,k.rd,k.ret⟩
theorem AX{f:Cf}(h0:0≤f.rob∧0≤f.queue):∀ (n:Nat) (c:Co) (a:Nat),Bd f a c→∃ b,a≤b∧b≤a+n∧Bd f b (dM n c)
 |0,c,a,h=>⟨a,aC _,aC _,h⟩
 | n + 1,c,a,h=>by
  by_cases hz:c.halt≠0∨c.rob.length=0
  ·rw[jE hz];exact⟨a,aC _,by omega,h⟩
  ·have hx:c.rob[0]?=some (c.rob[0]'omT):=aA omT;rw[gL omT (λ q=>hz (.inl q)) hx];split
   ·exact⟨a,aC _,by omega,h⟩
   ·split
    ·exact⟨a+1,by omega,by omega,⟨h.conf,h0.1,h0.2,h.sto,h.rd,by show (c.retired++[_]).length=_;rw[aV,h.ret];rfl⟩⟩
    ·split
     ·exact⟨a,aC _,by omega,h⟩
     ·rename_i hs;rw[gG];by_cases hk:kindOf (c.rob[0]'omT).i.op=3
      ·rw[zG hk];obtain⟨b,h1,h2,h3⟩:=AX h0 n _ _ (QQ h _ hs);exact⟨b,by omega,by omega,h3⟩
      ·rw[tI hk];obtain⟨b,h1,h2,h3⟩:=AX h0 n _ _ (QP h _ hs);exact⟨b,by omega,by omega,h3⟩
theorem Bd.setE{f:Cf}{a:Nat}{c:Co}(h:Bd f a c)(i:Nat)(e:Ent):Bd f a (setE c i e):=⟨h.conf,by show ((c.rob.set i e).length:Int)≤_;rw[bT];exact h.rob,h.fet,h.sto,h.rd,h.ret⟩
theorem WD{f:Cf}{a:Nat}{c:Co}(h:Bd f a c)(i:Nat):Bd f a (jT c i):=by
 unfold jT
 cases c.rob[i]? with
 |none=>exact h
 |some e=>
  dsimp only
  repeat' split
  all_goals first|exact h|exact h.setE _ _|(rename_i q;exact (h.ask (.inl q.1) _ _).setE _ _)
theorem TD{f:Cf}{a:Nat}{c:Co}(h:Bd f a c)(i:Nat):Bd f a (eP c i):=by
 unfold eP
 cases c.rob[i]? with
 |none=>exact h
 | some e=>
  dsimp only;split
  ·exact h.setE _ _
  ·split
   ·exact WD (h.setE _ _) i
   ·exact h.setE _ _
theorem JR{f:Cf}{a:Nat}:∀ (p:List Nat) (c:Co),Bd f a c→Bd f a (p.foldl eP c)
 |[],_,h=>h
 |i::p,_,h=>JR p _ (TD h i)
theorem QR{f:Cf}{a:Nat}{c:Co}(h:Bd f a c):Bd f a (eQ c):=by
 unfold eQ;split
 ·exact h
 ·exact JR _ c h
theorem Gg{f:Cf}{a:Nat}:∀ (n:Nat) (c:Co),Bd f a c→Bd f a (iT n c)
 |0,_,h=>h
 | n+1,c,h=>by
  by_cases h0:(c.rob.length:Int)≥c.conf.rob∨c.fetched.length=0
  ·rw[qT h0];exact h
  ·have hx:c.fetched[0]?=some (c.fetched[0]'omT):=aA omT;have e:=uG (n:=n+1) (k:=0) omT (λ q=>h0 (.inl q)) hx;rw[show n+1 - (0+1)=n by omega,show n+1 - 0=n+1 by omega]at e;rw[←e];have hc:=h.conf;refine Gg n _ ⟨h.conf,?_,?_,h.sto,h.rd,h.ret⟩
   ·show ((c.rob++[_]).length:Int)≤_;rw[aV];show ((c.rob.length+1:Nat):Int)≤_;rw[hc]at h0;omega
   ·have:=h.fet;show ((c.fetched.drop 1).length:Int)≤_;rw[aY];omega
theorem QS{f:Cf}{a:Nat}{c:Co}(h:Bd f a c):Bd f a (gW c):=by
 unfold gW;split
 ·exact h
 ·exact Gg _ c h
theorem EG{f:Cf}{a:Nat}:∀ (n:Nat) (c:Co),Bd f a c→Bd f a (dW n c)
 |0,_,h=>h
 | n +1,c,h=>by
  by_cases h0:c.stop=true∨(c.fetched.length:Int)≥c.conf.queue
  ·rw[pL h0];exact h
  ·have hl:((c.fetched.length+1:Nat):Int)≤f.queue:=by have:=h.conf;rw[this]at h0;omega
   by_cases hf:(fetchP c.prog c.fetch).isSome=false
   ·rw[qU omT h0 hf];exact⟨h.conf,h.rob,by show ((c.fetched++[_]).length:Int)≤_;rw[aV];exact hl,h.sto,h.rd,h.ret⟩
   ·by_cases hw:(bE c.words (lineOf c.fetch)).2.isSome=false
    ·rw[nJ omT h0 hf hw];split
     ·rename_i q;exact h.ask (.inl q.2) _ _
     ·exact h
    ·have e:=sN (n:=n+1) (k:=0) omT h0 hf hw;rw[show n+1 - (0+1)=n by omega,show n+1 - 0=n+1 by omega]at e;rw[←e];refine EG n _ ?_;have hb:∀ w,(cH (gU c) w).1.conf=c.conf∧(cH (gU c) w).1.rob=c.rob∧(cH (gU c) w).1.fetched=c.fetched∧(cH (gU c) w).1.stores=c.stores∧(cH (gU c) w).1.bus=c.bus∧(cH (gU c) w).1.retired=c.retired:=by
      intro w;unfold cH
      repeat' split
      all_goals exact⟨rfl,rfl,rfl,rfl,rfl,rfl⟩
     obtain⟨b1,b2,b3,b4,b5,b6⟩:=hb (fetchW c.prog c.fetch);refine⟨b1.trans h.conf,?_,?_,?_,?_,?_⟩
     ·show (((cH (gU c) (fetchW c.prog c.fetch)).1.rob.length:Nat):Int)≤_;rw[b2];exact h.rob
     ·show ((((cH (gU c) (fetchW c.prog c.fetch)).1.fetched++[_]).length:Nat):Int)≤_;rw[b3,aV];exact hl
     ·show (((cH (gU c) (fetchW c.prog c.fetch)).1.stores.length:Nat):Int)≤_;rw[b4];exact h.sto
     ·show ((jP (cH (gU c) (fetchW c.prog c.fetch)).1.bus:Nat):Int)≤_;rw[b5];exact h.rd
     ·show (cH (gU c) (fetchW c.prog c.fetch)).1.retired.length=_;rw[b6];exact h.ret
theorem NJ{f:Cf}{a:Nat}{c:Co}(h:Bd f a c):Bd f a (dJ c):=by
 unfold dJ;split
 ·exact h
 ·exact EG _ c h
theorem QT{f:Cf}{a:Nat}{c:Co}(h:Bd f a c):Bd f a (oV c):=by
 have h1:Bd f a (aT c):=by
  refine⟨h.conf,h.rob,h.fet,?_,h.rd,h.ret⟩;have:=h.sto;show (((mK c.stores c.data).1.length:Nat):Int)≤_;unfold mK
  repeat' split
  all_goals first|omega|(rename_i hs _;rw[hs]at this;simp at this⊢;omega)|(rename_i hs;simp[hs]at this⊢;omega)|(simp at this⊢;omega)
 have hA:∀ {d:Co},Bd f a d→Bd f a (lJ d):=λ {d} k=>by
  unfold lJ;split
  ·exact k
  ·split
   ·rename_i q;exact k.ask (.inl q.2) _ _
   ·exact k
 have hB:∀ {d:Co},Bd f a d→Bd f a (jM d):=λ {d} k=>by
  unfold jM;split
  ·exact k
  ·unfold lD;split
   ·split
    ·rename_i w _ _;have q:=k.ask (k:=4) (b:=true) (.inr rfl) w.line w.data;exact⟨q.conf,q.rob,q.fet,q.sto,q.rd,q.ret⟩
    ·exact k
   ·exact k
 rw[iR];split
 ·exact hB (hA h1)
 ·exact hB h1
theorem WE{f:Cf}(h0:0≤f.rob∧0≤f.queue){c:Co}{a:Nat}(h:Bd f a c):∃ b,a≤b∧b≤a+f.width.toNat∧Bd f b (kN c):=by
 unfold kN;split
 ·have hs:Bd f a (s0 c):=⟨h.conf,h.rob,h.fet,h.sto,h.rd,h.ret⟩;have hw:=TC (TB hs) h0.2;obtain⟨b,h1,h2,h3⟩:=AX h0 (gD (iS (s0 c))).conf.width.toNat _ a hw;rw[hw.conf]at h2;exact⟨b,h1,h2,QT (NJ (QS (QR h3)))⟩
 ·exact⟨a,aC _,by omega,h⟩
theorem fE(e:Ent):sR e=true↔((0≤e.is∧e.is≤3)∧(e.is=1→0<e.left)∧(e.is≠1→e.left=0)∧(e.is=2→kindOf e.i.op=3∧e.known=true)∧(e.halt≠0→e.is=3∨(e.is=1∧kindOf e.i.op=5∧e.halt=3))∧(Rh e.i=true∨e.halt=1∨e.halt=2)):=by
 unfold sR;by_cases h1:e.is<0∨e.is>3
 ·rw[if_pos h1];exact⟨λ h=>(by cases h),λ h=>by omega⟩
 rw[if_neg h1];by_cases h2:(e.is=1∧e.left≤0)∨(e.is≠1∧e.left≠0)
 ·rw[if_pos h2];refine⟨λ h=>(by cases h),λ⟨_,a,b,_⟩=>?_⟩;rcases h2 with ⟨x,y⟩|⟨x,y⟩
  ·have:=a x;omega
  ·exact absurd (b x) y
 rw[if_neg h2];by_cases h3:e.is=2∧(kindOf e.i.op≠3∨e.known=false)
 ·rw[if_pos h3];refine⟨λ h=>(by cases h),λ⟨_,_,_,a,_⟩=>?_⟩;have:=a h3.1;rcases h3.2 with x|x
  ·exact absurd this.1 x
  ·rw[this.2]at x;cases x
 rw[if_neg h3];by_cases h4:e.halt≠0∧e.is≠3∧ ¬ (e.is=1∧kindOf e.i.op=5∧e.halt=3)
 ·rw[if_pos h4];refine⟨λ h=>(by cases h),λ⟨_,_,_,_,a,_⟩=>?_⟩;rcases a h4.1 with x|x
  ·exact absurd x h4.2.1
  ·exact absurd x h4.2.2
 rw[if_neg h4];have q3:e.is=2→kindOf e.i.op=3∧e.known=true:=λ x=>by
  refine⟨Classical.byContradiction λ y=>h3 ⟨x,.inl y⟩,?_⟩
  cases hk:e.known with
  |true=>rfl
  |false=>exact absurd ⟨x,.inr hk⟩ h3
 have q4:e.halt≠0→e.is=3∨(e.is=1∧kindOf e.i.op=5∧e.halt=3):=λ x=>Classical.byContradiction λ y=>h4 ⟨x,λ z=>y (.inl z),λ z=>y (.inr z)⟩;have q2:e.is=1→0<e.left:=λ x=>Classical.byContradiction λ y=>h2 (.inl ⟨x,by omega⟩);have q5:e.is≠1→e.left=0:=λ x=>Classical.byContradiction λ y=>h2 (.inr ⟨x,y⟩);by_cases h5:Rh e.i=true
 ·rw[if_pos h5];exact⟨λ _=>⟨by omega,q2,q5,q3,q4,.inl h5⟩,λ _=>rfl⟩
 ·rw[if_neg h5];refine⟨λ h=>⟨by omega,q2,q5,q3,q4,.inr (by simpa using h)⟩,λ⟨_,_,_,_,_,a⟩=>?_⟩;rcases a with a|a
  ·exact absurd a h5
  ·simpa using a
structure EvEnt(M:Int)(e:Ent):Prop where
 st:sR e=true
 kn:e.known=true→kindOf e.i.op=3∨kindOf e.i.op=4→nK M e.addr (dC e.i.op)=true
 s4:kindOf e.i.op=4→e.is=0∨e.is=3
 k4:kindOf e.i.op=4→e.is=3→e.halt=0→e.known=true
theorem EvEnt.go{M:Int}{e:Ent}(h:EvEnt M e):EvEnt M (goE e):=by
 obtain⟨h1,h2,h3,h4,h5,h6⟩:=(fE e).1 h.st;unfold goE;by_cases hi:e.is≠1
 ·rw[if_pos hi];exact h
 rw[if_neg hi];have hi:e.is=1:=Classical.not_not.1 hi;have n4:kindOf e.i.op≠4:=λ q=>by rcases h.s4 q with x|x<;>omega
 by_cases hl:wrap64 (e.left - 1)≤0
 ·rw[if_pos hl];refine⟨(fE _).2 ⟨by simp,λ q=>absurd q (by simp),λ _=>rfl,λ q=>absurd q (by simp),λ _=>.inl rfl,h6⟩,λ a b=>?_,λ q=>absurd q n4,λ q=>absurd q n4⟩;refine h.kn ?_ b;have a:(if kindOf e.i.op=5∧e.halt=0 then true else e.known)=true:=a;have b:kindOf e.i.op=3∨kindOf e.i.op=4:=b
  rwa [if_neg omT]at a
 ·rw[if_neg hl];refine⟨(fE _).2 ⟨h1,λ _=>by show 0<wrap64 (e.left - 1);omega,λ q=>absurd hi q,h4,h5,h6⟩,h.kn,h.s4,h.k4⟩
theorem Tx{op:Int}{a b:Nat}(hk:kindOf op=2)(ha:a≤4294967295)(hb:b≤4294967295):0<yO op a b:=by
 have ho:42≤op∧op≤45:=by
  unfold kindOf at hk
  (repeat' split at hk)<;>omega
 unfold yO;rw[if_neg omT];split
 ·decide
 ·rename_i q;have h1:kK op b≤kK op a:=by omega
  have h2:=xB op b omT (λ z=>q (.inl z));have:=Jq (kK op b) (kK op a) (pP op b omT) (pP op a omT) h1 omT;omega
theorem EvEnt.start{M:Int}{e:Ent}(h:EvEnt M e){a b:Nat}(ha:a≤4294967295)(hb:b≤4294967295):EvEnt M (oU e a b):=by
 obtain⟨h1,h2,h3,h4,h5,h6⟩:=(fE e).1 h.st;unfold oU;by_cases hi:e.is≠0∨kindOf e.i.op=3∨kindOf e.i.op=4
 ·rw[if_pos hi];exact h
 rw[if_neg hi];have hh:e.halt=0:=Classical.byContradiction λ q=>by rcases h5 q with x|x<;>omega
 have n4:kindOf e.i.op≠4:=λ q=>hi (.inr (.inr q));have n3: ¬ (kindOf e.i.op=3∨kindOf e.i.op=4):=λ q=>hi (.inr q);by_cases k1:kindOf e.i.op=1
 ·rw[if_pos k1];exact⟨(fE _).2 ⟨by simp,λ _=>by simp,λ q=>absurd rfl q,λ q=>absurd q (by simp),λ q=>absurd hh q,h6⟩,λ _ q=>absurd q n3,λ q=>absurd q n4,λ q=>absurd q n4⟩
 rw[if_neg k1];by_cases k2:kindOf e.i.op=2
 ·rw[if_pos k2];exact⟨(fE _).2 ⟨by simp,λ _=>by have:=Tx k2 ha hb;show (0:Int)<((yO e.i.op a b:Nat):Int);omega,λ q=>absurd rfl q,λ q=>absurd q (by simp),λ q=>absurd hh q,h6⟩,λ _ q=>absurd q n3,λ q=>absurd q n4,λ q=>absurd q n4⟩
 rw[if_neg k2];by_cases k5:kindOf e.i.op=5
 ·rw[if_pos k5];split
  ·exact⟨(fE _).2 ⟨by simp,λ _=>by simp,λ q=>absurd rfl q,λ q=>absurd q (by simp),λ q=>absurd hh q,h6⟩,λ _ q=>absurd q n3,λ q=>absurd q n4,λ q=>absurd q n4⟩
  ·refine⟨(fE _).2 ⟨by simp,λ _=>by simp,λ q=>absurd rfl q,λ q=>absurd q (by simp),λ _=>.inr ⟨rfl,k5,rfl⟩,?_⟩,λ _ q=>absurd q n3,λ q=>absurd q n4,λ q=>absurd q n4⟩;rcases h6 with x|x|x
   ·exact .inl x
   ·omega
   ·omega
 ·rw[if_neg k5];exact⟨(fE _).2 ⟨by simp,λ _=>by simp,λ q=>absurd rfl q,λ q=>absurd q (by simp),λ q=>absurd hh q,h6⟩,λ _ q=>absurd q n3,λ q=>absurd q n4,λ q=>absurd q n4⟩
theorem EvEnt.addr{M:Int}{e:Ent}(h:EvEnt M e)(a:Nat):EvEnt M (qL e M a):=by
 obtain⟨h1,h2,h3,h4,h5,h6⟩:=(fE e).1 h.st;unfold qL;by_cases hi:(kindOf e.i.op≠3∧kindOf e.i.op≠4)∨e.is≠0∨e.known=true
 ·rw[if_pos hi];exact h
 rw[if_neg hi];have i0:e.is=0:=Classical.byContradiction λ q=>hi (.inr (.inl q));have hh:e.halt=0:=Classical.byContradiction λ q=>by rcases h5 q with x|x<;>omega
 have hl:e.left=0:=h3 omT;split
 ·rename_i hr;exact⟨(fE _).2 ⟨h1,h2,h3,λ q=>absurd (show e.is=2 from q) omT,h5,h6⟩,λ _ _=>hr,h.s4,λ _ _ _=>rfl⟩
 ·have hk:e.known=false:=by cases hq:e.known with
   |false=>rfl
   |true=>exact absurd (.inr (.inr hq)) hi
  refine⟨(fE _).2 ⟨by simp,λ q=>absurd q (by simp),λ _=>hl,λ q=>absurd q (by simp),λ _=>.inl rfl,?_⟩,λ q=>(by rw[show e.known=true from q]at hk;cases hk),λ _=>.inr rfl,λ _ _ q=>?_⟩
  ·rcases h6 with x|x|x
   ·exact .inl x
   ·omega
   ·omega
  ·have q:(if kindOf e.i.op=4 then (5:Int)else 4)=0:=q;split at q<;>omega
theorem EvEnt.take{M:Int}{e:Ent}(h:EvEnt M e)(s:ByteArray):EvEnt M (rL e s):=by
 obtain⟨h1,h2,h3,h4,h5,h6⟩:=(fE e).1 h.st;unfold rL;by_cases hi:kindOf e.i.op≠3∨e.known=false∨(e.is≠0∧e.is≠2)
 ·rw[if_pos hi];exact h
 rw[if_neg hi];have k3:kindOf e.i.op=3:=Classical.byContradiction λ q=>hi (.inl q);have hh:e.halt=0:=Classical.byContradiction λ q=>by rcases h5 q with x|x<;>omega
 exact⟨(fE _).2 ⟨by simp,λ _=>by simp,λ q=>absurd rfl q,λ q=>absurd q (by simp),λ q=>absurd hh q,h6⟩,h.kn,λ q=>absurd (show kindOf e.i.op=4 from q) omT,λ q=>absurd (show kindOf e.i.op=4 from q) omT⟩
theorem EvEnt.store{M:Int}{e:Ent}(h:EvEnt M e)(b:Nat):EvEnt M (qH e b):=by
 obtain⟨h1,h2,h3,h4,h5,h6⟩:=(fE e).1 h.st;unfold qH;by_cases hi:kindOf e.i.op≠4∨e.known=false∨e.is≠0
 ·rw[if_pos hi];exact h
 rw[if_neg hi];have i0:e.is=0:=Classical.byContradiction λ q=>hi (.inr (.inr q))
 have hk:e.known=true:=by cases hq:e.known with
  |true=>rfl
  |false=>exact absurd (.inr (.inl hq)) hi
 exact⟨(fE _).2 ⟨by simp,λ q=>absurd q (by simp),λ _=>h3 omT,λ q=>absurd q (by simp),λ _=>.inl rfl,h6⟩,h.kn,λ _=>.inr rfl,λ _ _ _=>hk⟩
theorem EvEnt.fill{M:Int}{e:Ent}(h:EvEnt M e)(c:Co)(line:Nat):EvEnt M (tK c line e):=by
 unfold tK;split
 ·exact EvEnt.take (e:={e with filled:=true}) ⟨h.st,h.kn,h.s4,h.k4⟩ _
 ·exact h
theorem EvEnt.wait{M:Int}{e:Ent}(h:EvEnt M e)(h3:kindOf e.i.op=3)(hk:e.known=true)(h0:e.is=0∨e.is=2):EvEnt M {e with is:=2}:=by
 obtain⟨h1,h2,hl,h4,h5,h6⟩:=(fE e).1 h.st;have hh:e.halt=0:=Classical.byContradiction λ q=>by rcases h5 q with x|x<;>omega
 exact⟨(fE _).2 ⟨by simp,λ q=>absurd q (by simp),λ _=>hl omT,λ _=>⟨h3,hk⟩,λ q=>absurd hh q,h6⟩,h.kn,λ q=>absurd (show kindOf e.i.op=4 from q) omT,λ q=>absurd (show kindOf e.i.op=4 from q) omT⟩
theorem ZM(e:Ent):(goE e).no=e.no:=by unfold goE;(repeat' split)<;>rfl
theorem Ty(e:Ent)(a b:Nat):(oU e a b).no=e.no:=by unfold oU;(repeat' split)<;>rfl
theorem QO(e:Ent)(M:Int)(a:Nat):(qL e M a).no=e.no:=by unfold qL;(repeat' split)<;>rfl
theorem Lh(e:Ent)(s:ByteArray):(rL e s).no=e.no:=by unfold rL;split<;>rfl
theorem Tz(e:Ent)(b:Nat):(qH e b).no=e.no:=by unfold qH;split<;>rfl
theorem TA(c:Co)(line:Nat)(e:Ent):(tK c line e).no=e.no:=by
 unfold tK;split
 ·rw[Lh]
 ·rfl
structure RoLst(M nx:Int)(l:List Ent):Prop where
 ev:∀ e∈l,EvEnt M e∧e.no<nx
 up:(l.map (·.no)).Pairwise (· < ·)
theorem RoLst.nil{M nx:Int}:RoLst M nx []:=⟨λ _ h=>(List.not_mem_nil h).elim,.nil⟩
theorem RoLst.map{M nx:Int}{l:List Ent}(h:RoLst M nx l){f:Ent→Ent}(hf:∀ e,EvEnt M e→EvEnt M (f e))(hn:∀ e,(f e).no=e.no):RoLst M nx (l.map f):=by
 refine⟨λ e he=>?_,?_⟩
 ·obtain⟨x,hx,rfl⟩:=rQ.1 he;exact⟨hf x (h.ev x hx).1,by rw[hn];exact (h.ev x hx).2⟩
 ·rw[List.map_map,show ((λ e:Ent=>e.no)∘f)=λ e=>e.no from funext hn];exact h.up
theorem RoLst.set{M nx:Int}{l:List Ent}(h:RoLst M nx l){i:Nat}{x e:Ent}(hx:l[i]?=some x)(he:EvEnt M e)(hn:e.no=x.no):RoLst M nx (l.set i e):=by
 refine⟨λ y hy=>?_,?_⟩
 ·rcases List.mem_or_eq_of_mem_set hy with q|rfl
  ·exact h.ev y q
  ·exact⟨he,by rw[hn];exact (h.ev x (aB hx)).2⟩
 ·rw[List.map_set,hn];rw[show (l.map (·.no)).set i x.no=l.map (·.no)from ?_]
  ·exact h.up
  ·refine dD λ j=>?_;by_cases hj:i=j
   ·subst hj;have hl:=(Dq.1 hx).1;rw[aQ (by rw[aF];exact hl),aZ,hx];rfl
   ·rw[gM hj]
theorem RoLst.sub{M nx:Int}{l k:List Ent}(h:RoLst M nx l)(hs:k.Sublist l):RoLst M nx k:=
 ⟨λ e he=>h.ev e (hs.mem he),h.up.sublist (hs.map _)⟩
theorem RoLst.cut{M nx:Int}{l:List Ent}(h:RoLst M nx l)(i:Nat):RoLst M nx (BB l i):=by
 unfold BB;split
 ·rename_i e he;have hi:=(Dq.1 he).1;have hs:(l.take i++[{e with guess:=e.next}])=(l.set i {e with guess:=e.next}).take (i+1):=by
   rw[bR,aQ hi,List.take_set_of_le (aC _)];rfl
  rw[hs];have hev:=(h.ev e (aB he)).1;exact (h.set he (e:={e with guess:=e.next}) ⟨hev.st,hev.kn,hev.s4,hev.k4⟩ rfl).sub (List.take_sublist _ _)
 ·exact h
theorem RoLst.push{M nx:Int}{l:List Ent}(h:RoLst M nx l){e:Ent}(he:EvEnt M e)(hn:e.no=nx):RoLst M (nx+1) (l++[e]):=by
 refine⟨λ y hy=>?_,?_⟩
 ·rcases al_List_mem_append.1 hy with q|q
  ·have:=h.ev y q;exact⟨this.1,by omega⟩
  ·rw[tO.1 q];exact⟨he,by omega⟩
 ·rw[eU,List.pairwise_append];refine⟨h.up,List.pairwise_singleton _ _,λ a ha b hb=>?_⟩;obtain⟨y,hy,rfl⟩:=rQ.1 ha;have:=(h.ev y hy).2;have hb:b=e.no:=by simpa using hb
  omega
theorem RoLst.right{M nx:Int}{l:List Ent}(h:RoLst M nx l)(h8:l.length≤8):BC l=true:=by
 unfold BC;rw[aI,iH];refine⟨nD h8,λ i hi=>?_⟩;unfold Eg;split
 ·rename_i e he;rw[aI];refine⟨?_,(h.ev e (aB he)).1.st⟩
  cases i with
  |zero=>rfl
  |succ i=>
   have hl:=(Dq.1 he).1;have hx:l[i]?=some (l[i]'omT):=aA omT;have:=List.pairwise_iff_getElem.1 h.up i (i+1) (by rw[aF];omega) (by rw[aF];omega) omT;rw[List.getElem_map,List.getElem_map]at this;have e2:l[i+1]=e:=(Dq.1 he).2;rw[e2]at this;unfold VI;rw[show i+1 - 1=i by omega,hx];simp[this]
 ·rfl
theorem RoLst.stores{M nx:Int}{r:Nat→Nat}{l:List Ent}(h:RoLst M nx l):∀ k,RoLst M nx (cG r l k)
 |0=>h
 | k+1=>by
  have ih:=RoLst.stores (r:=r) h k;show RoLst M nx (storeAt r (cG r l k) k);unfold storeAt;split
  ·rename_i e he;split
   ·split
    ·exact ih.set he ((ih.ev e (aB he)).1.store _) (Tz _ _)
    ·exact ih
   ·exact ih
  ·exact ih
theorem xD(c:Ca)(k:Nat)(s:List Wy):(oW c k s).sets.length=c.sets.length∧(oW c k s).ways=c.ways:=⟨bT,rfl⟩
theorem EE(c:Ca)(line:Nat):(mG c line).sets.length=c.sets.length∧(mG c line).ways=c.ways:=by
 unfold mG;split
 ·exact xD _ _ _
 ·exact⟨rfl,rfl⟩
theorem JO(c:Ca)(line:Nat)(d:ByteArray)(b:Bool):(nP c line d b).1.sets.length=c.sets.length∧(nP c line d b).1.ways=c.ways:=by
 unfold nP;split
 ·split
  ·exact xD _ _ _
  ·split<;>exact xD _ _ _
 ·exact⟨rfl,rfl⟩
theorem Ld(c:Ca)(a:Nat)(b:ByteArray):(qM c a b).1.sets.length=c.sets.length∧(qM c a b).1.ways=c.ways:=by
 unfold qM;split
 ·split
  ·split
   ·exact⟨rfl,rfl⟩
   ·exact xD _ _ _
  ·exact⟨rfl,rfl⟩
 ·exact⟨rfl,rfl⟩
theorem Le(c:Ca)(line:Nat):(oH c line).sets.length=c.sets.length∧(oH c line).ways=c.ways:=by
 unfold oH;split
 ·exact xD _ _ _
 ·exact⟨rfl,rfl⟩
theorem Lf(c:Co)(line:Nat):(eO c line).data.sets.length=c.data.sets.length∧(eO c line).data.ways=c.data.ways:=by
 have hp:=JO c.data (lineOf line) (El (jI c.bus c.mem) (lineOf line)) false;unfold eO;rcases hB:gC c.data c.bus c.mem line (kQ c.conf c.asked)with ⟨d,q,asked⟩;show d.sets.length=_∧d.ways=_;unfold gC at hB;split at hB
 ·cases hB;exact⟨rfl,rfl⟩
 ·split at hB
  ·cases hB;exact EE _ _
  ·split at hB
   rename_i hq;rw[hq]at hp;split at hB<;>(cases hB;exact hp)
structure RcCor(q:Int)(c:Co):Prop where
 ro:RoLst c.mem.size c.next c.rob
 lo:0≤c.next
 nx:c.next≤q
 da:(c.data.sets.length:Int)=c.conf.sets∧c.data.ways=c.conf.ways
 wo:(c.words.sets.length:Int)=c.conf.sets∧c.words.ways=c.conf.ways
 sp:∀ p∈c.stores,nK c.mem.size p.addr p.data.size=true
 pg:c.prog.length≤64
theorem JP(c:Co)(line:Nat):(eO c line).mem=c.mem∧(eO c line).next=c.next∧(eO c line).rob=c.rob∧(eO c line).conf=c.conf∧(eO c line).words=c.words∧(eO c line).stores=c.stores∧(eO c line).prog=c.prog:=by
 rw[←oS];exact⟨rfl,rfl,rfl,rfl,rfl,rfl,rfl⟩
theorem RcCor.bring{q:Int}{c:Co}(h:RcCor q c)(line:Nat):RcCor q (eO c line):=by
 obtain⟨h1,h2,h3,h4,h5,h6,h7⟩:=JP c line;have hs:=Lf c line;exact⟨by rw[h1,h2,h3];exact h.ro,by rw[h2];exact h.lo,by rw[h2];exact h.nx,by rw[hs.1,hs.2,h4];exact h.da,by rw[h5,h4];exact h.wo,by rw[h6,h1];exact h.sp,by rw[h7];exact h.pg⟩
theorem RcCor.rob{q:Int}{c d:Co}(h:RcCor q c)(hr:RoLst c.mem.size c.next d.rob)(h1:d.mem=c.mem)(h2:d.next=c.next)(h3:d.data=c.data)(h4:d.words=c.words)(h5:d.conf=c.conf)(h6:d.stores=c.stores)(h7:d.prog=c.prog):RcCor q d:=
 ⟨by rw[h1,h2];exact hr,by rw[h2];exact h.lo,by rw[h2];exact h.nx,by rw[h3,h5];exact h.da,by rw[h4,h5];exact h.wo,by rw[h6,h1];exact h.sp,by rw[h7];exact h.pg⟩
theorem Tt{q:Int}{c:Co}(h:RcCor q c):RcCor q (iS c):=by
 have hb:RcCor q (iN c):=⟨h.ro,h.lo,h.nx,h.da,h.wo,h.sp,h.pg⟩;rw[gX];split
 ·unfold zO
  repeat' split
  ·exact hb.rob (hb.ro.map (λ e he=>he.fill _ _) (λ e=>TA _ _ e)) rfl rfl rfl rfl rfl rfl rfl
  ·have:=JO (iN c).words (dX c.bus).2.1.line oC false;exact⟨hb.ro,hb.lo,hb.nx,hb.da,by show ((nP _ _ _ _).1.sets.length:Int)=_∧(nP _ _ _ _).1.ways=_;rw[this.1,this.2];exact hb.wo,hb.sp,hb.pg⟩
  ·exact hb.bring _
  ·have e:(qC (iN c).mem [⟨(dX c.bus).2.1.line,(dX c.bus).2.1.data⟩]).size=(iN c).mem.size:=gY ..;exact⟨by show RoLst ((qC _ _).size:Int) _ _;rw[e];exact hb.ro,hb.lo,hb.nx,hb.da,hb.wo,by show ∀ p∈_,nK ((qC _ _).size:Int) _ _=true;rw[e];exact hb.sp,hb.pg⟩
  ·exact hb
 ·exact hb
theorem Tu{q:Int}{c:Co}(h:RcCor q c):RcCor q (gD c):=by
 have hw:RoLst c.mem.size c.next (dA c):=RoLst.stores (h.ro.map (λ e he=>he.go) ZM) _;unfold gD;split
 ·exact h
 ·split
  ·rename_i i _;exact h.rob (hw.cut i) rfl rfl rfl rfl rfl rfl rfl
  ·exact h.rob hw rfl rfl rfl rfl rfl rfl rfl
theorem QJ(x n:Nat)(h:n=1∨n=2∨n=4):(rN x n).size=n:=by
 rcases h with rfl|rfl|rfl<;>rfl
theorem Uz{q:Int}{c:Co}(h:RcCor q c){e:Ent}(he:e∈c.rob)(h3:e.is=3):RcCor q (fD c (bZ e)):=by
 refine⟨h.ro,h.lo,h.nx,h.da,h.wo,?_,h.pg⟩;show ∀ p∈(match gA (bZ e)with|some p=>c.stores++[p]|none=>c.stores),_;split
 ·rename_i p hp;intro y hy;rcases al_List_mem_append.1 hy with r|r
  ·exact h.sp y r
  ·rw [tO.1 r];have hev:=(h.ro.ev e he).1;unfold gA at hp;split at hp
   ·cases hp
   ·rename_i hn;have hz:(bZ e).store=true:=by
     cases hb:(bZ e).store with
     |true=>rfl
     |false=>exact absurd (.inl hb) hn
    have hk:e.halt=0∧kindOf e.i.op=4:=by
     unfold bZ at hz;by_cases q1:e.halt≠0
     ·rw[if_pos q1]at hz;exact absurd (show false=true from hz) (by simp)
     ·by_cases q2:kindOf e.i.op=4
      ·exact⟨Classical.not_not.1 q1,q2⟩
      ·rw[if_neg q1,if_neg q2]at hz
       repeat' split at hz
       all_goals exact absurd (show false=true from hz) (by simp)
    have ht:bZ e=⟨e.pc,up4 e.pc,wr e.i,e.value,e.addr,(dC e.i.op:Nat),true,0,0⟩:=by
     unfold bZ;rw[if_neg (λ z=>z hk.1),if_pos hk.2]
    rw[ht]at hp hn;injection hp with hp;have hr:=hev.kn (hev.k4 hk.2 h3 hk.1) (.inr hk.2);have hsz:dC e.i.op=1∨dC e.i.op=2∨dC e.i.op=4:=by
     have hn: ¬ (((dC e.i.op:Nat):Int)≠1∧((dC e.i.op:Nat):Int)≠2∧((dC e.i.op:Nat):Int)≠4):=λ z=>hn (.inr (.inr z));omega
    have hb:p.data.size=dC e.i.op:=by rw[←hp];exact QJ _ _ hsz
    rw[show p.addr=e.addr by rw[←hp],hb];exact hr
 ·exact h.sp
theorem QK{q:Int}{c:Co}(h:RcCor q c){e:Ent}(he:e∈c.rob)(h3:e.is=3):RcCor q (wP c e):=by
 have k:=Uz h he h3;exact⟨k.ro.sub (List.drop_sublist _ _),k.lo,k.nx,k.da,k.wo,k.sp,k.pg⟩
theorem QL{q:Int}{c:Co}(h:RcCor q c){e:Ent}(he:e∈c.rob)(h3:e.is=3):RcCor q (DU c e):=by
 have k:=(Uz h he h3).bring (bZ e).addr;rw[←oS]at k;exact⟨RoLst.sub (l:=c.rob) k.ro (List.drop_sublist _ _),k.lo,k.nx,k.da,k.wo,k.sp,k.pg⟩
theorem AW{q:Int}:∀ (n:Nat) (c:Co),RcCor q c→RcCor q (dM n c)
 |0,_,h=>h
 | n +1,c,h=>by
  by_cases hz:c.halt≠0∨c.rob.length=0
  ·rw[jE hz];exact h
  ·have hx:c.rob[0]?=some (c.rob[0]'omT):=aA omT;have hm:=aB hx;rw[gL omT (λ r=>hz (.inl r)) hx];split
   ·exact h
   ·rename_i h3;have h3:=Classical.not_not.1 h3;split
    ·exact⟨RoLst.nil,h.lo,h.nx,h.da,h.wo,h.sp,h.pg⟩
    ·split
     ·exact h
     ·rw[gG];by_cases hk:kindOf (c.rob[0]'omT).i.op=3
      ·rw[zG hk];exact AW n _ (QL h hm h3)
      ·rw[tI hk];exact AW n _ (QK h hm h3)
theorem RcCor.setE{q:Int}{c:Co}(h:RcCor q c){i:Nat}{x e:Ent}(hx:c.rob[i]?=some x)(he:EvEnt c.mem.size e)(hn:e.no=x.no):RcCor q (setE c i e):=h.rob (h.ro.set hx he hn) rfl rfl rfl rfl rfl rfl rfl
theorem Wz(e:Ent)(M:Int)(a:Nat)(h0:e.is=0):(qL e M a).known=true→(qL e M a).is=0∨e.known=false∧(qL e M a).is=0:=by
 intro hk;unfold qL at hk⊢;split
 ·exact .inl h0
 ·rename_i h1;rw[if_neg h1]at hk;split
  ·exact .inl h0
  ·rename_i h2;rw[if_neg h2]at hk;exact absurd (show e.known=true from hk) (λ z=>h1 (.inr (.inr z)))
theorem WA{q:Int}{c:Co}(h:RcCor q c){i:Nat}{x:Ent}(hx:c.rob[i]?=some x)(hk3:kindOf x.i.op=3)(hi:x.known=true→x.is=0):RcCor q (jT c i):=by
 have hev:=(h.ro.ev x (aB hx)).1;unfold jT;rw[hx];dsimp only;split
 ·exact h
 ·rename_i hkn
  have hk:x.known=true:=by cases hq:x.known with
   |true=>rfl
   |false=>exact absurd hq hkn
  have hw:=hev.wait hk3 hk (.inl (hi hk))
  repeat' split
  ·exact h.setE hx (hev.take _) (Lh _ _)
  ·exact h
  ·exact h.setE hx (hev.take _) (Lh _ _)
  ·exact h.setE hx hw rfl
  ·exact RcCor.setE (c:=iO c 1 (lineOf x.addr) oC) ⟨h.ro,h.lo,h.nx,h.da,h.wo,h.sp,h.pg⟩ hx hw rfl
  ·exact h
theorem Yw{l:List Ent}{i:Nat}{x e:Ent}(hx:l[i]?=some x):(l.set i e)[i]?=some e:=aQ (Dq.1 hx).1
theorem Tv{q:Int}{c:Co}{n:Nat}(hm:c.okM n)(h:RcCor q c){i:Nat}(hi:∀ e,c.rob[i]?=some e→e.is=0):RcCor q (eP c i):=by
 have hb:=Ae hm.ok.robo hm.ok.r i;unfold eP
 cases hx:c.rob[i]? with
 |none=>exact h
 | some e=>
  have hev:=(h.ro.ev e (aB hx)).1;have h0:=hi e hx;dsimp only;split
  ·exact h.setE hx (hev.addr _) (QO _ _ _)
  ·split
   ·rename_i k3;have hk:kindOf (qL e c.mem.size (lL c.rob c.r i).1).i.op=3:=by
     unfold qL
     (repeat' split)<;>exact k3
    exact WA (h.setE hx (hev.addr _) (QO _ _ _)) (Yw hx) hk (λ z=>(Wz e _ _ h0 z).elim id (·.2))
   ·exact h.setE hx (hev.start hb.1 hb.2) (Ty _ _ _)
theorem set_other{l:List Ent}{i j:Nat}{e:Ent}(h:i≠j):(l.set i e)[j]?=l[j]? :=gM h
theorem NF(c:Co){i j:Nat}(h:i≠j):(jT c i).rob[j]?=c.rob[j]? :=by
 unfold jT;split
 ·rfl
 ·(try dsimp only)
  repeat' split
  all_goals first|rfl|exact set_other h
theorem Lg(c:Co){i j:Nat}(h:i≠j):(eP c i).rob[j]?=c.rob[j]? :=by
 unfold eP;split
 ·rfl
 ·(try dsimp only)
  split
  ·exact set_other h
  ·split
   ·rw[NF _ h];exact set_other h
   ·exact set_other h
theorem JQ{q:Int}:∀ (p:List Nat) (c:Co) (n:Nat),c.okM n→n+p.length≤890000→RcCor q c→p.Pairwise (· < ·)→(∀ i∈p,∀ e,c.rob[i]?=some e→e.is=0)→RcCor q (p.foldl eP c)
 |[],_,_,_,_,h,_,_=>h
 |i::p,c,n,hm,hb,h,hp,hi=>by
  have hl:(i::p).length=p.length+1:=rfl;rw[hl]at hb;obtain⟨h1,h2⟩:=List.pairwise_cons.1 hp;refine JQ p _ (n+1) (uU hm omT i).1 omT (Tv hm h (hi i (bD ..))) h2 (λ j hj e he=>?_);have:=h1 j hj;rw[Lg c omT]at he;exact hi j (bF _ hj) e he
theorem Gd{width:Int}{busy:Bool}{kinds:List Int}{can:List Bool}:∀ k,(∀ i∈(iC width busy kinds can k).out,i<k∧can.getD i false=true)∧(iC width busy kinds can k).out.Pairwise (· < ·)
 |0=>⟨λ i hi=>(List.not_mem_nil hi).elim,.nil⟩
 | k + 1=>by
  have ih:=Gd (width:=width) (busy:=busy) (kinds:=kinds) (can:=can) k;have keep:(∀ i∈(iC width busy kinds can k).out,i<k+1∧can.getD i false=true)∧(iC width busy kinds can k).out.Pairwise (· < ·):=⟨λ i hi=>⟨by have:=(ih.1 i hi).1;omega,(ih.1 i hi).2⟩,ih.2⟩;show (∀ i∈(CW width kinds (iC width busy kinds can k) k (can.getD k false)).out,_)∧(CW width kinds (iC width busy kinds can k) k (can.getD k false)).out.Pairwise _;unfold CW;split
  ·exact keep
  ·split
   ·exact keep
   ·rename_i hr;split
    ·exact keep
    ·refine⟨λ i hi=>?_,?_⟩
     ·rcases al_List_mem_append.1 hi with r|r
      ·exact keep.1 i r
      ·rw[tO.1 r]
       exact⟨by omega,by cases hc:can.getD k false with
        |true=>rfl
        |false=>exact absurd hc hr⟩
     ·show ((iC width busy kinds can k).out++[k]).Pairwise _;rw[List.pairwise_append];refine⟨ih.2,List.pairwise_singleton _ _,λ a ha b hb=>?_⟩;rw[tO.1 hb];exact (ih.1 a ha).1
theorem Yx{c:Co}{i:Nat}{e:Ent}(h:BE c i=true)(he:c.rob[i]?=some e):e.is=0:=by
 unfold BE at h;rw[he]at h;dsimp only at h;split at h
 ·cases h
 ·rename_i q;exact Classical.not_not.1 q
theorem QM{q:Int}{c:Co}{n:Nat}(hm:c.okM n)(hb:n+2≤890000)(h:RcCor q c):RcCor q (eQ c):=by
 by_cases hh:c.halt≠0
 ·rw[show eQ c=c from if_pos hh];exact h
 ·have hw:=mT hm.cf;have hl:=OU (width:=c.conf.width) (busy:=c.rob.any CT) (kinds:=zP c) (can:=yK c) omT (yK c).length;have hf:=Gd (width:=c.conf.width) (busy:=c.rob.any CT) (kinds:=zP c) (can:=yK c) (yK c).length;rw[show eQ c=(iC c.conf.width (c.rob.any CT) (zP c) (yK c) (yK c).length).out.foldl eP c from if_neg hh];refine JQ _ c n hm omT h hf.2 (λ i hi e he=>?_);have hc:=(hf.1 i hi).2;have hlt:=(Dq.1 he).1;refine Yx (i:=i) ?_ he;unfold yK at hc;rw[bJ,aZ,gZ hlt]at hc;exact hc
theorem Tw{M:Int}(no:Int){f:Ft}{prog:List Nat}(hp:∀ x∈prog,x≤4294967295):EvEnt M (qI no f prog)∧(qI no f prog).no=no:=by
 have hx:fetchW prog f.pc<4294967296:=BA (Hl hp f.pc);have n4: ¬ kindOf 0=4:=by decide
 unfold qI;split
 ·exact⟨⟨(fE _).2 ⟨by simp,λ q=>absurd q (by simp),λ _=>rfl,λ q=>absurd q (by simp),λ _=>.inl rfl,.inr (.inl rfl)⟩,λ q=>absurd (show false=true from q) (by simp),λ q=>absurd (show kindOf 0=4 from q) n4,λ q=>absurd (show kindOf 0=4 from q) n4⟩,rfl⟩
 ·split
  ·exact⟨⟨(fE _).2 ⟨by simp,λ q=>absurd q (by simp),λ _=>rfl,λ q=>absurd q (by simp),λ _=>.inl rfl,.inr (.inr rfl)⟩,λ q=>absurd (show false=true from q) (by simp),λ q=>absurd (show kindOf 0=4 from q) n4,λ q=>absurd (show kindOf 0=4 from q) n4⟩,rfl⟩
  ·rename_i ho;have hs:Rh (lN (fetchW prog f.pc))=true:=(Hk _).2 (Wc _ ho hx);split
   ·exact⟨⟨(fE _).2 ⟨by simp,λ q=>absurd q (by simp),λ _=>rfl,λ q=>absurd q (by simp),λ _=>.inl rfl,.inl hs⟩,λ q=>absurd (show false=true from q) (by simp),λ _=>.inr rfl,λ _ _ q=>absurd (show (6:Int)=0 from q) (by simp)⟩,rfl⟩
   ·split
    ·exact⟨⟨(fE _).2 ⟨by simp,λ q=>absurd q (by simp),λ _=>rfl,λ q=>absurd q (by simp),λ _=>.inl rfl,.inl hs⟩,λ q=>absurd (show false=true from q) (by simp),λ _=>.inr rfl,λ _ _ q=>absurd (show (7:Int)=0 from q) (by simp)⟩,rfl⟩
    ·exact⟨⟨(fE _).2 ⟨(show (0:Int)≤0∧(0:Int)≤3 from ⟨by simp,by simp⟩),λ q=>absurd (show (0:Int)=1 from q) (by simp),λ _=>rfl,λ q=>absurd (show (0:Int)=2 from q) (by simp),λ q=>absurd rfl q,.inl hs⟩,λ q=>absurd (show false=true from q) (by simp),λ _=>.inl rfl,λ _ q=>absurd (show (0:Int)=3 from q) (by simp)⟩,rfl⟩
theorem Ge:∀ (n:Nat) (q:Int) (c:Co),(∀ x∈c.prog,x≤4294967295)→q+n≤9000000→RcCor q c→RcCor (q+n) (iT n c)
 |0,q,c,_,_,h=>by rw[show q+((0:Nat):Int)=q by omega];exact h
 | n+1,q,c,hp,hb,h=>by
  by_cases h0:(c.rob.length:Int)≥c.conf.rob∨c.fetched.length=0
  ·rw[qT h0];exact⟨h.ro,h.lo,by have:=h.nx;omega,h.da,h.wo,h.sp,h.pg⟩
  ·have hx:c.fetched[0]?=some (c.fetched[0]'omT):=aA omT;have e:=uG (n:=n+1) (k:=0) omT (λ r=>h0 (.inl r)) hx;rw[show n+1 - (0+1)=n by omega,show n+1 - 0=n+1 by omega]at e;rw[←e,show q+((n+1:Nat):Int)=(q+1)+(n:Nat) by omega];have hw:wrap64 (c.next+1)=c.next+1:=NG (by have:=h.lo;omega) (by have:=h.nx;omega);have he:=Tw (M:=c.mem.size) c.next (f:=c.fetched[0]'omT) hp;refine Ge n (q+1) _ hp omT ⟨?_,?_,?_,h.da,h.wo,h.sp,h.pg⟩
   ·show RoLst c.mem.size (wrap64 (c.next+1)) (c.rob++[_]);rw[hw];exact h.ro.push he.1 he.2
   ·show 0≤wrap64 (c.next+1);rw[hw];have:=h.lo;omega
   ·show wrap64 (c.next+1)≤_;rw[hw];have:=h.nx;omega
theorem EF{q:Int}:∀ (n:Nat) (c:Co),RcCor q c→RcCor q (dW n c)
 |0,_,h=>h
 | n +1,c,h=>by
  by_cases h0:c.stop=true∨(c.fetched.length:Int)≥c.conf.queue
  ·rw[pL h0];exact h
  ·by_cases hf:(fetchP c.prog c.fetch).isSome=false
   ·rw[qU omT h0 hf];exact⟨h.ro,h.lo,h.nx,h.da,h.wo,h.sp,h.pg⟩
   ·by_cases hw:(bE c.words (lineOf c.fetch)).2.isSome=false
    ·rw[nJ omT h0 hf hw];split
     ·exact⟨h.ro,h.lo,h.nx,h.da,h.wo,h.sp,h.pg⟩
     ·exact h
    ·have e:=sN (n:=n+1) (k:=0) omT h0 hf hw;rw[show n+1 - (0+1)=n by omega,show n+1 - 0=n+1 by omega]at e;rw[←e];refine EF n _ ?_;have ht:=EE c.words (lineOf c.fetch);have hT:RcCor q (gU c):=⟨h.ro,h.lo,h.nx,h.da,by show ((mG _ _).sets.length:Int)=_∧(mG _ _).ways=_;rw[ht.1,ht.2];exact h.wo,h.sp,h.pg⟩;have hb:∀ w,RcCor q (cH (gU c) w).1:=by
      intro w;unfold cH
      repeat' split
      all_goals exact⟨hT.ro,hT.lo,hT.nx,hT.da,hT.wo,hT.sp,hT.pg⟩
     have k:=hb (fetchW c.prog c.fetch);exact⟨k.ro,k.lo,k.nx,k.da,k.wo,k.sp,k.pg⟩
theorem QN{q:Int}{c:Co}(h:RcCor q c):RcCor q (oV c):=by
 have h1:RcCor q (aT c):=by
  refine⟨h.ro,h.lo,h.nx,?_,h.wo,?_,h.pg⟩
  ·show ((mK c.stores c.data).2.1.sets.length:Int)=_∧(mK c.stores c.data).2.1.ways=_;unfold mK;split
   ·exact h.da
   ·rename_i p l _;have:=Ld c.data p.addr p.data;split
    ·rw[this.1,this.2];exact h.da
    ·exact h.da
  ·show ∀ p∈(mK c.stores c.data).1,_;unfold mK;split
   ·exact h.sp
   ·rename_i p l hs;split
    ·exact λ y hy=>h.sp y (by rw[hs];exact bF _ hy)
    ·exact h.sp
 have hA:∀ {d:Co},RcCor q d→RcCor q (lJ d):=λ {d} k=>by
  unfold lJ;split
  ·exact k
  ·split
   ·exact⟨k.ro,k.lo,k.nx,k.da,k.wo,k.sp,k.pg⟩
   ·exact k
 have hB:∀ {d:Co},RcCor q d→RcCor q (jM d):=λ {d} k=>by
  unfold jM;split
  ·exact k
  ·unfold lD;split
   ·split
    ·rename_i w _ _;have:=Le d.data w.line;exact⟨k.ro,k.lo,k.nx,by show ((oH _ _).sets.length:Int)=_∧(oH _ _).ways=_;rw[this.1,this.2];exact k.da,k.wo,k.sp,k.pg⟩
    ·exact k
   ·exact k
 rw[iR];split
 ·exact hB (hA h1)
 ·exact hB h1
theorem Ar(n lo hi:Int)(h:0≤lo∧lo≤hi):0≤bH n lo hi:=by unfold bH;(repeat' split)<;>omega
theorem Yy(c:Cf)(prog:List Nat)(m:ByteArray):Bd (bP c) 0 (fN c prog m):=
 ⟨rfl,Ar _ 2 8 (by decide),Ar _ 1 4 (by decide),Ar _ 1 4 (by decide),Ar _ 2 6 (by decide),rfl⟩
theorem Rb(c:Cf):0≤(bP c).rob∧0≤(bP c).queue:=⟨Ar _ 2 8 (by decide),Ar _ 1 4 (by decide)⟩
theorem ZN{f:Cf}(h0:0≤f.rob∧0≤f.queue){c:Co}(h:Bd f c.retired.length c):Bd f (kN c).retired.length (kN c)∧c.retired.length≤(kN c).retired.length∧(kN c).retired.length≤c.retired.length+f.width.toNat:=by
 obtain⟨b,h1,h2,h3⟩:=WE h0 h;have:=h3.ret;subst this;exact⟨h3,h1,h2⟩
def NL(prog:List Nat):List Nat:=prog.take (min prog.length 64)
def TH(m:ByteArray):ByteArray:=m.extract 0 (min m.size 300)
def upTo(a:Int)(hi:Nat):Nat:=(min (max a 0) hi).toNat
theorem WJ(a:Int)(hi:Nat):upTo a hi≤hi:=by unfold upTo;omega
theorem WK(a:Int)(hi:Nat):(if (hi:Int)<max a 0 then (hi:Int)else max a 0)=((upTo a hi:Nat):Int):=by unfold upTo;split<;>omega
theorem Yz(a b:Int):(if b>a then b else a)=max a b:=by split<;>omega
theorem RcCor.mono{q r:Int}{c:Co}(h:RcCor q c)(hq:q≤r):RcCor r c:=⟨h.ro,h.lo,by have:=h.nx;omega,h.da,h.wo,h.sp,h.pg⟩
theorem Wx{q:Int}{c:Co}{n:Nat}(hm:c.okM n)(hb:n+20≤890000)(hq:q+2≤9000000)(h:RcCor q c):RcCor (q+2) (PG c):=by
 have hk:=IR hm hb;have h0:RcCor q (s0 c):=⟨h.ro,h.lo,h.nx,h.da,h.wo,h.sp,h.pg⟩;have h3:RcCor q (s3 c):=AW _ _ (Tu (Tt h0));have h4:RcCor q (s4 c):=QM hk.k3 omT h3;have h5:RcCor (q+2) (s5 c):=by
  show RcCor (q+2) (gW (s4 c));have hw:=mT hk.k4.cf;unfold gW;split
  ·exact h4.mono omT
  ·exact (Ge _ q _ hk.k4.ok.progo omT h4).mono omT
 have h6:RcCor (q+2) (s6 c):=by
  show RcCor (q+2) (dJ (s5 c));unfold dJ;split
  ·exact h5
  ·exact EF _ _ h5
 exact QN h6
theorem ED{x:ByteArray}(h:∃ n,x.size=upS n):qK x=x:=by
 obtain⟨n,hn⟩:=h;have hu:x.size=16∨x.size=32∨x.size=64∨x.size=128∨x.size=256:=by rw[hn];unfold upS;(repeat' split)<;>omega
 unfold qK;rw[show min x.size 256=x.size by omega,show upS x.size - x.size=0 by rcases hu with e|e|e|e|e<;>rw[e]<;>rfl,List.replicate_zero,dQ,show x.extract 0 x.size=x by simp]
 try (cases x;simp)
theorem QH{f:Cf}{a n:Nat}{q:Int}{c:Co}(hm:c.okM n)(hB:Bd f a c)(h:RcCor q c)(hs:∃ n,c.mem.size=upS n):fS c=true:=by
 have hc:=mT hm.cf;have b1:=hB.rob;have b2:=hB.fet;have b3:=hB.sto;rw[←hB.conf]at b1 b2 b3;unfold fS;simp only[aI,aP,iH];refine⟨⟨⟨⟨⟨⟨⟨⟨⟨⟨⟨hm.cf,h.pg⟩,?_⟩,h.ro.right omT⟩,b1⟩,λ e he=>(h.ro.ev e he).2⟩,?_⟩,?_⟩,hm.guess⟩,b2⟩,b3⟩,h.sp⟩
 ·rw[ED hs];simp
 ·unfold tM;simp only[aI,aP];exact⟨⟨hm.data,h.da.1⟩,h.da.2⟩
 ·unfold tM;simp only[aI,aP];exact⟨⟨hm.words,h.wo.1⟩,h.wo.2⟩
structure GdRun(X:Co)(k:Nat):Prop where
 ok:(jG X k).ok (10 * k)
 bd:Bd X.conf (jG X k).retired.length (jG X k)
 rc:RcCor (1+2 * k) (jG X k)
 ms:∃ n,(jG X k).mem.size=upS n
 rt:fS (jG X k)=true
theorem Yv(cf:Cf)(prog:List Nat)(m:ByteArray)(hc:cf.ok)(hp:∀ x∈prog,x≤4294967295)(X:Co)(hX:X=fN cf prog m)(hr:fS X=true):GdRun X 0:=by
 have h0:=GZ cf prog m hc hp;have hm:(fN cf prog m).okM 0:=zA h0 (by decide) (hX ▸ hr);subst hX;refine⟨h0,Yy cf prog m,⟨RoLst.nil,(show (0:Int)≤1 from by decide),(show (1:Int)≤1+2*((0:Nat):Int)from by decide),?_,?_,λ p hp=>(List.not_mem_nil hp).elim,?_⟩,⟨_,yF m⟩,hr⟩
 ·unfold fS at hr;simp only[aI,aP]at hr;obtain⟨⟨⟨⟨⟨⟨-,h7⟩, -⟩, -⟩, -⟩, -⟩, -⟩:=hr;unfold tM at h7;simp only[aI,aP]at h7;exact⟨h7.1.2,h7.2⟩
 ·unfold fS at hr;simp only[aI,aP]at hr;obtain⟨⟨⟨⟨⟨-,h8⟩, -⟩, -⟩, -⟩, -⟩:=hr;unfold tM at h8;simp only[aI,aP]at h8;exact⟨h8.1.2,h8.2⟩
 ·show (prog.take (min prog.length 64)).length≤64;rw[aN];omega
theorem GdRun.next{X:Co}{k:Nat}(h:GdRun X k)(hk:k≤3000)(h0:0≤X.conf.rob∧0≤X.conf.queue):GdRun X (k+1):=by
 have hm:=zA h.ok omT h.rt;have hs:kN (jG X k)=PG (jG X k):=if_pos h.rt;have hB:=(ZN h0 h.bd).1;have hR:=Wx hm omT omT h.rc;have hM:∃ n,(jG X (k+1)).mem.size=upS n:=by
  obtain⟨n,hn⟩:=h.ms;exact⟨n,(WI h.rt).2.2.trans hn⟩
 have hk7:=(IR hm omT).k7;have hR2:RcCor (1+2 * ((k+1:Nat):Int)) (jG X (k+1)):=by
  show RcCor _ (kN (jG X k));rw[hs,show 1+2 * ((k+1:Nat):Int)=1+2 * (k:Int)+2 by omega];exact hR
 have hk8:(jG X (k+1)).okM (10 * k+10):=by show (kN (jG X k)).okM _;rw[hs];exact hk7
 exact⟨by rw[show 10 * (k+1)=10 * k+10 by omega];exact hk8.ok,hB,hR2,hM,QH hk8 hB hR2 hM⟩
theorem Uy{X:Co}(h:GdRun X 0)(h0:0≤X.conf.rob∧0≤X.conf.queue):∀ k,k≤3000→GdRun X k
 |0,_=>h
 |k+1,hk=>(Uy h h0 k omT).next omT h0
theorem QI(cf:Cf)(prog:List Nat)(m:ByteArray)(h0:(fN cf prog m).ok 0):fS (fN cf prog m)=true:=by
 have hc:∀ n lo hi:Int,lo≤hi→lo≤bH n lo hi∧bH n lo hi≤hi:=λ n lo hi h=>by unfold bH;(repeat' split)<;>omega
 have hcf:sW (bP cf)=true:=by
  unfold sW inI bP;have h1:=hc cf.mode 0 2 (by decide);have h2:=hc cf.width 1 2 (by decide);have h3:=hc cf.rob 2 8 (by decide);have h4:=hc cf.queue 1 4 (by decide);have h5:=hc cf.stores 1 4 (by decide);have h6:=hc cf.slots 2 6 (by decide);have h7:=hc cf.sets 1 4 (by decide);have h8:=hc cf.ways 1 2 (by decide);have h9:(1≤(if bH cf.sets 1 4=3 then 2 else bH cf.sets 1 4))∧(if bH cf.sets 1 4=3 then 2 else bH cf.sets 1 4)≤4∧(if bH cf.sets 1 4=3 then 2 else bH cf.sets 1 4)≠3:=by split<;>omega
  simp only[aI,aP,iH,ge_iff_le,ne_eq];refine⟨⟨⟨⟨⟨⟨⟨⟨⟨⟨⟨λ x hx=>?_,h1⟩,h2⟩,h3⟩,h4⟩,h5⟩,h6⟩,⟨h9.1,h9.2.1⟩⟩,h9.2.2⟩,h8⟩,?_⟩,?_⟩
  ·obtain⟨y,_,rfl⟩:=rQ.1 hx;exact hc y 1 8 (by decide)
  ·rw[aF,aN];omega
  ·rw[aN];omega
 have hcl:=mT hcf;have hCa:∀ s w:Int,(s=1∨s=2∨s=4)→(w=1∨w=2)→tM (Av s w) { (bP cf)with sets:=s,ways:=w}=true:=by
  intro s w hs hw;rcases hs with rfl|rfl|rfl<;>rcases hw with rfl|rfl<;>rfl
 have hsets:(bP cf).sets=1∨(bP cf).sets=2∨(bP cf).sets=4:=by
  have:=hc cf.sets 1 4 (by decide);show (if bH cf.sets 1 4=3 then 2 else bH cf.sets 1 4)=1∨(if bH cf.sets 1 4=3 then 2 else bH cf.sets 1 4)=2∨(if bH cf.sets 1 4=3 then 2 else bH cf.sets 1 4)=4;split<;>omega
 have hways:(bP cf).ways=1∨(bP cf).ways=2:=by
  have:=hc cf.ways 1 2 (by decide);show bH cf.ways 1 2=1∨bH cf.ways 1 2=2;omega
 have hf:=hCa _ _ hsets hways;unfold fS;have hm:(fN cf prog m).mem=qK m:=rfl;rw[show qK (fN cf prog m).mem=(fN cf prog m).mem from ED ⟨_,yF m⟩];simp only[aI,aP,iH];refine⟨⟨⟨⟨⟨⟨⟨⟨⟨⟨⟨hcf,?_⟩,by simp⟩,rfl⟩,?_⟩,λ e he=>(List.not_mem_nil he).elim⟩,hf⟩,hf⟩,rfl⟩,?_⟩,?_⟩,λ e he=>(List.not_mem_nil he).elim⟩
 ·show (prog.take (min prog.length 64)).length≤64;rw[aN];omega
 ·show ((0:Nat):Int)≤(bP cf).rob;omega
 ·show ((0:Nat):Int)≤(bP cf).queue;omega
 ·show ((0:Nat):Int)≤(bP cf).stores;omega
end Go.Proofs.YtlhofpglndhfaaaGreatDoor
