/- Lemmas. -/
import Derived.WideShapes
import Derived.Test.YtlpkggpdjobpmaaGreatDoorS1
import Derived.Test.YtlpkggpdjobpmaaGreatDoorS8
import Derived.Test.YtlpkggpdjobpmaaGreatDoorS30
import Derived.Test.YtlpkggpdjobpmaaGreatDoorS31
import Derived.Test.YtlpkggpdjobpmaaGreatDoorS35
set_option linter.all false
namespace Go.Proofs.YtlpkggpdjobpmaaGreatDoor
open Go.RowKit
def EL{c}{n}(h:c.ok n)(hb:n<=890000)(hr:jF c=true):c.okM n:=by
 unfold jF at hr;simp only[aP,aY]at hr;obtain⟨⟨⟨⟨⟨⟨⟨⟨⟨⟨⟨h1,h2⟩,h3⟩,h4⟩,h5⟩,h6⟩,h7⟩,h8⟩,h9⟩,h10⟩,h11⟩,h12⟩:=hr;unfold Ax at h7 h8;simp only[aP,aY]at h7 h8;have hc:=pD h1;have hm:c.mem.size<=256:=by
  have e:c.mem.toList=(jB c.mem).toList:=sU h3;have e2:c.mem.size=(jB c.mem).size:=by rw[<-afJ, <-afJ _,e]
  rw[e2,wE];unfold upS;repeat' split
  all_goals omega
 have hs:∀x∈c.agF,x.data.size<=4:=λx hx=>by
  have:=rC.1 h12 x hx;unfold kZ at this;simp only[aP,aY]at this;omega
 exact⟨h,hb,h1,h7.1.1,h8.1.1,h9,oT,oT,oT,oT,hm,hs⟩
def ab5(K:AH)(m b1 s2:Nat)(c:Co)(F S T:AV)(h':AH):Prop:=
 (c.agI=[]∧h'=upd K m (some (.box (mcX c (.sl 17 [] false) F S T))))∨
 ∃(b:Nat) (A B:List Ent) (k:Bool),(b=b1∨b=s2)∧A.length+c.agI.length+B.length<=1000∧h'=upd (upd K m (some (.box (mcX c (.osl b A.length c.agI.length k) F S T)))) b (some (.arr ((A++c.agI++B).map enL) 17))
def Qp{f}{b0}{c}{kF kS kT}{xF xS xT}(H:pM C0.P C0.G f [.ptr 0 0] (heapF [(0,b0)]) 1 (λx h'=>x=.tup []∧VF 1 c (.sl 2 xF kF) (.sl 2 xS kS) (.sl 9 xT kT) h'))(m)(K)(s2)(hL:FrL (λ_=>m) K 1 s2 [(0,b0)]):
  pM C0.P C0.G f [.ptr m 0] K s2 (λx h'=>x=.tup []∧ab5 K m s2 s2 c (.sl 2 xF kF) (.sl 2 xS kS) (.sl 9 xT kT) h'):=by
 refine H.frameL (λ_=>m) K s2 rfl hL rfl rfl _ λr' h' hP=>?_;obtain⟨rfl,hP⟩:=hP;rcases hP with ⟨h0,rfl⟩|⟨b,A,B,k,hb,hl,rfl⟩
 ·refine⟨_,⟨rfl,.inl ⟨h0,rfl⟩⟩,λy blk hy=>?_⟩;by_cases he:y=m
  ·subst he;rw[dB]at hy;injection hy with hy;subst hy;exact .inl ⟨0,_,rfl,rfl,rfl⟩
  rw[cI _ _ he]at hy;exact .inr ⟨hy,λx _ e=>he e.symm⟩
 have hb1:b=1:=oT;subst hb1;refine⟨_,⟨rfl,.inr ⟨s2,A,B,k,.inr rfl,hl,rfl⟩⟩,λy blk hy=>?_⟩;by_cases hs:y=s2
 ·subst hs;rw[dB]at hy;injection hy with hy;subst hy;exact .inl ⟨1,_,rfl,(wD _ _ _).symm,rfl⟩
 rw[cI _ _ hs]at hy;by_cases he:y=m
 ·subst he;rw[dB]at hy;injection hy with hy;subst hy;exact .inl ⟨0,_,rfl,rfl,rfl⟩
 rw[cI _ _ he]at hy;exact .inr ⟨hy,λx _ e=>he e.symm⟩
def Qq{f}{b0 b1}{c}{kF kS kT}{xF xS xT}(H:pM C0.P C0.G f [.ptr 0 0] (heapF [(0,b0),(1,b1)]) 2 (λx h'=>x=.tup []∧VF 2 c (.sl 2 xF kF) (.sl 2 xS kS) (.sl 9 xT kT) h'))(m nb)(K)(s2)(hL:FrL (λz=>match z with|0=>m|_=>nb) K 2 s2 [(0,b0),(1,b1)])(hne:m≠nb):
  pM C0.P C0.G f [.ptr m 0] K s2 (λx h'=>x=.tup []∧ab5 (upd K nb none) m nb s2 c (.sl 2 xF kF) (.sl 2 xS kS) (.sl 9 xT kT) h'):=by
 have hi:UQ (λz=>match z with|0=>m|_=>nb) 2=true:=by
  have:Nat.beq m nb=false:=by rw[<-eJ];exact λe=>hne (aO e)
  simp[UQ,List.range,List.range.loop,this]
 have hr0:∀y, ¬y=m-> ¬y=nb->∀x,x<2->(λz=>match z with|0=>m|_=>nb) x≠y:=by
  intro y h1 h2 x _ e
  cases x with
  |zero=>exact h1 e.symm
  |succ x=>exact h2 e.symm
 refine H.frameL (λz=>match z with|0=>m|_=>nb) K s2 rfl hL hi rfl _ λr' h' hP=>?_;obtain⟨rfl,hP⟩:=hP;rcases hP with ⟨h0,rfl⟩|⟨b,A,B,k,hb,hl,rfl⟩
 ·refine⟨_,⟨rfl,.inl ⟨h0,rfl⟩⟩,λy blk hy=>?_⟩;by_cases he:y=m
  ·subst he;rw[dB]at hy;injection hy with hy;subst hy;exact .inl ⟨0,_,rfl,rfl,rfl⟩
  ·rw[cI _ _ he]at hy;by_cases hq:y=nb
   ·subst hq;rw[dB]at hy;cases hy
   ·rw[cI _ _ hq]at hy;exact .inr ⟨hy,hr0 y he hq⟩
 ·have hb2:b=1∨b=2:=oT;have key:∀bn,bn=Gg (λz=>match z with|0=>m|_=>nb) 2 s2 b->(bn=nb∨bn=s2)->∃K',((uW (Gg (λz=>match z with|0=>m|_=>nb) 2 s2) (.tup [])=.tup [])∧ab5 (upd K nb none) m nb s2 c (.sl 2 xF kF) (.sl 2 xS kS) (.sl 9 xT kT) K')∧∀y blk,K' y=some blk->(∃x blk0,heapF [(0,.box (mcX c (.osl b A.length c.agI.length k) (.sl 2 xF kF) (.sl 2 xS kS) (.sl 9 xT kT))),(b,.arr ((A++c.agI++B).map enL) 17)] x=some blk0∧y=Gg (λz=>match z with|0=>m|_=>nb) 2 s2 x∧blk=DI (Gg (λz=>match z with|0=>m|_=>nb) 2 s2) blk0)∨(K y=some blk∧∀x,x<2->(λz=>match z with|0=>m|_=>nb) x≠y):=by
   intro bn hbn hor;refine⟨_,⟨rfl,.inr ⟨bn,A,B,k,hor,hl,rfl⟩⟩,λy blk hy=>?_⟩;by_cases hs:y=bn
   ·subst hs;rw[dB]at hy;injection hy with hy;subst hy;refine .inl ⟨b,.arr ((A++c.agI++B).map enL) 17,?_,hbn,rfl⟩;rcases hb2 with rfl|rfl<;>rfl
   ·rw[cI _ _ hs]at hy;by_cases he:y=m
    ·subst he;rw[dB]at hy;injection hy with hy;subst hy;refine .inl ⟨0,_,rfl,rfl,?_⟩;rw[hbn];rfl
    ·rw[cI _ _ he]at hy;by_cases hq:y=nb
     ·subst hq;rw[dB]at hy;cases hy
     ·rw[cI _ _ hq]at hy;exact .inr ⟨hy,hr0 y he hq⟩
  rcases hb2 with rfl|rfl
  ·exact key nb rfl (.inl rfl)
  ·exact key s2 rfl (.inr rfl)
def Zn{f}{b0}{n}{c}{kF kS kT}{xF xS xT}{rows}(H:pM C0.P C0.G f [.ptr 0 0] (heapF [(0,b0)]) 1 (λx h'=>x=.tup []∧h'=heapF [(0,.box (mcX c (.osl 1 0 n false) (.sl 2 xF kF) (.sl 2 xS kS) (.sl 9 xT kT))),(1,.arr rows 17)]))(m)(K)(s2)(hL:FrL (λ_=>m) K 1 s2 [(0,b0)]):
  pM C0.P C0.G f [.ptr m 0] K s2 (λx h'=>x=.tup []∧h'=upd (upd K m (some (.box (mcX c (.osl s2 0 n false) (.sl 2 xF kF) (.sl 2 xS kS) (.sl 9 xT kT))))) s2 (some (.arr rows 17))):=by
 refine H.frameL (λ_=>m) K s2 rfl hL rfl rfl _ λr' h' hP=>?_;obtain⟨rfl,rfl⟩:=hP;refine⟨_,⟨rfl,rfl⟩,λy blk hy=>?_⟩;by_cases hs:y=s2
 ·subst hs;rw[dB]at hy;injection hy with hy;subst hy;exact .inl ⟨1,_,rfl,(wD _ _ _).symm,rfl⟩
 rw[cI _ _ hs]at hy;by_cases he:y=m
 ·subst he;rw[dB]at hy;injection hy with hy;subst hy;exact .inl ⟨0,_,rfl,rfl,rfl⟩
 rw[cI _ _ he]at hy;exact .inr ⟨hy,λx _ e=>he e.symm⟩
open Go.Proofs.Tryz
set_option maxRecDepth 100000
set_option maxHeartbeats 4000000
def s0(c:Co):Co:={c with cycle:=wrap64 (c.cycle+1)}
def s1(c:Co):Co:=lM (s0 c)
def s2(c:Co):Co:=kK (s1 c)
def s3(c:Co):Co:=af7 (s2 c)
def s4(c:Co):Co:=gY (s3 c)
def s5(c:Co):Co:=lP (s4 c)
def s6(c:Co):Co:=eN (s5 c)
def s7(c:Co):Co:=tY (s6 c)
def TM(c:Co):ZJ c=s7 c:=rfl
def Zf{c:Co}{n:Nat}(h:c.okM n):(s0 c).okM n:=⟨⟨h.ok.agL,h.ok.prog,h.ok.progo,h.ok.r,h.ok.agM,h.ok.fet,h.ok.feto,h.ok.agI,h.ok.agX,h.ok.sto,h.ok.stoo,h.ok.data,h.ok.agO,h.ok.agS,h.ok.buso,h.ok.asked,h.ok.agT,h.ok.mem,h.ok.agK,h.ok.ret,h.ok.reto⟩,h.nb,h.cf,h.data,h.agO,h.agK,h.agI,h.fet,h.sto,h.prog,h.mem,h.std⟩
structure StepOk(c:Co)(n:Nat):Prop where
 k0:(s0 c).okM n
 k1:(s1 c).okM (n+1)
 k2:(s2 c).okM (n+1)
 k3:(s3 c).okM (n+5)
 k4:(s4 c).okM (n+7)
 k5:(s5 c).okM (n+7)
 k6:(s6 c).okM (n+8)
 k7:(s7 c).okM (n+10)
def Ql{c}{n}(h:c.okM n)(hb:n+20<=890000):StepOk c n:=by
 have k0:=Zf h;have k1:(s1 c).okM (n+1):=LH k0 omT;have k2:(s2 c).okM (n+1):=LJ k1;have k3:(s3 c).okM (n+5):=Ih k2 omT;have k4:(s4 c).okM (n+7):=JX k3 omT;have k5:(s5 c).okM (n+7):=(Ai k4).1;have k6:(s6 c).okM (n+8):=(uX k5 omT).1;exact⟨k0,k1,k2,k3,k4,k5,k6,(wX k6 omT).1⟩
def xX{c}{n}(h:c.ok n)(hb:n+20<=890000):(uG c).ok (n+10):=by
 unfold uG;split
 ·rename_i hr;rw[TM];exact(Ql (EL h omT hr) hb).k7.ok
 exact⟨h.agL,h.prog,h.progo,h.r,h.agM,h.fet,h.feto,h.agI,h.agX,h.sto,h.stoo,h.data,h.agO,aL h.agS omT,h.buso,h.asked,h.agT,h.mem,h.agK,aL h.ret omT,h.reto⟩
def Ie{c}{R R' F F' S S' T T'}(hR:R=R')(hF:F=F')(hS:S=S')(hT:T=T'):some (Blk.box (mcX c R F S T))=some (Blk.box (mcX c R' F' S' T')):=by rw[hR,hF,hS,hT]
inductive Stg where
 |e0|o0|e1|o1|e2
 |o2 (A B:List Ent) (k:Bool)
 |e3
 |o3 (A B:List Ent) (k:Bool)
 |s4|s5|s6|s7
def ab1(c)(nb)(hm:c.okM nb)(hne:c.agI≠[])(kR kF kS kT):pM C0.P C0.G 17 [.ptr 0 0] (heapF [(0,.box (mcX c (.sl 17 (c.agI.map enL) kR) (.sl 2 (c.agH.map ftL) kF) (.sl 2 (c.agF.map ptL) kS) (.sl 9 (c.agG.map spL) kT)))]) 1 (λx h'=>x=.tup []∧h'=heapF [(0,.box (mcX c (.osl 1 0 c.agI.length false) (.sl 2 (c.agH.map ftL) true) (.sl 2 (c.agF.map ptL) true) (.sl 9 (c.agG.map spL) true))),(1,.arr (c.agI.map enL) 17)]):=by
 obtain⟨e,l,hel⟩:=List.exists_cons_of_ne_nil hne;have hl:=hm.agI;rw[hel]at hl⊢;exact acR c nb hm e l hl kR kF kS kT
def WI(c)(nb)(hm:c.okM nb)(A B)(lo n)(kR)(hlo:A.length=lo)(hn:c.agI.length=n)(hA:A.length+n+B.length<=1000)(hAo:∀x∈A,x.ok)(hBo:∀x∈B,x.ok)(kS kT)(xS xT):pM C0.P C0.G 19 [.ptr 0 0] (heapF [(0,.box (mcX c (.osl 1 lo n kR) (.sl 2 (c.agH.map ftL) true) (.sl 2 xS kS) (.sl 9 xT kT))),(1,.arr ((A++c.agI++B).map enL) 17)]) 2 (λx h'=>x=.tup []∧VF 2 (kK c) (.sl 2 ((kK c).agH.map ftL) true) (.sl 2 xS kS) (.sl 9 xT kT) h'):=by
 cases hw:yD (afD c)with
 |none=>exact WP c nb hm A B lo n kR hlo hn hA hAo hBo hw kS kT xS xT
 |some i=>exact WQ c nb hm A B lo n kR hlo hn hA hAo hBo i hw kS kT xS xT
def Qm{α}{l m:List α}(h:l=[])(e:m.length=l.length):[]=m:=by
 subst h;exact(afC e).symm
def VB{b}(h:(!b)=true): ¬b=true:=by cases b<;>simp_all
def Zg(c)(nb)(hok:c.ok nb)(hb:nb+20<=890000)(hr:jF c=false):bI C0 7 [.agg (coL c)] (.agg (coL (uG c))):=by
 refine dJZ func7 rfl<|zC (Ip c nb hok omT)<|aV rfl (λ_=>?_) (λh1=>by exact absurd (dQ (sI h1)) (by rw[hr];decide));refine qCN 0 rfl<|rSt rfl<|qRF 0 rfl ?_;rw[show uG c=c from dZ (by rw[hr];decide)];exact dK rfl tvT rfl rfl
noncomputable def ad8:Code->Code
 | .seq a _=>a
 |c=>c
noncomputable def WJ:Code->Code
 | .seq _ b=>b
 |c=>c
noncomputable def WK:Code:=(WJ (ad8 (WJ (WJ (WJ (WJ (WJ (WJ (Tryz.f7.body.getD .skip)))))))))
abbrev adK(c:Co):Stg->ASt:=λz_=>match z_ with| .e0=>⟨slotsF [(2,.ptr 1 0),(9,vB (!(jF c))),(3,.ptr 7 0),(21,.agg [.clo 18 [] [],.clo 19 [] [],.clo 20 [] [],.clo 21 [] [],.clo 22 [] [],.clo 23 [] [],.clo 24 [] []]),(22,vI 0)],heapF [(1,.box zCo),(7,.box (mcX (s0 c) (.sl 17 ([]) false) (.sl 2 ((s0 c).agH.map ftL) true) (.sl 2 ((s0 c).agF.map ptL) true) (.sl 9 ((s0 c).agG.map spL) true)))],23⟩| .o0=>⟨slotsF [(2,.ptr 1 0),(9,vB (!(jF c))),(3,.ptr 7 0),(21,.agg [.clo 18 [] [],.clo 19 [] [],.clo 20 [] [],.clo 21 [] [],.clo 22 [] [],.clo 23 [] [],.clo 24 [] []]),(22,vI 0)],heapF [(1,.box zCo),(7,.box (mcX (s0 c) (.osl 22 0 c.agI.length false) (.sl 2 ((s0 c).agH.map ftL) true) (.sl 2 ((s0 c).agF.map ptL) true) (.sl 9 ((s0 c).agG.map spL) true))),(22,.arr ((([]:List Ent)++(s0 c).agI++[]).map enL) 17)],23⟩| .e1=>⟨slotsF [(2,.ptr 1 0),(9,vB (!(jF c))),(3,.ptr 7 0),(21,.agg [.clo 18 [] [],.clo 19 [] [],.clo 20 [] [],.clo 21 [] [],.clo 22 [] [],.clo 23 [] [],.clo 24 [] []]),(22,vI 1)],heapF [(1,.box zCo),(7,.box (mcX (s1 c) (.sl 17 ([]) false) (.sl 2 ((s1 c).agH.map ftL) true) (.sl 2 ((s1 c).agF.map ptL) true) (.sl 9 ((s1 c).agG.map spL) true)))],23⟩| .o1=>⟨slotsF [(2,.ptr 1 0),(9,vB (!(jF c))),(3,.ptr 7 0),(21,.agg [.clo 18 [] [],.clo 19 [] [],.clo 20 [] [],.clo 21 [] [],.clo 22 [] [],.clo 23 [] [],.clo 24 [] []]),(22,vI 1)],heapF [(1,.box zCo),(7,.box (mcX (s1 c) (.osl 22 0 c.agI.length false) (.sl 2 ((s1 c).agH.map ftL) true) (.sl 2 ((s1 c).agF.map ptL) true) (.sl 9 ((s1 c).agG.map spL) true))),(22,.arr ((([]:List Ent)++(s1 c).agI++[]).map enL) 17)],23⟩| .e2=>⟨slotsF [(2,.ptr 1 0),(9,vB (!(jF c))),(3,.ptr 7 0),(21,.agg [.clo 18 [] [],.clo 19 [] [],.clo 20 [] [],.clo 21 [] [],.clo 22 [] [],.clo 23 [] [],.clo 24 [] []]),(22,vI 2)],heapF [(1,.box zCo),(7,.box (mcX (s2 c) (.sl 17 ([]) false) (.sl 2 ((s2 c).agH.map ftL) true) (.sl 2 ((s2 c).agF.map ptL) true) (.sl 9 ((s2 c).agG.map spL) true)))],23⟩| .o2 A B kk=>⟨slotsF [(2,.ptr 1 0),(9,vB (!(jF c))),(3,.ptr 7 0),(21,.agg [.clo 18 [] [],.clo 19 [] [],.clo 20 [] [],.clo 21 [] [],.clo 22 [] [],.clo 23 [] [],.clo 24 [] []]),(22,vI 2)],heapF [(1,.box zCo),(7,.box (mcX (s2 c) (.osl 22 A.length ((s2 c).agI.length) kk) (.sl 2 ((s2 c).agH.map ftL) true) (.sl 2 ((s2 c).agF.map ptL) true) (.sl 9 ((s2 c).agG.map spL) true))),(22,.arr ((A++(s2 c).agI++B).map enL) 17)],23⟩| .e3=>⟨slotsF [(2,.ptr 1 0),(9,vB (!(jF c))),(3,.ptr 7 0),(21,.agg [.clo 18 [] [],.clo 19 [] [],.clo 20 [] [],.clo 21 [] [],.clo 22 [] [],.clo 23 [] [],.clo 24 [] []]),(22,vI 3)],heapF [(1,.box zCo),(7,.box (mcX (s3 c) (.sl 17 ([]) false) (.sl 2 ((s3 c).agH.map ftL) true) (.sl 2 ((s3 c).agF.map ptL) false) (.sl 9 ((s3 c).agG.map spL) false)))],23⟩| .o3 A B kk=>⟨slotsF [(2,.ptr 1 0),(9,vB (!(jF c))),(3,.ptr 7 0),(21,.agg [.clo 18 [] [],.clo 19 [] [],.clo 20 [] [],.clo 21 [] [],.clo 22 [] [],.clo 23 [] [],.clo 24 [] []]),(22,vI 3)],heapF [(1,.box zCo),(7,.box (mcX (s3 c) (.osl 22 A.length ((s3 c).agI.length) kk) (.sl 2 ((s3 c).agH.map ftL) true) (.sl 2 ((s3 c).agF.map ptL) false) (.sl 9 ((s3 c).agG.map spL) false))),(22,.arr ((A++(s3 c).agI++B).map enL) 17)],23⟩| .s4=>⟨slotsF [(2,.ptr 1 0),(9,vB (!(jF c))),(3,.ptr 7 0),(21,.agg [.clo 18 [] [],.clo 19 [] [],.clo 20 [] [],.clo 21 [] [],.clo 22 [] [],.clo 23 [] [],.clo 24 [] []]),(22,vI 4)],heapF [(1,.box zCo),(7,.box (mcX (s4 c) (.sl 17 ((s4 c).agI.map enL) false) (.sl 2 ((s4 c).agH.map ftL) true) (.sl 2 ((s4 c).agF.map ptL) false) (.sl 9 ((s4 c).agG.map spL) false)))],23⟩| .s5=>⟨slotsF [(2,.ptr 1 0),(9,vB (!(jF c))),(3,.ptr 7 0),(21,.agg [.clo 18 [] [],.clo 19 [] [],.clo 20 [] [],.clo 21 [] [],.clo 22 [] [],.clo 23 [] [],.clo 24 [] []]),(22,vI 5)],heapF [(1,.box zCo),(7,.box (mcX (s5 c) (.sl 17 ((s5 c).agI.map enL) false) (.sl 2 ((s5 c).agH.map ftL) true) (.sl 2 ((s5 c).agF.map ptL) false) (.sl 9 ((s5 c).agG.map spL) false)))],23⟩| .s6=>⟨slotsF [(2,.ptr 1 0),(9,vB (!(jF c))),(3,.ptr 7 0),(21,.agg [.clo 18 [] [],.clo 19 [] [],.clo 20 [] [],.clo 21 [] [],.clo 22 [] [],.clo 23 [] [],.clo 24 [] []]),(22,vI 6)],heapF [(1,.box zCo),(7,.box (mcX (s6 c) (.sl 17 ((s6 c).agI.map enL) false) (.sl 2 ((s6 c).agH.map ftL) false) (.sl 2 ((s6 c).agF.map ptL) false) (.sl 9 ((s6 c).agG.map spL) false)))],23⟩| .s7=>⟨slotsF [(2,.ptr 1 0),(9,vB (!(jF c))),(3,.ptr 7 0),(21,.agg [.clo 18 [] [],.clo 19 [] [],.clo 20 [] [],.clo 21 [] [],.clo 22 [] [],.clo 23 [] [],.clo 24 [] []]),(22,vI 7)],heapF [(1,.box zCo),(7,.box (mcX (s7 c) (.sl 17 ((s7 c).agI.map enL) false) (.sl 2 ((s7 c).agH.map ftL) false) (.sl 2 ((s7 c).agF.map ptL) false) (.sl 9 ((s7 c).agG.map spL) false)))],23⟩
abbrev adL(c:Co):Stg->Prop:=λz_=>match z_ with| .e0=>(s0 c).agI=[]| .e1=>(s1 c).agI=[]| .e2=>(s2 c).agI=[]| .e3=>(s3 c).agI=[]| .o2 A B _=>A.length+(s2 c).agI.length+B.length<=1000| .o3 A B _=>A.length+(s3 c).agI.length+B.length<=1000|_=>True
abbrev ad9:Stg->Nat:=λz_=>match z_ with| .e0| .o0=>7| .e1| .o1=>6| .e2| .o2 _ _ _=>5| .e3| .o3 _ _ _=>4| .s4=>3| .s5=>2| .s6=>1| .s7=>0
def MJ(c)(nb)(hm:c.okM nb)(hb:nb+20<=890000)(hk:StepOk c nb){Q}(hQ:∀st' σ',Weak st' ⟨slotsF [(2,.ptr 1 0),(3,.ptr 7 0)],heapF [(1,.box zCo),(7,.box (mcX (s7 c) (.sl 17 ((s7 c).agI.map enL) false) (.sl 2 ((s7 c).agH.map ftL) false) (.sl 2 ((s7 c).agF.map ptL) false) (.sl 9 ((s7 c).agG.map spL) false)))],23⟩ σ'->Q .normal st')(z0)(hz:adL c z0){st}(σ)(hW:Weak st (adK c z0) σ):eA C1 (bI C1) WK st Q:=by
 refine kO<|sX (adK c) (adL c) ad9 z0 (σ) hW rfl hz ?_;intro z_ hq;rcases z_ with _|_|_|_|_|⟨A,B,kk⟩|_|⟨A,B,kk⟩|_|_|_|_
 ·have hG:(s0 c).agI=[]:=hq;refine cSR<|rV (vB true) rfl<|rE 24<|uR<|aV rfl (λ_=>?_) (λh=>by cases h);refine mF<|uR<|kO<|cSR<|nW (.clo 18 [] []) rfl rfl (⟨dT,dT⟩)<|oR 1 rfl<|rE 26<|cRg<|oR 1 rfl<|fU _ rfl rfl rfl ((WO (s0 c) nb hk.k0 hG true true true ((s0 c).agH.map ftL) ((s0 c).agG.map spL)).fB (λ_=>7)) ?_;rintro _ _ ⟨rfl,rfl⟩;refine rE 28<|cRg<|rV (vI 1) rfl<|oR 1 rfl<|rE 30<|.mk _ (.refl _) ⟨.e1,λi=>i,wOL _ wT ⟨⟨rfl,rfl,rfl⟩,⟨rfl,(Ie rfl (af2 (λz:List Ft=>AV.sl 2 (z.map ftL) true) (show(s0 c).agH=(s1 c).agH from((rG (s0 c)).1).symm)) (af2 (λz:List Pt=>AV.sl 2 (z.map ptL) true) (show(s0 c).agF=(s1 c).agF from((rG (s0 c)).2.1).symm)) (af2 (λz:List Sp=>AV.sl 9 (z.map spL) true) (show(s0 c).agG=(s1 c).agG from((rG (s0 c)).2.2.1).symm))),rfl⟩,trivial⟩ rfl,rfl,(Qm hG (rG (s0 c)).2.2.2).symm,by show(6:Nat)<7;decide⟩
 ·refine cSR<|rV (vB true) rfl<|rE 24<|uR<|aV rfl (λ_=>?_) (λh=>by cases h);refine mF<|uR<|kO<|cSR<|nW (.clo 18 [] []) rfl rfl (⟨dT,dT⟩)<|oR 1 rfl<|rE 26<|cRg<|oR 1 rfl<|fU _ rfl rfl rfl ((Zp (s0 c) nb hk.k0 [] [] 0 c.agI.length false rfl rfl (by have:=hm.agI;simpa using this) true true true ((s0 c).agH.map ftL) ((s0 c).agG.map spL)).fB2 (λz=>match z with|0=>7|_=>22)) ?_;rintro _ _ ⟨rfl,rfl⟩;refine rE 28<|cRg<|rV (vI 1) rfl<|oR 1 rfl<|rE 30<|.mk _ (.refl _) ⟨.o1,λi=>i,wOL _ wT ⟨⟨rfl,rfl,rfl⟩,⟨rfl,(Ie rfl (af2 (λz:List Ft=>AV.sl 2 (z.map ftL) true) (show(s0 c).agH=(s1 c).agH from((rG (s0 c)).1).symm)) (af2 (λz:List Pt=>AV.sl 2 (z.map ptL) true) (show(s0 c).agF=(s1 c).agF from((rG (s0 c)).2.1).symm)) (af2 (λz:List Sp=>AV.sl 9 (z.map spL) true) (show(s0 c).agG=(s1 c).agG from((rG (s0 c)).2.2.1).symm))),rfl⟩,⟨rfl,rfl,rfl⟩,trivial⟩ rfl,rfl,trivial,by show(6:Nat)<7;decide⟩
 ·have hG:(s1 c).agI=[]:=hq;refine cSR<|rV (vB true) rfl<|rE 24<|uR<|aV rfl (λ_=>?_) (λh=>by cases h);refine mF<|uR<|kO<|cSR<|nW (.clo 19 [] []) rfl rfl (⟨dT,dT⟩)<|oR 1 rfl<|rE 26<|cRg<|oR 1 rfl<|fU _ rfl rfl rfl (Qp (WR (s1 c) (nb+1) hk.k1 hG true true ((s1 c).agF.map ptL) ((s1 c).agG.map spL)) 7 _ _ ⟨⟨rfl,rfl,rfl,rfl⟩,trivial⟩) ?_;rintro _ _ ⟨rfl,⟨hz,rfl⟩|⟨_,A,B,kk,rfl|rfl,hl,rfl⟩⟩
  ·refine rE 28<|cRg<|rV (vI 2) rfl<|oR 1 rfl<|rE 30<|.mk _ (.refl _) ⟨.e2,λi=>i,wOL _ wT ⟨⟨rfl,rfl,rfl⟩,⟨rfl,(Ie rfl rfl (af2 (λz:List Pt=>AV.sl 2 (z.map ptL) true) (show(s1 c).agF=(s2 c).agF from((mC (s1 c)).1).symm)) (af2 (λz:List Sp=>AV.sl 9 (z.map spL) true) (show(s1 c).agG=(s2 c).agG from((mC (s1 c)).2).symm))),rfl⟩,trivial⟩ rfl,rfl,hz,by show(5:Nat)<6;decide⟩
  all_goals (refine rE 28<|cRg<|rV (vI 2) rfl<|oR 1 rfl<|rE 30<|.mk _ (.refl _) ⟨(.o2 A B kk),λi=>match i with|22=>27|i=>i,wOL _ wT ⟨⟨rfl,rfl,rfl⟩,⟨rfl,(Ie rfl rfl (af2 (λz:List Pt=>AV.sl 2 (z.map ptL) true) (show(s1 c).agF=(s2 c).agF from((mC (s1 c)).1).symm)) (af2 (λz:List Sp=>AV.sl 9 (z.map spL) true) (show(s1 c).agG=(s2 c).agG from((mC (s1 c)).2).symm))),rfl⟩,⟨rfl,rfl,rfl⟩,trivial⟩ rfl,rfl,hl,by show(5:Nat)<6;decide⟩)
 ·refine cSR<|rV (vB true) rfl<|rE 24<|uR<|aV rfl (λ_=>?_) (λh=>by cases h);refine mF<|uR<|kO<|cSR<|nW (.clo 19 [] []) rfl rfl (⟨dT,dT⟩)<|oR 1 rfl<|rE 26<|cRg<|oR 1 rfl<|fU _ rfl rfl rfl (Qq (WI (s1 c) (nb+1) hk.k1 [] [] 0 c.agI.length false rfl (rG (s0 c)).2.2.2 (by have:=hm.agI;simpa using this) (λx h=>by cases h) (λx h=>by cases h) true true ((s1 c).agF.map ptL) ((s1 c).agG.map spL)) 7 22 _ _ ⟨⟨rfl,rfl,rfl,rfl⟩,⟨rfl,rfl,rfl,rfl⟩,trivial⟩ dT) ?_;rintro _ _ ⟨rfl,⟨hz,rfl⟩|⟨_,A,B,kk,rfl|rfl,hl,rfl⟩⟩
  ·refine rE 28<|cRg<|rV (vI 2) rfl<|oR 1 rfl<|rE 30<|.mk _ (.refl _) ⟨.e2,λi=>i,wOL _ wT ⟨⟨rfl,rfl,rfl⟩,⟨rfl,(Ie rfl rfl (af2 (λz:List Pt=>AV.sl 2 (z.map ptL) true) (show(s1 c).agF=(s2 c).agF from((mC (s1 c)).1).symm)) (af2 (λz:List Sp=>AV.sl 9 (z.map spL) true) (show(s1 c).agG=(s2 c).agG from((mC (s1 c)).2).symm))),rfl⟩,trivial⟩ rfl,rfl,hz,by show(5:Nat)<6;decide⟩
  ·refine rE 28<|cRg<|rV (vI 2) rfl<|oR 1 rfl<|rE 30<|.mk _ (.refl _) ⟨(.o2 A B kk),λi=>i,wOL _ wT ⟨⟨rfl,rfl,rfl⟩,⟨rfl,(Ie rfl rfl (af2 (λz:List Pt=>AV.sl 2 (z.map ptL) true) (show(s1 c).agF=(s2 c).agF from((mC (s1 c)).1).symm)) (af2 (λz:List Sp=>AV.sl 9 (z.map spL) true) (show(s1 c).agG=(s2 c).agG from((mC (s1 c)).2).symm))),rfl⟩,⟨rfl,rfl,rfl⟩,trivial⟩ rfl,rfl,hl,by show(5:Nat)<6;decide⟩
  refine rE 28<|cRg<|rV (vI 2) rfl<|oR 1 rfl<|rE 30<|.mk _ (.refl _) ⟨(.o2 A B kk),λi=>match i with|22=>27|i=>i,wOL _ wT ⟨⟨rfl,rfl,rfl⟩,⟨rfl,(Ie rfl rfl (af2 (λz:List Pt=>AV.sl 2 (z.map ptL) true) (show(s1 c).agF=(s2 c).agF from((mC (s1 c)).1).symm)) (af2 (λz:List Sp=>AV.sl 9 (z.map spL) true) (show(s1 c).agG=(s2 c).agG from((mC (s1 c)).2).symm))),rfl⟩,⟨rfl,rfl,rfl⟩,trivial⟩ rfl,rfl,hl,by show(5:Nat)<6;decide⟩
 ·have hG:(s2 c).agI=[]:=hq;refine cSR<|rV (vB true) rfl<|rE 24<|uR<|aV rfl (λ_=>?_) (λh=>by cases h);refine mF<|uR<|kO<|cSR<|nW (.clo 20 [] []) rfl rfl (⟨dT,dT⟩)<|oR 1 rfl<|rE 26<|cRg<|oR 1 rfl<|fU _ rfl rfl rfl (Qp (Qu (s2 c) (nb+1) hk.k2 hG) 7 _ _ ⟨⟨rfl,rfl,rfl,rfl⟩,trivial⟩) ?_;rintro _ _ ⟨rfl,⟨hz,rfl⟩|⟨_,A,B,kk,rfl|rfl,hl,rfl⟩⟩
  ·refine rE 28<|cRg<|rV (vI 3) rfl<|oR 1 rfl<|rE 30<|.mk _ (.refl _) ⟨.e3,λi=>i,wOL _ wT ⟨⟨rfl,rfl,rfl⟩,⟨rfl,(Ie rfl rfl rfl rfl),rfl⟩,trivial⟩ rfl,rfl,hz,by show(4:Nat)<5;decide⟩
  all_goals (refine rE 28<|cRg<|rV (vI 3) rfl<|oR 1 rfl<|rE 30<|.mk _ (.refl _) ⟨(.o3 A B kk),λi=>match i with|22=>27|i=>i,wOL _ wT ⟨⟨rfl,rfl,rfl⟩,⟨rfl,(Ie rfl rfl rfl rfl),rfl⟩,⟨rfl,rfl,rfl⟩,trivial⟩ rfl,rfl,hl,by show(4:Nat)<5;decide⟩)
 ·have hG:A.length+(s2 c).agI.length+B.length<=1000:=hq;refine cSR<|rV (vB true) rfl<|rE 24<|uR<|aV rfl (λ_=>?_) (λh=>by cases h);refine mF<|uR<|kO<|cSR<|nW (.clo 20 [] []) rfl rfl (⟨dT,dT⟩)<|oR 1 rfl<|rE 26<|cRg<|oR 1 rfl<|fU _ rfl rfl rfl (Qq (TW (s2 c) (nb+1) hk.k2 omT A B A.length (s2 c).agI.length kk rfl rfl hG) 7 22 _ _ ⟨⟨rfl,rfl,rfl,rfl⟩,⟨rfl,rfl,rfl,rfl⟩,trivial⟩ dT) ?_;rintro _ _ ⟨rfl,⟨hz,rfl⟩|⟨_,A,B,kk,rfl|rfl,hl,rfl⟩⟩
  ·refine rE 28<|cRg<|rV (vI 3) rfl<|oR 1 rfl<|rE 30<|.mk _ (.refl _) ⟨.e3,λi=>i,wOL _ wT ⟨⟨rfl,rfl,rfl⟩,⟨rfl,(Ie rfl rfl rfl rfl),rfl⟩,trivial⟩ rfl,rfl,hz,by show(4:Nat)<5;decide⟩
  ·refine rE 28<|cRg<|rV (vI 3) rfl<|oR 1 rfl<|rE 30<|.mk _ (.refl _) ⟨(.o3 A B kk),λi=>i,wOL _ wT ⟨⟨rfl,rfl,rfl⟩,⟨rfl,(Ie rfl rfl rfl rfl),rfl⟩,⟨rfl,rfl,rfl⟩,trivial⟩ rfl,rfl,hl,by show(4:Nat)<5;decide⟩
  refine rE 28<|cRg<|rV (vI 3) rfl<|oR 1 rfl<|rE 30<|.mk _ (.refl _) ⟨(.o3 A B kk),λi=>match i with|22=>27|i=>i,wOL _ wT ⟨⟨rfl,rfl,rfl⟩,⟨rfl,(Ie rfl rfl rfl rfl),rfl⟩,⟨rfl,rfl,rfl⟩,trivial⟩ rfl,rfl,hl,by show(4:Nat)<5;decide⟩
 ·have hG:(s3 c).agI=[]:=hq;refine cSR<|rV (vB true) rfl<|rE 24<|uR<|aV rfl (λ_=>?_) (λh=>by cases h);refine mF<|uR<|kO<|cSR<|nW (.clo 21 [] []) rfl rfl (⟨dT,dT⟩)<|oR 1 rfl<|rE 26<|cRg<|oR 1 rfl<|fU _ rfl rfl rfl ((TX (s3 c) (nb+5) hk.k3 hG true false false ((s3 c).agH.map ftL) ((s3 c).agG.map spL)).fB (λ_=>7)) ?_;rintro _ _ ⟨rfl,rfl⟩;refine rE 28<|cRg<|rV (vI 4) rfl<|oR 1 rfl<|rE 30<|.mk _ (.refl _) ⟨.s4,λi=>i,wOL _ wT ⟨⟨rfl,rfl,rfl⟩,⟨rfl,(Ie (af2 (λz:List Ent=>AV.sl 17 (z.map enL) false) (Qm hG (nO hk.k3 omT).1)) (af2 (λz:List Ft=>AV.sl 2 (z.map ftL) true) (show(s3 c).agH=(s4 c).agH from((nO hk.k3 omT).2.2.1).symm)) rfl (af2 (λz:List Sp=>AV.sl 9 (z.map spL) false) (show(s3 c).agG=(s4 c).agG from((nO hk.k3 omT).2.2.2).symm))),rfl⟩,trivial⟩ rfl,rfl,trivial,by show(3:Nat)<4;decide⟩
 ·have hG:A.length+(s3 c).agI.length+B.length<=1000:=hq;refine cSR<|rV (vB true) rfl<|rE 24<|uR<|aV rfl (λ_=>?_) (λh=>by cases h);refine mF<|uR<|kO<|cSR<|nW (.clo 21 [] []) rfl rfl (⟨dT,dT⟩)<|oR 1 rfl<|rE 26<|cRg<|oR 1 rfl<|fU _ rfl rfl rfl ((WU (s3 c) (nb+5) hk.k3 omT A B A.length (s3 c).agI.length kk true false false ((s3 c).agH.map ftL) ((s3 c).agG.map spL) rfl rfl hG).fB2 (λz=>match z with|0=>7|_=>22)) ?_;rintro _ _ ⟨rfl,rfl⟩;refine rE 28<|cRg<|rV (vI 4) rfl<|oR 1 rfl<|rE 30<|.mk _ (.step (some (22,17,(A++(s4 c).agI++B).map enL)) (gOL (l:=[(2,.ptr 1 0),(9,vB (!(jF c))),(3,.ptr 7 0),(21,.agg [.clo 18 [] [],.clo 19 [] [],.clo 20 [] [],.clo 21 [] [],.clo 22 [] [],.clo 23 [] [],.clo 24 [] []]),(22,vI 4)]) (hp:=[(1,.box zCo),(7,.box (mcX (s4 c) (.sl 17 ((((A++(s4 c).agI++B).drop A.length).take (s3 c).agI.length).map enL) false) (.sl 2 ((s3 c).agH.map ftL) true) (.sl 2 ((s4 c).agF.map ptL) false) (.sl 9 ((s3 c).agG.map spL) false)))]) rfl rfT ⟨⟨rfl,_,rfl,.refl _⟩,⟨rfl,_,rfl,LeB.boxL (qQ (Iy (by simp only[aU];have:=(nO hk.k3 omT).1;show A.length+(s3 c).agI.length<=A.length+(gY (s3 c)).agI.length+B.length;omega)) (.refl _) (.refl _) (.refl _))⟩,trivial⟩) (.refl _)) ⟨.s4,λi=>i,wOL _ wT ⟨⟨rfl,rfl,rfl⟩,⟨rfl,(Ie (af2 (λz:List Ent=>AV.sl 17 (z.map enL) false) (Qs rfl (nO hk.k3 omT).1)) (af2 (λz:List Ft=>AV.sl 2 (z.map ftL) true) (show(s3 c).agH=(s4 c).agH from((nO hk.k3 omT).2.2.1).symm)) rfl (af2 (λz:List Sp=>AV.sl 9 (z.map spL) false) (show(s3 c).agG=(s4 c).agG from((nO hk.k3 omT).2.2.2).symm))),rfl⟩,trivial⟩ rfl,rfl,trivial,by show(3:Nat)<4;decide⟩
 ·refine cSR<|rV (vB true) rfl<|rE 24<|uR<|aV rfl (λ_=>?_) (λh=>by cases h);refine mF<|uR<|kO<|cSR<|nW (.clo 22 [] []) rfl rfl (⟨dT,dT⟩)<|oR 1 rfl<|rE 26<|cRg<|oR 1 rfl<|fU _ rfl rfl rfl ((WW (s4 c) (nb+7) hk.k4 false ((s4 c).agF.map ptL) false ((s4 c).agG.map spL)).fB (λ_=>7)) ?_;rintro _ _ ⟨rfl,rfl⟩;refine rE 28<|cRg<|rV (vI 5) rfl<|oR 1 rfl<|rE 30<|.mk _ (.refl _) ⟨.s5,λi=>i,wOL _ wT ⟨⟨rfl,rfl,rfl⟩,⟨rfl,(Ie rfl rfl (af2 (λz:List Pt=>AV.sl 2 (z.map ptL) false) (show(s4 c).agF=(s5 c).agF from((Ai hk.k4).2.1).symm)) (af2 (λz:List Sp=>AV.sl 9 (z.map spL) false) (show(s4 c).agG=(s5 c).agG from((Ai hk.k4).2.2).symm))),rfl⟩,trivial⟩ rfl,rfl,trivial,by show(2:Nat)<3;decide⟩
 ·refine cSR<|rV (vB true) rfl<|rE 24<|uR<|aV rfl (λ_=>?_) (λh=>by cases h);refine mF<|uR<|kO<|cSR<|nW (.clo 23 [] []) rfl rfl (⟨dT,dT⟩)<|oR 1 rfl<|rE 26<|cRg<|oR 1 rfl<|fU _ rfl rfl rfl ((TZ (s5 c) (nb+7) hk.k5 false ((s5 c).agI.map enL) false ((s5 c).agF.map ptL) false ((s5 c).agG.map spL)).fB (λ_=>7)) ?_;rintro _ _ ⟨rfl,rfl⟩;refine rE 28<|cRg<|rV (vI 6) rfl<|oR 1 rfl<|rE 30<|.mk _ (.refl _) ⟨.s6,λi=>i,wOL _ wT ⟨⟨rfl,rfl,rfl⟩,⟨rfl,(Ie (af2 (λz:List Ent=>AV.sl 17 (z.map enL) false) (show(s5 c).agI=(s6 c).agI from((uX hk.k5 omT).2.2.2).symm)) rfl (af2 (λz:List Pt=>AV.sl 2 (z.map ptL) false) (show(s5 c).agF=(s6 c).agF from((uX hk.k5 omT).2.1).symm)) (af2 (λz:List Sp=>AV.sl 9 (z.map spL) false) (show(s5 c).agG=(s6 c).agG from((uX hk.k5 omT).2.2.1).symm))),rfl⟩,trivial⟩ rfl,rfl,trivial,by show(1:Nat)<2;decide⟩
 ·refine cSR<|rV (vB true) rfl<|rE 24<|uR<|aV rfl (λ_=>?_) (λh=>by cases h);refine mF<|uR<|kO<|cSR<|nW (.clo 24 [] []) rfl rfl (⟨dT,dT⟩)<|oR 1 rfl<|rE 26<|cRg<|oR 1 rfl<|fU _ rfl rfl rfl ((WY (s6 c) (nb+8) hk.k6 omT false ((s6 c).agI.map enL) false ((s6 c).agH.map ftL) false ((s6 c).agG.map spL)).fB (λ_=>7)) ?_;rintro _ _ ⟨rfl,rfl⟩;refine rE 28<|cRg<|rV (vI 7) rfl<|oR 1 rfl<|rE 30<|.mk _ (.refl _) ⟨.s7,λi=>i,wOL _ wT ⟨⟨rfl,rfl,rfl⟩,⟨rfl,(Ie (af2 (λz:List Ent=>AV.sl 17 (z.map enL) false) (show(s6 c).agI=(s7 c).agI from((wX hk.k6 omT).2.2.2).symm)) (af2 (λz:List Ft=>AV.sl 2 (z.map ftL) false) (show(s6 c).agH=(s7 c).agH from((wX hk.k6 omT).2.1).symm)) rfl (af2 (λz:List Sp=>AV.sl 9 (z.map spL) false) (show(s6 c).agG=(s7 c).agG from((wX hk.k6 omT).2.2.1).symm))),rfl⟩,trivial⟩ rfl,rfl,trivial,by show(0:Nat)<1;decide⟩
 refine cSR<|rV (vB false) rfl<|rE 24<|uR<|aV rfl (λh=>by cases h) (λ_=>?_);refine Bh ?_;exact hQ _ (λs=>s) (wOL (λs=>s) wT wH rfl)
def Zh(c)(nb)(hok:c.ok nb)(hb:nb+20<=890000)(hr:jF c=true)(h0:c.agI=[]):bI C0 7 [.agg (coL c)] (.agg (coL (uG c))):=by
 refine dJ func7 ?_;have hm:=EL hok omT hr;have hk:=Ql hm hb;refine cSR<|rAl 0 rfl rfl<|rAl 1 rfl rfl<|rE 2<|uR<|cSR<|oR 1 rfl<|rCi rfl (Ip c nb hok omT)<|oR 1 rfl<|rE 5<|aV rfl (λh1=>by exact absurd hr (VB h1)) (λ_=>?_);refine mF<|cSR<|oR 1 rfl<|rV (.agg (coL c)) rfl<|rAl 7 rfl rfl<|rSt rfl<|rE 9<|cSR<|fU _ rfl rfl rfl ((show pM C0.P C0.G 17 [.ptr 0 0] (heapF [(0,.box (mcX c (.sl 17 (c.agI.map enL) false) (.sl 2 (c.agH.map ftL) false) (.sl 2 (c.agF.map ptL) false) (.sl 9 (c.agG.map spL) false)))]) 1 _ from by rw[h0];exact acQ c nb hm false false false false).fB (λ_=>7)) ?_;rintro _ _ ⟨rfl,rfl⟩;refine rE 10<|cSR<|oR 3 rfl<|rW (vI (wrap64 (c.cycle+1))) rfl (okI (w64 _))<|oR 2 rfl<|rSt rfl<|rE 17<|cSR<|rV (.agg [.clo 18 [] [],.clo 19 [] [],.clo 20 [] [],.clo 21 [] [],.clo 22 [] [],.clo 23 [] [],.clo 24 [] []]) rfl<|rAl 18 rfl rfl<|rSt rfl<|rE 20<|Fq (κ:=Unit) (λu_=>⟨slotsF [(2,.ptr 1 0),(3,.ptr 7 0)],heapF [(1,.box zCo),(7,.box (mcX (s7 c) (.sl 17 ((s7 c).agI.map enL) false) (.sl 2 ((s7 c).agH.map ftL) false) (.sl 2 ((s7 c).agF.map ptL) false) (.sl 9 ((s7 c).agG.map spL) false)))],23⟩) (λu_=>True) ?_ ?_
 ·refine cSR<|oR 2 rfl<|rE 22<|MJ c nb hm hb hk ?_ .e0 h0 (λs=>s) (wOL (λs=>s) wT wH rfl);intro st' σ h;exact .mk _ (.refl _) ⟨(),σ,h,rfl,trivial⟩
 intro u_ _;refine cSR<|oR 2 rfl<|rSt rfl<|rE 26<|FQ ?_;rw[show uG c=s7 c from af1 hr];exact dK rfl tvT rfl rfl
def Zi(c)(nb)(hok:c.ok nb)(hb:nb+20<=890000)(hr:jF c=true)(hne:c.agI≠[]):bI C0 7 [.agg (coL c)] (.agg (coL (uG c))):=by
 refine dJ func7 ?_;have hm:=EL hok omT hr;have hk:=Ql hm hb;refine cSR<|rAl 0 rfl rfl<|rAl 1 rfl rfl<|rE 2<|uR<|cSR<|oR 1 rfl<|rCi rfl (Ip c nb hok omT)<|oR 1 rfl<|rE 5<|aV rfl (λh1=>by exact absurd hr (VB h1)) (λ_=>?_);refine mF<|cSR<|oR 1 rfl<|rV (.agg (coL c)) rfl<|rAl 7 rfl rfl<|rSt rfl<|rE 9<|cSR<|fU _ rfl rfl rfl (Zn (ab1 c nb hm hne false false false false) 7 _ _ ⟨⟨rfl,rfl,rfl,rfl⟩,trivial⟩) ?_;rintro _ _ ⟨rfl,rfl⟩;refine rE 10<|cSR<|oR 3 rfl<|rW (vI (wrap64 (c.cycle+1))) rfl (okI (w64 _))<|oR 2 rfl<|rSt rfl<|rE 17<|cSR<|rV (.agg [.clo 18 [] [],.clo 19 [] [],.clo 20 [] [],.clo 21 [] [],.clo 22 [] [],.clo 23 [] [],.clo 24 [] []]) rfl<|rAl 18 rfl rfl<|rSt rfl<|rE 20<|Fq (κ:=Unit) (λu_=>⟨slotsF [(2,.ptr 1 0),(3,.ptr 7 0)],heapF [(1,.box zCo),(7,.box (mcX (s7 c) (.sl 17 ((s7 c).agI.map enL) false) (.sl 2 ((s7 c).agH.map ftL) false) (.sl 2 ((s7 c).agF.map ptL) false) (.sl 9 ((s7 c).agG.map spL) false)))],23⟩) (λu_=>True) ?_ ?_
 ·refine cSR<|oR 2 rfl<|rE 22<|MJ c nb hm hb hk ?_ .o0 trivial (λi=>match i with|22=>9|i=>i) (wOL (λi=>match i with|22=>9|i=>i) wT ⟨⟨rfl,rfl,rfl⟩,⟨rfl,rfl,rfl⟩,⟨rfl,(by show some (Blk.arr (c.agI.map enL) 17)=some (Blk.arr (([]++c.agI++[]).map enL) 17);rw[iA,dY]),rfl⟩,trivial⟩ rfl);intro st' σ h;exact .mk _ (.refl _) ⟨(),σ,h,rfl,trivial⟩
 intro u_ _;refine cSR<|oR 2 rfl<|rSt rfl<|rE 26<|FQ ?_;rw[show uG c=s7 c from af1 hr];exact dK rfl tvT rfl rfl
def Zj(c)(nb)(hok:c.ok nb)(hb:nb+20<=890000):bI C0 7 [.agg (coL c)] (.agg (coL (uG c))):=by
 cases hr:jF c with
 |false=>exact Zg c nb hok hb hr
 |true=>
  by_cases h0:c.agI=[]
  ·exact Zh c nb hok hb hr h0
  ·exact Zi c nb hok hb hr h0
def Cd(n:Int):Nat:=(min n 2000).toNat
def Qk(a b:Int):(if b<a then b else a)=min a b:=by split<;>omega
def MI(a b):(CZ a b).ok:=by
 unfold CZ;refine⟨?_,λs hs=>?_⟩
 ·have h:(if bV a 1 4=3 then 2 else bV a 1 4).toNat<=4:=by unfold bV;(repeat' split)<;>omega
  show(List.replicate _ _).length<=_;rw[cM];omega
 rw[gK hs];exact⟨aE _,λx hx=>by cases hx⟩
def TL:ZT.ok:=by
 refine⟨dT,dT,dT,?_,?_⟩
 ·intro x hx;have:x=⟨0,0⟩:=gK hx;subst this;exact⟨aE _,aE _⟩
 intro x hx;cases hx
def Id(c)(prog)(m)(hc:c.ok)(hp:∀x∈prog,x<=4294967295):(fX c prog m).ok 0:=by
 have hm:(jB m).size<=256:=by
  rw[wE];unfold upS;repeat' split
  all_goals omega
 have hl:(prog.take (min prog.length 64)).length<=9223372036854775807:=by rw[aM];omega
 refine⟨⟨aL (QT c) dT,aL (OL c) dT,Iq hc.tp⟩,hl,zD hp,λ_=>aE _,aE _,aE _,(λx hx=>by cases hx),aE _,(λx hx=>by cases hx),aE _,(λx hx=>by cases hx),MI _ _,MI _ _,aE _,(λx hx=>by cases hx),(by show(0:Int)<=9223372036854775807;decide),(by show(0:Int)<=9223372036854775807;decide),?_,TL,aE _,(λx hx=>by cases hx)⟩;show(jB m).size<=1000000;omega
theorem wW{c:Co}{n:Nat}(h:c.ok n):∀k,n+10*k+20<=890000->(uN c k).ok (n+10*k)
 |0,_=>h
 |k+1,hb=>by
  have ih:=xX (wW h k omT) omT;rw[(oT:n+10*(k+1)=n+10*k+10)];exact ih
def apB(c)(prog)(m)(n)(hc:c.ok)(hp:∀x∈prog,x<=4294967295)(hl:prog.length<=1000):bI C0 48 [.agg (cfL c false false),.sl 1 (prog.map dU) false,.v (.string m),vI n] (.agg (coL (uN (fX c prog m) (Cd n)))):=by
 refine dJZ func48 rfl ?_;have hX:=Id c prog m hc hp;refine rCi rfl (ZO c prog m hc omT)<|qRN 0 rfl<|rSt rfl<|qR 0 rfl<|zW _ (okI (Qk n 2000))<|jR (λk=>⟨slotsF [(8,.ptr 1 0),(9,.ptr 6 0),(15,vI _),(16,vN k)],heapF [(0,.box [vI c.mode,vI c.agN,vI c.agI,vI c.queue,vI c.agF,vI c.agP,vI c.agJ,vI c.ways,.sl 1 _ false,vB c.tables,.sl 1 _ false]),(1,.box zCo),(6,.box (coL (uN (fX c prog m) k)))],11⟩) (λk=>k<=Cd n) (λk=>Cd n-k) 0 (λs=>s) (wOL (λs=>s) wT wH rfl) (aE _) ?_;intro k hk;have hkn:k<=Cd n:=hk;have hkB:k<=2000:=by have:Cd n<=2000:=(by unfold Cd;omega);omega
 have hN:Cd n=(min n 2000).toNat:=rfl;refine qS 0 rfl<|zVB _ (λh1=>?_) (λh1=>?_)
 ·have h1p:=af0 h1;refine rCi rfl (Zj (uN (fX c prog m) k) (0+10*k) (wW hX k omT) omT)<|rSt rfl ?_;have b1:k+1<=2001:=aD hkB (aC 1);refine qR 0 rfl<|zW _ (okI (bH b1 rfl)) ?_;refine⟨k+1,λs=>s,wOL _ wT wH rfl,oT,by show Cd n-(k+1)<Cd n-k;omega⟩
 have h1p:=aF h1;refine qXN 0 rfl<|rSt rfl<|qRF 0 rfl ?_;have hk2:k=Cd n:=oT;rw[show uN _ _=uN _ k from by rw[hk2]];exact dK rfl tvT rfl rfl
open Go.RowKit Go.ChangeShapes Go.WideShapes Go.ChangeAt Go.Deep
def TK{n}(h:(Lit.int .u32 n).wf=true):∃m:Nat,n=m∧m<=4294967295:=by
 simp only[Lit.wf,IntKind.min,IntKind.max,IntKind.signed,IntKind.bits,aP,aY]at h;simp at h;exact⟨n.toNat,oT,oT⟩
def Cc{cs}(h:TyV Tryz.prog 3 cs):∃n:Int,cs=[.v (.int .i64 n)]∧True:=by
 have hu:=underlying3
 cases h with
 |int h n hn=>rw[hu]at h;injection h with h;injection h with h;subst h;exact⟨n,rfl,trivial⟩
 |bool h=>rw[hu]at h;cases h
 |string h=>rw[hu]at h;cases h
 |slice h=>rw[hu]at h;cases h
 |struct h=>rw[hu]at h;cases h
 |array h=>rw[hu]at h;cases h
def Ze{cs}(h:TyV Tryz.prog 28 cs):∃n:Nat,cs=[.v (.int .u32 (n:Int))]∧n<=4294967295:=by
 have hu:=underlying28
 cases h with
 |int h n hn=>
  rw[hu]at h;injection h with h;injection h with h;subst h;obtain⟨m,rfl,hm⟩:=TK hn
  exact⟨m,rfl,hm⟩
 |bool h=>rw[hu]at h;cases h
 |string h=>rw[hu]at h;cases h
 |slice h=>rw[hu]at h;cases h
 |struct h=>rw[hu]at h;cases h
 |array h=>rw[hu]at h;cases h
def WC{cs}(h:TyV Tryz.prog 4 cs):∃b:Bool,cs=[.v (.bool b)]∧True:=by
 have hu:=underlying4
 cases h with
 |bool h b=>exact⟨b,rfl,trivial⟩
 |int h=>rw[hu]at h;cases h
 |string h=>rw[hu]at h;cases h
 |slice h=>rw[hu]at h;cases h
 |struct h=>rw[hu]at h;cases h
 |array h=>rw[hu]at h;cases h
theorem Qf{α:Type}{f:α->List AV}{p:α->Prop}:∀(rows:List (List AV)),(∀row∈rows,∃x,row=f x∧p x)->∃l:List α,rows=l.map f∧l.length=rows.length∧∀x∈l,p x
 |[],_=>⟨[],rfl,rfl,λx h=>by cases h⟩
 |row::rows,h=>by
  obtain⟨x,rfl,hx⟩:=h row (al_List_mem_cons_self);obtain⟨l,rfl,hl,hp⟩:=Qf rows λr hr=>h r (bY _ hr);exact⟨x::l,rfl,by simp,λy hy=>by rcases al_List_mem_cons.1 hy with rfl|hy;exact hx;exact hp y hy⟩
def MH{α:Type}{t e:TypeId}{k:Nat}{f:α->List AV}{p:α->Prop}(hu:Tryz.prog.underlying t=some (.slice e))(hk:Tryz.prog.cellsOf e=k)(hrow:∀row,TyV Tryz.prog e row->∃x,row=f x∧p x){cs:List AV}(h:TyV Tryz.prog t cs):
  ∃l:List α,cs=[.sl k (l.map f) false]∧l.length<=9223372036854775807∧∀x∈l,p x:=by
 cases h with
 |slice h rows hl hr hrs=>
  rw[hu]at h;injection h with h;injection h with h;subst h;subst hk;obtain⟨l,rfl,h1,h2⟩:=Qf rows λrow hrow'=>hrow row (hr row hrow')
  exact⟨l,rfl,aL (Nat.le_of_eq h1) (aL hl dT),h2⟩
 |int h=>rw[hu]at h;cases h
 |bool h=>rw[hu]at h;cases h
 |string h=>rw[hu]at h;cases h
 |struct h=>rw[hu]at h;cases h
 |array h=>rw[hu]at h;cases h
def WD(row:List AV)(h:TyV Tryz.prog 28 row):∃n:Nat,row=dU n∧n<=4294967295:=Ze h
def WE(row:List AV)(h:TyV Tryz.prog 3 row):∃n:Int,row=ae4 n∧True:=Cc h
def Qg{cs:List AV}(h:TyV Tryz.prog 23 cs):∃l:List Nat,cs=[.sl 1 (l.map dU) false]∧l.length<=9223372036854775807∧∀x∈l,(λn:Nat=>n<=4294967295) x:=
 MH underlying23 (by kernel_rfl) (λrow hr=>WD _ hr) h
def WF{cs:List AV}(h:TyV Tryz.prog 22 cs):∃l:List Int,cs=[.sl 1 (l.map ae4) false]∧l.length<=9223372036854775807∧∀x∈l,(λ(_:Int)=>True) x:=
 MH underlying22 (by kernel_rfl) (λrow hr=>WE _ hr) h
def WG{cs}(h:TyV Tryz.prog 25 cs):∃x:Cf,cs=cfL x false false∧x.okW:=by
 have hu:=underlying25
 cases h with
 |bool h=>rw[hu]at h;cases h
 |int h=>rw[hu]at h;cases h
 |string h=>rw[hu]at h;cases h
 |slice h=>rw[hu]at h;cases h
 |array h=>rw[hu]at h;cases h
 |struct h parts hp=>
  rw[hu]at h;injection h with h;injection h with h;subst h;obtain⟨x0,e0,p0⟩:=Cc (hp 0 _ rfl);obtain⟨x1,e1,p1⟩:=Cc (hp 1 _ rfl);obtain⟨x2,e2,p2⟩:=Cc (hp 2 _ rfl);obtain⟨x3,e3,p3⟩:=Cc (hp 3 _ rfl);obtain⟨x4,e4,p4⟩:=Cc (hp 4 _ rfl);obtain⟨x5,e5,p5⟩:=Cc (hp 5 _ rfl);obtain⟨x6,e6,p6⟩:=Cc (hp 6 _ rfl);obtain⟨x7,e7,p7⟩:=Cc (hp 7 _ rfl);obtain⟨x8,e8,p8⟩:=WF (hp 8 _ rfl);obtain⟨x9,e9,p9⟩:=WC (hp 9 _ rfl);obtain⟨x10,e10,p10⟩:=Qg (hp 10 _ rfl);refine⟨⟨x0,x1,x2,x3,x4,x5,x6,x7,x8,x9,x10⟩,?_,⟨p8.1,p10.1,p10.2⟩⟩;show parts 0++(parts 1++(parts 2++(parts 3++(parts 4++(parts 5++(parts 6++(parts 7++(parts 8++(parts 9++(parts 10++[]))))))))))=_;rw[e0,e1,e2,e3,e4,e5,e6,e7,e8,e9,e10];rfl
structure Co.okA(c:Co):Prop where
 agL:c.agL.okW
 prog:c.prog.length<=9223372036854775807
 progo:∀x∈c.prog,x<=4294967295
 r:∀k,c.r k<=4294967295
 agM:c.agM<=4294967295
 fet:c.agH.length<=9223372036854775807
 feto:∀x∈c.agH,x.ok
 agI:c.agI.length<=9223372036854775807
 agX:∀x∈c.agI,x.ok
 sto:c.agF.length<=9223372036854775807
 stoo:∀x∈c.agF,x.ok
 data:c.data.ok
 agO:c.agO.ok
 agS:c.agS.length<=9223372036854775807
 buso:∀x∈c.agS,x.ok
 asked:c.asked<=9223372036854775807
 agT:c.agT<=9223372036854775807
 mem:c.mem.size<=9223372036854775807
 agK:c.agK.ok
 ret:c.agG.length<=9223372036854775807
 reto:∀x∈c.agG,x.ok
def Qh{H}{enc}{w}{base}{spare}{held}{r}{b0}{v}{d:DataW H}{p}
  (hv:Value.okWide Tryz.prog w r b0 25 v) (h:DataW.Trod enc Tryz.prog w base spare held 25 v d p):
  ∃c:Cf,Rep (· <w.heap.size) w noB (.agg (cfL c false false)) v∧c.okW:=by
 obtain⟨cs,rfl,hsz⟩:=okWide_struct underlying25 hv;obtain⟨fuel,hf⟩:=h;obtain⟨cells,ho⟩:=vT 6 fuel _ _ _ hf (by kernel_rfl);obtain⟨c,rfl,hc⟩:=WG ho.ty;refine⟨c,.agg _ cs ?_ (λi u hu=>ho.one u ?_) (λi a u h1 h2=>ho.rep.2 i a u h1 ?_),hc⟩
 ·exact ho.rep.1
 ·exact Jt.2 (nI hu)
 show cs.toList[i]?=some u;rw[bQ];exact h2
def Qi{H}{enc}{w}{base}{spare}{held}{r}{b0}{v}{d:DataW H}{p}
  (hv:Value.okWide Tryz.prog w r b0 23 v) (h:DataW.Trod enc Tryz.prog w base spare held 23 v d p):
  ∃l:List Nat,(∀x∈l,x<=4294967295)∧l.length<=9223372036854775807∧Rep (· <w.heap.size) w noB (.sl 1 (l.map dU) false) v:=by
 obtain⟨a0,len,cap,rfl⟩:=okWide_slice underlying23 hv;obtain⟨fuel,hf⟩:=h;obtain⟨cs,ho⟩:=vT 3 fuel _ _ _ hf (by kernel_rfl);obtain⟨l,rfl,h1,h2⟩:=Qg ho.ty;exact⟨l,h2,h1,ho.rep.2 0 _ _ rfl rfl⟩
def Qj{w}(h:EE w):0<w.heap.size:=by
 have:=h 0 dT;unfold World.cell? at this
 cases hq:w.heap[0]? with
 |none=>simp[hq]at this
 |some o=>exact(DP.1 hq).1
theorem bI.law{f}{args}{vs}{w}(h:bI C0 f args (.v (.bool true)))(hC:EE w)(ha:RepL (· <w.heap.size) w noB args vs):
  Calls Tryz.prog f vs.toArray w λe w'=>e=.returned (.bool true)∧Below w.heap.size w w':=
 (h.2 (· <w.heap.size) w vs (λ_ h=>h) (aeM hC (Qj hC)) ha).mono λe w' ⟨v,h1,h2,h3⟩=>⟨by rw[h1,lV h3],h2⟩
open Go.RowKit Go.ChangeShapes Go.WideShapes
def Vc{P}{w}{r}{base}{t}{v}(ht:P.underlying t=some .string)(h:Value.okWide P w r base t v):∃s,v=.string s∧s.size<9223372036854775808:=by
 obtain⟨s,rfl⟩:=okWide_string ht h;refine⟨s,rfl,?_⟩;have h2:IntKind.i64.max=9223372036854775807:=rfl;have h3:(s.size:Int)<=IntKind.i64.max:=by simpa [Value.okWide,Cell.okWide,Cell.ok,ht]using h
 omega
def ak3:Cf:=⟨0,0,0,0,0,0,0,0,[],false,[]⟩
def am0:(uN (fX ak3 [1048691] oZ) (Cd 20)).halt=7∧(uN (fX ak3 [1048691] oZ) (Cd 20)).agG.length=1:=by
 decide+kernel
theorem bI.of_sub{C}{f}{xs ys}{r}(h:bI C f xs r)(k:ZK ys xs):bI C f ys r:=by
 obtain⟨k1,k2⟩:=k.get;refine⟨h.1,λS w vs hS hG hr=>h.2 S w vs hS hG ⟨k1 ▸ hr.1,λi a v ha hv=>?_⟩⟩;have hi:i<ys.length:=by rw[k1];exact(Em.1 ha).1
 exact k2 i _ a (aA hi) ha _ _ _ (hr.2 i _ v (aA hi) hv)
structure Kp(c d:Co):Prop where
 cycle:d.cycle=c.cycle
 ret:c.agG <+: d.agG
 mem:d.mem.size=c.mem.size
theorem Kp.refl(c):Kp c c:=⟨rfl,List.prefix_refl _,rfl⟩
theorem Kp.trans{a b c}(h:Kp a b)(k:Kp b c):Kp a c:=⟨k.cycle.trans h.cycle,List.IsPrefix.trans h.ret k.ret,k.mem.trans h.mem⟩
def ak4(c):Kp c (lM c):=by
 rw[kC];split
 ·unfold ID
  repeat' split
  ·exact⟨rfl,List.prefix_refl _,rfl⟩
  ·exact⟨rfl,List.prefix_refl _,rfl⟩
  ·rw[<-uY];exact⟨rfl,List.prefix_refl _,rfl⟩
  ·exact⟨rfl,List.prefix_refl _,iY ..⟩
  exact⟨rfl,List.prefix_refl _,rfl⟩
 exact⟨rfl,List.prefix_refl _,rfl⟩
def ak5(c):Kp c (kK c):=by
 unfold kK;split
 ·exact .refl c
 split<;>exact⟨rfl,List.prefix_refl _,rfl⟩
def ajX(d:Co)(e:Ent):Kp d (Bm d e):=⟨rfl,List.prefix_append _ _,rfl⟩
def ajY(d:Co)(e:Ent):Kp d (MP d e):=⟨rfl,List.prefix_append _ _,rfl⟩
theorem aoR:∀(n:Nat) (c:Co),Kp c (eC n c)
 |0,c=>.refl c
 | n +1,c=>by
  by_cases h0:c.halt≠0∨c.agI.length=0
  ·rw[mG h0];exact .refl c
  ·have hx:c.agI[0]?=some (c.agI[0]'omT):=aA omT;rw[iX omT (λq=>h0 (.inl q)) hx];split
   ·exact .refl c
   ·split
    ·exact⟨rfl,List.prefix_append _ _,rfl⟩
    ·split
     ·exact .refl c
     ·rw[kB];by_cases hk:kindOf (c.agI[0]'omT).i.op=3
      ·rw[Ke hk];exact(ajY c _).trans (aoR n _)
      ·rw[An hk];exact(ajX c _).trans (aoR n _)
def amC(c)(i):Kp c (oE c i):=by
 unfold oE
 cases c.agI[i]? with
 |none=>exact .refl c
 |some e=>
  dsimp only
  repeat' split
  all_goals exact⟨rfl,List.prefix_refl _,rfl⟩
def ak6(c)(i):Kp c (iS c i):=by
 unfold iS
 cases c.agI[i]? with
 |none=>exact .refl c
 | some e=>
  dsimp only;split
  ·exact⟨rfl,List.prefix_refl _,rfl⟩
  ·split
   ·exact Kp.trans (b:=setE c i _) ⟨rfl,List.prefix_refl _,rfl⟩ (amC _ i)
   ·exact⟨rfl,List.prefix_refl _,rfl⟩
theorem ah8:∀(p:List Nat) (c:Co),Kp c (p.foldl iS c)
 |[],c=>.refl c
 |i::p,c=>(ak6 c i).trans (ah8 p _)
def ajZ(c):Kp c (gY c):=by
 unfold gY;split
 ·exact .refl c
 exact ah8 _ c
theorem ahN:∀(n:Nat) (c:Co),Kp c (kV n c)
 |0,c=>.refl c
 | n+1,c=>by
  by_cases h0:(c.agI.length:Int)>=c.agL.agI∨c.agH.length=0
  ·rw[Ap h0];exact .refl c
  ·have hx:c.agH[0]?=some (c.agH[0]'omT):=aA omT;have e:=CU (n:=n+1) (k:=0) omT (λq=>h0 (.inl q)) hx;rw[(oT:n+1-(0+1)=n),(oT:n+1-0=n+1)]at e;rw[<-e];have h1:Kp c (Kh c (c.agH[0]'omT)):=⟨rfl,List.prefix_refl _,rfl⟩;exact h1.trans (ahN n _)
def aj0(c):Kp c (lP c):=by
 unfold lP;split
 ·exact .refl c
 exact ahN _ c
def aj1(c):Kp c (zP c):=by
 have h:Kp (lJ c) (dM (lJ c) (fetchW c.prog c.agM)).1:=by
  unfold dM;split
  ·exact .refl _
  split<;>exact⟨rfl,List.prefix_refl _,rfl⟩
 exact⟨h.cycle,h.ret,h.mem⟩
theorem ag5:∀(n:Nat) (c:Co),Kp c (eL n c)
 |0,c=>.refl c
 | n +1,c=>by
  by_cases h0:c.stop=true∨(c.agH.length:Int)>=c.agL.queue
  ·rw[yZ h0];exact .refl c
  ·by_cases hf:(fetchP c.prog c.agM).isSome=false
   ·rw[Aq omT h0 hf];exact⟨rfl,List.prefix_refl _,rfl⟩
   ·by_cases hw:(bK c.agO (lineOf c.agM)).2.isSome=false
    ·rw[uD omT h0 hf hw];split
     ·exact⟨rfl,List.prefix_refl _,rfl⟩
     ·exact .refl c
    ·have e:=BC (n:=n+1) (k:=0) omT h0 hf hw;rw[(oT:n+1-(0+1)=n),(oT:n+1-0=n+1)]at e;rw[<-e];exact(aj1 c).trans (ag5 n _)
def ajK(c):Kp c (eN c):=by
 unfold eN;split
 ·exact .refl c
 exact ag5 _ c
def aiQ(c):Kp c (tW c):=by
 unfold tW;split
 ·exact .refl c
 split
 ·exact⟨rfl,List.prefix_refl _,rfl⟩
 exact .refl c
def ahO(c):Kp c (nP c):=by
 unfold nP;split
 ·exact .refl c
 unfold pE;split
 ·split
  ·exact⟨rfl,List.prefix_refl _,rfl⟩
  exact .refl c
 exact .refl c
def aj2(c):Kp c (tY c):=by
 have h1:Kp c (aW c):=⟨rfl,List.prefix_refl _,rfl⟩;rw[mO];split
 ·exact(h1.trans (aiQ _)).trans (ahO _)
 exact h1.trans (ahO _)
def amD(c:Co):Kp (s0 c) (ZJ c):=
 ((((((ak4 (s0 c)).trans (ak5 _)).trans (aoR _ _)).trans (ajZ _)).trans (aj0 _)).trans (ajK _)).trans (aj2 _)
def amE{c}(h:jF c=true):(uG c).cycle=wrap64 (c.cycle+1)∧c.agG <+: (uG c).agG∧(uG c).mem.size=c.mem.size:=by
 have k:=amD c;unfold uG;rw[af1 h];exact⟨k.cycle,k.ret,k.mem⟩
def Bj(prog:List Nat):List Nat:=prog.take (min prog.length 64)
def Bk(m:ByteArray):ByteArray:=m.extract 0 (min m.size 300)
def upTo(a:Int)(hi:Nat):Nat:=(min (max a 0) hi).toNat
def Ym(a)(hi):upTo a hi<=hi:=by unfold upTo;omega
def Yn(a)(hi:Nat):(if(hi:Int)<max a 0 then(hi:Int)else max a 0)=((upTo a hi:Nat):Int):=by unfold upTo;split<;>omega
def We(a b:Int):(if b>a then b else a)=max a b:=by split<;>omega
def amW:bI C0 48 [.agg [vI 0,vI 0,vI 0,vI 0,vI 0,vI 0,vI 0,vI 0,.sl 0 [] true,vB false,.sl 0 [] true],.sl 1 [[vU 1048691]] true,.v (.string oZ),vI 20] (.agg (coL (uN (fX ak3 [1048691] oZ) (Cd 20)))):=
 (apB ak3 [1048691] oZ 20 ⟨aE _,aE _,λx hx=>by cases hx⟩ (λx hx=>by rw[uJ.1 hx];decide) dT).of_sub ⟨Sub.agg ⟨Sub.refl _,Sub.refl _,Sub.refl _,Sub.refl _,Sub.refl _,Sub.refl _,Sub.refl _,Sub.refl _,oM 1 false,Sub.refl _,oM 1 false,trivial⟩,Sub.clip _ _ _,Sub.refl _,Sub.refl _,trivial⟩
def amX:bI C0 11 [] (vB true):=by
 refine dJZ func11 rfl ?_;have hnb:(200:Nat)<=890000:=dT;refine rV _ rfl<|rV _ rfl<|rCi rfl (amW)<|qRN 0 rfl<|rSt rfl<|qR 0 rfl<|zV (vB (((uN (fX ak3 [1048691] oZ) (Cd 20)).halt)==7))<|gS rfl id<|gBS rfl id (cD spL ((uN (fX ak3 [1048691] oZ) (Cd 20)).agG))<|gBS rfl id (okB (eqN _ _))<|zN rfl (λh=>h) ?_;exact fT rfl (dR (by simp[c2a,am0.1,am0.2]))
def amY(prog)(m)(hl:prog.length<=9223372036854775807)(hm:m.size<=9223372036854775807):bI C0 4 [.sl 1 (prog.map dU) false,.v (.string m)] (.tup [.sl 1 ((Bj prog).map dU) false,.v (.string (Bk m))]):=by
 refine dJZ func4 rfl<|zR<|zW _ (cD dU prog)<|zW _ (Bo prog.length 64)<|zM _ (yB (vY dU prog (min prog.length 64))) slT<|zV (vN m.size)<|zW _ (Bo m.size 300)<|zM (.v (.string (m.extract 0 (min m.size 300)))) rfl (by refine⟨?_,?_,?_⟩<;>(first|exact aG _|decide|(apply FG.2;exact omT))) ?_;exact fT rfl rfl
def ajQ{x}(h1: -9223372036854775808<=x)(h2:x<9223372036854775808):wrap64 x=x:=by unfold wrap64;omega
def ahX(q)(k)(agY)(left)(data):yH (Bi q k agY left data)=yH q+if k=4 then 0 else 1:=by
 unfold yH Bi;rw[mL,aU];by_cases h:k=4<;>simp[h]
def ajR(q):yH (eH q).1<=yH q:=by
 cases q with
 |nil=>exact aC _
 |cons x r=>
  unfold eH;dsimp only;split
  ·unfold yH;simp only[List.filter_cons];by_cases h:x.kind=4<;>simp[h]
  ·unfold yH;simp only[List.filter_cons];by_cases h:x.kind=4<;>simp[h]
structure Bd(f:Cf)(a:Nat)(c:Co):Prop where
 agL:c.agL=f
 agI:(c.agI.length:Int)<=f.agI
 fet:(c.agH.length:Int)<=f.queue
 sto:(c.agF.length:Int)<=f.agF
 rd:(yH c.agS:Int)<=f.agP
 ret:c.agG.length=a
def bring_bus(c)(agY):((oK c agY).agS=c.agS∧(oK c agY).asked=c.asked)∨∃l d,(oK c agY).agS=Bi c.agS 4 l (lX c.agL c.asked) d∧(oK c agY).asked=wrap64 (c.asked+1):=by
 unfold oK;rcases hB:iQ c.data c.agS c.mem agY (lX c.agL c.asked)with ⟨d,q,asked⟩;show(q=c.agS∧(if asked=true then wrap64 (c.asked+1)else c.asked)=c.asked)∨∃l d,q=Bi c.agS 4 l _ d∧(if asked=true then wrap64 (c.asked+1)else c.asked)=wrap64 _;unfold iQ at hB;split at hB
 ·cases hB;exact .inl ⟨rfl,rfl⟩
 split at hB
 ·cases hB;exact .inl ⟨rfl,rfl⟩
 split at hB
 split at hB
 ·cases hB;exact .inr ⟨_,_,rfl,rfl⟩
 cases hB;exact .inl ⟨rfl,rfl⟩
def ai5(c)(agY):yH (oK c agY).agS<=yH c.agS:=by
 rcases bring_bus c agY with ⟨h, -⟩|⟨l,d,h, -⟩
 ·rw[h];exact aC _
 rw[h,ahX,af1 rfl];exact aC _
def ajS(c)(agY):(oK c agY).agL=c.agL∧(oK c agY).agI=c.agI∧(oK c agY).agH=c.agH∧(oK c agY).agF=c.agF∧(oK c agY).agG=c.agG:=by
 rw[<-uY];exact⟨rfl,rfl,rfl,rfl,rfl⟩
theorem Bd.bring{f}{a}{c}(h:Bd f a c)(agY):Bd f a (oK c agY):=by
 obtain⟨h1,h2,h3,h4,h5⟩:=ajS c agY;have:=ai5 c agY;exact⟨h1.trans h.agL,h2 ▸ h.agI,h3 ▸ h.fet,h4 ▸ h.sto,oH h.rd,h5 ▸ h.ret⟩
def amR{c}{b}(h:tA c b=true):(yH c.agS:Int)<c.agL.agP:=by
 unfold tA at h;split at h
 ·exact af0 h
 have:=af0 h;omega
theorem Bd.ask{f}{a}{c}(h:Bd f a c){k}{b}(hr:tA c b=true∨k=4)(agY)(data):Bd f a (jE c k agY data):=by
 refine⟨h.agL,h.agI,h.fet,h.sto,?_,h.ret⟩;show((yH (Bi c.agS k agY _ data):Nat):Int)<=_;rw[ahX];have h1:=h.rd;rcases hr with hr|hr
 ·have:=amR hr;rw[h.agL]at this;split<;>omega
 rw[af1 hr];omega
def alV{f}{a}{c}(h:Bd f a c):Bd f a (lM c):=by
 have hb:Bd f a (jJ c):=⟨h.agL,h.agI,h.fet,h.sto,by have:=ajR c.agS;have:=h.rd;show((yH (eH c.agS).1:Nat):Int)<=_;omega,h.ret⟩;rw[kC];split
 ·unfold ID
  repeat' split
  ·exact⟨hb.agL,by show((List.map _ _).length:Int)<=_;rw[aH];exact hb.agI,hb.fet,hb.sto,hb.rd,hb.ret⟩
  ·exact⟨hb.agL,hb.agI,hb.fet,hb.sto,hb.rd,hb.ret⟩
  ·exact hb.bring _
  ·exact⟨hb.agL,hb.agI,hb.fet,hb.sto,hb.rd,hb.ret⟩
  exact hb
 exact hb
def amS(l)(i):(DY l i).length<=l.length:=by
 unfold DY;split
 ·rename_i e he;have:=(Em.1 he).1;rw[aU,aM];simp;omega
 exact aC _
def alW{f}{a}{c}(h:Bd f a c)(hq:0<=f.queue):Bd f a (kK c):=by
 have hl:=nN c;unfold kK;split
 ·exact h
 split
 ·rename_i i _;exact⟨h.agL,by have:=amS (afD c) i;have:=h.agI;show((DY _ i).length:Int)<=_;omega,hq,h.sto,h.rd,h.ret⟩
 exact⟨h.agL,by have:=h.agI;show((afD c).length:Int)<=_;omega,h.fet,h.sto,h.rd,h.ret⟩
def al7{f}{a}{c}(h:Bd f a c)(s)(hs: ¬(s.store=true∧(c.agF.length:Int)>=c.agL.agF)):Bd f (a+1) (fZ c s):=by
 refine⟨h.agL,h.agI,h.fet,?_,h.rd,by show(c.agG++[s]).length=_;rw[aU,h.ret];rfl⟩;show(((match iJ s with|some p=>c.agF++[p]|none=>c.agF).length:Nat):Int)<=_;split
 ·rename_i p hp;have hst:s.store=true:=by
   unfold iJ at hp;split at hp
   ·cases hp
   ·rename_i q;cases hb:s.store with
    |true=>rfl
    |false=>exact absurd (.inl hb) q
  have h1: ¬(c.agF.length:Int)>=c.agL.agF:=λq=>hs ⟨hst,q⟩;rw[h.agL]at h1;rw[aU];show((c.agF.length+1:Nat):Int)<=_;omega
 ·exact h.sto
def akT{f}{a}{c}(h:Bd f a c)(e)(hs: ¬((cA e).store=true∧(c.agF.length:Int)>=c.agL.agF)):Bd f (a+1) (Bm c e):=by
 have k:=al7 h _ hs;exact⟨k.agL,by have:=h.agI;show((c.agI.drop 1).length:Int)<=_;rw[bD];omega,k.fet,k.sto,k.rd,k.ret⟩
def akU{f}{a}{c}(h:Bd f a c)(e)(hs: ¬((cA e).store=true∧(c.agF.length:Int)>=c.agL.agF)):Bd f (a+1) (MP c e):=by
 have k:=(al7 h _ hs).bring (cA e).agZ;rw[<-uY]at k;exact⟨k.agL,by have:=h.agI;show((c.agI.drop 1).length:Int)<=_;rw[bD];omega,k.fet,k.sto,k.rd,k.ret⟩
theorem aoX{f:Cf}(h0:0<=f.agI∧0<=f.queue):∀(n:Nat) (c:Co) (a:Nat),Bd f a c->∃b,a<=b∧b<=a+n∧Bd f b (eC n c)
 |0,c,a,h=>⟨a,aC _,aC _,h⟩
 | n + 1,c,a,h=>by
  by_cases hz:c.halt≠0∨c.agI.length=0
  ·rw[mG hz];exact⟨a,aC _,oT,h⟩
  ·have hx:c.agI[0]?=some (c.agI[0]'omT):=aA omT;rw[iX omT (λq=>hz (.inl q)) hx];split
   ·exact⟨a,aC _,oT,h⟩
   ·split
    ·exact⟨a+1,oT,oT,⟨h.agL,h0.1,h0.2,h.sto,h.rd,by show(c.agG++[_]).length=_;rw[aU,h.ret];rfl⟩⟩
    ·split
     ·exact⟨a,aC _,oT,h⟩
     ·rename_i hs;rw[kB];by_cases hk:kindOf (c.agI[0]'omT).i.op=3
      ·rw[Ke hk];obtain⟨b,h1,h2,h3⟩:=aoX h0 n _ _ (akU h _ hs);exact⟨b,oT,oT,h3⟩
      ·rw[An hk];obtain⟨b,h1,h2,h3⟩:=aoX h0 n _ _ (akT h _ hs);exact⟨b,oT,oT,h3⟩
theorem Bd.setE{f:Cf}{a:Nat}{c:Co}(h:Bd f a c)(i:Nat)(e:Ent):Bd f a (setE c i e):=⟨h.agL,by show((c.agI.set i e).length:Int)<=_;rw[cC];exact h.agI,h.fet,h.sto,h.rd,h.ret⟩
def amT{f}{a}{c}(h:Bd f a c)(i):Bd f a (oE c i):=by
 unfold oE
 cases c.agI[i]? with
 |none=>exact h
 |some e=>
  dsimp only
  repeat' split
  all_goals first|exact h|exact h.setE _ _|(rename_i q;exact(h.ask (.inl q.1) _ _).setE _ _)
def alX{f}{a}{c}(h:Bd f a c)(i):Bd f a (iS c i):=by
 unfold iS
 cases c.agI[i]? with
 |none=>exact h
 | some e=>
  dsimp only;split
  ·exact h.setE _ _
  ·split
   ·exact amT (h.setE _ _) i
   ·exact h.setE _ _
theorem aiK{f:Cf}{a:Nat}:∀(p:List Nat) (c:Co),Bd f a c->Bd f a (p.foldl iS c)
 |[],_,h=>h
 |i::p,_,h=>aiK p _ (alX h i)
def akV{f}{a}{c}(h:Bd f a c):Bd f a (gY c):=by
 unfold gY;split
 ·exact h
 exact aiK _ c h
theorem ahY{f:Cf}{a:Nat}:∀(n:Nat) (c:Co),Bd f a c->Bd f a (kV n c)
 |0,_,h=>h
 | n+1,c,h=>by
  by_cases h0:(c.agI.length:Int)>=c.agL.agI∨c.agH.length=0
  ·rw[Ap h0];exact h
  ·have hx:c.agH[0]?=some (c.agH[0]'omT):=aA omT;have e:=CU (n:=n+1) (k:=0) omT (λq=>h0 (.inl q)) hx;rw[(oT:n+1-(0+1)=n),(oT:n+1-0=n+1)]at e;rw[<-e];have hc:=h.agL;refine ahY n _ ⟨h.agL,?_,?_,h.sto,h.rd,h.ret⟩
   ·show((c.agI++[_]).length:Int)<=_;rw[aU];show((c.agI.length+1:Nat):Int)<=_;rw[hc]at h0;omega
   ·have:=h.fet;show((c.agH.drop 1).length:Int)<=_;rw[bD];omega
def akW{f}{a}{c}(h:Bd f a c):Bd f a (lP c):=by
 unfold lP;split
 ·exact h
 exact ahY _ c h
theorem ahI{f:Cf}{a:Nat}:∀(n:Nat) (c:Co),Bd f a c->Bd f a (eL n c)
 |0,_,h=>h
 | n +1,c,h=>by
  by_cases h0:c.stop=true∨(c.agH.length:Int)>=c.agL.queue
  ·rw[yZ h0];exact h
  ·have hl:((c.agH.length+1:Nat):Int)<=f.queue:=by have:=h.agL;rw[this]at h0;omega
   by_cases hf:(fetchP c.prog c.agM).isSome=false
   ·rw[Aq omT h0 hf];exact⟨h.agL,h.agI,by show((c.agH++[_]).length:Int)<=_;rw[aU];exact hl,h.sto,h.rd,h.ret⟩
   ·by_cases hw:(bK c.agO (lineOf c.agM)).2.isSome=false
    ·rw[uD omT h0 hf hw];split
     ·rename_i q;exact h.ask (.inl q.2) _ _
     ·exact h
    ·have e:=BC (n:=n+1) (k:=0) omT h0 hf hw;rw[(oT:n+1-(0+1)=n),(oT:n+1-0=n+1)]at e;rw[<-e];refine ahI n _ ?_;have hb:∀w,(dM (lJ c) w).1.agL=c.agL∧(dM (lJ c) w).1.agI=c.agI∧(dM (lJ c) w).1.agH=c.agH∧(dM (lJ c) w).1.agF=c.agF∧(dM (lJ c) w).1.agS=c.agS∧(dM (lJ c) w).1.agG=c.agG:=by
      intro w;unfold dM
      repeat' split
      all_goals exact⟨rfl,rfl,rfl,rfl,rfl,rfl⟩
     obtain⟨b1,b2,b3,b4,b5,b6⟩:=hb (fetchW c.prog c.agM);refine⟨b1.trans h.agL,?_,?_,?_,?_,?_⟩
     ·show(((dM (lJ c) (fetchW c.prog c.agM)).1.agI.length:Nat):Int)<=_;rw[b2];exact h.agI
     ·show((((dM (lJ c) (fetchW c.prog c.agM)).1.agH++[_]).length:Nat):Int)<=_;rw[b3,aU];exact hl
     ·show(((dM (lJ c) (fetchW c.prog c.agM)).1.agF.length:Nat):Int)<=_;rw[b4];exact h.sto
     ·show((yH (dM (lJ c) (fetchW c.prog c.agM)).1.agS:Nat):Int)<=_;rw[b5];exact h.rd
     ·show(dM (lJ c) (fetchW c.prog c.agM)).1.agG.length=_;rw[b6];exact h.ret
def ajT{f}{a}{c}(h:Bd f a c):Bd f a (eN c):=by
 unfold eN;split
 ·exact h
 exact ahI _ c h
def akX{f}{a}{c}(h:Bd f a c):Bd f a (tY c):=by
 have h1:Bd f a (aW c):=by
  refine⟨h.agL,h.agI,h.fet,?_,h.rd,h.ret⟩;have:=h.sto;show(((sL c.agF c.data).1.length:Nat):Int)<=_;unfold sL
  repeat' split
  all_goals first|omega|(rename_i hs _;rw[hs]at this;simp at this⊢;omega)|(rename_i hs;simp[hs]at this⊢;omega)|(simp at this⊢;omega)
 have hA:∀{d:Co},Bd f a d->Bd f a (tW d):=λ{d} k=>by
  unfold tW;split
  ·exact k
  split
  ·rename_i q;exact k.ask (.inl q.2) _ _
  exact k
 have hB:∀{d:Co},Bd f a d->Bd f a (nP d):=λ{d} k=>by
  unfold nP;split
  ·exact k
  unfold pE;split
  ·split
   ·rename_i w _ _;have q:=k.ask (b:=true) (.inr rfl) w.agY w.data;exact⟨q.agL,q.agI,q.fet,q.sto,q.rd,q.ret⟩
   exact k
  exact k
 rw[mO];split
 ·exact hB (hA h1)
 exact hB h1
def amU{f}(h0:0<=f.agI∧0<=f.queue){c}{a}(h:Bd f a c):∃b,a<=b∧b<=a+f.agN.toNat∧Bd f b (uG c):=by
 unfold uG;split
 ·have hs:Bd f a (s0 c):=⟨h.agL,h.agI,h.fet,h.sto,h.rd,h.ret⟩;have hw:=alW (alV hs) h0.2;obtain⟨b,h1,h2,h3⟩:=aoX h0 (kK (lM (s0 c))).agL.agN.toNat _ a hw;rw[hw.agL]at h2;exact⟨b,h1,h2,akX (ajT (akW (akV h3)))⟩
 exact⟨a,aC _,oT,h⟩
def apC(e):xJ e=true↔((0<=e.is∧e.is<=3)∧(e.is=1->0<e.left)∧(e.is≠1->e.left=0)∧(e.is=2->kindOf e.i.op=3∧e.known=true)∧(e.halt≠0->e.is=3∨(e.is=1∧kindOf e.i.op=5∧e.halt=3))∧(Xq e.i=true∨e.halt=1∨e.halt=2)):=by
 unfold xJ;by_cases h1:e.is<0∨e.is>3
 ·rw[af1 h1];exact⟨λh=>(by cases h),λh=>by omega⟩
 rw[dZ h1];by_cases h2:(e.is=1∧e.left<=0)∨(e.is≠1∧e.left≠0)
 ·rw[af1 h2];refine⟨λh=>(by cases h),λ⟨_,a,b,_⟩=>?_⟩;rcases h2 with ⟨x,y⟩|⟨x,y⟩
  ·have:=a x;omega
  ·exact absurd (b x) y
 rw[dZ h2];by_cases h3:e.is=2∧(kindOf e.i.op≠3∨e.known=false)
 ·rw[af1 h3];refine⟨λh=>(by cases h),λ⟨_,_,_,a,_⟩=>?_⟩;have:=a h3.1;rcases h3.2 with x|x
  ·exact absurd this.1 x
  ·rw[this.2]at x;cases x
 rw[dZ h3];by_cases h4:e.halt≠0∧e.is≠3∧ ¬(e.is=1∧kindOf e.i.op=5∧e.halt=3)
 ·rw[af1 h4];refine⟨λh=>(by cases h),λ⟨_,_,_,_,a,_⟩=>?_⟩;rcases a h4.1 with x|x
  ·exact absurd x h4.2.1
  ·exact absurd x h4.2.2
 rw[dZ h4];have q3:e.is=2->kindOf e.i.op=3∧e.known=true:=λx=>by
  refine⟨af4 λy=>h3 ⟨x,.inl y⟩,?_⟩
  cases hk:e.known with
  |true=>rfl
  |false=>exact absurd ⟨x,.inr hk⟩ h3
 have q4:e.halt≠0->e.is=3∨(e.is=1∧kindOf e.i.op=5∧e.halt=3):=λx=>af4 λy=>h4 ⟨x,λz=>y (.inl z),λz=>y (.inr z)⟩;have q2:e.is=1->0<e.left:=λx=>af4 λy=>h2 (.inl ⟨x,oT⟩);have q5:e.is≠1->e.left=0:=λx=>af4 λy=>h2 (.inr ⟨x,y⟩);by_cases h5:Xq e.i=true
 ·rw[af1 h5];exact⟨λ_=>⟨oT,q2,q5,q3,q4,.inl h5⟩,λ_=>rfl⟩
 ·rw[dZ h5];refine⟨λh=>⟨oT,q2,q5,q3,q4,.inr (sU h)⟩,λ⟨_,_,_,_,_,a⟩=>?_⟩;rcases a with a|a
  ·exact absurd a h5
  ·simpa using a
structure EvEnt(M:Int)(e:Ent):Prop where
 st:xJ e=true
 kn:e.known=true->kindOf e.i.op=3∨kindOf e.i.op=4->kZ M e.agZ (sizeOf' e.i.op)=true
 s4:kindOf e.i.op=4->e.is=0∨e.is=3
 k4:kindOf e.i.op=4->e.is=3->e.halt=0->e.known=true
theorem EvEnt.go{M}{e}(h:EvEnt M e):EvEnt M (goE e):=by
 obtain⟨h1,h2,h3,h4,h5,h6⟩:=(apC e).1 h.st;unfold goE;by_cases hi:e.is≠1
 ·rw[af1 hi];exact h
 rw[dZ hi];have hi:e.is=1:=agD.1 hi;have n4:kindOf e.i.op≠4:=λq=>by rcases h.s4 q with x|x<;>omega
 by_cases hl:wrap64 (e.left-1)<=0
 ·rw[af1 hl];refine⟨(apC _).2 ⟨by simp,λq=>absurd q (by simp),λ_=>rfl,λq=>absurd q (by simp),λ_=>.inl rfl,h6⟩,λa b=>?_,λq=>absurd q n4,λq=>absurd q n4⟩;refine h.kn ?_ b;have a:(if kindOf e.i.op=5∧e.halt=0 then true else e.known)=true:=a;have b:kindOf e.i.op=3∨kindOf e.i.op=4:=b
  rwa [dZ omT]at a
 rw[dZ hl];refine⟨(apC _).2 ⟨h1,λ_=>by show 0<wrap64 _;omega,λq=>absurd hi q,h4,h5,h6⟩,h.kn,h.s4,h.k4⟩
def alR{op}{a b}(hk:kindOf op=2)(ha:a<=4294967295)(hb:b<=4294967295):0<tookP op a b:=by
 have ho:42<=op∧op<=45:=by
  unfold kindOf at hk
  (repeat' split at hk)<;>omega
 unfold tookP;rw[dZ omT];split
 ·decide
 rename_i q;have h1:sizeP op b<=sizeP op a:=oT;have h2:=yJ op b omT (λz=>q (.inl z));have:=Kz _ _ (pT op b omT) (pT op a omT) h1 omT;omega
theorem EvEnt.start{M}{e}(h:EvEnt M e){a b}(ha:a<=4294967295)(hb:b<=4294967295):EvEnt M (rJ e a b):=by
 obtain⟨h1,h2,h3,h4,h5,h6⟩:=(apC e).1 h.st;unfold rJ;by_cases hi:e.is≠0∨kindOf e.i.op=3∨kindOf e.i.op=4
 ·rw[af1 hi];exact h
 rw[dZ hi];have hh:e.halt=0:=af4 λq=>by rcases h5 q with x|x<;>omega
 have n4:kindOf e.i.op≠4:=λq=>hi (.inr (.inr q));have n3: ¬(kindOf e.i.op=3∨kindOf e.i.op=4):=λq=>hi (.inr q);by_cases k1:kindOf e.i.op=1
 ·rw[af1 k1];exact⟨(apC _).2 ⟨by simp,λ_=>by simp,λq=>absurd rfl q,λq=>absurd q (by simp),λq=>absurd hh q,h6⟩,λ_ q=>absurd q n3,λq=>absurd q n4,λq=>absurd q n4⟩
 rw[dZ k1];by_cases k2:kindOf e.i.op=2
 ·rw[af1 k2];exact⟨(apC _).2 ⟨by simp,λ_=>by have:=alR k2 ha hb;show(0:Int)<((tookP e.i.op a b:Nat):Int);omega,λq=>absurd rfl q,λq=>absurd q (by simp),λq=>absurd hh q,h6⟩,λ_ q=>absurd q n3,λq=>absurd q n4,λq=>absurd q n4⟩
 rw[dZ k2];by_cases k5:kindOf e.i.op=5
 ·rw[af1 k5];split
  ·exact⟨(apC _).2 ⟨by simp,λ_=>by simp,λq=>absurd rfl q,λq=>absurd q (by simp),λq=>absurd hh q,h6⟩,λ_ q=>absurd q n3,λq=>absurd q n4,λq=>absurd q n4⟩
  refine⟨(apC _).2 ⟨by simp,λ_=>by simp,λq=>absurd rfl q,λq=>absurd q (by simp),λ_=>.inr ⟨rfl,k5,rfl⟩,?_⟩,λ_ q=>absurd q n3,λq=>absurd q n4,λq=>absurd q n4⟩;rcases h6 with x|x|x
  ·exact .inl x
  ·omega
  omega
 rw[dZ k5];exact⟨(apC _).2 ⟨by simp,λ_=>by simp,λq=>absurd rfl q,λq=>absurd q (by simp),λq=>absurd hh q,h6⟩,λ_ q=>absurd q n3,λq=>absurd q n4,λq=>absurd q n4⟩
theorem EvEnt.agZ{M}{e}(h:EvEnt M e)(a):EvEnt M (yC e M a):=by
 obtain⟨h1,h2,h3,h4,h5,h6⟩:=(apC e).1 h.st;unfold yC;by_cases hi:(kindOf e.i.op≠3∧kindOf e.i.op≠4)∨e.is≠0∨e.known=true
 ·rw[af1 hi];exact h
 rw[dZ hi];have i0:e.is=0:=af4 λq=>hi (.inr (.inl q));have hh:e.halt=0:=af4 λq=>by rcases h5 q with x|x<;>omega
 have hl:e.left=0:=h3 omT;split
 ·rename_i hr;exact⟨(apC _).2 ⟨h1,h2,h3,λq=>absurd (show e.is=2 from q) omT,h5,h6⟩,λ_ _=>hr,h.s4,λ_ _ _=>rfl⟩
 ·have hk:e.known=false:=by cases hq:e.known with
   |false=>rfl
   |true=>exact absurd (.inr (.inr hq)) hi
  refine⟨(apC _).2 ⟨by simp,λq=>absurd q (by simp),λ_=>hl,λq=>absurd q (by simp),λ_=>.inl rfl,?_⟩,λq=>(by rw[show e.known=true from q]at hk;cases hk),λ_=>.inr rfl,λ_ _ q=>?_⟩
  ·rcases h6 with x|x|x
   ·exact .inl x
   ·omega
   ·omega
  ·have q:(if kindOf e.i.op=4 then(5:Int)else 4)=0:=q;split at q<;>omega
theorem EvEnt.take{M}{e}(h:EvEnt M e)(s):EvEnt M (uM e s):=by
 obtain⟨h1,h2,h3,h4,h5,h6⟩:=(apC e).1 h.st;unfold uM;by_cases hi:kindOf e.i.op≠3∨e.known=false∨(e.is≠0∧e.is≠2)
 ·rw[af1 hi];exact h
 rw[dZ hi];have k3:kindOf e.i.op=3:=af4 λq=>hi (.inl q);have hh:e.halt=0:=af4 λq=>by rcases h5 q with x|x<;>omega
 exact⟨(apC _).2 ⟨by simp,λ_=>by simp,λq=>absurd rfl q,λq=>absurd q (by simp),λq=>absurd hh q,h6⟩,h.kn,λq=>absurd (show kindOf e.i.op=4 from q) omT,λq=>absurd (show kindOf e.i.op=4 from q) omT⟩
theorem EvEnt.store{M}{e}(h:EvEnt M e)(b):EvEnt M (uF e b):=by
 obtain⟨h1,h2,h3,h4,h5,h6⟩:=(apC e).1 h.st;unfold uF;by_cases hi:kindOf e.i.op≠4∨e.known=false∨e.is≠0
 ·rw[af1 hi];exact h
 rw[dZ hi];have i0:e.is=0:=af4 λq=>hi (.inr (.inr q))
 have hk:e.known=true:=by cases hq:e.known with
  |true=>rfl
  |false=>exact absurd (.inr (.inl hq)) hi
 exact⟨(apC _).2 ⟨by simp,λq=>absurd q (by simp),λ_=>h3 omT,λq=>absurd q (by simp),λ_=>.inl rfl,h6⟩,h.kn,λ_=>.inr rfl,λ_ _ _=>hk⟩
theorem EvEnt.fill{M}{e}(h:EvEnt M e)(c)(agY):EvEnt M (wO c agY e):=by
 unfold wO;split
 ·exact EvEnt.take (e:={e with agU:=true}) ⟨h.st,h.kn,h.s4,h.k4⟩ _
 exact h
theorem EvEnt.wait{M}{e}(h:EvEnt M e)(h3:kindOf e.i.op=3)(hk:e.known=true)(h0:e.is=0∨e.is=2):EvEnt M {e with is:=2}:=by
 obtain⟨h1,h2,hl,h4,h5,h6⟩:=(apC e).1 h.st;have hh:e.halt=0:=af4 λq=>by rcases h5 q with x|x<;>omega
 exact⟨(apC _).2 ⟨by simp,λq=>absurd q (by simp),λ_=>hl omT,λ_=>⟨h3,hk⟩,λq=>absurd hh q,h6⟩,h.kn,λq=>absurd (show kindOf e.i.op=4 from q) omT,λq=>absurd (show kindOf e.i.op=4 from q) omT⟩
def anU(e):(goE e).no=e.no:=by unfold goE;(repeat' split)<;>rfl
def alS(e)(a b):(rJ e a b).no=e.no:=by unfold rJ;(repeat' split)<;>rfl
def akS(e)(M)(a):(yC e M a).no=e.no:=by unfold yC;(repeat' split)<;>rfl
def ai4(e)(s):(uM e s).no=e.no:=by unfold uM;split<;>rfl
def alT(e)(b):(uF e b).no=e.no:=by unfold uF;split<;>rfl
def alU(c)(agY)(e):(wO c agY e).no=e.no:=by
 unfold wO;split
 ·rw[ai4]
 rfl
structure RoLst(M nx:Int)(l:List Ent):Prop where
 ev:∀e∈l,EvEnt M e∧e.no<nx
 up:(l.map (·.no)).Pairwise (· < ·)
theorem RoLst.nil{M nx}:RoLst M nx []:=⟨λ_ h=>(List.not_mem_nil h).elim,.nil⟩
theorem RoLst.map{M nx}{l}(h:RoLst M nx l){f}(hf:∀e,EvEnt M e->EvEnt M (f e))(hn:∀e,(f e).no=e.no):RoLst M nx (l.map f):=by
 refine⟨λe he=>?_,?_⟩
 ·obtain⟨x,hx,rfl⟩:=pG.1 he;exact⟨hf x (h.ev x hx).1,by rw[hn];exact(h.ev x hx).2⟩
 rw[List.map_map,show((λe:Ent=>e.no)∘f)=λe=>e.no from funext hn];exact h.up
theorem RoLst.set{M nx}{l}(h:RoLst M nx l){i}{x e}(hx:l[i]?=some x)(he:EvEnt M e)(hn:e.no=x.no):RoLst M nx (l.set i e):=by
 refine⟨λy hy=>?_,?_⟩
 ·rcases List.mem_or_eq_of_mem_set hy with q|rfl
  ·exact h.ev y q
  exact⟨he,by rw[hn];exact(h.ev x (aB hx)).2⟩
 rw[List.map_set,hn];rw[show(l.map _).set i x.no=l.map (·.no)from ?_]
 ·exact h.up
 refine dD λj=>?_;by_cases hj:i=j
 ·subst hj;have hl:=(Em.1 hx).1;rw[aZ (by rw[aH];exact hl),aX,hx];rfl
 rw[kX hj]
theorem RoLst.sub{M nx}{l k}(h:RoLst M nx l)(hs:k.Sublist l):RoLst M nx k:=
 ⟨λe he=>h.ev e (hs.mem he),h.up.sublist (hs.map _)⟩
theorem RoLst.cut{M nx}{l}(h:RoLst M nx l)(i):RoLst M nx (DY l i):=by
 unfold DY;split
 ·rename_i e he;have hi:=(Em.1 he).1;have hs:(l.take i++[{e with agK:=e.next}])=(l.set i {e with agK:=e.next}).take (i+1):=by
   rw[bW,aZ hi,List.take_set_of_le (aC _)];rfl
  rw[hs];have hev:=(h.ev e (aB he)).1;exact(h.set he (e:={e with agK:=e.next}) ⟨hev.st,hev.kn,hev.s4,hev.k4⟩ rfl).sub (List.take_sublist _ _)
 exact h
theorem RoLst.push{M nx}{l}(h:RoLst M nx l){e}(he:EvEnt M e)(hn:e.no=nx):RoLst M (nx+1) (l++[e]):=by
 refine⟨λy hy=>?_,?_⟩
 ·rcases al_List_mem_append.1 hy with q|q
  ·have:=h.ev y q;exact⟨this.1,oT⟩
  rw[uJ.1 q];exact⟨he,oT⟩
 rw[dH,List.pairwise_append];refine⟨h.up,List.pairwise_singleton _ _,λa ha b hb=>?_⟩;obtain⟨y,hy,rfl⟩:=pG.1 ha;have:=(h.ev y hy).2;have hb:b=e.no:=sU hb;omega
theorem RoLst.right{M nx}{l}(h:RoLst M nx l)(h8:l.length<=8):Ff l=true:=by
 unfold Ff;rw[aP,rC];refine⟨jP h8,λi hi=>?_⟩;unfold IB;split
 ·rename_i e he;rw[aP];refine⟨?_,(h.ev e (aB he)).1.st⟩
  cases i with
  |zero=>rfl
  |succ i=>
   have hl:=(Em.1 he).1;have hx:l[i]?=some _:=aA omT;have:=List.pairwise_iff_getElem.1 h.up i _ (by rw[aH];omega) (by rw[aH];omega) omT;rw[List.getElem_map,List.getElem_map]at this;have e2:l[i+1]=e:=(Em.1 he).2;rw[e2]at this;unfold ZI;rw[(oT:i+1-1=i),hx];simp[this]
 ·rfl
theorem RoLst.agF{M nx:Int}{r:Nat->Nat}{l:List Ent}(h:RoLst M nx l):∀k,RoLst M nx (cN r l k)
 |0=>h
 | k+1=>by
  have ih:=RoLst.agF (r:=r) h k;show RoLst M nx (storeAt r (cN r l k) k);unfold storeAt;split
  ·rename_i e he;split
   ·split
    ·exact ih.set he ((ih.ev e (aB he)).1.store _) (alT _ _)
    ·exact ih
   ·exact ih
  ·exact ih
def aoD(c:Ca)(k:Nat)(s:List Wy):(rK c k s).agJ.length=c.agJ.length∧(rK c k s).ways=c.ways:=⟨cC,rfl⟩
def ahG(c)(agY):(tO c agY).agJ.length=c.agJ.length∧(tO c agY).ways=c.ways:=by
 unfold tO;split
 ·exact aoD _ _ _
 exact⟨rfl,rfl⟩
def aiH(c)(agY)(d)(b):(qZ c agY d b).1.agJ.length=c.agJ.length∧(qZ c agY d b).1.ways=c.ways:=by
 unfold qZ;split
 ·split
  ·exact aoD _ _ _
  split<;>exact aoD _ _ _
 exact⟨rfl,rfl⟩
def ai0(c)(a)(b):(xL c a b).1.agJ.length=c.agJ.length∧(xL c a b).1.ways=c.ways:=by
 unfold xL;split
 ·split
  ·split
   ·exact⟨rfl,rfl⟩
   exact aoD _ _ _
  exact⟨rfl,rfl⟩
 exact⟨rfl,rfl⟩
def ai1(c)(agY):(wB c agY).agJ.length=c.agJ.length∧(wB c agY).ways=c.ways:=by
 unfold wB;split
 ·exact aoD _ _ _
 exact⟨rfl,rfl⟩
def ai2(c)(agY):(oK c agY).data.agJ.length=c.data.agJ.length∧(oK c agY).data.ways=c.data.ways:=by
 have hp:=aiH c.data (lineOf agY) (Ga (jZ c.agS c.mem) (lineOf agY)) false;unfold oK;rcases hB:iQ c.data c.agS c.mem agY (lX c.agL c.asked)with ⟨d,q,asked⟩;show d.agJ.length=_∧d.ways=_;unfold iQ at hB;split at hB
 ·cases hB;exact⟨rfl,rfl⟩
 split at hB
 ·cases hB;exact ahG _ _
 split at hB
 rename_i hq;rw[hq]at hp;split at hB<;>(cases hB;exact hp)
structure RcCor(q:Int)(c:Co):Prop where
 ro:RoLst c.mem.size c.next c.agI
 lo:0<=c.next
 nx:c.next<=q
 da:(c.data.agJ.length:Int)=c.agL.agJ∧c.data.ways=c.agL.ways
 wo:(c.agO.agJ.length:Int)=c.agL.agJ∧c.agO.ways=c.agL.ways
 sp:∀p∈c.agF,kZ c.mem.size p.agZ p.data.size=true
 pg:c.prog.length<=64
def aiI(c)(agY):(oK c agY).mem=c.mem∧(oK c agY).next=c.next∧(oK c agY).agI=c.agI∧(oK c agY).agL=c.agL∧(oK c agY).agO=c.agO∧(oK c agY).agF=c.agF∧(oK c agY).prog=c.prog:=by
 rw[<-uY];exact⟨rfl,rfl,rfl,rfl,rfl,rfl,rfl⟩
theorem RcCor.bring{q}{c}(h:RcCor q c)(agY):RcCor q (oK c agY):=by
 obtain⟨h1,h2,h3,h4,h5,h6,h7⟩:=aiI c agY;have hs:=ai2 c agY;exact⟨by rw[h1,h2,h3];exact h.ro,by rw[h2];exact h.lo,by rw[h2];exact h.nx,by rw[hs.1,hs.2,h4];exact h.da,by rw[h5,h4];exact h.wo,by rw[h6,h1];exact h.sp,by rw[h7];exact h.pg⟩
theorem RcCor.agI{q}{c d}(h:RcCor q c)(hr:RoLst c.mem.size c.next d.agI)(h1:d.mem=c.mem)(h2:d.next=c.next)(h3:d.data=c.data)(h4:d.agO=c.agO)(h5:d.agL=c.agL)(h6:d.agF=c.agF)(h7:d.prog=c.prog):RcCor q d:=
 ⟨by rw[h1,h2];exact hr,by rw[h2];exact h.lo,by rw[h2];exact h.nx,by rw[h3,h5];exact h.da,by rw[h4,h5];exact h.wo,by rw[h6,h1];exact h.sp,by rw[h7];exact h.pg⟩
def alN{q}{c}(h:RcCor q c):RcCor q (lM c):=by
 have hb:RcCor q (jJ c):=⟨h.ro,h.lo,h.nx,h.da,h.wo,h.sp,h.pg⟩;rw[kC];split
 ·unfold ID
  repeat' split
  ·exact hb.agI (hb.ro.map (λe he=>he.fill _ _) (λe=>alU _ _ e)) rfl rfl rfl rfl rfl rfl rfl
  ·have:=aiH (jJ c).agO (eH c.agS).2.1.agY oZ false;exact⟨hb.ro,hb.lo,hb.nx,hb.da,by show((qZ _ _ _ _).1.agJ.length:Int)=_∧(qZ _ _ _ _).1.ways=_;rw[this.1,this.2];exact hb.wo,hb.sp,hb.pg⟩
  ·exact hb.bring _
  ·have e:(rP (jJ c).mem [⟨(eH c.agS).2.1.agY,(eH c.agS).2.1.data⟩]).size=(jJ c).mem.size:=iY ..;exact⟨by show RoLst _ _ _;rw[e];exact hb.ro,hb.lo,hb.nx,hb.da,hb.wo,by show ∀p∈_,kZ _ _ _=true;rw[e];exact hb.sp,hb.pg⟩
  exact hb
 exact hb
def alO{q}{c}(h:RcCor q c):RcCor q (kK c):=by
 have hw:RoLst c.mem.size c.next (afD c):=RoLst.agF (h.ro.map (λe he=>he.go) anU) _;unfold kK;split
 ·exact h
 split
 ·rename_i i _;exact h.agI (hw.cut i) rfl rfl rfl rfl rfl rfl rfl
 exact h.agI hw rfl rfl rfl rfl rfl rfl rfl
def akN(x n)(h:n=1∨n=2∨n=4):(oF x n).size=n:=by
 rcases h with rfl|rfl|rfl<;>rfl
def al6{q}{c}(h:RcCor q c){e}(he:e∈c.agI)(h3:e.is=3):RcCor q (fZ c (cA e)):=by
 refine⟨h.ro,h.lo,h.nx,h.da,h.wo,?_,h.pg⟩;show ∀p∈(match iJ (cA e)with|some p=>c.agF++[p]|none=>c.agF),_;split
 ·rename_i p hp;intro y hy;rcases al_List_mem_append.1 hy with r|r
  ·exact h.sp y r
  ·rw [uJ.1 r];have hev:=(h.ro.ev e he).1;unfold iJ at hp;split at hp
   ·cases hp
   ·rename_i hn;have hz:(cA e).store=true:=by
     cases hb:(cA e).store with
     |true=>rfl
     |false=>exact absurd (.inl hb) hn
    have hk:e.halt=0∧kindOf e.i.op=4:=by
     unfold cA at hz;by_cases q1:e.halt≠0
     ·rw[af1 q1]at hz;exact absurd (show false=true from hz) (by simp)
     ·by_cases q2:kindOf e.i.op=4
      ·exact⟨agD.1 q1,q2⟩
      ·rw[dZ q1,dZ q2]at hz
       repeat' split at hz
       all_goals exact absurd (show false=true from hz) (by simp)
    have ht:cA e=⟨e.pc,up4 e.pc,wr e.i,e.value,e.agZ,(sizeOf' e.i.op:Nat),true,0,0⟩:=by
     unfold cA;rw[dZ (λz=>z hk.1),af1 hk.2]
    rw[ht]at hp hn;injection hp with hp;have hr:=hev.kn (hev.k4 hk.2 h3 hk.1) (.inr hk.2);have hsz:sizeOf' e.i.op=1∨sizeOf' e.i.op=2∨sizeOf' e.i.op=4:=by
     have hn: ¬(((sizeOf' e.i.op:Nat):Int)≠1∧((sizeOf' e.i.op:Nat):Int)≠2∧((sizeOf' e.i.op:Nat):Int)≠4):=λz=>hn (.inr (.inr z));omega
    have hb:p.data.size=sizeOf' e.i.op:=by rw[<-hp];exact akN _ _ hsz
    rw[show p.agZ=e.agZ by rw[<-hp],hb];exact hr
 ·exact h.sp
def akO{q}{c}(h:RcCor q c){e}(he:e∈c.agI)(h3:e.is=3):RcCor q (Bm c e):=by
 have k:=al6 h he h3;exact⟨k.ro.sub (List.drop_sublist _ _),k.lo,k.nx,k.da,k.wo,k.sp,k.pg⟩
def akP{q}{c}(h:RcCor q c){e}(he:e∈c.agI)(h3:e.is=3):RcCor q (MP c e):=by
 have k:=(al6 h he h3).bring (cA e).agZ;rw[<-uY]at k;exact⟨RoLst.sub k.ro (List.drop_sublist _ _),k.lo,k.nx,k.da,k.wo,k.sp,k.pg⟩
theorem aoW{q:Int}:∀(n:Nat) (c:Co),RcCor q c->RcCor q (eC n c)
 |0,_,h=>h
 | n +1,c,h=>by
  by_cases hz:c.halt≠0∨c.agI.length=0
  ·rw[mG hz];exact h
  ·have hx:c.agI[0]?=some (c.agI[0]'omT):=aA omT;have hm:=aB hx;rw[iX omT (λr=>hz (.inl r)) hx];split
   ·exact h
   ·rename_i h3;have h3:=agD.1 h3;split
    ·exact⟨RoLst.nil,h.lo,h.nx,h.da,h.wo,h.sp,h.pg⟩
    ·split
     ·exact h
     ·rw[kB];by_cases hk:kindOf (c.agI[0]'omT).i.op=3
      ·rw[Ke hk];exact aoW n _ (akP h hm h3)
      ·rw[An hk];exact aoW n _ (akO h hm h3)
theorem RcCor.setE{q:Int}{c:Co}(h:RcCor q c){i:Nat}{x e:Ent}(hx:c.agI[i]?=some x)(he:EvEnt c.mem.size e)(hn:e.no=x.no):RcCor q (setE c i e):=h.agI (h.ro.set hx he hn) rfl rfl rfl rfl rfl rfl rfl
def amP(e)(M)(a)(h0:e.is=0):(yC e M a).known=true->(yC e M a).is=0∨e.known=false∧(yC e M a).is=0:=by
 intro hk;unfold yC at hk⊢;split
 ·exact .inl h0
 rename_i h1;rw[dZ h1]at hk;split
 ·exact .inl h0
 rename_i h2;rw[dZ h2]at hk;exact absurd (show e.known=true from hk) (λz=>h1 (.inr (.inr z)))
def amQ{q}{c}(h:RcCor q c){i}{x}(hx:c.agI[i]?=some x)(hk3:kindOf x.i.op=3)(hi:x.known=true->x.is=0):RcCor q (oE c i):=by
 have hev:=(h.ro.ev x (aB hx)).1;unfold oE;rw[hx];dsimp only;split
 ·exact h
 ·rename_i hkn
  have hk:x.known=true:=by cases hq:x.known with
   |true=>rfl
   |false=>exact absurd hq hkn
  have hw:=hev.wait hk3 hk (.inl (hi hk))
  repeat' split
  ·exact h.setE hx (hev.take _) (ai4 _ _)
  ·exact h
  ·exact h.setE hx (hev.take _) (ai4 _ _)
  ·exact h.setE hx hw rfl
  ·exact RcCor.setE (c:=jE c 1 _ oZ) ⟨h.ro,h.lo,h.nx,h.da,h.wo,h.sp,h.pg⟩ hx hw rfl
  ·exact h
def am8{l:List Ent}{i:Nat}{x e:Ent}(hx:l[i]?=some x):(l.set i e)[i]?=some e:=aZ (Em.1 hx).1
def alP{q}{c}{n}(hm:c.okM n)(h:RcCor q c){i}(hi:∀e,c.agI[i]?=some e->e.is=0):RcCor q (iS c i):=by
 have hb:=Cj hm.ok.agX hm.ok.r i;unfold iS
 cases hx:c.agI[i]? with
 |none=>exact h
 | some e=>
  have hev:=(h.ro.ev e (aB hx)).1;have h0:=hi e hx;dsimp only;split
  ·exact h.setE hx (hev.agZ _) (akS _ _ _)
  ·split
   ·rename_i k3;have hk:kindOf (yC e c.mem.size (mI c.agI c.r i).1).i.op=3:=by
     unfold yC
     (repeat' split)<;>exact k3
    exact amQ (h.setE hx (hev.agZ _) (akS _ _ _)) (am8 hx) hk (λz=>(amP e _ _ h0 z).elim id (·.2))
   ·exact h.setE hx (hev.start hb.1 hb.2) (alS _ _ _)
def set_other{l:List Ent}{i j:Nat}{e:Ent}(h:i≠j):(l.set i e)[j]?=l[j]? :=kX h
def ajP(c){i j}(h:i≠j):(oE c i).agI[j]?=c.agI[j]? :=by
 unfold oE;split
 ·rfl
 (try dsimp only)
 repeat' split
 all_goals first|rfl|exact set_other h
def ai3(c){i j}(h:i≠j):(iS c i).agI[j]?=c.agI[j]? :=by
 unfold iS;split
 ·rfl
 (try dsimp only)
 split
 ·exact set_other h
 split
 ·rw[ajP _ h];exact set_other h
 exact set_other h
theorem aiJ{q:Int}:∀(p:List Nat) (c:Co) (n:Nat),c.okM n->n+p.length<=890000->RcCor q c->p.Pairwise (· < ·)->(∀i∈p,∀e,c.agI[i]?=some e->e.is=0)->RcCor q (p.foldl iS c)
 |[],_,_,_,_,h,_,_=>h
 |i::p,c,n,hm,hb,h,hp,hi=>by
  have hl:(i::p).length=p.length+1:=rfl;rw[hl]at hb;obtain⟨h1,h2⟩:=List.pairwise_cons.1 hp;refine aiJ p _ (n+1) (yY hm omT i).1 omT (alP hm h (hi i (al_List_mem_cons_self ..))) h2 (λj hj e he=>?_);have:=h1 j hj;rw[ai3 c omT]at he;exact hi j (bY _ hj) e he
theorem ahV{agN:Int}{busy:Bool}{kinds:List Int}{can:List Bool}:∀k,(∀i∈(kA agN busy kinds can k).out,i<k∧can.getD i false=true)∧(kA agN busy kinds can k).out.Pairwise (· < ·)
 |0=>⟨λi hi=>(List.not_mem_nil hi).elim,.nil⟩
 | k + 1=>by
  have ih:=ahV (agN:=agN) (busy:=busy) (kinds:=kinds) (can:=can) k;have keep:(∀i∈(kA agN busy kinds can k).out,i<k+1∧can.getD i false=true)∧(kA agN busy kinds can k).out.Pairwise (· < ·):=⟨λi hi=>⟨oH ((ih.1 i hi).1),(ih.1 i hi).2⟩,ih.2⟩;show(∀i∈(IW agN kinds (kA agN busy kinds can k) k (can.getD k false)).out,_)∧(IW agN kinds (kA agN busy kinds can k) k (can.getD k false)).out.Pairwise _;unfold IW;split
  ·exact keep
  ·split
   ·exact keep
   ·rename_i hr;split
    ·exact keep
    ·refine⟨λi hi=>?_,?_⟩
     ·rcases al_List_mem_append.1 hi with r|r
      ·exact keep.1 i r
      ·rw[uJ.1 r]
       exact⟨oT,by cases hc:can.getD k false with
        |true=>rfl
        |false=>exact absurd hc hr⟩
     ·show((kA agN busy kinds can k).out++[k]).Pairwise _;rw[List.pairwise_append];refine⟨ih.2,List.pairwise_singleton _ _,λa ha b hb=>?_⟩;rw[uJ.1 hb];exact(ih.1 a ha).1
def am9{c}{i}{e}(h:DN c i=true)(he:c.agI[i]?=some e):e.is=0:=by
 unfold DN at h;rw[he]at h;dsimp only at h;split at h
 ·cases h
 rename_i q;exact agD.1 q
def akQ{q}{c}{n}(hm:c.okM n)(hb:n+2<=890000)(h:RcCor q c):RcCor q (gY c):=by
 by_cases hh:c.halt≠0
 ·rw[show gY c=c from af1 hh];exact h
 have hw:=pD hm.cf;have hl:=VH (agN:=c.agL.agN) (busy:=c.agI.any IE) (kinds:=Fi c) (can:=Kv c) omT (Kv c).length;have hf:=ahV (agN:=c.agL.agN) (busy:=c.agI.any IE) (kinds:=Fi c) (can:=Kv c) (Kv c).length;rw[show gY c=(kA c.agL.agN _ _ _ (Kv c).length).out.foldl iS c from dZ hh];refine aiJ _ c n hm omT h hf.2 (λi hi e he=>?_);have hc:=(hf.1 i hi).2;have hlt:=(Em.1 he).1;refine am9 ?_ he;unfold Kv at hc;rw[aR,aX,eZ hlt]at hc;exact hc
def alQ{M}(no){f}{prog}(hp:∀x∈prog,x<=4294967295):EvEnt M (qB no f prog)∧(qB no f prog).no=no:=by
 have hx:fetchW prog f.pc<4294967296:=CI (LN hp f.pc);have n4: ¬kindOf 0=4:=dT;unfold qB;split
 ·exact⟨⟨(apC _).2 ⟨by simp,λq=>absurd q (by simp),λ_=>rfl,λq=>absurd q (by simp),λ_=>.inl rfl,.inr (.inl rfl)⟩,λq=>absurd (show false=true from q) (by simp),λq=>absurd (show kindOf 0=4 from q) n4,λq=>absurd (show kindOf 0=4 from q) n4⟩,rfl⟩
 split
 ·exact⟨⟨(apC _).2 ⟨by simp,λq=>absurd q (by simp),λ_=>rfl,λq=>absurd q (by simp),λ_=>.inl rfl,.inr (.inr rfl)⟩,λq=>absurd (show false=true from q) (by simp),λq=>absurd (show kindOf 0=4 from q) n4,λq=>absurd (show kindOf 0=4 from q) n4⟩,rfl⟩
 rename_i ho;have hs:Xq (decN (fetchW prog f.pc))=true:=(MZ _).2 (amB _ ho hx);split
 ·exact⟨⟨(apC _).2 ⟨by simp,λq=>absurd q (by simp),λ_=>rfl,λq=>absurd q (by simp),λ_=>.inl rfl,.inl hs⟩,λq=>absurd (show false=true from q) (by simp),λ_=>.inr rfl,λ_ _ q=>absurd (show(6:Int)=0 from q) (by simp)⟩,rfl⟩
 split
 ·exact⟨⟨(apC _).2 ⟨by simp,λq=>absurd q (by simp),λ_=>rfl,λq=>absurd q (by simp),λ_=>.inl rfl,.inl hs⟩,λq=>absurd (show false=true from q) (by simp),λ_=>.inr rfl,λ_ _ q=>absurd (show(7:Int)=0 from q) (by simp)⟩,rfl⟩
 exact⟨⟨(apC _).2 ⟨(show(0:Int)<=0∧(0:Int)<=3 from⟨by simp,by simp⟩),λq=>absurd (show(0:Int)=1 from q) (by simp),λ_=>rfl,λq=>absurd (show(0:Int)=2 from q) (by simp),λq=>absurd rfl q,.inl hs⟩,λq=>absurd (show false=true from q) (by simp),λ_=>.inl rfl,λ_ q=>absurd (show(0:Int)=3 from q) (by simp)⟩,rfl⟩
theorem ahW:∀(n:Nat) (q:Int) (c:Co),(∀x∈c.prog,x<=4294967295)->q+n<=9000000->RcCor q c->RcCor (q+n) (kV n c)
 |0,q,c,_,_,h=>by rw[(oT:q+((0:Nat):Int)=q)];exact h
 | n+1,q,c,hp,hb,h=>by
  by_cases h0:(c.agI.length:Int)>=c.agL.agI∨c.agH.length=0
  ·rw[Ap h0];exact⟨h.ro,h.lo,oH h.nx,h.da,h.wo,h.sp,h.pg⟩
  ·have hx:c.agH[0]?=some (c.agH[0]'omT):=aA omT;have e:=CU (n:=n+1) (k:=0) omT (λr=>h0 (.inl r)) hx;rw[(oT:n+1-(0+1)=n),(oT:n+1-0=n+1)]at e;rw[<-e,(oT:q+((n+1:Nat):Int)=(q+1)+(n:Nat))];have hw:wrap64 (c.next+1)=c.next+1:=ajQ (oH h.lo) (oH h.nx);have he:=alQ (M:=c.mem.size) c.next (f:=c.agH[0]'omT) hp;refine ahW n (q+1) _ hp omT ⟨?_,?_,?_,h.da,h.wo,h.sp,h.pg⟩
   ·show RoLst c.mem.size (wrap64 (c.next+1)) (c.agI++[_]);rw[hw];exact h.ro.push he.1 he.2
   ·show 0<=wrap64 (c.next+1);rw[hw];have:=h.lo;omega
   ·show wrap64 (c.next+1)<=_;rw[hw];have:=h.nx;omega
theorem ahH{q:Int}:∀(n:Nat) (c:Co),RcCor q c->RcCor q (eL n c)
 |0,_,h=>h
 | n +1,c,h=>by
  by_cases h0:c.stop=true∨(c.agH.length:Int)>=c.agL.queue
  ·rw[yZ h0];exact h
  ·by_cases hf:(fetchP c.prog c.agM).isSome=false
   ·rw[Aq omT h0 hf];exact⟨h.ro,h.lo,h.nx,h.da,h.wo,h.sp,h.pg⟩
   ·by_cases hw:(bK c.agO (lineOf c.agM)).2.isSome=false
    ·rw[uD omT h0 hf hw];split
     ·exact⟨h.ro,h.lo,h.nx,h.da,h.wo,h.sp,h.pg⟩
     ·exact h
    ·have e:=BC (n:=n+1) (k:=0) omT h0 hf hw;rw[(oT:n+1-(0+1)=n),(oT:n+1-0=n+1)]at e;rw[<-e];refine ahH n _ ?_;have ht:=ahG c.agO (lineOf c.agM);have hT:RcCor q (lJ c):=⟨h.ro,h.lo,h.nx,h.da,by show((tO _ _).agJ.length:Int)=_∧(tO _ _).ways=_;rw[ht.1,ht.2];exact h.wo,h.sp,h.pg⟩;have hb:∀w,RcCor q (dM (lJ c) w).1:=by
      intro w;unfold dM
      repeat' split
      all_goals exact⟨hT.ro,hT.lo,hT.nx,hT.da,hT.wo,hT.sp,hT.pg⟩
     have k:=hb (fetchW c.prog c.agM);exact⟨k.ro,k.lo,k.nx,k.da,k.wo,k.sp,k.pg⟩
def akR{q}{c}(h:RcCor q c):RcCor q (tY c):=by
 have h1:RcCor q (aW c):=by
  refine⟨h.ro,h.lo,h.nx,?_,h.wo,?_,h.pg⟩
  ·show((sL c.agF c.data).2.1.agJ.length:Int)=_∧(sL c.agF c.data).2.1.ways=_;unfold sL;split
   ·exact h.da
   rename_i p l _;have:=ai0 c.data p.agZ p.data;split
   ·rw[this.1,this.2];exact h.da
   exact h.da
  show ∀p∈(sL c.agF c.data).1,_;unfold sL;split
  ·exact h.sp
  rename_i p l hs;split
  ·exact λy hy=>h.sp y (by rw[hs];exact bY _ hy)
  exact h.sp
 have hA:∀{d:Co},RcCor q d->RcCor q (tW d):=λ{d} k=>by
  unfold tW;split
  ·exact k
  split
  ·exact⟨k.ro,k.lo,k.nx,k.da,k.wo,k.sp,k.pg⟩
  exact k
 have hB:∀{d:Co},RcCor q d->RcCor q (nP d):=λ{d} k=>by
  unfold nP;split
  ·exact k
  unfold pE;split
  ·split
   ·rename_i w _ _;have:=ai1 d.data w.agY;exact⟨k.ro,k.lo,k.nx,by show((wB _ _).agJ.length:Int)=_∧(wB _ _).ways=_;rw[this.1,this.2];exact k.da,k.wo,k.sp,k.pg⟩
   exact k
  exact k
 rw[mO];split
 ·exact hB (hA h1)
 exact hB h1
def aoN(n lo hi)(h:0<=lo∧lo<=hi):0<=bV n lo hi:=by unfold bV;(repeat' split)<;>omega
def anA(c:Cf)(prog:List Nat)(m:ByteArray):Bd (bZ c) 0 (fX c prog m):=
 ⟨rfl,aoN _ 2 8 dT,aoN _ 1 4 dT,aoN _ 1 4 dT,aoN _ 2 6 dT,rfl⟩
def akY(c:Cf):0<=(bZ c).agI∧0<=(bZ c).queue:=⟨aoN _ 2 8 dT,aoN _ 1 4 dT⟩
def anV{f}(h0:0<=f.agI∧0<=f.queue){c}(h:Bd f c.agG.length c):Bd f (uG c).agG.length (uG c)∧c.agG.length<=(uG c).agG.length∧(uG c).agG.length<=c.agG.length+f.agN.toNat:=by
 obtain⟨b,h1,h2,h3⟩:=amU h0 h;have:=h3.ret;subst this;exact⟨h3,h1,h2⟩
theorem RcCor.mono{q r}{c}(h:RcCor q c)(hq:q<=r):RcCor r c:=⟨h.ro,h.lo,oH h.nx,h.da,h.wo,h.sp,h.pg⟩
def amO{q}{c}{n}(hm:c.okM n)(hb:n+20<=890000)(hq:q+2<=9000000)(h:RcCor q c):RcCor (q+2) (ZJ c):=by
 have hk:=Ql hm hb;have h0:RcCor q (s0 c):=⟨h.ro,h.lo,h.nx,h.da,h.wo,h.sp,h.pg⟩;have h3:RcCor q (s3 c):=aoW _ _ (alO (alN h0));have h4:RcCor q (s4 c):=akQ hk.k3 omT h3;have h5:RcCor (q+2) (s5 c):=by
  show RcCor (q+2) (lP (s4 c));have hw:=pD hk.k4.cf;unfold lP;split
  ·exact h4.mono omT
  exact(ahW _ q _ hk.k4.ok.progo omT h4).mono omT
 have h6:RcCor (q+2) (s6 c):=by
  show RcCor (q+2) (eN (s5 c));unfold eN;split
  ·exact h5
  exact ahH _ _ h5
 exact akR h6
def ahF{x}(h:∃n,x.size=upS n):jB x=x:=by
 obtain⟨n,hn⟩:=h;have hu:x.size=16∨x.size=32∨x.size=64∨x.size=128∨x.size=256:=by rw[hn];unfold upS;(repeat' split)<;>omega
 unfold jB;rw[(oT:min x.size 256=x.size),show upS x.size-x.size=0 by rcases hu with e|e|e|e|e<;>rw[e]<;>rfl,List.replicate_zero,dY,show x.extract 0 x.size=x by simp]
 try (cases x;simp)
def akL{f}{a n}{q}{c}(hm:c.okM n)(hB:Bd f a c)(h:RcCor q c)(hs:∃n,c.mem.size=upS n):jF c=true:=by
 have hc:=pD hm.cf;have b1:=hB.agI;have b2:=hB.fet;have b3:=hB.sto;rw[<-hB.agL]at b1 b2 b3;unfold jF;simp only[aP,aY,rC];refine⟨⟨⟨⟨⟨⟨⟨⟨⟨⟨⟨hm.cf,h.pg⟩,?_⟩,h.ro.right omT⟩,b1⟩,λe he=>(h.ro.ev e he).2⟩,?_⟩,?_⟩,hm.agK⟩,b2⟩,b3⟩,h.sp⟩
 ·rw[ahF hs];simp
 ·unfold Ax;simp only[aP,aY];exact⟨⟨hm.data,h.da.1⟩,h.da.2⟩
 unfold Ax;simp only[aP,aY];exact⟨⟨hm.agO,h.wo.1⟩,h.wo.2⟩
structure GdRun(X:Co)(k:Nat):Prop where
 ok:(uN X k).ok (10*k)
 bd:Bd X.agL (uN X k).agG.length (uN X k)
 rc:RcCor (1+2*k) (uN X k)
 ms:∃n,(uN X k).mem.size=upS n
 rt:jF (uN X k)=true
def am7(cf)(prog)(m)(hc:cf.ok)(hp:∀x∈prog,x<=4294967295)(X)(hX:X=fX cf prog m)(hr:jF X=true):GdRun X 0:=by
 have h0:=Id cf prog m hc hp;subst hX;refine⟨h0,anA cf prog m,⟨RoLst.nil,(show(0:Int)<=1 from dT),(show(1:Int)<=1+2*((0:Nat):Int)from dT),?_,?_,λp hp=>(List.not_mem_nil hp).elim,?_⟩,⟨_,wE m⟩,hr⟩;rotate_left 2
 ·show(prog.take _).length<=64;rw[aM];omega
 all_goals
  unfold jF at hr;simp only[aP,aY]at hr
  first|obtain⟨⟨⟨⟨⟨⟨-,h7⟩, -⟩, -⟩, -⟩, -⟩, -⟩:=hr|obtain⟨⟨⟨⟨⟨-,h7⟩, -⟩, -⟩, -⟩, -⟩:=hr
  unfold Ax at h7;simp only[aP,aY]at h7;exact⟨h7.1.2,h7.2⟩
theorem GdRun.next{X}{k}(h:GdRun X k)(hk:k<=3000)(h0:0<=X.agL.agI∧0<=X.agL.queue):GdRun X (k+1):=by
 have hm:=EL h.ok omT h.rt;have hs:uG (uN X k)=ZJ (uN X k):=af1 h.rt;have hB:=(anV h0 h.bd).1;have hR:=amO hm omT omT h.rc;have hM:∃n,(uN X (k+1)).mem.size=upS n:=by
  obtain⟨n,hn⟩:=h.ms;exact⟨n,(amE h.rt).2.2.trans hn⟩
 have hk7:=(Ql hm omT).k7;have hR2:RcCor (1+2*((k+1:Nat):Int)) (uN X (k+1)):=by
  show RcCor _ (uG (uN X k));rw[hs,(oT:1+2*((k+1:Nat):Int)=1+2*(k:Int)+2)];exact hR
 have hk8:(uN X (k+1)).okM (10*k+10):=by show(uG (uN X k)).okM _;rw[hs];exact hk7
 exact⟨by rw[(oT:10*(k+1)=10*k+10)];exact hk8.ok,hB,hR2,hM,akL hk8 hB hR2 hM⟩
theorem al5{X:Co}(h:GdRun X 0)(h0:0<=X.agL.agI∧0<=X.agL.queue):∀k,k<=3000->GdRun X k
 |0,_=>h
 |k+1,hk=>(al5 h h0 k omT).next omT h0
def akM(cf)(prog)(m)(h0:(fX cf prog m).ok 0):jF (fX cf prog m)=true:=by
 have hc:∀n lo hi:Int,lo<=hi->lo<=bV n lo hi∧bV n lo hi<=hi:=λn lo hi h=>by unfold bV;(repeat' split)<;>omega
 have hcf:wA (bZ cf)=true:=by
  unfold wA inI bZ;have h1:=hc cf.mode 0 2 dT;have h2:=hc cf.agN 1 2 dT;have h3:=hc cf.agI 2 8 dT;have h4:=hc cf.queue 1 4 dT;have h5:=hc cf.agF 1 4 dT;have h6:=hc cf.agP 2 6 dT;have h7:=hc cf.agJ 1 4 dT;have h8:=hc cf.ways 1 2 dT;have h9:(1<=(if bV cf.agJ 1 4=3 then 2 else bV cf.agJ 1 4))∧(if bV cf.agJ 1 4=3 then 2 else bV cf.agJ 1 4)<=4∧(if bV cf.agJ 1 4=3 then 2 else bV cf.agJ 1 4)≠3:=by split<;>omega
  simp only[aP,aY,rC,ge_iff_le,ne_eq];refine⟨⟨⟨⟨⟨⟨⟨⟨⟨⟨⟨λx hx=>?_,h1⟩,h2⟩,h3⟩,h4⟩,h5⟩,h6⟩,⟨h9.1,h9.2.1⟩⟩,h9.2.2⟩,h8⟩,?_⟩,?_⟩
  ·obtain⟨y,_,rfl⟩:=pG.1 hx;exact hc y 1 8 dT
  ·rw[aH,aM];omega
  rw[aM];omega
 have hcl:=pD hcf;have hCa:∀s w:Int,(s=1∨s=2∨s=4)->(w=1∨w=2)->Ax (CZ s w) { (bZ cf)with agJ:=s,ways:=w}=true:=by
  intro s w hs hw;rcases hs with rfl|rfl|rfl<;>rcases hw with rfl|rfl<;>rfl
 have hsets:(bZ cf).agJ=1∨(bZ cf).agJ=2∨(bZ cf).agJ=4:=by
  have:=hc cf.agJ 1 4 dT;show(if bV cf.agJ 1 4=3 then 2 else bV cf.agJ 1 4)=1∨(if bV cf.agJ 1 4=3 then 2 else bV cf.agJ 1 4)=2∨(if bV cf.agJ 1 4=3 then 2 else bV cf.agJ 1 4)=4;split<;>omega
 have hways:(bZ cf).ways=1∨(bZ cf).ways=2:=by
  have:=hc cf.ways 1 2 dT;show bV cf.ways 1 2=1∨bV cf.ways 1 2=2;omega
 have hf:=hCa _ _ hsets hways;unfold jF;have hm:(fX cf prog m).mem=jB m:=rfl;rw[show jB (fX cf prog m).mem=(fX cf prog m).mem from ahF ⟨_,wE m⟩];simp only[aP,aY,rC];refine⟨⟨⟨⟨⟨⟨⟨⟨⟨⟨⟨hcf,?_⟩,by simp⟩,rfl⟩,?_⟩,λe he=>(List.not_mem_nil he).elim⟩,hf⟩,hf⟩,rfl⟩,?_⟩,?_⟩,λe he=>(List.not_mem_nil he).elim⟩
 ·show(prog.take (min prog.length 64)).length<=64;rw[aM];omega
 ·show((0:Nat):Int)<=(bZ cf).agI;omega
 ·show((0:Nat):Int)<=(bZ cf).queue;omega
 show((0:Nat):Int)<=(bZ cf).agF;omega
end Go.Proofs.YtlpkggpdjobpmaaGreatDoor
