/- Lemmas. -/
import Derived.WideShapes
import Derived.Test.YtffibhgbpgjioaaGreatDoorS1
import Derived.Test.YtffibhgbpgjioaaGreatDoorS8
import Derived.Test.YtffibhgbpgjioaaGreatDoorS28
import Derived.Test.YtffibhgbpgjioaaGreatDoorS29
import Derived.Test.YtffibhgbpgjioaaGreatDoorS31
import Derived.Test.YtffibhgbpgjioaaGreatDoorS33
set_option linter.all false
namespace Go.Proofs.YtffibhgbpgjioaaGreatDoor
open Go.RowKit
def EL{c:Co}{n:Nat}(h:c.ok n)(hb:n<=890000)(hr:jF c=true):c.okM n:=by
 unfold jF at hr;simp only[aP,aY]at hr;obtain⟨⟨⟨⟨⟨⟨⟨⟨⟨⟨⟨h1,h2⟩,h3⟩,h4⟩,h5⟩,h6⟩,h7⟩,h8⟩,h9⟩,h10⟩,h11⟩,h12⟩:=hr;unfold Ax at h7 h8;simp only[aP,aY]at h7 h8;have hc:=pD h1;have hm:c.mem.size<=256:=by
  have e:c.mem.toList=(jB c.mem).toList:=sU h3;have e2:c.mem.size=(jB c.mem).size:=by rw[<-afJ, <-afJ (jB c.mem),e]
  rw[e2,wE];unfold upS;repeat' split
  all_goals omega
 have hs:∀x∈c.agF,x.data.size<=4:=λx hx=>by
  have:=rC.1 h12 x hx;unfold kZ at this;simp only[aP,aY]at this;omega
 exact⟨h,hb,h1,h7.1.1,h8.1.1,h9,oT,oT,oT,oT,hm,hs⟩
def ab5(K:AH)(m b1 s2:Nat)(c:Co)(F S T:AV)(h':AH):Prop:=
 (c.agI=[]∧h'=upd K m (some (.box (mcX c (.sl 17 [] false) F S T))))∨
 ∃(b:Nat) (A B:List Ent) (k:Bool),(b=b1∨b=s2)∧A.length+c.agI.length+B.length<=1000∧h'=upd (upd K m (some (.box (mcX c (.osl b A.length c.agI.length k) F S T)))) b (some (.arr ((A++c.agI++B).map enL) 17))
def Qp{f:FuncId}{b0:Blk}{c:Co}{kF kS kT:Bool}{xF xS xT:List (List AV)}(H:pM C0.P C0.G f [.ptr 0 0] (heapF [(0,b0)]) 1 (λx h'=>x=.tup []∧VF 1 c (.sl 2 xF kF) (.sl 2 xS kS) (.sl 9 xT kT) h'))(m:Nat)(K:AH)(s2:Nat)(hL:FrL (λ_=>m) K 1 s2 [(0,b0)]):
  pM C0.P C0.G f [.ptr m 0] K s2 (λx h'=>x=.tup []∧ab5 K m s2 s2 c (.sl 2 xF kF) (.sl 2 xS kS) (.sl 9 xT kT) h'):=by
 refine H.frameL (λ_=>m) K s2 rfl hL rfl rfl _ λr' h' hP=>?_;obtain⟨rfl,hP⟩:=hP;rcases hP with ⟨h0,rfl⟩|⟨b,A,B,k,hb,hl,rfl⟩
 ·refine⟨_,⟨rfl,.inl ⟨h0,rfl⟩⟩,λy blk hy=>?_⟩;by_cases he:y=m
  ·subst he;rw[dB]at hy;injection hy with hy;subst hy;exact .inl ⟨0,_,rfl,rfl,rfl⟩
  rw[cI _ _ he]at hy;exact .inr ⟨hy,λx _ e=>he e.symm⟩
 have hb1:b=1:=oT;subst hb1;refine⟨_,⟨rfl,.inr ⟨s2,A,B,k,.inr rfl,hl,rfl⟩⟩,λy blk hy=>?_⟩;by_cases hs:y=s2
 ·subst hs;rw[dB]at hy;injection hy with hy;subst hy;exact .inl ⟨1,_,rfl,(wD _ _ _).symm,rfl⟩
 rw[cI _ _ hs]at hy;by_cases he:y=m
 ·subst he;rw[dB]at hy;injection hy with hy;subst hy;exact .inl ⟨0,_,rfl,rfl,rfl⟩
 rw[cI _ _ he]at hy;exact .inr ⟨hy,λx _ e=>he e.symm⟩
def Qq{f:FuncId}{b0 b1:Blk}{c:Co}{kF kS kT:Bool}{xF xS xT:List (List AV)}(H:pM C0.P C0.G f [.ptr 0 0] (heapF [(0,b0),(1,b1)]) 2 (λx h'=>x=.tup []∧VF 2 c (.sl 2 xF kF) (.sl 2 xS kS) (.sl 9 xT kT) h'))(m nb:Nat)(K:AH)(s2:Nat)(hL:FrL (λz=>match z with|0=>m|_=>nb) K 2 s2 [(0,b0),(1,b1)])(hne:m≠nb):
  pM C0.P C0.G f [.ptr m 0] K s2 (λx h'=>x=.tup []∧ab5 (upd K nb none) m nb s2 c (.sl 2 xF kF) (.sl 2 xS kS) (.sl 9 xT kT) h'):=by
 have hi:UQ (λz=>match z with|0=>m|_=>nb) 2=true:=by
  have:Nat.beq m nb=false:=by rw[<-eJ];exact λe=>hne (aO e)
  simp[UQ,List.range,List.range.loop,this]
 have hr0:∀y, ¬y=m-> ¬y=nb->∀x,x<2->(λz=>match z with|0=>m|_=>nb) x≠y:=by
  intro y h1 h2 x _ e
  cases x with
  |zero=>exact h1 e.symm
  |succ x=>exact h2 e.symm
 refine H.frameL (λz=>match z with|0=>m|_=>nb) K s2 rfl hL hi rfl _ λr' h' hP=>?_;obtain⟨rfl,hP⟩:=hP;rcases hP with ⟨h0,rfl⟩|⟨b,A,B,k,hb,hl,rfl⟩
 ·refine⟨_,⟨rfl,.inl ⟨h0,rfl⟩⟩,λy blk hy=>?_⟩;by_cases he:y=m
  ·subst he;rw[dB]at hy;injection hy with hy;subst hy;exact .inl ⟨0,_,rfl,rfl,rfl⟩
  ·rw[cI _ _ he]at hy;by_cases hq:y=nb
   ·subst hq;rw[dB]at hy;cases hy
   ·rw[cI _ _ hq]at hy;exact .inr ⟨hy,hr0 y he hq⟩
 ·have hb2:b=1∨b=2:=oT;have key:∀bn,bn=Gg (λz=>match z with|0=>m|_=>nb) 2 s2 b->(bn=nb∨bn=s2)->∃K',((uW (Gg (λz=>match z with|0=>m|_=>nb) 2 s2) (.tup [])=.tup [])∧ab5 (upd K nb none) m nb s2 c (.sl 2 xF kF) (.sl 2 xS kS) (.sl 9 xT kT) K')∧∀y blk,K' y=some blk->(∃x blk0,heapF [(0,.box (mcX c (.osl b A.length c.agI.length k) (.sl 2 xF kF) (.sl 2 xS kS) (.sl 9 xT kT))),(b,.arr ((A++c.agI++B).map enL) 17)] x=some blk0∧y=Gg (λz=>match z with|0=>m|_=>nb) 2 s2 x∧blk=DI (Gg (λz=>match z with|0=>m|_=>nb) 2 s2) blk0)∨(K y=some blk∧∀x,x<2->(λz=>match z with|0=>m|_=>nb) x≠y):=by
   intro bn hbn hor;refine⟨_,⟨rfl,.inr ⟨bn,A,B,k,hor,hl,rfl⟩⟩,λy blk hy=>?_⟩;by_cases hs:y=bn
   ·subst hs;rw[dB]at hy;injection hy with hy;subst hy;refine .inl ⟨b,.arr ((A++c.agI++B).map enL) 17,?_,hbn,rfl⟩;rcases hb2 with rfl|rfl<;>rfl
   ·rw[cI _ _ hs]at hy;by_cases he:y=m
    ·subst he;rw[dB]at hy;injection hy with hy;subst hy;refine .inl ⟨0,_,rfl,rfl,?_⟩;rw[hbn];rfl
    ·rw[cI _ _ he]at hy;by_cases hq:y=nb
     ·subst hq;rw[dB]at hy;cases hy
     ·rw[cI _ _ hq]at hy;exact .inr ⟨hy,hr0 y he hq⟩
  rcases hb2 with rfl|rfl
  ·exact key nb rfl (.inl rfl)
  ·exact key s2 rfl (.inr rfl)
def Zn{f:FuncId}{b0:Blk}{n:Nat}{c:Co}{kF kS kT:Bool}{xF xS xT:List (List AV)}{rows:List (List AV)}(H:pM C0.P C0.G f [.ptr 0 0] (heapF [(0,b0)]) 1 (λx h'=>x=.tup []∧h'=heapF [(0,.box (mcX c (.osl 1 0 n false) (.sl 2 xF kF) (.sl 2 xS kS) (.sl 9 xT kT))),(1,.arr rows 17)]))(m:Nat)(K:AH)(s2:Nat)(hL:FrL (λ_=>m) K 1 s2 [(0,b0)]):
  pM C0.P C0.G f [.ptr m 0] K s2 (λx h'=>x=.tup []∧h'=upd (upd K m (some (.box (mcX c (.osl s2 0 n false) (.sl 2 xF kF) (.sl 2 xS kS) (.sl 9 xT kT))))) s2 (some (.arr rows 17))):=by
 refine H.frameL (λ_=>m) K s2 rfl hL rfl rfl _ λr' h' hP=>?_;obtain⟨rfl,rfl⟩:=hP;refine⟨_,⟨rfl,rfl⟩,λy blk hy=>?_⟩;by_cases hs:y=s2
 ·subst hs;rw[dB]at hy;injection hy with hy;subst hy;exact .inl ⟨1,_,rfl,(wD _ _ _).symm,rfl⟩
 rw[cI _ _ hs]at hy;by_cases he:y=m
 ·subst he;rw[dB]at hy;injection hy with hy;subst hy;exact .inl ⟨0,_,rfl,rfl,rfl⟩
 rw[cI _ _ he]at hy;exact .inr ⟨hy,λx _ e=>he e.symm⟩
open Go.Proofs.Tryz
set_option maxRecDepth 100000
set_option maxHeartbeats 4000000
def s0(c:Co):Co:={c with cycle:=wrap64 (c.cycle+1)}
def s1(c:Co):Co:=lM (s0 c)
def s2(c:Co):Co:=kK (s1 c)
def s3(c:Co):Co:=af7 (s2 c)
def s4(c:Co):Co:=gY (s3 c)
def s5(c:Co):Co:=lP (s4 c)
def s6(c:Co):Co:=eN (s5 c)
def s7(c:Co):Co:=tY (s6 c)
def TM(c:Co):ZJ c=s7 c:=rfl
def Zf{c:Co}{n:Nat}(h:c.okM n):(s0 c).okM n:=⟨⟨h.ok.agL,h.ok.prog,h.ok.progo,h.ok.r,h.ok.agM,h.ok.fet,h.ok.feto,h.ok.agI,h.ok.agX,h.ok.sto,h.ok.stoo,h.ok.data,h.ok.agO,h.ok.agS,h.ok.buso,h.ok.asked,h.ok.agT,h.ok.mem,h.ok.agK,h.ok.ret,h.ok.reto⟩,h.nb,h.cf,h.data,h.agO,h.agK,h.agI,h.fet,h.sto,h.prog,h.mem,h.std⟩
structure StepOk(c:Co)(n:Nat):Prop where
 k0:(s0 c).okM n
 k1:(s1 c).okM (n+1)
 k2:(s2 c).okM (n+1)
 k3:(s3 c).okM (n+5)
 k4:(s4 c).okM (n+7)
 k5:(s5 c).okM (n+7)
 k6:(s6 c).okM (n+8)
 k7:(s7 c).okM (n+10)
def Ql{c:Co}{n:Nat}(h:c.okM n)(hb:n+20<=890000):StepOk c n:=by
 have k0:=Zf h;have k1:(s1 c).okM (n+1):=LH k0 omT;have k2:(s2 c).okM (n+1):=LJ k1;have k3:(s3 c).okM (n+5):=Ih k2 omT;have k4:(s4 c).okM (n+7):=JX k3 omT;have k5:(s5 c).okM (n+7):=(Ai k4).1;have k6:(s6 c).okM (n+8):=(uX k5 omT).1;exact⟨k0,k1,k2,k3,k4,k5,k6,(wX k6 omT).1⟩
def xX{c:Co}{n:Nat}(h:c.ok n)(hb:n+20<=890000):(uG c).ok (n+10):=by
 unfold uG;split
 ·rename_i hr;rw[TM];exact(Ql (EL h omT hr) hb).k7.ok
 exact⟨h.agL,h.prog,h.progo,h.r,h.agM,h.fet,h.feto,h.agI,h.agX,h.sto,h.stoo,h.data,h.agO,aL h.agS omT,h.buso,h.asked,h.agT,h.mem,h.agK,aL h.ret omT,h.reto⟩
def Ie{c:Co}{R R' F F' S S' T T':AV}(hR:R=R')(hF:F=F')(hS:S=S')(hT:T=T'):some (Blk.box (mcX c R F S T))=some (Blk.box (mcX c R' F' S' T')):=by rw[hR,hF,hS,hT]
inductive Stg where
 |e0|o0|e1|o1|e2
 |o2 (A B:List Ent) (k:Bool)
 |e3
 |o3 (A B:List Ent) (k:Bool)
 |s4|s5|s6|s7
def ab1(c:Co)(nb:Nat)(hm:c.okM nb)(hne:c.agI≠[])(kR kF kS kT:Bool):pM C0.P C0.G 27 [.ptr 0 0] (heapF [(0,.box (mcX c (.sl 17 (c.agI.map enL) kR) (.sl 2 (c.agH.map ftL) kF) (.sl 2 (c.agF.map ptL) kS) (.sl 9 (c.agG.map spL) kT)))]) 1 (λx h'=>x=.tup []∧h'=heapF [(0,.box (mcX c (.osl 1 0 c.agI.length false) (.sl 2 (c.agH.map ftL) true) (.sl 2 (c.agF.map ptL) true) (.sl 9 (c.agG.map spL) true))),(1,.arr (c.agI.map enL) 17)]):=by
 obtain⟨e,l,hel⟩:=List.exists_cons_of_ne_nil hne;have hl:=hm.agI;rw[hel]at hl⊢;exact acR c nb hm e l hl kR kF kS kT
def WI(c:Co)(nb:Nat)(hm:c.okM nb)(A B:List Ent)(lo n:Nat)(kR:Bool)(hlo:A.length=lo)(hn:c.agI.length=n)(hA:A.length+n+B.length<=1000)(hAo:∀x∈A,x.ok)(hBo:∀x∈B,x.ok)(kS kT:Bool)(xS xT:List (List AV)):pM C0.P C0.G 29 [.ptr 0 0] (heapF [(0,.box (mcX c (.osl 1 lo n kR) (.sl 2 (c.agH.map ftL) true) (.sl 2 xS kS) (.sl 9 xT kT))),(1,.arr ((A++c.agI++B).map enL) 17)]) 2 (λx h'=>x=.tup []∧VF 2 (kK c) (.sl 2 ((kK c).agH.map ftL) true) (.sl 2 xS kS) (.sl 9 xT kT) h'):=by
 cases hw:yD (afD c)with
 |none=>exact WP c nb hm A B lo n kR hlo hn hA hAo hBo hw kS kT xS xT
 |some i=>exact WQ c nb hm A B lo n kR hlo hn hA hAo hBo i hw kS kT xS xT
def Qm{α:Type}{l m:List α}(h:l=[])(e:m.length=l.length):[]=m:=by
 subst h;exact(afC e).symm
def VB{b:Bool}(h:(!b)=true): ¬b=true:=by cases b<;>simp_all
def Zg(c:Co)(nb:Nat)(hok:c.ok nb)(hb:nb+20<=890000)(hr:jF c=false):bI C0 15 [.agg (coL c)] (.agg (coL (uG c))):=by
 refine dJZ func15 rfl<|zC (Ip c nb hok omT)<|aV rfl (λ_=>?_) (λh1=>by exact absurd (dQ (sI h1)) (by rw[hr];decide));refine qCN 0 rfl<|rSt rfl<|qRF 0 rfl ?_;rw[show uG c=c from dZ (by rw[hr];decide)];exact dK rfl tvT rfl rfl
noncomputable def ad8:Code->Code
 | .seq a _=>a
 |c=>c
noncomputable def WJ:Code->Code
 | .seq _ b=>b
 |c=>c
noncomputable def WK:Code:=(WJ (ad8 (WJ (WJ (WJ (WJ (WJ (WJ (Tryz.f15.body.getD .skip)))))))))
abbrev adK(c:Co):Stg->ASt:=λz_=>match z_ with| .e0=>⟨slotsF [(2,.ptr 1 0),(9,vB (!(jF c))),(3,.ptr 7 0),(21,.agg [.clo 28 [] [],.clo 29 [] [],.clo 30 [] [],.clo 31 [] [],.clo 32 [] [],.clo 33 [] [],.clo 34 [] []]),(22,vI 0)],heapF [(1,.box zCo),(7,.box (mcX (s0 c) (.sl 17 ([]) false) (.sl 2 ((s0 c).agH.map ftL) true) (.sl 2 ((s0 c).agF.map ptL) true) (.sl 9 ((s0 c).agG.map spL) true)))],23⟩| .o0=>⟨slotsF [(2,.ptr 1 0),(9,vB (!(jF c))),(3,.ptr 7 0),(21,.agg [.clo 28 [] [],.clo 29 [] [],.clo 30 [] [],.clo 31 [] [],.clo 32 [] [],.clo 33 [] [],.clo 34 [] []]),(22,vI 0)],heapF [(1,.box zCo),(7,.box (mcX (s0 c) (.osl 22 0 c.agI.length false) (.sl 2 ((s0 c).agH.map ftL) true) (.sl 2 ((s0 c).agF.map ptL) true) (.sl 9 ((s0 c).agG.map spL) true))),(22,.arr ((([]:List Ent)++(s0 c).agI++[]).map enL) 17)],23⟩| .e1=>⟨slotsF [(2,.ptr 1 0),(9,vB (!(jF c))),(3,.ptr 7 0),(21,.agg [.clo 28 [] [],.clo 29 [] [],.clo 30 [] [],.clo 31 [] [],.clo 32 [] [],.clo 33 [] [],.clo 34 [] []]),(22,vI 1)],heapF [(1,.box zCo),(7,.box (mcX (s1 c) (.sl 17 ([]) false) (.sl 2 ((s1 c).agH.map ftL) true) (.sl 2 ((s1 c).agF.map ptL) true) (.sl 9 ((s1 c).agG.map spL) true)))],23⟩| .o1=>⟨slotsF [(2,.ptr 1 0),(9,vB (!(jF c))),(3,.ptr 7 0),(21,.agg [.clo 28 [] [],.clo 29 [] [],.clo 30 [] [],.clo 31 [] [],.clo 32 [] [],.clo 33 [] [],.clo 34 [] []]),(22,vI 1)],heapF [(1,.box zCo),(7,.box (mcX (s1 c) (.osl 22 0 c.agI.length false) (.sl 2 ((s1 c).agH.map ftL) true) (.sl 2 ((s1 c).agF.map ptL) true) (.sl 9 ((s1 c).agG.map spL) true))),(22,.arr ((([]:List Ent)++(s1 c).agI++[]).map enL) 17)],23⟩| .e2=>⟨slotsF [(2,.ptr 1 0),(9,vB (!(jF c))),(3,.ptr 7 0),(21,.agg [.clo 28 [] [],.clo 29 [] [],.clo 30 [] [],.clo 31 [] [],.clo 32 [] [],.clo 33 [] [],.clo 34 [] []]),(22,vI 2)],heapF [(1,.box zCo),(7,.box (mcX (s2 c) (.sl 17 ([]) false) (.sl 2 ((s2 c).agH.map ftL) true) (.sl 2 ((s2 c).agF.map ptL) true) (.sl 9 ((s2 c).agG.map spL) true)))],23⟩| .o2 A B kk=>⟨slotsF [(2,.ptr 1 0),(9,vB (!(jF c))),(3,.ptr 7 0),(21,.agg [.clo 28 [] [],.clo 29 [] [],.clo 30 [] [],.clo 31 [] [],.clo 32 [] [],.clo 33 [] [],.clo 34 [] []]),(22,vI 2)],heapF [(1,.box zCo),(7,.box (mcX (s2 c) (.osl 22 A.length ((s2 c).agI.length) kk) (.sl 2 ((s2 c).agH.map ftL) true) (.sl 2 ((s2 c).agF.map ptL) true) (.sl 9 ((s2 c).agG.map spL) true))),(22,.arr ((A++(s2 c).agI++B).map enL) 17)],23⟩| .e3=>⟨slotsF [(2,.ptr 1 0),(9,vB (!(jF c))),(3,.ptr 7 0),(21,.agg [.clo 28 [] [],.clo 29 [] [],.clo 30 [] [],.clo 31 [] [],.clo 32 [] [],.clo 33 [] [],.clo 34 [] []]),(22,vI 3)],heapF [(1,.box zCo),(7,.box (mcX (s3 c) (.sl 17 ([]) false) (.sl 2 ((s3 c).agH.map ftL) true) (.sl 2 ((s3 c).agF.map ptL) false) (.sl 9 ((s3 c).agG.map spL) false)))],23⟩| .o3 A B kk=>⟨slotsF [(2,.ptr 1 0),(9,vB (!(jF c))),(3,.ptr 7 0),(21,.agg [.clo 28 [] [],.clo 29 [] [],.clo 30 [] [],.clo 31 [] [],.clo 32 [] [],.clo 33 [] [],.clo 34 [] []]),(22,vI 3)],heapF [(1,.box zCo),(7,.box (mcX (s3 c) (.osl 22 A.length ((s3 c).agI.length) kk) (.sl 2 ((s3 c).agH.map ftL) true) (.sl 2 ((s3 c).agF.map ptL) false) (.sl 9 ((s3 c).agG.map spL) false))),(22,.arr ((A++(s3 c).agI++B).map enL) 17)],23⟩| .s4=>⟨slotsF [(2,.ptr 1 0),(9,vB (!(jF c))),(3,.ptr 7 0),(21,.agg [.clo 28 [] [],.clo 29 [] [],.clo 30 [] [],.clo 31 [] [],.clo 32 [] [],.clo 33 [] [],.clo 34 [] []]),(22,vI 4)],heapF [(1,.box zCo),(7,.box (mcX (s4 c) (.sl 17 ((s4 c).agI.map enL) false) (.sl 2 ((s4 c).agH.map ftL) true) (.sl 2 ((s4 c).agF.map ptL) false) (.sl 9 ((s4 c).agG.map spL) false)))],23⟩| .s5=>⟨slotsF [(2,.ptr 1 0),(9,vB (!(jF c))),(3,.ptr 7 0),(21,.agg [.clo 28 [] [],.clo 29 [] [],.clo 30 [] [],.clo 31 [] [],.clo 32 [] [],.clo 33 [] [],.clo 34 [] []]),(22,vI 5)],heapF [(1,.box zCo),(7,.box (mcX (s5 c) (.sl 17 ((s5 c).agI.map enL) false) (.sl 2 ((s5 c).agH.map ftL) true) (.sl 2 ((s5 c).agF.map ptL) false) (.sl 9 ((s5 c).agG.map spL) false)))],23⟩| .s6=>⟨slotsF [(2,.ptr 1 0),(9,vB (!(jF c))),(3,.ptr 7 0),(21,.agg [.clo 28 [] [],.clo 29 [] [],.clo 30 [] [],.clo 31 [] [],.clo 32 [] [],.clo 33 [] [],.clo 34 [] []]),(22,vI 6)],heapF [(1,.box zCo),(7,.box (mcX (s6 c) (.sl 17 ((s6 c).agI.map enL) false) (.sl 2 ((s6 c).agH.map ftL) false) (.sl 2 ((s6 c).agF.map ptL) false) (.sl 9 ((s6 c).agG.map spL) false)))],23⟩| .s7=>⟨slotsF [(2,.ptr 1 0),(9,vB (!(jF c))),(3,.ptr 7 0),(21,.agg [.clo 28 [] [],.clo 29 [] [],.clo 30 [] [],.clo 31 [] [],.clo 32 [] [],.clo 33 [] [],.clo 34 [] []]),(22,vI 7)],heapF [(1,.box zCo),(7,.box (mcX (s7 c) (.sl 17 ((s7 c).agI.map enL) false) (.sl 2 ((s7 c).agH.map ftL) false) (.sl 2 ((s7 c).agF.map ptL) false) (.sl 9 ((s7 c).agG.map spL) false)))],23⟩
abbrev adL(c:Co):Stg->Prop:=λz_=>match z_ with| .e0=>(s0 c).agI=[]| .e1=>(s1 c).agI=[]| .e2=>(s2 c).agI=[]| .e3=>(s3 c).agI=[]| .o2 A B _=>A.length+(s2 c).agI.length+B.length<=1000| .o3 A B _=>A.length+(s3 c).agI.length+B.length<=1000|_=>True
abbrev ad9:Stg->Nat:=λz_=>match z_ with| .e0| .o0=>7| .e1| .o1=>6| .e2| .o2 _ _ _=>5| .e3| .o3 _ _ _=>4| .s4=>3| .s5=>2| .s6=>1| .s7=>0
def MJ(c:Co)(nb:Nat)(hm:c.okM nb)(hb:nb+20<=890000)(hk:StepOk c nb){Q:AEx->ASt->Prop}(hQ:∀st' σ',Weak st' ⟨slotsF [(2,.ptr 1 0),(3,.ptr 7 0)],heapF [(1,.box zCo),(7,.box (mcX (s7 c) (.sl 17 ((s7 c).agI.map enL) false) (.sl 2 ((s7 c).agH.map ftL) false) (.sl 2 ((s7 c).agF.map ptL) false) (.sl 9 ((s7 c).agG.map spL) false)))],23⟩ σ'->Q .normal st')(z0:Stg)(hz:adL c z0){st:ASt}(σ:Nat->Nat)(hW:Weak st (adK c z0) σ):eA C1 (bI C1) WK st Q:=by
 refine kO<|sX (κ:=Stg) (adK c) (adL c) ad9 z0 (σ) hW rfl hz ?_;intro z_ hq;rcases z_ with _|_|_|_|_|⟨A,B,kk⟩|_|⟨A,B,kk⟩|_|_|_|_
 ·have hG:(s0 c).agI=[]:=hq;refine cSR<|rV (vB true) rfl<|rE 24<|uR<|aV rfl (λ_=>?_) (λh=>by cases h);refine mF<|uR<|kO<|cSR<|nW (.clo 28 [] []) rfl rfl (⟨dT,dT⟩)<|oR 1 rfl<|rE 26<|cRg<|oR 1 rfl<|fU _ rfl rfl rfl ((WO (s0 c) nb hk.k0 hG true true true ((s0 c).agH.map ftL) ((s0 c).agG.map spL)).fB (λ_=>7)) ?_;rintro _ _ ⟨rfl,rfl⟩;refine rE 28<|cRg<|rV (vI 1) rfl<|oR 1 rfl<|rE 30<|.mk _ (.refl _) ⟨.e1,λi=>i,wOL _ wT ⟨⟨rfl,rfl,rfl⟩,⟨rfl,(Ie (c:=s1 c) rfl (af2 (λz:List Ft=>AV.sl 2 (z.map ftL) true) (show(s0 c).agH=(s1 c).agH from((rG (s0 c)).1).symm)) (af2 (λz:List Pt=>AV.sl 2 (z.map ptL) true) (show(s0 c).agF=(s1 c).agF from((rG (s0 c)).2.1).symm)) (af2 (λz:List Sp=>AV.sl 9 (z.map spL) true) (show(s0 c).agG=(s1 c).agG from((rG (s0 c)).2.2.1).symm))),rfl⟩,trivial⟩ rfl,rfl,(Qm hG (rG (s0 c)).2.2.2).symm,by show(6:Nat)<7;decide⟩
 ·refine cSR<|rV (vB true) rfl<|rE 24<|uR<|aV rfl (λ_=>?_) (λh=>by cases h);refine mF<|uR<|kO<|cSR<|nW (.clo 28 [] []) rfl rfl (⟨dT,dT⟩)<|oR 1 rfl<|rE 26<|cRg<|oR 1 rfl<|fU _ rfl rfl rfl ((Zp (s0 c) nb hk.k0 [] [] 0 c.agI.length false rfl rfl (by have:=hm.agI;simpa using this) true true true ((s0 c).agH.map ftL) ((s0 c).agG.map spL)).fB2 (λz=>match z with|0=>7|_=>22)) ?_;rintro _ _ ⟨rfl,rfl⟩;refine rE 28<|cRg<|rV (vI 1) rfl<|oR 1 rfl<|rE 30<|.mk _ (.refl _) ⟨.o1,λi=>i,wOL _ wT ⟨⟨rfl,rfl,rfl⟩,⟨rfl,(Ie (c:=s1 c) rfl (af2 (λz:List Ft=>AV.sl 2 (z.map ftL) true) (show(s0 c).agH=(s1 c).agH from((rG (s0 c)).1).symm)) (af2 (λz:List Pt=>AV.sl 2 (z.map ptL) true) (show(s0 c).agF=(s1 c).agF from((rG (s0 c)).2.1).symm)) (af2 (λz:List Sp=>AV.sl 9 (z.map spL) true) (show(s0 c).agG=(s1 c).agG from((rG (s0 c)).2.2.1).symm))),rfl⟩,⟨rfl,rfl,rfl⟩,trivial⟩ rfl,rfl,trivial,by show(6:Nat)<7;decide⟩
 ·have hG:(s1 c).agI=[]:=hq;refine cSR<|rV (vB true) rfl<|rE 24<|uR<|aV rfl (λ_=>?_) (λh=>by cases h);refine mF<|uR<|kO<|cSR<|nW (.clo 29 [] []) rfl rfl (⟨dT,dT⟩)<|oR 1 rfl<|rE 26<|cRg<|oR 1 rfl<|fU _ rfl rfl rfl (Qp (WR (s1 c) (nb+1) hk.k1 hG true true ((s1 c).agF.map ptL) ((s1 c).agG.map spL)) 7 _ _ ⟨⟨rfl,rfl,rfl,rfl⟩,trivial⟩) ?_;rintro _ _ ⟨rfl,⟨hz,rfl⟩|⟨_,A,B,kk,rfl|rfl,hl,rfl⟩⟩
  ·refine rE 28<|cRg<|rV (vI 2) rfl<|oR 1 rfl<|rE 30<|.mk _ (.refl _) ⟨.e2,λi=>i,wOL _ wT ⟨⟨rfl,rfl,rfl⟩,⟨rfl,(Ie (c:=s2 c) rfl rfl (af2 (λz:List Pt=>AV.sl 2 (z.map ptL) true) (show(s1 c).agF=(s2 c).agF from((mC (s1 c)).1).symm)) (af2 (λz:List Sp=>AV.sl 9 (z.map spL) true) (show(s1 c).agG=(s2 c).agG from((mC (s1 c)).2).symm))),rfl⟩,trivial⟩ rfl,rfl,hz,by show(5:Nat)<6;decide⟩
  all_goals (refine rE 28<|cRg<|rV (vI 2) rfl<|oR 1 rfl<|rE 30<|.mk _ (.refl _) ⟨(.o2 A B kk),λi=>match i with|22=>27|i=>i,wOL _ wT ⟨⟨rfl,rfl,rfl⟩,⟨rfl,(Ie (c:=s2 c) rfl rfl (af2 (λz:List Pt=>AV.sl 2 (z.map ptL) true) (show(s1 c).agF=(s2 c).agF from((mC (s1 c)).1).symm)) (af2 (λz:List Sp=>AV.sl 9 (z.map spL) true) (show(s1 c).agG=(s2 c).agG from((mC (s1 c)).2).symm))),rfl⟩,⟨rfl,rfl,rfl⟩,trivial⟩ rfl,rfl,hl,by show(5:Nat)<6;decide⟩)
 ·refine cSR<|rV (vB true) rfl<|rE 24<|uR<|aV rfl (λ_=>?_) (λh=>by cases h);refine mF<|uR<|kO<|cSR<|nW (.clo 29 [] []) rfl rfl (⟨dT,dT⟩)<|oR 1 rfl<|rE 26<|cRg<|oR 1 rfl<|fU _ rfl rfl rfl (Qq (WI (s1 c) (nb+1) hk.k1 [] [] 0 c.agI.length false rfl (rG (s0 c)).2.2.2 (by have:=hm.agI;simpa using this) (λx h=>by cases h) (λx h=>by cases h) true true ((s1 c).agF.map ptL) ((s1 c).agG.map spL)) 7 22 _ _ ⟨⟨rfl,rfl,rfl,rfl⟩,⟨rfl,rfl,rfl,rfl⟩,trivial⟩ dT) ?_;rintro _ _ ⟨rfl,⟨hz,rfl⟩|⟨_,A,B,kk,rfl|rfl,hl,rfl⟩⟩
  ·refine rE 28<|cRg<|rV (vI 2) rfl<|oR 1 rfl<|rE 30<|.mk _ (.refl _) ⟨.e2,λi=>i,wOL _ wT ⟨⟨rfl,rfl,rfl⟩,⟨rfl,(Ie (c:=s2 c) rfl rfl (af2 (λz:List Pt=>AV.sl 2 (z.map ptL) true) (show(s1 c).agF=(s2 c).agF from((mC (s1 c)).1).symm)) (af2 (λz:List Sp=>AV.sl 9 (z.map spL) true) (show(s1 c).agG=(s2 c).agG from((mC (s1 c)).2).symm))),rfl⟩,trivial⟩ rfl,rfl,hz,by show(5:Nat)<6;decide⟩
  ·refine rE 28<|cRg<|rV (vI 2) rfl<|oR 1 rfl<|rE 30<|.mk _ (.refl _) ⟨(.o2 A B kk),λi=>i,wOL _ wT ⟨⟨rfl,rfl,rfl⟩,⟨rfl,(Ie (c:=s2 c) rfl rfl (af2 (λz:List Pt=>AV.sl 2 (z.map ptL) true) (show(s1 c).agF=(s2 c).agF from((mC (s1 c)).1).symm)) (af2 (λz:List Sp=>AV.sl 9 (z.map spL) true) (show(s1 c).agG=(s2 c).agG from((mC (s1 c)).2).symm))),rfl⟩,⟨rfl,rfl,rfl⟩,trivial⟩ rfl,rfl,hl,by show(5:Nat)<6;decide⟩
  refine rE 28<|cRg<|rV (vI 2) rfl<|oR 1 rfl<|rE 30<|.mk _ (.refl _) ⟨(.o2 A B kk),λi=>match i with|22=>27|i=>i,wOL _ wT ⟨⟨rfl,rfl,rfl⟩,⟨rfl,(Ie (c:=s2 c) rfl rfl (af2 (λz:List Pt=>AV.sl 2 (z.map ptL) true) (show(s1 c).agF=(s2 c).agF from((mC (s1 c)).1).symm)) (af2 (λz:List Sp=>AV.sl 9 (z.map spL) true) (show(s1 c).agG=(s2 c).agG from((mC (s1 c)).2).symm))),rfl⟩,⟨rfl,rfl,rfl⟩,trivial⟩ rfl,rfl,hl,by show(5:Nat)<6;decide⟩
 ·have hG:(s2 c).agI=[]:=hq;refine cSR<|rV (vB true) rfl<|rE 24<|uR<|aV rfl (λ_=>?_) (λh=>by cases h);refine mF<|uR<|kO<|cSR<|nW (.clo 30 [] []) rfl rfl (⟨dT,dT⟩)<|oR 1 rfl<|rE 26<|cRg<|oR 1 rfl<|fU _ rfl rfl rfl (Qp (Qu (s2 c) (nb+1) hk.k2 hG) 7 _ _ ⟨⟨rfl,rfl,rfl,rfl⟩,trivial⟩) ?_;rintro _ _ ⟨rfl,⟨hz,rfl⟩|⟨_,A,B,kk,rfl|rfl,hl,rfl⟩⟩
  ·refine rE 28<|cRg<|rV (vI 3) rfl<|oR 1 rfl<|rE 30<|.mk _ (.refl _) ⟨.e3,λi=>i,wOL _ wT ⟨⟨rfl,rfl,rfl⟩,⟨rfl,(Ie (c:=s3 c) rfl rfl rfl rfl),rfl⟩,trivial⟩ rfl,rfl,hz,by show(4:Nat)<5;decide⟩
  all_goals (refine rE 28<|cRg<|rV (vI 3) rfl<|oR 1 rfl<|rE 30<|.mk _ (.refl _) ⟨(.o3 A B kk),λi=>match i with|22=>27|i=>i,wOL _ wT ⟨⟨rfl,rfl,rfl⟩,⟨rfl,(Ie (c:=s3 c) rfl rfl rfl rfl),rfl⟩,⟨rfl,rfl,rfl⟩,trivial⟩ rfl,rfl,hl,by show(4:Nat)<5;decide⟩)
 ·have hG:A.length+(s2 c).agI.length+B.length<=1000:=hq;refine cSR<|rV (vB true) rfl<|rE 24<|uR<|aV rfl (λ_=>?_) (λh=>by cases h);refine mF<|uR<|kO<|cSR<|nW (.clo 30 [] []) rfl rfl (⟨dT,dT⟩)<|oR 1 rfl<|rE 26<|cRg<|oR 1 rfl<|fU _ rfl rfl rfl (Qq (TW (s2 c) (nb+1) hk.k2 omT A B A.length (s2 c).agI.length kk rfl rfl hG) 7 22 _ _ ⟨⟨rfl,rfl,rfl,rfl⟩,⟨rfl,rfl,rfl,rfl⟩,trivial⟩ dT) ?_;rintro _ _ ⟨rfl,⟨hz,rfl⟩|⟨_,A,B,kk,rfl|rfl,hl,rfl⟩⟩
  ·refine rE 28<|cRg<|rV (vI 3) rfl<|oR 1 rfl<|rE 30<|.mk _ (.refl _) ⟨.e3,λi=>i,wOL _ wT ⟨⟨rfl,rfl,rfl⟩,⟨rfl,(Ie (c:=s3 c) rfl rfl rfl rfl),rfl⟩,trivial⟩ rfl,rfl,hz,by show(4:Nat)<5;decide⟩
  ·refine rE 28<|cRg<|rV (vI 3) rfl<|oR 1 rfl<|rE 30<|.mk _ (.refl _) ⟨(.o3 A B kk),λi=>i,wOL _ wT ⟨⟨rfl,rfl,rfl⟩,⟨rfl,(Ie (c:=s3 c) rfl rfl rfl rfl),rfl⟩,⟨rfl,rfl,rfl⟩,trivial⟩ rfl,rfl,hl,by show(4:Nat)<5;decide⟩
  refine rE 28<|cRg<|rV (vI 3) rfl<|oR 1 rfl<|rE 30<|.mk _ (.refl _) ⟨(.o3 A B kk),λi=>match i with|22=>27|i=>i,wOL _ wT ⟨⟨rfl,rfl,rfl⟩,⟨rfl,(Ie (c:=s3 c) rfl rfl rfl rfl),rfl⟩,⟨rfl,rfl,rfl⟩,trivial⟩ rfl,rfl,hl,by show(4:Nat)<5;decide⟩
 ·have hG:(s3 c).agI=[]:=hq;refine cSR<|rV (vB true) rfl<|rE 24<|uR<|aV rfl (λ_=>?_) (λh=>by cases h);refine mF<|uR<|kO<|cSR<|nW (.clo 31 [] []) rfl rfl (⟨dT,dT⟩)<|oR 1 rfl<|rE 26<|cRg<|oR 1 rfl<|fU _ rfl rfl rfl ((TX (s3 c) (nb+5) hk.k3 hG true false false ((s3 c).agH.map ftL) ((s3 c).agG.map spL)).fB (λ_=>7)) ?_;rintro _ _ ⟨rfl,rfl⟩;refine rE 28<|cRg<|rV (vI 4) rfl<|oR 1 rfl<|rE 30<|.mk _ (.refl _) ⟨.s4,λi=>i,wOL _ wT ⟨⟨rfl,rfl,rfl⟩,⟨rfl,(Ie (c:=s4 c) (af2 (λz:List Ent=>AV.sl 17 (z.map enL) false) (Qm hG (nO hk.k3 omT).1)) (af2 (λz:List Ft=>AV.sl 2 (z.map ftL) true) (show(s3 c).agH=(s4 c).agH from((nO hk.k3 omT).2.2.1).symm)) rfl (af2 (λz:List Sp=>AV.sl 9 (z.map spL) false) (show(s3 c).agG=(s4 c).agG from((nO hk.k3 omT).2.2.2).symm))),rfl⟩,trivial⟩ rfl,rfl,trivial,by show(3:Nat)<4;decide⟩
 ·have hG:A.length+(s3 c).agI.length+B.length<=1000:=hq;refine cSR<|rV (vB true) rfl<|rE 24<|uR<|aV rfl (λ_=>?_) (λh=>by cases h);refine mF<|uR<|kO<|cSR<|nW (.clo 31 [] []) rfl rfl (⟨dT,dT⟩)<|oR 1 rfl<|rE 26<|cRg<|oR 1 rfl<|fU _ rfl rfl rfl ((WU (s3 c) (nb+5) hk.k3 omT A B A.length (s3 c).agI.length kk true false false ((s3 c).agH.map ftL) ((s3 c).agG.map spL) rfl rfl hG).fB2 (λz=>match z with|0=>7|_=>22)) ?_;rintro _ _ ⟨rfl,rfl⟩;refine rE 28<|cRg<|rV (vI 4) rfl<|oR 1 rfl<|rE 30<|.mk _ (.step (some (22,17,(A++(s4 c).agI++B).map enL)) (gOL (l:=[(2,.ptr 1 0),(9,vB (!(jF c))),(3,.ptr 7 0),(21,.agg [.clo 28 [] [],.clo 29 [] [],.clo 30 [] [],.clo 31 [] [],.clo 32 [] [],.clo 33 [] [],.clo 34 [] []]),(22,vI 4)]) (hp:=[(1,.box zCo),(7,.box (mcX (s4 c) (.sl 17 ((((A++(s4 c).agI++B).drop A.length).take (s3 c).agI.length).map enL) false) (.sl 2 ((s3 c).agH.map ftL) true) (.sl 2 ((s4 c).agF.map ptL) false) (.sl 9 ((s3 c).agG.map spL) false)))]) rfl rfT ⟨⟨rfl,_,rfl,.refl _⟩,⟨rfl,_,rfl,LeB.boxL (qQ (Iy (by simp only[aU];have:=(nO hk.k3 omT).1;show A.length+(s3 c).agI.length<=A.length+(gY (s3 c)).agI.length+B.length;omega)) (.refl _) (.refl _) (.refl _))⟩,trivial⟩) (.refl _)) ⟨.s4,λi=>i,wOL _ wT ⟨⟨rfl,rfl,rfl⟩,⟨rfl,(Ie (c:=s4 c) (af2 (λz:List Ent=>AV.sl 17 (z.map enL) false) (Qs rfl (nO hk.k3 omT).1)) (af2 (λz:List Ft=>AV.sl 2 (z.map ftL) true) (show(s3 c).agH=(s4 c).agH from((nO hk.k3 omT).2.2.1).symm)) rfl (af2 (λz:List Sp=>AV.sl 9 (z.map spL) false) (show(s3 c).agG=(s4 c).agG from((nO hk.k3 omT).2.2.2).symm))),rfl⟩,trivial⟩ rfl,rfl,trivial,by show(3:Nat)<4;decide⟩
 ·refine cSR<|rV (vB true) rfl<|rE 24<|uR<|aV rfl (λ_=>?_) (λh=>by cases h);refine mF<|uR<|kO<|cSR<|nW (.clo 32 [] []) rfl rfl (⟨dT,dT⟩)<|oR 1 rfl<|rE 26<|cRg<|oR 1 rfl<|fU _ rfl rfl rfl ((WW (s4 c) (nb+7) hk.k4 false ((s4 c).agF.map ptL) false ((s4 c).agG.map spL)).fB (λ_=>7)) ?_;rintro _ _ ⟨rfl,rfl⟩;refine rE 28<|cRg<|rV (vI 5) rfl<|oR 1 rfl<|rE 30<|.mk _ (.refl _) ⟨.s5,λi=>i,wOL _ wT ⟨⟨rfl,rfl,rfl⟩,⟨rfl,(Ie (c:=s5 c) rfl rfl (af2 (λz:List Pt=>AV.sl 2 (z.map ptL) false) (show(s4 c).agF=(s5 c).agF from((Ai hk.k4).2.1).symm)) (af2 (λz:List Sp=>AV.sl 9 (z.map spL) false) (show(s4 c).agG=(s5 c).agG from((Ai hk.k4).2.2).symm))),rfl⟩,trivial⟩ rfl,rfl,trivial,by show(2:Nat)<3;decide⟩
 ·refine cSR<|rV (vB true) rfl<|rE 24<|uR<|aV rfl (λ_=>?_) (λh=>by cases h);refine mF<|uR<|kO<|cSR<|nW (.clo 33 [] []) rfl rfl (⟨dT,dT⟩)<|oR 1 rfl<|rE 26<|cRg<|oR 1 rfl<|fU _ rfl rfl rfl ((TZ (s5 c) (nb+7) hk.k5 false ((s5 c).agI.map enL) false ((s5 c).agF.map ptL) false ((s5 c).agG.map spL)).fB (λ_=>7)) ?_;rintro _ _ ⟨rfl,rfl⟩;refine rE 28<|cRg<|rV (vI 6) rfl<|oR 1 rfl<|rE 30<|.mk _ (.refl _) ⟨.s6,λi=>i,wOL _ wT ⟨⟨rfl,rfl,rfl⟩,⟨rfl,(Ie (c:=s6 c) (af2 (λz:List Ent=>AV.sl 17 (z.map enL) false) (show(s5 c).agI=(s6 c).agI from((uX hk.k5 omT).2.2.2).symm)) rfl (af2 (λz:List Pt=>AV.sl 2 (z.map ptL) false) (show(s5 c).agF=(s6 c).agF from((uX hk.k5 omT).2.1).symm)) (af2 (λz:List Sp=>AV.sl 9 (z.map spL) false) (show(s5 c).agG=(s6 c).agG from((uX hk.k5 omT).2.2.1).symm))),rfl⟩,trivial⟩ rfl,rfl,trivial,by show(1:Nat)<2;decide⟩
 ·refine cSR<|rV (vB true) rfl<|rE 24<|uR<|aV rfl (λ_=>?_) (λh=>by cases h);refine mF<|uR<|kO<|cSR<|nW (.clo 34 [] []) rfl rfl (⟨dT,dT⟩)<|oR 1 rfl<|rE 26<|cRg<|oR 1 rfl<|fU _ rfl rfl rfl ((WY (s6 c) (nb+8) hk.k6 omT false ((s6 c).agI.map enL) false ((s6 c).agH.map ftL) false ((s6 c).agG.map spL)).fB (λ_=>7)) ?_;rintro _ _ ⟨rfl,rfl⟩;refine rE 28<|cRg<|rV (vI 7) rfl<|oR 1 rfl<|rE 30<|.mk _ (.refl _) ⟨.s7,λi=>i,wOL _ wT ⟨⟨rfl,rfl,rfl⟩,⟨rfl,(Ie (c:=s7 c) (af2 (λz:List Ent=>AV.sl 17 (z.map enL) false) (show(s6 c).agI=(s7 c).agI from((wX hk.k6 omT).2.2.2).symm)) (af2 (λz:List Ft=>AV.sl 2 (z.map ftL) false) (show(s6 c).agH=(s7 c).agH from((wX hk.k6 omT).2.1).symm)) rfl (af2 (λz:List Sp=>AV.sl 9 (z.map spL) false) (show(s6 c).agG=(s7 c).agG from((wX hk.k6 omT).2.2.1).symm))),rfl⟩,trivial⟩ rfl,rfl,trivial,by show(0:Nat)<1;decide⟩
 refine cSR<|rV (vB false) rfl<|rE 24<|uR<|aV rfl (λh=>by cases h) (λ_=>?_);refine Bh ?_;exact hQ _ (λs=>s) (wOL (λs=>s) wT wH rfl)
def Zh(c:Co)(nb:Nat)(hok:c.ok nb)(hb:nb+20<=890000)(hr:jF c=true)(h0:c.agI=[]):bI C0 15 [.agg (coL c)] (.agg (coL (uG c))):=by
 refine dJ func15 ?_;have hm:=EL hok omT hr;have hk:=Ql hm hb;refine cSR<|rAl 0 rfl rfl<|rAl 1 rfl rfl<|rE 2<|uR<|cSR<|oR 1 rfl<|rCi rfl (Ip c nb hok omT)<|oR 1 rfl<|rE 5<|aV rfl (λh1=>by exact absurd hr (VB h1)) (λ_=>?_);refine mF<|cSR<|oR 1 rfl<|rV (.agg (coL c)) rfl<|rAl 7 rfl rfl<|rSt rfl<|rE 9<|cSR<|fU _ rfl rfl rfl ((show pM C0.P C0.G 27 [.ptr 0 0] (heapF [(0,.box (mcX c (.sl 17 (c.agI.map enL) false) (.sl 2 (c.agH.map ftL) false) (.sl 2 (c.agF.map ptL) false) (.sl 9 (c.agG.map spL) false)))]) 1 _ from by rw[h0];exact acQ c nb hm false false false false).fB (λ_=>7)) ?_;rintro _ _ ⟨rfl,rfl⟩;refine rE 10<|cSR<|oR 3 rfl<|rW (vI (wrap64 (c.cycle+1))) rfl (okI (w64 _))<|oR 2 rfl<|rSt rfl<|rE 17<|cSR<|rV (.agg [.clo 28 [] [],.clo 29 [] [],.clo 30 [] [],.clo 31 [] [],.clo 32 [] [],.clo 33 [] [],.clo 34 [] []]) rfl<|rAl 18 rfl rfl<|rSt rfl<|rE 20<|Fq (κ:=Unit) (λu_=>⟨slotsF [(2,.ptr 1 0),(3,.ptr 7 0)],heapF [(1,.box zCo),(7,.box (mcX (s7 c) (.sl 17 ((s7 c).agI.map enL) false) (.sl 2 ((s7 c).agH.map ftL) false) (.sl 2 ((s7 c).agF.map ptL) false) (.sl 9 ((s7 c).agG.map spL) false)))],23⟩) (λu_=>True) ?_ ?_
 ·refine cSR<|oR 2 rfl<|rE 22<|MJ c nb hm hb hk ?_ .e0 h0 (λs=>s) (wOL (λs=>s) wT wH rfl);intro st' σ h;exact .mk _ (.refl _) ⟨(),σ,h,rfl,trivial⟩
 intro u_ _;refine cSR<|oR 2 rfl<|rSt rfl<|rE 26<|FQ ?_;rw[show uG c=s7 c from af1 hr];exact dK rfl tvT rfl rfl
def Zi(c:Co)(nb:Nat)(hok:c.ok nb)(hb:nb+20<=890000)(hr:jF c=true)(hne:c.agI≠[]):bI C0 15 [.agg (coL c)] (.agg (coL (uG c))):=by
 refine dJ func15 ?_;have hm:=EL hok omT hr;have hk:=Ql hm hb;refine cSR<|rAl 0 rfl rfl<|rAl 1 rfl rfl<|rE 2<|uR<|cSR<|oR 1 rfl<|rCi rfl (Ip c nb hok omT)<|oR 1 rfl<|rE 5<|aV rfl (λh1=>by exact absurd hr (VB h1)) (λ_=>?_);refine mF<|cSR<|oR 1 rfl<|rV (.agg (coL c)) rfl<|rAl 7 rfl rfl<|rSt rfl<|rE 9<|cSR<|fU _ rfl rfl rfl (Zn (ab1 c nb hm hne false false false false) 7 _ _ ⟨⟨rfl,rfl,rfl,rfl⟩,trivial⟩) ?_;rintro _ _ ⟨rfl,rfl⟩;refine rE 10<|cSR<|oR 3 rfl<|rW (vI (wrap64 (c.cycle+1))) rfl (okI (w64 _))<|oR 2 rfl<|rSt rfl<|rE 17<|cSR<|rV (.agg [.clo 28 [] [],.clo 29 [] [],.clo 30 [] [],.clo 31 [] [],.clo 32 [] [],.clo 33 [] [],.clo 34 [] []]) rfl<|rAl 18 rfl rfl<|rSt rfl<|rE 20<|Fq (κ:=Unit) (λu_=>⟨slotsF [(2,.ptr 1 0),(3,.ptr 7 0)],heapF [(1,.box zCo),(7,.box (mcX (s7 c) (.sl 17 ((s7 c).agI.map enL) false) (.sl 2 ((s7 c).agH.map ftL) false) (.sl 2 ((s7 c).agF.map ptL) false) (.sl 9 ((s7 c).agG.map spL) false)))],23⟩) (λu_=>True) ?_ ?_
 ·refine cSR<|oR 2 rfl<|rE 22<|MJ c nb hm hb hk ?_ .o0 trivial (λi=>match i with|22=>9|i=>i) (wOL (λi=>match i with|22=>9|i=>i) wT ⟨⟨rfl,rfl,rfl⟩,⟨rfl,rfl,rfl⟩,⟨rfl,(by show some (Blk.arr (c.agI.map enL) 17)=some (Blk.arr (([]++c.agI++[]).map enL) 17);rw[iA,dY]),rfl⟩,trivial⟩ rfl);intro st' σ h;exact .mk _ (.refl _) ⟨(),σ,h,rfl,trivial⟩
 intro u_ _;refine cSR<|oR 2 rfl<|rSt rfl<|rE 26<|FQ ?_;rw[show uG c=s7 c from af1 hr];exact dK rfl tvT rfl rfl
def Zj(c:Co)(nb:Nat)(hok:c.ok nb)(hb:nb+20<=890000):bI C0 15 [.agg (coL c)] (.agg (coL (uG c))):=by
 cases hr:jF c with
 |false=>exact Zg c nb hok hb hr
 |true=>
  by_cases h0:c.agI=[]
  ·exact Zh c nb hok hb hr h0
  ·exact Zi c nb hok hb hr h0
def Cd(n:Int):Nat:=(min n 2000).toNat
def Qk(a b:Int):(if b<a then b else a)=min a b:=by split<;>omega
def MI(a b:Int):(CZ a b).ok:=by
 unfold CZ;refine⟨?_,λs hs=>?_⟩
 ·have h:(if bV a 1 4=3 then 2 else bV a 1 4).toNat<=4:=by unfold bV;(repeat' split)<;>omega
  show(List.replicate _ _).length<=_;rw[cM];omega
 rw[gK hs];exact⟨aE _,λx hx=>by cases hx⟩
def TL:ZT.ok:=by
 refine⟨dT,dT,dT,?_,?_⟩
 ·intro x hx;have:x=⟨0,0⟩:=gK (n:=8) hx;subst this;exact⟨aE _,aE _⟩
 intro x hx;cases hx
def Id(c:Cf)(prog:List Nat)(m:ByteArray)(hc:c.ok)(hp:∀x∈prog,x<=4294967295):(fX c prog m).ok 0:=by
 have hm:(jB m).size<=256:=by
  rw[wE];unfold upS;repeat' split
  all_goals omega
 have hl:(prog.take (min prog.length 64)).length<=9223372036854775807:=by rw[aM];omega
 refine⟨⟨aL (QT c) dT,aL (OL c) dT,Iq hc.tp⟩,hl,zD (P:=λx=>x<=4294967295) hp,λ_=>aE _,aE _,aE _,(λx hx=>by cases hx),aE _,(λx hx=>by cases hx),aE _,(λx hx=>by cases hx),MI _ _,MI _ _,aE _,(λx hx=>by cases hx),(by show(0:Int)<=9223372036854775807;decide),(by show(0:Int)<=9223372036854775807;decide),?_,TL,aE _,(λx hx=>by cases hx)⟩;show(jB m).size<=1000000;omega
theorem wW{c:Co}{n:Nat}(h:c.ok n):∀k,n+10*k+20<=890000->(uN c k).ok (n+10*k)
 |0,_=>h
 |k+1,hb=>by
  have ih:=xX (wW h k omT) omT;rw[(oT:n+10*(k+1)=n+10*k+10)];exact ih
def apB(c:Cf)(prog:List Nat)(m:ByteArray)(n:Int)(hc:c.ok)(hp:∀x∈prog,x<=4294967295)(hl:prog.length<=1000):bI C0 6 [.agg (cfL c false false),.sl 1 (prog.map dU) false,.v (.string m),vI n] (.agg (coL (uN (fX c prog m) (Cd n)))):=by
 refine dJZ func6 rfl ?_;have hX:=Id c prog m hc hp;refine rCi rfl (ZO c prog m hc omT)<|qRN 0 rfl<|rSt rfl<|qR 0 rfl<|zW _ (okI (Qk n 2000))<|jR (κ:=Nat) (λk=>⟨slotsF [(8,.ptr 1 0),(9,.ptr 6 0),(15,vI (min n 2000)),(16,vN k)],heapF [(0,.box [vI c.mode,vI c.agN,vI c.agI,vI c.queue,vI c.agF,vI c.agP,vI c.agJ,vI c.ways,.sl 1 (c.agW.map ae4) false,vB c.tables,.sl 1 (c.tape.map dU) false]),(1,.box zCo),(6,.box (coL (uN (fX c prog m) k)))],11⟩) (λk=>k<=Cd n) (λk=>Cd n-k) 0 (λs=>s) (wOL (λs=>s) wT wH rfl) (aE _) ?_;intro k hk;have hkn:k<=Cd n:=hk;have hkB:k<=2000:=by have:Cd n<=2000:=(by unfold Cd;omega);omega
 have hN:Cd n=(min n 2000).toNat:=rfl;refine qS 0 rfl<|zVB (decide ((k:Int)<(min n 2000))) (λh1=>?_) (λh1=>?_)
 ·have h1p:=af0 h1;refine rCi rfl (Zj (uN (fX c prog m) k) (0+10*k) (wW hX k omT) omT)<|rSt rfl ?_;have b1:k+1<=2001:=aD hkB (aC 1);refine qR 0 rfl<|zW _ (okI (bH b1 rfl)) ?_;refine⟨k+1,λs=>s,wOL _ wT wH rfl,oT,by show Cd n-(k+1)<Cd n-k;omega⟩
 have h1p:=aF h1;refine qXN 0 rfl<|rSt rfl<|qRF 0 rfl ?_;have hk2:k=Cd n:=oT;rw[show uN (fX c prog m) (Cd n)=uN (fX c prog m) k from by rw[hk2]];exact dK rfl tvT rfl rfl
open Go.RowKit Go.ChangeShapes Go.WideShapes Go.ChangeAt Go.Deep
def TK{n:Int}(h:(Lit.int .u32 n).wf=true):∃m:Nat,n=m∧m<=4294967295:=by
 simp only[Lit.wf,IntKind.min,IntKind.max,IntKind.signed,IntKind.bits,aP,aY]at h;simp at h;exact⟨n.toNat,oT,oT⟩
def Cc{cs:List AV}(h:TyV Tryz.prog 3 cs):∃n:Int,cs=[.v (.int .i64 n)]∧True:=by
 have hu:=underlying3
 cases h with
 |int h n hn=>rw[hu]at h;injection h with h;injection h with h;subst h;exact⟨n,rfl,trivial⟩
 |bool h=>rw[hu]at h;cases h
 |string h=>rw[hu]at h;cases h
 |slice h=>rw[hu]at h;cases h
 |struct h=>rw[hu]at h;cases h
 |array h=>rw[hu]at h;cases h
def Ze{cs:List AV}(h:TyV Tryz.prog 28 cs):∃n:Nat,cs=[.v (.int .u32 (n:Int))]∧n<=4294967295:=by
 have hu:=underlying28
 cases h with
 |int h n hn=>
  rw[hu]at h;injection h with h;injection h with h;subst h;obtain⟨m,rfl,hm⟩:=TK hn
  exact⟨m,rfl,hm⟩
 |bool h=>rw[hu]at h;cases h
 |string h=>rw[hu]at h;cases h
 |slice h=>rw[hu]at h;cases h
 |struct h=>rw[hu]at h;cases h
 |array h=>rw[hu]at h;cases h
def WC{cs:List AV}(h:TyV Tryz.prog 4 cs):∃b:Bool,cs=[.v (.bool b)]∧True:=by
 have hu:=underlying4
 cases h with
 |bool h b=>exact⟨b,rfl,trivial⟩
 |int h=>rw[hu]at h;cases h
 |string h=>rw[hu]at h;cases h
 |slice h=>rw[hu]at h;cases h
 |struct h=>rw[hu]at h;cases h
 |array h=>rw[hu]at h;cases h
theorem Qf{α:Type}{f:α->List AV}{p:α->Prop}:∀(rows:List (List AV)),(∀row∈rows,∃x,row=f x∧p x)->∃l:List α,rows=l.map f∧l.length=rows.length∧∀x∈l,p x
 |[],_=>⟨[],rfl,rfl,λx h=>by cases h⟩
 |row::rows,h=>by
  obtain⟨x,rfl,hx⟩:=h row (al_List_mem_cons_self);obtain⟨l,rfl,hl,hp⟩:=Qf rows λr hr=>h r (bY _ hr);exact⟨x::l,rfl,by simp,λy hy=>by rcases al_List_mem_cons.1 hy with rfl|hy;exact hx;exact hp y hy⟩
def MH{α:Type}{t e:TypeId}{k:Nat}{f:α->List AV}{p:α->Prop}(hu:Tryz.prog.underlying t=some (.slice e))(hk:Tryz.prog.cellsOf e=k)(hrow:∀row,TyV Tryz.prog e row->∃x,row=f x∧p x){cs:List AV}(h:TyV Tryz.prog t cs):
  ∃l:List α,cs=[.sl k (l.map f) false]∧l.length<=9223372036854775807∧∀x∈l,p x:=by
 cases h with
 |slice h rows hl hr hrs=>
  rw[hu]at h;injection h with h;injection h with h;subst h;subst hk;obtain⟨l,rfl,h1,h2⟩:=Qf rows λrow hrow'=>hrow row (hr row hrow')
  exact⟨l,rfl,aL (Nat.le_of_eq h1) (aL hl dT),h2⟩
 |int h=>rw[hu]at h;cases h
 |bool h=>rw[hu]at h;cases h
 |string h=>rw[hu]at h;cases h
 |struct h=>rw[hu]at h;cases h
 |array h=>rw[hu]at h;cases h
def WD(row:List AV)(h:TyV Tryz.prog 28 row):∃n:Nat,row=dU n∧n<=4294967295:=Ze h
def WE(row:List AV)(h:TyV Tryz.prog 3 row):∃n:Int,row=ae4 n∧True:=Cc h
def Qg{cs:List AV}(h:TyV Tryz.prog 23 cs):∃l:List Nat,cs=[.sl 1 (l.map dU) false]∧l.length<=9223372036854775807∧∀x∈l,(λn:Nat=>n<=4294967295) x:=
 MH (f:=dU) (p:=(λn:Nat=>n<=4294967295)) underlying23 (by kernel_rfl) (λrow hr=>WD _ hr) h
def WF{cs:List AV}(h:TyV Tryz.prog 22 cs):∃l:List Int,cs=[.sl 1 (l.map ae4) false]∧l.length<=9223372036854775807∧∀x∈l,(λ(_:Int)=>True) x:=
 MH (f:=ae4) (p:=(λ(_:Int)=>True)) underlying22 (by kernel_rfl) (λrow hr=>WE _ hr) h
def WG{cs:List AV}(h:TyV Tryz.prog 25 cs):∃x:Cf,cs=cfL x false false∧x.okW:=by
 have hu:=underlying25
 cases h with
 |bool h=>rw[hu]at h;cases h
 |int h=>rw[hu]at h;cases h
 |string h=>rw[hu]at h;cases h
 |slice h=>rw[hu]at h;cases h
 |array h=>rw[hu]at h;cases h
 |struct h parts hp=>
  rw[hu]at h;injection h with h;injection h with h;subst h;obtain⟨x0,e0,p0⟩:=Cc (hp 0 _ rfl);obtain⟨x1,e1,p1⟩:=Cc (hp 1 _ rfl);obtain⟨x2,e2,p2⟩:=Cc (hp 2 _ rfl);obtain⟨x3,e3,p3⟩:=Cc (hp 3 _ rfl);obtain⟨x4,e4,p4⟩:=Cc (hp 4 _ rfl);obtain⟨x5,e5,p5⟩:=Cc (hp 5 _ rfl);obtain⟨x6,e6,p6⟩:=Cc (hp 6 _ rfl);obtain⟨x7,e7,p7⟩:=Cc (hp 7 _ rfl);obtain⟨x8,e8,p8⟩:=WF (hp 8 _ rfl);obtain⟨x9,e9,p9⟩:=WC (hp 9 _ rfl);obtain⟨x10,e10,p10⟩:=Qg (hp 10 _ rfl);refine⟨⟨x0,x1,x2,x3,x4,x5,x6,x7,x8,x9,x10⟩,?_,⟨p8.1,p10.1,p10.2⟩⟩;show parts 0++(parts 1++(parts 2++(parts 3++(parts 4++(parts 5++(parts 6++(parts 7++(parts 8++(parts 9++(parts 10++[]))))))))))=_;rw[e0,e1,e2,e3,e4,e5,e6,e7,e8,e9,e10];rfl
structure Co.okA(c:Co):Prop where
 agL:c.agL.okW
 prog:c.prog.length<=9223372036854775807
 progo:∀x∈c.prog,x<=4294967295
 r:∀k,c.r k<=4294967295
 agM:c.agM<=4294967295
 fet:c.agH.length<=9223372036854775807
 feto:∀x∈c.agH,x.ok
 agI:c.agI.length<=9223372036854775807
 agX:∀x∈c.agI,x.ok
 sto:c.agF.length<=9223372036854775807
 stoo:∀x∈c.agF,x.ok
 data:c.data.ok
 agO:c.agO.ok
 agS:c.agS.length<=9223372036854775807
 buso:∀x∈c.agS,x.ok
 asked:c.asked<=9223372036854775807
 agT:c.agT<=9223372036854775807
 mem:c.mem.size<=9223372036854775807
 agK:c.agK.ok
 ret:c.agG.length<=9223372036854775807
 reto:∀x∈c.agG,x.ok
def Qh{H:Type}{enc:TypeId×Value->H}{w:World}{base:Nat}{spare:Nat->Bool}{held:Bool}{r:Reach}{b0:Nat}{v:Value}{d:DataW H}{p:List MemPlace}
  (hv:Value.okWide Tryz.prog w r b0 25 v) (h:DataW.Trod enc Tryz.prog w base spare held 25 v d p):
  ∃c:Cf,Rep (· <w.heap.size) w noB (.agg (cfL c false false)) v∧c.okW:=by
 obtain⟨cs,rfl,hsz⟩:=okWide_struct underlying25 hv;obtain⟨fuel,hf⟩:=h;obtain⟨cells,ho⟩:=vT 6 fuel _ _ _ hf (by kernel_rfl);obtain⟨c,rfl,hc⟩:=WG ho.ty;refine⟨c,.agg _ cs ?_ (λi u hu=>ho.one u ?_) (λi a u h1 h2=>ho.rep.2 i a u h1 ?_),hc⟩
 ·exact ho.rep.1
 ·exact Jt.2 (nI hu)
 show cs.toList[i]?=some u;rw[bQ];exact h2
def Qi{H:Type}{enc:TypeId×Value->H}{w:World}{base:Nat}{spare:Nat->Bool}{held:Bool}{r:Reach}{b0:Nat}{v:Value}{d:DataW H}{p:List MemPlace}
  (hv:Value.okWide Tryz.prog w r b0 23 v) (h:DataW.Trod enc Tryz.prog w base spare held 23 v d p):
  ∃l:List Nat,(∀x∈l,x<=4294967295)∧l.length<=9223372036854775807∧Rep (· <w.heap.size) w noB (.sl 1 (l.map dU) false) v:=by
 obtain⟨a0,len,cap,rfl⟩:=okWide_slice underlying23 hv;obtain⟨fuel,hf⟩:=h;obtain⟨cs,ho⟩:=vT 3 fuel _ _ _ hf (by kernel_rfl);obtain⟨l,rfl,h1,h2⟩:=Qg ho.ty;exact⟨l,h2,h1,ho.rep.2 0 _ _ rfl rfl⟩
def Qj{w:World}(h:EE w):0<w.heap.size:=by
 have:=h 0 dT;unfold World.cell? at this
 cases hq:w.heap[0]? with
 |none=>simp[hq]at this
 |some o=>exact(DP.1 hq).1
theorem bI.law{f:FuncId}{args:List AV}{vs:List Value}{w:World}(h:bI C0 f args (.v (.bool true)))(hC:EE w)(ha:RepL (· <w.heap.size) w noB args vs):
  Calls Tryz.prog f vs.toArray w λe w'=>e=.returned (.bool true)∧Below w.heap.size w w':=
 (h.2 (· <w.heap.size) w vs (λ_ h=>h) (aeM hC (Qj hC)) ha).mono λe w' ⟨v,h1,h2,h3⟩=>⟨by rw[h1,lV h3],h2⟩
open Go.RowKit Go.ChangeShapes Go.WideShapes
def Vc{P:Program}{w:World}{r:Reach}{base:Nat}{t:TypeId}{v:Value}(ht:P.underlying t=some .string)(h:Value.okWide P w r base t v):∃s,v=.string s∧s.size<9223372036854775808:=by
 obtain⟨s,rfl⟩:=okWide_string ht h;refine⟨s,rfl,?_⟩;have h2:IntKind.i64.max=9223372036854775807:=rfl;have h3:(s.size:Int)<=IntKind.i64.max:=by simpa [Value.okWide,Cell.okWide,Cell.ok,ht]using h
 omega
def ak3:Cf:=⟨0,0,0,0,0,0,0,0,[],false,[]⟩
def am0:(uN (fX ak3 [1048691] oZ) (Cd 20)).halt=7∧(uN (fX ak3 [1048691] oZ) (Cd 20)).agG.length=1:=by
 decide+kernel
theorem bI.of_sub{C:Ctx}{f:FuncId}{xs ys:List AV}{r:AV}(h:bI C f xs r)(k:ZK ys xs):bI C f ys r:=by
 obtain⟨k1,k2⟩:=k.get;refine⟨h.1,λS w vs hS hG hr=>h.2 S w vs hS hG ⟨k1 ▸ hr.1,λi a v ha hv=>?_⟩⟩;have hi:i<ys.length:=by rw[k1];exact(Em.1 ha).1
 exact k2 i _ a (aA hi) ha _ _ _ (hr.2 i _ v (aA hi) hv)
structure Kp(c d:Co):Prop where
 cycle:d.cycle=c.cycle
 ret:c.agG <+: d.agG
 mem:d.mem.size=c.mem.size
theorem Kp.refl(c:Co):Kp c c:=⟨rfl,List.prefix_refl _,rfl⟩
theorem Kp.trans{a b c:Co}(h:Kp a b)(k:Kp b c):Kp a c:=⟨k.cycle.trans h.cycle,List.IsPrefix.trans h.ret k.ret,k.mem.trans h.mem⟩
def ak4(c:Co):Kp c (lM c):=by
 rw[kC];split
 ·unfold ID
  repeat' split
  ·exact⟨rfl,List.prefix_refl _,rfl⟩
  ·exact⟨rfl,List.prefix_refl _,rfl⟩
  ·rw[<-uY];exact⟨rfl,List.prefix_refl _,rfl⟩
  ·exact⟨rfl,List.prefix_refl _,iY ..⟩
  exact⟨rfl,List.prefix_refl _,rfl⟩
 exact⟨rfl,List.prefix_refl _,rfl⟩
def ak5(c:Co):Kp c (kK c):=by
 unfold kK;split
 ·exact .refl c
 split<;>exact⟨rfl,List.prefix_refl _,rfl⟩
def ajX(d:Co)(e:Ent):Kp d (Bm d e):=⟨rfl,List.prefix_append _ _,rfl⟩
def ajY(d:Co)(e:Ent):Kp d (MP d e):=⟨rfl,List.prefix_append _ _,rfl⟩
theorem aoR:∀(n:Nat) (c:Co),Kp c (retiresN n c)
 |0,c=>.refl c
 | n +1,c=>by
  by_cases h0:c.halt≠0∨c.agI.length=0
  ·rw[mG h0];exact .refl c
  ·have hx:c.agI[0]?=some (c.agI[0]'omT):=aA omT;rw[iX omT (λq=>h0 (.inl q)) hx];split
   ·exact .refl c
   ·split
    ·exact⟨rfl,List.prefix_append _ _,rfl⟩
    ·split
     ·exact .refl c
     ·rw[kB];by_cases hk:kindOf (c.agI[0]'omT).i.op=3
      ·rw[Ke hk];exact(ajY c _).trans (aoR n _)
      ·rw[An hk];exact(ajX c _).trans (aoR n _)
def amC(c:Co)(i:Nat):Kp c (oE c i):=by
 unfold oE
 cases c.agI[i]? with
 |none=>exact .refl c
 |some e=>
  dsimp only
  repeat' split
  all_goals exact⟨rfl,List.prefix_refl _,rfl⟩
def ak6(c:Co)(i:Nat):Kp c (iS c i):=by
 unfold iS
 cases c.agI[i]? with
 |none=>exact .refl c
 | some e=>
  dsimp only;split
  ·exact⟨rfl,List.prefix_refl _,rfl⟩
  ·split
   ·exact Kp.trans (b:=setE c i (yC e c.mem.size (mI c.agI c.r i).1)) ⟨rfl,List.prefix_refl _,rfl⟩ (amC _ i)
   ·exact⟨rfl,List.prefix_refl _,rfl⟩
theorem ah8:∀(p:List Nat) (c:Co),Kp c (p.foldl iS c)
 |[],c=>.refl c
 |i::p,c=>(ak6 c i).trans (ah8 p _)
def ajZ(c:Co):Kp c (gY c):=by
 unfold gY;split
 ·exact .refl c
 exact ah8 _ c
theorem ahN:∀(n:Nat) (c:Co),Kp c (entersN n c)
 |0,c=>.refl c
 | n+1,c=>by
  by_cases h0:(c.agI.length:Int)>=c.agL.agI∨c.agH.length=0
  ·rw[Ap h0];exact .refl c
  ·have hx:c.agH[0]?=some (c.agH[0]'omT):=aA omT;have e:=CU (n:=n+1) (k:=0) omT (λq=>h0 (.inl q)) hx;rw[(oT:n+1-(0+1)=n),(oT:n+1-0=n+1)]at e;rw[<-e];have h1:Kp c (Kh c (c.agH[0]'omT)):=⟨rfl,List.prefix_refl _,rfl⟩;exact h1.trans (ahN n _)
def aj0(c:Co):Kp c (lP c):=by
 unfold lP;split
 ·exact .refl c
 exact ahN _ c
def aj1(c:Co):Kp c (zP c):=by
 have h:Kp (lJ c) (dM (lJ c) (fetchW c.prog c.agM)).1:=by
  unfold dM;split
  ·exact .refl _
  split<;>exact⟨rfl,List.prefix_refl _,rfl⟩
 exact⟨h.cycle,h.ret,h.mem⟩
theorem ag5:∀(n:Nat) (c:Co),Kp c (fetchesN n c)
 |0,c=>.refl c
 | n +1,c=>by
  by_cases h0:c.stop=true∨(c.agH.length:Int)>=c.agL.queue
  ·rw[yZ h0];exact .refl c
  ·by_cases hf:(fetchP c.prog c.agM).isSome=false
   ·rw[Aq omT h0 hf];exact⟨rfl,List.prefix_refl _,rfl⟩
   ·by_cases hw:(bK c.agO (lineOf c.agM)).2.isSome=false
    ·rw[uD omT h0 hf hw];split
     ·exact⟨rfl,List.prefix_refl _,rfl⟩
     ·exact .refl c
    ·have e:=BC (n:=n+1) (k:=0) omT h0 hf hw;rw[(oT:n+1-(0+1)=n),(oT:n+1-0=n+1)]at e;rw[<-e];exact(aj1 c).trans (ag5 n _)
def ajK(c:Co):Kp c (eN c):=by
 unfold eN;split
 ·exact .refl c
 exact ag5 _ c
def aiQ(c:Co):Kp c (tW c):=by
 unfold tW;split
 ·exact .refl c
 split
 ·exact⟨rfl,List.prefix_refl _,rfl⟩
 exact .refl c
def ahO(c:Co):Kp c (nP c):=by
 unfold nP;split
 ·exact .refl c
 unfold pE;split
 ·split
  ·exact⟨rfl,List.prefix_refl _,rfl⟩
  exact .refl c
 exact .refl c
def aj2(c:Co):Kp c (tY c):=by
 have h1:Kp c (aW c):=⟨rfl,List.prefix_refl _,rfl⟩;rw[mO];split
 ·exact(h1.trans (aiQ _)).trans (ahO _)
 exact h1.trans (ahO _)
def amD(c:Co):Kp (s0 c) (ZJ c):=
 ((((((ak4 (s0 c)).trans (ak5 _)).trans (aoR _ _)).trans (ajZ _)).trans (aj0 _)).trans (ajK _)).trans (aj2 _)
def amE{c:Co}(h:jF c=true):(uG c).cycle=wrap64 (c.cycle+1)∧c.agG <+: (uG c).agG∧(uG c).mem.size=c.mem.size:=by
 have k:=amD c;unfold uG;rw[af1 h];exact⟨k.cycle,k.ret,k.mem⟩
def Bj(prog:List Nat):List Nat:=prog.take (min prog.length 64)
def Bk(m:ByteArray):ByteArray:=m.extract 0 (min m.size 300)
def upTo(a:Int)(hi:Nat):Nat:=(min (max a 0) hi).toNat
def Ym(a:Int)(hi:Nat):upTo a hi<=hi:=by unfold upTo;omega
def Yn(a:Int)(hi:Nat):(if(hi:Int)<max a 0 then(hi:Int)else max a 0)=((upTo a hi:Nat):Int):=by unfold upTo;split<;>omega
def We(a b:Int):(if b>a then b else a)=max a b:=by split<;>omega
def amW:bI C0 6 [.agg [vI 0,vI 0,vI 0,vI 0,vI 0,vI 0,vI 0,vI 0,.sl 0 [] true,vB false,.sl 0 [] true],.sl 1 [[vU 1048691]] true,.v (.string oZ),vI 20] (.agg (coL (uN (fX ak3 [1048691] oZ) (Cd 20)))):=
 (apB ak3 [1048691] oZ 20 ⟨aE _,aE _,λx hx=>by cases hx⟩ (λx hx=>by rw[uJ.1 hx];decide) dT).of_sub ⟨Sub.agg ⟨Sub.refl _,Sub.refl _,Sub.refl _,Sub.refl _,Sub.refl _,Sub.refl _,Sub.refl _,Sub.refl _,oM 1 false,Sub.refl _,oM 1 false,trivial⟩,Sub.clip _ _ _,Sub.refl _,Sub.refl _,trivial⟩
def amX:bI C0 9 [] (vB true):=by
 refine dJZ func9 rfl ?_;have hnb:(200:Nat)<=890000:=dT;refine rV (.agg [vI 0,vI 0,vI 0,vI 0,vI 0,vI 0,vI 0,vI 0,.sl 0 ([]) true,vB false,.sl 0 ([]) true]) rfl<|rV (.sl 1 ([[.v (.int .u32 1048691)]]) true) rfl<|rCi rfl (amW)<|qRN 0 rfl<|rSt rfl<|qR 0 rfl<|zV (vB (((uN (fX ak3 [1048691] oZ) (Cd 20)).halt)==7))<|gS rfl id<|gBS rfl id (cD spL ((uN (fX ak3 [1048691] oZ) (Cd 20)).agG))<|gBS rfl id (okB (eqN _ _))<|zN rfl (λh=>h) ?_;exact fT rfl (dR (by simp[c2a,am0.1,am0.2]))
def amY(prog:List Nat)(m:ByteArray)(hl:prog.length<=9223372036854775807)(hm:m.size<=9223372036854775807):bI C0 5 [.sl 1 (prog.map dU) false,.v (.string m)] (.tup [.sl 1 ((Bj prog).map dU) false,.v (.string (Bk m))]):=by
 refine dJZ func5 rfl<|zR<|zW _ (cD dU prog)<|zW _ (Bo prog.length 64)<|zM _ (yB (vY dU prog (min prog.length 64))) slT<|zV (vN m.size)<|zW _ (Bo m.size 300)<|zM (.v (.string (m.extract 0 (min m.size 300)))) rfl (by refine⟨?_,?_,?_⟩<;>(first|exact aG _|decide|(apply FG.2;exact omT))) ?_;exact fT rfl rfl
def amZ(cf:Cf)(prog:List Nat)(m:ByteArray)(k:Nat)(hc:cf.ok)(hp:∀x∈prog,x<=4294967295)(hl:prog.length<=1000)(hk:k<=2000)(X:Co)(hX:X=fX cf prog m):bI C0 6 [.agg (cfL cf false false),.sl 1 (prog.map dU) false,.v (.string m),vN k] (.agg (coL (uN X k))):=by
 subst hX;have h:=apB cf prog m (k:Int) hc hp hl;rw[show Cd (k:Int)=k by unfold Cd;omega]at h;exact h
def stV(s:St):Value:=.agg ((stL s.pc s.r s.mem s.halt).map unV).toArray
def spV(x:Sp):Value:=.agg ((spL x).map unV).toArray
def aaS(x:St×Sp):Array Value:= #[stV x.1,spV x.2]
def Sg{r:Nat->Nat}(h:∀k,r k<=4294967295){v:Nat}(hv:v<=4294967295)(n:Nat):∀k,setR r n v k<=4294967295:=by
 intro k;unfold setR;split
 ·exact hv
 exact h k
def Ml{m:ByteArray}{agZ:Nat}{b:ByteArray}(h:agZ+b.size<=m.size):(DD m agZ b).size=m.size:=by
 show(DD m agZ b).data.size=m.data.size;have h':agZ+b.data.size<=m.data.size:=h;simp only[DD,kP,aU,aM,bD,cV];show min agZ m.data.size+b.data.size+(m.data.size-(agZ+b.data.size))=m.data.size;omega
def Bb{s:St}(h:s.ok)(why:Int)(agZ:Nat):(Gc s why agZ).1.ok:=⟨h.pc,h.r,h.mem⟩
def Sh{s:St}(h:s.ok){i:SI}{a b nx:Nat}{tk:Int}(hi:i.agR<=4294967295)(ha:a<=4294967295)(hb:b<=4294967295)(hn:nx<=4294967295):(IJ s i a b nx tk).1.ok:=by
 unfold IJ;split
 ·exact⟨hn,h.r,h.mem⟩
 exact⟨hn,Sg h.r (aI (Rp i.op i.agR s.pc a b (bG hi) (bG ha) (bG hb))) _,h.mem⟩
def Vh{prog:List Nat}{s:St}(h:s.ok):(gE prog s).1.ok:=by
 unfold gE;split
 ·split
  ·split
   ·exact Bb h _ _
   have hd:=IK (fetchW prog s.pc);have hi:(rA prog s).agR<=4294967295:=aI hd.2.2.2.2.2.2;unfold doI;split
   ·exact Bb h _ _
   split
   ·exact Bb h _ _
   split
   ·unfold sN;split
    ·rename_i hr;have hq:=sQ hr;split
     ·exact⟨uT _,h.r,by rw[Ml (by rw[mP];exact hq.1)];exact h.mem⟩
     split
     ·exact⟨uT _,h.r,h.mem⟩
     exact⟨uT _,Sg h.r (MT _ _) _,h.mem⟩
    exact Bb h _ _
   unfold oN;split
   ·split
    ·exact Sh h hi (h.r _) (h.r _) (aI (Ed _ _ _ _ _))
    exact Bb h _ _
   exact Sh h hi (h.r _) (h.r _) (uT _)
  exact Bb h _ _
 exact h
def Wc{ev:Operand->AV}{h:AH}{s b n v:Nat}{a x:Operand}{pc:Nat}{r:Nat->Nat}{m:ByteArray}{hl:Int}(ha:ev a=.ptr b (1+n*1))(hb:h b=some (.box (stL pc r m hl)))(hx:ev x=.v (.int .u32 (v:Int)))(hn:n<32):
  opA C1 ev h s (.store 28 a x)=.fx True .any (upd h b (some (.box (stL pc (setR r n v) m hl)))):=stR (s:=s) ha hb hx hn
def stN(prog:List Nat)(s:St):Nat->St
 |0=>s
 |k+1=>(gE prog (stN prog s k)).1
theorem Si{prog:List Nat}{s:St}(h:s.ok):∀k,(stN prog s k).ok
 |0=>h
 |k+1=>Vh (Si h k)
theorem Sj(prog:List Nat)(s:St):∀k,stN prog (gE prog s).1 k=stN prog s (k+1)
 |0=>rfl
 |k+1=>af2 (λz=>(gE prog z).1) (Sj prog s k)
def xsN(prog:List Nat)(s:St)(k:Nat):List (St×Sp):=(List.range k).map λi=>gE prog (stN prog s i)
def KW(prog:List Nat)(s:St)(k:Nat):xsN prog s k++[gE prog (stN prog s k)]=xsN prog s (k+1):=by
 unfold xsN;rw[gZ,dH];rfl
def afO(prog:List Nat)(s:St)(k:Nat):(xsN prog s k).length=k:=by unfold xsN;rw[aH,fV]
def Yg{prog:List Nat}{s:St}{k n:Nat}(h:k<=n):xsN prog s k <+: xsN prog s n:=by
 have e:xsN prog s k=(xsN prog s n).take k:=by unfold xsN;rw[<-eO,List.take_range,kD h]
 rw[e];exact List.take_prefix _ _
def cntN(prog:List Nat):Nat->St->Nat
 |0,_=>0
 |n+1,s=>if s.halt=0 then cntN prog n (gE prog s).1+1 else 0
theorem AB(prog:List Nat):∀n s,cntN prog n s<=n
 |0,_=>aC 0
 |n+1,s=>by
  have:=AB prog n (gE prog s).1;unfold cntN;split<;>omega
theorem Hd{prog:List Nat}:∀{n:Nat} {s:St} {k:Nat},k<cntN prog n s->(stN prog s k).halt=0
 |0,s,k,h=>absurd h (dG k)
 | n+1,s,k,h=>by
  unfold cntN at h;split at h
  ·rename_i h0
   cases k with
   |zero=>exact h0
   |succ k=>rw[<-Sj];exact Hd (n:=n) omT
  ·omega
theorem Dj{prog:List Nat}:∀{n:Nat} {s:St},cntN prog n s<n->(stN prog s (cntN prog n s)).halt≠0
 |0,s,h=>absurd h (dG _)
 | n+1,s,h=>by
  unfold cntN at h⊢;split at h
  ·rename_i h0;rw[af1 h0, <-Sj];exact Dj omT
  ·rename_i h0;rw[dZ h0];exact h0
def Vi{prog:List Nat}{n:Nat}{s:St}{k:Nat}(h:k<=cntN prog n s)(h1:k<n)(h2:(stN prog s k).halt=0):k<cntN prog n s:=by
 rcases al_Nat_lt_or_ge k (cntN prog n s)with h3|h3
 ·exact h3
 have e:k=cntN prog n s:=oT;exact absurd h2 (e ▸ Dj omT)
def aaT{prog:List Nat}{n:Nat}{s:St}{k:Nat}(h:k<=cntN prog n s)(h1: ¬(k<n∧(stN prog s k).halt=0)):k=cntN prog n s:=by
 rcases al_Nat_lt_or_ge k (cntN prog n s)with h3|h3
 ·exact absurd ⟨af3 h3 (AB ..),Hd h3⟩ h1
 omega
def vD{a b:Bool}(h:cE a b false=true):a=true∧b=true:=by cases a<;>cases b<;>simp[cE]at h⊢
def Sk{a b:Bool}(h:cE a b false=false): ¬(a=true∧b=true):=by cases a<;>cases b<;>simp[cE]at h⊢
def afP(s:St)(l:List (St×Sp)):St:=(l.getLast?.map (·.1)).getD s
def NT(s:St)(l:List (St×Sp))(x:St×Sp):afP s (l++[x])=x.1:=by unfold afP;rw[List.getLast?_concat];rfl
def Mm(s:St)(why:Int)(hs:s.ok):bI C0 159 [stA s,.v (.int .i64 why)] (two (Gc s why 0)):=by
 refine dJZ func159 rfl ?_;refine zV (.agg [.v (.int .u32 ((s.pc:Nat):Int)),.v (.int .u32 ((s.pc:Nat):Int)),.v (.int .i64 0),.v (.int .u32 0),.v (.int .u32 0),.v (.int .i64 0),.v (.bool false),.v (.int .i64 why),.v (.int .i64 0)]) ?_;refine pO rfl rfl<|oR 2 rfl<|rSt rfl<|rSt rfl<|rE 18<|And.intro (by kernel_rfl)<|qXF 0 rfl ?_;exact qY rfl trivial rfl rfl
def Sm(s:St)(i:SI)(a b:Nat)(hs:s.ok)(hi:i.agR<=4294967295)(ha:a<=4294967295)(hb:b<=4294967295)(hw0:0<=wr i)(hw:wr i<32):bI C0 160 [stA s,siA i,.v (.int .u32 (a:Int)),.v (.int .u32 (b:Int))] (two (sN s i a b)):=by
 refine dJZ func160 rfl ?_;refine zR<|zV (.v (.int .u32 ((addrOf i a:Nat):Int)))<|zC (Gd i) ?_;refine rCi rfl (pS i)<|zW _ (okB (eqN _ _))<|zV (.v (.int .i64 (s.mem.size:Int)))<|zC (GY _ _ _ (oH hs.mem) (bG (Ay i a))) ?_;refine zB rfl (λh1=>?_) (λh1=>?_)
 ·skip
  refine zB rfl (λh2=>?_) (λh2=>?_)
  ·refine zC (Mm s (5) hs) ?_;refine pO rfl rfl<|oR 2 rfl<|rSt rfl<|rSt rfl<|rE 43<|And.intro (by kernel_rfl)<|qXF 0 rfl ?_;exact fT rfl (by unfold sN;rw[dZ (sU h1),af1 (sU h2)];rfl)
  refine zC (Mm s (4) hs) ?_;refine pO rfl rfl<|oR 2 rfl<|rSt rfl<|rSt rfl<|rE 42<|And.intro (by kernel_rfl)<|qXF 0 rfl ?_;exact fT rfl (by unfold sN;rw[dZ (sU h1),dZ (sU h2)];rfl)
 refine zR<|zV (.v (.int .u32 ((up4 s.pc:Nat):Int)))<|zC (Da i)<|zV (.agg [.v (.int .u32 ((s.pc:Nat):Int)),.v (.int .u32 ((up4 s.pc:Nat):Int)),.v (.int .i64 (wr i)),.v (.int .u32 0),.v (.int .u32 ((addrOf i a:Nat):Int)),.v (.int .i64 ((bP i.op:Nat):Int)),.v (.bool ((kindOf i.op)==4)),.v (.int .i64 0),.v (.int .i64 0)]) ?_;refine zB rfl (λh3=>?_) (λh3=>?_)
 ·refine zC (Nv b (bP i.op) (bG hb) (lQ i.op))<|zC (ZV _ (by rw[mP];exact lQ i.op))<|zC (aaA _ _ _ (by rw[mP];simpa using h1) hs.mem (Ay i a)) ?_;refine pO rfl rfl<|oR 2 rfl<|rSt rfl<|rSt rfl<|rE 70<|And.intro (by kernel_rfl)<|qXF 0 rfl ?_;exact fT rfl (by unfold sN;rw[af1 (sU h1),af1 (sU h3)];rfl)
 refine zV (.v (.bool ((wr i) != 0))) ?_;refine zB rfl (λh4=>?_) (λh4=>?_)
 ·refine zC (acM _ _ _ (sU h1) hs.mem (Ay i a))<|zC (ZW _ _ (UJ hs.mem _ _))<|nW (.ptr 0 (1+(wr i).toNat*1)) rfl rfl omT ?_;refine Ow (h':=upd _ 0 (some (.box (stL s.pc (setR s.r ((wr i).toNat) (loadP i.op (Cv s.mem (addrOf i a) (bP i.op)))) s.mem s.halt)))) rfl rfl (Wc (n:=(wr i).toNat) (v:=loadP i.op (Cv s.mem (addrOf i a) (bP i.op))) (r:=s.r) rfl rfl rfl omT) (trivial)<|qRC 0 rfl<|pO rfl rfl<|oR 2 rfl<|rSt rfl<|rSt rfl<|rE 71<|And.intro (by kernel_rfl)<|qXF 0 rfl ?_;exact fT rfl (by unfold sN;rw[af1 (sU h1),dZ (sU h3),dZ (sU h4)];rfl)
 refine pO rfl rfl<|oR 2 rfl<|rSt rfl<|rSt rfl<|rE 48<|And.intro (by kernel_rfl)<|qXF 0 rfl ?_;exact fT rfl (by unfold sN;rw[af1 (sU h1),dZ (sU h3),af1 (sU h4)];rfl)
def Yh(s:St)(i:SI)(a b:Nat)(hs:s.ok)(hi:i.agR<=4294967295)(ha:a<=4294967295)(hb:b<=4294967295)(hw0:0<=wr i)(hw:wr i<32):bI C0 161 [stA s,siA i,.v (.int .u32 (a:Int)),.v (.int .u32 (b:Int))] (two (oN s i a b)):=by
 refine dJZ func161 rfl ?_;refine zR<|zV (.v (.int .u32 ((up4 s.pc:Nat):Int)))<|zC (Da i)<|zV (.agg [.v (.int .u32 ((s.pc:Nat):Int)),.v (.int .u32 ((up4 s.pc:Nat):Int)),.v (.int .i64 (wr i)),.v (.int .u32 0),.v (.int .u32 0),.v (.int .i64 0),.v (.bool false),.v (.int .i64 0),.v (.int .i64 0)]) ?_;refine zC (pS i)<|zWB (okB (eqN _ _)) (λh1=>?_) (λh1=>?_)
 ·refine zC (LW i _ _ _ (bG hi) (bG hs.pc) (bG ha) (bG hb)) ?_;refine zB rfl (λh2=>?_) (λh2=>?_)
  ·refine zC (Mm s (3) hs) ?_;exact fT rfl (by unfold oN IJ;rw[af1 (sU h1),dZ (sU h2)];rfl)
  refine zV (.v (.bool ((wr i) != 0))) ?_;refine zB rfl (λh3=>?_) (λh3=>?_)
  ·refine zC (Nu i _ _ _ (bG hi) (bG hs.pc) (bG ha) (bG hb))<|nW (.ptr 0 (1+(wr i).toNat*1)) rfl rfl omT<|Ow (h':=upd _ 0 (some (.box (stL s.pc (setR s.r ((wr i).toNat) (BF i.op i.agR s.pc a b)) s.mem s.halt)))) rfl rfl (Wc (n:=(wr i).toNat) (v:=BF i.op i.agR s.pc a b) (r:=s.r) rfl rfl rfl omT) (trivial) ?_;refine qRC 0 rfl<|pO rfl rfl<|oR 2 rfl<|rSt rfl<|rSt rfl<|rE 60<|And.intro (by kernel_rfl)<|qXF 0 rfl ?_;exact fT rfl (by unfold oN IJ;rw[af1 (sU h1),af1 (sU h2),dZ (sU h3)];rfl)
  refine pO rfl rfl<|oR 2 rfl<|rSt rfl<|rSt rfl<|rE 45<|And.intro (by kernel_rfl)<|qXF 0 rfl ?_;exact fT rfl (by unfold oN IJ;rw[af1 (sU h1),af1 (sU h2),af1 (sU h3)];rfl)
 refine zWB (okB (eqN _ _)) (λh4=>?_) (λh4=>?_)
 ·refine zC (Xz _ _ _ (bG ha) (bG hb))<|zV (.v (.bool ((wr i) != 0))) ?_;refine zB rfl (λh5=>?_) (λh5=>?_)
  ·refine zC (Nu i _ _ _ (bG hi) (bG hs.pc) (bG ha) (bG hb))<|nW (.ptr 0 (1+(wr i).toNat*1)) rfl rfl omT<|Ow (h':=upd _ 0 (some (.box (stL s.pc (setR s.r ((wr i).toNat) (BF i.op i.agR s.pc a b)) s.mem s.halt)))) rfl rfl (Wc (n:=(wr i).toNat) (v:=BF i.op i.agR s.pc a b) (r:=s.r) rfl rfl rfl omT) (trivial) ?_;refine qRC 0 rfl<|pO rfl rfl<|oR 2 rfl<|rSt rfl<|rSt rfl<|rE 53<|And.intro (by kernel_rfl)<|qXF 0 rfl ?_;exact fT rfl (by unfold oN IJ;rw[dZ (sU h1),dZ (sU h5),af1 (sU h4)];rfl)
  refine pO rfl rfl<|oR 2 rfl<|rSt rfl<|rSt rfl<|rE 38<|And.intro (by kernel_rfl)<|qXF 0 rfl ?_;exact fT rfl (by unfold oN IJ;rw[dZ (sU h1),af1 (sU h5),af1 (sU h4)];rfl)
 refine zV (.v (.bool ((wr i) != 0))) ?_;refine zB rfl (λh6=>?_) (λh6=>?_)
 ·refine zC (Nu i _ _ _ (bG hi) (bG hs.pc) (bG ha) (bG hb))<|nW (.ptr 0 (1+(wr i).toNat*1)) rfl rfl omT<|Ow (h':=upd _ 0 (some (.box (stL s.pc (setR s.r ((wr i).toNat) (BF i.op i.agR s.pc a b)) s.mem s.halt)))) rfl rfl (Wc (n:=(wr i).toNat) (v:=BF i.op i.agR s.pc a b) (r:=s.r) rfl rfl rfl omT) (trivial) ?_;refine qRC 0 rfl<|pO rfl rfl<|oR 2 rfl<|rSt rfl<|rSt rfl<|rE 46<|And.intro (by kernel_rfl)<|qXF 0 rfl ?_;exact fT rfl (by unfold oN IJ;rw[dZ (sU h1),dZ (sU h6),dZ (sU h4)];rfl)
 refine pO rfl rfl<|oR 2 rfl<|rSt rfl<|rSt rfl<|rE 31<|And.intro (by kernel_rfl)<|qXF 0 rfl ?_;exact fT rfl (by unfold oN IJ;rw[dZ (sU h1),af1 (sU h6),dZ (sU h4)];rfl)
def Yi(prog:List Nat)(s:St)(clip:Bool)(hp:∀x∈prog,x<=4294967295)(hl:prog.length<=1000000)(hs:s.ok):bI C0 116 [.sl 1 (prog.map dU) clip,stA s] (two (gE prog s)):=by
 refine dJ func116 ?_;have hd:0<=(rA prog s).rd∧(rA prog s).rd<32∧0<=(rA prog s).ag0∧(rA prog s).ag0<32∧0<=(rA prog s).ag1∧(rA prog s).ag1<32∧(rA prog s).agR<=4294967295:=by have:=IK (fetchW prog s.pc);exact⟨this.1,this.2.1,this.2.2.1,this.2.2.2.1,this.2.2.2.2.1,this.2.2.2.2.2.1,aI this.2.2.2.2.2.2⟩
 have hv:=ZU (fetchW prog s.pc);refine qS 0 rfl<|rV (.v (.bool (s.halt != 0))) rfl ?_;refine qRC 0 rfl<|aV rfl (λh1=>?_) (λh1=>?_)
 ·refine qC 0 rfl<|rV (.agg [.v (.int .u32 0),.v (.int .u32 0),.v (.int .i64 0),.v (.int .u32 0),.v (.int .u32 0),.v (.int .i64 0),.v (.bool false),.v (.int .i64 0),.v (.int .i64 0)]) rfl<|qRF 0 rfl ?_;exact fT rfl (by unfold gE doI;rw[dZ (sU h1)];rfl)
 refine qC 0 rfl<|rCi rfl (ND prog s.pc clip hp hl hs.pc) ?_;refine qRC 0 rfl<|aV rfl (λh2=>?_) (λh2=>?_)
 ·refine qC 0 rfl<|rCi rfl (Mm s (1) hs)<|qRF 0 rfl ?_;exact fT rfl (by unfold gE doI;rw[af1 (sU h1),dZ (sU h2)];rfl)
 refine qC 0 rfl<|rCi rfl (IV _ (bG (KE hp s.pc)))<|qR 0 rfl<|rW _ rfl (okB (neN _ _)) ?_;refine qRC 0 rfl<|aV rfl (λh3=>?_) (λh3=>?_)
 ·refine qC 0 rfl<|rCi rfl (Mm s (2) hs)<|qRF 0 rfl ?_;exact fT rfl (by unfold gE doI;rw[af1 (sU h1),af1 (sU h2),af1 ((Dd _).1 h3)];rfl)
 refine qC 0 rfl<|rV (.v (.bool (((rA prog s).op)==47))) rfl ?_;refine qRC 0 rfl<|aV rfl (λh4=>?_) (λh4=>?_)
 ·refine qC 0 rfl<|rCi rfl (Mm s (6) hs)<|qRF 0 rfl ?_;exact fT rfl (by unfold gE doI;rw[af1 (sU h1),af1 (sU h2),dZ (λe=>by rw[(Dd _).2 e]at h3;cases h3),af1 (sU h4)];rfl)
 refine qC 0 rfl<|rV (.v (.bool (((rA prog s).op)==48))) rfl ?_;refine qRC 0 rfl<|aV rfl (λh5=>?_) (λh5=>?_)
 ·refine qC 0 rfl<|rCi rfl (Mm s (7) hs)<|qRF 0 rfl ?_;exact fT rfl (by unfold gE doI;rw[af1 (sU h1),af1 (sU h2),dZ (λe=>by rw[(Dd _).2 e]at h3;cases h3),dZ (sU h4),af1 (sU h5)];rfl)
 refine qC 0 rfl<|rCi rfl (Fs (rA prog s))<|qRC 0 rfl<|cRg<|oR 2 rfl<|nW (.ptr 0 (1+((rA prog s).ag0).toNat*1)) rfl rfl omT<|rW _ rfl (ldR s.pc s.r s.mem s.halt (((rA prog s).ag0).toNat) omT)<|oR 2 rfl<|nW (.ptr 0 (1+((rA prog s).ag1).toNat*1)) rfl rfl omT<|rW _ rfl (ldR s.pc s.r s.mem s.halt (((rA prog s).ag1).toNat) omT)<|oR 2 rfl ?_;refine rE 50<|qX 0 rfl<|rCi rfl (pS (rA prog s))<|qR 0 rfl<|rW _ rfl (okB (eqN _ _)) ?_;refine qRC 0 rfl<|aV rfl (λh6=>?_) (λh6=>?_)
 ·skip
  refine qCC 0 rfl<|aV rfl (λ_=>?_) (λh7=>Bool.noConfusion (h6.symm.trans h7));refine qC 0 rfl<|rCi rfl (Sm s (rA prog s) (s.r (rA prog s).ag0.toNat) (s.r (rA prog s).ag1.toNat) hs hd.2.2.2.2.2.2 (hs.r _) (hs.r _) hv.1 hv.2)<|qRF 0 rfl ?_;exact fT rfl (by unfold gE doI;rw[af1 (sU h1),af1 (sU h2),dZ (λe=>by rw[(Dd _).2 e]at h3;cases h3),dZ (sU h4),dZ (sU h5),af1 (by simp at h6;first|exact .inl h6|exact .inr h6)];rfl)
 refine qC 0 rfl<|rW _ rfl (okB (eqN _ _)) ?_;refine qRC 0 rfl<|aV rfl (λh8=>?_) (λh8=>?_)
 ·refine qC 0 rfl<|rCi rfl (Sm s (rA prog s) (s.r (rA prog s).ag0.toNat) (s.r (rA prog s).ag1.toNat) hs hd.2.2.2.2.2.2 (hs.r _) (hs.r _) hv.1 hv.2)<|qRF 0 rfl ?_;exact fT rfl (by unfold gE doI;rw[af1 (sU h1),af1 (sU h2),dZ (λe=>by rw[(Dd _).2 e]at h3;cases h3),dZ (sU h4),dZ (sU h5),af1 (by simp at h8;first|exact .inl h8|exact .inr h8)];rfl)
 refine qC 0 rfl<|rCi rfl (Yh s (rA prog s) (s.r (rA prog s).ag0.toNat) (s.r (rA prog s).ag1.toNat) hs hd.2.2.2.2.2.2 (hs.r _) (hs.r _) hv.1 hv.2)<|qRF 0 rfl ?_;exact fT rfl (by unfold gE doI;rw[af1 (sU h1),af1 (sU h2),dZ (λe=>by rw[(Dd _).2 e]at h3;cases h3),dZ (sU h4),dZ (sU h5),dZ (by simp at h6 h8;omega)];rfl)
def aaU(prog:List Nat)(s0:St)(n:Int)(ck:Bool)(hp:∀x∈prog,x<=4294967295)(hl:prog.length<=1000)(hs:s0.ok)(hn:n<=10000):RN C0 115 [.dp 35 0 (stL s0.pc s0.r s0.mem s0.halt),.dp 1 0 [vI n],.dp 1 0 [.sl 1 (prog.map dU) ck]] aaS (xsN prog s0 (cntN prog n.toNat s0)):=by
 refine RN.intro c0Ok func115 rfl rfl (by kernel_rfl) rfl ?_;intro y;refine rQ<|nU rfl<|cRg<|oR 1 rfl<|rAl 1 rfl rfl<|rSt rfl<|rE 3<|rQ<|nU rfl<|cRg<|oR 1 rfl<|rE 4<|AA<|NH (κ:=Nat) (λk=>⟨slotsF [(0,.v y),(1,.dp 35 0 (stL s0.pc s0.r s0.mem s0.halt)),(2,.dp 1 0 ([vI n])),(3,.dp 1 0 ([.sl 1 (prog.map dU) ck])),(5,.ptr 0 0),(6,vN k)],heapF [(0,.box (stL (stN prog s0 k).pc (stN prog s0 k).r (stN prog s0 k).mem (stN prog s0 k).halt))],1⟩) (λk=>xsN prog s0 k) (λk=>k<=cntN prog n.toNat s0) (λk=>cntN prog n.toNat s0-k) 0 (λs=>match s with|0=>1|s=>s) (wOL (λs=>match s with|0=>1|s=>s) wT wH rfl) rfl (rfl) (aE _) ?_;intro k hk;have hkc:k<=cntN prog n.toNat s0:=hk;have hcl:=AB prog n.toNat s0;have hkB:k<=10000:=oT;refine rQ<|rQ<|nU rfl<|cRg<|oR 2 rfl<|rV (vB (decide ((k:Int)<n))) rfl<|oR 1 rfl<|gN rfl<|gS rfl id<|gBS (x:=vB (((stN prog s0 k).halt)==0)) rfl id rfl<|bO rfl rfl rfl (λh=>h)<|rE 9 ?_;refine Cz (v:=cE (decide ((k:Int)<n)) (((stN prog s0 k).halt)==0) false) rfl (λh1=>?_) (λh1=>?_)
 ·have hk1:k<cntN prog n.toNat s0:=Vi hkc (oH (af0 (vD h1).1)) (mT (vD h1).2);refine nU rfl<|mF<|rQ<|AA<|rQ<|nU rfl<|cRg<|oR 2 rfl<|rCi rfl (Yi prog (stN prog s0 k) ck hp omT (Si hs k))<|oR 3 rfl<|rAl 15 rfl rfl<|rAl 16 rfl rfl<|rSt rfl<|rSt rfl<|rE 19<|rQ ?_;refine nU rfl<|cRg<|oR 1 rfl<|rSt rfl<|rE 21<|rQ<|NI rfl 3 rfl rfl rfl<|oR 3 rfl<|rE 24 ?_;refine⟨(gE prog (stN prog s0 k)),_,⟨slotsF [(0,.v y),(1,.dp 35 0 (stL s0.pc s0.r s0.mem s0.halt)),(2,.dp 1 0 ([vI n])),(3,.dp 1 0 ([.sl 1 (prog.map dU) ck])),(6,vN k),(5,.ptr 0 0),(27,.v y),(28,.agg (stL ((gE prog (stN prog s0 k)).1).pc ((gE prog (stN prog s0 k)).1).r ((gE prog (stN prog s0 k)).1).mem ((gE prog (stN prog s0 k)).1).halt)),(29,.agg (spL ((gE prog (stN prog s0 k)).2)))],heapF [(0,.box (stL (stN prog s0 (k+1)).pc (stN prog s0 (k+1)).r (stN prog s0 (k+1)).mem (stN prog s0 (k+1)).halt))],1⟩,λs=>match s with|0=>0|s=>s,wOL _ wT wH rfl,rfl,rfl,rfl,rfl,rfl,rfl,(by rw[KW];exact Yg hk1),λyb1=>?_⟩;refine oR 1 rfl<|rE 26 ?_;refine Cz (v:= !yb1) rfl (λh2=>?_) (λh2=>?_)
  ·refine nU rfl<|FQ ?_;intro hs;rw[h2]at hs;cases hs
  refine nU rfl<|mF<|nU rfl<|cRg<|oR 1 rfl ?_;have b1:k+1<=10001:=aD hkB (aC 1);refine rW _ rfl (okI (bH b1 rfl))<|oR 1 rfl<|rE 29 ?_;refine⟨h2,k+1,λs=>s,wOL _ wT wH rfl,rfl,(KW prog s0 k).symm,hk1,(by show cntN prog n.toNat s0-(k+1)<cntN prog n.toNat s0-k;omega)⟩
 have hke:k=cntN prog n.toNat s0:=aaT hkc λq=>Sk h1 ⟨jP omT,sU q.2⟩;refine nU rfl<|Bh ?_;intro _;rw[hke]
def fI(m:ByteArray):St:=⟨0,λ_=>0,jB m,0⟩
def Jk(m:ByteArray):(fI m).ok:=⟨aE _,λ_=>aE _,by show(jB m).size<=256;rw[wE];exact(RA _)⟩
def aaV(prog:List Nat)(s0:St)(n:Int)(ck:Bool)(hp:∀x∈prog,x<=4294967295)(hl:prog.length<=1000)(hs:s0.ok):bI C0 59 [.sl 1 (prog.map dU) ck,stA s0,vI n] (.clo 115 [] [.dp 35 0 (stL s0.pc s0.r s0.mem s0.halt),.dp 1 0 [vI n],.dp 1 0 [.sl 1 (prog.map dU) ck]]):=by
 refine dIZ func59 rfl ?_;refine zV (.clo 115 [] [.ptr 1 0,.ptr 2 0,.ptr 0 0]) ?_;exact dK rfl tvT rfl rfl
def aaW(prog:List Nat)(m:ByteArray)(n:Int)(ck:Bool)(hp:∀x∈prog,x<=4294967295)(hl:prog.length<=1000):bI C0 20 [.sl 1 (prog.map dU) ck,.v (.string m),vI n] (.tup [stA (afP (fI m) (xsN prog (fI m) (cntN prog (min n 10000).toNat (fI m)))),.sl 9 (((xsN prog (fI m) (cntN prog (min n 10000).toNat (fI m))).map Prod.snd).map spL) false]):=by
 refine dc1 (bI.introR (C:=C1) (λd=>c1Ok.wd d) (λn=>c1Ok.at) func20 rfl rfl (by kernel_rfl) rfl ?_);refine uO<|tQ rfl<|cRg<|rAl 0 rfl rfl<|oR 1 rfl<|rE 2<|uO<|tQ rfl<|cRg<|oR 2 rfl<|rCi rfl (aeO _ m)<|rAl 5 rfl rfl<|rSt rfl<|rE 7<|uO<|tQ rfl ?_;refine cRg<|rAl 7 rfl rfl<|rE 8<|uO<|uO<|tQ rfl<|cRg<|oR 3 rfl<|rW _ rfl (okI (Qk n 10000))<|rCi rfl (aaV prog (fI m) (min n 10000) ck hp hl (Jk m))<|rE 13<|Ja ?_;refine Md (.mk _ (.refl _) ⟨⟨slotsF [(6,.ptr 0 0),(8,.ptr 1 0),(9,.ptr 2 0),(19,.clo 115 [] [.dp 35 0 (stL (fI m).pc (fI m).r (fI m).mem (fI m).halt),.dp 1 0 ([vI (min n 10000)]),.dp 1 0 ([.sl 1 (prog.map dU) ck])])],heapF [(0,.box (stL 0 (λ_=>0) (⟨#[]⟩:ByteArray) 0)),(1,.box (stL (fI m).pc (fI m).r (fI m).mem (fI m).halt)),(2,.box [.sl 0 ([]) true])],3⟩,λs=>match s with|0=>0|1=>5|2=>7|s=>s,wOL _ wT wH rfl,rfl,?_⟩);refine .mk (St×Sp) 115 [.dp 35 0 (stL (fI m).pc (fI m).r (fI m).mem (fI m).halt),.dp 1 0 ([vI (min n 10000)]),.dp 1 0 ([.sl 1 (prog.map dU) ck])] (λx:St×Sp=>[stA x.1,spA x.2]) aaS (xsN prog (fI m) (cntN prog (min n 10000).toNat (fI m))) (λ_=>True) 3 (λpre=>match pre with|[]=>heapF [(0,.box (stL 0 (λ_=>0) (⟨#[]⟩:ByteArray) 0)),(1,.box (stL (fI m).pc (fI m).r (fI m).mem (fI m).halt)),(2,.box [.sl 0 ([]) true])]|y_::l_=>heapF [(0,.box (stL 0 (λ_=>0) (⟨#[]⟩:ByteArray) 0)),(1,.box (stL (afP (fI m) (y_::l_)).pc (afP (fI m) (y_::l_)).r (afP (fI m) (y_::l_)).mem (afP (fI m) (y_::l_)).halt)),(2,.box [.osl 3 0 ((y_::l_).length) false]),(3,.arr (((y_::l_).map Prod.snd).map spL) 9)]) (λpre=>match pre with|[]=>3|_::_=>4) rfl rfl ⟨_,func115,rfl,rfl⟩ (aaU prog (fI m) (min n 10000) ck hp hl (Jk m) omT) (λx S w β=>BL (show Ju [stA x.1,spA x.2]=some _ from rfl)) (λ_=>rfl) rfl rfl (λpre=>by cases pre<;>rfl) (wOL (hp:=[]) (λs=>s) wT trivial rfl) ?_ ?_
 ·intro pre_ x hp_ hN_;rcases pre_ with _|⟨y_,l_⟩
  ·refine cSR<|rAl 3 rfl rfl<|rSt rfl<|rE 5<|cRg<|rAl 5 rfl rfl<|rSt rfl<|rE 7 ?_;refine⟨rfl,?_⟩;refine kO<|cSR<|oR 1 rfl<|rSt rfl<|rE 9<|cRg<|oR 2 rfl<|rV (.sl 9 ([[vU x.2.pc,vU x.2.next,vI x.2.rd,vU x.2.value,vU x.2.agZ,vI x.2.size,vB x.2.store,vI x.2.halt,vI x.2.agV]]) true) rfl<|rFx (x:=.osl 12 0 1 false) (h':=upd _ 12 (some (.arr (([x.2]).map spL) 9))) rfl rfl (Iw omT) (⟨rfl,by exact omT,by exact omT,trivial⟩)<|rSt rfl<|rE 14 ?_;exact⟨trivial,.mk _ (.refl _) ⟨λs=>match s with|3=>12|s=>s,rfl,wOL (l:=[]) (hp:=[(0,.box (stL 0 (λ_=>0) (⟨#[]⟩:ByteArray) 0)),(1,.box (stL (afP (fI m) (x::[])).pc (afP (fI m) (x::[])).r (afP (fI m) (x::[])).mem (afP (fI m) (x::[])).halt)),(2,.box [.osl 3 0 ((x::[]).length) false]),(3,.arr (((x::[]).map Prod.snd).map spL) 9)]) (λs=>match s with|3=>12|s=>s) trivial wH rfl⟩⟩
  have hlen:(y_::l_).length<=10000:=by have h1:=hp_.length_le;rw[afO,aU]at h1;have h2:=AB prog (min n 10000).toNat (fI m);omega
  have hlq:(y_::l_).length=l_.length+1:=rfl;refine cSR<|rAl 4 rfl rfl<|rSt rfl<|rE 6<|cRg<|rAl 6 rfl rfl<|rSt rfl<|rE 8 ?_;refine⟨rfl,?_⟩;refine kO<|cSR<|oR 1 rfl<|rSt rfl<|rE 10<|cRg<|oR 2 rfl<|rV (.sl 9 ([[vU x.2.pc,vU x.2.next,vI x.2.rd,vU x.2.value,vU x.2.agZ,vI x.2.size,vB x.2.store,vI x.2.halt,vI x.2.agV]]) true) rfl<|rFx (x:=.osl 13 0 ((y_::l_).length+1) false) (h':=upd (upd _ 3 none) 13 (some (.arr ((((y_::l_).map Prod.snd)++([x.2])).map spL) 9))) rfl rfl (iP spL ((y_::l_).map Prod.snd) ([x.2]) omT omT) (⟨by exact omT,by exact omT,trivial⟩)<|rSt rfl<|rE 15 ?_;exact⟨trivial,.mk _ (.refl _) ⟨λs=>match s with|3=>13|s=>s,rfl,wOL (l:=[]) (hp:=[(0,.box (stL 0 (λ_=>0) (⟨#[]⟩:ByteArray) 0)),(1,.box (stL (afP (fI m) (y_::(l_++[x]))).pc (afP (fI m) (y_::(l_++[x]))).r (afP (fI m) (y_::(l_++[x]))).mem (afP (fI m) (y_::(l_++[x]))).halt)),(2,.box [.osl 3 0 ((y_::(l_++[x])).length) false]),(3,.arr (((y_::(l_++[x])).map Prod.snd).map spL) 9)]) (λs=>match s with|3=>13|s=>s) trivial ⟨⟨rfl,rfl,rfl⟩,⟨rfl,(af2 (λz:St=>some (Blk.box (stL z.pc z.r z.mem z.halt))) (NT (fI m) (y_::l_) x).symm),rfl⟩,⟨rfl,(af2 (λz:Nat=>some (Blk.box [AV.osl 13 0 z false])) (show(y_::l_).length+1=(y_::(l_++[x])).length by simp)),rfl⟩,⟨rfl,(af2 (λz:List Sp=>some (Blk.arr (z.map spL) 9)) (show(y_::l_).map Prod.snd++[x.2]=(y_::(l_++[x])).map Prod.snd by simp)),rfl⟩,trivial⟩ rfl⟩⟩
 intro hN D;rcases hxs:xsN prog (fI m) (cntN prog (min n 10000).toNat (fI m))with _|⟨y_,l_⟩
 ·refine uO<|tQ rfl<|pO rfl rfl<|oR 2 rfl<|rSt rfl<|oR 1 rfl<|rE 7<|And.intro (by kernel_rfl)<|tQ rfl<|FQ ?_;exact⟨_,rfl,trivial,rfl,Sub.tup ⟨Sub.refl _,oM 9 false,trivial⟩⟩
 have hlen:(y_::l_).length<=10000:=by rw[<-hxs,afO];have h2:=AB prog (min n 10000).toNat (fI m);omega
 have hlq:(y_::l_).length=l_.length+1:=rfl;refine uO<|tQ rfl<|pO rfl rfl<|oR 2 rfl<|rSt rfl<|oR 1 rfl<|rE 8<|And.intro (by kernel_rfl)<|tQ rfl<|FQ ?_;exact⟨_,rfl,⟨tvT,(by show 0+((y_::l_).length)<=(((y_::l_).map Prod.snd).map spL).length;exact omT),trivial⟩,rfl,Sub.tup ⟨Sub.refl _,(by show Sub (.sl 9 (List.take (y_::l_).length (List.drop 0 (((y_::l_).map Prod.snd).map spL))) false) (.sl 9 (((y_::l_).map Prod.snd).map spL) false);rw[bS,aN (by simp)];exact Sub.refl _),trivial⟩⟩
structure EvnT where
 pc:Nat
 agZ:Nat
 size:Int
 agV:Int
 loaded:Nat
 halt:Int
abbrev evL(e:EvnT):List AV:=[.v (.int .u32 (e.pc:Int)),.v (.int .u32 (e.agZ:Int)),.v (.int .i64 e.size),.v (.int .i64 e.agV),.v (.int .u32 (e.loaded:Int)),.v (.int .i64 e.halt)]
def evP(ld:Bool)(x:Sp):EvnT:=⟨x.pc,x.agZ,x.size,x.agV,if ld=true∧0<x.size∧x.store=false then x.value else 0,x.halt⟩
def Ye(a b:EvnT):Bool:=((a.pc:Int)==b.pc)&&(((a.agZ:Int)==b.agZ)&&((a.size==b.size)&&((a.agV==b.agV)&&(((a.loaded:Int)==b.loaded)&&((a.halt==b.halt)&&true)))))
def Ve(a b:EvnT):Ye a b=true↔a=b:=by
 obtain⟨a1,a2,a3,a4,a5,a6⟩:=a;obtain⟨b1,b2,b3,b4,b5,b6⟩:=b;simp[Ye];omega
def sameP:List EvnT->List EvnT->Nat
 |a::l,b::m=>if Ye a b=true then sameP l m+1 else 0
 |_,_=>0
theorem Di:∀l,sameP l l=l.length
 |[]=>rfl
 |a::l=>by simp only[sameP,(Ve a a).2 rfl,fD,Di l,bN]
abbrev ev0:EvnT:=⟨0,0,0,0,0,0⟩
def Wa{ld:Bool}{x:Sp}(h:cE (cE ld (decide (x.size>0)) false) (!x.store) false=true):(⟨x.pc,x.agZ,x.size,x.agV,x.value,x.halt⟩:EvnT)=evP ld x:=by
 have:ld=true∧0<x.size∧x.store=false:=by
  cases ld<;>cases hs:x.store<;>by_cases hz:0<x.size<;>simp[cE,hs,hz]at h⊢
 unfold evP;rw[af1 this]
def aaP{ld:Bool}{x:Sp}(h:cE (cE ld (decide (x.size>0)) false) (!x.store) false=false):(⟨x.pc,x.agZ,x.size,x.agV,0,x.halt⟩:EvnT)=evP ld x:=by
 have: ¬(ld=true∧0<x.size∧x.store=false):=by
  rintro⟨rfl,h2,h3⟩;simp[cE,h2,h3]at h
 unfold evP;rw[dZ this]
def Jh{l:List Sp}{ld:Bool}{k:Nat}{x:Sp}{e:EvnT}(hx:l[k]?=some x)(he:e=evP ld x):(l.take k).map (evP ld)++[e]=(l.take (k+1)).map (evP ld):=by
 rw[bW,hx,he];simp
def Sa(l:List EvnT)(k:Nat):∃y,k<l.length->l[k]?=some y:=by
 cases h:l[k]? with
 |none=>exact⟨ev0,λhk=>by rw[aA hk]at h;cases h⟩
 |some y=>exact⟨y,λ_=>rfl⟩
def Sb{a b:List EvnT}{k:Nat}{x y:EvnT}(hx:a[k]?=some x)(hy:b[k]?=some y)(he:Ye x y=true)(h:sameP a b=k+sameP (a.drop k) (b.drop k)):sameP a b=k+1+sameP (a.drop (k+1)) (b.drop (k+1)):=by
 obtain⟨h1,h1'⟩:=Em.1 hx;obtain⟨h2,h2'⟩:=Em.1 hy;rw[h,bF h1,bF h2,h1',h2'];show k+(if Ye x y=true then sameP _ _+1 else 0)=_;rw[af1 he];omega
def Sc{a b:List EvnT}{k:Nat}{x y:EvnT}(hx:k<a.length->a[k]?=some x)(hy:k<b.length->b[k]?=some y)(h: ¬((k<a.length∧k<b.length)∧Ye x y=true)):sameP (a.drop k) (b.drop k)=0:=by
 by_cases h1:k<a.length
 ·by_cases h2:k<b.length
  ·obtain⟨q1,q2⟩:=Em.1 (hx h1);obtain⟨q3,q4⟩:=Em.1 (hy h2);rw[bF h1,bF h2,q2,q4];exact dZ λq=>h ⟨⟨h1,h2⟩,q⟩
  rw[cB (l:=b) omT];cases a.drop k<;>rfl
 rw[cB (l:=a) omT];cases b.drop k<;>rfl
def CJ(prog:List Nat)(m:ByteArray)(n:Int)(ld:Bool):List EvnT:=((xsN prog (fI m) (cntN prog (min n 10000).toNat (fI m))).map Prod.snd).map (evP ld)
def Mk{x:Int}(h1: -9223372036854775808<=x)(h2:x<9223372036854775808):wrap64 x=x:=by unfold wrap64;omega
def NS(n lo hi:Int)(h:lo<=hi):lo<=bV n lo hi∧bV n lo hi<=hi:=by unfold bV;(repeat' split)<;>omega
def dOf(l:List Sp)(ld:Bool)(hl:l.length<=10000):bI C0 7 [.sl 9 (l.map spL) false,vB ld] (.sl 6 ((l.map (evP ld)).map evL) false):=by
 refine dIZ func7 rfl ?_;refine rW _ rfl (cD spL l)<|zF (x:=.osl 3 0 0 false) (h':=upd _ 3 (some (.arr (([]:List EvnT).map evL) 6))) (rfl) (⟨dT,FG.2 omT,by show((l.length:Nat):Int)<=1000000;omega⟩) ?_;refine zW _ (cD spL l)<|zLo (κ:=Nat) (λk=>⟨slotsF [(1,vB ld),(4,.sl 0 ([]) true),(12,.sl 9 (l.map spL) false),(13,vN l.length),(14,vN k),(5,.osl 8 0 (((l.take k).map (evP ld)).length) false)],heapF [(8,.arr (((l.take k).map (evP ld)).map evL) 6)],9⟩) (λk=>k<=l.length) (λk=>l.length-k) 0 (λi=>match i with|8=>3|i=>i) (wOL (λi=>match i with|8=>3|i=>i) ⟨⟨rfl,rfl⟩,⟨rfl,rfl⟩,⟨rfl,rfl⟩,⟨rfl,rfl⟩,⟨rfl,rfl⟩,⟨(show AV.osl 3 0 (0) false=AV.osl 3 0 ((l.take 0).map (evP ld)).length false from by rw[<-(show([]:List EvnT)=(l.take 0).map (evP ld)from rfl)];first|done|rfl),rfl⟩,trivial⟩ ⟨⟨rfl,(af2 (λz:List EvnT=>some (Blk.arr (z.map evL) 6)) (show([]:List EvnT)=(l.take 0).map (evP ld)from rfl)),rfl⟩,trivial⟩ rfl) (aE _) ?_;intro k hk;have hk_:=hk;have hnn:k<=l.length:=hk_;have hkB:k<=10000:=oT;have habk:((l.take k).map (evP ld)).length<=10000:=(by rw[aH,aM];omega);refine zWB (okB (ltN _ _)) (λh1=>?_) (λh1=>?_)
 ·have h1p:=af0 h1;obtain⟨x,hx⟩:∃y_,l[k]?=some y_:=⟨_,aA omT⟩;refine zX (spL x) (.dp 9 0 (spL x)) rfl (iH hx)<|zV (.agg [vU x.pc,vU x.agZ,vI x.size,vI x.agV,.v (.int .u32 0),vI x.halt]) ?_;refine gS rfl id<|gBS (x:=vB (decide (x.size>0))) rfl id rfl<|zN rfl (λh=>h)<|gS rfl id<|gS rfl id<|zN rfl (λh=>h) ?_;refine zB rfl (λh2=>?_) (λh2=>?_)
  ·refine rV (.sl 6 ([[vU x.pc,vU x.agZ,vI x.size,vI x.agV,vU x.value,vI x.halt]]) true) rfl<|zF (x:=.osl 45 0 (((l.take k).map (evP ld)).length+1) false) (h':=upd (upd _ 8 none) 45 (some (.arr ((((l.take k).map (evP ld))++([(⟨x.pc,x.agZ,x.size,x.agV,x.value,x.halt⟩:EvnT)])).map evL) 6))) (iP evL ((l.take k).map (evP ld)) ([(⟨x.pc,x.agZ,x.size,x.agV,x.value,x.halt⟩:EvnT)]) omT omT) (⟨by exact omT,by exact omT,trivial⟩) ?_;have b1:k+1<=10001:=aD hkB (aC 1);refine zW _ (okI (bH b1 rfl)) ?_;refine⟨k+1,λi=>match i with|8=>45|i=>i,wOL _ ⟨⟨rfl,rfl⟩,⟨rfl,rfl⟩,⟨rfl,rfl⟩,⟨rfl,rfl⟩,⟨rfl,rfl⟩,⟨(show AV.osl 45 0 (((l.take k).map (evP ld)).length+1) false=AV.osl 45 0 ((l.take (k+1)).map (evP ld)).length false from by rw[<-(show((l.take k).map (evP ld))++([(⟨x.pc,x.agZ,x.size,x.agV,x.value,x.halt⟩:EvnT)])=(l.take (k+1)).map (evP ld)from Jh hx (Wa h2))];first|done|rfl|(congr 1<;>(first|exact omT|simp))),rfl⟩,trivial⟩ ⟨⟨rfl,(af2 (λz:List EvnT=>some (Blk.arr (z.map evL) 6)) (show((l.take k).map (evP ld))++([(⟨x.pc,x.agZ,x.size,x.agV,x.value,x.halt⟩:EvnT)])=(l.take (k+1)).map (evP ld)from Jh hx (Wa h2))),rfl⟩,trivial⟩ rfl,oT,by show l.length-(k+1)<l.length-k;omega⟩
  refine rV (.sl 6 ([[vU x.pc,vU x.agZ,vI x.size,vI x.agV,.v (.int .u32 0),vI x.halt]]) true) rfl<|zF (x:=.osl 41 0 (((l.take k).map (evP ld)).length+1) false) (h':=upd (upd _ 8 none) 41 (some (.arr ((((l.take k).map (evP ld))++([(⟨x.pc,x.agZ,x.size,x.agV,0,x.halt⟩:EvnT)])).map evL) 6))) (iP evL ((l.take k).map (evP ld)) ([(⟨x.pc,x.agZ,x.size,x.agV,0,x.halt⟩:EvnT)]) omT omT) (⟨by exact omT,by exact omT,trivial⟩) ?_;have b2:k+1<=10001:=aD hkB (aC 1);refine zW _ (okI (bH b2 rfl)) ?_;refine⟨k+1,λi=>match i with|8=>41|i=>i,wOL _ ⟨⟨rfl,rfl⟩,⟨rfl,rfl⟩,⟨rfl,rfl⟩,⟨rfl,rfl⟩,⟨rfl,rfl⟩,⟨(show AV.osl 41 0 (((l.take k).map (evP ld)).length+1) false=AV.osl 41 0 ((l.take (k+1)).map (evP ld)).length false from by rw[<-(show((l.take k).map (evP ld))++([(⟨x.pc,x.agZ,x.size,x.agV,0,x.halt⟩:EvnT)])=(l.take (k+1)).map (evP ld)from Jh hx (aaP h2))];first|done|rfl|(congr 1<;>(first|exact omT|simp))),rfl⟩,trivial⟩ ⟨⟨rfl,(af2 (λz:List EvnT=>some (Blk.arr (z.map evL) 6)) (show((l.take k).map (evP ld))++([(⟨x.pc,x.agZ,x.size,x.agV,0,x.halt⟩:EvnT)])=(l.take (k+1)).map (evP ld)from Jh hx (aaP h2))),rfl⟩,trivial⟩ rfl,oT,by show l.length-(k+1)<l.length-k;omega⟩
 have h1p:=aF h1;have hke:k=l.length:=oT;refine dK rfl (by show 0+(((l.take k).map (evP ld)).length)<=(((l.take k).map (evP ld)).map evL).length;exact omT) rfl ?_;show AV.sl 6 (List.take ((l.take k).map (evP ld)).length (List.drop 0 (((l.take k).map (evP ld)).map evL))) false=_;rw[jW evL _ (aC _),hke,cH]
def Yf{a b:Bool}(h:a=true)(k:b=true):cE a b false=true:=by rw[h,k];rfl
def aaQ(a b:List EvnT)(ha:a.length<=10000)(hb:b.length<=10000):bI C0 10 [.sl 6 (a.map evL) false,.sl 6 (b.map evL) false] (vN (sameP a b)):=by
 refine dIZ func10 rfl ?_;refine zLo (κ:=Nat) (λk=>⟨slotsF [(0,.sl 6 (a.map evL) false),(1,.sl 6 (b.map evL) false),(5,vN k)],heapF [],2⟩) (λk=>k<=a.length∧k<=b.length∧sameP a b=k+sameP (a.drop k) (b.drop k)) (λk=>a.length-k) 0 (λs=>s) (wOL (λs=>s) wT trivial rfl) (⟨aE _,aE _,(bJ _).symm⟩) ?_;intro k hk;have hkB:k<=10000:=oT;obtain⟨x1,hx1⟩:=Sa a k;obtain⟨x2,hx2⟩:=Sa b k;refine cRg<|oR 2 rfl<|rW _ rfl (cD evL a)<|rW _ rfl (okB (ltN _ _))<|oR 1 rfl<|gN rfl<|gN rfl<|gBS (x:=vN b.length) rfl id (cD evL b)<|gBS (x:=vB (decide (k<b.length))) rfl hsT (okB (ltN _ _))<|bO rfl rfl rfl (λh=>h)<|oR 1 rfl<|gN rfl<|gN rfl<|DK (evL x1) (x:=.dp 6 0 (evL x1)) (g:=cE (decide (k<a.length)) (decide (k<b.length)) false) rfl rfl rfl rfl hsT rfl rfl (λhg=>⟨aG _,iH (hx1 (af0 (vD hg).1))⟩) rfl ?_;refine gS rfl id<|gN rfl<|gN rfl<|DK (evL x2) (x:=.dp 6 0 (evL x2)) (g:=cE (decide (k<a.length)) (decide (k<b.length)) false) rfl rfl rfl rfl hsT rfl rfl (λhg=>⟨aG _,iH (hx2 (af0 (vD hg).2))⟩) rfl<|gS rfl id<|gBS (x:=vB (Ye x1 x2)) rfl hsT rfl<|bO rfl rfl rfl (λh=>h)<|rE 23 ?_;refine qXC 0 rfl<|zB rfl (λh1=>?_) (λh1=>?_)
 ·skip
  have b1:k+1<=10001:=aD hkB (aC 1);refine zW _ (okI (bH b1 rfl)) ?_;refine⟨k+1,λs=>s,wOL _ wT trivial rfl,by have q:=vD h1;have q2:=vD q.1;have q3:=af0 q2.1;have q4:=af0 q2.2;exact⟨oT,oT,Sb (hx1 q3) (hx2 q4) q.2 hk.2.2⟩,by have q:=vD h1;have q2:=vD q.1;have q3:=af0 q2.1;have q4:=af0 q2.2;show a.length-(k+1)<a.length-k;omega⟩
 exact fT rfl (af2 (λn:Nat=>AV.v (.int .i64 (n:Int))) (by rw[hk.2.2,Sc hx1 hx2 (λq=>Sk h1 ⟨Yf (jP q.1.1) (jP q.1.2),q.2⟩)];rfl))
def aaR(prog:List Nat)(m:ByteArray)(n:Int)(ld:Bool)(hp:∀x∈prog,x<=4294967295)(hl:prog.length<=1000):bI C0 8 [.sl 1 (prog.map dU) false,.v (.string m),vI n,vB ld] (.sl 6 ((CJ prog m n ld).map evL) false):=by
 refine dIZ func8 rfl ?_;have hlx:((xsN prog (fI m) (cntN prog (min n 10000).toNat (fI m))).map Prod.snd).length<=10000:=by rw[aH,afO];have:=AB prog (min n 10000).toNat (fI m);omega
 refine zC (aaW prog m n false hp hl) ?_;refine zC (dOf ((xsN prog (fI m) (cntN prog (min n 10000).toNat (fI m))).map Prod.snd) ld hlx) ?_;exact fT rfl rfl
def ajQ{x:Int}(h1: -9223372036854775808<=x)(h2:x<9223372036854775808):wrap64 x=x:=by unfold wrap64;omega
def ahX(q:List Req)(k:Int)(agY:Nat)(left:Int)(data:ByteArray):yH (Bi q k agY left data)=yH q+if k=4 then 0 else 1:=by
 unfold yH Bi;rw[mL,aU];by_cases h:k=4<;>simp[h]
def ajR(q:List Req):yH (eH q).1<=yH q:=by
 cases q with
 |nil=>exact aC _
 |cons x r=>
  unfold eH;dsimp only;split
  ·unfold yH;simp only[List.filter_cons];by_cases h:x.kind=4<;>simp[h]
  ·unfold yH;simp only[List.filter_cons];by_cases h:x.kind=4<;>simp[h]
structure Bd(f:Cf)(a:Nat)(c:Co):Prop where
 agL:c.agL=f
 agI:(c.agI.length:Int)<=f.agI
 fet:(c.agH.length:Int)<=f.queue
 sto:(c.agF.length:Int)<=f.agF
 rd:(yH c.agS:Int)<=f.agP
 ret:c.agG.length=a
def bring_bus(c:Co)(agY:Nat):((oK c agY).agS=c.agS∧(oK c agY).asked=c.asked)∨∃l d,(oK c agY).agS=Bi c.agS 4 l (lX c.agL c.asked) d∧(oK c agY).asked=wrap64 (c.asked+1):=by
 unfold oK;rcases hB:iQ c.data c.agS c.mem agY (lX c.agL c.asked)with ⟨d,q,asked⟩;show(q=c.agS∧(if asked=true then wrap64 (c.asked+1)else c.asked)=c.asked)∨∃l d,q=Bi c.agS 4 l (lX c.agL c.asked) d∧(if asked=true then wrap64 (c.asked+1)else c.asked)=wrap64 (c.asked+1);unfold iQ at hB;split at hB
 ·cases hB;exact .inl ⟨rfl,rfl⟩
 split at hB
 ·cases hB;exact .inl ⟨rfl,rfl⟩
 split at hB
 split at hB
 ·cases hB;exact .inr ⟨_,_,rfl,rfl⟩
 cases hB;exact .inl ⟨rfl,rfl⟩
def ai5(c:Co)(agY:Nat):yH (oK c agY).agS<=yH c.agS:=by
 rcases bring_bus c agY with ⟨h, -⟩|⟨l,d,h, -⟩
 ·rw[h];exact aC _
 rw[h,ahX,af1 rfl];exact aC _
def ajS(c:Co)(agY:Nat):(oK c agY).agL=c.agL∧(oK c agY).agI=c.agI∧(oK c agY).agH=c.agH∧(oK c agY).agF=c.agF∧(oK c agY).agG=c.agG:=by
 rw[<-uY];exact⟨rfl,rfl,rfl,rfl,rfl⟩
theorem Bd.bring{f:Cf}{a:Nat}{c:Co}(h:Bd f a c)(agY:Nat):Bd f a (oK c agY):=by
 obtain⟨h1,h2,h3,h4,h5⟩:=ajS c agY;have:=ai5 c agY;exact⟨h1.trans h.agL,h2 ▸ h.agI,h3 ▸ h.fet,h4 ▸ h.sto,oH h.rd,h5 ▸ h.ret⟩
def amR{c:Co}{b:Bool}(h:tA c b=true):(yH c.agS:Int)<c.agL.agP:=by
 unfold tA at h;split at h
 ·exact af0 h
 have:=af0 h;omega
theorem Bd.ask{f:Cf}{a:Nat}{c:Co}(h:Bd f a c){k:Int}{b:Bool}(hr:tA c b=true∨k=4)(agY:Nat)(data:ByteArray):Bd f a (jE c k agY data):=by
 refine⟨h.agL,h.agI,h.fet,h.sto,?_,h.ret⟩;show((yH (Bi c.agS k agY _ data):Nat):Int)<=_;rw[ahX];have h1:=h.rd;rcases hr with hr|hr
 ·have:=amR hr;rw[h.agL]at this;split<;>omega
 rw[af1 hr];omega
def alV{f:Cf}{a:Nat}{c:Co}(h:Bd f a c):Bd f a (lM c):=by
 have hb:Bd f a (jJ c):=⟨h.agL,h.agI,h.fet,h.sto,by have:=ajR c.agS;have:=h.rd;show((yH (eH c.agS).1:Nat):Int)<=_;omega,h.ret⟩;rw[kC];split
 ·unfold ID
  repeat' split
  ·exact⟨hb.agL,by show((List.map _ _).length:Int)<=_;rw[aH];exact hb.agI,hb.fet,hb.sto,hb.rd,hb.ret⟩
  ·exact⟨hb.agL,hb.agI,hb.fet,hb.sto,hb.rd,hb.ret⟩
  ·exact hb.bring _
  ·exact⟨hb.agL,hb.agI,hb.fet,hb.sto,hb.rd,hb.ret⟩
  exact hb
 exact hb
def amS(l:List Ent)(i:Nat):(DY l i).length<=l.length:=by
 unfold DY;split
 ·rename_i e he;have:=(Em.1 he).1;rw[aU,aM];simp;omega
 exact aC _
def alW{f:Cf}{a:Nat}{c:Co}(h:Bd f a c)(hq:0<=f.queue):Bd f a (kK c):=by
 have hl:=nN c;unfold kK;split
 ·exact h
 split
 ·rename_i i _;exact⟨h.agL,by have:=amS (afD c) i;have:=h.agI;show((DY (afD c) i).length:Int)<=_;omega,hq,h.sto,h.rd,h.ret⟩
 exact⟨h.agL,by have:=h.agI;show((afD c).length:Int)<=_;omega,h.fet,h.sto,h.rd,h.ret⟩
def al7{f:Cf}{a:Nat}{c:Co}(h:Bd f a c)(s:Sp)(hs: ¬(s.store=true∧(c.agF.length:Int)>=c.agL.agF)):Bd f (a+1) (fZ c s):=by
 refine⟨h.agL,h.agI,h.fet,?_,h.rd,by show(c.agG++[s]).length=_;rw[aU,h.ret];rfl⟩;show(((match iJ s with|some p=>c.agF++[p]|none=>c.agF).length:Nat):Int)<=_;split
 ·rename_i p hp;have hst:s.store=true:=by
   unfold iJ at hp;split at hp
   ·cases hp
   ·rename_i q;cases hb:s.store with
    |true=>rfl
    |false=>exact absurd (.inl hb) q
  have h1: ¬(c.agF.length:Int)>=c.agL.agF:=λq=>hs ⟨hst,q⟩;rw[h.agL]at h1;rw[aU];show((c.agF.length+1:Nat):Int)<=_;omega
 ·exact h.sto
def akT{f:Cf}{a:Nat}{c:Co}(h:Bd f a c)(e:Ent)(hs: ¬((cA e).store=true∧(c.agF.length:Int)>=c.agL.agF)):Bd f (a+1) (Bm c e):=by
 have k:=al7 h (cA e) hs;exact⟨k.agL,by have:=h.agI;show((c.agI.drop 1).length:Int)<=_;rw[bD];omega,k.fet,k.sto,k.rd,k.ret⟩
def akU{f:Cf}{a:Nat}{c:Co}(h:Bd f a c)(e:Ent)(hs: ¬((cA e).store=true∧(c.agF.length:Int)>=c.agL.agF)):Bd f (a+1) (MP c e):=by
 have k:=(al7 h (cA e) hs).bring (cA e).agZ;rw[<-uY]at k;exact⟨k.agL,by have:=h.agI;show((c.agI.drop 1).length:Int)<=_;rw[bD];omega,k.fet,k.sto,k.rd,k.ret⟩
theorem aoX{f:Cf}(h0:0<=f.agI∧0<=f.queue):∀(n:Nat) (c:Co) (a:Nat),Bd f a c->∃b,a<=b∧b<=a+n∧Bd f b (retiresN n c)
 |0,c,a,h=>⟨a,aC _,aC _,h⟩
 | n + 1,c,a,h=>by
  by_cases hz:c.halt≠0∨c.agI.length=0
  ·rw[mG hz];exact⟨a,aC _,oT,h⟩
  ·have hx:c.agI[0]?=some (c.agI[0]'omT):=aA omT;rw[iX omT (λq=>hz (.inl q)) hx];split
   ·exact⟨a,aC _,oT,h⟩
   ·split
    ·exact⟨a+1,oT,oT,⟨h.agL,h0.1,h0.2,h.sto,h.rd,by show(c.agG++[_]).length=_;rw[aU,h.ret];rfl⟩⟩
    ·split
     ·exact⟨a,aC _,oT,h⟩
     ·rename_i hs;rw[kB];by_cases hk:kindOf (c.agI[0]'omT).i.op=3
      ·rw[Ke hk];obtain⟨b,h1,h2,h3⟩:=aoX h0 n _ _ (akU h _ hs);exact⟨b,oT,oT,h3⟩
      ·rw[An hk];obtain⟨b,h1,h2,h3⟩:=aoX h0 n _ _ (akT h _ hs);exact⟨b,oT,oT,h3⟩
theorem Bd.setE{f:Cf}{a:Nat}{c:Co}(h:Bd f a c)(i:Nat)(e:Ent):Bd f a (setE c i e):=⟨h.agL,by show((c.agI.set i e).length:Int)<=_;rw[cC];exact h.agI,h.fet,h.sto,h.rd,h.ret⟩
def amT{f:Cf}{a:Nat}{c:Co}(h:Bd f a c)(i:Nat):Bd f a (oE c i):=by
 unfold oE
 cases c.agI[i]? with
 |none=>exact h
 |some e=>
  dsimp only
  repeat' split
  all_goals first|exact h|exact h.setE _ _|(rename_i q;exact(h.ask (.inl q.1) _ _).setE _ _)
def alX{f:Cf}{a:Nat}{c:Co}(h:Bd f a c)(i:Nat):Bd f a (iS c i):=by
 unfold iS
 cases c.agI[i]? with
 |none=>exact h
 | some e=>
  dsimp only;split
  ·exact h.setE _ _
  ·split
   ·exact amT (h.setE _ _) i
   ·exact h.setE _ _
theorem aiK{f:Cf}{a:Nat}:∀(p:List Nat) (c:Co),Bd f a c->Bd f a (p.foldl iS c)
 |[],_,h=>h
 |i::p,_,h=>aiK p _ (alX h i)
def akV{f:Cf}{a:Nat}{c:Co}(h:Bd f a c):Bd f a (gY c):=by
 unfold gY;split
 ·exact h
 exact aiK _ c h
theorem ahY{f:Cf}{a:Nat}:∀(n:Nat) (c:Co),Bd f a c->Bd f a (entersN n c)
 |0,_,h=>h
 | n+1,c,h=>by
  by_cases h0:(c.agI.length:Int)>=c.agL.agI∨c.agH.length=0
  ·rw[Ap h0];exact h
  ·have hx:c.agH[0]?=some (c.agH[0]'omT):=aA omT;have e:=CU (n:=n+1) (k:=0) omT (λq=>h0 (.inl q)) hx;rw[(oT:n+1-(0+1)=n),(oT:n+1-0=n+1)]at e;rw[<-e];have hc:=h.agL;refine ahY n _ ⟨h.agL,?_,?_,h.sto,h.rd,h.ret⟩
   ·show((c.agI++[_]).length:Int)<=_;rw[aU];show((c.agI.length+1:Nat):Int)<=_;rw[hc]at h0;omega
   ·have:=h.fet;show((c.agH.drop 1).length:Int)<=_;rw[bD];omega
def akW{f:Cf}{a:Nat}{c:Co}(h:Bd f a c):Bd f a (lP c):=by
 unfold lP;split
 ·exact h
 exact ahY _ c h
theorem ahI{f:Cf}{a:Nat}:∀(n:Nat) (c:Co),Bd f a c->Bd f a (fetchesN n c)
 |0,_,h=>h
 | n +1,c,h=>by
  by_cases h0:c.stop=true∨(c.agH.length:Int)>=c.agL.queue
  ·rw[yZ h0];exact h
  ·have hl:((c.agH.length+1:Nat):Int)<=f.queue:=by have:=h.agL;rw[this]at h0;omega
   by_cases hf:(fetchP c.prog c.agM).isSome=false
   ·rw[Aq omT h0 hf];exact⟨h.agL,h.agI,by show((c.agH++[_]).length:Int)<=_;rw[aU];exact hl,h.sto,h.rd,h.ret⟩
   ·by_cases hw:(bK c.agO (lineOf c.agM)).2.isSome=false
    ·rw[uD omT h0 hf hw];split
     ·rename_i q;exact h.ask (.inl q.2) _ _
     ·exact h
    ·have e:=BC (n:=n+1) (k:=0) omT h0 hf hw;rw[(oT:n+1-(0+1)=n),(oT:n+1-0=n+1)]at e;rw[<-e];refine ahI n _ ?_;have hb:∀w,(dM (lJ c) w).1.agL=c.agL∧(dM (lJ c) w).1.agI=c.agI∧(dM (lJ c) w).1.agH=c.agH∧(dM (lJ c) w).1.agF=c.agF∧(dM (lJ c) w).1.agS=c.agS∧(dM (lJ c) w).1.agG=c.agG:=by
      intro w;unfold dM
      repeat' split
      all_goals exact⟨rfl,rfl,rfl,rfl,rfl,rfl⟩
     obtain⟨b1,b2,b3,b4,b5,b6⟩:=hb (fetchW c.prog c.agM);refine⟨b1.trans h.agL,?_,?_,?_,?_,?_⟩
     ·show(((dM (lJ c) (fetchW c.prog c.agM)).1.agI.length:Nat):Int)<=_;rw[b2];exact h.agI
     ·show((((dM (lJ c) (fetchW c.prog c.agM)).1.agH++[_]).length:Nat):Int)<=_;rw[b3,aU];exact hl
     ·show(((dM (lJ c) (fetchW c.prog c.agM)).1.agF.length:Nat):Int)<=_;rw[b4];exact h.sto
     ·show((yH (dM (lJ c) (fetchW c.prog c.agM)).1.agS:Nat):Int)<=_;rw[b5];exact h.rd
     ·show(dM (lJ c) (fetchW c.prog c.agM)).1.agG.length=_;rw[b6];exact h.ret
def ajT{f:Cf}{a:Nat}{c:Co}(h:Bd f a c):Bd f a (eN c):=by
 unfold eN;split
 ·exact h
 exact ahI _ c h
def akX{f:Cf}{a:Nat}{c:Co}(h:Bd f a c):Bd f a (tY c):=by
 have h1:Bd f a (aW c):=by
  refine⟨h.agL,h.agI,h.fet,?_,h.rd,h.ret⟩;have:=h.sto;show(((sL c.agF c.data).1.length:Nat):Int)<=_;unfold sL
  repeat' split
  all_goals first|omega|(rename_i hs _;rw[hs]at this;simp at this⊢;omega)|(rename_i hs;simp[hs]at this⊢;omega)|(simp at this⊢;omega)
 have hA:∀{d:Co},Bd f a d->Bd f a (tW d):=λ{d} k=>by
  unfold tW;split
  ·exact k
  split
  ·rename_i q;exact k.ask (.inl q.2) _ _
  exact k
 have hB:∀{d:Co},Bd f a d->Bd f a (nP d):=λ{d} k=>by
  unfold nP;split
  ·exact k
  unfold pE;split
  ·split
   ·rename_i w _ _;have q:=k.ask (k:=4) (b:=true) (.inr rfl) w.agY w.data;exact⟨q.agL,q.agI,q.fet,q.sto,q.rd,q.ret⟩
   exact k
  exact k
 rw[mO];split
 ·exact hB (hA h1)
 exact hB h1
def amU{f:Cf}(h0:0<=f.agI∧0<=f.queue){c:Co}{a:Nat}(h:Bd f a c):∃b,a<=b∧b<=a+f.agN.toNat∧Bd f b (uG c):=by
 unfold uG;split
 ·have hs:Bd f a (s0 c):=⟨h.agL,h.agI,h.fet,h.sto,h.rd,h.ret⟩;have hw:=alW (alV hs) h0.2;obtain⟨b,h1,h2,h3⟩:=aoX h0 (kK (lM (s0 c))).agL.agN.toNat _ a hw;rw[hw.agL]at h2;exact⟨b,h1,h2,akX (ajT (akW (akV h3)))⟩
 exact⟨a,aC _,oT,h⟩
def cT(e:Ent):xJ e=true↔((0<=e.is∧e.is<=3)∧(e.is=1->0<e.left)∧(e.is≠1->e.left=0)∧(e.is=2->kindOf e.i.op=3∧e.known=true)∧(e.halt≠0->e.is=3∨(e.is=1∧kindOf e.i.op=5∧e.halt=3))∧(Xq e.i=true∨e.halt=1∨e.halt=2)):=by
 unfold xJ;by_cases h1:e.is<0∨e.is>3
 ·rw[af1 h1];exact⟨λh=>(by cases h),λh=>by omega⟩
 rw[dZ h1];by_cases h2:(e.is=1∧e.left<=0)∨(e.is≠1∧e.left≠0)
 ·rw[af1 h2];refine⟨λh=>(by cases h),λ⟨_,a,b,_⟩=>?_⟩;rcases h2 with ⟨x,y⟩|⟨x,y⟩
  ·have:=a x;omega
  ·exact absurd (b x) y
 rw[dZ h2];by_cases h3:e.is=2∧(kindOf e.i.op≠3∨e.known=false)
 ·rw[af1 h3];refine⟨λh=>(by cases h),λ⟨_,_,_,a,_⟩=>?_⟩;have:=a h3.1;rcases h3.2 with x|x
  ·exact absurd this.1 x
  ·rw[this.2]at x;cases x
 rw[dZ h3];by_cases h4:e.halt≠0∧e.is≠3∧ ¬(e.is=1∧kindOf e.i.op=5∧e.halt=3)
 ·rw[af1 h4];refine⟨λh=>(by cases h),λ⟨_,_,_,_,a,_⟩=>?_⟩;rcases a h4.1 with x|x
  ·exact absurd x h4.2.1
  ·exact absurd x h4.2.2
 rw[dZ h4];have q3:e.is=2->kindOf e.i.op=3∧e.known=true:=λx=>by
  refine⟨af4 λy=>h3 ⟨x,.inl y⟩,?_⟩
  cases hk:e.known with
  |true=>rfl
  |false=>exact absurd ⟨x,.inr hk⟩ h3
 have q4:e.halt≠0->e.is=3∨(e.is=1∧kindOf e.i.op=5∧e.halt=3):=λx=>af4 λy=>h4 ⟨x,λz=>y (.inl z),λz=>y (.inr z)⟩;have q2:e.is=1->0<e.left:=λx=>af4 λy=>h2 (.inl ⟨x,oT⟩);have q5:e.is≠1->e.left=0:=λx=>af4 λy=>h2 (.inr ⟨x,y⟩);by_cases h5:Xq e.i=true
 ·rw[af1 h5];exact⟨λ_=>⟨oT,q2,q5,q3,q4,.inl h5⟩,λ_=>rfl⟩
 ·rw[dZ h5];refine⟨λh=>⟨oT,q2,q5,q3,q4,.inr (sU h)⟩,λ⟨_,_,_,_,_,a⟩=>?_⟩;rcases a with a|a
  ·exact absurd a h5
  ·simpa using a
structure EvEnt(M:Int)(e:Ent):Prop where
 st:xJ e=true
 kn:e.known=true->kindOf e.i.op=3∨kindOf e.i.op=4->kZ M e.agZ (bP e.i.op)=true
 s4:kindOf e.i.op=4->e.is=0∨e.is=3
 k4:kindOf e.i.op=4->e.is=3->e.halt=0->e.known=true
theorem EvEnt.go{M:Int}{e:Ent}(h:EvEnt M e):EvEnt M (goE e):=by
 obtain⟨h1,h2,h3,h4,h5,h6⟩:=(cT e).1 h.st;unfold goE;by_cases hi:e.is≠1
 ·rw[af1 hi];exact h
 rw[dZ hi];have hi:e.is=1:=agD.1 hi;have n4:kindOf e.i.op≠4:=λq=>by rcases h.s4 q with x|x<;>omega
 by_cases hl:wrap64 (e.left-1)<=0
 ·rw[af1 hl];refine⟨(cT _).2 ⟨by simp,λq=>absurd q (by simp),λ_=>rfl,λq=>absurd q (by simp),λ_=>.inl rfl,h6⟩,λa b=>?_,λq=>absurd q n4,λq=>absurd q n4⟩;refine h.kn ?_ b;have a:(if kindOf e.i.op=5∧e.halt=0 then true else e.known)=true:=a;have b:kindOf e.i.op=3∨kindOf e.i.op=4:=b
  rwa [dZ omT]at a
 rw[dZ hl];refine⟨(cT _).2 ⟨h1,λ_=>by show 0<wrap64 (e.left-1);omega,λq=>absurd hi q,h4,h5,h6⟩,h.kn,h.s4,h.k4⟩
def alR{op:Int}{a b:Nat}(hk:kindOf op=2)(ha:a<=4294967295)(hb:b<=4294967295):0<aoE op a b:=by
 have ho:42<=op∧op<=45:=by
  unfold kindOf at hk
  (repeat' split at hk)<;>omega
 unfold aoE;rw[dZ omT];split
 ·decide
 rename_i q;have h1:fS op b<=fS op a:=oT;have h2:=yJ op b omT (λz=>q (.inl z));have:=Kz (fS op b) (fS op a) (pT op b omT) (pT op a omT) h1 omT;omega
theorem EvEnt.start{M:Int}{e:Ent}(h:EvEnt M e){a b:Nat}(ha:a<=4294967295)(hb:b<=4294967295):EvEnt M (rJ e a b):=by
 obtain⟨h1,h2,h3,h4,h5,h6⟩:=(cT e).1 h.st;unfold rJ;by_cases hi:e.is≠0∨kindOf e.i.op=3∨kindOf e.i.op=4
 ·rw[af1 hi];exact h
 rw[dZ hi];have hh:e.halt=0:=af4 λq=>by rcases h5 q with x|x<;>omega
 have n4:kindOf e.i.op≠4:=λq=>hi (.inr (.inr q));have n3: ¬(kindOf e.i.op=3∨kindOf e.i.op=4):=λq=>hi (.inr q);by_cases k1:kindOf e.i.op=1
 ·rw[af1 k1];exact⟨(cT _).2 ⟨by simp,λ_=>by simp,λq=>absurd rfl q,λq=>absurd q (by simp),λq=>absurd hh q,h6⟩,λ_ q=>absurd q n3,λq=>absurd q n4,λq=>absurd q n4⟩
 rw[dZ k1];by_cases k2:kindOf e.i.op=2
 ·rw[af1 k2];exact⟨(cT _).2 ⟨by simp,λ_=>by have:=alR k2 ha hb;show(0:Int)<((aoE e.i.op a b:Nat):Int);omega,λq=>absurd rfl q,λq=>absurd q (by simp),λq=>absurd hh q,h6⟩,λ_ q=>absurd q n3,λq=>absurd q n4,λq=>absurd q n4⟩
 rw[dZ k2];by_cases k5:kindOf e.i.op=5
 ·rw[af1 k5];split
  ·exact⟨(cT _).2 ⟨by simp,λ_=>by simp,λq=>absurd rfl q,λq=>absurd q (by simp),λq=>absurd hh q,h6⟩,λ_ q=>absurd q n3,λq=>absurd q n4,λq=>absurd q n4⟩
  refine⟨(cT _).2 ⟨by simp,λ_=>by simp,λq=>absurd rfl q,λq=>absurd q (by simp),λ_=>.inr ⟨rfl,k5,rfl⟩,?_⟩,λ_ q=>absurd q n3,λq=>absurd q n4,λq=>absurd q n4⟩;rcases h6 with x|x|x
  ·exact .inl x
  ·omega
  omega
 rw[dZ k5];exact⟨(cT _).2 ⟨by simp,λ_=>by simp,λq=>absurd rfl q,λq=>absurd q (by simp),λq=>absurd hh q,h6⟩,λ_ q=>absurd q n3,λq=>absurd q n4,λq=>absurd q n4⟩
theorem EvEnt.agZ{M:Int}{e:Ent}(h:EvEnt M e)(a:Nat):EvEnt M (yC e M a):=by
 obtain⟨h1,h2,h3,h4,h5,h6⟩:=(cT e).1 h.st;unfold yC;by_cases hi:(kindOf e.i.op≠3∧kindOf e.i.op≠4)∨e.is≠0∨e.known=true
 ·rw[af1 hi];exact h
 rw[dZ hi];have i0:e.is=0:=af4 λq=>hi (.inr (.inl q));have hh:e.halt=0:=af4 λq=>by rcases h5 q with x|x<;>omega
 have hl:e.left=0:=h3 omT;split
 ·rename_i hr;exact⟨(cT _).2 ⟨h1,h2,h3,λq=>absurd (show e.is=2 from q) omT,h5,h6⟩,λ_ _=>hr,h.s4,λ_ _ _=>rfl⟩
 ·have hk:e.known=false:=by cases hq:e.known with
   |false=>rfl
   |true=>exact absurd (.inr (.inr hq)) hi
  refine⟨(cT _).2 ⟨by simp,λq=>absurd q (by simp),λ_=>hl,λq=>absurd q (by simp),λ_=>.inl rfl,?_⟩,λq=>(by rw[show e.known=true from q]at hk;cases hk),λ_=>.inr rfl,λ_ _ q=>?_⟩
  ·rcases h6 with x|x|x
   ·exact .inl x
   ·omega
   ·omega
  ·have q:(if kindOf e.i.op=4 then(5:Int)else 4)=0:=q;split at q<;>omega
theorem EvEnt.take{M:Int}{e:Ent}(h:EvEnt M e)(s:ByteArray):EvEnt M (uM e s):=by
 obtain⟨h1,h2,h3,h4,h5,h6⟩:=(cT e).1 h.st;unfold uM;by_cases hi:kindOf e.i.op≠3∨e.known=false∨(e.is≠0∧e.is≠2)
 ·rw[af1 hi];exact h
 rw[dZ hi];have k3:kindOf e.i.op=3:=af4 λq=>hi (.inl q);have hh:e.halt=0:=af4 λq=>by rcases h5 q with x|x<;>omega
 exact⟨(cT _).2 ⟨by simp,λ_=>by simp,λq=>absurd rfl q,λq=>absurd q (by simp),λq=>absurd hh q,h6⟩,h.kn,λq=>absurd (show kindOf e.i.op=4 from q) omT,λq=>absurd (show kindOf e.i.op=4 from q) omT⟩
theorem EvEnt.store{M:Int}{e:Ent}(h:EvEnt M e)(b:Nat):EvEnt M (uF e b):=by
 obtain⟨h1,h2,h3,h4,h5,h6⟩:=(cT e).1 h.st;unfold uF;by_cases hi:kindOf e.i.op≠4∨e.known=false∨e.is≠0
 ·rw[af1 hi];exact h
 rw[dZ hi];have i0:e.is=0:=af4 λq=>hi (.inr (.inr q))
 have hk:e.known=true:=by cases hq:e.known with
  |true=>rfl
  |false=>exact absurd (.inr (.inl hq)) hi
 exact⟨(cT _).2 ⟨by simp,λq=>absurd q (by simp),λ_=>h3 omT,λq=>absurd q (by simp),λ_=>.inl rfl,h6⟩,h.kn,λ_=>.inr rfl,λ_ _ _=>hk⟩
theorem EvEnt.fill{M:Int}{e:Ent}(h:EvEnt M e)(c:Co)(agY:Nat):EvEnt M (wO c agY e):=by
 unfold wO;split
 ·exact EvEnt.take (e:={e with agU:=true}) ⟨h.st,h.kn,h.s4,h.k4⟩ _
 exact h
theorem EvEnt.wait{M:Int}{e:Ent}(h:EvEnt M e)(h3:kindOf e.i.op=3)(hk:e.known=true)(h0:e.is=0∨e.is=2):EvEnt M {e with is:=2}:=by
 obtain⟨h1,h2,hl,h4,h5,h6⟩:=(cT e).1 h.st;have hh:e.halt=0:=af4 λq=>by rcases h5 q with x|x<;>omega
 exact⟨(cT _).2 ⟨by simp,λq=>absurd q (by simp),λ_=>hl omT,λ_=>⟨h3,hk⟩,λq=>absurd hh q,h6⟩,h.kn,λq=>absurd (show kindOf e.i.op=4 from q) omT,λq=>absurd (show kindOf e.i.op=4 from q) omT⟩
def anU(e:Ent):(goE e).no=e.no:=by unfold goE;(repeat' split)<;>rfl
def alS(e:Ent)(a b:Nat):(rJ e a b).no=e.no:=by unfold rJ;(repeat' split)<;>rfl
def akS(e:Ent)(M:Int)(a:Nat):(yC e M a).no=e.no:=by unfold yC;(repeat' split)<;>rfl
def ai4(e:Ent)(s:ByteArray):(uM e s).no=e.no:=by unfold uM;split<;>rfl
def alT(e:Ent)(b:Nat):(uF e b).no=e.no:=by unfold uF;split<;>rfl
def alU(c:Co)(agY:Nat)(e:Ent):(wO c agY e).no=e.no:=by
 unfold wO;split
 ·rw[ai4]
 rfl
structure RoLst(M nx:Int)(l:List Ent):Prop where
 ev:∀e∈l,EvEnt M e∧e.no<nx
 up:(l.map (·.no)).Pairwise (· < ·)
theorem RoLst.nil{M nx:Int}:RoLst M nx []:=⟨λ_ h=>(List.not_mem_nil h).elim,.nil⟩
theorem RoLst.map{M nx:Int}{l:List Ent}(h:RoLst M nx l){f:Ent->Ent}(hf:∀e,EvEnt M e->EvEnt M (f e))(hn:∀e,(f e).no=e.no):RoLst M nx (l.map f):=by
 refine⟨λe he=>?_,?_⟩
 ·obtain⟨x,hx,rfl⟩:=pG.1 he;exact⟨hf x (h.ev x hx).1,by rw[hn];exact(h.ev x hx).2⟩
 rw[List.map_map,show((λe:Ent=>e.no)∘f)=λe=>e.no from funext hn];exact h.up
theorem RoLst.set{M nx:Int}{l:List Ent}(h:RoLst M nx l){i:Nat}{x e:Ent}(hx:l[i]?=some x)(he:EvEnt M e)(hn:e.no=x.no):RoLst M nx (l.set i e):=by
 refine⟨λy hy=>?_,?_⟩
 ·rcases List.mem_or_eq_of_mem_set hy with q|rfl
  ·exact h.ev y q
  exact⟨he,by rw[hn];exact(h.ev x (aB hx)).2⟩
 rw[List.map_set,hn];rw[show(l.map (·.no)).set i x.no=l.map (·.no)from ?_]
 ·exact h.up
 refine dD λj=>?_;by_cases hj:i=j
 ·subst hj;have hl:=(Em.1 hx).1;rw[aZ (by rw[aH];exact hl),aX,hx];rfl
 rw[kX hj]
theorem RoLst.sub{M nx:Int}{l k:List Ent}(h:RoLst M nx l)(hs:k.Sublist l):RoLst M nx k:=
 ⟨λe he=>h.ev e (hs.mem he),h.up.sublist (hs.map _)⟩
theorem RoLst.cut{M nx:Int}{l:List Ent}(h:RoLst M nx l)(i:Nat):RoLst M nx (DY l i):=by
 unfold DY;split
 ·rename_i e he;have hi:=(Em.1 he).1;have hs:(l.take i++[{e with agK:=e.next}])=(l.set i {e with agK:=e.next}).take (i+1):=by
   rw[bW,aZ hi,List.take_set_of_le (aC _)];rfl
  rw[hs];have hev:=(h.ev e (aB he)).1;exact(h.set he (e:={e with agK:=e.next}) ⟨hev.st,hev.kn,hev.s4,hev.k4⟩ rfl).sub (List.take_sublist _ _)
 exact h
theorem RoLst.push{M nx:Int}{l:List Ent}(h:RoLst M nx l){e:Ent}(he:EvEnt M e)(hn:e.no=nx):RoLst M (nx+1) (l++[e]):=by
 refine⟨λy hy=>?_,?_⟩
 ·rcases al_List_mem_append.1 hy with q|q
  ·have:=h.ev y q;exact⟨this.1,oT⟩
  rw[uJ.1 q];exact⟨he,oT⟩
 rw[dH,List.pairwise_append];refine⟨h.up,List.pairwise_singleton _ _,λa ha b hb=>?_⟩;obtain⟨y,hy,rfl⟩:=pG.1 ha;have:=(h.ev y hy).2;have hb:b=e.no:=sU hb;omega
theorem RoLst.right{M nx:Int}{l:List Ent}(h:RoLst M nx l)(h8:l.length<=8):Ff l=true:=by
 unfold Ff;rw[aP,rC];refine⟨jP h8,λi hi=>?_⟩;unfold IB;split
 ·rename_i e he;rw[aP];refine⟨?_,(h.ev e (aB he)).1.st⟩
  cases i with
  |zero=>rfl
  |succ i=>
   have hl:=(Em.1 he).1;have hx:l[i]?=some (l[i]'omT):=aA omT;have:=List.pairwise_iff_getElem.1 h.up i (i+1) (by rw[aH];omega) (by rw[aH];omega) omT;rw[List.getElem_map,List.getElem_map]at this;have e2:l[i+1]=e:=(Em.1 he).2;rw[e2]at this;unfold ZI;rw[(oT:i+1-1=i),hx];simp[this]
 ·rfl
theorem RoLst.agF{M nx:Int}{r:Nat->Nat}{l:List Ent}(h:RoLst M nx l):∀k,RoLst M nx (storesTo r l k)
 |0=>h
 | k+1=>by
  have ih:=RoLst.agF (r:=r) h k;show RoLst M nx (storeAt r (storesTo r l k) k);unfold storeAt;split
  ·rename_i e he;split
   ·split
    ·exact ih.set he ((ih.ev e (aB he)).1.store _) (alT _ _)
    ·exact ih
   ·exact ih
  ·exact ih
def aoD(c:Ca)(k:Nat)(s:List Wy):(rK c k s).agJ.length=c.agJ.length∧(rK c k s).ways=c.ways:=⟨cC,rfl⟩
def ahG(c:Ca)(agY:Nat):(tO c agY).agJ.length=c.agJ.length∧(tO c agY).ways=c.ways:=by
 unfold tO;split
 ·exact aoD _ _ _
 exact⟨rfl,rfl⟩
def aiH(c:Ca)(agY:Nat)(d:ByteArray)(b:Bool):(qZ c agY d b).1.agJ.length=c.agJ.length∧(qZ c agY d b).1.ways=c.ways:=by
 unfold qZ;split
 ·split
  ·exact aoD _ _ _
  split<;>exact aoD _ _ _
 exact⟨rfl,rfl⟩
def ai0(c:Ca)(a:Nat)(b:ByteArray):(xL c a b).1.agJ.length=c.agJ.length∧(xL c a b).1.ways=c.ways:=by
 unfold xL;split
 ·split
  ·split
   ·exact⟨rfl,rfl⟩
   exact aoD _ _ _
  exact⟨rfl,rfl⟩
 exact⟨rfl,rfl⟩
def ai1(c:Ca)(agY:Nat):(wB c agY).agJ.length=c.agJ.length∧(wB c agY).ways=c.ways:=by
 unfold wB;split
 ·exact aoD _ _ _
 exact⟨rfl,rfl⟩
def ai2(c:Co)(agY:Nat):(oK c agY).data.agJ.length=c.data.agJ.length∧(oK c agY).data.ways=c.data.ways:=by
 have hp:=aiH c.data (lineOf agY) (Ga (jZ c.agS c.mem) (lineOf agY)) false;unfold oK;rcases hB:iQ c.data c.agS c.mem agY (lX c.agL c.asked)with ⟨d,q,asked⟩;show d.agJ.length=_∧d.ways=_;unfold iQ at hB;split at hB
 ·cases hB;exact⟨rfl,rfl⟩
 split at hB
 ·cases hB;exact ahG _ _
 split at hB
 rename_i hq;rw[hq]at hp;split at hB<;>(cases hB;exact hp)
structure RcCor(q:Int)(c:Co):Prop where
 ro:RoLst c.mem.size c.next c.agI
 lo:0<=c.next
 nx:c.next<=q
 da:(c.data.agJ.length:Int)=c.agL.agJ∧c.data.ways=c.agL.ways
 wo:(c.agO.agJ.length:Int)=c.agL.agJ∧c.agO.ways=c.agL.ways
 sp:∀p∈c.agF,kZ c.mem.size p.agZ p.data.size=true
 pg:c.prog.length<=64
def aiI(c:Co)(agY:Nat):(oK c agY).mem=c.mem∧(oK c agY).next=c.next∧(oK c agY).agI=c.agI∧(oK c agY).agL=c.agL∧(oK c agY).agO=c.agO∧(oK c agY).agF=c.agF∧(oK c agY).prog=c.prog:=by
 rw[<-uY];exact⟨rfl,rfl,rfl,rfl,rfl,rfl,rfl⟩
theorem RcCor.bring{q:Int}{c:Co}(h:RcCor q c)(agY:Nat):RcCor q (oK c agY):=by
 obtain⟨h1,h2,h3,h4,h5,h6,h7⟩:=aiI c agY;have hs:=ai2 c agY;exact⟨by rw[h1,h2,h3];exact h.ro,by rw[h2];exact h.lo,by rw[h2];exact h.nx,by rw[hs.1,hs.2,h4];exact h.da,by rw[h5,h4];exact h.wo,by rw[h6,h1];exact h.sp,by rw[h7];exact h.pg⟩
theorem RcCor.agI{q:Int}{c d:Co}(h:RcCor q c)(hr:RoLst c.mem.size c.next d.agI)(h1:d.mem=c.mem)(h2:d.next=c.next)(h3:d.data=c.data)(h4:d.agO=c.agO)(h5:d.agL=c.agL)(h6:d.agF=c.agF)(h7:d.prog=c.prog):RcCor q d:=
 ⟨by rw[h1,h2];exact hr,by rw[h2];exact h.lo,by rw[h2];exact h.nx,by rw[h3,h5];exact h.da,by rw[h4,h5];exact h.wo,by rw[h6,h1];exact h.sp,by rw[h7];exact h.pg⟩
def alN{q:Int}{c:Co}(h:RcCor q c):RcCor q (lM c):=by
 have hb:RcCor q (jJ c):=⟨h.ro,h.lo,h.nx,h.da,h.wo,h.sp,h.pg⟩;rw[kC];split
 ·unfold ID
  repeat' split
  ·exact hb.agI (hb.ro.map (λe he=>he.fill _ _) (λe=>alU _ _ e)) rfl rfl rfl rfl rfl rfl rfl
  ·have:=aiH (jJ c).agO (eH c.agS).2.1.agY oZ false;exact⟨hb.ro,hb.lo,hb.nx,hb.da,by show((qZ _ _ _ _).1.agJ.length:Int)=_∧(qZ _ _ _ _).1.ways=_;rw[this.1,this.2];exact hb.wo,hb.sp,hb.pg⟩
  ·exact hb.bring _
  ·have e:(rP (jJ c).mem [⟨(eH c.agS).2.1.agY,(eH c.agS).2.1.data⟩]).size=(jJ c).mem.size:=iY ..;exact⟨by show RoLst ((rP _ _).size:Int) _ _;rw[e];exact hb.ro,hb.lo,hb.nx,hb.da,hb.wo,by show ∀p∈_,kZ ((rP _ _).size:Int) _ _=true;rw[e];exact hb.sp,hb.pg⟩
  exact hb
 exact hb
def alO{q:Int}{c:Co}(h:RcCor q c):RcCor q (kK c):=by
 have hw:RoLst c.mem.size c.next (afD c):=RoLst.agF (h.ro.map (λe he=>he.go) anU) _;unfold kK;split
 ·exact h
 split
 ·rename_i i _;exact h.agI (hw.cut i) rfl rfl rfl rfl rfl rfl rfl
 exact h.agI hw rfl rfl rfl rfl rfl rfl rfl
def akN(x n:Nat)(h:n=1∨n=2∨n=4):(oF x n).size=n:=by
 rcases h with rfl|rfl|rfl<;>rfl
def al6{q:Int}{c:Co}(h:RcCor q c){e:Ent}(he:e∈c.agI)(h3:e.is=3):RcCor q (fZ c (cA e)):=by
 refine⟨h.ro,h.lo,h.nx,h.da,h.wo,?_,h.pg⟩;show ∀p∈(match iJ (cA e)with|some p=>c.agF++[p]|none=>c.agF),_;split
 ·rename_i p hp;intro y hy;rcases al_List_mem_append.1 hy with r|r
  ·exact h.sp y r
  ·rw [uJ.1 r];have hev:=(h.ro.ev e he).1;unfold iJ at hp;split at hp
   ·cases hp
   ·rename_i hn;have hz:(cA e).store=true:=by
     cases hb:(cA e).store with
     |true=>rfl
     |false=>exact absurd (.inl hb) hn
    have hk:e.halt=0∧kindOf e.i.op=4:=by
     unfold cA at hz;by_cases q1:e.halt≠0
     ·rw[af1 q1]at hz;exact absurd (show false=true from hz) (by simp)
     ·by_cases q2:kindOf e.i.op=4
      ·exact⟨agD.1 q1,q2⟩
      ·rw[dZ q1,dZ q2]at hz
       repeat' split at hz
       all_goals exact absurd (show false=true from hz) (by simp)
    have ht:cA e=⟨e.pc,up4 e.pc,wr e.i,e.value,e.agZ,(bP e.i.op:Nat),true,0,0⟩:=by
     unfold cA;rw[dZ (λz=>z hk.1),af1 hk.2]
    rw[ht]at hp hn;injection hp with hp;have hr:=hev.kn (hev.k4 hk.2 h3 hk.1) (.inr hk.2);have hsz:bP e.i.op=1∨bP e.i.op=2∨bP e.i.op=4:=by
     have hn: ¬(((bP e.i.op:Nat):Int)≠1∧((bP e.i.op:Nat):Int)≠2∧((bP e.i.op:Nat):Int)≠4):=λz=>hn (.inr (.inr z));omega
    have hb:p.data.size=bP e.i.op:=by rw[<-hp];exact akN _ _ hsz
    rw[show p.agZ=e.agZ by rw[<-hp],hb];exact hr
 ·exact h.sp
def akO{q:Int}{c:Co}(h:RcCor q c){e:Ent}(he:e∈c.agI)(h3:e.is=3):RcCor q (Bm c e):=by
 have k:=al6 h he h3;exact⟨k.ro.sub (List.drop_sublist _ _),k.lo,k.nx,k.da,k.wo,k.sp,k.pg⟩
def akP{q:Int}{c:Co}(h:RcCor q c){e:Ent}(he:e∈c.agI)(h3:e.is=3):RcCor q (MP c e):=by
 have k:=(al6 h he h3).bring (cA e).agZ;rw[<-uY]at k;exact⟨RoLst.sub (l:=c.agI) k.ro (List.drop_sublist _ _),k.lo,k.nx,k.da,k.wo,k.sp,k.pg⟩
theorem aoW{q:Int}:∀(n:Nat) (c:Co),RcCor q c->RcCor q (retiresN n c)
 |0,_,h=>h
 | n +1,c,h=>by
  by_cases hz:c.halt≠0∨c.agI.length=0
  ·rw[mG hz];exact h
  ·have hx:c.agI[0]?=some (c.agI[0]'omT):=aA omT;have hm:=aB hx;rw[iX omT (λr=>hz (.inl r)) hx];split
   ·exact h
   ·rename_i h3;have h3:=agD.1 h3;split
    ·exact⟨RoLst.nil,h.lo,h.nx,h.da,h.wo,h.sp,h.pg⟩
    ·split
     ·exact h
     ·rw[kB];by_cases hk:kindOf (c.agI[0]'omT).i.op=3
      ·rw[Ke hk];exact aoW n _ (akP h hm h3)
      ·rw[An hk];exact aoW n _ (akO h hm h3)
theorem RcCor.setE{q:Int}{c:Co}(h:RcCor q c){i:Nat}{x e:Ent}(hx:c.agI[i]?=some x)(he:EvEnt c.mem.size e)(hn:e.no=x.no):RcCor q (setE c i e):=h.agI (h.ro.set hx he hn) rfl rfl rfl rfl rfl rfl rfl
def amP(e:Ent)(M:Int)(a:Nat)(h0:e.is=0):(yC e M a).known=true->(yC e M a).is=0∨e.known=false∧(yC e M a).is=0:=by
 intro hk;unfold yC at hk⊢;split
 ·exact .inl h0
 rename_i h1;rw[dZ h1]at hk;split
 ·exact .inl h0
 rename_i h2;rw[dZ h2]at hk;exact absurd (show e.known=true from hk) (λz=>h1 (.inr (.inr z)))
def amQ{q:Int}{c:Co}(h:RcCor q c){i:Nat}{x:Ent}(hx:c.agI[i]?=some x)(hk3:kindOf x.i.op=3)(hi:x.known=true->x.is=0):RcCor q (oE c i):=by
 have hev:=(h.ro.ev x (aB hx)).1;unfold oE;rw[hx];dsimp only;split
 ·exact h
 ·rename_i hkn
  have hk:x.known=true:=by cases hq:x.known with
   |true=>rfl
   |false=>exact absurd hq hkn
  have hw:=hev.wait hk3 hk (.inl (hi hk))
  repeat' split
  ·exact h.setE hx (hev.take _) (ai4 _ _)
  ·exact h
  ·exact h.setE hx (hev.take _) (ai4 _ _)
  ·exact h.setE hx hw rfl
  ·exact RcCor.setE (c:=jE c 1 (lineOf x.agZ) oZ) ⟨h.ro,h.lo,h.nx,h.da,h.wo,h.sp,h.pg⟩ hx hw rfl
  ·exact h
def am8{l:List Ent}{i:Nat}{x e:Ent}(hx:l[i]?=some x):(l.set i e)[i]?=some e:=aZ (Em.1 hx).1
def alP{q:Int}{c:Co}{n:Nat}(hm:c.okM n)(h:RcCor q c){i:Nat}(hi:∀e,c.agI[i]?=some e->e.is=0):RcCor q (iS c i):=by
 have hb:=Cj hm.ok.agX hm.ok.r i;unfold iS
 cases hx:c.agI[i]? with
 |none=>exact h
 | some e=>
  have hev:=(h.ro.ev e (aB hx)).1;have h0:=hi e hx;dsimp only;split
  ·exact h.setE hx (hev.agZ _) (akS _ _ _)
  ·split
   ·rename_i k3;have hk:kindOf (yC e c.mem.size (mI c.agI c.r i).1).i.op=3:=by
     unfold yC
     (repeat' split)<;>exact k3
    exact amQ (h.setE hx (hev.agZ _) (akS _ _ _)) (am8 hx) hk (λz=>(amP e _ _ h0 z).elim id (·.2))
   ·exact h.setE hx (hev.start hb.1 hb.2) (alS _ _ _)
def set_other{l:List Ent}{i j:Nat}{e:Ent}(h:i≠j):(l.set i e)[j]?=l[j]? :=kX h
def ajP(c:Co){i j:Nat}(h:i≠j):(oE c i).agI[j]?=c.agI[j]? :=by
 unfold oE;split
 ·rfl
 (try dsimp only)
 repeat' split
 all_goals first|rfl|exact set_other h
def ai3(c:Co){i j:Nat}(h:i≠j):(iS c i).agI[j]?=c.agI[j]? :=by
 unfold iS;split
 ·rfl
 (try dsimp only)
 split
 ·exact set_other h
 split
 ·rw[ajP _ h];exact set_other h
 exact set_other h
theorem aiJ{q:Int}:∀(p:List Nat) (c:Co) (n:Nat),c.okM n->n+p.length<=890000->RcCor q c->p.Pairwise (· < ·)->(∀i∈p,∀e,c.agI[i]?=some e->e.is=0)->RcCor q (p.foldl iS c)
 |[],_,_,_,_,h,_,_=>h
 |i::p,c,n,hm,hb,h,hp,hi=>by
  have hl:(i::p).length=p.length+1:=rfl;rw[hl]at hb;obtain⟨h1,h2⟩:=List.pairwise_cons.1 hp;refine aiJ p _ (n+1) (yY hm omT i).1 omT (alP hm h (hi i (al_List_mem_cons_self ..))) h2 (λj hj e he=>?_);have:=h1 j hj;rw[ai3 c omT]at he;exact hi j (bY _ hj) e he
theorem ahV{agN:Int}{busy:Bool}{kinds:List Int}{can:List Bool}:∀k,(∀i∈(kA agN busy kinds can k).out,i<k∧can.getD i false=true)∧(kA agN busy kinds can k).out.Pairwise (· < ·)
 |0=>⟨λi hi=>(List.not_mem_nil hi).elim,.nil⟩
 | k + 1=>by
  have ih:=ahV (agN:=agN) (busy:=busy) (kinds:=kinds) (can:=can) k;have keep:(∀i∈(kA agN busy kinds can k).out,i<k+1∧can.getD i false=true)∧(kA agN busy kinds can k).out.Pairwise (· < ·):=⟨λi hi=>⟨oH ((ih.1 i hi).1),(ih.1 i hi).2⟩,ih.2⟩;show(∀i∈(IW agN kinds (kA agN busy kinds can k) k (can.getD k false)).out,_)∧(IW agN kinds (kA agN busy kinds can k) k (can.getD k false)).out.Pairwise _;unfold IW;split
  ·exact keep
  ·split
   ·exact keep
   ·rename_i hr;split
    ·exact keep
    ·refine⟨λi hi=>?_,?_⟩
     ·rcases al_List_mem_append.1 hi with r|r
      ·exact keep.1 i r
      ·rw[uJ.1 r]
       exact⟨oT,by cases hc:can.getD k false with
        |true=>rfl
        |false=>exact absurd hc hr⟩
     ·show((kA agN busy kinds can k).out++[k]).Pairwise _;rw[List.pairwise_append];refine⟨ih.2,List.pairwise_singleton _ _,λa ha b hb=>?_⟩;rw[uJ.1 hb];exact(ih.1 a ha).1
def am9{c:Co}{i:Nat}{e:Ent}(h:DN c i=true)(he:c.agI[i]?=some e):e.is=0:=by
 unfold DN at h;rw[he]at h;dsimp only at h;split at h
 ·cases h
 rename_i q;exact agD.1 q
def akQ{q:Int}{c:Co}{n:Nat}(hm:c.okM n)(hb:n+2<=890000)(h:RcCor q c):RcCor q (gY c):=by
 by_cases hh:c.halt≠0
 ·rw[show gY c=c from af1 hh];exact h
 have hw:=pD hm.cf;have hl:=VH (agN:=c.agL.agN) (busy:=c.agI.any IE) (kinds:=Fi c) (can:=Kv c) omT (Kv c).length;have hf:=ahV (agN:=c.agL.agN) (busy:=c.agI.any IE) (kinds:=Fi c) (can:=Kv c) (Kv c).length;rw[show gY c=(kA c.agL.agN (c.agI.any IE) (Fi c) (Kv c) (Kv c).length).out.foldl iS c from dZ hh];refine aiJ _ c n hm omT h hf.2 (λi hi e he=>?_);have hc:=(hf.1 i hi).2;have hlt:=(Em.1 he).1;refine am9 (i:=i) ?_ he;unfold Kv at hc;rw[aR,aX,eZ hlt]at hc;exact hc
def alQ{M:Int}(no:Int){f:Ft}{prog:List Nat}(hp:∀x∈prog,x<=4294967295):EvEnt M (qB no f prog)∧(qB no f prog).no=no:=by
 have hx:fetchW prog f.pc<4294967296:=CI (LN hp f.pc);have n4: ¬kindOf 0=4:=dT;unfold qB;split
 ·exact⟨⟨(cT _).2 ⟨by simp,λq=>absurd q (by simp),λ_=>rfl,λq=>absurd q (by simp),λ_=>.inl rfl,.inr (.inl rfl)⟩,λq=>absurd (show false=true from q) (by simp),λq=>absurd (show kindOf 0=4 from q) n4,λq=>absurd (show kindOf 0=4 from q) n4⟩,rfl⟩
 split
 ·exact⟨⟨(cT _).2 ⟨by simp,λq=>absurd q (by simp),λ_=>rfl,λq=>absurd q (by simp),λ_=>.inl rfl,.inr (.inr rfl)⟩,λq=>absurd (show false=true from q) (by simp),λq=>absurd (show kindOf 0=4 from q) n4,λq=>absurd (show kindOf 0=4 from q) n4⟩,rfl⟩
 rename_i ho;have hs:Xq (an5 (fetchW prog f.pc))=true:=(MZ _).2 (amB _ ho hx);split
 ·exact⟨⟨(cT _).2 ⟨by simp,λq=>absurd q (by simp),λ_=>rfl,λq=>absurd q (by simp),λ_=>.inl rfl,.inl hs⟩,λq=>absurd (show false=true from q) (by simp),λ_=>.inr rfl,λ_ _ q=>absurd (show(6:Int)=0 from q) (by simp)⟩,rfl⟩
 split
 ·exact⟨⟨(cT _).2 ⟨by simp,λq=>absurd q (by simp),λ_=>rfl,λq=>absurd q (by simp),λ_=>.inl rfl,.inl hs⟩,λq=>absurd (show false=true from q) (by simp),λ_=>.inr rfl,λ_ _ q=>absurd (show(7:Int)=0 from q) (by simp)⟩,rfl⟩
 exact⟨⟨(cT _).2 ⟨(show(0:Int)<=0∧(0:Int)<=3 from⟨by simp,by simp⟩),λq=>absurd (show(0:Int)=1 from q) (by simp),λ_=>rfl,λq=>absurd (show(0:Int)=2 from q) (by simp),λq=>absurd rfl q,.inl hs⟩,λq=>absurd (show false=true from q) (by simp),λ_=>.inl rfl,λ_ q=>absurd (show(0:Int)=3 from q) (by simp)⟩,rfl⟩
theorem ahW:∀(n:Nat) (q:Int) (c:Co),(∀x∈c.prog,x<=4294967295)->q+n<=9000000->RcCor q c->RcCor (q+n) (entersN n c)
 |0,q,c,_,_,h=>by rw[(oT:q+((0:Nat):Int)=q)];exact h
 | n+1,q,c,hp,hb,h=>by
  by_cases h0:(c.agI.length:Int)>=c.agL.agI∨c.agH.length=0
  ·rw[Ap h0];exact⟨h.ro,h.lo,oH h.nx,h.da,h.wo,h.sp,h.pg⟩
  ·have hx:c.agH[0]?=some (c.agH[0]'omT):=aA omT;have e:=CU (n:=n+1) (k:=0) omT (λr=>h0 (.inl r)) hx;rw[(oT:n+1-(0+1)=n),(oT:n+1-0=n+1)]at e;rw[<-e,(oT:q+((n+1:Nat):Int)=(q+1)+(n:Nat))];have hw:wrap64 (c.next+1)=c.next+1:=ajQ (oH h.lo) (oH h.nx);have he:=alQ (M:=c.mem.size) c.next (f:=c.agH[0]'omT) hp;refine ahW n (q+1) _ hp omT ⟨?_,?_,?_,h.da,h.wo,h.sp,h.pg⟩
   ·show RoLst c.mem.size (wrap64 (c.next+1)) (c.agI++[_]);rw[hw];exact h.ro.push he.1 he.2
   ·show 0<=wrap64 (c.next+1);rw[hw];have:=h.lo;omega
   ·show wrap64 (c.next+1)<=_;rw[hw];have:=h.nx;omega
theorem ahH{q:Int}:∀(n:Nat) (c:Co),RcCor q c->RcCor q (fetchesN n c)
 |0,_,h=>h
 | n +1,c,h=>by
  by_cases h0:c.stop=true∨(c.agH.length:Int)>=c.agL.queue
  ·rw[yZ h0];exact h
  ·by_cases hf:(fetchP c.prog c.agM).isSome=false
   ·rw[Aq omT h0 hf];exact⟨h.ro,h.lo,h.nx,h.da,h.wo,h.sp,h.pg⟩
   ·by_cases hw:(bK c.agO (lineOf c.agM)).2.isSome=false
    ·rw[uD omT h0 hf hw];split
     ·exact⟨h.ro,h.lo,h.nx,h.da,h.wo,h.sp,h.pg⟩
     ·exact h
    ·have e:=BC (n:=n+1) (k:=0) omT h0 hf hw;rw[(oT:n+1-(0+1)=n),(oT:n+1-0=n+1)]at e;rw[<-e];refine ahH n _ ?_;have ht:=ahG c.agO (lineOf c.agM);have hT:RcCor q (lJ c):=⟨h.ro,h.lo,h.nx,h.da,by show((tO _ _).agJ.length:Int)=_∧(tO _ _).ways=_;rw[ht.1,ht.2];exact h.wo,h.sp,h.pg⟩;have hb:∀w,RcCor q (dM (lJ c) w).1:=by
      intro w;unfold dM
      repeat' split
      all_goals exact⟨hT.ro,hT.lo,hT.nx,hT.da,hT.wo,hT.sp,hT.pg⟩
     have k:=hb (fetchW c.prog c.agM);exact⟨k.ro,k.lo,k.nx,k.da,k.wo,k.sp,k.pg⟩
def akR{q:Int}{c:Co}(h:RcCor q c):RcCor q (tY c):=by
 have h1:RcCor q (aW c):=by
  refine⟨h.ro,h.lo,h.nx,?_,h.wo,?_,h.pg⟩
  ·show((sL c.agF c.data).2.1.agJ.length:Int)=_∧(sL c.agF c.data).2.1.ways=_;unfold sL;split
   ·exact h.da
   rename_i p l _;have:=ai0 c.data p.agZ p.data;split
   ·rw[this.1,this.2];exact h.da
   exact h.da
  show ∀p∈(sL c.agF c.data).1,_;unfold sL;split
  ·exact h.sp
  rename_i p l hs;split
  ·exact λy hy=>h.sp y (by rw[hs];exact bY _ hy)
  exact h.sp
 have hA:∀{d:Co},RcCor q d->RcCor q (tW d):=λ{d} k=>by
  unfold tW;split
  ·exact k
  split
  ·exact⟨k.ro,k.lo,k.nx,k.da,k.wo,k.sp,k.pg⟩
  exact k
 have hB:∀{d:Co},RcCor q d->RcCor q (nP d):=λ{d} k=>by
  unfold nP;split
  ·exact k
  unfold pE;split
  ·split
   ·rename_i w _ _;have:=ai1 d.data w.agY;exact⟨k.ro,k.lo,k.nx,by show((wB _ _).agJ.length:Int)=_∧(wB _ _).ways=_;rw[this.1,this.2];exact k.da,k.wo,k.sp,k.pg⟩
   exact k
  exact k
 rw[mO];split
 ·exact hB (hA h1)
 exact hB h1
def aoN(n lo hi:Int)(h:0<=lo∧lo<=hi):0<=bV n lo hi:=by unfold bV;(repeat' split)<;>omega
def anA(c:Cf)(prog:List Nat)(m:ByteArray):Bd (bZ c) 0 (fX c prog m):=
 ⟨rfl,aoN _ 2 8 dT,aoN _ 1 4 dT,aoN _ 1 4 dT,aoN _ 2 6 dT,rfl⟩
def akY(c:Cf):0<=(bZ c).agI∧0<=(bZ c).queue:=⟨aoN _ 2 8 dT,aoN _ 1 4 dT⟩
def anV{f:Cf}(h0:0<=f.agI∧0<=f.queue){c:Co}(h:Bd f c.agG.length c):Bd f (uG c).agG.length (uG c)∧c.agG.length<=(uG c).agG.length∧(uG c).agG.length<=c.agG.length+f.agN.toNat:=by
 obtain⟨b,h1,h2,h3⟩:=amU h0 h;have:=h3.ret;subst this;exact⟨h3,h1,h2⟩
end Go.Proofs.YtffibhgbpgjioaaGreatDoor
