/- Lemmas. -/
import Derived.WideShapes
import Derived.Test.YtdhclfgoomldfaaGreatDoorS1
import Derived.Test.YtdhclfgoomldfaaGreatDoorS8
import Derived.Test.YtdhclfgoomldfaaGreatDoorS9
import Derived.Test.YtdhclfgoomldfaaGreatDoorS21
import Derived.Test.YtdhclfgoomldfaaGreatDoorS22
import Derived.Test.YtdhclfgoomldfaaGreatDoorS26
import Derived.Test.YtdhclfgoomldfaaGreatDoorS30
import Derived.Test.YtdhclfgoomldfaaGreatDoorS31
import Derived.Test.YtdhclfgoomldfaaGreatDoorS35
set_option linter.all false
namespace Go.Proofs.YtdhclfgoomldfaaGreatDoor
open Go.RowKit
def EL{c}{n}(h:c.ok n)(o:n<=890000)(d:jF c=true):c.I n:=by
 unfold jF at d;simp only[aP,aY]at d;let⟨⟨⟨⟨⟨⟨⟨⟨⟨⟨⟨f,u⟩,l⟩,v⟩,w⟩,y⟩,a⟩,b⟩,m⟩,s⟩,t⟩,i⟩:=d;unfold Ax at a b;simp[aP,aY]at a b;have z:=pD f;have p:c.mem.size<=256:=by
  have e:c.mem.toList=(jB c.mem).toList:=sU l;have j:c.mem.size=(jB c.mem).size:=by rw[<-oj, <-oj _,e]
  rw[j,wE];unfold hF;repeat' split
  all_goals omega
 have q:∀x∈c.W,x.data.size<=4:=λx r=>by
  have:=rC.1 i x r;unfold kZ at this;simp[aP,aY]at this;omega
 exact⟨h,o,f,a.1.1,b.1.1,m,oT,oT,oT,oT,p,q⟩
def p'(K:AH)(m a aq:Nat)(c:Co)(F S T:AV)(h':AH):Prop:=
 (c.Z=[]∧h'=ao K m (some (.box (ax c (.X 17 [] false) F S T))))∨
 ∃(b:Nat) (A B:List ai) (k:Bool),(b=a∨b=aq)∧A.length+c.Z.length+B.length<=1000∧h'=ao (ao K m (some (.box (ax c (.S b A.length c.Z.length k) F S T)))) b (some (.arr ((A++c.Z++B).map aj) 17))
def Qp{f}{i}{c}{n o p}{q r s}(H:pM C0.P C0.G f [.ptr 0 0] (ap [(0,i)]) 1 (λx h'=>x=.E []∧VF 1 c (.X 2 q n) (.X 2 r o) (.X 9 s p) h'))(m)(K)(aq)(u:iy (λ_=>m) K 1 aq [(0,i)]):
  pM C0.P C0.G f [.ptr m 0] K aq (λx h'=>x=.E []∧p' K m aq aq c (.X 2 q n) (.X 2 r o) (.X 9 s p) h'):=by
 refine H.ZF (λ_=>m) K aq rfl u rfl rfl _ λz h' h=>?_;obtain⟨rfl,h⟩:=h;rcases h with ⟨t,rfl⟩|⟨b,A,B,k,w,v,rfl⟩
 ·refine⟨_,⟨rfl,.inl ⟨t,rfl⟩⟩,λy blk a=>?_⟩;by_cases d:y=m
  ·subst d;rw[dB]at a;injection a with a;subst a;exact .inl ⟨0,_,rfl,rfl,rfl⟩
  rw[cI _ _ d]at a;exact .inr ⟨a,λx _ e=>d e.symm⟩
 have j:b=1:=oT;subst j;refine⟨_,⟨rfl,.inr ⟨aq,A,B,k,.inr rfl,v,rfl⟩⟩,λy blk a=>?_⟩;by_cases l:y=aq
 ·subst l;rw[dB]at a;injection a with a;subst a;exact .inl ⟨1,_,rfl,(lk _ _ _).symm,rfl⟩
 rw[cI _ _ l]at a;by_cases d:y=m
 ·subst d;rw[dB]at a;injection a with a;subst a;exact .inl ⟨0,_,rfl,rfl,rfl⟩
 rw[cI _ _ d]at a;exact .inr ⟨a,λx _ e=>d e.symm⟩
def Qq{f}{E F}{c}{n o p}{q r s}(H:pM C0.P C0.G f [.ptr 0 0] (ap [(0,E),(1,F)]) 2 (λx h'=>x=.E []∧VF 2 c (.X 2 q n) (.X 2 r o) (.X 9 s p) h'))(m d)(K)(aq)(O:iy (λz=>match z with|0=>m|_=>d) K 2 aq [(0,E),(1,F)])(G:m≠d):
  pM C0.P C0.G f [.ptr m 0] K aq (λx h'=>x=.E []∧p' (ao K d none) m d aq c (.X 2 q n) (.X 2 r o) (.X 9 s p) h'):=by
 have P:UQ (λz=>match z with|0=>m|_=>d) 2=true:=by
  have:Nat.beq m d=false:=by rw[<-eJ];exact λe=>G (aO e)
  simp[UQ,List.range,List.range.loop,this]
 have v:∀y, ¬y=m-> ¬y=d->∀x,x<2->(λz=>match z with|0=>m|_=>d) x≠y:=by
  intro y M N x _ e
  cases x with
  |zero=>exact M e.symm
  |succ x=>exact N e.symm
 refine H.ZF (λz=>match z with|0=>m|_=>d) K aq rfl O P rfl _ λS h' C=>?_;obtain⟨rfl,C⟩:=C;rcases C with ⟨L,rfl⟩|⟨b,A,B,k,R,Q,rfl⟩
 ·refine⟨_,⟨rfl,.inl ⟨L,rfl⟩⟩,λy blk a=>?_⟩;by_cases h:y=m
  ·subst h;rw[dB]at a;injection a with a;subst a;exact .inl ⟨0,_,rfl,rfl,rfl⟩
  ·rw[cI _ _ h]at a;by_cases i:y=d
   ·subst i;rw[dB]at a;cases a
   ·rw[cI _ _ i]at a;exact .inr ⟨a,v y h i⟩
 ·have t:b=1∨b=2:=oT;have w:∀j,j=Gg (λz=>match z with|0=>m|_=>d) 2 aq b->(j=d∨j=aq)->∃D,((uW (Gg (λz=>match z with|0=>m|_=>d) 2 aq) (.E [])=.E [])∧p' (ao K d none) m d aq c (.X 2 q n) (.X 2 r o) (.X 9 s p) D)∧∀y blk,D y=some blk->(∃x l,ap [(0,.box (ax c (.S b A.length c.Z.length k) (.X 2 q n) (.X 2 r o) (.X 9 s p))),(b,.arr ((A++c.Z++B).map aj) 17)] x=some l∧y=Gg (λz=>match z with|0=>m|_=>d) 2 aq x∧blk=DI (Gg (λz=>match z with|0=>m|_=>d) 2 aq) l)∨(K y=some blk∧∀x,x<2->(λz=>match z with|0=>m|_=>d) x≠y):=by
   intro j u I;refine⟨_,⟨rfl,.inr ⟨j,A,B,k,I,Q,rfl⟩⟩,λy blk a=>?_⟩;by_cases J:y=j
   ·subst J;rw[dB]at a;injection a with a;subst a;refine .inl ⟨b,.arr ((A++c.Z++B).map aj) 17,?_,u,rfl⟩;rcases t with rfl|rfl<;>rfl
   ·rw[cI _ _ J]at a;by_cases h:y=m
    ·subst h;rw[dB]at a;injection a with a;subst a;refine .inl ⟨0,_,rfl,rfl,?_⟩;rw[u];rfl
    ·rw[cI _ _ h]at a;by_cases i:y=d
     ·subst i;rw[dB]at a;cases a
     ·rw[cI _ _ i]at a;exact .inr ⟨a,v y h i⟩
  rcases t with rfl|rfl
  ·exact w d rfl (.inl rfl)
  ·exact w aq rfl (.inr rfl)
def y_{f}{d}{n}{c}{i j l}{o p q}{rows}(H:pM C0.P C0.G f [.ptr 0 0] (ap [(0,d)]) 1 (λx h'=>x=.E []∧h'=ap [(0,.box (ax c (.S 1 0 n false) (.X 2 o i) (.X 2 p j) (.X 9 q l))),(1,.arr rows 17)]))(m)(K)(aq)(r:iy (λ_=>m) K 1 aq [(0,d)]):
  pM C0.P C0.G f [.ptr m 0] K aq (λx h'=>x=.E []∧h'=ao (ao K m (some (.box (ax c (.S aq 0 n false) (.X 2 o i) (.X 2 p j) (.X 9 q l))))) aq (some (.arr rows 17))):=by
 refine H.ZF (λ_=>m) K aq rfl r rfl rfl _ λt h' s=>?_;obtain⟨rfl,rfl⟩:=s;refine⟨_,a9,λy blk a=>?_⟩;by_cases h:y=aq
 ·subst h;rw[dB]at a;injection a with a;subst a;exact .inl ⟨1,_,rfl,(lk _ _ _).symm,rfl⟩
 rw[cI _ _ h]at a;by_cases b:y=m
 ·subst b;rw[dB]at a;injection a with a;subst a;exact .inl ⟨0,_,rfl,rfl,rfl⟩
 rw[cI _ _ b]at a;exact .inr ⟨a,λx _ e=>b e.symm⟩
open Go.Proofs.Tryz
set_option maxRecDepth 100000
set_option maxHeartbeats 4000000
def s0(c:Co):Co:={c with ZY:=wrap64 (c.ZY+1)}
def s1(c:Co):Co:=lM (s0 c)
def aq(c:Co):Co:=kK (s1 c)
def s3(c:Co):Co:=ei (aq c)
def dj(c:Co):Co:=gY (s3 c)
def ea(c:Co):Co:=lP (dj c)
def cq(c:Co):Co:=eN (ea c)
def eb(c:Co):Co:=tY (cq c)
def TM(c:Co):ed c=eb c:=rfl
def y5{c:Co}{n:Nat}(h:c.I n):(s0 c).I n:=⟨⟨h.ok.U,h.ok.prog,h.ok.Z5,h.ok.r,h.ok.M,h.ok.Z6,h.ok.ZV,h.ok.Z,h.ok.Z8,h.ok.Z_,h.ok.Z2,h.ok.data,h.ok.C,h.ok.Y,h.ok.a,h.ok.asked,h.ok.ZZ,h.ok.mem,h.ok.N,h.ok.ret,h.ok.ZU⟩,h.nb,h.cf,h.data,h.C,h.N,h.Z,h.Z6,h.Z_,h.prog,h.mem,h.ZM⟩
structure sn(c:Co)(n:Nat):Prop where
 k0:(s0 c).I n
 k1:(s1 c).I (n+1)
 k2:(aq c).I (n+1)
 k3:(s3 c).I (n+5)
 k4:(dj c).I (n+7)
 k5:(ea c).I (n+7)
 k6:(cq c).I (n+8)
 k7:(eb c).I (n+10)
def Ql{c}{n}(h:c.I n)(l:n+20<=890000):sn c n:=by
 have a:=y5 h;have b:(s1 c).I (n+1):=LH a ad;have d:(aq c).I (n+1):=LJ b;have e:(s3 c).I (n+5):=Ih d ad;have f:(dj c).I (n+7):=JX e ad;have i:(ea c).I (n+7):=(Ai f).1;have j:(cq c).I (n+8):=(uX i ad).1;exact⟨a,b,d,e,f,i,j,(wX j ad).1⟩
def xX{c}{n}(h:c.ok n)(a:n+20<=890000):(uG c).ok (n+10):=by
 unfold uG;split
 ·rename_i b;rw[TM];exact(Ql (EL h ad b) a).k7.ok
 exact⟨h.U,h.prog,h.Z5,h.r,h.M,h.Z6,h.ZV,h.Z,h.Z8,h.Z_,h.Z2,h.data,h.C,aL h.Y ad,h.a,h.asked,h.ZZ,h.mem,h.N,aL h.ret ad,h.ZU⟩
def Ie{c}{R b F a S d T e}(h:R=b)(f:F=a)(i:S=d)(j:T=e):some (bh.box (ax c R F S T))=some (bh.box (ax c b a d e)):=by rw[h,f,i,j]
inductive p0 where
 |e0|o0|e1|o1|e2
 |o2 (A B:List ai) (k:Bool)
 |e3
 |o3 (A B:List ai) (k:Bool)
 |s4|s5|s6|s7
def zu(c)(n)(d:c.I n)(f:c.Z≠[])(i h j m):pM C0.P C0.G 37 [.ptr 0 0] (ap [(0,.box (ax c (.X 17 (c.Z.map aj) i) (.X 2 (c.Q.map a4) h) (.X 2 (c.W.map aw) j) (.X 9 (c.O.map bg) m)))]) 1 (λx h'=>x=.E []∧h'=ap [(0,.box (ax c (.S 1 0 c.Z.length false) (.X 2 (c.Q.map a4) true) (.X 2 (c.W.map aw) true) (.X 9 (c.O.map bg) true))),(1,.arr (c.Z.map aj) 17)]):=by
 let⟨e,l,a⟩:=List.exists_cons_of_ne_nil f;have b:=d.Z;rw[a]at b⊢;exact A' c n d e l b i h j m
def WI(c)(m)(o:c.I m)(A B)(lo n)(l)(j:A.length=lo)(p:c.Z.length=n)(hA:A.length+n+B.length<=1000)(f:∀x∈A,x.ok)(h:∀x∈B,x.ok)(a b)(d e):pM C0.P C0.G 39 [.ptr 0 0] (ap [(0,.box (ax c (.S 1 lo n l) (.X 2 (c.Q.map a4) true) (.X 2 d a) (.X 9 e b))),(1,.arr ((A++c.Z++B).map aj) 17)]) 2 (λx h'=>x=.E []∧VF 2 (kK c) (.X 2 ((kK c).Q.map a4) true) (.X 2 d a) (.X 9 e b) h'):=by
 cases q:yD (br c)with
 |none=>exact WP c m o A B lo n l j p hA f h q a b d e
 |some i=>exact WQ c m o A B lo n l j p hA f h i q a b d e
def Qm{α}{l m:List α}(h:l=[])(e:m.length=l.length):[]=m:=by
 subst h;exact(g3 e).symm
def VB{b}(h:(!b)=true): ¬b=true:=by cases b<;>simp_all
def y6(c)(a)(b:c.ok a)(f:a+20<=890000)(d:jF c=false):bI C0 13 [.agg (gr c)] (.agg (gr (uG c))):=by
 refine e_ func13 rfl<|zC (Ip c a b ad)<|aV rfl (λ_=>?_) (λe=>by exact absurd (dQ (sI e)) (by rw[d];decide));refine P1 0 rfl<|a_ rfl<|dc 0 rfl ?_;rw[show uG c=c from dZ (by rw[d];decide)];exact dK rfl hD rfl rfl
noncomputable def By:Code->Code
 | .seq a _=>a
 |c=>c
noncomputable def WJ:Code->Code
 | .seq _ b=>b
 |c=>c
noncomputable def WK:Code:=(WJ (By (WJ (WJ (WJ (WJ (WJ (WJ (Tryz.f13.body.getD .skip)))))))))
abbrev tZ(c:Co):p0->a2:=λb=>match b with| .e0=>⟨be [(2,.ptr 1 0),(9,vB (!(jF c))),(3,.ptr 7 0),(21,.agg [.F 38 [] [],.F 39 [] [],.F 40 [] [],.F 41 [] [],.F 42 [] [],.F 43 [] [],.F 44 [] []]),(22,vI 0)],ap [(1,.box hM),(7,.box (ax (s0 c) (.X 17 ([]) false) (.X 2 ((s0 c).Q.map a4) true) (.X 2 ((s0 c).W.map aw) true) (.X 9 ((s0 c).O.map bg) true)))],23⟩| .o0=>⟨be [(2,.ptr 1 0),(9,vB (!(jF c))),(3,.ptr 7 0),(21,.agg [.F 38 [] [],.F 39 [] [],.F 40 [] [],.F 41 [] [],.F 42 [] [],.F 43 [] [],.F 44 [] []]),(22,vI 0)],ap [(1,.box hM),(7,.box (ax (s0 c) (.S 22 0 c.Z.length false) (.X 2 ((s0 c).Q.map a4) true) (.X 2 ((s0 c).W.map aw) true) (.X 9 ((s0 c).O.map bg) true))),(22,.arr ((([]:List ai)++(s0 c).Z++[]).map aj) 17)],23⟩| .e1=>⟨be [(2,.ptr 1 0),(9,vB (!(jF c))),(3,.ptr 7 0),(21,.agg [.F 38 [] [],.F 39 [] [],.F 40 [] [],.F 41 [] [],.F 42 [] [],.F 43 [] [],.F 44 [] []]),(22,vI 1)],ap [(1,.box hM),(7,.box (ax (s1 c) (.X 17 ([]) false) (.X 2 ((s1 c).Q.map a4) true) (.X 2 ((s1 c).W.map aw) true) (.X 9 ((s1 c).O.map bg) true)))],23⟩| .o1=>⟨be [(2,.ptr 1 0),(9,vB (!(jF c))),(3,.ptr 7 0),(21,.agg [.F 38 [] [],.F 39 [] [],.F 40 [] [],.F 41 [] [],.F 42 [] [],.F 43 [] [],.F 44 [] []]),(22,vI 1)],ap [(1,.box hM),(7,.box (ax (s1 c) (.S 22 0 c.Z.length false) (.X 2 ((s1 c).Q.map a4) true) (.X 2 ((s1 c).W.map aw) true) (.X 9 ((s1 c).O.map bg) true))),(22,.arr ((([]:List ai)++(s1 c).Z++[]).map aj) 17)],23⟩| .e2=>⟨be [(2,.ptr 1 0),(9,vB (!(jF c))),(3,.ptr 7 0),(21,.agg [.F 38 [] [],.F 39 [] [],.F 40 [] [],.F 41 [] [],.F 42 [] [],.F 43 [] [],.F 44 [] []]),(22,vI 2)],ap [(1,.box hM),(7,.box (ax (aq c) (.X 17 ([]) false) (.X 2 ((aq c).Q.map a4) true) (.X 2 ((aq c).W.map aw) true) (.X 9 ((aq c).O.map bg) true)))],23⟩| .o2 A B a=>⟨be [(2,.ptr 1 0),(9,vB (!(jF c))),(3,.ptr 7 0),(21,.agg [.F 38 [] [],.F 39 [] [],.F 40 [] [],.F 41 [] [],.F 42 [] [],.F 43 [] [],.F 44 [] []]),(22,vI 2)],ap [(1,.box hM),(7,.box (ax (aq c) (.S 22 A.length ((aq c).Z.length) a) (.X 2 ((aq c).Q.map a4) true) (.X 2 ((aq c).W.map aw) true) (.X 9 ((aq c).O.map bg) true))),(22,.arr ((A++(aq c).Z++B).map aj) 17)],23⟩| .e3=>⟨be [(2,.ptr 1 0),(9,vB (!(jF c))),(3,.ptr 7 0),(21,.agg [.F 38 [] [],.F 39 [] [],.F 40 [] [],.F 41 [] [],.F 42 [] [],.F 43 [] [],.F 44 [] []]),(22,vI 3)],ap [(1,.box hM),(7,.box (ax (s3 c) (.X 17 ([]) false) (.X 2 ((s3 c).Q.map a4) true) (.X 2 ((s3 c).W.map aw) false) (.X 9 ((s3 c).O.map bg) false)))],23⟩| .o3 A B a=>⟨be [(2,.ptr 1 0),(9,vB (!(jF c))),(3,.ptr 7 0),(21,.agg [.F 38 [] [],.F 39 [] [],.F 40 [] [],.F 41 [] [],.F 42 [] [],.F 43 [] [],.F 44 [] []]),(22,vI 3)],ap [(1,.box hM),(7,.box (ax (s3 c) (.S 22 A.length ((s3 c).Z.length) a) (.X 2 ((s3 c).Q.map a4) true) (.X 2 ((s3 c).W.map aw) false) (.X 9 ((s3 c).O.map bg) false))),(22,.arr ((A++(s3 c).Z++B).map aj) 17)],23⟩| .s4=>⟨be [(2,.ptr 1 0),(9,vB (!(jF c))),(3,.ptr 7 0),(21,.agg [.F 38 [] [],.F 39 [] [],.F 40 [] [],.F 41 [] [],.F 42 [] [],.F 43 [] [],.F 44 [] []]),(22,vI 4)],ap [(1,.box hM),(7,.box (ax (dj c) (.X 17 ((dj c).Z.map aj) false) (.X 2 ((dj c).Q.map a4) true) (.X 2 ((dj c).W.map aw) false) (.X 9 ((dj c).O.map bg) false)))],23⟩| .s5=>⟨be [(2,.ptr 1 0),(9,vB (!(jF c))),(3,.ptr 7 0),(21,.agg [.F 38 [] [],.F 39 [] [],.F 40 [] [],.F 41 [] [],.F 42 [] [],.F 43 [] [],.F 44 [] []]),(22,vI 5)],ap [(1,.box hM),(7,.box (ax (ea c) (.X 17 ((ea c).Z.map aj) false) (.X 2 ((ea c).Q.map a4) true) (.X 2 ((ea c).W.map aw) false) (.X 9 ((ea c).O.map bg) false)))],23⟩| .s6=>⟨be [(2,.ptr 1 0),(9,vB (!(jF c))),(3,.ptr 7 0),(21,.agg [.F 38 [] [],.F 39 [] [],.F 40 [] [],.F 41 [] [],.F 42 [] [],.F 43 [] [],.F 44 [] []]),(22,vI 6)],ap [(1,.box hM),(7,.box (ax (cq c) (.X 17 ((cq c).Z.map aj) false) (.X 2 ((cq c).Q.map a4) false) (.X 2 ((cq c).W.map aw) false) (.X 9 ((cq c).O.map bg) false)))],23⟩| .s7=>⟨be [(2,.ptr 1 0),(9,vB (!(jF c))),(3,.ptr 7 0),(21,.agg [.F 38 [] [],.F 39 [] [],.F 40 [] [],.F 41 [] [],.F 42 [] [],.F 43 [] [],.F 44 [] []]),(22,vI 7)],ap [(1,.box hM),(7,.box (ax (eb c) (.X 17 ((eb c).Z.map aj) false) (.X 2 ((eb c).Q.map a4) false) (.X 2 ((eb c).W.map aw) false) (.X 9 ((eb c).O.map bg) false)))],23⟩
abbrev t_(c:Co):p0->Prop:=λa=>match a with| .e0=>(s0 c).Z=[]| .e1=>(s1 c).Z=[]| .e2=>(aq c).Z=[]| .e3=>(s3 c).Z=[]| .o2 A B _=>A.length+(aq c).Z.length+B.length<=1000| .o3 A B _=>A.length+(s3 c).Z.length+B.length<=1000|_=>True
abbrev BY:p0->Nat:=λa=>match a with| .e0| .o0=>7| .e1| .o1=>6| .e2| .o2 _ _ _=>5| .e3| .o3 _ _ _=>4| .s4=>3| .s5=>2| .s6=>1| .s7=>0
def MJ(c)(b)(n:c.I b)(t:b+20<=890000)(a:sn c b){Q}(p:∀l o,c1 l ⟨be [(2,.ptr 1 0),(3,.ptr 7 0)],ap [(1,.box hM),(7,.box (ax (eb c) (.X 17 ((eb c).Z.map aj) false) (.X 2 ((eb c).Q.map a4) false) (.X 2 ((eb c).W.map aw) false) (.X 9 ((eb c).O.map bg) false)))],23⟩ o->Q .normal l)(m)(h:t_ c m){st}(σ)(q:c1 st (tZ c m) σ):eA C1 (bI C1) WK st Q:=by
 refine kO<|sX (tZ c) (t_ c) BY m (σ) q rfl h ?_;intro r j;rcases r with _|_|_|_|_|⟨A,B,d⟩|_|⟨A,B,d⟩|_|_|_|_
 ·have e:(s0 c).Z=[]:=j;refine bq<|rV (vB true) rfl<|rE 24<|uR<|aV rfl (λ_=>?_) nofun;refine mF<|uR<|kO<|bq<|nW (.F 38 [] []) rfl rfl (⟨dT,dT⟩)<|oR 1 rfl<|rE 26<|a8<|oR 1 rfl<|fU _ rfl rfl rfl ((WO (s0 c) b a.k0 e true true true ((s0 c).Q.map a4) ((s0 c).O.map bg)).fB (λ_=>7)) ?_;rintro _ _ ⟨rfl,rfl⟩;refine rE 28<|a8<|rV (vI 1) rfl<|oR 1 rfl<|rE 30<|.mk _ (.refl _) ⟨.e1,λi=>i,av _ wT ⟨⟨rfl,rfl,rfl⟩,⟨rfl,(Ie rfl (az (λz:List Ft=>AV.X 2 (z.map a4) true) (show(s0 c).Q=(s1 c).Q from((rG (s0 c)).1).symm)) (az (λz:List Pt=>AV.X 2 (z.map aw) true) (show(s0 c).W=(s1 c).W from((rG (s0 c)).2.1).symm)) (az (λz:List Sp=>AV.X 9 (z.map bg) true) (show(s0 c).O=(s1 c).O from((rG (s0 c)).2.2.1).symm))),rfl⟩,trivial⟩ rfl,rfl,(Qm e (rG (s0 c)).2.2.2).symm,by show(6:Nat)<7;decide⟩
 ·refine bq<|rV (vB true) rfl<|rE 24<|uR<|aV rfl (λ_=>?_) nofun;refine mF<|uR<|kO<|bq<|nW (.F 38 [] []) rfl rfl (⟨dT,dT⟩)<|oR 1 rfl<|rE 26<|a8<|oR 1 rfl<|fU _ rfl rfl rfl ((za (s0 c) b a.k0 [] [] 0 c.Z.length false rfl rfl (by have:=n.Z;simpa using this) true true true ((s0 c).Q.map a4) ((s0 c).O.map bg)).Y3 (λz=>match z with|0=>7|_=>22)) ?_;rintro _ _ ⟨rfl,rfl⟩;refine rE 28<|a8<|rV (vI 1) rfl<|oR 1 rfl<|rE 30<|.mk _ (.refl _) ⟨.o1,λi=>i,av _ wT ⟨⟨rfl,rfl,rfl⟩,⟨rfl,(Ie rfl (az (λz:List Ft=>AV.X 2 (z.map a4) true) (show(s0 c).Q=(s1 c).Q from((rG (s0 c)).1).symm)) (az (λz:List Pt=>AV.X 2 (z.map aw) true) (show(s0 c).W=(s1 c).W from((rG (s0 c)).2.1).symm)) (az (λz:List Sp=>AV.X 9 (z.map bg) true) (show(s0 c).O=(s1 c).O from((rG (s0 c)).2.2.1).symm))),rfl⟩,⟨rfl,rfl,rfl⟩,trivial⟩ rfl,rfl,trivial,by show(6:Nat)<7;decide⟩
 ·have e:(s1 c).Z=[]:=j;refine bq<|rV (vB true) rfl<|rE 24<|uR<|aV rfl (λ_=>?_) nofun;refine mF<|uR<|kO<|bq<|nW (.F 39 [] []) rfl rfl (⟨dT,dT⟩)<|oR 1 rfl<|rE 26<|a8<|oR 1 rfl<|fU _ rfl rfl rfl (Qp (WR (s1 c) (b+1) a.k1 e true true ((s1 c).W.map aw) ((s1 c).O.map bg)) 7 _ _ ⟨d8,trivial⟩) ?_;rintro _ _ ⟨rfl,⟨h,rfl⟩|⟨_,A,B,d,rfl|rfl,f,rfl⟩⟩
  ·refine rE 28<|a8<|rV (vI 2) rfl<|oR 1 rfl<|rE 30<|.mk _ (.refl _) ⟨.e2,λi=>i,av _ wT ⟨c9,⟨rfl,(Ie rfl rfl (az (λz:List Pt=>AV.X 2 (z.map aw) true) (show(s1 c).W=(aq c).W from((mC (s1 c)).1).symm)) (az (λz:List Sp=>AV.X 9 (z.map bg) true) (show(s1 c).O=(aq c).O from((mC (s1 c)).2).symm))),rfl⟩,trivial⟩ rfl,rfl,h,by show(5:Nat)<6;decide⟩
  all_goals (refine rE 28<|a8<|rV (vI 2) rfl<|oR 1 rfl<|rE 30<|.mk _ (.refl _) ⟨(.o2 A B d),λi=>match i with|22=>27|i=>i,av _ wT ⟨c9,⟨rfl,(Ie rfl rfl (az (λz:List Pt=>AV.X 2 (z.map aw) true) (show(s1 c).W=(aq c).W from((mC (s1 c)).1).symm)) (az (λz:List Sp=>AV.X 9 (z.map bg) true) (show(s1 c).O=(aq c).O from((mC (s1 c)).2).symm))),rfl⟩,c9,trivial⟩ rfl,rfl,f,by show(5:Nat)<6;decide⟩)
 ·refine bq<|rV (vB true) rfl<|rE 24<|uR<|aV rfl (λ_=>?_) nofun;refine mF<|uR<|kO<|bq<|nW (.F 39 [] []) rfl rfl (⟨dT,dT⟩)<|oR 1 rfl<|rE 26<|a8<|oR 1 rfl<|fU _ rfl rfl rfl (Qq (WI (s1 c) (b+1) a.k1 [] [] 0 c.Z.length false rfl (rG (s0 c)).2.2.2 (by have:=n.Z;simpa using this) nofun nofun true true ((s1 c).W.map aw) ((s1 c).O.map bg)) 7 22 _ _ ⟨d8,d8,trivial⟩ dT) ?_;rintro _ _ ⟨rfl,⟨h,rfl⟩|⟨_,A,B,d,rfl|rfl,f,rfl⟩⟩
  ·refine rE 28<|a8<|rV (vI 2) rfl<|oR 1 rfl<|rE 30<|.mk _ (.refl _) ⟨.e2,λi=>i,av _ wT ⟨c9,⟨rfl,(Ie rfl rfl (az (λz:List Pt=>AV.X 2 (z.map aw) true) (show(s1 c).W=(aq c).W from((mC (s1 c)).1).symm)) (az (λz:List Sp=>AV.X 9 (z.map bg) true) (show(s1 c).O=(aq c).O from((mC (s1 c)).2).symm))),rfl⟩,trivial⟩ rfl,rfl,h,by show(5:Nat)<6;decide⟩
  ·refine rE 28<|a8<|rV (vI 2) rfl<|oR 1 rfl<|rE 30<|.mk _ (.refl _) ⟨(.o2 A B d),λi=>i,av _ wT ⟨c9,⟨rfl,(Ie rfl rfl (az (λz:List Pt=>AV.X 2 (z.map aw) true) (show(s1 c).W=(aq c).W from((mC (s1 c)).1).symm)) (az (λz:List Sp=>AV.X 9 (z.map bg) true) (show(s1 c).O=(aq c).O from((mC (s1 c)).2).symm))),rfl⟩,c9,trivial⟩ rfl,rfl,f,by show(5:Nat)<6;decide⟩
  refine rE 28<|a8<|rV (vI 2) rfl<|oR 1 rfl<|rE 30<|.mk _ (.refl _) ⟨(.o2 A B d),λi=>match i with|22=>27|i=>i,av _ wT ⟨c9,⟨rfl,(Ie rfl rfl (az (λz:List Pt=>AV.X 2 (z.map aw) true) (show(s1 c).W=(aq c).W from((mC (s1 c)).1).symm)) (az (λz:List Sp=>AV.X 9 (z.map bg) true) (show(s1 c).O=(aq c).O from((mC (s1 c)).2).symm))),rfl⟩,c9,trivial⟩ rfl,rfl,f,by show(5:Nat)<6;decide⟩
 ·have e:(aq c).Z=[]:=j;refine bq<|rV (vB true) rfl<|rE 24<|uR<|aV rfl (λ_=>?_) nofun;refine mF<|uR<|kO<|bq<|nW (.F 40 [] []) rfl rfl (⟨dT,dT⟩)<|oR 1 rfl<|rE 26<|a8<|oR 1 rfl<|fU _ rfl rfl rfl (Qp (Qu (aq c) (b+1) a.k2 e) 7 _ _ ⟨d8,trivial⟩) ?_;rintro _ _ ⟨rfl,⟨h,rfl⟩|⟨_,A,B,d,rfl|rfl,f,rfl⟩⟩
  ·refine rE 28<|a8<|rV (vI 3) rfl<|oR 1 rfl<|rE 30<|.mk _ (.refl _) ⟨.e3,λi=>i,av _ wT ⟨c9,⟨rfl,(Ie rfl rfl rfl rfl),rfl⟩,trivial⟩ rfl,rfl,h,by show(4:Nat)<5;decide⟩
  all_goals (refine rE 28<|a8<|rV (vI 3) rfl<|oR 1 rfl<|rE 30<|.mk _ (.refl _) ⟨(.o3 A B d),λi=>match i with|22=>27|i=>i,av _ wT ⟨c9,⟨rfl,(Ie rfl rfl rfl rfl),rfl⟩,c9,trivial⟩ rfl,rfl,f,by show(4:Nat)<5;decide⟩)
 ·have e:A.length+(aq c).Z.length+B.length<=1000:=j;refine bq<|rV (vB true) rfl<|rE 24<|uR<|aV rfl (λ_=>?_) nofun;refine mF<|uR<|kO<|bq<|nW (.F 40 [] []) rfl rfl (⟨dT,dT⟩)<|oR 1 rfl<|rE 26<|a8<|oR 1 rfl<|fU _ rfl rfl rfl (Qq (TW (aq c) (b+1) a.k2 ad A B A.length (aq c).Z.length d rfl rfl e) 7 22 _ _ ⟨d8,d8,trivial⟩ dT) ?_;rintro _ _ ⟨rfl,⟨h,rfl⟩|⟨_,A,B,d,rfl|rfl,f,rfl⟩⟩
  ·refine rE 28<|a8<|rV (vI 3) rfl<|oR 1 rfl<|rE 30<|.mk _ (.refl _) ⟨.e3,λi=>i,av _ wT ⟨c9,⟨rfl,(Ie rfl rfl rfl rfl),rfl⟩,trivial⟩ rfl,rfl,h,by show(4:Nat)<5;decide⟩
  ·refine rE 28<|a8<|rV (vI 3) rfl<|oR 1 rfl<|rE 30<|.mk _ (.refl _) ⟨(.o3 A B d),λi=>i,av _ wT ⟨c9,⟨rfl,(Ie rfl rfl rfl rfl),rfl⟩,c9,trivial⟩ rfl,rfl,f,by show(4:Nat)<5;decide⟩
  refine rE 28<|a8<|rV (vI 3) rfl<|oR 1 rfl<|rE 30<|.mk _ (.refl _) ⟨(.o3 A B d),λi=>match i with|22=>27|i=>i,av _ wT ⟨c9,⟨rfl,(Ie rfl rfl rfl rfl),rfl⟩,c9,trivial⟩ rfl,rfl,f,by show(4:Nat)<5;decide⟩
 ·have e:(s3 c).Z=[]:=j;refine bq<|rV (vB true) rfl<|rE 24<|uR<|aV rfl (λ_=>?_) nofun;refine mF<|uR<|kO<|bq<|nW (.F 41 [] []) rfl rfl (⟨dT,dT⟩)<|oR 1 rfl<|rE 26<|a8<|oR 1 rfl<|fU _ rfl rfl rfl ((TX (s3 c) (b+5) a.k3 e true false false ((s3 c).Q.map a4) ((s3 c).O.map bg)).fB (λ_=>7)) ?_;rintro _ _ ⟨rfl,rfl⟩;refine rE 28<|a8<|rV (vI 4) rfl<|oR 1 rfl<|rE 30<|.mk _ (.refl _) ⟨.s4,λi=>i,av _ wT ⟨⟨rfl,rfl,rfl⟩,⟨rfl,(Ie (az (λz:List ai=>AV.X 17 (z.map aj) false) (Qm e (nO a.k3 ad).1)) (az (λz:List Ft=>AV.X 2 (z.map a4) true) (show(s3 c).Q=(dj c).Q from((nO a.k3 ad).2.2.1).symm)) rfl (az (λz:List Sp=>AV.X 9 (z.map bg) false) (show(s3 c).O=(dj c).O from((nO a.k3 ad).2.2.2).symm))),rfl⟩,trivial⟩ rfl,rfl,trivial,by show(3:Nat)<4;decide⟩
 ·refine bq<|rV (vB true) rfl<|rE 24<|uR<|aV rfl (λ_=>?_) nofun;refine mF<|uR<|kO<|bq<|nW (.F 41 [] []) rfl rfl (⟨dT,dT⟩)<|oR 1 rfl<|rE 26<|a8<|oR 1 rfl<|fU _ rfl rfl rfl ((WU (s3 c) (b+5) a.k3 ad A B A.length (s3 c).Z.length d true false false ((s3 c).Q.map a4) ((s3 c).O.map bg) rfl rfl j).Y3 (λz=>match z with|0=>7|_=>22)) ?_;rintro _ _ ⟨rfl,rfl⟩;refine rE 28<|a8<|rV (vI 4) rfl<|oR 1 rfl<|rE 30<|.mk _ (.step (some (22,17,(A++(dj c).Z++B).map aj)) (e' (l:=[(2,.ptr 1 0),(9,vB (!(jF c))),(3,.ptr 7 0),(21,.agg [.F 38 [] [],.F 39 [] [],.F 40 [] [],.F 41 [] [],.F 42 [] [],.F 43 [] [],.F 44 [] []]),(22,vI 4)]) (hp:=[(1,.box hM),(7,.box (ax (dj c) (.X 17 ((((A++(dj c).Z++B).drop A.length).take (s3 c).Z.length).map aj) false) (.X 2 ((s3 c).Q.map a4) true) (.X 2 ((dj c).W.map aw) false) (.X 9 ((s3 c).O.map bg) false)))]) rfl jr ⟨⟨rfl,_,rfl,.refl _⟩,⟨rfl,_,rfl,fc.ZP (qQ (Iy (by simp only[aU];have:=(nO a.k3 ad).1;show A.length+(s3 c).Z.length<=A.length+(gY (s3 c)).Z.length+B.length;omega)) (.refl _) (.refl _) (.refl _))⟩,trivial⟩) (.refl _)) ⟨.s4,λi=>i,av _ wT ⟨c9,⟨rfl,(Ie (az (λz:List ai=>AV.X 17 (z.map aj) false) (Qs rfl (nO a.k3 ad).1)) (az (λz:List Ft=>AV.X 2 (z.map a4) true) (show(s3 c).Q=(dj c).Q from((nO a.k3 ad).2.2.1).symm)) rfl (az (λz:List Sp=>AV.X 9 (z.map bg) false) (show(s3 c).O=(dj c).O from((nO a.k3 ad).2.2.2).symm))),rfl⟩,trivial⟩ rfl,rfl,trivial,by show(3:Nat)<4;decide⟩
 ·refine bq<|rV (vB true) rfl<|rE 24<|uR<|aV rfl (λ_=>?_) nofun;refine mF<|uR<|kO<|bq<|nW (.F 42 [] []) rfl rfl (⟨dT,dT⟩)<|oR 1 rfl<|rE 26<|a8<|oR 1 rfl<|fU _ rfl rfl rfl ((WW (dj c) (b+7) a.k4 false ((dj c).W.map aw) false ((dj c).O.map bg)).fB (λ_=>7)) ?_;rintro _ _ ⟨rfl,rfl⟩;refine rE 28<|a8<|rV (vI 5) rfl<|oR 1 rfl<|rE 30<|.mk _ (.refl _) ⟨.s5,λi=>i,av _ wT ⟨⟨rfl,rfl,rfl⟩,⟨rfl,(Ie rfl rfl (az (λz:List Pt=>AV.X 2 (z.map aw) false) (show(dj c).W=(ea c).W from((Ai a.k4).2.1).symm)) (az (λz:List Sp=>AV.X 9 (z.map bg) false) (show(dj c).O=(ea c).O from((Ai a.k4).2.2).symm))),rfl⟩,trivial⟩ rfl,rfl,trivial,by show(2:Nat)<3;decide⟩
 ·refine bq<|rV (vB true) rfl<|rE 24<|uR<|aV rfl (λ_=>?_) nofun;refine mF<|uR<|kO<|bq<|nW (.F 43 [] []) rfl rfl (⟨dT,dT⟩)<|oR 1 rfl<|rE 26<|a8<|oR 1 rfl<|fU _ rfl rfl rfl ((TZ (ea c) (b+7) a.k5 false ((ea c).Z.map aj) false ((ea c).W.map aw) false ((ea c).O.map bg)).fB (λ_=>7)) ?_;rintro _ _ ⟨rfl,rfl⟩;refine rE 28<|a8<|rV (vI 6) rfl<|oR 1 rfl<|rE 30<|.mk _ (.refl _) ⟨.s6,λi=>i,av _ wT ⟨⟨rfl,rfl,rfl⟩,⟨rfl,(Ie (az (λz:List ai=>AV.X 17 (z.map aj) false) (show(ea c).Z=(cq c).Z from((uX a.k5 ad).2.2.2).symm)) rfl (az (λz:List Pt=>AV.X 2 (z.map aw) false) (show(ea c).W=(cq c).W from((uX a.k5 ad).2.1).symm)) (az (λz:List Sp=>AV.X 9 (z.map bg) false) (show(ea c).O=(cq c).O from((uX a.k5 ad).2.2.1).symm))),rfl⟩,trivial⟩ rfl,rfl,trivial,by show(1:Nat)<2;decide⟩
 ·refine bq<|rV (vB true) rfl<|rE 24<|uR<|aV rfl (λ_=>?_) nofun;refine mF<|uR<|kO<|bq<|nW (.F 44 [] []) rfl rfl (⟨dT,dT⟩)<|oR 1 rfl<|rE 26<|a8<|oR 1 rfl<|fU _ rfl rfl rfl ((WY (cq c) (b+8) a.k6 ad false ((cq c).Z.map aj) false ((cq c).Q.map a4) false ((cq c).O.map bg)).fB (λ_=>7)) ?_;rintro _ _ ⟨rfl,rfl⟩;refine rE 28<|a8<|rV (vI 7) rfl<|oR 1 rfl<|rE 30<|.mk _ (.refl _) ⟨.s7,λi=>i,av _ wT ⟨⟨rfl,rfl,rfl⟩,⟨rfl,(Ie (az (λz:List ai=>AV.X 17 (z.map aj) false) (show(cq c).Z=(eb c).Z from((wX a.k6 ad).2.2.2).symm)) (az (λz:List Ft=>AV.X 2 (z.map a4) false) (show(cq c).Q=(eb c).Q from((wX a.k6 ad).2.1).symm)) rfl (az (λz:List Sp=>AV.X 9 (z.map bg) false) (show(cq c).O=(eb c).O from((wX a.k6 ad).2.2.1).symm))),rfl⟩,trivial⟩ rfl,rfl,trivial,by show(0:Nat)<1;decide⟩
 exact bq<|rV (vB false) rfl<|rE 24<|uR<|aV rfl nofun (λ_=>(Bh<|p _ (λs=>s) (av (λs=>s) wT wH rfl)))
def y7(c)(a)(b:c.ok a)(i:a+20<=890000)(e:jF c=true)(f:c.Z=[]):bI C0 13 [.agg (gr c)] (.agg (gr (uG c))):=by
 apply dJ func13 ?_;have d:=EL b ad e;refine bq<|e4 0 rfl rfl<|e4 1 rfl rfl<|rE 2<|uR<|bq<|oR 1 rfl<|a1 rfl (Ip c a b ad)<|oR 1 rfl<|rE 5<|aV rfl (λl=>by exact absurd e (VB l)) (λ_=>?_);refine mF<|bq<|oR 1 rfl<|rV (.agg (gr c)) rfl<|e4 7 rfl rfl<|a_ rfl<|rE 9<|bq<|fU _ rfl rfl rfl ((show pM C0.P C0.G 37 [.ptr 0 0] (ap [(0,.box (ax c (.X 17 (c.Z.map aj) false) (.X 2 (c.Q.map a4) false) (.X 2 (c.W.map aw) false) (.X 9 (c.O.map bg) false)))]) 1 _ from by rw[f];exact A_ c a d false false false false).fB (λ_=>7)) ?_;rintro _ _ ⟨rfl,rfl⟩;refine rE 10<|bq<|oR 3 rfl<|rW (vI (wrap64 (c.ZY+1))) rfl (ar (af _))<|oR 2 rfl<|a_ rfl<|rE 17<|bq<|rV (.agg [.F 38 [] [],.F 39 [] [],.F 40 [] [],.F 41 [] [],.F 42 [] [],.F 43 [] [],.F 44 [] []]) rfl<|e4 18 rfl rfl<|a_ rfl<|rE 20<|Fq (κ:=Unit) (λj=>⟨be [(2,.ptr 1 0),(3,.ptr 7 0)],ap [(1,.box hM),(7,.box (ax (eb c) (.X 17 ((eb c).Z.map aj) false) (.X 2 ((eb c).Q.map a4) false) (.X 2 ((eb c).W.map aw) false) (.X 9 ((eb c).O.map bg) false)))],23⟩) (λj=>True) ?_ ?_
 ·refine bq<|oR 2 rfl<|rE 22<|MJ c a d i (Ql d i) ?_ .e0 f (λs=>s) (av (λs=>s) wT wH rfl);intro m σ h;exact .mk _ (.refl _) ⟨(),σ,h,rfl,trivial⟩
 intro j _;refine bq<|oR 2 rfl<|a_ rfl<|rE 26<|FQ ?_;rw[show uG c=eb c from aa e];exact dK rfl hD rfl rfl
def y8(c)(a)(b:c.ok a)(f:a+20<=890000)(e:jF c=true)(j:c.Z≠[]):bI C0 13 [.agg (gr c)] (.agg (gr (uG c))):=by
 apply dJ func13 ?_;have d:=EL b ad e;refine bq<|e4 0 rfl rfl<|e4 1 rfl rfl<|rE 2<|uR<|bq<|oR 1 rfl<|a1 rfl (Ip c a b ad)<|oR 1 rfl<|rE 5<|aV rfl (λm=>by exact absurd e (VB m)) (λ_=>?_);refine mF<|bq<|oR 1 rfl<|rV (.agg (gr c)) rfl<|e4 7 rfl rfl<|a_ rfl<|rE 9<|bq<|fU _ rfl rfl rfl (y_ (zu c a d j false false false false) 7 _ _ ⟨d8,trivial⟩) ?_;rintro _ _ ⟨rfl,rfl⟩;refine rE 10<|bq<|oR 3 rfl<|rW (vI (wrap64 (c.ZY+1))) rfl (ar (af _))<|oR 2 rfl<|a_ rfl<|rE 17<|bq<|rV (.agg [.F 38 [] [],.F 39 [] [],.F 40 [] [],.F 41 [] [],.F 42 [] [],.F 43 [] [],.F 44 [] []]) rfl<|e4 18 rfl rfl<|a_ rfl<|rE 20<|Fq (κ:=Unit) (λl=>⟨be [(2,.ptr 1 0),(3,.ptr 7 0)],ap [(1,.box hM),(7,.box (ax (eb c) (.X 17 ((eb c).Z.map aj) false) (.X 2 ((eb c).Q.map a4) false) (.X 2 ((eb c).W.map aw) false) (.X 9 ((eb c).O.map bg) false)))],23⟩) (λl=>True) ?_ ?_
 ·refine bq<|oR 2 rfl<|rE 22<|MJ c a d f (Ql d f) ?_ .o0 trivial (λi=>match i with|22=>9|i=>i) (av (λi=>match i with|22=>9|i=>i) wT ⟨c9,c9,⟨rfl,(by show some (bh.arr (c.Z.map aj) 17)=some (bh.arr (([]++c.Z++[]).map aj) 17);rw[iA,dY]),rfl⟩,trivial⟩ rfl);intro n σ h;exact .mk _ (.refl _) ⟨(),σ,h,rfl,trivial⟩
 intro l _;refine bq<|oR 2 rfl<|a_ rfl<|rE 26<|FQ ?_;rw[show uG c=eb c from aa e];exact dK rfl hD rfl rfl
def y9(c)(b)(a:c.ok b)(d:b+20<=890000):bI C0 13 [.agg (gr c)] (.agg (gr (uG c))):=by
 cases e:jF c with
 |false=>exact y6 c b a d e
 |true=>
  by_cases f:c.Z=[]
  ·exact y7 c b a d e f
  ·exact y8 c b a d e f
def Cd(n:Int):Nat:=(min n 2000).toNat
def Qk(a b:Int):(if b<a then b else a)=min a b:=by split<;>omega
def MI(a b):(CZ a b).ok:=by
 unfold CZ;refine⟨?_,λs c=>?_⟩
 ·have h:(if bV a 1 4=3 then 2 else bV a 1 4).toNat<=4:=by unfold bV;(repeat' split)<;>omega
  show(List.replicate _ _).length<=_;rw[cM];omega
 rw[gK c];exact⟨aE _,λx d=>by cases d⟩
def TL:p7.ok:=by
 refine⟨dT,dT,dT,?_,?_⟩
 ·intro x a;have:x=⟨0,0⟩:=gK a;subst this;exact⟨aE _,aE _⟩
 intro x a;cases a
def Id(c)(prog)(m)(a:c.ok)(hp:∀x∈prog,x<=4294967295):(fX c prog m).ok 0:=by
 have d:(jB m).size<=256:=by
  rw[wE];unfold hF;repeat' split
  all_goals omega
 have b:(prog.take (min prog.length 64)).length<=9223372036854775807:=by rw[aM];omega
 refine⟨⟨aL (QT c) dT,aL (OL c) dT,Iq a.tp⟩,b,zD hp,λ_=>aE _,aE _,aE _,nofun,aE _,nofun,aE _,nofun,MI _ _,MI _ _,aE _,nofun,(by show(0:Int)<=9223372036854775807;decide),(by show(0:Int)<=9223372036854775807;decide),?_,TL,aE _,nofun⟩;show(jB m).size<=1000000;omega
theorem wW{c:Co}{n:Nat}(h:c.ok n):∀k,n+10*k+20<=890000->(uN c k).ok (n+10*k)
 |0,_=>h
 |k+1,a=>by
  have ih:=xX (wW h k ad) ad;rw[(oT:n+10*(k+1)=n+10*k+10)];exact ih
def wi(c)(prog)(m)(n)(d:c.ok)(hp:∀x∈prog,x<=4294967295)(l:prog.length<=1000):bI C0 6 [.agg (ie c false false),.X 1 (prog.map dU) false,.v (.string m),vI n] (.agg (gr (uN (fX c prog m) (Cd n)))):=by
 apply e_ func6 rfl;refine a1 rfl (yy c prog m d ad)<|dx 0 rfl<|a_ rfl<|qR 0 rfl<|zW _ (ar (Qk n 2000))<|jR (λk=>⟨be [(8,.ptr 1 0),(9,.ptr 6 0),(15,vI _),(16,vN k)],ap [(0,.box [vI c.mode,vI c.k,vI c.Z,vI c.queue,vI c.W,vI c.o,vI c.L,vI c.ways,.X 1 _ false,vB c.tables,.X 1 _ false]),(1,.box hM),(6,.box (gr (uN (fX c prog m) k)))],11⟩) (λk=>k<=Cd n) (λk=>Cd n-k) 0 (λs=>s) (av (λs=>s) wT wH rfl) (aE _) ?_;intro k h;have i:k<=Cd n:=h;have f:k<=2000:=by have:Cd n<=2000:=(by unfold Cd;omega);omega
 have j:Cd n=(min n 2000).toNat:=rfl;refine qS 0 rfl<|cN _ (λa=>?_) (λa=>?_)
 ·have b:=bj a;refine a1 rfl (y9 (uN (fX c prog m) k) (0+10*k) (wW (Id c prog m d hp) k ad) ad)<|a_ rfl ?_;refine qR 0 rfl<|zW _ (ar (bH (aD f (aC 1)) rfl)) ?_;refine⟨k+1,λs=>s,av _ wT wH rfl,oT,c7⟩
 have b:=aF a;refine ns 0 rfl<|a_ rfl<|dc 0 rfl ?_;have e:k=Cd n:=oT;rw[show uN _ _=uN _ k from by rw[e]];exact dK rfl hD rfl rfl
open Go.RowKit Go.ChangeShapes Go.WideShapes Go.ChangeAt Go.Deep
def TK{n}(h:(Lit.int .u32 n).wf=true):∃m:Nat,n=m∧m<=4294967295:=by
 simp only[Lit.wf,IntKind.min,IntKind.max,IntKind.signed,IntKind.bits,aP,aY]at h;simp at h;exact⟨n.toNat,oT,oT⟩
def Cc{b}(h:gm Tryz.prog 3 b):∃n:Int,b=[vI n]∧True:=by
 have a:=underlying3
 cases h with
 |int h n c=>rw[a]at h;injection h with h;injection h with h;subst h;exact⟨n,rfl,trivial⟩
 |bool h=>rw[a]at h;cases h
 |string h=>rw[a]at h;cases h
 |slice h=>rw[a]at h;cases h
 |struct h=>rw[a]at h;cases h
 |array h=>rw[a]at h;cases h
def y4{b}(h:gm Tryz.prog 28 b):∃n:Nat,b=[vU n]∧n<=4294967295:=by
 have a:=underlying28
 cases h with
 |int h n d=>
  rw[a]at h;injection h with h;injection h with h;subst h;obtain⟨m,rfl,c⟩:=TK d
  exact⟨m,rfl,c⟩
 |bool h=>rw[a]at h;cases h
 |string h=>rw[a]at h;cases h
 |slice h=>rw[a]at h;cases h
 |struct h=>rw[a]at h;cases h
 |array h=>rw[a]at h;cases h
def WC{c}(h:gm Tryz.prog 4 c):∃b:Bool,c=[.v (.bool b)]∧True:=by
 have a:=underlying4
 cases h with
 |bool h b=>exact⟨b,rfl,trivial⟩
 |int h=>rw[a]at h;cases h
 |string h=>rw[a]at h;cases h
 |slice h=>rw[a]at h;cases h
 |struct h=>rw[a]at h;cases h
 |array h=>rw[a]at h;cases h
theorem Qf{α:Type}{f:α->List AV}{p:α->Prop}:∀(rows:List (List AV)),(∀row∈rows,∃x,row=f x∧p x)->∃l:List α,rows=l.map f∧l.length=rows.length∧∀x∈l,p x
 |[],_=>⟨[],rfl,rfl,λx h=>by cases h⟩
 |row::rows,h=>by
  obtain⟨x,rfl,b⟩:=h row (b9);obtain⟨l,rfl,c,hp⟩:=Qf rows λr a=>h r (bY _ a);exact⟨x::l,rfl,by simp,λy hy=>by rcases dk.1 hy with rfl|hy;exact b;exact hp y hy⟩
def MH{α:Type}{t e:TypeId}{k:Nat}{f:α->List AV}{p:α->Prop}(a:Tryz.prog.underlying t=some (.slice e))(m:Tryz.prog.cellsOf e=k)(c:∀row,gm Tryz.prog e row->∃x,row=f x∧p x){d:List AV}(h:gm Tryz.prog t d):
  ∃l:List α,d=[.X k (l.map f) false]∧l.length<=9223372036854775807∧∀x∈l,p x:=by
 cases h with
 |slice h rows n o q=>
  rw[a]at h;injection h with h;injection h with h;subst h m;obtain⟨l,rfl,i,j⟩:=Qf rows λrow b=>c row (o row b)
  exact⟨l,rfl,aL (Nat.le_of_eq i) (aL n dT),j⟩
 |int h=>rw[a]at h;cases h
 |bool h=>rw[a]at h;cases h
 |string h=>rw[a]at h;cases h
 |struct h=>rw[a]at h;cases h
 |array h=>rw[a]at h;cases h
def WD(row:List AV)(h:gm Tryz.prog 28 row):∃n:Nat,row=dU n∧n<=4294967295:=y4 h
def WE(row:List AV)(h:gm Tryz.prog 3 row):∃n:Int,row=b1 n∧True:=Cc h
def Qg{a:List AV}(h:gm Tryz.prog 23 a):∃l:List Nat,a=[.X 1 (l.map dU) false]∧l.length<=9223372036854775807∧∀x∈l,(λn:Nat=>n<=4294967295) x:=
 MH underlying23 (by kernel_rfl) (λrow b=>WD _ b) h
def WF{a:List AV}(h:gm Tryz.prog 22 a):∃l:List Int,a=[.X 1 (l.map b1) false]∧l.length<=9223372036854775807∧∀x∈l,(λ(_:Int)=>True) x:=
 MH underlying22 (by kernel_rfl) (λrow b=>WE _ b) h
def WG{c}(h:gm Tryz.prog 25 c):∃x:Cf,c=ie x false false∧x.okW:=by
 have a:=underlying25
 cases h with
 |bool h=>rw[a]at h;cases h
 |int h=>rw[a]at h;cases h
 |string h=>rw[a]at h;cases h
 |slice h=>rw[a]at h;cases h
 |array h=>rw[a]at h;cases h
 |struct h parts hp=>
  rw[a]at h;injection h with h;injection h with h;subst h;let⟨t,f,E⟩:=Cc (hp 0 _ rfl);let⟨u,i,F⟩:=Cc (hp 1 _ rfl);let⟨v,j,G⟩:=Cc (hp 2 _ rfl);let⟨w,l,H⟩:=Cc (hp 3 _ rfl);let⟨y,m,I⟩:=Cc (hp 4 _ rfl);let⟨z,n,J⟩:=Cc (hp 5 _ rfl);let⟨A,o,K⟩:=Cc (hp 6 _ rfl);let⟨B,p,L⟩:=Cc (hp 7 _ rfl);let⟨C,q,s⟩:=WF (hp 8 _ rfl);let⟨D,r,M⟩:=WC (hp 9 _ rfl);let⟨e,d,b⟩:=Qg (hp 10 _ rfl);refine⟨⟨t,u,v,w,y,z,A,B,C,D,e⟩,?_,⟨s.1,b.1,b.2⟩⟩;show parts 0++(parts 1++(parts 2++(parts 3++(parts 4++(parts 5++(parts 6++(parts 7++(parts 8++(parts 9++(parts 10++[]))))))))))=_;rw[f,i,j,l,m,n,o,p,q,r,d];rfl
structure Co.Ys(c:Co):Prop where
 U:c.U.okW
 prog:c.prog.length<=9223372036854775807
 Z5:∀x∈c.prog,x<=4294967295
 r:∀k,c.r k<=4294967295
 M:c.M<=4294967295
 Z6:c.Q.length<=9223372036854775807
 ZV:∀x∈c.Q,x.ok
 Z:c.Z.length<=9223372036854775807
 Z8:∀x∈c.Z,x.ok
 Z_:c.W.length<=9223372036854775807
 Z2:∀x∈c.W,x.ok
 data:c.data.ok
 C:c.C.ok
 Y:c.Y.length<=9223372036854775807
 a:∀x∈c.Y,x.ok
 asked:c.asked<=9223372036854775807
 ZZ:c.ZZ<=9223372036854775807
 mem:c.mem.size<=9223372036854775807
 N:c.N.ok
 ret:c.O.length<=9223372036854775807
 ZU:∀x∈c.O,x.ok
def Qh{H}{enc}{w}{base}{e}{f}{r}{l}{v}{d:DataW H}{p}
  (s:Value.okWide Tryz.prog w r l 25 v) (h:DataW.Trod enc Tryz.prog w base e f 25 v d p):
  ∃c:Cf,au (· <w.heap.size) w cw (.agg (ie c false false)) v∧c.okW:=by
 obtain⟨j,rfl,t⟩:=okWide_struct underlying25 s;let⟨fuel,o⟩:=h;let⟨cells,b⟩:=vT 6 fuel _ _ _ o (by kernel_rfl);obtain⟨c,rfl,n⟩:=WG b.ty;refine⟨c,.agg _ j ?_ (λi u q=>b.one u ?_) (λi a u m x=>b.ZX.2 i a u m ?_),n⟩
 ·exact b.ZX.1
 ·exact Jt.2 (nI q)
 show j.toList[i]?=some u;rwa[bQ]
def Qj{w}(h:EE w):0<w.heap.size:=by
 have:=h 0 dT;unfold World.cell? at this
 cases a:w.heap[0]? with
 |none=>simp[a]at this
 |some o=>exact(DP.1 a).1
theorem bI.law{f}{args}{a}{w}(h:bI C0 f args (.v (.bool true)))(b:EE w)(c:b2 (· <w.heap.size) w cw args a):
  Calls Tryz.prog f a.toArray w λe w'=>e=.returned (.bool true)∧Below w.heap.size w w':=
 (h.2 (· <w.heap.size) w a (λ_ h=>h) (C9 b (Qj b)) c).mono λe w' ⟨v,h1,h2,h3⟩=>⟨by rw[h1,lV h3],h2⟩
open Go.RowKit Go.ChangeShapes Go.WideShapes
def Vc{P}{w}{r}{base}{t}{v}(a:P.underlying t=some .string)(h:Value.okWide P w r base t v):∃s,v=.string s∧s.size<9223372036854775808:=by
 obtain⟨s,rfl⟩:=okWide_string a h;refine⟨s,rfl,?_⟩;have b:IntKind.i64.max=9223372036854775807:=rfl;have c:(s.size:Int)<=IntKind.i64.max:=by simpa [Value.okWide,Cell.okWide,Cell.ok,a]using h
 omega
def lC:Cf:=⟨0,0,0,0,0,0,0,0,[],false,[]⟩
def wb:(uN (fX lC [1048691] oZ) (Cd 20)).halt=7∧(uN (fX lC [1048691] oZ) (Cd 20)).O.length=1:=by
 decide+kernel
theorem bI.Zj{C}{f}{j b}{r}(h:bI C f j r)(k:la b j):bI C f b r:=by
 let⟨bb,b4⟩:=k.get;refine⟨h.1,λS w o m l e=>h.2 S w o m l ⟨bb ▸ e.1,λi a v c n=>?_⟩⟩;have d:i<b.length:=by rw[bb];exact(Em.1 c).1
 exact b4 i _ a (aA d) c _ _ _ (e.2 i _ v (aA d) n)
structure Kp(c d:Co):Prop where
 ZY:d.ZY=c.ZY
 ret:c.O <+: d.O
 mem:d.mem.size=c.mem.size
theorem Kp.refl(c):Kp c c:=⟨rfl,List.prefix_refl _,rfl⟩
theorem Kp.trans{a b c}(h:Kp a b)(k:Kp b c):Kp a c:=⟨k.ZY.trans h.ZY,List.IsPrefix.trans h.ret k.ret,k.mem.trans h.mem⟩
def FB(c):Kp c (lM c):=by
 rw[kC];split
 ·unfold ID
  repeat' split
  ·exact⟨rfl,List.prefix_refl _,rfl⟩
  ·exact⟨rfl,List.prefix_refl _,rfl⟩
  ·rw[<-uY];exact⟨rfl,List.prefix_refl _,rfl⟩
  ·exact⟨rfl,List.prefix_refl _,iY ..⟩
  exact⟨rfl,List.prefix_refl _,rfl⟩
 exact⟨rfl,List.prefix_refl _,rfl⟩
def FT(c):Kp c (kK c):=by
 unfold kK;split
 ·exact .refl c
 split<;>exact⟨rfl,List.prefix_refl _,rfl⟩
def E9(d:Co)(e:ai):Kp d (Bm d e):=⟨rfl,List.prefix_append _ _,rfl⟩
def E_(d:Co)(e:ai):Kp d (MP d e):=⟨rfl,List.prefix_append _ _,rfl⟩
theorem re:∀(n:Nat) (c:Co),Kp c (eC n c)
 |0,c=>.refl c
 | n +1,c=>by
  by_cases a:c.halt≠0∨c.Z.length=0
  ·rw[mG a];exact .refl c
  ·have d:c.Z[0]?=some (c.Z[0]'ad):=aA ad;rw[iX ad (λq=>a (.inl q)) d];split
   ·exact .refl c
   ·split
    ·exact⟨rfl,List.prefix_append _ _,rfl⟩
    ·split
     ·exact .refl c
     ·rw[kB];by_cases b:ak (c.Z[0]'ad).i.op=3
      ·rw[Ke b];exact(E_ c _).trans (re n _)
      ·rw[An b];exact(E9 c _).trans (re n _)
def H1(c)(i):Kp c (oE c i):=by
 unfold oE
 cases c.Z[i]? with
 |none=>exact .refl c
 |some e=>
  dsimp only
  repeat' split
  all_goals exact⟨rfl,List.prefix_refl _,rfl⟩
def FX(c)(i):Kp c (iS c i):=by
 unfold iS
 cases c.Z[i]? with
 |none=>exact .refl c
 | some e=>
  dsimp only;split
  ·exact⟨rfl,List.prefix_refl _,rfl⟩
  ·split
   ·exact Kp.trans (b:=b0 c i _) ⟨rfl,List.prefix_refl _,rfl⟩ (H1 _ i)
   ·exact⟨rfl,List.prefix_refl _,rfl⟩
theorem ur:∀(p:List Nat) (c:Co),Kp c (p.foldl iS c)
 |[],c=>.refl c
 |i::p,c=>(FX c i).trans (ur p _)
def E'(c):Kp c (gY c):=by
 unfold gY;split
 ·exact .refl c
 exact ur _ c
theorem uI:∀(n:Nat) (c:Co),Kp c (kV n c)
 |0,c=>.refl c
 | n+1,c=>by
  by_cases a:(c.Z.length:Int)>=c.U.Z∨c.Q.length=0
  ·rw[Ap a];exact .refl c
  ·have d:c.Q[0]?=some (c.Q[0]'ad):=aA ad;have e:=CU (n:=n+1) (k:=0) ad (λq=>a (.inl q)) d;rw[(oT:n+1-(0+1)=n),(oT:n+1-0=n+1)]at e;rw[<-e];have b:Kp c (Kh c (c.Q[0]'ad)):=⟨rfl,List.prefix_refl _,rfl⟩;exact b.trans (uI n _)
def D'(c):Kp c (lP c):=by
 unfold lP;split
 ·exact .refl c
 exact uI _ c
def Ea(c):Kp c (zP c):=by
 have h:Kp (lJ c) (dM (lJ c) (bf c.prog c.M)).1:=by
  unfold dM;split
  ·exact .refl _
  split<;>exact⟨rfl,List.prefix_refl _,rfl⟩
 exact⟨h.ZY,h.ret,h.mem⟩
theorem uo:∀(n:Nat) (c:Co),Kp c (eL n c)
 |0,c=>.refl c
 | n +1,c=>by
  by_cases a:c.stop=true∨(c.Q.length:Int)>=c.U.queue
  ·rw[yZ a];exact .refl c
  ·by_cases b:(ek c.prog c.M).isSome=false
   ·rw[Aq ad a b];exact⟨rfl,List.prefix_refl _,rfl⟩
   ·by_cases d:(bK c.C (ab c.M)).2.isSome=false
    ·rw[uD ad a b d];split
     ·exact⟨rfl,List.prefix_refl _,rfl⟩
     ·exact .refl c
    ·have e:=BC (n:=n+1) (k:=0) ad a b d;rw[(oT:n+1-(0+1)=n),(oT:n+1-0=n+1)]at e;rw[<-e];exact(Ea c).trans (uo n _)
def E0(c):Kp c (eN c):=by
 unfold eN;split
 ·exact .refl c
 exact uo _ c
def D7(c):Kp c (tW c):=by
 unfold tW;split
 ·exact .refl c
 split
 ·exact⟨rfl,List.prefix_refl _,rfl⟩
 exact .refl c
def u0(c):Kp c (nP c):=by
 unfold nP;split
 ·exact .refl c
 unfold pE;split
 ·split
  ·exact⟨rfl,List.prefix_refl _,rfl⟩
  exact .refl c
 exact .refl c
def Ec(c):Kp c (tY c):=by
 have a:Kp c (aW c):=⟨rfl,List.prefix_refl _,rfl⟩;rw[mO];split
 ·exact(a.trans (D7 _)).trans (u0 _)
 exact a.trans (u0 _)
def H2(c:Co):Kp (s0 c) (ed c):=
 ((((((FB (s0 c)).trans (FT _)).trans (re _ _)).trans (E' _)).trans (D' _)).trans (E0 _)).trans (Ec _)
def H4{c}(h:jF c=true):(uG c).ZY=wrap64 (c.ZY+1)∧c.O <+: (uG c).O∧(uG c).mem.size=c.mem.size:=by
 have k:=H2 c;unfold uG;rw[aa h];exact⟨k.ZY,k.ret,k.mem⟩
def Bj(prog:List Nat):List Nat:=prog.take (min prog.length 64)
def Bk(m:ByteArray):ByteArray:=m.extract 0 (min m.size 300)
def IN:bI C0 6 [.agg [vI 0,vI 0,vI 0,vI 0,vI 0,vI 0,vI 0,vI 0,.X 0 [] true,vB false,.X 0 [] true],.X 1 [[vU 1048691]] true,.v (.string oZ),vI 20] (.agg (gr (uN (fX lC [1048691] oZ) (Cd 20)))):=
 (wi lC [1048691] oZ 20 ⟨aE _,aE _,λx a=>by cases a⟩ (λx a=>by rw[uJ.1 a];decide) dT).Zj ⟨Sub.agg ⟨Sub.refl _,Sub.refl _,Sub.refl _,Sub.refl _,Sub.refl _,Sub.refl _,Sub.refl _,Sub.refl _,oM 1 false,Sub.refl _,oM 1 false,trivial⟩,Sub.clip _ _ _,Sub.refl _,Sub.refl _,trivial⟩
def wg:bI C0 9 [] (vB true):=by
 apply e_ func9 rfl;have a:(200:Nat)<=890000:=dT;exact rV _ rfl<|rV _ rfl<|a1 rfl (IN)<|dx 0 rfl<|a_ rfl<|qR 0 rfl<|zV (vB (((uN (fX lC [1048691] oZ) (Cd 20)).halt)==7))<|gS rfl id<|ay rfl id (cD bg ((uN (fX lC [1048691] oZ) (Cd 20)).O))<|ay rfl id (am (a6 _ _))<|zN rfl (λh=>h)<|fT rfl (dR (by simp[ic,wb.1,wb.2]))
def IS(a:Cf)(prog:List Nat)(m:ByteArray)(k:Nat)(c:a.ok)(hp:∀x∈prog,x<=4294967295)(d:prog.length<=1000)(e:k<=2000)(X:Co)(b:X=fX a prog m):bI C0 6 [.agg (ie a false false),.X 1 (prog.map dU) false,.v (.string m),vN k] (.agg (gr (uN X k))):=by
 subst b;have h:=wi a prog m (k:Int) c hp d;rwa[show Cd (k:Int)=k by unfold Cd;omega]at h
def x6(a b)(h:a<=4294967295)(i:b<=4294967295):(((a/65536)*(b/65536))+((((a%65536)*(b/65536))+(((a%65536)*(b%65536))/65536))/65536)+((((a/65536)*(b%65536))+((((a%65536)*(b/65536))+(((a%65536)*(b%65536))/65536))%65536))/65536))%4294967296=a*b/4294967296:=by
 have e:a*b=4294967296*((a/65536)*(b/65536))+65536*((a/65536)*(b%65536))+65536*((a%65536)*(b/65536))+(a%65536)*(b%65536):=by
  have d:a=65536*(a/65536)+a%65536:=oT;have f:b=65536*(b/65536)+b%65536:=oT;generalize a/65536=x at d⊢;generalize a%65536=y at d⊢;generalize b/65536=z at f⊢;generalize b%65536=t at f⊢;subst d f;simp[Nat.mul_add,cG];have j:65536*x*(65536*z)=4294967296*(x*z):=by rw[Nat.mul_mul_mul_comm]
  have l:65536*x*t=65536*(x*t):=by rw[Nat.mul_assoc]
  have m:y*(65536*z)=65536*(y*z):=by rw[Nat.mul_left_comm]
  omega
 have c:a*b<=4294967295*4294967295:=cJ h i;rw[e]at c⊢;generalize _*(b/65536)=p at c⊢;generalize _*(b%65536)=q at c⊢;generalize _*(b/65536)=r at c⊢;generalize _*(b%65536)=s at c⊢;omega
def B6(a b:Nat)(t:a<=4294967295)(u:b<=4294967295):bI C0 105 [.v (.int .u32 (a:Int)),.v (.int .u32 (b:Int))] (.v (.int .u32 ((a*b/4294967296:Nat):Int))):=by
 refine bk func105 rfl ?_;have l:a%65536<=65535:=aI (aQ _ dT);refine nW (.v (.int .u32 ((a%65536:Nat):Int))) rfl rfl dT<|zW _ (ar (nJ l rfl)) ?_;have c:a/65536<=65535:=eG t;refine nW _ rfl (hW (nJ c rfl)) dT<|zW _ (ar (nJ c rfl)) ?_;have m:b%65536<=65535:=aI (aQ _ dT);refine nW (.v (.int .u32 ((b%65536:Nat):Int))) rfl rfl dT<|zW _ (ar (nJ m rfl)) ?_;have d:b/65536<=65535:=eG u;refine nW _ rfl (hW (nJ d rfl)) dT<|zW _ (ar (nJ d rfl)) ?_;have o:(a%65536)*(b%65536)<=4294836225:=cJ l m;refine zW _ (ar (nJ o rfl)) ?_;have p:(a%65536)*(b/65536)<=4294836225:=cJ l d;refine zW _ (ar (nJ p rfl)) ?_;have q:((a%65536)*(b%65536))/65536<=65534:=eG o;refine nW _ rfl (hW (nJ q rfl)) dT ?_;have r:((a%65536)*(b/65536))+(((a%65536)*(b%65536))/65536)<=4294901759:=aD p q;refine zW _ (ar (nJ r rfl)) ?_;have s:(a/65536)*(b%65536)<=4294836225:=cJ c m;refine zW _ (ar (nJ s rfl)) ?_;refine nW (.v (.int .u64 (((((a%65536)*(b/65536))+(((a%65536)*(b%65536))/65536))%65536:Nat):Int))) rfl rfl dT ?_;have e:((a/65536)*(b%65536))+((((a%65536)*(b/65536))+(((a%65536)*(b%65536))/65536))%65536)<=4294901760:=aD s (aI (aQ _ dT));refine zW _ (ar (nJ e rfl)) ?_;have f:(a/65536)*(b/65536)<=4294836225:=cJ c d;refine zW _ (ar (nJ f rfl)) ?_;have h:(((a%65536)*(b/65536))+(((a%65536)*(b%65536))/65536))/65536<=65534:=eG r;refine nW _ rfl (hW (nJ h rfl)) dT ?_;have i:((a/65536)*(b/65536))+((((a%65536)*(b/65536))+(((a%65536)*(b%65536))/65536))/65536)<=4294901759:=aD f h;refine zW _ (ar (nJ i rfl)) ?_;have j:(((a/65536)*(b%65536))+((((a%65536)*(b/65536))+(((a%65536)*(b%65536))/65536))%65536))/65536<=65535:=eG e;refine nW _ rfl (hW (nJ j rfl)) dT ?_;refine rW _ rfl (ar (nJ (aD i j) rfl)) ?_;exact nW (.v (.int .u64 ((((((a/65536)*(b/65536))+((((a%65536)*(b/65536))+(((a%65536)*(b%65536))/65536))/65536))+((((a/65536)*(b%65536))+((((a%65536)*(b/65536))+(((a%65536)*(b%65536))/65536))%65536))/65536))%4294967296:Nat):Int))) rfl rfl dT<|zW _ (ar (nJ (aI (aQ _ dT)) rfl))<|qY rfl trivial rfl (az (λn:Nat=>AV.v (.int .u32 (n:Int))) (x6 a b t u))
def wL(a:Nat)(c:a<=4294967295):bI C0 106 [.v (.int .u32 (a:Int))] (.v (.int .i64 (bs a))):=by
 refine bk func106 rfl ?_;refine zW (.v (.bool (decide (a>=2147483648)))) (am (i9 _ _)) ?_;refine zB rfl (λb=>?_) (λb=>?_)
 ·refine rW _ rfl (ar (bH c rfl))<|zV _ ?_;exact qY rfl trivial rfl (az (λn:Int=>AV.v (.int .i64 n)) (by have:=bj b;unfold bs;rw[dZ ad];exact c4 ad ad))
 exact zW _ (ar (bH c rfl))<|qY rfl trivial rfl (az (λn:Int=>AV.v (.int .i64 n)) (by have:=aF b;unfold bs;rw[aa ad]))
def sS(a):((a=11∨a=14∨a=16)∧a' a=1)∨((a=12∨a=15∨a=17)∧a' a=2)∨((a=13∨a=18)∧a' a=4)∨((a<11∨18<a)∧a' a=0):=by
 unfold a'
 (repeat' split)<;>first|(simp;done)|(simp;omega)
def bx(a:Int):Nat:=
 if a<1∨48<a then 0 else if a<=2 then 85 else if a=3 then 74 else if a=4 then 73 else if a<=10 then 66 else if a<=15 then 73 else if a<=18 then 83
 else if a<=24 then 73 else if a<=27 then 84 else if a<=45 then 82 else 87
def es(a):((a<1∨48<a)∧bx a=0)∨((1<=a∧a<=2)∧bx a=85)∨((a=3)∧bx a=74)∨((a=4)∧bx a=73)∨((5<=a∧a<=10)∧bx a=66)∨((11<=a∧a<=15)∧bx a=73)∨((16<=a∧a<=18)∧bx a=83)∨((19<=a∧a<=24)∧bx a=73)∨((25<=a∧a<=27)∧bx a=84)∨((28<=a∧a<=45)∧bx a=82)∨((46<=a∧a<=48)∧bx a=87):=by
 unfold bx
 (repeat' split)<;>first|(simp;done)|(simp;omega)
def oG(a):((3<=a∧a<=10)∧ak a=5)∨((11<=a∧a<=15)∧ak a=3)∨((16<=a∧a<=18)∧ak a=4)∨((38<=a∧a<=41)∧ak a=1)∨((42<=a∧a<=45)∧ak a=2)∨((a=47∨a=48)∧ak a=6)∨((a<3∨(19<=a∧a<=37)∨a=46∨48<a)∧ak a=0):=by
 unfold ak
 (repeat' split)<;>first|(simp;done)|(simp;omega)
def Dl(i):((bx i.op=82∨bx i.op=73∨bx i.op=84∨bx i.op=85∨bx i.op=74)∧wr i=i.rd)∨(¬(bx i.op=82∨bx i.op=73∨bx i.op=84∨bx i.op=85∨bx i.op=74)∧wr i=0):=by
 unfold wr;have:yW (cW i.op)=decide (bx i.op=82∨bx i.op=73∨bx i.op=84∨bx i.op=85∨bx i.op=74):=by
  unfold cW bx
  (repeat' split)<;>first|rfl|(exfalso;omega)
 rw[this];simp only[aY];split<;>omega
def tr(a):bI C0 22 [vI a] (.v (.int .i64 ((a' a:Nat):Int))):=by
 refine bk func22 rfl ?_;refine cm a 11 (λb=>?_) (λb=>?_)
 ·exact zT (bv.2 b)<|fI rfl (oH (sS a))
 refine cm a 14 (λc=>?_) (λc=>?_)
 ·exact zT (bv.2 c)<|fI rfl (oH (sS a))
 refine cm a 16 (λh=>?_) (λh=>?_)
 ·exact fI rfl (oH (sS a))
 refine cm a 12 (λd=>?_) (λd=>?_)
 ·exact zT (bv.2 d)<|fI rfl (oH (sS a))
 refine cm a 15 (λe=>?_) (λe=>?_)
 ·exact zT (bv.2 e)<|fI rfl (oH (sS a))
 refine cm a 17 (λi=>?_) (λi=>?_)
 ·exact fI rfl (oH (sS a))
 refine cm a 13 (λf=>?_) (λf=>?_)
 ·exact zT (bv.2 f)<|fI rfl (oH (sS a))
 refine cm a 18 (λj=>?_) (λj=>?_)
 ·exact fI rfl (oH (sS a))
 exact fI rfl (oH (sS a))
def Vs(a ):bI C0 47 [vI a] (.v (.int .u8 ((bx a:Nat):Int))):=by
 refine bk func47 rfl ?_;refine cm a 1 (λm=>?_) (λm=>?_)
 ·exact zT (bv.2 m)<|fI rfl (oH (es a))
 refine cm a 2 (λx=>?_) (λx=>?_)
 ·exact fI rfl (oH (es a))
 refine cm a 3 (λy=>?_) (λy=>?_)
 ·exact fI rfl (oH (es a))
 refine cm a 5 (λs=>?_) (λs=>?_)
 ·exact zT (bv.2 s)<|fI rfl (oH (es a))
 refine cm a 6 (λt=>?_) (λt=>?_)
 ·exact zT (bv.2 t)<|fI rfl (oH (es a))
 refine cm a 7 (λu=>?_) (λu=>?_)
 ·exact zT (bv.2 u)<|fI rfl (oH (es a))
 refine cm a 8 (λv=>?_) (λv=>?_)
 ·exact zT (bv.2 v)<|fI rfl (oH (es a))
 refine cm a 9 (λw=>?_) (λw=>?_)
 ·exact zT (bv.2 w)<|fI rfl (oH (es a))
 refine cm a 10 (λz=>?_) (λz=>?_)
 ·exact fI rfl (oH (es a))
 refine cm a 16 (λb=>?_) (λb=>?_)
 ·exact zT (bv.2 b)<|fI rfl (oH (es a))
 refine cm a 17 (λc=>?_) (λc=>?_)
 ·exact zT (bv.2 c)<|fI rfl (oH (es a))
 refine cm a 18 (λn=>?_) (λn=>?_)
 ·exact fI rfl (oH (es a))
 refine cm a 25 (λd=>?_) (λd=>?_)
 ·exact zT (bv.2 d)<|fI rfl (oH (es a))
 refine cm a 26 (λe=>?_) (λe=>?_)
 ·exact zT (bv.2 e)<|fI rfl (oH (es a))
 refine cm a 27 (λo=>?_) (λo=>?_)
 ·exact fI rfl (oH (es a))
 refine cm a 46 (λf=>?_) (λf=>?_)
 ·exact zT (bv.2 f)<|fI rfl (oH (es a))
 refine cm a 47 (λi=>?_) (λi=>?_)
 ·exact zT (bv.2 i)<|fI rfl (oH (es a))
 refine cm a 48 (λp=>?_) (λp=>?_)
 ·exact fI rfl (oH (es a))
 refine zV (vB (a==4))<|ay rfl id rfl<|zG rfl id<|ay rfl id rfl<|pB rfl rfl rfl rfl (λh=>h) rfl rfl (λl j=>by first|(rw[l,j];rfl)|simp_all)<|zN rfl (by simp) ?_;refine ay rfl id rfl<|zG rfl id<|ay rfl id rfl<|pB rfl rfl rfl rfl (λh=>h) rfl rfl (λl j=>by first|(rw[l,j];rfl)|simp_all)<|zN rfl (by simp) ?_;refine cb ((a=4∨(a>=11∧a<=15))∨(a>=19∧a<=24)) (wP _ _ (wP _ _ bv (uA _ _ qW qW)) (uA _ _ qW qW)) (λq=>?_) (λq=>?_)
 ·exact fI rfl (oH (es a))
 refine zV (vB (decide (a>=28)))<|ay rfl id rfl<|zN rfl (λh=>h) ?_;refine cb (a>=28∧a<=45) (uA _ _ qW qW) (λr=>?_) (λr=>?_)
 ·exact fI rfl (oH (es a))
 exact fI rfl (oH (es a))
def nk(a):bI C0 19 [vI a] (.v (.int .i64 ((ak a:Nat):Int))):=by
 refine bk func19 rfl ?_;refine zC (Vs _)<|zW _ (am (a6 _ _)) ?_;refine dt (bx a) 83 (λb=>?_) (λb=>?_)
 ·exact fI rfl (by have:=es a;have:=oG a;omega)
 refine zW _ (am (a6 _ _))<|ay rfl id (am (a6 _ _))<|zN rfl (by simp)<|ay rfl id rfl<|zN rfl (by simp) ?_;refine cb (((bx a)=66∨(bx a)=74)∨a=4) (wP _ _ (wP _ _ bv bv) bv) (λc=>?_) (λc=>?_)
 ·exact fI rfl (by have:=es a;have:=oG a;omega)
 refine zV (vB (decide (a>=11)))<|ay rfl id rfl<|zN rfl (λh=>h) ?_;refine cb (a>=11∧a<=15) (uA _ _ qW qW) (λd=>?_) (λd=>?_)
 ·exact fI rfl (by have:=es a;have:=oG a;omega)
 refine zV (vB (decide (a>=38)))<|ay rfl id rfl<|zN rfl (λh=>h) ?_;refine cb (a>=38∧a<=41) (uA _ _ qW qW) (λe=>?_) (λe=>?_)
 ·exact fI rfl (by have:=es a;have:=oG a;omega)
 refine zV (vB (decide (a>=42)))<|ay rfl id rfl<|zN rfl (λh=>h) ?_;refine cb (a>=42∧a<=45) (uA _ _ qW qW) (λf=>?_) (λf=>?_)
 ·exact fI rfl (by have:=es a;have:=oG a;omega)
 refine zV (vB (a==47))<|ay rfl id rfl<|zN rfl (by simp) ?_;refine cb (a=47∨a=48) (wP _ _ bv bv) (λi=>?_) (λi=>?_)
 ·exact fI rfl (by have:=es a;have:=oG a;omega)
 exact fI rfl (by have:=es a;have:=oG a;omega)
def ym(i):bI C0 20 [hC i] (.v (.int .i64 (wr i))):=by
 refine bk func20 rfl ?_;refine zC (Vs _) ?_;refine zW _ (am (a6 _ _)) ?_;refine dt (bx i.op) 82 (λa=>?_) (λa=>?_)
 ·exact zT (bv.2 a)<|fI rfl (oH (Dl i))
 refine zW _ (am (a6 _ _)) ?_;refine dt (bx i.op) 73 (λb=>?_) (λb=>?_)
 ·exact zT (bv.2 b)<|fI rfl (oH (Dl i))
 refine zW _ (am (a6 _ _)) ?_;refine dt (bx i.op) 84 (λc=>?_) (λc=>?_)
 ·exact zT (bv.2 c)<|fI rfl (oH (Dl i))
 refine zW _ (am (a6 _ _)) ?_;refine dt (bx i.op) 85 (λd=>?_) (λd=>?_)
 ·exact zT (bv.2 d)<|fI rfl (oH (Dl i))
 refine zW _ (am (a6 _ _)) ?_;refine dt (bx i.op) 74 (λe=>?_) (λe=>?_)
 ·exact fI rfl (oH (Dl i))
 exact fI rfl (oH (Dl i))
def oi(is):bI C0 111 [vB is] (.v (.int .u32 (((if is=true then 1 else 0:Nat)):Int))):=by
 refine bk func111 rfl ?_;refine cb (is=true) Iff.rfl (λa=>?_) (λa=>?_)
 ·exact fI rfl (by rw[aa a];rfl)
 exact fI rfl (by rw[dZ a];rfl)
def z4(c)(a b)(d:a<=4294967295)(e:b<=4294967295):bI C0 56 [vI c,vU a,vU b] (.v (.bool (tB c a b))):=by
 refine bk func56 rfl ?_;refine cm c 5 (λf=>?_) (λf=>?_)
 ·exact zW _ (am (a6 _ _))<|ii rfl (by unfold tB;(repeat' split)<;>first|rfl|(exfalso;omega)|(rw[bB];simp;done)|(rw[bB];simp;omega))
 refine cm c 6 (λh=>?_) (λh=>?_)
 ·exact zW _ (am (a6 _ _))<|ii rfl (by unfold tB;(repeat' split)<;>first|rfl|(exfalso;omega)|(rw[bB];simp;done)|(rw[bB];simp;omega))
 refine cm c 7 (λi=>?_) (λi=>?_)
 ·exact zC (wL a d)<|a1 rfl (wL b e)<|zV (vB (decide ((bs a)<(bs b))))<|ii rfl (by unfold tB;(repeat' split)<;>first|rfl|(exfalso;omega)|(rw[bB];simp;done)|(rw[bB];simp;omega))
 refine cm c 8 (λj=>?_) (λj=>?_)
 ·exact zC (wL a d)<|a1 rfl (wL b e)<|zV (vB (decide ((bs a)<(bs b))))<|ii rfl (by unfold tB;(repeat' split)<;>first|rfl|(exfalso;omega)|(rw[bB];simp;done)|(rw[bB];simp;omega))
 refine cm c 9 (λl=>?_) (λl=>?_)
 ·exact zW _ (am (bz _ _))<|ii rfl (by unfold tB;(repeat' split)<;>first|rfl|(exfalso;omega)|(rw[bB];simp;done)|(rw[bB];simp;omega))
 refine cm c 10 (λm=>?_) (λm=>?_)
 all_goals
  first|(refine zW _ (am (bz _ _)) ?_)|skip
  exact ii rfl (by unfold tB;(repeat' split)<;>first|rfl|(exfalso;omega)|(rw[bB];simp;done)|(rw[bB];simp;omega))
def yn(a b)(f:a<=4294967295)(h:b<=4294967295):bs a*bs b=((a*b:Nat):Int)-4294967296*((if a>=2147483648 then(b:Int)else 0)+(if b>=2147483648 then(a:Int)else 0))+(if a>=2147483648∧b>=2147483648 then 18446744073709551616 else 0):=by
 rw[Int.natCast_mul a b];unfold bs;have c:((a:Int)-4294967296)*b=a*b-4294967296*b:=Int.sub_mul ..;have d:(a:Int)*(b-4294967296)=a*b-a*4294967296:=Int.mul_sub ..;have e:((a:Int)-4294967296)*(b-4294967296)=a*b-4294967296*b-(a*4294967296-18446744073709551616):=by rw[Int.mul_sub,Int.sub_mul,Int.sub_mul];omega
 (repeat' split)<;>first|(exfalso;omega)|(simp[c,d,e];omega)|omega
def yo(a b)(d:a<=4294967295)(e:b<=4294967295):bs a*b=((a*b:Nat):Int)-4294967296*(if a>=2147483648 then(b:Int)else 0):=by
 rw[Int.natCast_mul a b];unfold bs;have c:((a:Int)-4294967296)*b=a*b-4294967296*b:=Int.sub_mul ..
 (repeat' split)<;>first|(exfalso;omega)|(simp[c];omega)|omega
def ob(a b)(d:a<=4294967295)(e:b<=4294967295)(c)(x)(h:(c=38∧x=((a*b%4294967296:Nat):Int))∨(c=39∧x=(((a*b/4294967296:Nat):Int)-(if a>=2147483648 then(b:Int)else 0)-(if b>=2147483648 then(a:Int)else 0))%4294967296)∨(c=40∧x=(((a*b/4294967296:Nat):Int)-(if a>=2147483648 then(b:Int)else 0))%4294967296)∨
  (c=41∧x=((a*b/4294967296:Nat):Int))∨(¬c=38∧ ¬c=39∧ ¬c=40∧ ¬c=41∧x=0)):x=((g5 c a b:Nat):Int):=by
 have f:a*b<=4294967295*4294967295:=cJ d e;unfold g5 e7;rw[yn a b d e,yo a b d e];generalize a*b=p at *
 (repeat' split at h)<;>(repeat' split)<;>omega
def B7(c)(a b)(d:a<=4294967295)(e:b<=4294967295):bI C0 51 [vI c,vU a,vU b] (.v (.int .u32 ((g5 c a b:Nat):Int))):=by
 refine bk func51 rfl ?_;have n:a*b/4294967296<=4294967295:=oH (cJ d e);refine zC (B6 a b d e)<|zV (vB (c==39)) ?_;refine ay rfl id rfl<|zN rfl (by simp)<|ay rfl id (am (i9 _ _))<|zN rfl (λh=>h) ?_;refine cb ((c=39∨c=40)∧a>=2147483648) (uA _ _ (wP _ _ bv bv) qW) (λj=>?_) (λj=>?_)
 all_goals
  first|(skip;have o:((a*b/4294967296)+4294967296-b)%4294967296<=4294967295:=aI (aQ _ dT);refine zW _ (ar (Gn e rfl)) ?_)|skip
  refine zV (vB (c==39))<|ay rfl id (am (i9 _ _))<|zN rfl (λh=>h) ?_;refine cb (c=39∧b>=2147483648) (uA _ _ bv qW) (λl=>?_) (λl=>?_)
  all_goals
   first
    |skip
     first|(have i:((((a*b/4294967296)+4294967296-b)%4294967296)+4294967296-a)%4294967296<=4294967295:=aI (aQ _ dT);refine zW _ (ar (Gn d rfl)) ?_)|(have i:((a*b/4294967296)+4294967296-a)%4294967296<=4294967295:=aI (aQ _ dT);refine zW _ (ar (Gn d rfl)) ?_)
    |skip
   refine zV (vB (c==39))<|ay rfl id rfl<|zN rfl (by simp)<|ay rfl id rfl<|zN rfl (by simp) ?_
   first
    |refine cb ((c=39∨c=40)∨c=41) (wP _ _ (wP _ _ bv bv) bv) (λf=>?_) (λf=>absurd f ad);exact fI rfl (ob a b d e c _ ad)
    |refine cb ((c=39∨c=40)∨c=41) (wP _ _ (wP _ _ bv bv) bv) (λf=>?_) (λf=>?_)
     ·exact fI rfl (ob a b d e c _ ad)
     ·refine cm c 38 (λm=>?_) (λm=>?_)
      ·refine zW _ (ar (nJ d rfl))<|rW _ rfl (ar (nJ e rfl)) ?_;refine rW _ rfl (ar (nJ (cJ d e) rfl)) ?_;exact nW (.v (.int .u64 (((a*b)%4294967296:Nat):Int))) rfl rfl dT<|zW _ (ar (nJ (aI (aQ _ dT)) rfl))<|fI rfl (ob a b d e c _ ad)
      ·exact fI rfl (ob a b d e c _ ad)
def B1(i)(pc a b:Nat)(p:i.A<=4294967295)(l:pc<=4294967295)(h:a<=4294967295)(j:b<=4294967295):bI C0 29 [hC i,.v (.int .u32 (pc:Int)),.v (.int .u32 (a:Int)),.v (.int .u32 (b:Int))] (.v (.int .u32 ((qP i.op i.A pc a b:Nat):Int))):=by
 refine bk func29 rfl ?_;refine cm i.op 4 (λd=>?_) (λd=>?_)
 ·skip;have m:(a+i.A)%4294967296<=4294967295:=aI (aQ _ dT);refine zV (vU ((a+i.A)%4294967296)) ?_;refine nW (vU (((a+i.A)%4294967296)%2)) rfl rfl dT ?_;have n:(((a+i.A)%4294967296)+4294967296-(((a+i.A)%4294967296)%2))%4294967296<=4294967295:=aI (aQ _ dT);exact zW _ (ar (Gn (aI (aQ _ dT)) rfl))<|fI rfl (by have t4:i.op=4->tB i.op a b=false:=(λe=>by rw[e];rfl);unfold qP;(repeat' split)<;>first|omega|(simp_all;done)|(simp_all;omega))
 refine zV (vB (i.op==3))<|zG rfl id<|jQ rfl rfl rfl rfl cn rfl rfl rfl (.inl rfl) rfl (λo=>z4 i.op a b h j)<|zN rfl (by simp) ?_;refine cb (i.op=3∨(tB i.op a b)=true) (wP _ _ bv Iff.rfl) (λf=>?_) (λf=>?_)
 all_goals
  skip
  first|(have c:(pc+i.A)%4294967296<=4294967295:=aI (aQ _ dT);refine zV (vU ((pc+i.A)%4294967296)) ?_)|(have c:(pc+4)%4294967296<=4294967295:=aI (aQ _ dT);refine zV (vU ((pc+4)%4294967296)) ?_)
  exact fI rfl (by have t4:i.op=4->tB i.op a b=false:=(λe=>by rw[e];rfl);unfold qP;(repeat' split)<;>first|omega|(simp_all;done)|(simp_all;omega))
def Ek(a)(x)(b:x<=4294967295):((b_ a x:Nat):Int)=if a=42∨a=44 then(if bs x<0 then-bs x else bs x)else(x:Int):=by
 unfold b_ bs
 (repeat' split)<;>omega
def FC(x)(a:x<=4294967295): -2147483648<=bs x∧bs x<=2147483647:=by unfold bs;split<;>omega
def Wg(c)(a)(b:a<=4294967295):bI C0 57 [vI c,vU a] (.v (.int .i64 ((b_ c a:Nat):Int))):=by
 refine bk func57 rfl ?_;refine zW (vI (a:Int)) (ar (c4 ad ad))<|zV (vB (c==42)) ?_;refine ay rfl id rfl<|zN rfl (by simp) ?_;refine cb (c=42∨c=44) (wP _ _ bv bv) (λd=>?_) (λd=>?_)
 ·refine zC (wL a b)<|zV (vB (decide ((bs a)<0))) ?_;refine cb ((bs a)<0) qW (λe=>?_) (λe=>?_)
  ·exact zW (vI (-(bs a))) (ar (by rw[Int.zero_sub];exact c4 (oH (FC a b)) (oH (FC a b))))<|fI rfl (by rw[Ek c a b];(repeat' split)<;>omega)
  exact fI rfl (by rw[Ek c a b];(repeat' split)<;>omega)
 refine zV (vB (decide ((a:Int)<0))) ?_;refine cb ((a:Int)<0) qW (λf=>?_) (λf=>?_)
 ·exact zW (vI (-(a:Int))) (ar (by rw[Int.zero_sub];exact c4 (oH (FC a b)) (oH (FC a b))))<|fI rfl (by rw[Ek c a b];(repeat' split)<;>omega)
 exact fI rfl (by rw[Ek c a b];(repeat' split)<;>omega)
def SF(n)(h: ¬(Int.tmod n 4294967296<0)):IntKind.wrap .u32 (Int.tmod n 4294967296)=((e7 n:Nat):Int):=by
 rw[tP];simp only[IntKind.wrap,IntKind.signed,IntKind.bits];have:=Int.mul_tdiv_add_tmod n 4294967296;simp;omega
def Po(n)(h:Int.tmod n 4294967296<0):IntKind.wrap .u32 (Int.tmod n 4294967296+4294967296)=((e7 n:Nat):Int):=by
 rw[tP];simp only[IntKind.wrap,IntKind.signed,IntKind.bits];have:=Int.mul_tdiv_add_tmod n 4294967296;simp;omega
def Vt(n):bI C0 107 [vI n] (.v (.int .u32 ((e7 n:Nat):Int))):=by
 refine bk func107 rfl ?_;refine zM (vI (Int.tmod n 4294967296)) rfl dT<|zV (vB (decide ((Int.tmod n 4294967296)<0))) ?_;refine cb ((Int.tmod n 4294967296)<0) qW (λa=>?_) (λa=>?_)
 ·exact zW _ (ar (c4 (by have:=Int.tmod_lt_of_pos n (dT:(0:Int)<4294967296);have:=Int.lt_tmod_of_pos n (dT:(0:Int)<4294967296);omega) (by have:=Int.tmod_lt_of_pos n (dT:(0:Int)<4294967296);omega)))<|zW _ (ar (Po n a))<|fT rfl rfl
 exact zW _ (ar (SF n a))<|fT rfl rfl
def tC(a b)(c:a<=4294967295)(d:b<=4294967295)(h: ¬b=0):bs b≠0:=by unfold bs;split<;>omega
def tE(a b:Nat)(c:a<=4294967295)(d:b<=4294967295)(h: ¬b=0):(b:Int)≠0:=oT
def SG(x y)(a: -4294967295<=x)(b:x<=4294967295): -4294967295<=Int.tdiv x y∧Int.tdiv x y<=4294967295:=by
 have:=Int.natAbs_tdiv_le_natAbs x y;omega
def B8(a b)(c:a<=4294967295)(d:b<=4294967295):IntKind.wrap .i64 (Int.tdiv (bs a) (bs b))=Int.tdiv (bs a) (bs b):=by
 have:=FC a c;have:=SG (bs a) (bs b) ad ad;exact c4 ad ad
def B9(a b:Nat)(d:a<=4294967295)(c:b<=4294967295):IntKind.wrap .i64 (Int.tdiv (a:Int) (b:Int))=Int.tdiv (a:Int) (b:Int):=by
 have:=SG (a:Int) (b:Int) ad ad;exact c4 ad ad
def yp(a b)(d:a<=4294967295)(e:b<=4294967295):2147483648<=a^^^b↔ ¬(2147483648<=a↔2147483648<=b):=by
 have c:∀x:Nat,x<=4294967295->(2147483648<=x↔x.testBit 31=true):=by
  intro x f;rw[Nat.testBit_eq_decide_div_mod_eq];simp;omega
 have f:a^^^b<2 ^ 32:=iM ad ad;rw[c a d,c b e,c (a^^^b) ad,Nat.testBit_xor];cases a.testBit 31<;>cases b.testBit 31<;>simp
def B2(j)(a b)(h:a<=4294967295)(i:b<=4294967295)(l: ¬b=0)(m:j=42):e7 (Int.tdiv (bs a) (bs b))=eg j a b:=by
 subst m;unfold eg zI b_;simp only[l,eE,true_or,fD,true_and,yp a b h i];unfold e7 bs;have e:∀x y:Nat,(x:Int).tdiv (y:Int)=((x/y:Nat):Int):=λx y=>rfl;have f:∀x:Nat,2147483648<=x->x<=4294967295->(x:Int)-4294967296= -((4294967296-x:Nat):Int):=λx c d=>by omega
 by_cases c:2147483648<=a<;>by_cases d:2147483648<=b
 ·rw[dZ ad,dZ ad,f a c h,f b d i,Int.neg_tdiv,Int.tdiv_neg,Int.neg_neg,e];have:=cO (4294967296-a) (4294967296-b);simp only[c,d,iff_self,not_true,eE,fD];generalize (4294967296-a)/(4294967296-b)=q at *;omega
 ·rw[dZ ad,aa ad,f a c h,Int.neg_tdiv,e];have:=cO (4294967296-a) b;simp[c,d,iff_false,not_true,not_false_iff,eE,fD];omega
 ·rw[aa ad,dZ ad,f b d i,Int.tdiv_neg,e];have:=cO a (4294967296-b);simp[c,d,pI,not_true,not_false_iff,eE,fD];omega
 rw[aa ad,aa ad,e];have:=cO a b;simp only[c,d,iff_self,not_true,eE];generalize a/b=q at *;omega
def B3(c)(a b:Nat)(j:a<=4294967295)(i:b<=4294967295)(f: ¬b=0)(h:c=43):e7 (Int.tdiv (a:Int) (b:Int))=eg c a b:=by
 subst h;have d:eg 43 a b=a/b:=by unfold eg zI b_;simp[f]
 rw[d];unfold e7;have e:(a:Int).tdiv (b:Int)=((a/b:Nat):Int):=rfl;rw[e];have:=cO a b;generalize a/b=q at *;omega
def B4(j)(a b)(h:a<=4294967295)(i:b<=4294967295)(l: ¬b=0)(m:j=44):e7 (Int.tmod (bs a) (bs b))=eg j a b:=by
 subst m;unfold eg zI b_;simp[l,eE,or_true,true_or,fD,true_and,(dT:¬((44:Int)=42∨(44:Int)=43))];unfold e7 bs;have e:∀x y:Nat,(x:Int).tmod (y:Int)=((x%y:Nat):Int):=λx y=>rfl;have f:∀x:Nat,2147483648<=x->x<=4294967295->(x:Int)-4294967296= -((4294967296-x:Nat):Int):=λx c d=>by omega
 by_cases c:2147483648<=a<;>by_cases d:2147483648<=b
 ·rw[dZ ad,dZ ad,f a c h,f b d i,Int.neg_tmod,Int.tmod_neg,e];have:=gR (4294967296-a) (4294967296-b);simp[c,d,fD];omega
 ·rw[dZ ad,aa ad,f a c h,Int.neg_tmod,e];have:=gR (4294967296-a) b;simp[c,d,eE,fD];omega
 ·rw[aa ad,dZ ad,f b d i,Int.tmod_neg,e];have:=gR a (4294967296-b);simp[c,d,eE,fD];omega
 rw[aa ad,aa ad,e];have:=gR a b;simp[c,d,eE];omega
def B5(c)(a b:Nat)(j:a<=4294967295)(i:b<=4294967295)(f: ¬b=0)(h:c=45):e7 (Int.tmod (a:Int) (b:Int))=eg c a b:=by
 subst h;have d:eg 45 a b=a%b:=by unfold eg zI b_;simp[f]
 rw[d];unfold e7;have e:(a:Int).tmod (b:Int)=((a%b:Nat):Int):=rfl;rw[e];have:=gR a b;generalize a%b=q at *;omega
def B_(c)(a b)(d:a<=4294967295)(e:b<=4294967295):bI C0 52 [vI c,vU a,vU b] (.v (.int .u32 ((eg c a b:Nat):Int))):=by
 refine bk func52 rfl ?_;refine zV (vB (decide (c<42)))<|ay rfl id rfl<|zN rfl (by simp) ?_;refine cb (c<42∨c>45) (wP _ _ qW qW) (λh=>?_) (λh=>?_)
 ·exact fI rfl (by unfold eg;(repeat' split)<;>omega)
 refine zV (vB (c==42))<|ay rfl id rfl<|zN rfl (by simp)<|zW _ (am (a6 _ _)) ?_;refine dt b 0 (λf=>?_) (λf=>?_)
 ·skip
  refine cb (c=42∨c=43) (wP _ _ bv bv) (λi=>?_) (λi=>?_)
  ·exact fI rfl (by unfold eg;(repeat' split)<;>omega)
  exact fI rfl (by unfold eg;(repeat' split)<;>omega)
 refine zW _ (ar (c4 ad ad))<|zW _ (ar (c4 ad ad)) ?_;refine zV (vB (c==42))<|ay rfl id rfl<|zN rfl (by simp) ?_;refine cb (c=42∨c=44) (wP _ _ bv bv) (λj=>?_) (λj=>?_)
 ·refine zC (wL a d)<|zC (wL b e) ?_;refine cb (c=42∨c=43) (wP _ _ bv bv) (λl=>?_) (λl=>?_)
  ·exact nW _ rfl (hW (B8 a b d e)) (tC a b d e f)<|zC (Vt _)<|fN rfl (B2 c a b d e ad ad)
  exact nW (vI (Int.tmod (bs a) (bs b))) rfl rfl (tC a b d e f)<|zC (Vt _)<|fN rfl (B4 c a b d e ad ad)
 skip
 refine cb (c=42∨c=43) (wP _ _ bv bv) (λm=>?_) (λm=>?_)
 ·exact nW _ rfl (hW (B9 a b d e)) (tE a b d e f)<|zC (Vt _)<|fN rfl (B3 c a b d e ad ad)
 exact nW (vI (Int.tmod (a:Int) (b:Int))) rfl rfl (tE a b d e f)<|zC (Vt _)<|fN rfl (B5 c a b d e ad ad)
def fg:List Nat->Nat
 |[]=>0
 |b::l=>(2*fg l+b)%4294967296
theorem Jq:∀(l:List Nat),(∀b∈l,b<2)->l.length<=32->fg l=i_ l
 |[],_,_=>rfl
 |b::l,a,e=>by
  have d:l.length<=31:=by simp at e;omega
  have ih:=Jq l (λx c=>a x (bY _ c)) oT;have f:=SM l (λx c=>a x (bY _ c));have h:=a b b9;have i:2 ^ l.length<=2 ^ 31:=bU dT d;show(2*fg l+b)%4294967296=2*i_ l+b;rw[ih];omega
def cr{α:Type}(g:Nat->α)(k:Nat):List α:=(List.range k).map g
def lc{α}(g:Nat->α)(k):(cr g k).length=k:=by simp[cr]
def SH{α}(g:Nat->α)(k):cr g (k+1)=cr g k++[g k]:=by simp[cr,gZ]
def Vu(g)(k j)(h:j<k):(cr g k).getD j 0=g j:=by simp[cr,h]
def NZ{α}{g}{k}{p:α->Prop}(h:∀i,i<k->p (g i)):∀b∈cr g k,p b:=by
 intro b a;simp[cr,pG,lI]at a;obtain⟨i,c,rfl⟩:=a;exact h i c
def kl(a i:Nat):a.testBit i=decide (a/2 ^ i%2=1):=Nat.testBit_eq_decide_div_mod_eq
def ts{a i:Nat}(b:a<4294967296)(c:32<=i):a.testBit i=false:=
 Nat.testBit_lt_two_pow (ep b (bU (n:=2) dT c))
def Bc(g)(x)(e:∀i,i<32->g i<2)(d:x<4294967296)(h:∀i,i<32->(g i=1↔x.testBit i=true)):fg (cr g 32)=x:=by
 have a:∀b∈cr g 32,b<2:=NZ e;rw[Jq _ a (by rw[lc];exact aC _)];refine Nat.eq_of_testBit_eq λj=>?_;rw[Oc _ a];by_cases c:j<32
 ·rw[Vu g 32 j c];have:=h j c;cases d:x.testBit j<;>simp_all
 rw[aR,bE (by rw[lc];omega),ts d oT];rfl
def uP(c:Int)(a b i:Nat):Nat:=if((c=1∧a/2 ^ i%2+b/2 ^ i%2=2)∨(c=2∧a/2 ^ i%2+b/2 ^ i%2>0))∨(c=3∧a/2 ^ i%2+b/2 ^ i%2=1)then 1 else 0
def El(c)(a b i):uP c a b i<2:=by unfold uP;split<;>omega
def Oa(a b)(d:a<=4294967295)(c:b<=4294967295):fg (cr (uP 1 a b) 32)=a&&&b:=by
 refine Bc _ _ (λi _=>El ..) (bL kE oT) λi _=>?_;rw[Nat.testBit_and,kl,kl];unfold uP;rcases lF (a/2 ^ i)with h1|h1<;>rcases lF (b/2 ^ i)with h2|h2<;>simp[h1,h2]
def SJ(a b)(c:a<=4294967295)(d:b<=4294967295):fg (cr (uP 2 a b) 32)=a ||| b:=by
 refine Bc _ _ (λi _=>El ..) (kQ (n:=32) oT oT) λi _=>?_;rw[Nat.testBit_or,kl,kl];unfold uP;rcases lF (a/2 ^ i)with h1|h1<;>rcases lF (b/2 ^ i)with h2|h2<;>simp[h1,h2]
def Ob(a b)(c:a<=4294967295)(d:b<=4294967295):fg (cr (uP 3 a b) 32)=a^^^b:=by
 refine Bc _ _ (λi _=>El ..) (iM (n:=32) oT oT) λi _=>?_;rw[Nat.testBit_xor,kl,kl];unfold uP;rcases lF (a/2 ^ i)with h1|h1<;>rcases lF (b/2 ^ i)with h2|h2<;>simp[h1,h2]
def ia(a:Nat)(n:Int)(b i:Nat):Nat:=if((i:Int)-n<0∨(i:Int)-n>31)then b else a/2 ^ ((i:Int)-n).toNat%2
def CF(a)(n){b}(c:b<2)(i):ia a n b i<2:=by unfold ia;split<;>omega
def La(a s:Nat)(b:a<=4294967295)(d:s<32):fg (cr (ia a (s:Int) 0) 32)=a*2 ^ s%4294967296:=by
 refine Bc _ _ (λi _=>CF _ _ dT _) (aQ _ dT) λi c=>?_;rw[show(4294967296:Nat)=2 ^ 32 from rfl,eB,fK];unfold ia;by_cases h:i<s
 ·rw[aa (.inl oT)];simp;omega
 rw[dZ oT,(oT:((i:Int)-(s:Int)).toNat=i-s),kl];simp;omega
def FD(a s:Nat)(c:a<=4294967295)(b:s<32):fg (cr (ia a (-(s:Int)) 0) 32)=a/2 ^ s:=by
 refine Bc _ _ (λi _=>CF _ _ dT _) (bL (cO _ _) oT) λi d=>?_;rw[Nat.testBit_div_two_pow];unfold ia;by_cases h:i+s>31
 ·rw[aa (.inr oT),ts oT oT];simp
 rw[dZ oT,(oT:((i:Int) - -(s:Int)).toNat=i+s),kl];simp
def x7(a s)(h:a<=4294967295)(j:s<32):e7 (bs a/2 ^ s)=if a<2147483648 then a/2 ^ s else 2 ^ (32-s)*(2 ^ s-1)+a/2 ^ s:=by
 have hp:(2:Nat) ^ 32=2 ^ (32-s)*2 ^ s:=by rw[<-Nat.pow_add];congr 1;omega
 have i:a/2 ^ s<2 ^ (32-s):=fO (by rw[fR, <-hp];omega);have f:2 ^ (32-s)<=2 ^ 32:=bU dT oT;have d:0<2 ^ s:=eI s;unfold e7 bs;have b:((2:Int) ^ s)=((2 ^ s:Nat):Int):=by simp
 split
 ·rw[b];have e:((a:Int)/((2 ^ s:Nat):Int))=((a/2 ^ s:Nat):Int):=rfl;have:=cO a (2 ^ s);rw[e];generalize a/2 ^ s=q at *;omega
 have e:((a:Int)-4294967296)/2 ^ s=((a/2 ^ s:Nat):Int)-((2 ^ (32-s):Nat):Int):=by
  have c:(a:Int)-4294967296=(a:Int)+(-((2 ^ (32-s):Nat):Int))*((2 ^ s:Nat):Int):=by
   have:((2 ^ (32-s):Nat):Int)*((2 ^ s:Nat):Int)=4294967296:=by rw[<-Int.natCast_mul, <-hp];rfl
   rw[Int.neg_mul,this];omega
  rw[b,c,Int.add_mul_ediv_right _ _ oT];have e:((a:Int)/((2 ^ s:Nat):Int))=((a/2 ^ s:Nat):Int):=rfl;rw[e];omega
 rw[e,Nat.mul_sub, <-hp,iD];generalize a/2 ^ s=q at *;generalize 2 ^ (32-s)=K at *;omega
def Lb(a s:Nat)(c:a<=4294967295)(d:s<32):fg (cr (ia a (-(s:Int)) (a/2 ^ 31%2)) 32)=e7 (bs a/2 ^ s):=by
 have hp:(2:Nat) ^ 32=2 ^ (32-s)*2 ^ s:=by rw[<-Nat.pow_add];congr 1;omega
 have e:a/2 ^ s<2 ^ (32-s):=fO (by rw[fR, <-hp];omega);rw[x7 a s c d];by_cases b:a<2147483648
 ·rw[aa b,(oT:a/2 ^ 31%2=0)];exact FD a s c d
 rw[dZ b,(oT:a/2 ^ 31%2=1)];have f:0<2 ^ s:=eI s;refine Bc _ _ (λi _=>CF _ _ dT _) (by rw[Nat.mul_sub, <-hp];have:2 ^ (32-s)<=2 ^ 32:=bU dT oT;omega) λi j=>?_;rw[Nat.testBit_two_pow_mul_add _ e];unfold ia;by_cases h:i+s>31
 ·rw[aa (.inr oT),dZ oT,dX];simp;omega
 rw[dZ oT,aa oT,Nat.testBit_div_two_pow,(oT:((i:Int) - -(s:Int)).toNat=i+s),kl];simp
theorem Lc:∀(l:List Int) (b:ByteArray),(l.foldl (λr m=>r.push (UInt8.ofNat m.toNat)) b).data.toList=b.data.toList++l.map λm=>UInt8.ofNat m.toNat
 |[],b=>by simp
 |m::l,b=>by
  rw[mK,Lc l];show(b.data.push (UInt8.ofNat m.toNat)).toList++_=_;simp
def xM(x i:Nat):UInt8:=UInt8.ofNat (an x (8*i) 8)
def x8(j):256 ^ j=2 ^ (8*j):=by rw[Nat.pow_mul]
def SK(x n):(⟨(cr (xM x) n).toArray⟩:ByteArray)=oF x n:=by
 have h:(oF x n).data.toList=cr (xM x) n:=by
  unfold oF;rw[Lc];simp only[ByteArray.empty,cr,List.map_map];show []++_=_;rw[iA];refine iB λj _=>?_;simp only[Function.comp,xM,an,Int.toNat_natCast];rw[x8]
 rw[<-h]
theorem FE(b:UInt8)(l:List UInt8):∀k,c6 (b::l) (k+1)=b.toNat+256*c6 l k
 |0=>by simp[c6]
 |k+1=>by
  show c6 (b::l) (k+1)+256 ^ (k+1)*((b::l).getD (k+1) 0).toNat=b.toNat+256*(c6 l k+256 ^ k*(l.getD k 0).toNat);rw[FE b l k,Nat.mul_add,show(b::l).getD (k+1) 0=l.getD k 0 from rfl,Nat.pow_succ, <-Nat.mul_assoc,fR 256 (256 ^ k)];omega
def SL(l:List UInt8)(k)(b:k<l.length):c6 (l.drop (l.length-(k+1))) (k+1)=256*c6 (l.drop (l.length-k)) k+(l.getD (l.length-1-k) 0).toNat:=by
 have a:l.length-(k+1)<l.length:=oT;rw[bF a,FE,(oT:l.length-(k+1)+1=l.length-k),(oT:l.length-1-k=l.length-(k+1)),aR,aA a];simp;omega
def uU(m b:ByteArray)(a i:Nat):UInt8:=if((i:Int)-(a:Int)>=0∧(i:Int)-(a:Int)<(b.size:Int))then b.data.toList.getD ((i:Int)-(a:Int)).toNat 0 else m.data.toList.getD i 0
def Ld(m b)(a)(h:a+b.size<=m.size):(⟨(cr (uU m b a) m.size).toArray⟩:ByteArray)=DD m a b:=by
 unfold DD;congr 2;have j:m.data.toList.length=m.size:=cV;have f:b.data.toList.length=b.size:=cV;refine dD λi=>?_;unfold cr;rw[aX];by_cases c:i<m.size
 ·rw[eZ c];simp only[dF,uU];by_cases d:i<a
  ·rw[dZ oT,eD,cF (by rw[aM];omega),List.getElem?_take_of_lt d,aR,aA oT];rfl
  by_cases e:i<a+b.size
  ·rw[aa oT,eD,bM (by rw[aM];omega),aM,cF oT,aR,(oT:((i:Int)-(a:Int)).toNat=i-min a m.data.toList.length),aA oT];rfl
  rw[dZ oT,bM (by rw[aU,aM];omega),aU,aM,cL,(oT:a+b.size+(i-(min a m.data.toList.length+b.data.toList.length))=i),aR,aA oT];rfl
 rw[bE (sU c),bE (by simp[aU,aM,bD];omega)];rfl
abbrev Sx(b:UInt8):List AV:=[.v (.int .u8 (b.toNat:Int))]
section
variable {α:Type}{g:Nat->α}{row:α->List AV}{k:Nat}
def gT:List.take (k+1) (List.drop 0 ((cr g (k+1)).map row))=(cr g (k+1)).map row:=by
 rw[bS,aN (by rw[aH,lc];exact aC _)]
def gC{r:List AV}(h:k+2<=1000000):(List.take (k+1) (List.drop 0 ((cr g (k+1)).map row))).length+([r]:List (List AV)).length<=jH:=by
 rw[gT,aH,lc];exact h
def gF:0+(k+1)=((cr g (k+1)).map row).length:=by rw[aH,lc];omega
def gL{r}:(List.take (k+1) (List.drop 0 ((cr g (k+1)).map row))).length+([r]:List (List AV)).length=k+1+1:=by rw[gT,aH,lc];rfl
def Jp{x}(h:x=g 0):[row x]=(cr g (0+1)).map row:=by rw[h];rfl
def Gh{x}(h:x=g (k+1)):List.take (k+1) (List.drop 0 ((cr g (k+1)).map row))++[row x]=(cr g (k+1+1)).map row:=by
 rw[gT,h,SH g (k+1),dH];rfl
end
def fy{x y}{k}(h:x=y):bw.ok (.v (.int k x))=.ok (.v (.int k y)):=by rw[h]
def Pu(a i)(b:a<=4294967295)(c:i<=1000):bI C0 110 [vU a,vN i] (.v (.int .u32 ((a/2 ^ i%2:Nat):Int))):=by
 refine bk func110 rfl ?_;refine rW _ rfl (ar (nJ c rfl)) ?_;have d:a/2 ^ i<=4294967295:=aL (cO _ _) b;refine nW _ rfl (hW (yb i b rfl)) (aG _) ?_;have e:(a/2 ^ i)%2<=1:=aI (aQ _ dT);exact zM (vU ((a/2 ^ i)%2)) rfl dT<|fT rfl rfl
def Sy(l:List Nat)(k)(b:k<l.length):l.drop (l.length-(k+1))=l.getD (l.length-1-k) 0::l.drop (l.length-k):=by
 have a:l.length-(k+1)<l.length:=oT;rw[bF a,(oT:l.length-(k+1)+1=l.length-k),(oT:l.length-1-k=l.length-(k+1)),aR,aA a];rfl
def yl{l:List Nat}{B}(h:∀n∈l,n<=B)(i):l.getD i 0<=B:=by
 rw[aR];rcases fk i l.length with k|k
 ·rw[aA k];exact h _ (jO k)
 rw[bE k];exact aE _
def P4(l)(b:∀n∈l,n<=4294967295)(h:l.length<=1000000):bI C0 113 [.X 1 (l.map dU) false] (.v (.int .u32 ((fg l:Nat):Int))):=by
 refine bk func113 rfl ?_;refine rV (vI ((l.map dU).length:Int)) rfl<|zV (vI (IntKind.wrap .i64 (((l.map dU).length:Int)-1))) ?_;refine eh (λk=>⟨be [(0,.X 1 (l.map dU) false),(3,vU (fg (l.drop (l.length-k)))),(4,vI ((l.length:Int)-1-(k:Int)))],ap [],6⟩) (λk=>k<=l.length) (λk=>l.length-k) 0 (λs=>s) (av (λs=>s) ⟨⟨rfl,rfl⟩,⟨by show AV.v (.int .u32 0)=.v (.int .u32 ((fg (l.drop (l.length-0)):Nat):Int));simp[fg],rfl⟩,⟨by show AV.v (.int .i64 (IntKind.wrap .i64 (((l.map dU).length:Int)-1)))=.v (.int .i64 ((l.length:Int)-1-((0:Nat):Int)));rw[aH,c4 ad ad];simp,rfl⟩,trivial⟩ trivial rfl) (aE _) ?_;intro k f;have e:l.getD (l.length-1-k) 0<=4294967295:=yl b _;refine zV (vB (decide (((l.length:Int)-1-(k:Int))>=0))) ?_;refine cb (((l.length:Int)-1-(k:Int))>=0) qW (λa=>?_) (λa=>?_)
 ·skip
  have c:(2*(fg (l.drop (l.length-k))))%4294967296<=4294967295:=aI (aQ _ dT);refine zV (vU ((2*(fg (l.drop (l.length-k))))%4294967296)) ?_;refine FO (dU (l.getD (l.length-1-k) 0)) rfl rfl rfl (⟨oT,by rw[(oT:((l.length:Int)-1-(k:Int)).toNat=l.length-1-k),aX,aA ad,aR,aA ad];rfl⟩) rfl ?_;have d:(((2*(fg (l.drop (l.length-k))))%4294967296)+(l.getD (l.length-1-k) 0))%4294967296<=4294967295:=aI (aQ _ dT);refine qR 0 rfl<|zV (vU ((((2*(fg (l.drop (l.length-k))))%4294967296)+(l.getD (l.length-1-k) 0))%4294967296))<|zV (vI (IntKind.wrap .i64 (((l.length:Int)-1-(k:Int))-1))) ?_;refine⟨k+1,λs=>s,av (λs=>s) ⟨⟨rfl,rfl⟩,⟨qb (by rw[Sy l k ad];simp only[fg];omega),rfl⟩,⟨by show AV.v (.int .i64 (IntKind.wrap .i64 ((l.length:Int)-1-(k:Int)-1)))=.v (.int .i64 ((l.length:Int)-1-((k+1:Nat):Int)));rw[c4 ad ad];congr 2;omega,rfl⟩,trivial⟩ trivial rfl,ad,ad⟩
 exact fN rfl (by rw[(oT:l.length-k=0)];simp)
def tn(a:Nat)(z)(c:a<=4294967295)(b:0<=z)(d:z<=31):bI C0 110 [.v (.int .u32 (a:Int)),.v (.int .i64 z)] (.v (.int .u32 ((a/2 ^ z.toNat%2:Nat):Int))):=by
 have:bI C0 110 [.v (.int .u32 (a:Int)),.v (.int .i64 ((z.toNat:Nat):Int))] (.v (.int .u32 ((a/2 ^ z.toNat%2:Nat):Int))):=Pu a z.toNat c ad
 rwa [lU b]at this
def qa(n){g}{k}(a:∀i,g i<=4294967295)(b:k+1=n∧n<=32):bI C0 113 [.X 1 (List.take (k+1) (List.drop 0 ((cr g (k+1)).map dU))) false] (.v (.int .u32 ((fg (cr g n):Nat):Int))):=by
 rw[gT,b.1];exact P4 _ (NZ λi _=>a i) (by rw[lc];omega)
def tz{g:Nat->Nat}{k:Nat}(a:∀i,g i<=4294967295)(b:k+1=32):bI C0 113 [.X 1 (List.take (k+1) (List.drop 0 ((cr g (k+1)).map dU))) false] (.v (.int .u32 ((fg (cr g 32):Nat):Int))):=qa 32 a ⟨b,dT⟩
def pn{h}{k}{g}(e:h 0=some (.arr ((cr g (k+1)).map dU) 1)):jV h [.S 0 0 (k+1) false]:=by
 show(match h 0 with|some (.arr rows _)=>0+(k+1)<=rows.length|_=>False)∧True;rw[e];exact⟨Nat.le_of_eq gF,trivial⟩
def B0(a n)(b:1<=n)(e:a+n<=32):bI C0 112 [vN a,vN n] (.v (.bool true)):=by
 refine bk func112 rfl ?_;refine zW _ (am (i9 _ _))<|ay rfl id (am (jh _ _))<|zN rfl (λh=>h)<|ay rfl id (am (i9 _ _)) ?_;exact zN rfl (λh=>h)<|ay rfl id (fy (c4 ad ad))<|ay rfl cn rfl<|zN rfl (λh=>h)<|ii rfl (by have c:a<=31:=ad;have d:(n:Int)<=32-a:=ad;simp[cE,b,c,d])
def Sz(x a n)(h:n<=32):fg (cr (λi=>x/2 ^ (a+i)%2) n)=an x a n:=by
 rw[<-x9];exact Jq _ (Od x a n) (by simp[cr];omega)
def z2(x n)(a:1<=n)(b:n<=32):fg (cr (yN x n) 32)=cp x n:=by
 rw[<-x_ x n a b];exact Jq _ (Js x n 32) (by simp[cr])
def SB(x a i:Nat):x/2 ^ (a+i)%2<=4294967295:=oT
def Vq(x n i:Nat):yN x n i<=4294967295:=oH (Oe x n i)
def ij(x a n k)(h:2 ^ n=k+1):an x a n<=k:=by have:=iR x a n;rw[h]at this;exact aI this
def gQ{x a n k}(h:2 ^ n=k+1):an x a n<=k:=by have:=iR x a n;rw[h]at this;exact aI this
def SC(x a n)(c:x<=4294967295)(f:1<=n)(h:a+n<=32):bI C0 54 [vU x,vN a,vN n] (.v (.int .u32 ((an x a n:Nat):Int))):=by
 refine bk func54 rfl ?_;refine a1 rfl (B0 a n f h) ?_;refine qR 1 rfl<|zV (.X 1 ([]) true)<|jR (κ:=Nat) (λk=>match k with|0=>⟨be [(0,vU x),(1,vN a),(2,vN n),(7,.X 1 ([]) true),(8,vN 0)],ap [],8⟩|k+1=>⟨be [(0,vU x),(1,vN a),(2,vN n),(7,.S 0 0 (k+1) false),(8,vN (k+1))],ap [(0,.arr ((cr (λi=>x/2 ^ (a+i)%2) (k+1)).map dU) 1)],8⟩) (λk=>k<=n) (λk=>n-k) 0 (λs=>s) (av (λs=>s) wT trivial rfl) (aE _) ?_;intro k m;rcases k with _|k
 ·have b:0<=1000000:=dT;refine qS 0 rfl<|zW _ (am (bz _ _)) ?_;refine cb (0<n) qW (λj=>?_) (λj=>by omega);have d:a+0<=1000032:=aD ad b;refine rW _ rfl (ar (bH d rfl))<|a1 rfl (Pu x (a+0) c ad)<|rV (.X 1 ([[vU (x/2 ^ (a+0)%2)]]) true) rfl<|zF (x:=.S 18 0 1 false) (h':=ao _ 18 (some (.arr (([])++([[vU (x/2 ^ (a+0)%2)]])) 1))) (rfl) (⟨by exact aJ rfl,by exact aJ rfl,trivial,trivial⟩) ?_;refine zW _ (ar (bH (aD b (aC 1)) rfl)) ?_;refine⟨0+1,λs=>match s with|0=>18|s=>s,av (λs=>match s with|0=>18|s=>s) wT ⟨⟨rfl,az (λz=>some (bh.arr z 1)) (Jp (g:=λi=>x/2 ^ (a+i)%2) (row:=dU) (rfl)),rfl⟩,trivial⟩ rfl,ad,ad⟩
 have b:k+1<=1000000:=oT;refine qS 0 rfl<|zW _ (am (bz _ _)) ?_;refine cb ((k+1)<n) qW (λl=>?_) (λl=>?_)
 ·skip
  have e:a+(k+1)<=1000032:=aD ad b;refine rW _ rfl (ar (bH e rfl))<|a1 rfl (Pu x (a+(k+1)) c ad)<|rV (.X 1 ([[vU (x/2 ^ (a+(k+1))%2)]]) true) rfl ?_;refine zF (rfl) (⟨gC ad,gF,trivial⟩) ?_;refine zW _ (ar (bH (aD b (aC 1)) rfl)) ?_;refine⟨(k+1)+1,λs=>match s with|0=>18|s=>s,av (λs=>match s with|0=>18|s=>s) ⟨⟨rfl,rfl⟩,⟨rfl,rfl⟩,⟨rfl,rfl⟩,⟨az (λz=>AV.S 18 0 z false) gL,rfl⟩,⟨rfl,rfl⟩,trivial⟩ ⟨⟨rfl,az (λz=>some (bh.arr z 1)) (Gh (rfl)),rfl⟩,trivial⟩ rfl,ad,ad⟩
 exact qX 0 rfl<|zL rfl (.inr ⟨rfl,pn rfl⟩) (qa n (SB x a) ad)<|fN rfl (Sz x a n ad)
def Pm(x n)(c:x<=4294967295)(d:1<=n)(e:n<=32):bI C0 55 [vU x,vN n] (.v (.int .u32 ((cp x n:Nat):Int))):=by
 refine bk func55 rfl ?_;refine zW _ (am (bz _ _))<|ay rfl id (am (fw _ _))<|zN rfl (by simp) ?_;refine cb (n<1∨n>32) (wP _ _ qW qW) (λf=>by omega) (λf=>?_);refine zV (.X 1 ([]) true)<|jR (κ:=Nat) (λk=>match k with|0=>⟨be [(0,vU x),(1,vN n),(5,.X 1 ([]) true),(6,vN 0)],ap [],10⟩|k+1=>⟨be [(0,vU x),(1,vN n),(5,.S 0 0 (k+1) false),(6,vN (k+1))],ap [(0,.arr ((cr (yN x n) (k+1)).map dU) 1)],10⟩) (λk=>k<=32) (λk=>32-k) 0 (λs=>s) (av (λs=>s) wT trivial rfl) (aE _) ?_;intro k l;rcases k with _|k
 ·have a:0<=1000000:=dT;refine qS 0 rfl<|zW _ (am (bz _ _)) ?_;refine cb (0<32) qW (λh=>?_) (λh=>by omega);refine zW _ (am (bz _ _)) ?_;refine cb (0<n) qW (λi=>?_) (λi=>by omega);refine a1 rfl (Pu x 0 c ad)<|rV (.X 1 ([[vU (x/2 ^ 0%2)]]) true) rfl<|zF (x:=.S 20 0 1 false) (h':=ao _ 20 (some (.arr (([])++([[vU (x/2 ^ 0%2)]])) 1))) (rfl) (⟨by exact aJ rfl,by exact aJ rfl,trivial,trivial⟩) ?_;refine zW _ (ar (bH (aD a (aC 1)) rfl)) ?_;refine⟨0+1,λs=>match s with|0=>20|s=>s,av (λs=>match s with|0=>20|s=>s) wT ⟨⟨rfl,az (λz=>some (bh.arr z 1)) (Jp (row:=dU) (x:=x/2 ^ 0%2) (by unfold yN;rw[aa ad])),rfl⟩,trivial⟩ rfl,ad,ad⟩
 have a:k+1<=1000000:=oT;refine qS 0 rfl<|zW _ (am (bz _ _)) ?_;refine cb ((k+1)<32) qW (λj=>?_) (λj=>?_)
 ·refine zW _ (am (bz _ _)) ?_;refine cb ((k+1)<n) qW (λb=>?_) (λb=>?_)
  ·refine a1 rfl (Pu x (k+1) c ad)<|rV (.X 1 ([[vU (x/2 ^ (k+1)%2)]]) true) rfl ?_;refine zF (rfl) (⟨gC ad,gF,trivial⟩) ?_;refine zW _ (ar (bH (aD a (aC 1)) rfl)) ?_;refine⟨(k+1)+1,λs=>match s with|0=>20|s=>s,av (λs=>match s with|0=>20|s=>s) ⟨⟨rfl,rfl⟩,⟨rfl,rfl⟩,⟨az (λz=>AV.S 20 0 z false) gL,rfl⟩,⟨rfl,rfl⟩,trivial⟩ ⟨⟨rfl,az (λz=>some (bh.arr z 1)) (Gh (by unfold yN;rw[aa b])),rfl⟩,trivial⟩ rfl,ad,ad⟩
  refine rW _ rfl (fy (by rw[c4 ad ad];omega))<|a1 rfl (Pu x (n-1) c ad)<|rV (.X 1 ([[vU (x/2 ^ (n-1)%2)]]) true) rfl ?_;refine zF (rfl) (⟨gC ad,gF,trivial⟩) ?_;refine zW _ (ar (bH (aD a (aC 1)) rfl)) ?_;refine⟨(k+1)+1,λs=>match s with|0=>21|s=>s,av (λs=>match s with|0=>21|s=>s) ⟨⟨rfl,rfl⟩,⟨rfl,rfl⟩,⟨az (λz=>AV.S 21 0 z false) gL,rfl⟩,⟨rfl,rfl⟩,trivial⟩ ⟨⟨rfl,az (λz=>some (bh.arr z 1)) (Gh (by unfold yN;rw[dZ b])),rfl⟩,trivial⟩ rfl,ad,ad⟩
 exact qX 0 rfl<|zL rfl (.inr ⟨rfl,pn rfl⟩) (qa 32 (Vq x n) ad)<|fN rfl (z2 x n d e)
def Vr(c:Int)(a b i:Nat):uP c a b i<=4294967295:=oH (El c a b i)
def SD(a:Nat)(n:Int){b:Nat}(c:b<2)(i:Nat):ia a n b i<=4294967295:=oH (CF a n c i)
def Pn(c)(a b)(l:a<=4294967295)(m:b<=4294967295):bI C0 108 [vI c,vU a,vU b] (.v (.int .u32 ((fg (cr (uP c a b) 32):Nat):Int))):=by
 refine bk func108 rfl ?_;refine zV (.X 1 ([]) true) ?_;refine jR (κ:=Nat) (λk=>match k with|0=>⟨be [(0,vI c),(1,vU a),(2,vU b),(7,.X 1 ([]) true),(8,vN 0)],ap [],4⟩|k+1=>⟨be [(0,vI c),(1,vU a),(2,vU b),(7,.S 0 0 (k+1) false),(8,vN (k+1))],ap [(0,.arr ((cr (uP c a b) (k+1)).map dU) 1)],4⟩) (λk=>k<=32) (λk=>32-k) 0 (λs=>s) (av (λs=>s) wT trivial rfl) (aE _) ?_;intro k p;rcases k with _|k
 ·have d:0<=1000000:=dT;refine qS 0 rfl<|zW _ (am (bz _ _)) ?_;refine cb (0<32) qW (λn=>?_) (λn=>by omega);refine zC (Pu a 0 l ad)<|a1 rfl (Pu b 0 m ad) ?_;refine zW _ (ar (nJ (aD (aI (aQ _ dT)) (aI (aQ _ dT))) rfl))<|zV (vB (c==1))<|ay rfl id (am (a6 _ _))<|zN rfl (λh=>h)<|ay rfl id rfl<|zG rfl id ?_;refine ay rfl id (am (fw _ _))<|pB rfl rfl rfl rfl (λh=>h) rfl rfl (λf e=>by first|(rw[f,e];rfl)|simp_all)<|zN rfl (by simp)<|ay rfl id rfl<|zG rfl id<|ay rfl id (am (a6 _ _))<|pB rfl rfl rfl rfl (λh=>h) rfl rfl (λf e=>by first|(rw[f,e];rfl)|simp_all)<|zN rfl (by simp) ?_;refine cb (((c=1∧((a/2 ^ 0%2)+(b/2 ^ 0%2))=2)∨(c=2∧((a/2 ^ 0%2)+(b/2 ^ 0%2))>0))∨(c=3∧((a/2 ^ 0%2)+(b/2 ^ 0%2))=1)) (wP _ _ (wP _ _ (uA _ _ bv bv) (uA _ _ bv qW)) (uA _ _ bv bv)) (λi=>?_) (λi=>?_)
  ·refine rV (.X 1 ([[.v (.int .u32 1)]]) true) rfl<|zF (x:=.S 40 0 1 false) (h':=ao _ 40 (some (.arr (([])++([[.v (.int .u32 1)]])) 1))) (rfl) (⟨dT,dT,trivial,trivial⟩) ?_;refine zW _ (ar (bH (aD d (aC 1)) rfl)) ?_;refine⟨0+1,λs=>match s with|0=>40|s=>s,av (λs=>match s with|0=>40|s=>s) wT ⟨⟨rfl,az (λz=>some (bh.arr z 1)) (Jp (row:=dU) (x:=1) (by unfold uP;rw[aa i])),rfl⟩,trivial⟩ rfl,ad,ad⟩
  refine rV (.X 1 ([[.v (.int .u32 0)]]) true) rfl<|zF (x:=.S 40 0 1 false) (h':=ao _ 40 (some (.arr (([])++([[.v (.int .u32 0)]])) 1))) (rfl) (⟨dT,dT,trivial,trivial⟩) ?_;refine zW _ (ar (bH (aD d (aC 1)) rfl)) ?_;refine⟨0+1,λs=>match s with|0=>40|s=>s,av (λs=>match s with|0=>40|s=>s) wT ⟨⟨rfl,az (λz=>some (bh.arr z 1)) (Jp (row:=dU) (x:=0) (by unfold uP;rw[dZ i])),rfl⟩,trivial⟩ rfl,ad,ad⟩
 have d:k+1<=1000000:=oT;refine qS 0 rfl<|zW _ (am (bz _ _)) ?_;refine cb ((k+1)<32) qW (λo=>?_) (λo=>?_)
 ·refine zC (Pu a (k+1) l ad)<|a1 rfl (Pu b (k+1) m ad) ?_;refine zW _ (ar (nJ (aD (aI (aQ _ dT)) (aI (aQ _ dT))) rfl))<|zV (vB (c==1))<|ay rfl id (am (a6 _ _))<|zN rfl (λh=>h)<|ay rfl id rfl<|zG rfl id ?_;refine ay rfl id (am (fw _ _))<|pB rfl rfl rfl rfl (λh=>h) rfl rfl (λf e=>by first|(rw[f,e];rfl)|simp_all)<|zN rfl (by simp)<|ay rfl id rfl<|zG rfl id<|ay rfl id (am (a6 _ _))<|pB rfl rfl rfl rfl (λh=>h) rfl rfl (λf e=>by first|(rw[f,e];rfl)|simp_all)<|zN rfl (by simp) ?_;refine cb (((c=1∧((a/2 ^ (k+1)%2)+(b/2 ^ (k+1)%2))=2)∨(c=2∧((a/2 ^ (k+1)%2)+(b/2 ^ (k+1)%2))>0))∨(c=3∧((a/2 ^ (k+1)%2)+(b/2 ^ (k+1)%2))=1)) (wP _ _ (wP _ _ (uA _ _ bv bv) (uA _ _ bv qW)) (uA _ _ bv bv)) (λj=>?_) (λj=>?_)
  ·refine rV (.X 1 ([[.v (.int .u32 1)]]) true) rfl ?_;refine zF (rfl) (⟨gC ad,gF,trivial⟩) ?_;refine zW _ (ar (bH (aD d (aC 1)) rfl)) ?_;refine⟨(k+1)+1,λs=>match s with|0=>40|s=>s,av (λs=>match s with|0=>40|s=>s) ⟨⟨rfl,rfl⟩,⟨rfl,rfl⟩,⟨rfl,rfl⟩,⟨az (λz=>AV.S 40 0 z false) gL,rfl⟩,⟨rfl,rfl⟩,trivial⟩ ⟨⟨rfl,az (λz=>some (bh.arr z 1)) (Gh (by unfold uP;rw[aa j])),rfl⟩,trivial⟩ rfl,ad,ad⟩
  refine rV (.X 1 ([[.v (.int .u32 0)]]) true) rfl ?_;refine zF (rfl) (⟨gC ad,gF,trivial⟩) ?_;refine zW _ (ar (bH (aD d (aC 1)) rfl)) ?_;refine⟨(k+1)+1,λs=>match s with|0=>40|s=>s,av (λs=>match s with|0=>40|s=>s) ⟨⟨rfl,rfl⟩,⟨rfl,rfl⟩,⟨rfl,rfl⟩,⟨az (λz=>AV.S 40 0 z false) gL,rfl⟩,⟨rfl,rfl⟩,trivial⟩ ⟨⟨rfl,az (λz=>some (bh.arr z 1)) (Gh (by unfold uP;rw[dZ j])),rfl⟩,trivial⟩ rfl,ad,ad⟩
 exact qX 0 rfl<|zL rfl (.inr ⟨rfl,pn rfl⟩) (tz (Vr c a b) ad)<|fT rfl rfl
def Hg(a)(n)(b)(f:a<=4294967295)(l: -32<=n)(m:n<=32)(j:b<2):bI C0 109 [vU a,vI n,vU b] (.v (.int .u32 ((fg (cr (ia a n b) 32):Nat):Int))):=by
 refine bk func109 rfl ?_;refine zV (.X 1 ([]) true) ?_;refine jR (κ:=Nat) (λk=>match k with|0=>⟨be [(0,vU a),(1,vI n),(2,vU b),(7,.X 1 ([]) true),(8,vN 0)],ap [],4⟩|k+1=>⟨be [(0,vU a),(1,vI n),(2,vU b),(7,.S 0 0 (k+1) false),(8,vN (k+1))],ap [(0,.arr ((cr (ia a n b) (k+1)).map dU) 1)],4⟩) (λk=>k<=32) (λk=>32-k) 0 (λs=>s) (av (λs=>s) wT trivial rfl) (aE _) ?_;intro k o;rcases k with _|k
 ·have c:0<=1000000:=dT;refine qS 0 rfl<|zW _ (am (bz _ _)) ?_;refine cb (0<32) qW (λh=>?_) (λh=>by omega);refine rW _ rfl (fy (c4 ad ad))<|zV (vB (decide ((((0:Nat):Int)-n)<0)))<|ay rfl cn (fy (c4 ad ad))<|ay rfl id rfl<|zN rfl (by simp) ?_;refine cb ((((0:Nat):Int)-n)<0∨(((0:Nat):Int)-n)>31) (wP _ _ qW qW) (λd=>?_) (λd=>?_)
  ·refine rV (.X 1 ([[vU b]]) true) rfl<|zF (x:=.S 19 0 1 false) (h':=ao _ 19 (some (.arr (([])++([[vU b]])) 1))) (rfl) (⟨by exact aJ rfl,by exact aJ rfl,trivial,trivial⟩) ?_;refine zW _ (ar (bH (aD c (aC 1)) rfl)) ?_;refine⟨0+1,λs=>match s with|0=>19|s=>s,av (λs=>match s with|0=>19|s=>s) wT ⟨⟨rfl,az (λz=>some (bh.arr z 1)) (Jp (row:=dU) (x:=b) (by unfold ia;rw[aa d])),rfl⟩,trivial⟩ rfl,ad,ad⟩
  refine rW _ rfl (fy (c4 ad ad))<|a1 rfl (tn a _ f ad ad)<|rV (.X 1 ([[vU (a/2 ^ (((0:Nat):Int)-n).toNat%2)]]) true) rfl<|zF (x:=.S 23 0 1 false) (h':=ao _ 23 (some (.arr (([])++([[vU (a/2 ^ (((0:Nat):Int)-n).toNat%2)]])) 1))) (rfl) (⟨by exact aJ rfl,by exact aJ rfl,trivial,trivial⟩) ?_;refine zW _ (ar (bH (aD c (aC 1)) rfl)) ?_;refine⟨0+1,λs=>match s with|0=>23|s=>s,av (λs=>match s with|0=>23|s=>s) wT ⟨⟨rfl,az (λz=>some (bh.arr z 1)) (Jp (row:=dU) (x:=a/2 ^ (((0:Nat):Int)-n).toNat%2) (by unfold ia;rw[dZ d])),rfl⟩,trivial⟩ rfl,ad,ad⟩
 have c:k+1<=1000000:=oT;refine qS 0 rfl<|zW _ (am (bz _ _)) ?_;refine cb ((k+1)<32) qW (λi=>?_) (λi=>?_)
 ·refine rW _ rfl (fy (c4 ad ad))<|zV (vB (decide (((((k+1):Nat):Int)-n)<0)))<|ay rfl cn (fy (c4 ad ad))<|ay rfl id rfl<|zN rfl (by simp) ?_;refine cb (((((k+1):Nat):Int)-n)<0∨((((k+1):Nat):Int)-n)>31) (wP _ _ qW qW) (λe=>?_) (λe=>?_)
  ·refine rV (.X 1 ([[vU b]]) true) rfl ?_;refine zF (rfl) (⟨gC ad,gF,trivial⟩) ?_;refine zW _ (ar (bH (aD c (aC 1)) rfl)) ?_;refine⟨(k+1)+1,λs=>match s with|0=>19|s=>s,av (λs=>match s with|0=>19|s=>s) ⟨⟨rfl,rfl⟩,⟨rfl,rfl⟩,⟨rfl,rfl⟩,⟨az (λz=>AV.S 19 0 z false) gL,rfl⟩,⟨rfl,rfl⟩,trivial⟩ ⟨⟨rfl,az (λz=>some (bh.arr z 1)) (Gh (by unfold ia;rw[aa e])),rfl⟩,trivial⟩ rfl,ad,ad⟩
  refine rW _ rfl (fy (c4 ad ad))<|a1 rfl (tn a _ f ad ad)<|rV (.X 1 ([[vU (a/2 ^ ((((k+1):Nat):Int)-n).toNat%2)]]) true) rfl ?_;refine zF (rfl) (⟨gC ad,gF,trivial⟩) ?_;refine zW _ (ar (bH (aD c (aC 1)) rfl)) ?_;refine⟨(k+1)+1,λs=>match s with|0=>23|s=>s,av (λs=>match s with|0=>23|s=>s) ⟨⟨rfl,rfl⟩,⟨rfl,rfl⟩,⟨rfl,rfl⟩,⟨az (λz=>AV.S 23 0 z false) gL,rfl⟩,⟨rfl,rfl⟩,trivial⟩ ⟨⟨rfl,az (λz=>some (bh.arr z 1)) (Gh (by unfold ia;rw[dZ e])),rfl⟩,trivial⟩ rfl,ad,ad⟩
 exact qX 0 rfl<|zL rfl (.inr ⟨rfl,pn rfl⟩) (tz (SD a n j) ad)<|fT rfl rfl
def tq(x i):IntKind.wrap .u8 ((an x (8*i) 8:Nat):Int)=(((xM x i).toNat:Nat):Int):=by
 simp only[IntKind.wrap,IntKind.signed,IntKind.bits,xM,an];simp
def z3(x n)(b:x<=4294967295)(h:n<=4):bI C0 24 [vU x,vN n] (.E [.v (.string (oF x n)),.v (.int .i64 0)]):=by
 refine bk func24 rfl ?_;refine zW _ (am (bz _ _))<|ay (x:=vB (decide (n>4))) rfl id (am (fw _ _))<|zN rfl (by simp) ?_;refine cb (n<0∨n>4) (wP _ _ qW qW) (λc=>by omega) (λc=>?_);refine zV (.X 1 ([]) true)<|jR (κ:=Nat) (λk=>match k with|0=>⟨be [(0,vU x),(1,vN n),(6,.X 1 ([]) true),(7,vN 0)],ap [],11⟩|k+1=>⟨be [(0,vU x),(1,vN n),(6,.S 0 0 (k+1) false),(7,vN (k+1))],ap [(0,.arr ((cr (xM x) (k+1)).map Sx) 1)],11⟩) (λk=>k<=n) (λk=>n-k) 0 (λs=>s) (av (λs=>s) wT trivial rfl) (aE _) ?_;intro k f;rcases k with _|k
 ·have a:0<=1000000:=dT;refine qS 0 rfl<|zW _ (am (bz _ _)) ?_;refine cb (0<n) qW (λd=>?_) (λd=>?_)
  ·skip
   refine rW _ rfl (ar (bH (cJ (aC 8) a) rfl))<|a1 rfl (SC x (8*0) 8 b dT ad)<|rW _ rfl (fy (tq x 0))<|rV (.X 1 ([[.v (.int .u8 (((xM x 0).toNat:Nat):Int))]]) true) rfl<|zF (x:=.S 21 0 1 false) (h':=ao _ 21 (some (.arr (([])++([[.v (.int .u8 (((xM x 0).toNat:Nat):Int))]])) 1))) (rfl) (⟨by exact aJ rfl,by exact aJ rfl,trivial,trivial⟩) ?_;refine zW _ (ar (bH (aD a (aC 1)) rfl)) ?_;refine⟨0+1,λs=>match s with|0=>21|s=>s,av (λs=>match s with|0=>21|s=>s) wT ⟨⟨rfl,az (λz=>some (bh.arr z 1)) (Jp (g:=xM x) (row:=Sx) (rfl)),rfl⟩,trivial⟩ rfl,ad,ad⟩
  exact qX 0 rfl<|SV (([]:List UInt8)) rfl rfl rfl (trivial) (rfl)<|dc 0 rfl<|fT rfl (by rw[(oT:n=0)];rfl)
 have a:k+1<=1000000:=oT;refine qS 0 rfl<|zW _ (am (bz _ _)) ?_;refine cb ((k+1)<n) qW (λe=>?_) (λe=>?_)
 ·skip
  refine rW _ rfl (ar (bH (cJ (aC 8) a) rfl))<|a1 rfl (SC x (8*(k+1)) 8 b dT ad)<|rW _ rfl (fy (tq x (k+1)))<|rV (.X 1 ([[.v (.int .u8 (((xM x (k+1)).toNat:Nat):Int))]]) true) rfl ?_;refine zF (rfl) (⟨gC ad,gF,trivial⟩) ?_;refine zW _ (ar (bH (aD a (aC 1)) rfl)) ?_;refine⟨(k+1)+1,λs=>match s with|0=>21|s=>s,av (λs=>match s with|0=>21|s=>s) ⟨⟨rfl,rfl⟩,⟨rfl,rfl⟩,⟨az (λz=>AV.S 21 0 z false) gL,rfl⟩,⟨rfl,rfl⟩,trivial⟩ ⟨⟨rfl,az (λz=>some (bh.arr z 1)) (Gh (rfl)),rfl⟩,trivial⟩ rfl,ad,ad⟩
 exact qX 0 rfl<|SV (cr (xM x) (k+1)) rfl rfl rfl (Nat.le_of_eq gF) (by rw[gT];exact lN _)<|dc 0 rfl<|fT rfl (by rw[show oF x n=(⟨(cr (xM x) (k+1)).toArray⟩:ByteArray) by rw[(oT:k+1=n)];exact(SK x n).symm];rfl)
end Go.Proofs.YtdhclfgoomldfaaGreatDoor
