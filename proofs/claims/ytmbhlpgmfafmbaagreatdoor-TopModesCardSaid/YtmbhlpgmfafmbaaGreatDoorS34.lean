/- Lemmas. -/
import Derived.WideShapes
import Derived.Test.YtmbhlpgmfafmbaaGreatDoorS1
import Derived.Test.YtmbhlpgmfafmbaaGreatDoorS8
import Derived.Test.YtmbhlpgmfafmbaaGreatDoorS28
import Derived.Test.YtmbhlpgmfafmbaaGreatDoorS29
import Derived.Test.YtmbhlpgmfafmbaaGreatDoorS33
set_option linter.all false
namespace Go.Proofs.YtmbhlpgmfafmbaaGreatDoor
open Go.RowKit
def EL{c}{n}(h:c.ok n)(l:n<=890000)(d:jF c=true):c.E n:=by
 unfold jF at d;simp only[aP,aY]at d;let⟨⟨⟨⟨⟨⟨⟨⟨⟨⟨⟨f,s⟩,j⟩,t⟩,u⟩,v⟩,a⟩,b⟩,k⟩,q⟩,r⟩,g⟩:=d;unfold Ax at a b;simp[aP,aY]at a b;have w:=pD f;have m:c.mem.size<=256:=by
  have e:c.mem.toList=(jB c.mem).toList:=sU j;have i:c.mem.size=(jB c.mem).size:=by rw[<-ns, <-ns _,e]
  rw[i,wE];unfold gr;repeat' split
  all_goals omega
 have o:∀x∈c.W,x.data.size<=4:=λx p=>by
  have:=rC.1 g x p;unfold kZ at this;simp[aP,aY]at this;omega
 exact⟨h,l,f,a.1.1,b.1.1,k,oT,oT,oT,oT,m,o⟩
def qb(K:AH)(m a ap:Nat)(c:Co)(F S T:AV)(h':AH):Prop:=
 (c.Z=[]∧h'=an K m (some (.box (aw c (.X 17 [] false) F S T))))∨
 ∃(b:Nat) (A B:List ai) (k:Bool),(b=a∨b=ap)∧A.length+c.Z.length+B.length<=1000∧h'=an (an K m (some (.box (aw c (.S b A.length c.Z.length k) F S T)))) b (some (.arr ((A++c.Z++B).map ak) 17))
def Qp{f}{h}{c}{l n o}{p q r}(H:pM C0.P C0.G f [.ptr 0 0] (ao [(0,h)]) 1 (λx h'=>x=.A []∧VF 1 c (.X 2 p l) (.X 2 q n) (.X 9 r o) h'))(m)(K)(ap)(t:ib (λ_=>m) K 1 ap [(0,h)]):
  pM C0.P C0.G f [.ptr m 0] K ap (λx h'=>x=.A []∧qb K m ap ap c (.X 2 p l) (.X 2 q n) (.X 9 r o) h'):=by
 refine H.ZC (λ_=>m) K ap rfl t rfl rfl _ λw h' g=>?_;obtain⟨rfl,g⟩:=g;rcases g with ⟨s,rfl⟩|⟨b,A,B,k,v,u,rfl⟩
 ·refine⟨_,⟨rfl,.inl ⟨s,rfl⟩⟩,λy blk a=>?_⟩;by_cases d:y=m
  ·subst d;rw[dB]at a;injection a with a;subst a;exact .inl ⟨0,_,rfl,rfl,rfl⟩
  rw[cI _ _ d]at a;exact .inr ⟨a,λx _ e=>d e.symm⟩
 have i:b=1:=oT;subst i;refine⟨_,⟨rfl,.inr ⟨ap,A,B,k,.inr rfl,u,rfl⟩⟩,λy blk a=>?_⟩;by_cases j:y=ap
 ·subst j;rw[dB]at a;injection a with a;subst a;exact .inl ⟨1,_,rfl,(ks _ _ _).symm,rfl⟩
 rw[cI _ _ j]at a;by_cases d:y=m
 ·subst d;rw[dB]at a;injection a with a;subst a;exact .inl ⟨0,_,rfl,rfl,rfl⟩
 rw[cI _ _ d]at a;exact .inr ⟨a,λx _ e=>d e.symm⟩
def Qq{f}{D E}{c}{l n o}{p q r}(H:pM C0.P C0.G f [.ptr 0 0] (ao [(0,D),(1,E)]) 2 (λx h'=>x=.A []∧VF 2 c (.X 2 p l) (.X 2 q n) (.X 9 r o) h'))(m d)(K)(ap)(N:ib (λz=>match z with|0=>m|_=>d) K 2 ap [(0,D),(1,E)])(F:m≠d):
  pM C0.P C0.G f [.ptr m 0] K ap (λx h'=>x=.A []∧qb (an K d none) m d ap c (.X 2 p l) (.X 2 q n) (.X 9 r o) h'):=by
 have O:UQ (λz=>match z with|0=>m|_=>d) 2=true:=by
  have:Nat.beq m d=false:=by rw[<-eJ];exact λe=>F (aO e)
  simp[UQ,List.range,List.range.loop,this]
 have u:∀y, ¬y=m-> ¬y=d->∀x,x<2->(λz=>match z with|0=>m|_=>d) x≠y:=by
  intro y L M x _ e
  cases x with
  |zero=>exact L e.symm
  |succ x=>exact M e.symm
 refine H.ZC (λz=>match z with|0=>m|_=>d) K ap rfl N O rfl _ λR h' w=>?_;obtain⟨rfl,w⟩:=w;rcases w with ⟨J,rfl⟩|⟨b,A,B,k,Q,P,rfl⟩
 ·refine⟨_,⟨rfl,.inl ⟨J,rfl⟩⟩,λy blk a=>?_⟩;by_cases g:y=m
  ·subst g;rw[dB]at a;injection a with a;subst a;exact .inl ⟨0,_,rfl,rfl,rfl⟩
  ·rw[cI _ _ g]at a;by_cases h:y=d
   ·subst h;rw[dB]at a;cases a
   ·rw[cI _ _ h]at a;exact .inr ⟨a,u y g h⟩
 ·have s:b=1∨b=2:=oT;have v:∀i,i=Gg (λz=>match z with|0=>m|_=>d) 2 ap b->(i=d∨i=ap)->∃C,((uW (Gg (λz=>match z with|0=>m|_=>d) 2 ap) (.A [])=.A [])∧qb (an K d none) m d ap c (.X 2 p l) (.X 2 q n) (.X 9 r o) C)∧∀y blk,C y=some blk->(∃x j,ao [(0,.box (aw c (.S b A.length c.Z.length k) (.X 2 p l) (.X 2 q n) (.X 9 r o))),(b,.arr ((A++c.Z++B).map ak) 17)] x=some j∧y=Gg (λz=>match z with|0=>m|_=>d) 2 ap x∧blk=DI (Gg (λz=>match z with|0=>m|_=>d) 2 ap) j)∨(K y=some blk∧∀x,x<2->(λz=>match z with|0=>m|_=>d) x≠y):=by
   intro i t G;refine⟨_,⟨rfl,.inr ⟨i,A,B,k,G,P,rfl⟩⟩,λy blk a=>?_⟩;by_cases I:y=i
   ·subst I;rw[dB]at a;injection a with a;subst a;refine .inl ⟨b,.arr ((A++c.Z++B).map ak) 17,?_,t,rfl⟩;rcases s with rfl|rfl<;>rfl
   ·rw[cI _ _ I]at a;by_cases g:y=m
    ·subst g;rw[dB]at a;injection a with a;subst a;refine .inl ⟨0,_,rfl,rfl,?_⟩;rw[t];rfl
    ·rw[cI _ _ g]at a;by_cases h:y=d
     ·subst h;rw[dB]at a;cases a
     ·rw[cI _ _ h]at a;exact .inr ⟨a,u y g h⟩
  rcases s with rfl|rfl
  ·exact v d rfl (.inl rfl)
  ·exact v ap rfl (.inr rfl)
def w2{f}{d}{n}{c}{h i j}{k l o}{rows}(H:pM C0.P C0.G f [.ptr 0 0] (ao [(0,d)]) 1 (λx h'=>x=.A []∧h'=ao [(0,.box (aw c (.S 1 0 n false) (.X 2 k h) (.X 2 l i) (.X 9 o j))),(1,.arr rows 17)]))(m)(K)(ap)(p:ib (λ_=>m) K 1 ap [(0,d)]):
  pM C0.P C0.G f [.ptr m 0] K ap (λx h'=>x=.A []∧h'=an (an K m (some (.box (aw c (.S ap 0 n false) (.X 2 k h) (.X 2 l i) (.X 9 o j))))) ap (some (.arr rows 17))):=by
 refine H.ZC (λ_=>m) K ap rfl p rfl rfl _ λr h' q=>?_;obtain⟨rfl,rfl⟩:=q;refine⟨_,a9,λy blk a=>?_⟩;by_cases g:y=ap
 ·subst g;rw[dB]at a;injection a with a;subst a;exact .inl ⟨1,_,rfl,(ks _ _ _).symm,rfl⟩
 rw[cI _ _ g]at a;by_cases b:y=m
 ·subst b;rw[dB]at a;injection a with a;subst a;exact .inl ⟨0,_,rfl,rfl,rfl⟩
 rw[cI _ _ b]at a;exact .inr ⟨a,λx _ e=>b e.symm⟩
open Go.Proofs.Tryz
set_option maxRecDepth 100000
set_option maxHeartbeats 4000000
def s0(c:Co):Co:={c with ZW:=wrap64 (c.ZW+1)}
def s1(c:Co):Co:=lM (s0 c)
def ap(c:Co):Co:=kK (s1 c)
def s3(c:Co):Co:=d' (ap c)
def c6(c:Co):Co:=gY (s3 c)
def dq(c:Co):Co:=lP (c6 c)
def b'(c:Co):Co:=eN (dq c)
def dn(c:Co):Co:=tY (b' c)
def TM(c:Co):c8 c=dn c:=rfl
def D4{c:Co}{n:Nat}(h:c.E n):(s0 c).E n:=⟨⟨h.ok.U,h.ok.prog,h.ok.Z4,h.ok.r,h.ok.Yr,h.ok.Z5,h.ok.ZS,h.ok.Z,h.ok.Z7,h.ok.Z9,h.ok.Z1,h.ok.data,h.ok.y,h.ok.Y,h.ok.Z_,h.ok.asked,h.ok.ZY,h.ok.mem,h.ok.M,h.ok.ret,h.ok.ZT⟩,h.nb,h.cf,h.data,h.y,h.M,h.Z,h.Z5,h.Z9,h.prog,h.mem,h.ZK⟩
structure sa(c:Co)(n:Nat):Prop where
 k0:(s0 c).E n
 k1:(s1 c).E (n+1)
 k2:(ap c).E (n+1)
 k3:(s3 c).E (n+5)
 k4:(c6 c).E (n+7)
 k5:(dq c).E (n+7)
 k6:(b' c).E (n+8)
 k7:(dn c).E (n+10)
def Ql{c}{n}(h:c.E n)(j:n+20<=890000):sa c n:=by
 have a:=D4 h;have b:(s1 c).E (n+1):=LH a ad;have d:(ap c).E (n+1):=LJ b;have e:(s3 c).E (n+5):=Ih d ad;have f:(c6 c).E (n+7):=JX e ad;have g:(dq c).E (n+7):=(Ai f).1;have i:(b' c).E (n+8):=(uX g ad).1;exact⟨a,b,d,e,f,g,i,(wX i ad).1⟩
def xX{c}{n}(h:c.ok n)(a:n+20<=890000):(uG c).ok (n+10):=by
 unfold uG;split
 ·rename_i b;rw[TM];exact(Ql (EL h ad b) a).k7.ok
 exact⟨h.U,h.prog,h.Z4,h.r,h.Yr,h.Z5,h.ZS,h.Z,h.Z7,h.Z9,h.Z1,h.data,h.y,aL h.Y ad,h.Z_,h.asked,h.ZY,h.mem,h.M,aL h.ret ad,h.ZT⟩
def Ie{c}{R b F a S d T e}(g:R=b)(f:F=a)(h:S=d)(i:T=e):some (bj.box (aw c R F S T))=some (bj.box (aw c b a d e)):=by rw[g,f,h,i]
inductive p0 where
 |e0|o0|e1|o1|e2
 |o2 (A B:List ai) (k:Bool)
 |e3
 |o3 (A B:List ai) (k:Bool)
 |s4|s5|s6|s7
def H7(c)(k)(d:c.E k)(f:c.Z≠[])(h g i j):pM C0.P C0.G 27 [.ptr 0 0] (ao [(0,.box (aw c (.X 17 (c.Z.map ak) h) (.X 2 (c.O.map a5) g) (.X 2 (c.W.map av) i) (.X 9 (c.N.map a3) j)))]) 1 (λx h'=>x=.A []∧h'=ao [(0,.box (aw c (.S 1 0 c.Z.length false) (.X 2 (c.O.map a5) true) (.X 2 (c.W.map av) true) (.X 9 (c.N.map a3) true))),(1,.arr (c.Z.map ak) 17)]):=by
 let⟨e,l,a⟩:=List.exists_cons_of_ne_nil f;have b:=d.Z;rw[a]at b⊢;exact w8 c k d e l b h g i j
def WI(c)(k)(l:c.E k)(A B)(lo n)(j)(h:A.length=lo)(m:c.Z.length=n)(hA:A.length+n+B.length<=1000)(f:∀x∈A,x.ok)(g:∀x∈B,x.ok)(a b)(d e):pM C0.P C0.G 29 [.ptr 0 0] (ao [(0,.box (aw c (.S 1 lo n j) (.X 2 (c.O.map a5) true) (.X 2 d a) (.X 9 e b))),(1,.arr ((A++c.Z++B).map ak) 17)]) 2 (λx h'=>x=.A []∧VF 2 (kK c) (.X 2 ((kK c).O.map a5) true) (.X 2 d a) (.X 9 e b) h'):=by
 cases o:yD (bp c)with
 |none=>exact WP c k l A B lo n j h m hA f g o a b d e
 |some i=>exact WQ c k l A B lo n j h m hA f g i o a b d e
def Qm{a}{l m:List a}(h:l=[])(e:m.length=l.length):[]=m:=by
 subst h;exact(gp e).symm
def VB{b}(h:(!b)=true): ¬b=true:=by cases b<;>simp_all
def Kx(c)(a)(b:c.ok a)(f:a+20<=890000)(d:jF c=false):bI C0 17 [.agg (ey c)] (.agg (ey (uG c))):=by
 refine dx func17 rfl<|zC (Ip c a b ad)<|aV rfl (λ_=>?_) (λe=>by exact absurd (dQ (sI e)) (by rw[d];decide));refine y5 0 rfl<|a4 rfl<|cd 0 rfl ?_;rw[show uG c=c from dZ (by rw[d];decide)];exact dK rfl f_ rfl rfl
noncomputable def y8:Code->Code
 | .seq a _=>a
 |c=>c
noncomputable def WJ:Code->Code
 | .seq _ b=>b
 |c=>c
noncomputable def WK:Code:=(WJ (y8 (WJ (WJ (WJ (WJ (WJ (WJ (Tryz.f17.body.getD .skip)))))))))
abbrev uo(c:Co):p0->ay:=λb=>match b with| .e0=>⟨be [(2,.ptr 1 0),(9,vB (!(jF c))),(3,.ptr 7 0),(21,.agg [.F 28 [] [],.F 29 [] [],.F 30 [] [],.F 31 [] [],.F 32 [] [],.F 33 [] [],.F 34 [] []]),(22,vI 0)],ao [(1,.box gL),(7,.box (aw (s0 c) (.X 17 ([]) false) (.X 2 ((s0 c).O.map a5) true) (.X 2 ((s0 c).W.map av) true) (.X 9 ((s0 c).N.map a3) true)))],23⟩| .o0=>⟨be [(2,.ptr 1 0),(9,vB (!(jF c))),(3,.ptr 7 0),(21,.agg [.F 28 [] [],.F 29 [] [],.F 30 [] [],.F 31 [] [],.F 32 [] [],.F 33 [] [],.F 34 [] []]),(22,vI 0)],ao [(1,.box gL),(7,.box (aw (s0 c) (.S 22 0 c.Z.length false) (.X 2 ((s0 c).O.map a5) true) (.X 2 ((s0 c).W.map av) true) (.X 9 ((s0 c).N.map a3) true))),(22,.arr ((([]:List ai)++(s0 c).Z++[]).map ak) 17)],23⟩| .e1=>⟨be [(2,.ptr 1 0),(9,vB (!(jF c))),(3,.ptr 7 0),(21,.agg [.F 28 [] [],.F 29 [] [],.F 30 [] [],.F 31 [] [],.F 32 [] [],.F 33 [] [],.F 34 [] []]),(22,vI 1)],ao [(1,.box gL),(7,.box (aw (s1 c) (.X 17 ([]) false) (.X 2 ((s1 c).O.map a5) true) (.X 2 ((s1 c).W.map av) true) (.X 9 ((s1 c).N.map a3) true)))],23⟩| .o1=>⟨be [(2,.ptr 1 0),(9,vB (!(jF c))),(3,.ptr 7 0),(21,.agg [.F 28 [] [],.F 29 [] [],.F 30 [] [],.F 31 [] [],.F 32 [] [],.F 33 [] [],.F 34 [] []]),(22,vI 1)],ao [(1,.box gL),(7,.box (aw (s1 c) (.S 22 0 c.Z.length false) (.X 2 ((s1 c).O.map a5) true) (.X 2 ((s1 c).W.map av) true) (.X 9 ((s1 c).N.map a3) true))),(22,.arr ((([]:List ai)++(s1 c).Z++[]).map ak) 17)],23⟩| .e2=>⟨be [(2,.ptr 1 0),(9,vB (!(jF c))),(3,.ptr 7 0),(21,.agg [.F 28 [] [],.F 29 [] [],.F 30 [] [],.F 31 [] [],.F 32 [] [],.F 33 [] [],.F 34 [] []]),(22,vI 2)],ao [(1,.box gL),(7,.box (aw (ap c) (.X 17 ([]) false) (.X 2 ((ap c).O.map a5) true) (.X 2 ((ap c).W.map av) true) (.X 9 ((ap c).N.map a3) true)))],23⟩| .o2 A B a=>⟨be [(2,.ptr 1 0),(9,vB (!(jF c))),(3,.ptr 7 0),(21,.agg [.F 28 [] [],.F 29 [] [],.F 30 [] [],.F 31 [] [],.F 32 [] [],.F 33 [] [],.F 34 [] []]),(22,vI 2)],ao [(1,.box gL),(7,.box (aw (ap c) (.S 22 A.length ((ap c).Z.length) a) (.X 2 ((ap c).O.map a5) true) (.X 2 ((ap c).W.map av) true) (.X 9 ((ap c).N.map a3) true))),(22,.arr ((A++(ap c).Z++B).map ak) 17)],23⟩| .e3=>⟨be [(2,.ptr 1 0),(9,vB (!(jF c))),(3,.ptr 7 0),(21,.agg [.F 28 [] [],.F 29 [] [],.F 30 [] [],.F 31 [] [],.F 32 [] [],.F 33 [] [],.F 34 [] []]),(22,vI 3)],ao [(1,.box gL),(7,.box (aw (s3 c) (.X 17 ([]) false) (.X 2 ((s3 c).O.map a5) true) (.X 2 ((s3 c).W.map av) false) (.X 9 ((s3 c).N.map a3) false)))],23⟩| .o3 A B a=>⟨be [(2,.ptr 1 0),(9,vB (!(jF c))),(3,.ptr 7 0),(21,.agg [.F 28 [] [],.F 29 [] [],.F 30 [] [],.F 31 [] [],.F 32 [] [],.F 33 [] [],.F 34 [] []]),(22,vI 3)],ao [(1,.box gL),(7,.box (aw (s3 c) (.S 22 A.length ((s3 c).Z.length) a) (.X 2 ((s3 c).O.map a5) true) (.X 2 ((s3 c).W.map av) false) (.X 9 ((s3 c).N.map a3) false))),(22,.arr ((A++(s3 c).Z++B).map ak) 17)],23⟩| .s4=>⟨be [(2,.ptr 1 0),(9,vB (!(jF c))),(3,.ptr 7 0),(21,.agg [.F 28 [] [],.F 29 [] [],.F 30 [] [],.F 31 [] [],.F 32 [] [],.F 33 [] [],.F 34 [] []]),(22,vI 4)],ao [(1,.box gL),(7,.box (aw (c6 c) (.X 17 ((c6 c).Z.map ak) false) (.X 2 ((c6 c).O.map a5) true) (.X 2 ((c6 c).W.map av) false) (.X 9 ((c6 c).N.map a3) false)))],23⟩| .s5=>⟨be [(2,.ptr 1 0),(9,vB (!(jF c))),(3,.ptr 7 0),(21,.agg [.F 28 [] [],.F 29 [] [],.F 30 [] [],.F 31 [] [],.F 32 [] [],.F 33 [] [],.F 34 [] []]),(22,vI 5)],ao [(1,.box gL),(7,.box (aw (dq c) (.X 17 ((dq c).Z.map ak) false) (.X 2 ((dq c).O.map a5) true) (.X 2 ((dq c).W.map av) false) (.X 9 ((dq c).N.map a3) false)))],23⟩| .s6=>⟨be [(2,.ptr 1 0),(9,vB (!(jF c))),(3,.ptr 7 0),(21,.agg [.F 28 [] [],.F 29 [] [],.F 30 [] [],.F 31 [] [],.F 32 [] [],.F 33 [] [],.F 34 [] []]),(22,vI 6)],ao [(1,.box gL),(7,.box (aw (b' c) (.X 17 ((b' c).Z.map ak) false) (.X 2 ((b' c).O.map a5) false) (.X 2 ((b' c).W.map av) false) (.X 9 ((b' c).N.map a3) false)))],23⟩| .s7=>⟨be [(2,.ptr 1 0),(9,vB (!(jF c))),(3,.ptr 7 0),(21,.agg [.F 28 [] [],.F 29 [] [],.F 30 [] [],.F 31 [] [],.F 32 [] [],.F 33 [] [],.F 34 [] []]),(22,vI 7)],ao [(1,.box gL),(7,.box (aw (dn c) (.X 17 ((dn c).Z.map ak) false) (.X 2 ((dn c).O.map a5) false) (.X 2 ((dn c).W.map av) false) (.X 9 ((dn c).N.map a3) false)))],23⟩
abbrev uq(c:Co):p0->Prop:=λa=>match a with| .e0=>(s0 c).Z=[]| .e1=>(s1 c).Z=[]| .e2=>(ap c).Z=[]| .e3=>(s3 c).Z=[]| .o2 A B _=>A.length+(ap c).Z.length+B.length<=1000| .o3 A B _=>A.length+(s3 c).Z.length+B.length<=1000|_=>True
abbrev F0:p0->Nat:=λa=>match a with| .e0| .o0=>7| .e1| .o1=>6| .e2| .o2 _ _ _=>5| .e3| .o3 _ _ _=>4| .s4=>3| .s5=>2| .s6=>1| .s7=>0
def MJ(c)(b)(l:c.E b)(r:b+20<=890000)(a:sa c b){Q}(o:∀j n,cu j ⟨be [(2,.ptr 1 0),(3,.ptr 7 0)],ao [(1,.box gL),(7,.box (aw (dn c) (.X 17 ((dn c).Z.map ak) false) (.X 2 ((dn c).O.map a5) false) (.X 2 ((dn c).W.map av) false) (.X 9 ((dn c).N.map a3) false)))],23⟩ n->Q .normal j)(k)(g:uq c k){m}(σ)(p:cu m (uo c k) σ):eA C1 (bI C1) WK m Q:=by
 refine kO<|sX (uo c) (uq c) F0 k (σ) p rfl g ?_;intro q h;rcases q with _|_|_|_|_|⟨A,B,d⟩|_|⟨A,B,d⟩|_|_|_|_
 ·have e:(s0 c).Z=[]:=h;refine bk<|rV (vB true) rfl<|rE 24<|uR<|aV rfl (λ_=>?_) nofun;refine mF<|uR<|kO<|bk<|nW (.F 28 [] []) rfl rfl (⟨dT,dT⟩)<|oR 1 rfl<|rE 26<|a6<|oR 1 rfl<|fU _ rfl rfl rfl ((WO (s0 c) b a.k0 e true true true ((s0 c).O.map a5) ((s0 c).N.map a3)).fB (λ_=>7)) ?_;rintro _ _ ⟨rfl,rfl⟩;refine rE 28<|a6<|rV (vI 1) rfl<|oR 1 rfl<|rE 30<|.mk _ (.refl _) ⟨.e1,λi=>i,au _ wT ⟨⟨rfl,rfl,rfl⟩,⟨rfl,(Ie rfl (a1 (λz:List Ft=>AV.X 2 (z.map a5) true) (show(s0 c).O=(s1 c).O from((rG (s0 c)).1).symm)) (a1 (λz:List Pt=>AV.X 2 (z.map av) true) (show(s0 c).W=(s1 c).W from((rG (s0 c)).2.1).symm)) (a1 (λz:List Sp=>AV.X 9 (z.map a3) true) (show(s0 c).N=(s1 c).N from((rG (s0 c)).2.2.1).symm))),rfl⟩,trivial⟩ rfl,rfl,(Qm e (rG (s0 c)).2.2.2).symm,by show(6:Nat)<7;decide⟩
 ·refine bk<|rV (vB true) rfl<|rE 24<|uR<|aV rfl (λ_=>?_) nofun;refine mF<|uR<|kO<|bk<|nW (.F 28 [] []) rfl rfl (⟨dT,dT⟩)<|oR 1 rfl<|rE 26<|a6<|oR 1 rfl<|fU _ rfl rfl rfl ((xb (s0 c) b a.k0 [] [] 0 c.Z.length false rfl rfl (by have:=l.Z;simpa using this) true true true ((s0 c).O.map a5) ((s0 c).N.map a3)).Y3 (λz=>match z with|0=>7|_=>22)) ?_;rintro _ _ ⟨rfl,rfl⟩;refine rE 28<|a6<|rV (vI 1) rfl<|oR 1 rfl<|rE 30<|.mk _ (.refl _) ⟨.o1,λi=>i,au _ wT ⟨⟨rfl,rfl,rfl⟩,⟨rfl,(Ie rfl (a1 (λz:List Ft=>AV.X 2 (z.map a5) true) (show(s0 c).O=(s1 c).O from((rG (s0 c)).1).symm)) (a1 (λz:List Pt=>AV.X 2 (z.map av) true) (show(s0 c).W=(s1 c).W from((rG (s0 c)).2.1).symm)) (a1 (λz:List Sp=>AV.X 9 (z.map a3) true) (show(s0 c).N=(s1 c).N from((rG (s0 c)).2.2.1).symm))),rfl⟩,⟨rfl,rfl,rfl⟩,trivial⟩ rfl,rfl,trivial,by show(6:Nat)<7;decide⟩
 ·have e:(s1 c).Z=[]:=h;refine bk<|rV (vB true) rfl<|rE 24<|uR<|aV rfl (λ_=>?_) nofun;refine mF<|uR<|kO<|bk<|nW (.F 29 [] []) rfl rfl (⟨dT,dT⟩)<|oR 1 rfl<|rE 26<|a6<|oR 1 rfl<|fU _ rfl rfl rfl (Qp (WR (s1 c) (b+1) a.k1 e true true ((s1 c).W.map av) ((s1 c).N.map a3)) 7 _ _ ⟨d8,trivial⟩) ?_;rintro _ _ ⟨rfl,⟨g,rfl⟩|⟨_,A,B,d,rfl|rfl,f,rfl⟩⟩
  ·refine rE 28<|a6<|rV (vI 2) rfl<|oR 1 rfl<|rE 30<|.mk _ (.refl _) ⟨.e2,λi=>i,au _ wT ⟨c9,⟨rfl,(Ie rfl rfl (a1 (λz:List Pt=>AV.X 2 (z.map av) true) (show(s1 c).W=(ap c).W from((mC (s1 c)).1).symm)) (a1 (λz:List Sp=>AV.X 9 (z.map a3) true) (show(s1 c).N=(ap c).N from((mC (s1 c)).2).symm))),rfl⟩,trivial⟩ rfl,rfl,g,by show(5:Nat)<6;decide⟩
  all_goals (refine rE 28<|a6<|rV (vI 2) rfl<|oR 1 rfl<|rE 30<|.mk _ (.refl _) ⟨(.o2 A B d),λi=>match i with|22=>27|i=>i,au _ wT ⟨c9,⟨rfl,(Ie rfl rfl (a1 (λz:List Pt=>AV.X 2 (z.map av) true) (show(s1 c).W=(ap c).W from((mC (s1 c)).1).symm)) (a1 (λz:List Sp=>AV.X 9 (z.map a3) true) (show(s1 c).N=(ap c).N from((mC (s1 c)).2).symm))),rfl⟩,c9,trivial⟩ rfl,rfl,f,by show(5:Nat)<6;decide⟩)
 ·refine bk<|rV (vB true) rfl<|rE 24<|uR<|aV rfl (λ_=>?_) nofun;refine mF<|uR<|kO<|bk<|nW (.F 29 [] []) rfl rfl (⟨dT,dT⟩)<|oR 1 rfl<|rE 26<|a6<|oR 1 rfl<|fU _ rfl rfl rfl (Qq (WI (s1 c) (b+1) a.k1 [] [] 0 c.Z.length false rfl (rG (s0 c)).2.2.2 (by have:=l.Z;simpa using this) nofun nofun true true ((s1 c).W.map av) ((s1 c).N.map a3)) 7 22 _ _ ⟨d8,d8,trivial⟩ dT) ?_;rintro _ _ ⟨rfl,⟨g,rfl⟩|⟨_,A,B,d,rfl|rfl,f,rfl⟩⟩
  ·refine rE 28<|a6<|rV (vI 2) rfl<|oR 1 rfl<|rE 30<|.mk _ (.refl _) ⟨.e2,λi=>i,au _ wT ⟨c9,⟨rfl,(Ie rfl rfl (a1 (λz:List Pt=>AV.X 2 (z.map av) true) (show(s1 c).W=(ap c).W from((mC (s1 c)).1).symm)) (a1 (λz:List Sp=>AV.X 9 (z.map a3) true) (show(s1 c).N=(ap c).N from((mC (s1 c)).2).symm))),rfl⟩,trivial⟩ rfl,rfl,g,by show(5:Nat)<6;decide⟩
  ·refine rE 28<|a6<|rV (vI 2) rfl<|oR 1 rfl<|rE 30<|.mk _ (.refl _) ⟨(.o2 A B d),λi=>i,au _ wT ⟨c9,⟨rfl,(Ie rfl rfl (a1 (λz:List Pt=>AV.X 2 (z.map av) true) (show(s1 c).W=(ap c).W from((mC (s1 c)).1).symm)) (a1 (λz:List Sp=>AV.X 9 (z.map a3) true) (show(s1 c).N=(ap c).N from((mC (s1 c)).2).symm))),rfl⟩,c9,trivial⟩ rfl,rfl,f,by show(5:Nat)<6;decide⟩
  refine rE 28<|a6<|rV (vI 2) rfl<|oR 1 rfl<|rE 30<|.mk _ (.refl _) ⟨(.o2 A B d),λi=>match i with|22=>27|i=>i,au _ wT ⟨c9,⟨rfl,(Ie rfl rfl (a1 (λz:List Pt=>AV.X 2 (z.map av) true) (show(s1 c).W=(ap c).W from((mC (s1 c)).1).symm)) (a1 (λz:List Sp=>AV.X 9 (z.map a3) true) (show(s1 c).N=(ap c).N from((mC (s1 c)).2).symm))),rfl⟩,c9,trivial⟩ rfl,rfl,f,by show(5:Nat)<6;decide⟩
 ·have e:(ap c).Z=[]:=h;refine bk<|rV (vB true) rfl<|rE 24<|uR<|aV rfl (λ_=>?_) nofun;refine mF<|uR<|kO<|bk<|nW (.F 30 [] []) rfl rfl (⟨dT,dT⟩)<|oR 1 rfl<|rE 26<|a6<|oR 1 rfl<|fU _ rfl rfl rfl (Qp (Qu (ap c) (b+1) a.k2 e) 7 _ _ ⟨d8,trivial⟩) ?_;rintro _ _ ⟨rfl,⟨g,rfl⟩|⟨_,A,B,d,rfl|rfl,f,rfl⟩⟩
  ·refine rE 28<|a6<|rV (vI 3) rfl<|oR 1 rfl<|rE 30<|.mk _ (.refl _) ⟨.e3,λi=>i,au _ wT ⟨c9,⟨rfl,(Ie rfl rfl rfl rfl),rfl⟩,trivial⟩ rfl,rfl,g,by show(4:Nat)<5;decide⟩
  all_goals (refine rE 28<|a6<|rV (vI 3) rfl<|oR 1 rfl<|rE 30<|.mk _ (.refl _) ⟨(.o3 A B d),λi=>match i with|22=>27|i=>i,au _ wT ⟨c9,⟨rfl,(Ie rfl rfl rfl rfl),rfl⟩,c9,trivial⟩ rfl,rfl,f,by show(4:Nat)<5;decide⟩)
 ·have e:A.length+(ap c).Z.length+B.length<=1000:=h;refine bk<|rV (vB true) rfl<|rE 24<|uR<|aV rfl (λ_=>?_) nofun;refine mF<|uR<|kO<|bk<|nW (.F 30 [] []) rfl rfl (⟨dT,dT⟩)<|oR 1 rfl<|rE 26<|a6<|oR 1 rfl<|fU _ rfl rfl rfl (Qq (TW (ap c) (b+1) a.k2 ad A B A.length (ap c).Z.length d rfl rfl e) 7 22 _ _ ⟨d8,d8,trivial⟩ dT) ?_;rintro _ _ ⟨rfl,⟨g,rfl⟩|⟨_,A,B,d,rfl|rfl,f,rfl⟩⟩
  ·refine rE 28<|a6<|rV (vI 3) rfl<|oR 1 rfl<|rE 30<|.mk _ (.refl _) ⟨.e3,λi=>i,au _ wT ⟨c9,⟨rfl,(Ie rfl rfl rfl rfl),rfl⟩,trivial⟩ rfl,rfl,g,by show(4:Nat)<5;decide⟩
  ·refine rE 28<|a6<|rV (vI 3) rfl<|oR 1 rfl<|rE 30<|.mk _ (.refl _) ⟨(.o3 A B d),λi=>i,au _ wT ⟨c9,⟨rfl,(Ie rfl rfl rfl rfl),rfl⟩,c9,trivial⟩ rfl,rfl,f,by show(4:Nat)<5;decide⟩
  refine rE 28<|a6<|rV (vI 3) rfl<|oR 1 rfl<|rE 30<|.mk _ (.refl _) ⟨(.o3 A B d),λi=>match i with|22=>27|i=>i,au _ wT ⟨c9,⟨rfl,(Ie rfl rfl rfl rfl),rfl⟩,c9,trivial⟩ rfl,rfl,f,by show(4:Nat)<5;decide⟩
 ·have e:(s3 c).Z=[]:=h;refine bk<|rV (vB true) rfl<|rE 24<|uR<|aV rfl (λ_=>?_) nofun;refine mF<|uR<|kO<|bk<|nW (.F 31 [] []) rfl rfl (⟨dT,dT⟩)<|oR 1 rfl<|rE 26<|a6<|oR 1 rfl<|fU _ rfl rfl rfl ((TX (s3 c) (b+5) a.k3 e true false false ((s3 c).O.map a5) ((s3 c).N.map a3)).fB (λ_=>7)) ?_;rintro _ _ ⟨rfl,rfl⟩;refine rE 28<|a6<|rV (vI 4) rfl<|oR 1 rfl<|rE 30<|.mk _ (.refl _) ⟨.s4,λi=>i,au _ wT ⟨⟨rfl,rfl,rfl⟩,⟨rfl,(Ie (a1 (λz:List ai=>AV.X 17 (z.map ak) false) (Qm e (nO a.k3 ad).1)) (a1 (λz:List Ft=>AV.X 2 (z.map a5) true) (show(s3 c).O=(c6 c).O from((nO a.k3 ad).2.2.1).symm)) rfl (a1 (λz:List Sp=>AV.X 9 (z.map a3) false) (show(s3 c).N=(c6 c).N from((nO a.k3 ad).2.2.2).symm))),rfl⟩,trivial⟩ rfl,rfl,trivial,by show(3:Nat)<4;decide⟩
 ·refine bk<|rV (vB true) rfl<|rE 24<|uR<|aV rfl (λ_=>?_) nofun;refine mF<|uR<|kO<|bk<|nW (.F 31 [] []) rfl rfl (⟨dT,dT⟩)<|oR 1 rfl<|rE 26<|a6<|oR 1 rfl<|fU _ rfl rfl rfl ((WU (s3 c) (b+5) a.k3 ad A B A.length (s3 c).Z.length d true false false ((s3 c).O.map a5) ((s3 c).N.map a3) rfl rfl h).Y3 (λz=>match z with|0=>7|_=>22)) ?_;rintro _ _ ⟨rfl,rfl⟩;refine rE 28<|a6<|rV (vI 4) rfl<|oR 1 rfl<|rE 30<|.mk _ (.step (some (22,17,(A++(c6 c).Z++B).map ak)) (ec (l:=[(2,.ptr 1 0),(9,vB (!(jF c))),(3,.ptr 7 0),(21,.agg [.F 28 [] [],.F 29 [] [],.F 30 [] [],.F 31 [] [],.F 32 [] [],.F 33 [] [],.F 34 [] []]),(22,vI 4)]) (hp:=[(1,.box gL),(7,.box (aw (c6 c) (.X 17 ((((A++(c6 c).Z++B).drop A.length).take (s3 c).Z.length).map ak) false) (.X 2 ((s3 c).O.map a5) true) (.X 2 ((c6 c).W.map av) false) (.X 9 ((s3 c).N.map a3) false)))]) rfl hP ⟨⟨rfl,_,rfl,.refl _⟩,⟨rfl,_,rfl,eh.ZR (qQ (Iy (by simp only[aU];have:=(nO a.k3 ad).1;show A.length+(s3 c).Z.length<=A.length+(gY (s3 c)).Z.length+B.length;omega)) (.refl _) (.refl _) (.refl _))⟩,trivial⟩) (.refl _)) ⟨.s4,λi=>i,au _ wT ⟨c9,⟨rfl,(Ie (a1 (λz:List ai=>AV.X 17 (z.map ak) false) (Qs rfl (nO a.k3 ad).1)) (a1 (λz:List Ft=>AV.X 2 (z.map a5) true) (show(s3 c).O=(c6 c).O from((nO a.k3 ad).2.2.1).symm)) rfl (a1 (λz:List Sp=>AV.X 9 (z.map a3) false) (show(s3 c).N=(c6 c).N from((nO a.k3 ad).2.2.2).symm))),rfl⟩,trivial⟩ rfl,rfl,trivial,by show(3:Nat)<4;decide⟩
 ·refine bk<|rV (vB true) rfl<|rE 24<|uR<|aV rfl (λ_=>?_) nofun;refine mF<|uR<|kO<|bk<|nW (.F 32 [] []) rfl rfl (⟨dT,dT⟩)<|oR 1 rfl<|rE 26<|a6<|oR 1 rfl<|fU _ rfl rfl rfl ((WW (c6 c) (b+7) a.k4 false ((c6 c).W.map av) false ((c6 c).N.map a3)).fB (λ_=>7)) ?_;rintro _ _ ⟨rfl,rfl⟩;refine rE 28<|a6<|rV (vI 5) rfl<|oR 1 rfl<|rE 30<|.mk _ (.refl _) ⟨.s5,λi=>i,au _ wT ⟨⟨rfl,rfl,rfl⟩,⟨rfl,(Ie rfl rfl (a1 (λz:List Pt=>AV.X 2 (z.map av) false) (show(c6 c).W=(dq c).W from((Ai a.k4).2.1).symm)) (a1 (λz:List Sp=>AV.X 9 (z.map a3) false) (show(c6 c).N=(dq c).N from((Ai a.k4).2.2).symm))),rfl⟩,trivial⟩ rfl,rfl,trivial,by show(2:Nat)<3;decide⟩
 ·refine bk<|rV (vB true) rfl<|rE 24<|uR<|aV rfl (λ_=>?_) nofun;refine mF<|uR<|kO<|bk<|nW (.F 33 [] []) rfl rfl (⟨dT,dT⟩)<|oR 1 rfl<|rE 26<|a6<|oR 1 rfl<|fU _ rfl rfl rfl ((TZ (dq c) (b+7) a.k5 false ((dq c).Z.map ak) false ((dq c).W.map av) false ((dq c).N.map a3)).fB (λ_=>7)) ?_;rintro _ _ ⟨rfl,rfl⟩;refine rE 28<|a6<|rV (vI 6) rfl<|oR 1 rfl<|rE 30<|.mk _ (.refl _) ⟨.s6,λi=>i,au _ wT ⟨⟨rfl,rfl,rfl⟩,⟨rfl,(Ie (a1 (λz:List ai=>AV.X 17 (z.map ak) false) (show(dq c).Z=(b' c).Z from((uX a.k5 ad).2.2.2).symm)) rfl (a1 (λz:List Pt=>AV.X 2 (z.map av) false) (show(dq c).W=(b' c).W from((uX a.k5 ad).2.1).symm)) (a1 (λz:List Sp=>AV.X 9 (z.map a3) false) (show(dq c).N=(b' c).N from((uX a.k5 ad).2.2.1).symm))),rfl⟩,trivial⟩ rfl,rfl,trivial,by show(1:Nat)<2;decide⟩
 ·refine bk<|rV (vB true) rfl<|rE 24<|uR<|aV rfl (λ_=>?_) nofun;refine mF<|uR<|kO<|bk<|nW (.F 34 [] []) rfl rfl (⟨dT,dT⟩)<|oR 1 rfl<|rE 26<|a6<|oR 1 rfl<|fU _ rfl rfl rfl ((WY (b' c) (b+8) a.k6 ad false ((b' c).Z.map ak) false ((b' c).O.map a5) false ((b' c).N.map a3)).fB (λ_=>7)) ?_;rintro _ _ ⟨rfl,rfl⟩;refine rE 28<|a6<|rV (vI 7) rfl<|oR 1 rfl<|rE 30<|.mk _ (.refl _) ⟨.s7,λi=>i,au _ wT ⟨⟨rfl,rfl,rfl⟩,⟨rfl,(Ie (a1 (λz:List ai=>AV.X 17 (z.map ak) false) (show(b' c).Z=(dn c).Z from((wX a.k6 ad).2.2.2).symm)) (a1 (λz:List Ft=>AV.X 2 (z.map a5) false) (show(b' c).O=(dn c).O from((wX a.k6 ad).2.1).symm)) rfl (a1 (λz:List Sp=>AV.X 9 (z.map a3) false) (show(b' c).N=(dn c).N from((wX a.k6 ad).2.2.1).symm))),rfl⟩,trivial⟩ rfl,rfl,trivial,by show(0:Nat)<1;decide⟩
 exact bk<|rV (vB false) rfl<|rE 24<|uR<|aV rfl nofun (λ_=>(Bh<|o _ (λs=>s) (au (λs=>s) wT wH rfl)))
def Hf(c)(a)(b:c.ok a)(g:a+20<=890000)(e:jF c=true)(f:c.Z=[]):bI C0 17 [.agg (ey c)] (.agg (ey (uG c))):=by
 apply dJ func17;have d:=EL b ad e;refine bk<|c4 0 rfl rfl<|c4 1 rfl rfl<|rE 2<|uR<|bk<|oR 1 rfl<|ba rfl (Ip c a b ad)<|oR 1 rfl<|rE 5<|aV rfl (λj=>by exact absurd e (VB j)) (λ_=>?_);refine mF<|bk<|oR 1 rfl<|rV (.agg (ey c)) rfl<|c4 7 rfl rfl<|a4 rfl<|rE 9<|bk<|fU _ rfl rfl rfl ((show pM C0.P C0.G 27 [.ptr 0 0] (ao [(0,.box (aw c (.X 17 (c.Z.map ak) false) (.X 2 (c.O.map a5) false) (.X 2 (c.W.map av) false) (.X 9 (c.N.map a3) false)))]) 1 _ from by rw[f];exact w0 c a d false false false false).fB (λ_=>7)) ?_;rintro _ _ ⟨rfl,rfl⟩;refine rE 10<|bk<|oR 3 rfl<|rW (vI (wrap64 (c.ZW+1))) rfl (ax (ae _))<|oR 2 rfl<|a4 rfl<|rE 17<|bk<|rV (.agg [.F 28 [] [],.F 29 [] [],.F 30 [] [],.F 31 [] [],.F 32 [] [],.F 33 [] [],.F 34 [] []]) rfl<|c4 18 rfl rfl<|a4 rfl<|rE 20<|Fq (κ:=Unit) (λi=>⟨be [(2,.ptr 1 0),(3,.ptr 7 0)],ao [(1,.box gL),(7,.box (aw (dn c) (.X 17 ((dn c).Z.map ak) false) (.X 2 ((dn c).O.map a5) false) (.X 2 ((dn c).W.map av) false) (.X 9 ((dn c).N.map a3) false)))],23⟩) (λi=>True) ?_ ?_
 ·refine bk<|oR 2 rfl<|rE 22<|MJ c a d g (Ql d g) ?_ .e0 f (λs=>s) (au (λs=>s) wT wH rfl);intro k σ h;exact .mk _ (.refl _) ⟨(),σ,h,rfl,trivial⟩
 intro i _;refine bk<|oR 2 rfl<|a4 rfl<|rE 26<|FQ ?_;rw[show uG c=dn c from aa e];exact dK rfl f_ rfl rfl
def A6(c)(a)(b:c.ok a)(f:a+20<=890000)(e:jF c=true)(g:c.Z≠[]):bI C0 17 [.agg (ey c)] (.agg (ey (uG c))):=by
 apply dJ func17;have d:=EL b ad e;refine bk<|c4 0 rfl rfl<|c4 1 rfl rfl<|rE 2<|uR<|bk<|oR 1 rfl<|ba rfl (Ip c a b ad)<|oR 1 rfl<|rE 5<|aV rfl (λk=>by exact absurd e (VB k)) (λ_=>?_);refine mF<|bk<|oR 1 rfl<|rV (.agg (ey c)) rfl<|c4 7 rfl rfl<|a4 rfl<|rE 9<|bk<|fU _ rfl rfl rfl (w2 (H7 c a d g false false false false) 7 _ _ ⟨d8,trivial⟩) ?_;rintro _ _ ⟨rfl,rfl⟩;refine rE 10<|bk<|oR 3 rfl<|rW (vI (wrap64 (c.ZW+1))) rfl (ax (ae _))<|oR 2 rfl<|a4 rfl<|rE 17<|bk<|rV (.agg [.F 28 [] [],.F 29 [] [],.F 30 [] [],.F 31 [] [],.F 32 [] [],.F 33 [] [],.F 34 [] []]) rfl<|c4 18 rfl rfl<|a4 rfl<|rE 20<|Fq (κ:=Unit) (λj=>⟨be [(2,.ptr 1 0),(3,.ptr 7 0)],ao [(1,.box gL),(7,.box (aw (dn c) (.X 17 ((dn c).Z.map ak) false) (.X 2 ((dn c).O.map a5) false) (.X 2 ((dn c).W.map av) false) (.X 9 ((dn c).N.map a3) false)))],23⟩) (λj=>True) ?_ ?_
 ·refine bk<|oR 2 rfl<|rE 22<|MJ c a d f (Ql d f) ?_ .o0 trivial (λi=>match i with|22=>9|i=>i) (au (λi=>match i with|22=>9|i=>i) wT ⟨c9,c9,⟨rfl,(by show some (bj.arr (c.Z.map ak) 17)=some (bj.arr (([]++c.Z++[]).map ak) 17);rw[iA,dY]),rfl⟩,trivial⟩ rfl);intro l σ h;exact .mk _ (.refl _) ⟨(),σ,h,rfl,trivial⟩
 intro j _;refine bk<|oR 2 rfl<|a4 rfl<|rE 26<|FQ ?_;rw[show uG c=dn c from aa e];exact dK rfl f_ rfl rfl
def GX(c)(b)(a:c.ok b)(d:b+20<=890000):bI C0 17 [.agg (ey c)] (.agg (ey (uG c))):=by
 cases e:jF c with
 |false=>exact Kx c b a d e
 |true=>
  by_cases f:c.Z=[]
  ·exact Hf c b a d e f
  ·exact A6 c b a d e f
def Cd(n:Int):Nat:=(min n 2000).toNat
def Qk(a b:Int):(if b<a then b else a)=min a b:=by split<;>omega
def MI(a b):(CZ a b).ok:=by
 unfold CZ;refine⟨?_,λs c=>?_⟩
 ·have h:(if bV a 1 4=3 then 2 else bV a 1 4).toNat<=4:=by unfold bV;(repeat' split)<;>omega
  show(List.replicate _ _).length<=_;rw[cM];omega
 rw[gK c];exact⟨aE _,λx d=>by cases d⟩
def TL:qz.ok:=by
 refine⟨dT,dT,dT,?_,?_⟩
 ·intro x a;have:x=⟨0,0⟩:=gK a;subst this;exact⟨aE _,aE _⟩
 intro x a;cases a
def Id(c)(prog)(m)(a:c.ok)(hp:∀x∈prog,x<=4294967295):(fX c prog m).ok 0:=by
 have d:(jB m).size<=256:=by
  rw[wE];unfold gr;repeat' split
  all_goals omega
 have b:(prog.take (min prog.length 64)).length<=9223372036854775807:=by rw[aM];omega
 refine⟨⟨aL (QT c) dT,aL (OL c) dT,Iq a.tp⟩,b,zD hp,λ_=>aE _,aE _,aE _,nofun,aE _,nofun,aE _,nofun,MI _ _,MI _ _,aE _,nofun,(by show(0:Int)<=9223372036854775807;decide),(by show(0:Int)<=9223372036854775807;decide),?_,TL,aE _,nofun⟩;show(jB m).size<=1000000;omega
theorem wW{c:Co}{n:Nat}(h:c.ok n):∀k,n+10*k+20<=890000->(uN c k).ok (n+10*k)
 |0,_=>h
 |k+1,a=>by
  have ih:=xX (wW h k ad) ad;rw[(oT:n+10*(k+1)=n+10*k+10)];exact ih
def vz(c)(prog)(m)(n)(d:c.ok)(hp:∀x∈prog,x<=4294967295)(j:prog.length<=1000):bI C0 9 [.agg (fv c false false),.X 1 (prog.map dU) false,.v (.string m),vI n] (.agg (ey (uN (fX c prog m) (Cd n)))):=by
 apply dx func9 rfl;refine ba rfl (EF c prog m d ad)<|de 0 rfl<|a4 rfl<|qR 0 rfl<|zW _ (ax (Qk n 2000))<|jR (λk=>⟨be [(8,.ptr 1 0),(9,.ptr 6 0),(15,vI _),(16,vN k)],ao [(0,.box [vI c.mode,vI c.u,vI c.Z,vI c.queue,vI c.W,vI c.C,vI c.Q,vI c.ways,.X 1 _ false,vB c.tables,.X 1 _ false]),(1,.box gL),(6,.box (ey (uN (fX c prog m) k)))],11⟩) (λk=>k<=Cd n) (λk=>Cd n-k) 0 (λs=>s) (au (λs=>s) wT wH rfl) (aE _) ?_;intro k g;have h:k<=Cd n:=g;have f:k<=2000:=by have:Cd n<=2000:=(by unfold Cd;omega);omega
 have i:Cd n=(min n 2000).toNat:=rfl;refine qS 0 rfl<|cq _ (λa=>?_) (λa=>?_)
 ·have b:=a7 a;refine ba rfl (GX (uN (fX c prog m) k) (0+10*k) (wW (Id c prog m d hp) k ad) ad)<|a4 rfl ?_;refine qR 0 rfl<|zW _ (ax (bH (aD f (aC 1)) rfl)) ?_;refine⟨k+1,λs=>s,au _ wT wH rfl,oT,c7⟩
 have b:=aF a;refine lR 0 rfl<|a4 rfl<|cd 0 rfl ?_;have e:k=Cd n:=oT;rw[show uN _ _=uN _ k from by rw[e]];exact dK rfl f_ rfl rfl
open Go.RowKit Go.ChangeShapes Go.WideShapes Go.ChangeAt Go.Deep
def TK{n}(h:(Lit.int .u32 n).wf=true):∃m:Nat,n=m∧m<=4294967295:=by
 simp only[Lit.wf,IntKind.min,IntKind.max,IntKind.signed,IntKind.bits,aP,aY]at h;simp at h;exact⟨n.toNat,oT,oT⟩
def Cc{b}(h:fQ Tryz.prog 3 b):∃n:Int,b=[vI n]∧True:=by
 have a:=underlying3
 cases h with
 |int h n c=>rw[a]at h;injection h with h;injection h with h;subst h;exact⟨n,rfl,trivial⟩
 |bool h=>rw[a]at h;cases h
 |string h=>rw[a]at h;cases h
 |slice h=>rw[a]at h;cases h
 |struct h=>rw[a]at h;cases h
 |array h=>rw[a]at h;cases h
def zn{b}(h:fQ Tryz.prog 28 b):∃n:Nat,b=[vU n]∧n<=4294967295:=by
 have a:=underlying28
 cases h with
 |int h n d=>
  rw[a]at h;injection h with h;injection h with h;subst h;obtain⟨m,rfl,c⟩:=TK d
  exact⟨m,rfl,c⟩
 |bool h=>rw[a]at h;cases h
 |string h=>rw[a]at h;cases h
 |slice h=>rw[a]at h;cases h
 |struct h=>rw[a]at h;cases h
 |array h=>rw[a]at h;cases h
def WC{c}(h:fQ Tryz.prog 4 c):∃b:Bool,c=[.v (.bool b)]∧True:=by
 have a:=underlying4
 cases h with
 |bool h b=>exact⟨b,rfl,trivial⟩
 |int h=>rw[a]at h;cases h
 |string h=>rw[a]at h;cases h
 |slice h=>rw[a]at h;cases h
 |struct h=>rw[a]at h;cases h
 |array h=>rw[a]at h;cases h
theorem Qf{a:Type}{f:a->List AV}{p:a->Prop}:∀(rows:List (List AV)),(∀row∈rows,∃x,row=f x∧p x)->∃l:List a,rows=l.map f∧l.length=rows.length∧∀x∈l,p x
 |[],_=>⟨[],rfl,rfl,λx h=>by cases h⟩
 |row::rows,h=>by
  obtain⟨x,rfl,c⟩:=h row (b1);obtain⟨l,rfl,d,hp⟩:=Qf rows λr b=>h r (bY _ b);exact⟨x::l,rfl,by simp,λy hy=>by rcases dh.1 hy with rfl|hy;exact c;exact hp y hy⟩
def MH{d:Type}{t e:TypeId}{k:Nat}{f:d->List AV}{p:d->Prop}(a:Tryz.prog.underlying t=some (.slice e))(m:Tryz.prog.cellsOf e=k)(c:∀row,fQ Tryz.prog e row->∃x,row=f x∧p x){g:List AV}(h:fQ Tryz.prog t g):
  ∃l:List d,g=[.X k (l.map f) false]∧l.length<=9223372036854775807∧∀x∈l,p x:=by
 cases h with
 |slice h rows n o q=>
  rw[a]at h;injection h with h;injection h with h;subst h m;obtain⟨l,rfl,i,j⟩:=Qf rows λrow b=>c row (o row b)
  exact⟨l,rfl,aL (Nat.le_of_eq i) (aL n dT),j⟩
 |int h=>rw[a]at h;cases h
 |bool h=>rw[a]at h;cases h
 |string h=>rw[a]at h;cases h
 |struct h=>rw[a]at h;cases h
 |array h=>rw[a]at h;cases h
def WD(row:List AV)(h:fQ Tryz.prog 28 row):∃n:Nat,row=dU n∧n<=4294967295:=zn h
def WE(row:List AV)(h:fQ Tryz.prog 3 row):∃n:Int,row=a_ n∧True:=Cc h
def Qg{a:List AV}(h:fQ Tryz.prog 23 a):∃l:List Nat,a=[.X 1 (l.map dU) false]∧l.length<=9223372036854775807∧∀x∈l,(λn:Nat=>n<=4294967295) x:=
 MH underlying23 (by kernel_rfl) (λrow b=>WD _ b) h
def WF{a:List AV}(h:fQ Tryz.prog 22 a):∃l:List Int,a=[.X 1 (l.map a_) false]∧l.length<=9223372036854775807∧∀x∈l,(λ(_:Int)=>True) x:=
 MH underlying22 (by kernel_rfl) (λrow b=>WE _ b) h
def WG{c}(h:fQ Tryz.prog 25 c):∃x:Cf,c=fv x false false∧x.okW:=by
 have a:=underlying25
 cases h with
 |bool h=>rw[a]at h;cases h
 |int h=>rw[a]at h;cases h
 |string h=>rw[a]at h;cases h
 |slice h=>rw[a]at h;cases h
 |array h=>rw[a]at h;cases h
 |struct h parts hp=>
  rw[a]at h;injection h with h;injection h with h;subst h;let⟨r,f,C⟩:=Cc (hp 0 _ rfl);let⟨s,g,D⟩:=Cc (hp 1 _ rfl);let⟨t,i,E⟩:=Cc (hp 2 _ rfl);let⟨u,j,F⟩:=Cc (hp 3 _ rfl);let⟨v,k,G⟩:=Cc (hp 4 _ rfl);let⟨w,l,H⟩:=Cc (hp 5 _ rfl);let⟨y,m,I⟩:=Cc (hp 6 _ rfl);let⟨z,n,J⟩:=Cc (hp 7 _ rfl);let⟨A,o,q⟩:=WF (hp 8 _ rfl);let⟨B,p,K⟩:=WC (hp 9 _ rfl);let⟨e,d,b⟩:=Qg (hp 10 _ rfl);refine⟨⟨r,s,t,u,v,w,y,z,A,B,e⟩,?_,⟨q.1,b.1,b.2⟩⟩;show parts 0++(parts 1++(parts 2++(parts 3++(parts 4++(parts 5++(parts 6++(parts 7++(parts 8++(parts 9++(parts 10++[]))))))))))=_;rw[f,g,i,j,k,l,m,n,o,p,d];rfl
structure Co.Ys(c:Co):Prop where
 U:c.U.okW
 prog:c.prog.length<=9223372036854775807
 Z4:∀x∈c.prog,x<=4294967295
 r:∀k,c.r k<=4294967295
 Yr:c.Yr<=4294967295
 Z5:c.O.length<=9223372036854775807
 ZS:∀x∈c.O,x.ok
 Z:c.Z.length<=9223372036854775807
 Z7:∀x∈c.Z,x.ok
 Z9:c.W.length<=9223372036854775807
 Z1:∀x∈c.W,x.ok
 data:c.data.ok
 y:c.y.ok
 Y:c.Y.length<=9223372036854775807
 Z_:∀x∈c.Y,x.ok
 asked:c.asked<=9223372036854775807
 ZY:c.ZY<=9223372036854775807
 mem:c.mem.size<=9223372036854775807
 M:c.M.ok
 ret:c.N.length<=9223372036854775807
 ZT:∀x∈c.N,x.ok
def Qh{H}{enc}{w}{f}{e}{g}{r}{l}{v}{d:DataW H}{p}
  (s:Value.okWide Tryz.prog w r l 25 v) (h:DataW.Trod enc Tryz.prog w f e g 25 v d p):
  ∃c:Cf,aq (· <w.heap.size) w ce (.agg (fv c false false)) v∧c.okW:=by
 obtain⟨j,rfl,t⟩:=okWide_struct underlying25 s;let⟨fuel,o⟩:=h;let⟨k,b⟩:=vT 6 fuel _ _ _ o (by kernel_rfl);obtain⟨c,rfl,n⟩:=WG b.ty;refine⟨c,.agg _ j ?_ (λi u q=>b.one u ?_) (λi a u m x=>b.ZU.2 i a u m ?_),n⟩
 ·exact b.ZU.1
 ·exact Jt.2 (nI q)
 show j.toList[i]?=some u;rwa[bQ]
def Qi{H}{enc}{w}{b}{a}{c}{r}{f}{v}{d:DataW H}{p}
  (k:Value.okWide Tryz.prog w r f 23 v) (h:DataW.Trod enc Tryz.prog w b a c 23 v d p):
  ∃l:List Nat,(∀x∈l,x<=4294967295)∧l.length<=9223372036854775807∧aq (· <w.heap.size) w ce (.X 1 (l.map dU) false) v:=by
 obtain⟨a0,len,m,rfl⟩:=okWide_slice underlying23 k;let⟨fuel,j⟩:=h;let⟨n,e⟩:=vT 3 fuel _ _ _ j (by kernel_rfl);obtain⟨l,rfl,g,i⟩:=Qg e.ty;exact⟨l,i,g,e.ZU.2 0 _ _ rfl rfl⟩
def Qj{w}(h:EE w):0<w.heap.size:=by
 have:=h 0 dT;unfold World.cell? at this
 cases a:w.heap[0]? with
 |none=>simp[a]at this
 |some o=>exact(DP.1 a).1
theorem bI.law{f}{args}{a}{w}(h:bI C0 f args (.v (.bool true)))(b:EE w)(j:bs (· <w.heap.size) w ce args a):
  Calls Tryz.prog f a.toArray w λe c=>e=.returned (.bool true)∧Below w.heap.size w c:=
 (h.2 (· <w.heap.size) w a (λ_ h=>h) (yu b (Qj b)) j).mono λe c ⟨v,d,g,i⟩=>⟨by rw[d,lV i],g⟩
open Go.RowKit Go.ChangeShapes Go.WideShapes
def Vc{P}{w}{r}{a}{t}{v}(b:P.underlying t=some .string)(h:Value.okWide P w r a t v):∃s,v=.string s∧s.size<9223372036854775808:=by
 obtain⟨s,rfl⟩:=okWide_string b h;refine⟨s,rfl,?_⟩;have c:IntKind.i64.max=9223372036854775807:=rfl;have d:(s.size:Int)<=IntKind.i64.max:=by simpa [Value.okWide,Cell.okWide,Cell.ok,b]using h
 omega
def lp:Cf:=⟨0,0,0,0,0,0,0,0,[],false,[]⟩
def wv:(uN (fX lp [1048691] oZ) (Cd 20)).halt=7∧(uN (fX lp [1048691] oZ) (Cd 20)).N.length=1:=by
 decide+kernel
def qy(a:ByteArray):(a==a)=true:=by
 show(a.data==a.data)=true;exact nR _
theorem bI.YR{C}{f}{j b}{r}(h:bI C f j r)(k:kz b j):bI C f b r:=by
 let⟨g,o⟩:=k.get;refine⟨h.1,λS w p m l e=>h.2 S w p m l ⟨g ▸ e.1,λi a v c n=>?_⟩⟩;have d:i<b.length:=by rw[g];exact(Em.1 c).1
 exact o i _ a (aA d) c _ _ _ (e.2 i _ v (aA d) n)
structure Kp(c d:Co):Prop where
 ZW:d.ZW=c.ZW
 ret:c.N <+: d.N
 mem:d.mem.size=c.mem.size
theorem Kp.refl(c):Kp c c:=⟨rfl,List.prefix_refl _,rfl⟩
theorem Kp.trans{a b c}(h:Kp a b)(k:Kp b c):Kp a c:=⟨k.ZW.trans h.ZW,List.IsPrefix.trans h.ret k.ret,k.mem.trans h.mem⟩
def B6(c):Kp c (lM c):=by
 rw[kC];split
 ·unfold ID
  repeat' split
  ·exact⟨rfl,List.prefix_refl _,rfl⟩
  ·exact⟨rfl,List.prefix_refl _,rfl⟩
  ·rw[<-uY];exact⟨rfl,List.prefix_refl _,rfl⟩
  ·exact⟨rfl,List.prefix_refl _,iY ..⟩
  exact⟨rfl,List.prefix_refl _,rfl⟩
 exact⟨rfl,List.prefix_refl _,rfl⟩
def zo(c):Kp c (kK c):=by
 unfold kK;split
 ·exact .refl c
 split<;>exact⟨rfl,List.prefix_refl _,rfl⟩
def D7(d:Co)(e:ai):Kp d (Bm d e):=⟨rfl,List.prefix_append _ _,rfl⟩
def E_(d:Co)(e:ai):Kp d (MP d e):=⟨rfl,List.prefix_append _ _,rfl⟩
theorem o':∀(n:Nat) (c:Co),Kp c (eC n c)
 |0,c=>.refl c
 | n +1,c=>by
  by_cases a:c.halt≠0∨c.Z.length=0
  ·rw[mG a];exact .refl c
  ·have d:c.Z[0]?=some (c.Z[0]'ad):=aA ad;rw[iX ad (λq=>a (.inl q)) d];split
   ·exact .refl c
   ·split
    ·exact⟨rfl,List.prefix_append _ _,rfl⟩
    ·split
     ·exact .refl c
     ·rw[kB];by_cases b:am (c.Z[0]'ad).i.op=3
      ·rw[Ke b];exact(E_ c _).trans (o' n _)
      ·rw[An b];exact(D7 c _).trans (o' n _)
def zl(c)(i):Kp c (oE c i):=by
 unfold oE
 cases c.Z[i]? with
 |none=>exact .refl c
 |some e=>
  dsimp only
  repeat' split
  all_goals exact⟨rfl,List.prefix_refl _,rfl⟩
def Hh(c)(i):Kp c (iS c i):=by
 unfold iS
 cases c.Z[i]? with
 |none=>exact .refl c
 | some e=>
  dsimp only;split
  ·exact⟨rfl,List.prefix_refl _,rfl⟩
  ·split
   ·exact Kp.trans (b:=bt c i _) ⟨rfl,List.prefix_refl _,rfl⟩ (zl _ i)
   ·exact⟨rfl,List.prefix_refl _,rfl⟩
theorem wL:∀(p:List Nat) (c:Co),Kp c (p.foldl iS c)
 |[],c=>.refl c
 |i::p,c=>(Hh c i).trans (wL p _)
def G'(c):Kp c (gY c):=by
 unfold gY;split
 ·exact .refl c
 exact wL _ c
theorem uP:∀(n:Nat) (c:Co),Kp c (kV n c)
 |0,c=>.refl c
 | n+1,c=>by
  by_cases a:(c.Z.length:Int)>=c.U.Z∨c.O.length=0
  ·rw[Ap a];exact .refl c
  ·have d:c.O[0]?=some (c.O[0]'ad):=aA ad;have e:=CU (n:=n+1) (k:=0) ad (λq=>a (.inl q)) d;rw[(oT:n+1-(0+1)=n),(oT:n+1-0=n+1)]at e;rw[<-e];have b:Kp c (Kh c (c.O[0]'ad)):=⟨rfl,List.prefix_refl _,rfl⟩;exact b.trans (uP n _)
def IF(c):Kp c (lP c):=by
 unfold lP;split
 ·exact .refl c
 exact uP _ c
def yf(c):Kp c (zP c):=by
 have h:Kp (lJ c) (dM (lJ c) (bg c.prog c.Yr)).1:=by
  unfold dM;split
  ·exact .refl _
  split<;>exact⟨rfl,List.prefix_refl _,rfl⟩
 exact⟨h.ZW,h.ret,h.mem⟩
theorem uv:∀(n:Nat) (c:Co),Kp c (eL n c)
 |0,c=>.refl c
 | n +1,c=>by
  by_cases a:c.stop=true∨(c.O.length:Int)>=c.U.queue
  ·rw[yZ a];exact .refl c
  ·by_cases b:(ez c.prog c.Yr).isSome=false
   ·rw[Aq ad a b];exact⟨rfl,List.prefix_refl _,rfl⟩
   ·by_cases d:(bK c.y (ab c.Yr)).2.isSome=false
    ·rw[uD ad a b d];split
     ·exact⟨rfl,List.prefix_refl _,rfl⟩
     ·exact .refl c
    ·have e:=BC (n:=n+1) (k:=0) ad a b d;rw[(oT:n+1-(0+1)=n),(oT:n+1-0=n+1)]at e;rw[<-e];exact(yf c).trans (uv n _)
def F5(c):Kp c (eN c):=by
 unfold eN;split
 ·exact .refl c
 exact uv _ c
def G5(c):Kp c (tW c):=by
 unfold tW;split
 ·exact .refl c
 split
 ·exact⟨rfl,List.prefix_refl _,rfl⟩
 exact .refl c
def sw(c):Kp c (nP c):=by
 unfold nP;split
 ·exact .refl c
 unfold pE;split
 ·split
  ·exact⟨rfl,List.prefix_refl _,rfl⟩
  exact .refl c
 exact .refl c
def yn(c):Kp c (tY c):=by
 have a:Kp c (aW c):=⟨rfl,List.prefix_refl _,rfl⟩;rw[mO];split
 ·exact(a.trans (G5 _)).trans (sw _)
 exact a.trans (sw _)
def I6(c:Co):Kp (s0 c) (c8 c):=
 ((((((B6 (s0 c)).trans (zo _)).trans (o' _ _)).trans (G' _)).trans (IF _)).trans (F5 _)).trans (yn _)
def xF{c}(h:jF c=true):(uG c).ZW=wrap64 (c.ZW+1)∧c.N <+: (uG c).N∧(uG c).mem.size=c.mem.size:=by
 have k:=I6 c;unfold uG;rw[aa h];exact⟨k.ZW,k.ret,k.mem⟩
def Bj(prog:List Nat):List Nat:=prog.take (min prog.length 64)
def Bk(m:ByteArray):ByteArray:=m.extract 0 (min m.size 300)
def mx(a:Int)(b:Nat):Nat:=(min (max a 0) b).toNat
def Ym(a)(b):mx a b<=b:=by unfold mx;omega
def Yn(a)(b:Nat):(if(b:Int)<max a 0 then(b:Int)else max a 0)=((mx a b:Nat):Int):=by unfold mx;split<;>omega
def We(a b:Int):(if b>a then b else a)=max a b:=by split<;>omega
def w9:bI C0 9 [.agg [vI 0,vI 0,vI 0,vI 0,vI 0,vI 0,vI 0,vI 0,.X 0 [] true,vB false,.X 0 [] true],.X 1 [[vU 1048691]] true,.v (.string oZ),vI 20] (.agg (ey (uN (fX lp [1048691] oZ) (Cd 20)))):=
 (vz lp [1048691] oZ 20 ⟨aE _,aE _,λx a=>by cases a⟩ (λx a=>by rw[uJ.1 a];decide) dT).YR ⟨Sub.agg ⟨Sub.refl _,Sub.refl _,Sub.refl _,Sub.refl _,Sub.refl _,Sub.refl _,Sub.refl _,Sub.refl _,oM 1 false,Sub.refl _,oM 1 false,trivial⟩,Sub.clip _ _ _,Sub.refl _,Sub.refl _,trivial⟩
def v2:bI C0 6 [] (vB true):=by
 apply dx func6 rfl;have a:(200:Nat)<=890000:=dT;exact rV _ rfl<|rV _ rfl<|ba rfl (w9)<|de 0 rfl<|a4 rfl<|qR 0 rfl<|zV (vB (((uN (fX lp [1048691] oZ) (Cd 20)).halt)==7))<|gS rfl id<|a' rfl id (cD a3 ((uN (fX lp [1048691] oZ) (Cd 20)).N))<|a' rfl id (ar (b8 _ _))<|zN rfl (λh=>h)<|fT rfl (dR (by simp[gy,wv.1,wv.2]))
def HR(prog)(m)(a:prog.length<=9223372036854775807)(b:m.size<=9223372036854775807):bI C0 4 [.X 1 (prog.map dU) false,.v (.string m)] (.A [.X 1 ((Bj prog).map dU) false,.v (.string (Bk m))]):=by
 refine dx func4 rfl<|zR<|zW _ (cD dU prog)<|zW _ (Bo prog.length 64)<|zM _ (yB (vY dU prog (min prog.length 64))) gj<|zV (vN m.size)<|zW _ (Bo m.size 300)<|zM (.v (.string (m.extract 0 (min m.size 300)))) rfl (by refine⟨?_,?_,?_⟩<;>(first|exact aG _|decide|(apply FG.2;exact ad))) ?_;exact fT rfl rfl
def I5(a:Cf)(prog:List Nat)(m:ByteArray)(k:Nat)(c:a.ok)(hp:∀x∈prog,x<=4294967295)(d:prog.length<=1000)(e:k<=2000)(X:Co)(b:X=fX a prog m):bI C0 9 [.agg (fv a false false),.X 1 (prog.map dU) false,.v (.string m),vN k] (.agg (ey (uN X k))):=by
 subst b;have h:=vz a prog m (k:Int) c hp d;rwa[show Cd (k:Int)=k by unfold Cd;omega]at h
def hL(c:Cf)(k:Nat):List Int:=(c.J.take (min k 64)).map λn=>bV n 1 8
def zT(c:Cf)(k:Nat):List Nat:=c.tape.take (min k 64)
def yl{c:Cf}{k:Nat}(h:k<=c.J.length):(hL c k).length=min k 64:=by unfold hL;rw[aH,aM];omega
def D5{c:Cf}{k:Nat}(h:k<=c.tape.length):(zT c k).length=min k 64:=by unfold zT;rw[aM];omega
def uu{c:Cf}{k:Nat}{x:Int}(h:c.J[k]?=some x)(a:k<64):hL c k++[bV x 1 8]=hL c (k+1):=by
 unfold hL;rw[(oT:min k 64=k),(oT:min (k+1) 64=k+1),bW,h];simp
def A1{c:Cf}{k:Nat}(a: ¬k<64):hL c k=hL c (k+1):=by unfold hL;rw[(oT:min k 64=min (k+1) 64)]
def u'{c:Cf}{k:Nat}{x:Nat}(h:c.tape[k]?=some x)(a:k<64):zT c k++[x]=zT c (k+1):=by
 unfold zT;rw[(oT:min k 64=k),(oT:min (k+1) 64=k+1),bW,h];simp
def yy{c:Cf}{k:Nat}(a: ¬k<64):zT c k=zT c (k+1):=by unfold zT;rw[(oT:min k 64=min (k+1) 64)]
def wi{c:Cf}{k:Nat}(h:c.J.length<=k):hL c k=(bZ c).J:=by
 unfold hL bZ;show _=(c.J.take 64).map _;congr 1;by_cases a:c.J.length<=64
 ·rw[aN oT,aN a]
 rw[(oT:min k 64=64)]
def sy{c:Cf}{k:Nat}(h:c.tape.length<=k):zT c k=(bZ c).tape:=by
 unfold zT bZ;show _=c.tape.take 64;by_cases a:c.tape.length<=64
 ·rw[aN oT,aN a]
 rw[(oT:min k 64=64)]
def jm(n lo a:Int)(h:lo<=a):bI C0 22 [vI n,vI lo,vI a] (vI (bV n lo a)):=by
 apply bx func22 rfl;apply bw (x:=vB (decide (n<lo))) rfl rfl rfl;refine dm 0 rfl<|zB rfl (λb=>?_) (λb=>?_)
 ·have d:=a7 b;exact dK rfl trivial rfl (a1 vI (by unfold bV;(repeat' split)<;>omega))
 have d:=aF b;apply bw (x:=vB (decide (n>a))) rfl rfl rfl;refine dm 0 rfl<|zB rfl (λc=>?_) (λc=>?_)
 ·have e:=a7 c;exact dK rfl trivial rfl (a1 vI (by unfold bV;(repeat' split)<;>omega))
 have e:=aF c;exact dK rfl trivial rfl (a1 vI (by unfold bV;(repeat' split)<;>omega))
def o4(c:Cf)(a:c.ok):bI C0 14 [.agg (fv c false false)] (.agg (fv (bZ c) false false)):=by
 apply dx func14 rfl;refine Wz rfl<|oR 2 rfl<|fd rfl (.inl rfl) (jm c.mode 0 2 dT)<|oR 2 rfl<|fd rfl (.inl rfl) (jm c.u 1 2 dT)<|oR 2 rfl<|fd rfl (.inl rfl) (jm c.Z 2 8 dT)<|oR 2 rfl<|fd rfl (.inl rfl) (jm c.queue 1 4 dT)<|oR 2 rfl ?_;refine fd rfl (.inl rfl) (jm c.W 1 4 dT)<|oR 2 rfl<|fd rfl (.inl rfl) (jm c.C 2 6 dT)<|oR 2 rfl<|fd rfl (.inl rfl) (jm c.Q 1 4 dT)<|oR 2 rfl<|fd rfl (.inl rfl) (jm c.ways 1 2 dT)<|oR 2 rfl<|bw (x:=.agg [vI (bV c.mode 0 2),vI (bV c.u 1 2),vI (bV c.Z 2 8),vI (bV c.queue 1 4),vI (bV c.W 1 4),vI (bV c.C 2 6),vI (bV c.Q 1 4),vI (bV c.ways 1 2),.X 0 ([]) true,vB c.tables,.X 0 ([]) true]) rfl rfl rfl<|c4 29 rfl rfl<|a4 rfl<|rE 31 ?_;refine sS 0 0 rfl<|Fq (κ:=Unit) (λf=>⟨be [(1,.ptr 0 0),(2,.ptr 1 0),(3,.ptr 29 0)],ao [(0,.box [vI c.mode,vI c.u,vI c.Z,vI c.queue,vI c.W,vI c.C,vI c.Q,vI c.ways,.X 1 (c.J.map a_) false,vB c.tables,.X 1 (c.tape.map dU) false]),(1,.box [vI 0,vI 0,vI 0,vI 0,vI 0,vI 0,vI 0,vI 0,.X 0 ([]) true,vB false,.X 0 ([]) true]),(29,.box [vI (bV c.mode 0 2),vI (bV c.u 1 2),vI (bV c.Z 2 8),vI (bV c.queue 1 4),vI (bV c.W 1 4),vI (bV c.C 2 6),vI ((bZ c).Q),vI (bV c.ways 1 2),.X 0 ([]) true,vB c.tables,.X 0 ([]) true])],31⟩) (λf=>True) ?_ ?_
 ·refine qS 0 rfl<|bw (x:=vB ((bV c.Q 1 4)==3)) rfl rfl rfl ?_;refine dm 0 rfl<|zB rfl (λj=>?_) (λj=>?_)
  ·have p:=mT j;refine .mk _ (.refl _) ⟨(),λs=>s,au (λs=>s) wT ⟨c9,c9,⟨rfl,(by rw[show(bZ c).Q=2 from aa (sU j)];rfl),rfl⟩,trivial⟩ rfl,rfl,trivial⟩
  have p:=nA j;refine .mk _ (.refl _) ⟨(),λs=>s,au (λs=>s) wT ⟨c9,c9,⟨rfl,(by rw[show(bZ c).Q=bV c.Q 1 4 from dZ (sU j)];rfl),rfl⟩,trivial⟩ rfl,rfl,trivial⟩
 intro f _;apply Fq (κ:=Unit) (λf=>⟨be [(1,.ptr 0 0),(2,.ptr 1 0),(3,.ptr 29 0)],ao [(0,.box [vI c.mode,vI c.u,vI c.Z,vI c.queue,vI c.W,vI c.C,vI c.Q,vI c.ways,.X 1 (c.J.map a_) false,vB c.tables,.X 1 (c.tape.map dU) false]),(1,.box [vI 0,vI 0,vI 0,vI 0,vI 0,vI 0,vI 0,vI 0,.X 0 ([]) true,vB false,.X 0 ([]) true]),(29,.box [vI (bV c.mode 0 2),vI (bV c.u 1 2),vI (bV c.Z 2 8),vI (bV c.queue 1 4),vI (bV c.W 1 4),vI (bV c.C 2 6),vI ((bZ c).Q),vI (bV c.ways 1 2),.X 1 (((bZ c).J).map a_) false,vB c.tables,.X 0 ([]) true])],31⟩) (λf=>True)
 ·refine qS 0 rfl<|bw (x:=vN c.J.length) rfl rfl (cD a_ c.J)<|dm 0 rfl<|jR (κ:=Nat) (λk=>match k with|0=>⟨be [(1,.ptr 0 0),(2,.ptr 1 0),(3,.ptr 29 0),(40,.X 1 (c.J.map a_) false),(41,vN c.J.length),(42,vN 0)],ao [(0,.box [vI c.mode,vI c.u,vI c.Z,vI c.queue,vI c.W,vI c.C,vI c.Q,vI c.ways,.X 1 (c.J.map a_) false,vB c.tables,.X 1 (c.tape.map dU) false]),(1,.box [vI 0,vI 0,vI 0,vI 0,vI 0,vI 0,vI 0,vI 0,.X 0 ([]) true,vB false,.X 0 ([]) true]),(29,.box [vI (bV c.mode 0 2),vI (bV c.u 1 2),vI (bV c.Z 2 8),vI (bV c.queue 1 4),vI (bV c.W 1 4),vI (bV c.C 2 6),vI ((bZ c).Q),vI (bV c.ways 1 2),.X 0 ([]) true,vB c.tables,.X 0 ([]) true])],101⟩|k+1=>⟨be [(1,.ptr 0 0),(2,.ptr 1 0),(3,.ptr 29 0),(40,.X 1 (c.J.map a_) false),(41,vN c.J.length),(42,vN (k+1))],ao [(0,.box [vI c.mode,vI c.u,vI c.Z,vI c.queue,vI c.W,vI c.C,vI c.Q,vI c.ways,.X 1 (c.J.map a_) false,vB c.tables,.X 1 (c.tape.map dU) false]),(1,.box [vI 0,vI 0,vI 0,vI 0,vI 0,vI 0,vI 0,vI 0,.X 0 ([]) true,vB false,.X 0 ([]) true]),(29,.box [vI (bV c.mode 0 2),vI (bV c.u 1 2),vI (bV c.Z 2 8),vI (bV c.queue 1 4),vI (bV c.W 1 4),vI (bV c.C 2 6),vI ((bZ c).Q),vI (bV c.ways 1 2),.S 100 0 (min (k+1) 64) false,vB c.tables,.X 0 ([]) true]),(100,.arr ((hL c (k+1)).map a_) 1)],101⟩) (λk=>k<=c.J.length) (λk=>c.J.length-k) 0 (λs=>s) (au (λs=>s) wT wH rfl) (aE _) ?_;intro k o;rcases k with _|k
  ·refine qS 0 rfl<|bw (x:=vB (decide (0<c.J.length))) rfl rfl (ar (b2 _ _)) ?_;refine dm 0 rfl<|zB rfl (λg=>?_) (λg=>?_)
   ·have q:=a7 g;let⟨x,b⟩:=d7 c.J 0;refine FO (a_ x) (x:=.dp 1 0 (a_ x)) rfl rfl rfl (⟨dT,iH b⟩) rfl<|qR 0 rfl<|bw (x:=vB (decide (0<64))) rfl rfl (ar (b2 _ _)) ?_;refine dm 0 rfl<|aV rfl (λ_=>?_) (λB=>by exact absurd B dT);refine Wz rfl<|oR 3 rfl<|fd rfl (.inl rfl) (jm x 1 8 dT)<|bw (x:=.X 1 ([[vI (bV x 1 8)]]) true) rfl rfl rfl<|eg (x:=.S 114 0 1 false) (h':=an _ 114 (some (.arr (([(bV x 1 8:Int)]).map a_) 1))) rfl rfl (Iw ad) (⟨rfl,by exact ad,by exact ad,trivial⟩)<|oR 1 rfl<|a4 rfl<|rE 117 ?_;have D:0+1<=9223372036854775807:=by have:=a.J;have:=a.tape;omega
    refine qX 0 rfl<|bw (x:=vN (0+1)) rfl rfl (ax (bH (show 0+1<=9223372036854775807 by have:=a.J;have:=a.tape;omega) rfl)) ?_;refine cd 0 rfl<|⟨0+1,λi=>match i with|100=>114|i=>i,au (λi=>match i with|100=>114|i=>i) wT ⟨c9,c9,c9,⟨rfl,(a1 (λz:List Int=>some (bj.arr (z.map a_) 1)) (uu b oT)),rfl⟩,trivial⟩ rfl,oH (a7 g),by have:=a7 g;show c.J.length-(0+1)<c.J.length-(0);omega⟩
   have q:=aF g;refine cm 0 rfl<|.mk _ (.step none (ec (l:=[(1,.ptr 0 0),(2,.ptr 1 0),(3,.ptr 29 0)]) (hp:=[(0,.box [vI c.mode,vI c.u,vI c.Z,vI c.queue,vI c.W,vI c.C,vI c.Q,vI c.ways,.X 1 (c.J.map a_) false,vB c.tables,.X 1 (c.tape.map dU) false]),(1,.box [vI 0,vI 0,vI 0,vI 0,vI 0,vI 0,vI 0,vI 0,.X 0 ([]) true,vB false,.X 0 ([]) true]),(29,.box [vI (bV c.mode 0 2),vI (bV c.u 1 2),vI (bV c.Z 2 8),vI (bV c.queue 1 4),vI (bV c.W 1 4),vI (bV c.C 2 6),vI ((bZ c).Q),vI (bV c.ways 1 2),.X 1 ([]) false,vB c.tables,.X 0 ([]) true])]) trivial hP ⟨⟨trivial,_,rfl,.refl _⟩,⟨trivial,_,rfl,.refl _⟩,⟨trivial,_,rfl,eh.ZR ⟨.refl _,.refl _,.refl _,.refl _,.refl _,.refl _,.refl _,.refl _,.nil 1 false,.refl _,.refl _,trivial⟩⟩,trivial⟩) (.refl _)) ⟨(),λs=>s,au (λs=>s) wT ⟨c9,c9,⟨rfl,(by rw[<-wi (c:=c) (k:=0) (oH (aF g))];rfl),rfl⟩,trivial⟩ rfl,rfl,trivial⟩
  have y:k+1<=9223372036854775807:=oH a.J;have n:=yl (c:=c) (k:=k+1) o;refine qS 0 rfl<|bw (x:=vB (decide ((k+1)<c.J.length))) rfl rfl (ar (b2 _ _)) ?_;refine dm 0 rfl<|zB rfl (λd=>?_) (λd=>?_)
  ·have r:=a7 d;let⟨x,b⟩:=d7 c.J (k+1);refine FO (a_ x) (x:=.dp 1 0 (a_ x)) rfl rfl rfl (⟨aG _,iH b⟩) rfl<|qR 0 rfl<|bw (x:=vB (decide ((k+1)<64))) rfl rfl (ar (b2 _ _)) ?_;refine dm 0 rfl<|aV rfl (λl=>?_) (λl=>?_)
   all_goals
    first|(have t:=a7 l;refine Wz rfl<|oR 3 rfl<|fd rfl (.inl rfl) (jm x 1 8 dT)<|bw (x:=.X 1 ([[vI (bV x 1 8)]]) true) rfl rfl rfl<|eg (x:=.S 114 0 (min (k+1) 64+1) false) (h':=an (an _ 100 none) 114 (some (.arr (((hL c (k+1))++([(bV x 1 8:Int)])).map a_) 1))) rfl rfl (iP a_ (hL c (k+1)) ([(bV x 1 8:Int)]) ad ad) (⟨by exact ad,by exact ad,trivial⟩)<|oR 1 rfl<|a4 rfl<|rE 117 ?_)|have t:=aF l
    have E:k+1+1<=9223372036854775807:=by have:=a.J;have:=a.tape;omega
    first|refine qX 0 rfl ?_|refine qC 0 rfl ?_
    refine bw (x:=vN (k+1+1)) rfl rfl (ax (bH (show k+1+1<=9223372036854775807 by have:=a.J;have:=a.tape;omega) rfl)) ?_;apply cd 0 rfl
    first|(refine⟨(k+1)+1,λi=>match i with|100=>114|i=>i,au (λi=>match i with|100=>114|i=>i) wT ⟨c9,c9,⟨rfl,(by rw[(oT:min (k+1) 64+1=min (k+1+1) 64)];rfl),rfl⟩,⟨rfl,(a1 (λz:List Int=>some (bj.arr (z.map a_) 1)) (uu b oT)),rfl⟩,trivial⟩ rfl,oH (a7 d),by have:=a7 d;show c.J.length-((k+1)+1)<c.J.length-(k+1);omega⟩)|(refine⟨(k+1)+1,λi=>i,au (λi=>i) wT ⟨c9,c9,⟨rfl,(by rw[(oH (aF l):min (k+1) 64=min (k+1+1) 64)];rfl),rfl⟩,⟨rfl,(a1 (λz:List Int=>some (bj.arr (z.map a_) 1)) (A1 (c:=c) (oH (aF l)))),rfl⟩,trivial⟩ rfl,oH (a7 d),by have:=a7 d;show c.J.length-((k+1)+1)<c.J.length-(k+1);omega⟩)
  have r:=aF d;refine cm 0 rfl<|.mk _ (.step (some (100,1,(hL c (k+1)).map a_)) (ec (l:=[(1,.ptr 0 0),(2,.ptr 1 0),(3,.ptr 29 0)]) (hp:=[(0,.box [vI c.mode,vI c.u,vI c.Z,vI c.queue,vI c.W,vI c.C,vI c.Q,vI c.ways,.X 1 (c.J.map a_) false,vB c.tables,.X 1 (c.tape.map dU) false]),(1,.box [vI 0,vI 0,vI 0,vI 0,vI 0,vI 0,vI 0,vI 0,.X 0 ([]) true,vB false,.X 0 ([]) true]),(29,.box [vI (bV c.mode 0 2),vI (bV c.u 1 2),vI (bV c.Z 2 8),vI (bV c.queue 1 4),vI (bV c.W 1 4),vI (bV c.C 2 6),vI ((bZ c).Q),vI (bV c.ways 1 2),.X 1 ((hL c (k+1)).map a_) false,vB c.tables,.X 0 ([]) true])]) rfl hP ⟨⟨rfl,_,rfl,.refl _⟩,⟨rfl,_,rfl,.refl _⟩,⟨rfl,_,rfl,eh.ZR ⟨.refl _,.refl _,.refl _,.refl _,.refl _,.refl _,.refl _,.refl _,nB n,.refl _,.refl _,trivial⟩⟩,trivial⟩) (.refl _)) ⟨(),λs=>s,au (λs=>s) wT ⟨c9,c9,⟨rfl,(by rw[<-wi (c:=c) (k:=k+1) (oH (aF d))];rfl),rfl⟩,trivial⟩ rfl,rfl,trivial⟩
 intro f _;apply Fq (κ:=Unit) (λf=>⟨be [(1,.ptr 0 0),(2,.ptr 1 0),(3,.ptr 29 0)],ao [(0,.box [vI c.mode,vI c.u,vI c.Z,vI c.queue,vI c.W,vI c.C,vI c.Q,vI c.ways,.X 1 (c.J.map a_) false,vB c.tables,.X 1 (c.tape.map dU) false]),(1,.box [vI 0,vI 0,vI 0,vI 0,vI 0,vI 0,vI 0,vI 0,.X 0 ([]) true,vB false,.X 0 ([]) true]),(29,.box [vI (bV c.mode 0 2),vI (bV c.u 1 2),vI (bV c.Z 2 8),vI (bV c.queue 1 4),vI (bV c.W 1 4),vI (bV c.C 2 6),vI ((bZ c).Q),vI (bV c.ways 1 2),.X 1 (((bZ c).J).map a_) false,vB c.tables,.X 1 (((bZ c).tape).map dU) false])],31⟩) (λf=>True)
 ·refine qS 0 rfl<|bw (x:=vN c.tape.length) rfl rfl (cD dU c.tape)<|dm 0 rfl<|jR (κ:=Nat) (λk=>match k with|0=>⟨be [(1,.ptr 0 0),(2,.ptr 1 0),(3,.ptr 29 0),(58,.X 1 (c.tape.map dU) false),(59,vN c.tape.length),(60,vN 0)],ao [(0,.box [vI c.mode,vI c.u,vI c.Z,vI c.queue,vI c.W,vI c.C,vI c.Q,vI c.ways,.X 1 (c.J.map a_) false,vB c.tables,.X 1 (c.tape.map dU) false]),(1,.box [vI 0,vI 0,vI 0,vI 0,vI 0,vI 0,vI 0,vI 0,.X 0 ([]) true,vB false,.X 0 ([]) true]),(29,.box [vI (bV c.mode 0 2),vI (bV c.u 1 2),vI (bV c.Z 2 8),vI (bV c.queue 1 4),vI (bV c.W 1 4),vI (bV c.C 2 6),vI ((bZ c).Q),vI (bV c.ways 1 2),.X 1 (((bZ c).J).map a_) false,vB c.tables,.X 0 ([]) true])],101⟩|k+1=>⟨be [(1,.ptr 0 0),(2,.ptr 1 0),(3,.ptr 29 0),(58,.X 1 (c.tape.map dU) false),(59,vN c.tape.length),(60,vN (k+1))],ao [(0,.box [vI c.mode,vI c.u,vI c.Z,vI c.queue,vI c.W,vI c.C,vI c.Q,vI c.ways,.X 1 (c.J.map a_) false,vB c.tables,.X 1 (c.tape.map dU) false]),(1,.box [vI 0,vI 0,vI 0,vI 0,vI 0,vI 0,vI 0,vI 0,.X 0 ([]) true,vB false,.X 0 ([]) true]),(29,.box [vI (bV c.mode 0 2),vI (bV c.u 1 2),vI (bV c.Z 2 8),vI (bV c.queue 1 4),vI (bV c.W 1 4),vI (bV c.C 2 6),vI ((bZ c).Q),vI (bV c.ways 1 2),.X 1 (((bZ c).J).map a_) false,vB c.tables,.S 100 0 (min (k+1) 64) false]),(100,.arr ((zT c (k+1)).map dU) 1)],101⟩) (λk=>k<=c.tape.length) (λk=>c.tape.length-k) 0 (λs=>s) (au (λs=>s) wT wH rfl) (aE _) ?_;intro k o;rcases k with _|k
  ·refine qS 0 rfl<|bw (x:=vB (decide (0<c.tape.length))) rfl rfl (ar (b2 _ _)) ?_;refine dm 0 rfl<|zB rfl (λh=>?_) (λh=>?_)
   ·have u:=a7 h;let⟨x,b⟩:=d7 c.tape 0;have A:=a.tp x (aB b);refine FO (dU x) (x:=.dp 1 0 (dU x)) rfl rfl rfl (⟨dT,iH b⟩) rfl<|qR 0 rfl<|bw (x:=vB (decide (0<64))) rfl rfl (ar (b2 _ _)) ?_;refine dm 0 rfl<|zB rfl (λ_=>?_) (λC=>by exact absurd C dT);refine bw (x:=.X 1 ([[vU x]]) true) rfl rfl rfl<|zF (x:=.S 113 0 1 false) (h':=an _ 113 (some (.arr (([x]).map dU) 1))) (Iw ad) (⟨rfl,by exact ad,by exact ad,trivial⟩) ?_;have F:0+1<=9223372036854775807:=by have:=a.J;have:=a.tape;omega
    refine bw (x:=vN (0+1)) rfl rfl (ax (bH (show 0+1<=9223372036854775807 by have:=a.J;have:=a.tape;omega) rfl)) ?_;refine cd 0 rfl<|⟨0+1,λi=>match i with|100=>113|i=>i,au (λi=>match i with|100=>113|i=>i) wT ⟨c9,c9,c9,⟨rfl,(a1 (λz:List Nat=>some (bj.arr (z.map dU) 1)) (u' b oT)),rfl⟩,trivial⟩ rfl,oH (a7 h),by have:=a7 h;show c.tape.length-(0+1)<c.tape.length-(0);omega⟩
   have u:=aF h;refine cm 0 rfl<|.mk _ (.step none (ec (l:=[(1,.ptr 0 0),(2,.ptr 1 0),(3,.ptr 29 0)]) (hp:=[(0,.box [vI c.mode,vI c.u,vI c.Z,vI c.queue,vI c.W,vI c.C,vI c.Q,vI c.ways,.X 1 (c.J.map a_) false,vB c.tables,.X 1 (c.tape.map dU) false]),(1,.box [vI 0,vI 0,vI 0,vI 0,vI 0,vI 0,vI 0,vI 0,.X 0 ([]) true,vB false,.X 0 ([]) true]),(29,.box [vI (bV c.mode 0 2),vI (bV c.u 1 2),vI (bV c.Z 2 8),vI (bV c.queue 1 4),vI (bV c.W 1 4),vI (bV c.C 2 6),vI ((bZ c).Q),vI (bV c.ways 1 2),.X 1 (((bZ c).J).map a_) false,vB c.tables,.X 1 ([]) false])]) trivial hP ⟨⟨trivial,_,rfl,.refl _⟩,⟨trivial,_,rfl,.refl _⟩,⟨trivial,_,rfl,eh.ZR ⟨.refl _,.refl _,.refl _,.refl _,.refl _,.refl _,.refl _,.refl _,.refl _,.refl _,.nil 1 false,trivial⟩⟩,trivial⟩) (.refl _)) ⟨(),λs=>s,au (λs=>s) wT ⟨c9,c9,⟨rfl,(by rw[<-sy (c:=c) (k:=0) (oH (aF h))];rfl),rfl⟩,trivial⟩ rfl,rfl,trivial⟩
  have y:k+1<=9223372036854775807:=oH a.tape;have n:=D5 (c:=c) (k:=k+1) o;refine qS 0 rfl<|bw (x:=vB (decide ((k+1)<c.tape.length))) rfl rfl (ar (b2 _ _)) ?_;refine dm 0 rfl<|zB rfl (λe=>?_) (λe=>?_)
  ·have v:=a7 e;let⟨x,b⟩:=d7 c.tape (k+1);have A:=a.tp x (aB b);refine FO (dU x) (x:=.dp 1 0 (dU x)) rfl rfl rfl (⟨aG _,iH b⟩) rfl<|qR 0 rfl<|bw (x:=vB (decide ((k+1)<64))) rfl rfl (ar (b2 _ _)) ?_;refine dm 0 rfl<|zB rfl (λm=>?_) (λm=>?_)
   all_goals
    first|(have w:=a7 m;refine bw (x:=.X 1 ([[vU x]]) true) rfl rfl rfl<|zF (x:=.S 113 0 (min (k+1) 64+1) false) (h':=an (an _ 100 none) 113 (some (.arr (((zT c (k+1))++([x])).map dU) 1))) (iP dU (zT c (k+1)) ([x]) ad ad) (⟨by exact ad,by exact ad,trivial⟩) ?_)|have w:=aF m
    have G:k+1+1<=9223372036854775807:=by have:=a.J;have:=a.tape;omega
    refine bw (x:=vN (k+1+1)) rfl rfl (ax (bH (show k+1+1<=9223372036854775807 by have:=a.J;have:=a.tape;omega) rfl)) ?_;apply cd 0 rfl
    first|(refine⟨(k+1)+1,λi=>match i with|100=>113|i=>i,au (λi=>match i with|100=>113|i=>i) wT ⟨c9,c9,⟨rfl,(by rw[(oT:min (k+1) 64+1=min (k+1+1) 64)];rfl),rfl⟩,⟨rfl,(a1 (λz:List Nat=>some (bj.arr (z.map dU) 1)) (u' b oT)),rfl⟩,trivial⟩ rfl,oH (a7 e),by have:=a7 e;show c.tape.length-((k+1)+1)<c.tape.length-(k+1);omega⟩)|(refine⟨(k+1)+1,λi=>i,au (λi=>i) wT ⟨c9,c9,⟨rfl,(by rw[(oH (aF m):min (k+1) 64=min (k+1+1) 64)];rfl),rfl⟩,⟨rfl,(a1 (λz:List Nat=>some (bj.arr (z.map dU) 1)) (yy (c:=c) (oH (aF m)))),rfl⟩,trivial⟩ rfl,oH (a7 e),by have:=a7 e;show c.tape.length-((k+1)+1)<c.tape.length-(k+1);omega⟩)
  have v:=aF e;refine cm 0 rfl<|.mk _ (.step (some (100,1,(zT c (k+1)).map dU)) (ec (l:=[(1,.ptr 0 0),(2,.ptr 1 0),(3,.ptr 29 0)]) (hp:=[(0,.box [vI c.mode,vI c.u,vI c.Z,vI c.queue,vI c.W,vI c.C,vI c.Q,vI c.ways,.X 1 (c.J.map a_) false,vB c.tables,.X 1 (c.tape.map dU) false]),(1,.box [vI 0,vI 0,vI 0,vI 0,vI 0,vI 0,vI 0,vI 0,.X 0 ([]) true,vB false,.X 0 ([]) true]),(29,.box [vI (bV c.mode 0 2),vI (bV c.u 1 2),vI (bV c.Z 2 8),vI (bV c.queue 1 4),vI (bV c.W 1 4),vI (bV c.C 2 6),vI ((bZ c).Q),vI (bV c.ways 1 2),.X 1 (((bZ c).J).map a_) false,vB c.tables,.X 1 ((zT c (k+1)).map dU) false])]) rfl hP ⟨⟨rfl,_,rfl,.refl _⟩,⟨rfl,_,rfl,.refl _⟩,⟨rfl,_,rfl,eh.ZR ⟨.refl _,.refl _,.refl _,.refl _,.refl _,.refl _,.refl _,.refl _,.refl _,.refl _,nB n,trivial⟩⟩,trivial⟩) (.refl _)) ⟨(),λs=>s,au (λs=>s) wT ⟨c9,c9,⟨rfl,(by rw[<-sy (c:=c) (k:=k+1) (oH (aF e))];rfl),rfl⟩,trivial⟩ rfl,rfl,trivial⟩
 intro f _;apply hM 0 rfl;exact dK rfl cn rfl rfl
def D1{x}(a: -9223372036854775808<=x)(b:x<9223372036854775808):wrap64 x=x:=by unfold wrap64;omega
def sR(q)(k)(agY)(left)(a):yH (Bi q k agY left a)=yH q+if k=4 then 0 else 1:=by
 unfold yH Bi;rw[mL,aU];by_cases h:k=4<;>simp[h]
def xv(q):yH (eH q).1<=yH q:=by
 cases q with
 |nil=>exact aC _
 |cons x r=>
  unfold eH;dsimp only;split
  ·unfold yH;simp[List.filter_cons];by_cases h:x.kind=4<;>simp[h]
  ·unfold yH;simp[List.filter_cons];by_cases h:x.kind=4<;>simp[h]
structure Bd(f:Cf)(a:Nat)(c:Co):Prop where
 U:c.U=f
 Z:(c.Z.length:Int)<=f.Z
 Z5:(c.O.length:Int)<=f.queue
 Z9:(c.W.length:Int)<=f.W
 rd:(yH c.Y:Int)<=f.C
 ret:c.N.length=a
def ox(c)(agY):((oK c agY).Y=c.Y∧(oK c agY).asked=c.asked)∨∃l d,(oK c agY).Y=Bi c.Y 4 l (lX c.U c.asked) d∧(oK c agY).asked=wrap64 (c.asked+1):=by
 unfold oK;rcases a:iQ c.data c.Y c.mem agY (lX c.U c.asked)with ⟨d,q,b⟩;show(q=c.Y∧(if b=true then wrap64 (c.asked+1)else c.asked)=c.asked)∨∃l d,q=Bi c.Y 4 l _ d∧(if b=true then wrap64 (c.asked+1)else c.asked)=wrap64 _;unfold iQ at a;split at a
 ·cases a;exact .inl a9
 split at a
 ·cases a;exact .inl a9
 split at a
 split at a
 ·cases a;exact .inr ⟨_,_,rfl,rfl⟩
 cases a;exact .inl a9
def z'(c)(agY):yH (oK c agY).Y<=yH c.Y:=by
 rcases ox c agY with ⟨h, -⟩|⟨l,d,h, -⟩
 ·rw[h];exact aC _
 rw[h,sR,aa rfl];exact aC _
def Ku(c)(agY):(oK c agY).U=c.U∧(oK c agY).Z=c.Z∧(oK c agY).O=c.O∧(oK c agY).W=c.W∧(oK c agY).N=c.N:=by
 rw[<-uY];exact⟨rfl,rfl,rfl,rfl,rfl⟩
theorem Bd.ZI{f}{a}{c}(h:Bd f a c)(agY):Bd f a (oK c agY):=by
 let⟨b,d,e,g,i⟩:=Ku c agY;have:=z' c agY;exact⟨b.trans h.U,d ▸ h.Z,e ▸ h.Z5,g ▸ h.Z9,oH h.rd,i ▸ h.ret⟩
def xt{c}{b}(h:tA c b=true):(yH c.Y:Int)<c.U.C:=by
 unfold tA at h;split at h
 ·exact a7 h
 have:=a7 h;omega
theorem Bd.ask{f}{a}{c}(h:Bd f a c){k}{b}(hr:tA c b=true∨k=4)(agY)(d):Bd f a (jE c k agY d):=by
 refine⟨h.U,h.Z,h.Z5,h.Z9,?_,h.ret⟩;show((yH (Bi c.Y k agY _ d):Nat):Int)<=_;rw[sR];have e:=h.rd;rcases hr with hr|hr
 ·have:=xt hr;rw[h.U]at this;split<;>omega
 rw[aa hr];omega
def uf{f}{a}{c}(h:Bd f a c):Bd f a (lM c):=by
 have b:Bd f a (jJ c):=⟨h.U,h.Z,h.Z5,h.Z9,by have:=xv c.Y;have:=h.rd;show((yH (eH c.Y).1:Nat):Int)<=_;omega,h.ret⟩;rw[kC];split
 ·unfold ID
  repeat' split
  ·exact⟨b.U,by show((List.map _ _).length:Int)<=_;rw[aH];exact b.Z,b.Z5,b.Z9,b.rd,b.ret⟩
  ·exact⟨b.U,b.Z,b.Z5,b.Z9,b.rd,b.ret⟩
  ·exact b.ZI _
  ·exact⟨b.U,b.Z,b.Z5,b.Z9,b.rd,b.ret⟩
  exact b
 exact b
def Jn(l)(i):(c3 l i).length<=l.length:=by
 unfold c3;split
 ·rename_i e a;have:=(Em.1 a).1;rw[aU,aM];simp;omega
 exact aC _
def sf{f}{a}{c}(h:Bd f a c)(b:0<=f.queue):Bd f a (kK c):=by
 have d:=nN c;unfold kK;split
 ·exact h
 split
 ·rename_i i _;exact⟨h.U,by have:=Jn (bp c) i;have:=h.Z;show((c3 _ i).length:Int)<=_;omega,b,h.Z9,h.rd,h.ret⟩
 exact⟨h.U,by have:=h.Z;show((bp c).length:Int)<=_;omega,h.Z5,h.Z9,h.rd,h.ret⟩
def vg{f}{a}{c}(h:Bd f a c)(s)(g: ¬(s.store=true∧(c.W.length:Int)>=c.U.W)):Bd f (a+1) (fZ c s):=by
 refine⟨h.U,h.Z,h.Z5,?_,h.rd,by show(c.N++[s]).length=_;rw[aU,h.ret];rfl⟩;show(((match iJ s with|some p=>c.W++[p]|none=>c.W).length:Nat):Int)<=_;split
 ·rename_i p hp;have b:s.store=true:=by
   unfold iJ at hp;split at hp
   ·cases hp
   ·rename_i q;cases e:s.store with
    |true=>rfl
    |false=>exact absurd (.inl e) q
  have d: ¬(c.W.length:Int)>=c.U.W:=λq=>g ⟨b,q⟩;rw[h.U]at d;rw[aU];show((c.W.length+1:Nat):Int)<=_;omega
 ·exact h.Z9
def C2{f}{a}{c}(h:Bd f a c)(e)(b: ¬((cA e).store=true∧(c.W.length:Int)>=c.U.W)):Bd f (a+1) (Bm c e):=by
 have k:=vg h _ b;exact⟨k.U,by have:=h.Z;show((c.Z.drop 1).length:Int)<=_;rw[bD];omega,k.Z5,k.Z9,k.rd,k.ret⟩
def H6{f}{a}{c}(h:Bd f a c)(e)(b: ¬((cA e).store=true∧(c.W.length:Int)>=c.U.W)):Bd f (a+1) (MP c e):=by
 have k:=(vg h _ b).ZI (cA e).V;rw[<-uY]at k;exact⟨k.U,by have:=h.Z;show((c.Z.drop 1).length:Int)<=_;rw[bD];omega,k.Z5,k.Z9,k.rd,k.ret⟩
theorem od{f:Cf}(d:0<=f.Z∧0<=f.queue):∀(n:Nat) (c:Co) (a:Nat),Bd f a c->∃b,a<=b∧b<=a+n∧Bd f b (eC n c)
 |0,c,a,h=>⟨a,aC _,aC _,h⟩
 | n + 1,c,a,h=>by
  by_cases j:c.halt≠0∨c.Z.length=0
  ·rw[mG j];exact⟨a,aC _,oT,h⟩
  ·have m:c.Z[0]?=some (c.Z[0]'ad):=aA ad;rw[iX ad (λq=>j (.inl q)) m];split
   ·exact⟨a,aC _,oT,h⟩
   ·split
    ·exact⟨a+1,oT,oT,⟨h.U,d.1,d.2,h.Z9,h.rd,by show(c.N++[_]).length=_;rw[aU,h.ret];rfl⟩⟩
    ·split
     ·exact⟨a,aC _,oT,h⟩
     ·rename_i i;rw[kB];by_cases g:am (c.Z[0]'ad).i.op=3
      ·rw[Ke g];let⟨b,k,l,e⟩:=od d n _ _ (H6 h _ i);exact⟨b,oT,oT,e⟩
      ·rw[An g];let⟨b,k,l,e⟩:=od d n _ _ (C2 h _ i);exact⟨b,oT,oT,e⟩
theorem Bd.setE{f:Cf}{a:Nat}{c:Co}(h:Bd f a c)(i:Nat)(e:ai):Bd f a (bt c i e):=⟨h.U,by show((c.Z.set i e).length:Int)<=_;rw[cC];exact h.Z,h.Z5,h.Z9,h.rd,h.ret⟩
def E0{f}{a}{c}(h:Bd f a c)(i):Bd f a (oE c i):=by
 unfold oE
 cases c.Z[i]? with
 |none=>exact h
 |some e=>
  dsimp only
  repeat' split
  all_goals first|exact h|exact h.setE _ _|(rename_i q;exact(h.ask (.inl q.1) _ _).setE _ _)
def B7{f}{a}{c}(h:Bd f a c)(i):Bd f a (iS c i):=by
 unfold iS
 cases c.Z[i]? with
 |none=>exact h
 | some e=>
  dsimp only;split
  ·exact h.setE _ _
  ·split
   ·exact E0 (h.setE _ _) i
   ·exact h.setE _ _
theorem r9{f:Cf}{a:Nat}:∀(p:List Nat) (c:Co),Bd f a c->Bd f a (p.foldl iS c)
 |[],_,h=>h
 |i::p,_,h=>r9 p _ (B7 h i)
def ue{f}{a}{c}(h:Bd f a c):Bd f a (gY c):=by
 unfold gY;split
 ·exact h
 exact r9 _ c h
theorem tn{f:Cf}{a:Nat}:∀(n:Nat) (c:Co),Bd f a c->Bd f a (kV n c)
 |0,_,h=>h
 | n+1,c,h=>by
  by_cases b:(c.Z.length:Int)>=c.U.Z∨c.O.length=0
  ·rw[Ap b];exact h
  ·have g:c.O[0]?=some (c.O[0]'ad):=aA ad;have e:=CU (n:=n+1) (k:=0) ad (λq=>b (.inl q)) g;rw[(oT:n+1-(0+1)=n),(oT:n+1-0=n+1)]at e;rw[<-e];have d:=h.U;refine tn n _ ⟨h.U,?_,?_,h.Z9,h.rd,h.ret⟩
   ·show((c.Z++[_]).length:Int)<=_;rw[aU];show((c.Z.length+1:Nat):Int)<=_;rw[d]at b;omega
   ·have:=h.Z5;show((c.O.drop 1).length:Int)<=_;rw[bD];omega
def u0{f}{a}{c}(h:Bd f a c):Bd f a (lP c):=by
 unfold lP;split
 ·exact h
 exact tn _ c h
theorem s_{f:Cf}{a:Nat}:∀(n:Nat) (c:Co),Bd f a c->Bd f a (eL n c)
 |0,_,h=>h
 | n +1,c,h=>by
  by_cases b:c.stop=true∨(c.O.length:Int)>=c.U.queue
  ·rw[yZ b];exact h
  ·have g:((c.O.length+1:Nat):Int)<=f.queue:=by have:=h.U;rw[this]at b;omega
   by_cases d:(ez c.prog c.Yr).isSome=false
   ·rw[Aq ad b d];exact⟨h.U,h.Z,by show((c.O++[_]).length:Int)<=_;rw[aU];exact g,h.Z9,h.rd,h.ret⟩
   ·by_cases i:(bK c.y (ab c.Yr)).2.isSome=false
    ·rw[uD ad b d i];split
     ·rename_i q;exact h.ask (.inl q.2) _ _
     ·exact h
    ·have e:=BC (n:=n+1) (k:=0) ad b d i;rw[(oT:n+1-(0+1)=n),(oT:n+1-0=n+1)]at e;rw[<-e];refine s_ n _ ?_;have r:∀w,(dM (lJ c) w).1.U=c.U∧(dM (lJ c) w).1.Z=c.Z∧(dM (lJ c) w).1.O=c.O∧(dM (lJ c) w).1.W=c.W∧(dM (lJ c) w).1.Y=c.Y∧(dM (lJ c) w).1.N=c.N:=by
      intro w;unfold dM
      repeat' split
      all_goals exact⟨rfl,rfl,rfl,rfl,rfl,rfl⟩
     let⟨j,k,l,m,o,p⟩:=r (bg c.prog c.Yr);refine⟨j.trans h.U,?_,?_,?_,?_,?_⟩
     ·show(((dM (lJ c) (bg c.prog c.Yr)).1.Z.length:Nat):Int)<=_;rw[k];exact h.Z
     ·show((((dM (lJ c) (bg c.prog c.Yr)).1.O++[_]).length:Nat):Int)<=_;rw[l,aU];exact g
     ·show(((dM (lJ c) (bg c.prog c.Yr)).1.W.length:Nat):Int)<=_;rw[m];exact h.Z9
     ·show((yH (dM (lJ c) (bg c.prog c.Yr)).1.Y:Nat):Int)<=_;rw[o];exact h.rd
     ·show(dM (lJ c) (bg c.prog c.Yr)).1.N.length=_;rw[p];exact h.ret
def rp{f}{a}{c}(h:Bd f a c):Bd f a (eN c):=by
 unfold eN;split
 ·exact h
 exact s_ _ c h
def tj{f}{a}{c}(h:Bd f a c):Bd f a (tY c):=by
 have e:Bd f a (aW c):=by
  refine⟨h.U,h.Z,h.Z5,?_,h.rd,h.ret⟩;have:=h.Z9;show(((sL c.W c.data).1.length:Nat):Int)<=_;unfold sL
  repeat' split
  all_goals first|omega|(rename_i b _;rw[b]at this;simp at this⊢;omega)|(rename_i b;simp[b]at this⊢;omega)|(simp at this⊢;omega)
 have hA:∀{d:Co},Bd f a d->Bd f a (tW d):=λ{d} k=>by
  unfold tW;split
  ·exact k
  split
  ·rename_i q;exact k.ask (.inl q.2) _ _
  exact k
 have g:∀{d:Co},Bd f a d->Bd f a (nP d):=λ{d} k=>by
  unfold nP;split
  ·exact k
  unfold pE;split
  ·split
   ·rename_i w _ _;have q:=k.ask (b:=true) (.inr rfl) w.R w.data;exact⟨q.U,q.Z,q.Z5,q.Z9,q.rd,q.ret⟩
   exact k
  exact k
 rw[mO];split
 ·exact g (hA e)
 exact g e
def x3{f}(d:0<=f.Z∧0<=f.queue){c}{a}(h:Bd f a c):∃b,a<=b∧b<=a+f.u.toNat∧Bd f b (uG c):=by
 unfold uG;split
 ·have k:Bd f a (s0 c):=⟨h.U,h.Z,h.Z5,h.Z9,h.rd,h.ret⟩;have g:=sf (uf k) d.2;let⟨b,i,e,j⟩:=od d (kK (lM (s0 c))).U.u.toNat _ a g;rw[g.U]at e;exact⟨b,i,e,tj (rp (u0 (ue j)))⟩
 exact⟨a,aC _,oT,h⟩
def fk(e):xJ e=true↔((0<=e.is∧e.is<=3)∧(e.is=1->0<e.left)∧(e.is≠1->e.left=0)∧(e.is=2->am e.i.op=3∧e.known=true)∧(e.halt≠0->e.is=3∨(e.is=1∧am e.i.op=5∧e.halt=3))∧(Xq e.i=true∨e.halt=1∨e.halt=2)):=by
 unfold xJ;by_cases i:e.is<0∨e.is>3
 ·rw[aa i];exact⟨λh=>(by cases h),λh=>by omega⟩
 rw[dZ i];by_cases f:(e.is=1∧e.left<=0)∨(e.is≠1∧e.left≠0)
 ·rw[aa f];refine⟨λh=>(by cases h),λ⟨_,a,b,_⟩=>?_⟩;rcases f with ⟨x,y⟩|⟨x,y⟩
  ·have:=a x;omega
  ·exact absurd (b x) y
 rw[dZ f];by_cases c:e.is=2∧(am e.i.op≠3∨e.known=false)
 ·rw[aa c];refine⟨λh=>(by cases h),λ⟨_,_,_,a,_⟩=>?_⟩;have:=a c.1;rcases c.2 with x|x
  ·exact absurd this.1 x
  ·rw[this.2]at x;cases x
 rw[dZ c];by_cases d:e.halt≠0∧e.is≠3∧ ¬(e.is=1∧am e.i.op=5∧e.halt=3)
 ·rw[aa d];refine⟨λh=>(by cases h),λ⟨_,_,_,_,a,_⟩=>?_⟩;rcases a d.1 with x|x
  ·exact absurd x d.2.1
  ·exact absurd x d.2.2
 rw[dZ d];have k:e.is=2->am e.i.op=3∧e.known=true:=λx=>by
  refine⟨er λy=>c ⟨x,.inl y⟩,?_⟩
  cases n:e.known with
  |true=>rfl
  |false=>exact absurd ⟨x,.inr n⟩ c
 have l:e.halt≠0->e.is=3∨(e.is=1∧am e.i.op=5∧e.halt=3):=λx=>er λy=>d ⟨x,λz=>y (.inl z),λz=>y (.inr z)⟩;have j:e.is=1->0<e.left:=λx=>er λy=>f (.inl ⟨x,oT⟩);have m:e.is≠1->e.left=0:=λx=>er λy=>f (.inr ⟨x,y⟩);by_cases g:Xq e.i=true
 ·rw[aa g];exact⟨λ_=>⟨oT,j,m,k,l,.inl g⟩,λ_=>rfl⟩
 ·rw[dZ g];refine⟨λh=>⟨oT,j,m,k,l,.inr (sU h)⟩,λ⟨_,_,_,_,_,a⟩=>?_⟩;rcases a with a|a
  ·exact absurd a g
  ·simpa using a
structure ef(M:Int)(e:ai):Prop where
 st:xJ e=true
 kn:e.known=true->am e.i.op=3∨am e.i.op=4->kZ M e.V (bP e.i.op)=true
 s4:am e.i.op=4->e.is=0∨e.is=3
 k4:am e.i.op=4->e.is=3->e.halt=0->e.known=true
theorem ef.go{M}{e}(h:ef M e):ef M (a0 e):=by
 let⟨i,l,m,j,k,d⟩:=(fk e).1 h.st;unfold a0;by_cases c:e.is≠1
 ·rwa[aa c]
 rw[dZ c];have g:am e.i.op≠4:=λq=>by rcases h.s4 q with x|x<;>omega
 by_cases f:wrap64 (e.left-1)<=0
 ·rw[aa f];refine⟨(fk _).2 ⟨by simp,λq=>absurd q (by simp),λ_=>rfl,λq=>absurd q (by simp),λ_=>.inl rfl,d⟩,λa b=>?_,λq=>absurd q g,λq=>absurd q g⟩;refine h.kn ?_ b;have a:(if am e.i.op=5∧e.halt=0 then true else e.known)=true:=a;have b:am e.i.op=3∨am e.i.op=4:=b
  rwa [dZ ad]at a
 rw[dZ f];refine⟨(fk _).2 ⟨i,λ_=>by show 0<wrap64 _;omega,λq=>absurd (ej.1 c) q,j,k,d⟩,h.kn,h.s4,h.k4⟩
def Ji{c}{a b}(d:am c=2)(g:a<=4294967295)(h:b<=4294967295):0<e6 c a b:=by
 have i:42<=c∧c<=45:=by
  unfold am at d
  (repeat' split at d)<;>omega
 unfold e6;rw[dZ ad];split
 ·decide
 rename_i q;have e:fS c b<=fS c a:=oT;have f:=yJ c b ad (λz=>q (.inl z));have:=Kz (fS c b) (fS c a) (pT c b ad) (pT c a ad) oT ad;omega
theorem ef.start{M}{e}(h:ef M e){a b}(n:a<=4294967295)(o:b<=4294967295):ef M (rJ e a b):=by
 let⟨p,r,s,t,m,d⟩:=(fk e).1 h.st;unfold rJ;by_cases i:e.is≠0∨am e.i.op=3∨am e.i.op=4
 ·rwa[aa i]
 rw[dZ i];have g:e.halt=0:=er λq=>by rcases m q with x|x<;>omega
 have c:am e.i.op≠4:=λq=>i (.inr (.inr q));have f: ¬(am e.i.op=3∨am e.i.op=4):=λq=>i (.inr q);by_cases l:am e.i.op=1
 ·rw[aa l];exact⟨(fk _).2 ⟨by simp,λ_=>by simp,λq=>absurd rfl q,λq=>absurd q (by simp),λq=>absurd g q,d⟩,λ_ q=>absurd q f,λq=>absurd q c,λq=>absurd q c⟩
 rw[dZ l];by_cases j:am e.i.op=2
 ·rw[aa j];exact⟨(fk _).2 ⟨by simp,λ_=>by have:=Ji j n o;show(0:Int)<((e6 e.i.op a b:Nat):Int);omega,λq=>absurd rfl q,λq=>absurd q (by simp),λq=>absurd g q,d⟩,λ_ q=>absurd q f,λq=>absurd q c,λq=>absurd q c⟩
 rw[dZ j];by_cases k:am e.i.op=5
 ·rw[aa k];split
  ·exact⟨(fk _).2 ⟨by simp,λ_=>by simp,λq=>absurd rfl q,λq=>absurd q (by simp),λq=>absurd g q,d⟩,λ_ q=>absurd q f,λq=>absurd q c,λq=>absurd q c⟩
  refine⟨(fk _).2 ⟨by simp,λ_=>by simp,λq=>absurd rfl q,λq=>absurd q (by simp),λ_=>.inr ⟨rfl,k,rfl⟩,?_⟩,λ_ q=>absurd q f,λq=>absurd q c,λq=>absurd q c⟩;rcases d with x|x|x
  ·exact .inl x
  ·omega
  omega
 rw[dZ k];exact⟨(fk _).2 ⟨by simp,λ_=>by simp,λq=>absurd rfl q,λq=>absurd q (by simp),λq=>absurd g q,d⟩,λ_ q=>absurd q f,λq=>absurd q c,λq=>absurd q c⟩
theorem ef.V{M}{e}(h:ef M e)(a):ef M (yC e M a):=by
 let⟨i,j,c,m,d,f⟩:=(fk e).1 h.st;unfold yC;by_cases b:(am e.i.op≠3∧am e.i.op≠4)∨e.is≠0∨e.known=true
 ·rwa[aa b]
 rw[dZ b];have o:e.is=0:=er λq=>b (.inr (.inl q));have n:e.halt=0:=er λq=>by rcases d q with x|x<;>omega
 split
 ·rename_i l;exact⟨(fk _).2 ⟨i,j,c,λq=>absurd (show e.is=2 from q) ad,d,f⟩,λ_ _=>l,h.s4,λ_ _ _=>rfl⟩
 ·have g:e.known=false:=by cases k:e.known with
   |false=>rfl
   |true=>exact absurd (.inr (.inr k)) b
  refine⟨(fk _).2 ⟨by simp,λq=>absurd q (by simp),λ_=>(c ad),λq=>absurd q (by simp),λ_=>.inl rfl,?_⟩,λq=>(by rw[show e.known=true from q]at g;cases g),λ_=>.inr rfl,λ_ _ q=>?_⟩
  ·rcases f with x|x|x
   ·exact .inl x
   ·omega
   ·omega
  ·have q:(if am e.i.op=4 then(5:Int)else 4)=0:=q;split at q<;>omega
theorem ef.take{M}{e}(h:ef M e)(s):ef M (uM e s):=by
 let⟨f,g,i,j,b,c⟩:=(fk e).1 h.st;unfold uM;by_cases a:am e.i.op≠3∨e.known=false∨(e.is≠0∧e.is≠2)
 ·rwa[aa a]
 rw[dZ a];have k:am e.i.op=3:=er λq=>a (.inl q);have d:e.halt=0:=er λq=>by rcases b q with x|x<;>omega
 exact⟨(fk _).2 ⟨by simp,λ_=>by simp,λq=>absurd rfl q,λq=>absurd q (by simp),λq=>absurd d q,c⟩,h.kn,λq=>absurd (show am e.i.op=4 from q) ad,λq=>absurd (show am e.i.op=4 from q) ad⟩
theorem ef.store{M}{e}(h:ef M e)(b):ef M (uF e b):=by
 let⟨i,j,c,k,l,d⟩:=(fk e).1 h.st;unfold uF;by_cases a:am e.i.op≠4∨e.known=false∨e.is≠0
 ·rwa[aa a]
 rw[dZ a];have m:e.is=0:=er λq=>a (.inr (.inr q))
 have f:e.known=true:=by cases g:e.known with
  |true=>rfl
  |false=>exact absurd (.inr (.inl g)) a
 exact⟨(fk _).2 ⟨by simp,λq=>absurd q (by simp),λ_=>c ad,λq=>absurd q (by simp),λ_=>.inl rfl,d⟩,h.kn,λ_=>.inr rfl,λ_ _ _=>f⟩
theorem ef.fill{M}{e}(h:ef M e)(c)(agY):ef M (wO c agY e):=by
 unfold wO;split
 ·exact ef.take (e:={e with Z3:=true}) ⟨h.st,h.kn,h.s4,h.k4⟩ _
 exact h
theorem ef.wait{M}{e}(h:ef M e)(a:am e.i.op=3)(f:e.known=true)(i:e.is=0∨e.is=2):ef M {e with is:=2}:=by
 let⟨j,k,g,l,b,c⟩:=(fk e).1 h.st;have d:e.halt=0:=er λq=>by rcases b q with x|x<;>omega
 exact⟨(fk _).2 ⟨by simp,λq=>absurd q (by simp),λ_=>g ad,λ_=>⟨a,f⟩,λq=>absurd d q,c⟩,h.kn,λq=>absurd (show am e.i.op=4 from q) ad,λq=>absurd (show am e.i.op=4 from q) ad⟩
def A'(e):(a0 e).no=e.no:=by unfold a0;(repeat' split)<;>rfl
def y0(e)(a b):(rJ e a b).no=e.no:=by unfold rJ;(repeat' split)<;>rfl
def vb(e)(M)(a):(yC e M a).no=e.no:=by unfold yC;(repeat' split)<;>rfl
def p3(e)(s):(uM e s).no=e.no:=by unfold uM;split<;>rfl
def yM(e)(b):(uF e b).no=e.no:=by unfold uF;split<;>rfl
def J9(c)(agY)(e):(wO c agY e).no=e.no:=by
 unfold wO;split
 ·rw[p3]
 rfl
structure dw(M nx:Int)(l:List ai):Prop where
 ev:∀e∈l,ef M e∧e.no<nx
 up:(l.map (·.no)).Pairwise (· < ·)
theorem dw.nil{M a}:dw M a []:=⟨λ_ h=>(List.not_mem_nil h).elim,.nil⟩
theorem dw.map{M c}{l}(h:dw M c l){f}(g:∀e,ef M e->ef M (f e))(a:∀e,(f e).no=e.no):dw M c (l.map f):=by
 refine⟨λe d=>?_,?_⟩
 ·obtain⟨x,b,rfl⟩:=pG.1 d;exact⟨g x (h.ev x b).1,by rw[a];exact(h.ev x b).2⟩
 rw[List.map_map,show((λe:ai=>e.no)∘f)=λe=>e.no from funext a];exact h.up
theorem dw.set{M d}{l}(h:dw M d l){i}{x e}(a:l[i]?=some x)(f:ef M e)(c:e.no=x.no):dw M d (l.set i e):=by
 refine⟨λy g=>?_,?_⟩
 ·rcases List.mem_or_eq_of_mem_set g with q|rfl
  ·exact h.ev y q
  exact⟨f,by rw[c];exact(h.ev x (aB a)).2⟩
 rw[List.map_set,c,show(l.map _).set i x.no=l.map (·.no)from ?_]
 ·exact h.up
 refine dD λj=>?_;by_cases b:i=j
 ·subst b;rw[aZ (by rw[aH];exact ((Em.1 a).1)),aX,a];rfl
 rw[kX b]
theorem dw.sub{M b}{l k}(h:dw M b l)(a:k.Sublist l):dw M b k:=
 ⟨λe c=>h.ev e (a.mem c),h.up.sublist (a.map _)⟩
theorem dw.cut{M c}{l}(h:dw M c l)(i):dw M c (c3 l i):=by
 unfold c3;split
 ·rename_i e b;have d:(l.take i++[{e with M:=e.next}])=(l.set i {e with M:=e.next}).take (i+1):=by
   rw[bW,aZ ((Em.1 b).1),List.take_set_of_le (aC _)];rfl
  rw[d];have a:=(h.ev e (aB b)).1;exact(h.set b (e:={e with M:=e.next}) ⟨a.st,a.kn,a.s4,a.k4⟩ rfl).sub (List.take_sublist _ _)
 exact h
theorem dw.push{M d}{l}(h:dw M d l){e}(i:ef M e)(j:e.no=d):dw M (d+1) (l++[e]):=by
 refine⟨λy c=>?_,?_⟩
 ·rcases cp.1 c with q|q
  ·have:=h.ev y q;exact⟨this.1,oT⟩
  rw[uJ.1 q];exact⟨i,oT⟩
 rw[dH,List.pairwise_append];refine⟨h.up,List.pairwise_singleton _ _,λa g b f=>?_⟩;obtain⟨y,c,rfl⟩:=pG.1 g;have:=(h.ev y c).2;have f:b=e.no:=sU f;omega
theorem dw.right{M d}{l}(h:dw M d l)(c:l.length<=8):Ff l=true:=by
 unfold Ff;rw[aP,rC];refine⟨jP c,λi f=>?_⟩;unfold IB;split
 ·rename_i e a;rw[aP];refine⟨?_,(h.ev e (aB a)).1.st⟩
  cases i with
  |zero=>rfl
  |succ i=>
   have g:=(Em.1 a).1;have:=List.pairwise_iff_getElem.1 h.up i _ (by rw[aH];omega) (by rw[aH];omega) ad;rw[List.getElem_map,List.getElem_map]at this;have b:l[i+1]=e:=(Em.1 a).2;rw[b]at this;unfold pn;rw[(oT:i+1-1=i),aA ad];simp[this]
 ·rfl
theorem dw.W{M a:Int}{r:Nat->Nat}{l:List ai}(h:dw M a l):∀k,dw M a (bq r l k)
 |0=>h
 | k+1=>by
  have ih:=dw.W (r:=r) h k;show dw M a (et r (bq r l k) k);unfold et;split
  ·rename_i e b;split
   ·split
    ·exact ih.set b ((ih.ev e (aB b)).1.store _) (yM _ _)
    ·exact ih
   ·exact ih
  ·exact ih
def lB(c:Ca)(k:Nat)(s:List Wy):(rK c k s).Q.length=c.Q.length∧(rK c k s).ways=c.ways:=⟨cC,rfl⟩
def tu(c)(agY):(tO c agY).Q.length=c.Q.length∧(tO c agY).ways=c.ways:=by
 unfold tO;split
 ·exact lB _ _ _
 exact⟨rfl,rfl⟩
def tX(c)(agY)(d)(b):(qZ c agY d b).1.Q.length=c.Q.length∧(qZ c agY d b).1.ways=c.ways:=by
 unfold qZ;split
 ·split
  ·exact lB _ _ _
  split<;>exact lB _ _ _
 exact⟨rfl,rfl⟩
def I4(c)(a)(b):(xL c a b).1.Q.length=c.Q.length∧(xL c a b).1.ways=c.ways:=by
 unfold xL;split
 ·split
  ·split
   ·exact⟨rfl,rfl⟩
   exact lB _ _ _
  exact⟨rfl,rfl⟩
 exact⟨rfl,rfl⟩
def C8(c)(agY):(wB c agY).Q.length=c.Q.length∧(wB c agY).ways=c.ways:=by
 unfold wB;split
 ·exact lB _ _ _
 exact⟨rfl,rfl⟩
def Jx(c)(agY):(oK c agY).data.Q.length=c.data.Q.length∧(oK c agY).data.ways=c.data.ways:=by
 have hp:=tX c.data (ab agY) (Ga (jZ c.Y c.mem) (ab agY)) false;unfold oK;rcases a:iQ c.data c.Y c.mem agY (lX c.U c.asked)with ⟨d,q,b⟩;show d.Q.length=_∧d.ways=_;unfold iQ at a;split at a
 ·cases a;exact⟨rfl,rfl⟩
 split at a
 ·cases a;exact tu _ _
 split at a
 rename_i e;rw[e]at hp;split at a<;>(cases a;exact hp)
structure b6(q:Int)(c:Co):Prop where
 ro:dw c.mem.size c.next c.Z
 lo:0<=c.next
 nx:c.next<=q
 da:(c.data.Q.length:Int)=c.U.Q∧c.data.ways=c.U.ways
 wo:(c.y.Q.length:Int)=c.U.Q∧c.y.ways=c.U.ways
 sp:∀p∈c.W,kZ c.mem.size p.V p.data.size=true
 pg:c.prog.length<=64
def ji(c)(agY):(oK c agY).mem=c.mem∧(oK c agY).next=c.next∧(oK c agY).Z=c.Z∧(oK c agY).U=c.U∧(oK c agY).y=c.y∧(oK c agY).W=c.W∧(oK c agY).prog=c.prog:=by
 rw[<-uY];exact⟨rfl,rfl,rfl,rfl,rfl,rfl,rfl⟩
theorem b6.ZI{q}{c}(h:b6 q c)(agY):b6 q (oK c agY):=by
 let⟨b,a,f,d,g,i,j⟩:=ji c agY;have e:=Jx c agY;exact⟨by rw[b,a,f];exact h.ro,by rw[a];exact h.lo,by rw[a];exact h.nx,by rw[e.1,e.2,d];exact h.da,by rw[g,d];exact h.wo,by rw[i,b];exact h.sp,by rw[j];exact h.pg⟩
theorem b6.Z{q}{c d}(h:b6 q c)(k:dw c.mem.size c.next d.Z)(b:d.mem=c.mem)(a:d.next=c.next)(f:d.data=c.data)(g:d.y=c.y)(e:d.U=c.U)(i:d.W=c.W)(j:d.prog=c.prog):b6 q d:=
 ⟨by rw[b,a];exact k,by rw[a];exact h.lo,by rw[a];exact h.nx,by rw[f,e];exact h.da,by rw[g,e];exact h.wo,by rw[i,b];exact h.sp,by rw[j];exact h.pg⟩
def ua{q}{c}(h:b6 q c):b6 q (lM c):=by
 have a:b6 q (jJ c):=⟨h.ro,h.lo,h.nx,h.da,h.wo,h.sp,h.pg⟩;rw[kC];split
 ·unfold ID
  repeat' split
  ·exact a.Z (a.ro.map (λe b=>b.fill _ _) (λe=>J9 _ _ e)) rfl rfl rfl rfl rfl rfl rfl
  ·have:=tX (jJ c).y (eH c.Y).2.1.R oZ false;exact⟨a.ro,a.lo,a.nx,a.da,by show((qZ _ _ _ _).1.Q.length:Int)=_∧(qZ _ _ _ _).1.ways=_;rw[this.1,this.2];exact a.wo,a.sp,a.pg⟩
  ·exact a.ZI _
  ·have e:(rP (jJ c).mem [⟨(eH c.Y).2.1.R,(eH c.Y).2.1.data⟩]).size=(jJ c).mem.size:=iY ..;exact⟨by show dw _ _ _;rw[e];exact a.ro,a.lo,a.nx,a.da,a.wo,by show ∀p∈_,kZ _ _ _=true;rw[e];exact a.sp,a.pg⟩
  exact a
 exact a
def tz{q}{c}(h:b6 q c):b6 q (kK c):=by
 have a:dw c.mem.size c.next (bp c):=dw.W (h.ro.map (λe b=>b.go) A') _;unfold kK;split
 ·exact h
 split
 ·rename_i i _;exact h.Z (a.cut i) rfl rfl rfl rfl rfl rfl rfl
 exact h.Z a rfl rfl rfl rfl rfl rfl rfl
def zz(x n)(h:n=1∨n=2∨n=4):(oF x n).size=n:=by
 rcases h with rfl|rfl|rfl<;>rfl
def uk{q}{c}(h:b6 q c){e}(m:e∈c.Z)(l:e.is=3):b6 q (fZ c (cA e)):=by
 refine⟨h.ro,h.lo,h.nx,h.da,h.wo,?_,h.pg⟩;show ∀p∈(match iJ (cA e)with|some p=>c.W++[p]|none=>c.W),_;split
 ·rename_i p hp;intro y o;rcases cp.1 o with r|r
  ·exact h.sp y r
  ·rw [uJ.1 r];have f:=(h.ro.ev e m).1;unfold iJ at hp;split at hp
   ·cases hp
   ·rename_i d;have a:(cA e).store=true:=by
     cases g:(cA e).store with
     |true=>rfl
     |false=>exact absurd (.inl g) d
    have b:e.halt=0∧am e.i.op=4:=by
     unfold cA at a;by_cases i:e.halt≠0
     ·rw[aa i]at a;exact absurd (show false=true from a) (by simp)
     ·by_cases k:am e.i.op=4
      ·exact⟨ej.1 i,k⟩
      ·rw[dZ i,dZ k]at a
       repeat' split at a
       all_goals exact absurd (show false=true from a) (by simp)
    have n:cA e=⟨e.K,bz e.K,wr e.i,e.value,e.V,(bP e.i.op:Nat),true,0,0⟩:=by
     unfold cA;rw[dZ (λz=>z b.1),aa b.2]
    rw[n]at hp d;injection hp with hp;have j:bP e.i.op=1∨bP e.i.op=2∨bP e.i.op=4:=by
     have d: ¬(((bP e.i.op:Nat):Int)≠1∧((bP e.i.op:Nat):Int)≠2∧((bP e.i.op:Nat):Int)≠4):=λz=>d (.inr (.inr z));omega
    have g:p.data.size=bP e.i.op:=by rw[<-hp];exact zz _ _ j
    rw[show p.V=e.V by rw[<-hp],g];exact (f.kn (f.k4 b.2 l b.1) (.inr b.2))
 ·exact h.sp
def KY{q}{c}(h:b6 q c){e}(b:e∈c.Z)(a:e.is=3):b6 q (Bm c e):=by
 have k:=uk h b a;exact⟨k.ro.sub (List.drop_sublist _ _),k.lo,k.nx,k.da,k.wo,k.sp,k.pg⟩
def Dk{q}{c}(h:b6 q c){e}(b:e∈c.Z)(a:e.is=3):b6 q (MP c e):=by
 have k:=(uk h b a).ZI (cA e).V;rw[<-uY]at k;exact⟨dw.sub k.ro (List.drop_sublist _ _),k.lo,k.nx,k.da,k.wo,k.sp,k.pg⟩
theorem oa{q:Int}:∀(n:Nat) (c:Co),b6 q c->b6 q (eC n c)
 |0,_,h=>h
 | n +1,c,h=>by
  by_cases f:c.halt≠0∨c.Z.length=0
  ·rw[mG f];exact h
  ·have e:c.Z[0]?=some (c.Z[0]'ad):=aA ad;have d:=aB e;rw[iX ad (λr=>f (.inl r)) e];split
   ·exact h
   ·rename_i a;have a:=ej.1 a;split
    ·exact⟨dw.nil,h.lo,h.nx,h.da,h.wo,h.sp,h.pg⟩
    ·split
     ·exact h
     ·rw[kB];by_cases b:am (c.Z[0]'ad).i.op=3
      ·rw[Ke b];exact oa n _ (Dk h d a)
      ·rw[An b];exact oa n _ (KY h d a)
theorem b6.setE{q:Int}{c:Co}(h:b6 q c){i:Nat}{x e:ai}(d:c.Z[i]?=some x)(a:ef c.mem.size e)(b:e.no=x.no):b6 q (bt c i e):=h.Z (h.ro.set d a b) rfl rfl rfl rfl rfl rfl rfl
def CX(e)(M)(a)(c:e.is=0):(yC e M a).known=true->(yC e M a).is=0∨e.known=false∧(yC e M a).is=0:=by
 intro b;unfold yC at b⊢;split
 ·exact .inl c
 rename_i d;rw[dZ d]at b;split
 ·exact .inl c
 rename_i f;rw[dZ f]at b;exact absurd (show e.known=true from b) (λz=>d (.inr (.inr z)))
def In{q}{c}(h:b6 q c){i}{x}(a:c.Z[i]?=some x)(e:am x.i.op=3)(j:x.known=true->x.is=0):b6 q (oE c i):=by
 have b:=(h.ro.ev x (aB a)).1;unfold oE;rw[a];dsimp only;split
 ·exact h
 ·rename_i f
  have d:x.known=true:=by cases k:x.known with
   |true=>rfl
   |false=>exact absurd k f
  have g:=b.wait e d (.inl (j d))
  repeat' split
  ·exact h.setE a (b.take _) (p3 _ _)
  ·exact h
  ·exact h.setE a (b.take _) (p3 _ _)
  ·exact h.setE a g rfl
  ·exact b6.setE (c:=jE c 1 _ oZ) ⟨h.ro,h.lo,h.nx,h.da,h.wo,h.sp,h.pg⟩ a g rfl
  ·exact h
def xc{l:List ai}{i:Nat}{x e:ai}(a:l[i]?=some x):(l.set i e)[i]?=some e:=aZ (Em.1 a).1
def yk{q}{c}{n}(f:c.E n)(h:b6 q c){i}(g:∀e,c.Z[i]?=some e->e.is=0):b6 q (iS c i):=by
 have d:=Cj f.ok.Z7 f.ok.r i;unfold iS
 cases a:c.Z[i]? with
 |none=>exact h
 | some e=>
  have b:=(h.ro.ev e (aB a)).1;dsimp only;split
  ·exact h.setE a (b.V _) (vb _ _ _)
  ·split
   ·rename_i k;have j:am (yC e c.mem.size (mI c.Z c.r i).1).i.op=3:=by
     unfold yC
     (repeat' split)<;>exact k
    exact In (h.setE a (b.V _) (vb _ _ _)) (xc a) j (λz=>(CX e _ _ (g e a) z).elim id (·.2))
   ·exact h.setE a (b.start d.1 d.2) (y0 _ _ _)
def nc{l:List ai}{i j:Nat}{e:ai}(h:i≠j):(l.set i e)[j]?=l[j]? :=kX h
def x_(c){i j}(h:i≠j):(oE c i).Z[j]?=c.Z[j]? :=by
 unfold oE;split
 ·rfl
 (try dsimp only)
 repeat' split
 all_goals first|rfl|exact nc h
def zr(c){i j}(h:i≠j):(iS c i).Z[j]?=c.Z[j]? :=by
 unfold iS;split
 ·rfl
 (try dsimp only)
 split
 ·exact nc h
 split
 ·rw[x_ _ h];exact nc h
 exact nc h
theorem wu{q:Int}:∀(p:List Nat) (c:Co) (n:Nat),c.E n->n+p.length<=890000->b6 q c->p.Pairwise (· < ·)->(∀i∈p,∀e,c.Z[i]?=some e->e.is=0)->b6 q (p.foldl iS c)
 |[],_,_,_,_,h,_,_=>h
 |i::p,c,n,f,l,h,hp,b=>by
  have m:(i::p).length=p.length+1:=rfl;rw[m]at l;let⟨g,k⟩:=List.pairwise_cons.1 hp;refine wu p _ (n+1) (yY f ad i).1 ad (yk f h (b i (b1 ..))) k (λj d e a=>?_);have:=g j d;rw[zr c ad]at a;exact b j (bY _ d) e a
theorem uj{agN:Int}{busy:Bool}{kinds:List Int}{can:List Bool}:∀k,(∀i∈(kA agN busy kinds can k).out,i<k∧can.getD i false=true)∧(kA agN busy kinds can k).out.Pairwise (· < ·)
 |0=>⟨λi d=>(List.not_mem_nil d).elim,.nil⟩
 | k + 1=>by
  have ih:=uj (agN:=agN) (busy:=busy) (kinds:=kinds) (can:=can) k;have c:(∀i∈(kA agN busy kinds can k).out,i<k+1∧can.getD i false=true)∧(kA agN busy kinds can k).out.Pairwise (· < ·):=⟨λi d=>⟨oH ((ih.1 i d).1),(ih.1 i d).2⟩,ih.2⟩;show(∀i∈(IW agN kinds (kA agN busy kinds can k) k (can.getD k false)).out,_)∧(IW agN kinds (kA agN busy kinds can k) k (can.getD k false)).out.Pairwise _;unfold IW;split
  ·exact c
  ·split
   ·exact c
   ·rename_i h;split
    ·exact c
    ·refine⟨λi d=>?_,?_⟩
     ·rcases cp.1 d with r|r
      ·exact c.1 i r
      ·rw[uJ.1 r]
       exact⟨oT,by cases g:can.getD k false with
        |true=>rfl
        |false=>exact absurd g h⟩
     ·show((kA agN busy kinds can k).out++[k]).Pairwise _;rw[List.pairwise_append];refine⟨ih.2,List.pairwise_singleton _ _,λa e b f=>?_⟩;rw[uJ.1 f];exact(ih.1 a e).1
def yr{c}{i}{e}(h:DN c i=true)(a:c.Z[i]?=some e):e.is=0:=by
 unfold DN at h;rw[a]at h;dsimp only at h;split at h
 ·cases h
 rename_i q;exact ej.1 q
def x2{q}{c}{n}(g:c.E n)(k:n+2<=890000)(h:b6 q c):b6 q (gY c):=by
 by_cases f:c.halt≠0
 ·rw[show gY c=c from aa f];exact h
 have m:=pD g.cf;have l:=VH (agN:=c.U.u) (busy:=c.Z.any IE) (kinds:=Fi c) (can:=Kv c) ad (Kv c).length;have d:=uj (agN:=c.U.u) (busy:=c.Z.any IE) (kinds:=Fi c) (can:=Kv c) (Kv c).length;rw[show gY c=(kA c.U.u _ _ _ (Kv c).length).out.foldl iS c from dZ f];refine wu _ c n g ad h d.2 (λi j e b=>?_);have a:=(d.1 i j).2;refine yr ?_ b;unfold Kv at a;rw[aR,aX,eZ ((Em.1 b).1)]at a;exact a
def yh{M}(c){f}{prog}(hp:∀x∈prog,x<=4294967295):ef M (qB c f prog)∧(qB c f prog).no=c:=by
 have a: ¬am 0=4:=dT;unfold qB;split
 ·exact⟨⟨(fk _).2 ⟨by simp,λq=>absurd q (by simp),λ_=>rfl,λq=>absurd q (by simp),λ_=>.inl rfl,.inr (.inl rfl)⟩,λq=>absurd (show false=true from q) (by simp),λq=>absurd (show am 0=4 from q) a,λq=>absurd (show am 0=4 from q) a⟩,rfl⟩
 split
 ·exact⟨⟨(fk _).2 ⟨by simp,λq=>absurd q (by simp),λ_=>rfl,λq=>absurd q (by simp),λ_=>.inl rfl,.inr (.inr rfl)⟩,λq=>absurd (show false=true from q) (by simp),λq=>absurd (show am 0=4 from q) a,λq=>absurd (show am 0=4 from q) a⟩,rfl⟩
 rename_i d;have b:Xq (bi (bg prog f.K))=true:=(MZ _).2 (x6 _ d (CI (LN hp f.K)));split
 ·exact⟨⟨(fk _).2 ⟨by simp,λq=>absurd q (by simp),λ_=>rfl,λq=>absurd q (by simp),λ_=>.inl rfl,.inl b⟩,λq=>absurd (show false=true from q) (by simp),λ_=>.inr rfl,λ_ _ q=>absurd (show(6:Int)=0 from q) (by simp)⟩,rfl⟩
 split
 ·exact⟨⟨(fk _).2 ⟨by simp,λq=>absurd q (by simp),λ_=>rfl,λq=>absurd q (by simp),λ_=>.inl rfl,.inl b⟩,λq=>absurd (show false=true from q) (by simp),λ_=>.inr rfl,λ_ _ q=>absurd (show(7:Int)=0 from q) (by simp)⟩,rfl⟩
 exact⟨⟨(fk _).2 ⟨(show(0:Int)<=0∧(0:Int)<=3 from⟨by simp,by simp⟩),λq=>absurd (show(0:Int)=1 from q) (by simp),λ_=>rfl,λq=>absurd (show(0:Int)=2 from q) (by simp),λq=>absurd rfl q,.inl b⟩,λq=>absurd (show false=true from q) (by simp),λ_=>.inl rfl,λ_ q=>absurd (show(0:Int)=3 from q) (by simp)⟩,rfl⟩
theorem r7:∀(n:Nat) (q:Int) (c:Co),(∀x∈c.prog,x<=4294967295)->q+n<=9000000->b6 q c->b6 (q+n) (kV n c)
 |0,q,c,_,_,h=>by rw[(oT:q+((0:Nat):Int)=q)];exact h
 | n+1,q,c,hp,g,h=>by
  by_cases b:(c.Z.length:Int)>=c.U.Z∨c.O.length=0
  ·rw[Ap b];exact⟨h.ro,h.lo,oH h.nx,h.da,h.wo,h.sp,h.pg⟩
  ·have f:c.O[0]?=some (c.O[0]'ad):=aA ad;have e:=CU (n:=n+1) (k:=0) ad (λr=>b (.inl r)) f;rw[(oT:n+1-(0+1)=n),(oT:n+1-0=n+1)]at e;rw[<-e,(oT:q+((n+1:Nat):Int)=(q+1)+(n:Nat))];have a:wrap64 (c.next+1)=c.next+1:=D1 (oH h.lo) (oH h.nx);have d:=yh (M:=c.mem.size) c.next (f:=c.O[0]'ad) hp;refine r7 n (q+1) _ hp ad ⟨?_,?_,?_,h.da,h.wo,h.sp,h.pg⟩
   ·show dw c.mem.size (wrap64 (c.next+1)) (c.Z++[_]);rw[a];exact h.ro.push d.1 d.2
   ·show 0<=wrap64 (c.next+1);rw[a];have:=h.lo;omega
   ·show wrap64 (c.next+1)<=_;rw[a];have:=h.nx;omega
theorem tq{q:Int}:∀(n:Nat) (c:Co),b6 q c->b6 q (eL n c)
 |0,_,h=>h
 | n +1,c,h=>by
  by_cases b:c.stop=true∨(c.O.length:Int)>=c.U.queue
  ·rw[yZ b];exact h
  ·by_cases d:(ez c.prog c.Yr).isSome=false
   ·rw[Aq ad b d];exact⟨h.ro,h.lo,h.nx,h.da,h.wo,h.sp,h.pg⟩
   ·by_cases g:(bK c.y (ab c.Yr)).2.isSome=false
    ·rw[uD ad b d g];split
     ·exact⟨h.ro,h.lo,h.nx,h.da,h.wo,h.sp,h.pg⟩
     ·exact h
    ·have e:=BC (n:=n+1) (k:=0) ad b d g;rw[(oT:n+1-(0+1)=n),(oT:n+1-0=n+1)]at e;rw[<-e];refine tq n _ ?_;have f:=tu c.y (ab c.Yr);have a:b6 q (lJ c):=⟨h.ro,h.lo,h.nx,h.da,by show((tO _ _).Q.length:Int)=_∧(tO _ _).ways=_;rw[f.1,f.2];exact h.wo,h.sp,h.pg⟩;have i:∀w,b6 q (dM (lJ c) w).1:=by
      intro w;unfold dM
      repeat' split
      all_goals exact⟨a.ro,a.lo,a.nx,a.da,a.wo,a.sp,a.pg⟩
     have k:=i (bg c.prog c.Yr);exact⟨k.ro,k.lo,k.nx,k.da,k.wo,k.sp,k.pg⟩
def w3{q}{c}(h:b6 q c):b6 q (tY c):=by
 have a:b6 q (aW c):=by
  refine⟨h.ro,h.lo,h.nx,?_,h.wo,?_,h.pg⟩
  ·show((sL c.W c.data).2.1.Q.length:Int)=_∧(sL c.W c.data).2.1.ways=_;unfold sL;split
   ·exact h.da
   rename_i p l _;have:=I4 c.data p.V p.data;split
   ·rw[this.1,this.2];exact h.da
   exact h.da
  show ∀p∈(sL c.W c.data).1,_;unfold sL;split
  ·exact h.sp
  rename_i p l e;split
  ·exact λy f=>h.sp y (by rw[e];exact bY _ f)
  exact h.sp
 have hA:∀{d:Co},b6 q d->b6 q (tW d):=λ{d} k=>by
  unfold tW;split
  ·exact k
  split
  ·exact⟨k.ro,k.lo,k.nx,k.da,k.wo,k.sp,k.pg⟩
  exact k
 have b:∀{d:Co},b6 q d->b6 q (nP d):=λ{d} k=>by
  unfold nP;split
  ·exact k
  unfold pE;split
  ·split
   ·rename_i w _ _;have:=C8 d.data w.R;exact⟨k.ro,k.lo,k.nx,by show((wB _ _).Q.length:Int)=_∧(wB _ _).ways=_;rw[this.1,this.2];exact k.da,k.wo,k.sp,k.pg⟩
   exact k
  exact k
 rw[mO];split
 ·exact b (hA a)
 exact b a
def kS(n lo a)(h:0<=lo∧lo<=a):0<=bV n lo a:=by unfold bV;(repeat' split)<;>omega
def w7(c:Cf)(prog:List Nat)(m:ByteArray):Bd (bZ c) 0 (fX c prog m):=
 ⟨rfl,kS _ 2 8 dT,kS _ 1 4 dT,kS _ 1 4 dT,kS _ 2 6 dT,rfl⟩
def HB(c:Cf):0<=(bZ c).Z∧0<=(bZ c).queue:=⟨kS _ 2 8 dT,kS _ 1 4 dT⟩
def B1{f}(d:0<=f.Z∧0<=f.queue){c}(h:Bd f c.N.length c):Bd f (uG c).N.length (uG c)∧c.N.length<=(uG c).N.length∧(uG c).N.length<=c.N.length+f.u.toNat:=by
 let⟨b,e,g,a⟩:=x3 d h;have:=a.ret;subst this;exact⟨a,e,g⟩
theorem b6.mono{q r}{c}(h:b6 q c)(a:q<=r):b6 r c:=⟨h.ro,h.lo,oH h.nx,h.da,h.wo,h.sp,h.pg⟩
def J6{q}{c}{n}(i:c.E n)(g:n+20<=890000)(j:q+2<=9000000)(h:b6 q c):b6 (q+2) (c8 c):=by
 have a:=Ql i g;have e:b6 q (s3 c):=oa _ _ (tz (ua (⟨h.ro,h.lo,h.nx,h.da,h.wo,h.sp,h.pg⟩)));have b:b6 q (c6 c):=x2 a.k3 ad e;have d:b6 (q+2) (dq c):=by
  show b6 (q+2) (lP (c6 c));have k:=pD a.k4.cf;unfold lP;split
  ·exact b.mono ad
  exact(r7 _ q _ a.k4.ok.Z4 ad b).mono ad
 have f:b6 (q+2) (b' c):=by
  show b6 (q+2) (eN (dq c));unfold eN;split
  ·exact d
  exact tq _ _ d
 exact w3 f
def uw{x}(h:∃n,x.size=gr n):jB x=x:=by
 let⟨n,a⟩:=h;have b:x.size=16∨x.size=32∨x.size=64∨x.size=128∨x.size=256:=by rw[a];unfold gr;(repeat' split)<;>omega
 unfold jB;rw[(oT:min x.size 256=x.size),show gr x.size-x.size=0 by rcases b with e|e|e|e|e<;>rw[e]<;>rfl,List.replicate_zero,dY,show x.extract 0 x.size=x by simp]
 try (cases x;simp)
def CB{f}{a n}{q}{c}(b:c.E n)(d:Bd f a c)(h:b6 q c)(l:∃n,c.mem.size=gr n):jF c=true:=by
 have m:=pD b.cf;have g:=d.Z;have i:=d.Z5;have j:=d.Z9;rw[<-d.U]at g i j;unfold jF;simp only[aP,aY,rC];refine⟨⟨⟨⟨⟨⟨⟨⟨⟨⟨⟨b.cf,h.pg⟩,?_⟩,h.ro.right ad⟩,g⟩,λe k=>(h.ro.ev e k).2⟩,?_⟩,?_⟩,b.M⟩,i⟩,j⟩,h.sp⟩
 ·rw[uw l];simp
 ·unfold Ax;simp[aP,aY];exact⟨⟨b.data,h.da.1⟩,h.da.2⟩
 unfold Ax;simp[aP,aY];exact⟨⟨b.y,h.wo.1⟩,h.wo.2⟩
structure ip(X:Co)(k:Nat):Prop where
 ok:(uN X k).ok (10*k)
 bd:Bd X.U (uN X k).N.length (uN X k)
 rc:b6 (1+2*k) (uN X k)
 ms:∃n,(uN X k).mem.size=gr n
 rt:jF (uN X k)=true
def Eh(c)(prog)(m)(e:c.ok)(hp:∀x∈prog,x<=4294967295)(X)(d:X=fX c prog m)(b:jF X=true):ip X 0:=by
 subst d;refine⟨Id c prog m e hp,w7 c prog m,⟨dw.nil,(show(0:Int)<=1 from dT),(show(1:Int)<=1+2*((0:Nat):Int)from dT),?_,?_,λp hp=>(List.not_mem_nil hp).elim,?_⟩,⟨_,wE m⟩,b⟩;rotate_left 2
 ·show(prog.take _).length<=64;rw[aM];omega
 all_goals
  unfold jF at b;simp[aP,aY]at b
  first|let⟨⟨⟨⟨⟨⟨_,a⟩, _⟩, _⟩, _⟩, _⟩, _⟩:=b|let⟨⟨⟨⟨⟨_,a⟩, _⟩, _⟩, _⟩, _⟩:=b
  unfold Ax at a;simp[aP,aY]at a;exact⟨a.1.2,a.2⟩
theorem ip.next{X}{k}(h:ip X k)(l:k<=3000)(g:0<=X.U.Z∧0<=X.U.queue):ip X (k+1):=by
 have e:=EL h.ok ad h.rt;have f:uG (uN X k)=c8 (uN X k):=aa h.rt;have c:=(B1 g h.bd).1;have d:∃n,(uN X (k+1)).mem.size=gr n:=by
  let⟨n,i⟩:=h.ms;exact⟨n,(xF h.rt).2.2.trans i⟩
 have j:=(Ql e ad).k7;have a:b6 (1+2*((k+1:Nat):Int)) (uN X (k+1)):=by
  show b6 _ (uG (uN X k));rw[f,(oT:1+2*((k+1:Nat):Int)=1+2*(k:Int)+2)];exact (J6 e ad ad h.rc)
 have b:(uN X (k+1)).E (10*k+10):=by show(uG (uN X k)).E _;rwa[f]
 exact⟨by rw[(oT:10*(k+1)=10*k+10)];exact b.ok,c,a,d,CB b c a d⟩
theorem r2{X:Co}(h:ip X 0)(a:0<=X.U.Z∧0<=X.U.queue):∀k,k<=3000->ip X k
 |0,_=>h
 |k+1,b=>(r2 h a k ad).next ad a
def J'(a)(prog)(m)(C:(fX a prog m).ok 0):jF (fX a prog m)=true:=by
 have b:∀n lo c:Int,lo<=c->lo<=bV n lo c∧bV n lo c<=c:=λn lo c h=>by unfold bV;(repeat' split)<;>omega
 have g:wA (bZ a)=true:=by
  unfold wA h7 bZ;have o:=b a.u 1 2 dT;have p:=b a.Z 2 8 dT;have q:=b a.queue 1 4 dT;have r:=b a.W 1 4 dT;have t:=b a.C 2 6 dT;have D:=b a.Q 1 4 dT;have u:=b a.ways 1 2 dT;have i:(1<=(if bV a.Q 1 4=3 then 2 else bV a.Q 1 4))∧(if bV a.Q 1 4=3 then 2 else bV a.Q 1 4)<=4∧(if bV a.Q 1 4=3 then 2 else bV a.Q 1 4)≠3:=by split<;>omega
  simp only[aP,aY,rC,ge_iff_le,ne_eq];refine⟨⟨⟨⟨⟨⟨⟨⟨⟨⟨⟨λx A=>?_,b a.mode 0 2 dT⟩,o⟩,p⟩,q⟩,r⟩,t⟩,⟨i.1,i.2.1⟩⟩,i.2.2⟩,u⟩,?_⟩,?_⟩
  ·obtain⟨y,_,rfl⟩:=pG.1 A;exact b y 1 8 dT
  ·rw[aH,aM];omega
  rw[aM];omega
 have B:=pD g;have k:∀s w:Int,(s=1∨s=2∨s=4)->(w=1∨w=2)->Ax (CZ s w) { (bZ a)with Q:=s,ways:=w}=true:=by
  intro s w v z;rcases v with rfl|rfl|rfl<;>rcases z with rfl|rfl<;>rfl
 have d:(bZ a).Q=1∨(bZ a).Q=2∨(bZ a).Q=4:=by
  have:=b a.Q 1 4 dT;show(if bV a.Q 1 4=3 then 2 else bV a.Q 1 4)=1∨(if bV a.Q 1 4=3 then 2 else bV a.Q 1 4)=2∨(if bV a.Q 1 4=3 then 2 else bV a.Q 1 4)=4;split<;>omega
 have f:(bZ a).ways=1∨(bZ a).ways=2:=by
  have:=b a.ways 1 2 dT;show bV a.ways 1 2=1∨bV a.ways 1 2=2;omega
 have l:=k _ _ d f;unfold jF;have E:(fX a prog m).mem=jB m:=rfl;rw[show jB (fX a prog m).mem=(fX a prog m).mem from uw ⟨_,wE m⟩];simp only[aP,aY,rC];refine⟨⟨⟨⟨⟨⟨⟨⟨⟨⟨⟨g,?_⟩,by simp⟩,rfl⟩,?_⟩,λe j=>(List.not_mem_nil j).elim⟩,l⟩,l⟩,rfl⟩,?_⟩,?_⟩,λe j=>(List.not_mem_nil j).elim⟩
 ·show(prog.take (min prog.length 64)).length<=64;rw[aM];omega
 ·show((0:Nat):Int)<=(bZ a).Z;omega
 ·show((0:Nat):Int)<=(bZ a).queue;omega
 show((0:Nat):Int)<=(bZ a).W;omega
end Go.Proofs.YtmbhlpgmfafmbaaGreatDoor
