/- Lemmas. -/
import Derived.Test.YtdhclfgoomldfaaGreatDoorS1
import Derived.Test.YtdhclfgoomldfaaGreatDoorS20
set_option linter.all false
namespace Go.Proofs.YtdhclfgoomldfaaGreatDoor
open Go.RowKit
def g6(l:List Nat)(n:Nat):Nat:=l.getD n 0
def kT(f3 f7:Nat):Nat:=
 if f7=0 then g6 [28,30,31,32,33,34,36,37] f3 else if f7=1 then g6 [38,39,40,41,42,43,44,45] f3 else if f7=32∧f3=0 then 29 else if f7=32∧f3=5 then 35 else 0
def kj(f3 f7:Nat):Nat:=
 if f3=1 then(if f7=0 then 25 else 0)else if f3=5 then(if f7=0 then 26 else if f7=32 then 27 else 0)else g6 [19,0,20,21,22,0,23,24] f3
def fQ(o f3 f7:Nat):Nat:=
 if o=55 then 1 else if o=23 then 2 else if o=111 then 3 else if o=103 then g6 [4] f3 else if o=99 then g6 [5,6,0,0,7,8,9,10] f3
 else if o=3 then g6 [11,12,13,0,14,15] f3 else if o=35 then g6 [16,17,18] f3 else if o=19 then kj f3 f7 else if o=51 then kT f3 f7 else 0
def b3(x:Nat):Nat:=if x=15 then 46 else if x=115 then 47 else if x=1048691 then 48 else fQ (an x 0 7) (an x 12 3) (an x 25 7)
def Mt(x:Nat):x&&&127=x%128:=eV x 7
def SQ(x a s):x&&&((2 ^ s-1)*2 ^ a)=(x/2 ^ a%2 ^ s)*2 ^ a:=by
 apply Nat.eq_of_testBit_eq;intro j;rw[Nat.testBit_and,fK,fK,dX,eB,Nat.testBit_div_two_pow];by_cases h:a<=j
 ·rw[(oT:j-a+a=j)];simp[h,Bool.and_comm]
 simp[h]
def CG(x):x&&&28799=x%128+x/4096%8*4096:=by
 have h:(28799:Nat)=127 ||| ((2 ^ 3-1)*2 ^ 12):=dT;rw[h,Nat.and_or_distrib_left,Mt,SQ,Nat.or_comm,fR, <-Nat.two_pow_add_eq_or_of_lt oT];omega
def Wh(x)(a:x<4294967296):x&&&4261441663=x%128+x/4096%8*4096+x/33554432*33554432:=by
 have h:(4261441663:Nat)=28799 ||| ((2 ^ 7-1)*2 ^ 25):=dT;rw[h,Nat.and_or_distrib_left,CG,SQ,Nat.or_comm,fR _, <-Nat.two_pow_add_eq_or_of_lt oT];omega
def x'(x)(a:x<4294967296):x&&&4294967295=x:=by
 have:=eV x 32;rw[(dT:(2:Nat) ^ 32-1=4294967295)]at this;rw[this];omega
def Of(x f:Nat):Nat:=
 if f=6∨f=7 then an x 0 7
 else if f=1∨f=3 then an x 0 7+an x 12 3*4096+an x 25 7*33554432
 else if f=8 then x else an x 0 7+an x 12 3*4096
def Hh(x f)(c:x<4294967296)(g:1<=f∧f<=8):x&&&qH f=Of x f:=by
 have d:an x 25 7=x/33554432:=by unfold an;omega
 have b:an x 12 3=x/4096%8:=by unfold an;omega
 have a:an x 0 7=x%128:=by unfold an;omega
 have e:f=1∨f=2∨f=3∨f=4∨f=5∨f=6∨f=7∨f=8:=oT;rcases e with rfl|rfl|rfl|rfl|rfl|rfl|rfl|rfl
 ·show x&&&4261441663=an x 0 7+an x 12 3*4096+an x 25 7*33554432;rw[Wh x c,d,b,a]
 ·show x&&&28799=an x 0 7+an x 12 3*4096;rw[CG,b,a]
 ·show x&&&4261441663=an x 0 7+an x 12 3*4096+an x 25 7*33554432;rw[Wh x c,d,b,a]
 ·show x&&&28799=an x 0 7+an x 12 3*4096;rw[CG,b,a]
 ·show x&&&28799=an x 0 7+an x 12 3*4096;rw[CG,b,a]
 ·show x&&&127=an x 0 7;rw[Mt,a]
 ·show x&&&127=an x 0 7;rw[Mt,a]
 show x&&&4294967295=x;exact x' x c
def p4(x):an x 0 7=x%128:=by unfold an;omega
def z7{l}{n k}(h:g6 l n=k)(a:k≠0):n<l.length:=by
 unfold g6 at h;by_cases b:n<l.length
 ·exact b
 rw[aR,bE oT]at h;exact absurd h.symm a
def CH(o f3 f7 k:Nat):Nat:=
 if cW k=6∨cW k=7 then o else if cW k=1∨cW k=3 then o+f3*4096+f7*33554432 else o+f3*4096
def K4(o f3 f7)(h:fQ o f3 f7≠0):fQ o f3 f7<46∧CH o f3 f7 (fQ o f3 f7)=cg (fQ o f3 f7):=by
 revert h
 have d:∀(l:List Nat) (P:Nat->Prop),l.length<=8->(∀n,n<l.length->g6 l n≠0->P n)->g6 l f3≠0->P f3:=λl P _ e h=>e f3 (z7 rfl h) h;unfold fQ;split
 ·subst o;intro _;exact⟨dT,rfl⟩
 split
 ·subst o;intro _;exact⟨dT,rfl⟩
 split
 ·subst o;intro _;exact⟨dT,rfl⟩
 split
 ·subst o;exact d [4] (λn=>g6 [4] n<46∧CH 103 n f7 _=cg _) dT (λn b=>by
   have c:n<1:=b;have a:n=0:=oT;rcases a with rfl<;>intro h<;>first|exact absurd rfl h|exact⟨dT,rfl⟩)
 split
 ·subst o;exact d [5,6,0,0,7,8,9,10] (λn=>g6 [5,6,0,0,7,8,9,10] n<46∧CH 99 n f7 _=cg _) dT (λn b=>by
   have c:n<8:=b;have a:n=0∨n=1∨n=2∨n=3∨n=4∨n=5∨n=6∨n=7:=oT;rcases a with rfl|rfl|rfl|rfl|rfl|rfl|rfl|rfl<;>intro h<;>first|exact absurd rfl h|exact⟨dT,rfl⟩)
 split
 ·subst o;exact d [11,12,13,0,14,15] (λn=>g6 [11,12,13,0,14,15] n<46∧CH 3 n f7 _=cg _) dT (λn b=>by
   have c:n<6:=b;have a:n=0∨n=1∨n=2∨n=3∨n=4∨n=5:=oT;rcases a with rfl|rfl|rfl|rfl|rfl|rfl<;>intro h<;>first|exact absurd rfl h|exact⟨dT,rfl⟩)
 split
 ·subst o;exact d [16,17,18] (λn=>g6 [16,17,18] n<46∧CH 35 n f7 _=cg _) dT (λn b=>by
   have c:n<3:=b;have a:n=0∨n=1∨n=2:=oT;rcases a with rfl|rfl|rfl<;>intro h<;>first|exact absurd rfl h|exact⟨dT,rfl⟩)
 split
 ·subst o;unfold kj;split
  ·subst f3;split
   ·subst f7;intro _;exact⟨dT,rfl⟩
   intro h;exact absurd rfl h
  split
  ·subst f3;split
   ·subst f7;intro _;exact⟨dT,rfl⟩
   split
   ·subst f7;intro _;exact⟨dT,rfl⟩
   intro h;exact absurd rfl h
  exact d [19,0,20,21,22,0,23,24] (λn=>g6 [19,0,20,21,22,0,23,24] n<46∧CH 19 n f7 _=cg _) dT (λn b=>by
   have c:n<8:=b;have a:n=0∨n=1∨n=2∨n=3∨n=4∨n=5∨n=6∨n=7:=oT;rcases a with rfl|rfl|rfl|rfl|rfl|rfl|rfl|rfl<;>intro h<;>first|exact absurd rfl h|exact⟨dT,rfl⟩)
 split
 ·subst o;unfold kT;split
  ·subst f7;exact d [28,30,31,32,33,34,36,37] (λn=>g6 [28,30,31,32,33,34,36,37] n<46∧CH 51 n 0 _=cg _) dT (λn b=>by
    have c:n<8:=b;have a:n=0∨n=1∨n=2∨n=3∨n=4∨n=5∨n=6∨n=7:=oT;rcases a with rfl|rfl|rfl|rfl|rfl|rfl|rfl|rfl<;>intro h<;>first|exact absurd rfl h|exact⟨dT,rfl⟩)
  split
  ·subst f7;exact d [38,39,40,41,42,43,44,45] (λn=>g6 [38,39,40,41,42,43,44,45] n<46∧CH 51 n 1 _=cg _) dT (λn b=>by
    have c:n<8:=b;have a:n=0∨n=1∨n=2∨n=3∨n=4∨n=5∨n=6∨n=7:=oT;rcases a with rfl|rfl|rfl|rfl|rfl|rfl|rfl|rfl<;>intro h<;>first|exact absurd rfl h|exact⟨dT,rfl⟩)
  split
  ·rename_i h;obtain⟨rfl,rfl⟩:=h;intro _;exact⟨dT,rfl⟩
  split
  ·rename_i h;obtain⟨rfl,rfl⟩:=h;intro _;exact⟨dT,rfl⟩
  intro h;exact absurd rfl h
 intro h;exact absurd rfl h
def qh{x}(h:x≠15∧x≠115∧x≠1048691):b3 x=fQ (an x 0 7) (an x 12 3) (an x 25 7):=by
 unfold b3;rw[dZ h.1,dZ h.2.1,dZ h.2.2]
def qi{x k}(a)(h:an x 0 7=a)(n:(a≠15∧a≠115)∧a<128:=by decide)(b:∀f g,fQ a f g=k:=by exact λ_ _=>rfl):b3 x=k:=by
 have c:=p4 x;rw[qh oT,h];exact b _ _
def gn{x k}(a b)(h:an x 0 7+an x 12 3*4096=a+b*4096)(n:(a≠15∧a≠115)∧a<128:=by decide)(d:∀g,fQ a b g=k:=by exact λ_=>rfl):b3 x=k:=by
 have e:=p4 x;have c:an x 12 3=b:=oT;rw[qh oT,c,(oT:an x 0 7=a)];exact d _
def gp{x k}(a b c)(h:an x 0 7+an x 12 3*4096+an x 25 7*33554432=a+b*4096+c*33554432)(n:(a≠15∧a≠115)∧a<128∧b<8:=by decide)(f:fQ a b c=k:=by rfl):b3 x=k:=by
 have i:=p4 x;have g:=iR x 12 3;have e:an x 25 7=c:=oT;have d:an x 12 3=b:=oT;rw[qh oT,e,d,(oT:an x 0 7=a)];exact f
def Le(x k:Nat)(d:x<4294967296)(b:1<=k)(c:k<=48)(h:Of x (cW k)=cg k):b3 x=k:=by
 have a:k=1∨k=2∨k=3∨k=4∨k=5∨k=6∨k=7∨k=8∨k=9∨k=10∨k=11∨k=12∨k=13∨k=14∨k=15∨k=16∨k=17∨k=18∨k=19∨k=20∨k=21∨k=22∨k=23∨k=24∨k=25∨k=26∨k=27∨k=28∨k=29∨k=30∨k=31∨k=32∨k=33∨k=34∨k=35∨k=36∨k=37∨k=38∨k=39∨k=40∨k=41∨k=42∨k=43∨k=44∨k=45∨k=46∨k=47∨k=48:=oT;rcases a with rfl|rfl|rfl|rfl|rfl|rfl|rfl|rfl|rfl|rfl|rfl|rfl|rfl|rfl|rfl|rfl|rfl|rfl|rfl|rfl|rfl|rfl|rfl|rfl|rfl|rfl|rfl|rfl|rfl|rfl|rfl|rfl|rfl|rfl|rfl|rfl|rfl|rfl|rfl|rfl|rfl|rfl|rfl|rfl|rfl|rfl|rfl|rfl
 ·exact qi 55 h
 ·exact qi 23 h
 ·exact qi 111 h
 ·exact gn 103 0 h
 ·exact gn 99 0 h
 ·exact gn 99 1 h
 ·exact gn 99 4 h
 ·exact gn 99 5 h
 ·exact gn 99 6 h
 ·exact gn 99 7 h
 ·exact gn 3 0 h
 ·exact gn 3 1 h
 ·exact gn 3 2 h
 ·exact gn 3 4 h
 ·exact gn 3 5 h
 ·exact gn 35 0 h
 ·exact gn 35 1 h
 ·exact gn 35 2 h
 ·exact gn 19 0 h
 ·exact gn 19 2 h
 ·exact gn 19 3 h
 ·exact gn 19 4 h
 ·exact gn 19 6 h
 ·exact gn 19 7 h
 ·exact gp 19 1 0 h
 ·exact gp 19 5 0 h
 ·exact gp 19 5 32 h
 ·exact gp 51 0 0 h
 ·exact gp 51 0 32 h
 ·exact gp 51 1 0 h
 ·exact gp 51 2 0 h
 ·exact gp 51 3 0 h
 ·exact gp 51 4 0 h
 ·exact gp 51 5 0 h
 ·exact gp 51 5 32 h
 ·exact gp 51 6 0 h
 ·exact gp 51 7 0 h
 ·exact gp 51 0 1 h
 ·exact gp 51 1 1 h
 ·exact gp 51 2 1 h
 ·exact gp 51 3 1 h
 ·exact gp 51 4 1 h
 ·exact gp 51 5 1 h
 ·exact gp 51 6 1 h
 ·exact gp 51 7 1 h
 ·have h':=h;subst h';rfl
 ·have h':=h;subst h';rfl
 subst h;rfl
def SS:∀k:Nat,k<46->cW k≠8:=dT
def Lf(x)(h:b3 x≠0):b3 x<=48∧Of x (cW (b3 x))=cg (b3 x):=by
 revert h
 unfold b3;split
 ·subst x;intro _;exact⟨dT,rfl⟩
 split
 ·subst x;intro _;exact⟨dT,rfl⟩
 split
 ·subst x;intro _;exact⟨dT,rfl⟩
 intro h;obtain⟨a,b⟩:=K4 _ _ _ h;refine⟨oT,?_⟩;rw[<-b];unfold Of CH;rw[dZ (SS _ a)]
def Wi(x)(c:x<4294967296):dw x=b3 x:=by
 by_cases d:dw x=0
 ·by_cases f:b3 x=0
  ·rw[d,f]
  obtain⟨a,b⟩:=Lf x f;refine XI x _ ⟨oT,a⟩ ?_;unfold Lh;rw[Hh x _ c ⟨AY _ ⟨oT,oT⟩,sB _⟩];exact pU.2 b
 obtain⟨a,b,g⟩:=Fp x d;have e:=pU.1 g;rw[Hh x _ c ⟨AY _ ⟨oT,oT⟩,sB _⟩]at e;exact(Le x _ c a b e).symm
end Go.Proofs.YtdhclfgoomldfaaGreatDoor
