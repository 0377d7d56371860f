/- Lemmas. -/
import Derived.Test.YtlpkggpdjobpmaaGreatDoorS1
import Derived.Test.YtlpkggpdjobpmaaGreatDoorS20
set_option linter.all false
namespace Go.Proofs.YtlpkggpdjobpmaaGreatDoor
open Go.RowKit
def pickN(l:List Nat)(n:Nat):Nat:=l.getD n 0
def regR(f3 f7:Nat):Nat:=
 if f7=0 then pickN [28,30,31,32,33,34,36,37] f3 else if f7=1 then pickN [38,39,40,41,42,43,44,45] f3 else if f7=32∧f3=0 then 29 else if f7=32∧f3=5 then 35 else 0
def immR(f3 f7:Nat):Nat:=
 if f3=1 then(if f7=0 then 25 else 0)else if f3=5 then(if f7=0 then 26 else if f7=32 then 27 else 0)else pickN [19,0,20,21,22,0,23,24] f3
def refTab(o f3 f7:Nat):Nat:=
 if o=55 then 1 else if o=23 then 2 else if o=111 then 3 else if o=103 then pickN [4] f3 else if o=99 then pickN [5,6,0,0,7,8,9,10] f3
 else if o=3 then pickN [11,12,13,0,14,15] f3 else if o=35 then pickN [16,17,18] f3 else if o=19 then immR f3 f7 else if o=51 then regR f3 f7 else 0
def refOp(x:Nat):Nat:=if x=15 then 46 else if x=115 then 47 else if x=1048691 then 48 else refTab (field x 0 7) (field x 12 3) (field x 25 7)
def Mt(x:Nat):x&&&127=x%128:=eV x 7
def SQ(x a s):x&&&((2 ^ s-1)*2 ^ a)=(x/2 ^ a%2 ^ s)*2 ^ a:=by
 apply Nat.eq_of_testBit_eq;intro j;rw[Nat.testBit_and,fK,fK,dX,eB,Nat.testBit_div_two_pow];by_cases h:a<=j
 ·rw[(oT:j-a+a=j)];simp[h,Bool.and_comm]
 simp[h]
def CG(x):x&&&28799=x%128+x/4096%8*4096:=by
 have h:(28799:Nat)=127 ||| ((2 ^ 3-1)*2 ^ 12):=dT;rw[h,Nat.and_or_distrib_left,Mt,SQ,Nat.or_comm,fR, <-Nat.two_pow_add_eq_or_of_lt oT];omega
def Wh(x)(hx:x<4294967296):x&&&4261441663=x%128+x/4096%8*4096+x/33554432*33554432:=by
 have h:(4261441663:Nat)=28799 ||| ((2 ^ 7-1)*2 ^ 25):=dT;rw[h,Nat.and_or_distrib_left,CG,SQ,Nat.or_comm,fR _, <-Nat.two_pow_add_eq_or_of_lt oT];omega
def YF(x)(hx:x<4294967296):x&&&4294967295=x:=by
 have:=eV x 32;rw[(dT:(2:Nat) ^ 32-1=4294967295)]at this;rw[this];omega
def Of(x f:Nat):Nat:=
 if f=6∨f=7 then field x 0 7
 else if f=1∨f=3 then field x 0 7+field x 12 3*4096+field x 25 7*33554432
 else if f=8 then x else field x 0 7+field x 12 3*4096
def Hh(x f)(hx:x<4294967296)(hk:1<=f∧f<=8):x&&&qH f=Of x f:=by
 have e7:field x 25 7=x/33554432:=by unfold field;omega
 have e3:field x 12 3=x/4096%8:=by unfold field;omega
 have e0:field x 0 7=x%128:=by unfold field;omega
 have hc:f=1∨f=2∨f=3∨f=4∨f=5∨f=6∨f=7∨f=8:=oT;rcases hc with rfl|rfl|rfl|rfl|rfl|rfl|rfl|rfl
 ·show x&&&4261441663=field x 0 7+field x 12 3*4096+field x 25 7*33554432;rw[Wh x hx,e7,e3,e0]
 ·show x&&&28799=field x 0 7+field x 12 3*4096;rw[CG,e3,e0]
 ·show x&&&4261441663=field x 0 7+field x 12 3*4096+field x 25 7*33554432;rw[Wh x hx,e7,e3,e0]
 ·show x&&&28799=field x 0 7+field x 12 3*4096;rw[CG,e3,e0]
 ·show x&&&28799=field x 0 7+field x 12 3*4096;rw[CG,e3,e0]
 ·show x&&&127=field x 0 7;rw[Mt,e0]
 ·show x&&&127=field x 0 7;rw[Mt,e0]
 show x&&&4294967295=x;exact YF x hx
def YG(x):field x 0 7=x%128:=by unfold field;omega
def abO{l}{n k}(h:pickN l n=k)(hk:k≠0):n<l.length:=by
 unfold pickN at h;by_cases hn:n<l.length
 ·exact hn
 rw[aR,bE oT]at h;exact absurd h.symm hk
def CH(o f3 f7 k:Nat):Nat:=
 if cW k=6∨cW k=7 then o else if cW k=1∨cW k=3 then o+f3*4096+f7*33554432 else o+f3*4096
def SR(o f3 f7)(h:refTab o f3 f7≠0):refTab o f3 f7<46∧CH o f3 f7 (refTab o f3 f7)=code (refTab o f3 f7):=by
 revert h
 have p8:∀(l:List Nat) (P:Nat->Prop),l.length<=8->(∀n,n<l.length->pickN l n≠0->P n)->pickN l f3≠0->P f3:=λl P _ hP h=>hP f3 (abO rfl h) h;unfold refTab;split
 ·subst o;intro _;exact⟨dT,rfl⟩
 split
 ·subst o;intro _;exact⟨dT,rfl⟩
 split
 ·subst o;intro _;exact⟨dT,rfl⟩
 split
 ·subst o;exact p8 [4] (λn=>pickN [4] n<46∧CH 103 n f7 _=code _) dT (λn hn=>by
   have hn':n<1:=hn;have hc:n=0:=oT;rcases hc with rfl<;>intro h<;>first|exact absurd rfl h|exact⟨dT,rfl⟩)
 split
 ·subst o;exact p8 [5,6,0,0,7,8,9,10] (λn=>pickN [5,6,0,0,7,8,9,10] n<46∧CH 99 n f7 _=code _) dT (λn hn=>by
   have hn':n<8:=hn;have hc:n=0∨n=1∨n=2∨n=3∨n=4∨n=5∨n=6∨n=7:=oT;rcases hc with rfl|rfl|rfl|rfl|rfl|rfl|rfl|rfl<;>intro h<;>first|exact absurd rfl h|exact⟨dT,rfl⟩)
 split
 ·subst o;exact p8 [11,12,13,0,14,15] (λn=>pickN [11,12,13,0,14,15] n<46∧CH 3 n f7 _=code _) dT (λn hn=>by
   have hn':n<6:=hn;have hc:n=0∨n=1∨n=2∨n=3∨n=4∨n=5:=oT;rcases hc with rfl|rfl|rfl|rfl|rfl|rfl<;>intro h<;>first|exact absurd rfl h|exact⟨dT,rfl⟩)
 split
 ·subst o;exact p8 [16,17,18] (λn=>pickN [16,17,18] n<46∧CH 35 n f7 _=code _) dT (λn hn=>by
   have hn':n<3:=hn;have hc:n=0∨n=1∨n=2:=oT;rcases hc with rfl|rfl|rfl<;>intro h<;>first|exact absurd rfl h|exact⟨dT,rfl⟩)
 split
 ·subst o;unfold immR;split
  ·subst f3;split
   ·subst f7;intro _;exact⟨dT,rfl⟩
   intro h;exact absurd rfl h
  split
  ·subst f3;split
   ·subst f7;intro _;exact⟨dT,rfl⟩
   split
   ·subst f7;intro _;exact⟨dT,rfl⟩
   intro h;exact absurd rfl h
  exact p8 [19,0,20,21,22,0,23,24] (λn=>pickN [19,0,20,21,22,0,23,24] n<46∧CH 19 n f7 _=code _) dT (λn hn=>by
   have hn':n<8:=hn;have hc:n=0∨n=1∨n=2∨n=3∨n=4∨n=5∨n=6∨n=7:=oT;rcases hc with rfl|rfl|rfl|rfl|rfl|rfl|rfl|rfl<;>intro h<;>first|exact absurd rfl h|exact⟨dT,rfl⟩)
 split
 ·subst o;unfold regR;split
  ·subst f7;exact p8 [28,30,31,32,33,34,36,37] (λn=>pickN [28,30,31,32,33,34,36,37] n<46∧CH 51 n 0 _=code _) dT (λn hn=>by
    have hn':n<8:=hn;have hc:n=0∨n=1∨n=2∨n=3∨n=4∨n=5∨n=6∨n=7:=oT;rcases hc with rfl|rfl|rfl|rfl|rfl|rfl|rfl|rfl<;>intro h<;>first|exact absurd rfl h|exact⟨dT,rfl⟩)
  split
  ·subst f7;exact p8 [38,39,40,41,42,43,44,45] (λn=>pickN [38,39,40,41,42,43,44,45] n<46∧CH 51 n 1 _=code _) dT (λn hn=>by
    have hn':n<8:=hn;have hc:n=0∨n=1∨n=2∨n=3∨n=4∨n=5∨n=6∨n=7:=oT;rcases hc with rfl|rfl|rfl|rfl|rfl|rfl|rfl|rfl<;>intro h<;>first|exact absurd rfl h|exact⟨dT,rfl⟩)
  split
  ·rename_i h;obtain⟨rfl,rfl⟩:=h;intro _;exact⟨dT,rfl⟩
  split
  ·rename_i h;obtain⟨rfl,rfl⟩:=h;intro _;exact⟨dT,rfl⟩
  intro h;exact absurd rfl h
 intro h;exact absurd rfl h
def afA{x}(h:x≠15∧x≠115∧x≠1048691):refOp x=refTab (field x 0 7) (field x 12 3) (field x 25 7):=by
 unfold refOp;rw[dZ h.1,dZ h.2.1,dZ h.2.2]
def afB{x k}(a)(h:field x 0 7=a)(n:(a≠15∧a≠115)∧a<128:=by decide)(hk:∀f g,refTab a f g=k:=by exact λ_ _=>rfl):refOp x=k:=by
 have e0:=YG x;rw[afA oT,h];exact hk _ _
def ae8{x k}(a b)(h:field x 0 7+field x 12 3*4096=a+b*4096)(n:(a≠15∧a≠115)∧a<128:=by decide)(hk:∀g,refTab a b g=k:=by exact λ_=>rfl):refOp x=k:=by
 have e0:=YG x;have a2:field x 12 3=b:=oT;rw[afA oT,a2,(oT:field x 0 7=a)];exact hk _
def ae9{x k}(a b c)(h:field x 0 7+field x 12 3*4096+field x 25 7*33554432=a+b*4096+c*33554432)(n:(a≠15∧a≠115)∧a<128∧b<8:=by decide)(hk:refTab a b c=k:=by rfl):refOp x=k:=by
 have e0:=YG x;have b3:=iR x 12 3;have a3:field x 25 7=c:=oT;have a2:field x 12 3=b:=oT;rw[afA oT,a3,a2,(oT:field x 0 7=a)];exact hk
def Le(x k:Nat)(hx:x<4294967296)(h1:1<=k)(h2:k<=48)(h:Of x (cW k)=code k):refOp x=k:=by
 have hc:k=1∨k=2∨k=3∨k=4∨k=5∨k=6∨k=7∨k=8∨k=9∨k=10∨k=11∨k=12∨k=13∨k=14∨k=15∨k=16∨k=17∨k=18∨k=19∨k=20∨k=21∨k=22∨k=23∨k=24∨k=25∨k=26∨k=27∨k=28∨k=29∨k=30∨k=31∨k=32∨k=33∨k=34∨k=35∨k=36∨k=37∨k=38∨k=39∨k=40∨k=41∨k=42∨k=43∨k=44∨k=45∨k=46∨k=47∨k=48:=oT;rcases hc with rfl|rfl|rfl|rfl|rfl|rfl|rfl|rfl|rfl|rfl|rfl|rfl|rfl|rfl|rfl|rfl|rfl|rfl|rfl|rfl|rfl|rfl|rfl|rfl|rfl|rfl|rfl|rfl|rfl|rfl|rfl|rfl|rfl|rfl|rfl|rfl|rfl|rfl|rfl|rfl|rfl|rfl|rfl|rfl|rfl|rfl|rfl|rfl
 ·exact afB 55 h
 ·exact afB 23 h
 ·exact afB 111 h
 ·exact ae8 103 0 h
 ·exact ae8 99 0 h
 ·exact ae8 99 1 h
 ·exact ae8 99 4 h
 ·exact ae8 99 5 h
 ·exact ae8 99 6 h
 ·exact ae8 99 7 h
 ·exact ae8 3 0 h
 ·exact ae8 3 1 h
 ·exact ae8 3 2 h
 ·exact ae8 3 4 h
 ·exact ae8 3 5 h
 ·exact ae8 35 0 h
 ·exact ae8 35 1 h
 ·exact ae8 35 2 h
 ·exact ae8 19 0 h
 ·exact ae8 19 2 h
 ·exact ae8 19 3 h
 ·exact ae8 19 4 h
 ·exact ae8 19 6 h
 ·exact ae8 19 7 h
 ·exact ae9 19 1 0 h
 ·exact ae9 19 5 0 h
 ·exact ae9 19 5 32 h
 ·exact ae9 51 0 0 h
 ·exact ae9 51 0 32 h
 ·exact ae9 51 1 0 h
 ·exact ae9 51 2 0 h
 ·exact ae9 51 3 0 h
 ·exact ae9 51 4 0 h
 ·exact ae9 51 5 0 h
 ·exact ae9 51 5 32 h
 ·exact ae9 51 6 0 h
 ·exact ae9 51 7 0 h
 ·exact ae9 51 0 1 h
 ·exact ae9 51 1 1 h
 ·exact ae9 51 2 1 h
 ·exact ae9 51 3 1 h
 ·exact ae9 51 4 1 h
 ·exact ae9 51 5 1 h
 ·exact ae9 51 6 1 h
 ·exact ae9 51 7 1 h
 ·have h':=h;subst h';rfl
 ·have h':=h;subst h';rfl
 have h':=h;subst h';rfl
def SS:∀k:Nat,k<46->cW k≠8:=dT
def Lf(x)(h:refOp x≠0):refOp x<=48∧Of x (cW (refOp x))=code (refOp x):=by
 revert h
 unfold refOp;split
 ·subst x;intro _;exact⟨dT,rfl⟩
 split
 ·subst x;intro _;exact⟨dT,rfl⟩
 split
 ·subst x;intro _;exact⟨dT,rfl⟩
 intro h;obtain⟨h1,h2⟩:=SR _ _ _ h;refine⟨oT,?_⟩;have h8:=SS _ h1;rw[<-h2];unfold Of CH;rw[dZ h8]
def Wi(x)(hx:x<4294967296):opOf x=refOp x:=by
 by_cases h0:opOf x=0
 ·by_cases hr:refOp x=0
  ·rw[h0,hr]
  obtain⟨h1,h2⟩:=Lf x hr;refine XI x _ ⟨oT,h1⟩ ?_;unfold Lh;rw[Hh x _ hx ⟨AY _ ⟨oT,oT⟩,sB _⟩];exact pU.2 h2
 obtain⟨h1,h2,h3⟩:=Fp x h0;have h4:=pU.1 h3;rw[Hh x _ hx ⟨AY _ ⟨oT,oT⟩,sB _⟩]at h4;exact(Le x _ hx h1 h2 h4).symm
end Go.Proofs.YtlpkggpdjobpmaaGreatDoor
