import Derived.Test.YtiaekocjeinkjaaGreatDoorS19
set_option linter.all false
namespace Go.Proofs.YtiaekocjeinkjaaGreatDoor
open Go.RowKit
def hK(l:List Nat)(n:Nat):Nat:=l.getD n 0
def k'(f3 f7:Nat):Nat:=
 if f7=0 then hK [28,30,31,32,33,34,36,37] f3 else if f7=1 then hK [38,39,40,41,42,43,44,45] f3 else if f7=32/\f3=0 then 29 else if f7=32/\f3=5 then 35 else 0
def ks(f3 f7:Nat):Nat:=
 if f3=1 then(if f7=0 then 25 else 0)else if f3=5 then(if f7=0 then 26 else if f7=32 then 27 else 0)else hK [19,0,20,21,22,0,23,24] f3
def gl(o f3 f7:Nat):Nat:=
 if o=55 then 1 else if o=23 then 2 else if o=111 then 3 else if o=103 then hK [4] f3 else if o=99 then hK [5,6,0,0,7,8,9,10] f3
 else if o=3 then hK [11,12,13,0,14,15] f3 else if o=35 then hK [16,17,18] f3 else if o=19 then ks f3 f7 else if o=51 then k' f3 f7 else 0
def ca(x:Nat):Nat:=if x=15 then 46 else if x=115 then 47 else if x=1048691 then 48 else gl (ar x 0 7) (ar x 12 3) (ar x 25 7)
def Mt(x:Nat):x&&&127=x%128:=eV x 7
def SQ(x a s:Nat):x&&&((2 ^ s-1)*2 ^ a)=(x/2 ^ a%2 ^ s)*2 ^ a:=by
 apply Nat.eq_of_testBit_eq;intro j;rw[Nat.testBit_and,fK,fK,dX,eB,Nat.testBit_div_two_pow];by_cases h:a<=j
 .rw[(oT:j-a+a=j)];simp[h,Bool.and_comm]
 simp[h]
def CG(x:Nat):x&&&28799=x%128+x/4096%8*4096:=by
 have h:(28799:Nat)=127 ||| ((2 ^ 3-1)*2 ^ 12):=dT;rw[h,Nat.and_or_distrib_left,Mt,SQ,Nat.or_comm,fR, <-Nat.two_pow_add_eq_or_of_lt oT];omega
def Wh(x:Nat)(a:x<4294967296):x&&&4261441663=x%128+x/4096%8*4096+x/33554432*33554432:=by
 have h:(4261441663:Nat)=28799 ||| ((2 ^ 7-1)*2 ^ 25):=dT;rw[h,Nat.and_or_distrib_left,CG,SQ,Nat.or_comm,fR (x/2 ^ 25%2 ^ 7), <-Nat.two_pow_add_eq_or_of_lt oT];omega
def xF(x:Nat)(a:x<4294967296):x&&&4294967295=x:=by
 have:=eV x 32;rw[(dT:(2:Nat) ^ 32-1=4294967295)]at this;rw[this];omega
def Of(x f:Nat):Nat:=
 if f=6\/f=7 then ar x 0 7
 else if f=1\/f=3 then ar x 0 7+ar x 12 3*4096+ar x 25 7*33554432
 else if f=8 then x else ar x 0 7+ar x 12 3*4096
def Hh(x f:Nat)(c:x<4294967296)(g:1<=f/\f<=8):x&&&qH f=Of x f:=by
 have d:ar x 25 7=x/33554432:=by unfold ar;omega
 have b:ar x 12 3=x/4096%8:=by unfold ar;omega
 have a:ar x 0 7=x%128:=by unfold ar;omega
 have e:f=1\/f=2\/f=3\/f=4\/f=5\/f=6\/f=7\/f=8:=oT;rcases e with rfl|rfl|rfl|rfl|rfl|rfl|rfl|rfl
 .show x&&&4261441663=ar x 0 7+ar x 12 3*4096+ar x 25 7*33554432;rw[Wh x c,d,b,a]
 .show x&&&28799=ar x 0 7+ar x 12 3*4096;rw[CG,b,a]
 .show x&&&4261441663=ar x 0 7+ar x 12 3*4096+ar x 25 7*33554432;rw[Wh x c,d,b,a]
 .show x&&&28799=ar x 0 7+ar x 12 3*4096;rw[CG,b,a]
 .show x&&&28799=ar x 0 7+ar x 12 3*4096;rw[CG,b,a]
 .show x&&&127=ar x 0 7;rw[Mt,a]
 .show x&&&127=ar x 0 7;rw[Mt,a]
 show x&&&4294967295=x;exact xF x c
def pm(x:Nat):ar x 0 7=x%128:=by unfold ar;omega
def zx{l:List Nat}{n k:Nat}(h:hK l n=k)(a:k≠0):n<l.length:=by
 unfold hK at h;by_cases b:n<l.length
 .exact b
 rw[aR,bE oT]at h;exact absurd h.symm a
def CH(o f3 f7 k:Nat):Nat:=
 if cW k=6\/cW k=7 then o else if cW k=1\/cW k=3 then o+f3*4096+f7*33554432 else o+f3*4096
def SR(o f3 f7:Nat)(h:gl o f3 f7≠0):gl o f3 f7<46/\CH o f3 f7 (gl o f3 f7)=cm (gl o f3 f7):=by
 revert h
 have d:∀(l:List Nat) (P:Nat->Prop),l.length<=8->(∀n,n<l.length->hK l n≠0->P n)->hK l f3≠0->P f3:=λl P _ e h=>e f3 (zx R h) h;unfold gl;split
 .subst o;intro _;exact⟨dT,R⟩
 split
 .subst o;intro _;exact⟨dT,R⟩
 split
 .subst o;intro _;exact⟨dT,R⟩
 split
 .subst o;exact d [4] (λn=>hK [4] n<46/\CH 103 n f7 (hK [4] n)=cm (hK [4] n)) dT (λn b=>by
   have c:n<1:=b;have a:n=0:=oT;rcases a with rfl<;>intro h<;>first|exact absurd rfl h|exact⟨dT,rfl⟩)
 split
 .subst o;exact d [5,6,0,0,7,8,9,10] (λn=>hK [5,6,0,0,7,8,9,10] n<46/\CH 99 n f7 (hK [5,6,0,0,7,8,9,10] n)=cm (hK [5,6,0,0,7,8,9,10] n)) dT (λn b=>by
   have c:n<8:=b;have a:n=0\/n=1\/n=2\/n=3\/n=4\/n=5\/n=6\/n=7:=oT;rcases a with rfl|rfl|rfl|rfl|rfl|rfl|rfl|rfl<;>intro h<;>first|exact absurd rfl h|exact⟨dT,rfl⟩)
 split
 .subst o;exact d [11,12,13,0,14,15] (λn=>hK [11,12,13,0,14,15] n<46/\CH 3 n f7 (hK [11,12,13,0,14,15] n)=cm (hK [11,12,13,0,14,15] n)) dT (λn b=>by
   have c:n<6:=b;have a:n=0\/n=1\/n=2\/n=3\/n=4\/n=5:=oT;rcases a with rfl|rfl|rfl|rfl|rfl|rfl<;>intro h<;>first|exact absurd rfl h|exact⟨dT,rfl⟩)
 split
 .subst o;exact d [16,17,18] (λn=>hK [16,17,18] n<46/\CH 35 n f7 (hK [16,17,18] n)=cm (hK [16,17,18] n)) dT (λn b=>by
   have c:n<3:=b;have a:n=0\/n=1\/n=2:=oT;rcases a with rfl|rfl|rfl<;>intro h<;>first|exact absurd rfl h|exact⟨dT,rfl⟩)
 split
 .subst o;unfold ks;split
  .subst f3;split
   .subst f7;intro _;exact⟨dT,R⟩
   intro h;exact absurd R h
  split
  .subst f3;split
   .subst f7;intro _;exact⟨dT,R⟩
   split
   .subst f7;intro _;exact⟨dT,R⟩
   intro h;exact absurd R h
  exact d [19,0,20,21,22,0,23,24] (λn=>hK [19,0,20,21,22,0,23,24] n<46/\CH 19 n f7 (hK [19,0,20,21,22,0,23,24] n)=cm (hK [19,0,20,21,22,0,23,24] n)) dT (λn b=>by
   have c:n<8:=b;have a:n=0\/n=1\/n=2\/n=3\/n=4\/n=5\/n=6\/n=7:=oT;rcases a with rfl|rfl|rfl|rfl|rfl|rfl|rfl|rfl<;>intro h<;>first|exact absurd rfl h|exact⟨dT,rfl⟩)
 split
 .subst o;unfold k';split
  .subst f7;exact d [28,30,31,32,33,34,36,37] (λn=>hK [28,30,31,32,33,34,36,37] n<46/\CH 51 n 0 (hK [28,30,31,32,33,34,36,37] n)=cm (hK [28,30,31,32,33,34,36,37] n)) dT (λn b=>by
    have c:n<8:=b;have a:n=0\/n=1\/n=2\/n=3\/n=4\/n=5\/n=6\/n=7:=oT;rcases a with rfl|rfl|rfl|rfl|rfl|rfl|rfl|rfl<;>intro h<;>first|exact absurd rfl h|exact⟨dT,rfl⟩)
  split
  .subst f7;exact d [38,39,40,41,42,43,44,45] (λn=>hK [38,39,40,41,42,43,44,45] n<46/\CH 51 n 1 (hK [38,39,40,41,42,43,44,45] n)=cm (hK [38,39,40,41,42,43,44,45] n)) dT (λn b=>by
    have c:n<8:=b;have a:n=0\/n=1\/n=2\/n=3\/n=4\/n=5\/n=6\/n=7:=oT;rcases a with rfl|rfl|rfl|rfl|rfl|rfl|rfl|rfl<;>intro h<;>first|exact absurd rfl h|exact⟨dT,rfl⟩)
  split
  .rename_i h;obtain⟨rfl,rfl⟩:=h;intro _;exact⟨dT,R⟩
  split
  .rename_i h;obtain⟨rfl,rfl⟩:=h;intro _;exact⟨dT,R⟩
  intro h;exact absurd R h
 intro h;exact absurd R h
def p7{x:Nat}(h:x≠15/\x≠115/\x≠1048691):ca x=gl (ar x 0 7) (ar x 12 3) (ar x 25 7):=by
 unfold ca;rw[dZ h.1,dZ h.2.1,dZ h.2.2]
def p8{x k:Nat}(a:Nat)(h:ar x 0 7=a)(n:(a≠15∧a≠115)∧a<128:=by decide)(b:∀f g,gl a f g=k:=by exact λ_ _=>rfl):ca x=k:=by
 have c:=pm x;rw[p7 oT,h];exact b _ _
def gX{x k:Nat}(a b:Nat)(h:ar x 0 7+ar x 12 3*4096=a+b*4096)(n:(a≠15∧a≠115)∧a<128:=by decide)(d:∀g,gl a b g=k:=by exact λ_=>rfl):ca x=k:=by
 have e:=pm x;have c:ar x 12 3=b:=oT;rw[p7 oT,c,(oT:ar x 0 7=a)];exact d _
def g0{x k:Nat}(a b c:Nat)(h:ar x 0 7+ar x 12 3*4096+ar x 25 7*33554432=a+b*4096+c*33554432)(n:(a≠15∧a≠115)∧a<128∧b<8:=by decide)(f:gl a b c=k:=by rfl):ca x=k:=by
 have i:=pm x;have g:ar x 12 3<8:=iR x 12 3;have e:ar x 25 7=c:=oT;have d:ar x 12 3=b:=oT;rw[p7 oT,e,d,(oT:ar x 0 7=a)];exact f
def Le(x k:Nat)(d:x<4294967296)(b:1<=k)(c:k<=48)(h:Of x (cW k)=cm k):ca x=k:=by
 have a:k=1\/k=2\/k=3\/k=4\/k=5\/k=6\/k=7\/k=8\/k=9\/k=10\/k=11\/k=12\/k=13\/k=14\/k=15\/k=16\/k=17\/k=18\/k=19\/k=20\/k=21\/k=22\/k=23\/k=24\/k=25\/k=26\/k=27\/k=28\/k=29\/k=30\/k=31\/k=32\/k=33\/k=34\/k=35\/k=36\/k=37\/k=38\/k=39\/k=40\/k=41\/k=42\/k=43\/k=44\/k=45\/k=46\/k=47\/k=48:=oT;rcases a with rfl|rfl|rfl|rfl|rfl|rfl|rfl|rfl|rfl|rfl|rfl|rfl|rfl|rfl|rfl|rfl|rfl|rfl|rfl|rfl|rfl|rfl|rfl|rfl|rfl|rfl|rfl|rfl|rfl|rfl|rfl|rfl|rfl|rfl|rfl|rfl|rfl|rfl|rfl|rfl|rfl|rfl|rfl|rfl|rfl|rfl|rfl|rfl
 .exact p8 55 h
 .exact p8 23 h
 .exact p8 111 h
 .exact gX 103 0 h
 .exact gX 99 0 h
 .exact gX 99 1 h
 .exact gX 99 4 h
 .exact gX 99 5 h
 .exact gX 99 6 h
 .exact gX 99 7 h
 .exact gX 3 0 h
 .exact gX 3 1 h
 .exact gX 3 2 h
 .exact gX 3 4 h
 .exact gX 3 5 h
 .exact gX 35 0 h
 .exact gX 35 1 h
 .exact gX 35 2 h
 .exact gX 19 0 h
 .exact gX 19 2 h
 .exact gX 19 3 h
 .exact gX 19 4 h
 .exact gX 19 6 h
 .exact gX 19 7 h
 .exact g0 19 1 0 h
 .exact g0 19 5 0 h
 .exact g0 19 5 32 h
 .exact g0 51 0 0 h
 .exact g0 51 0 32 h
 .exact g0 51 1 0 h
 .exact g0 51 2 0 h
 .exact g0 51 3 0 h
 .exact g0 51 4 0 h
 .exact g0 51 5 0 h
 .exact g0 51 5 32 h
 .exact g0 51 6 0 h
 .exact g0 51 7 0 h
 .exact g0 51 0 1 h
 .exact g0 51 1 1 h
 .exact g0 51 2 1 h
 .exact g0 51 3 1 h
 .exact g0 51 4 1 h
 .exact g0 51 5 1 h
 .exact g0 51 6 1 h
 .exact g0 51 7 1 h
 .have h':x=15:=h;subst h';rfl
 .have h':x=115:=h;subst h';rfl
 have h':x=1048691:=h;subst h';rfl
def SS:∀k:Nat,k<46->cW k≠8:=dT
def Lf(x:Nat)(h:ca x≠0):ca x<=48/\Of x (cW (ca x))=cm (ca x):=by
 revert h
 unfold ca;split
 .subst x;intro _;exact⟨dT,R⟩
 split
 .subst x;intro _;exact⟨dT,R⟩
 split
 .subst x;intro _;exact⟨dT,R⟩
 intro h;obtain⟨a,b⟩:=SR _ _ _ h;refine⟨oT,?_⟩;have c:=SS _ a;rw[<-b];unfold Of CH;rw[dZ c]
def Wi(x:Nat)(c:x<4294967296):dq x=ca x:=by
 by_cases d:dq x=0
 .by_cases f:ca x=0
  .rw[d,f]
  obtain⟨a,b⟩:=Lf x f;refine XI x _ ⟨oT,a⟩ ?_;unfold Lh;rw[Hh x _ c ⟨AY _ ⟨oT,oT⟩,sB _⟩];exact pU.2 b
 obtain⟨a,b,g⟩:=Fp x d;have e:x&&&qH (cW (dq x))=cm (dq x):=pU.1 g;rw[Hh x _ c ⟨AY _ ⟨oT,oT⟩,sB _⟩]at e;exact(Le x _ c a b e).symm
def jp(l:List Nat):Nat:=l.foldr (λb v=>2*v+b) 0
def Jr(b:Nat)(l:List Nat):jp (b::l)=2*jp l+b:=rfl
theorem SM:∀(l:List Nat),(∀b∈l,b<2)->jp l<2 ^ l.length
 |[],_=>by simp[jp]
 |b::l,h=>by
  have d:=SM l λc a=>h c (by simp[a]);have e:=h b (by simp);rw[Jr,bN,Nat.pow_succ];omega
theorem Oc:∀(l:List Nat),(∀b∈l,b<2)->∀j,(jp l).testBit j=decide (l.getD j 0=1)
 |[],_,j=>by simp[jp]
 |b::l,a,0=>by
  have d:=a b (by simp);rw[Jr,KB];simp only[Nat.pow_zero,qU,List.getD_cons_zero];congr 1
  rw[(oT:(2*jp l+b)%2=b)]
 |b::l,a,j+1=>by
  have d:=a b (by simp);rw[Jr,Nat.testBit_succ,(oT:(2*jp l+b)/2=jp l),Oc l (λc e=>a c (by simp[e])) j,List.getD_cons_succ]
def Ms(x a size:Nat):List Nat:=(List.range size).map λi=>x/2 ^ (a+i)%2
def Od(x a size:Nat):∀b∈Ms x a size,b<2:=by
 intro b c;obtain⟨i, -,rfl⟩:=pG.1 c;exact aQ _ dT
def SN(x a size:Nat):(Ms x a size).length=size:=by simp[Ms]
def xy(x a size:Nat):jp (Ms x a size)=ar x a size:=by
 apply Nat.eq_of_testBit_eq;intro j;rw[Oc _ (Od x a size),UG];by_cases h:j<size
 .have:(Ms x a size).getD j 0=x/2 ^ (a+j)%2:=by
   unfold Ms;rw[aR,aX,eZ h];rfl
  rw[this,KB,gJ j a];simp[h]
 have:(Ms x a size).getD j 0=0:=by
  rw[aR,bE (by rw[SN];omega)];rfl
 rw[this];simp[h]
def yN(x size i:Nat):Nat:=if i<size then x/2 ^ i%2 else x/2 ^ (size-1)%2
def Pp(x size n:Nat):List Nat:=(List.range n).map (yN x size)
def Oe(x size i:Nat):yN x size i<2:=by
 unfold yN;split<;>exact aQ _ dT
def Js(x size n:Nat):∀b∈Pp x size n,b<2:=by
 intro b a;obtain⟨i, -,rfl⟩:=pG.1 a;exact Oe x size i
def SO(x size n:Nat):(Pp x size n).length=n:=by simp[Pp]
def SP(x s:Nat)(a:s<=32):cv x s<4294967296:=Ia x s a
def xz(x s:Nat)(d:1<=s)(a:s<=32):jp (Pp x s 32)=cv x s:=by
 have c:=SM _ (Js x s 32);rw[SO]at c;refine uh c (SP x s a) λj b=>?_;rw[Oc _ (Js x s 32),XF x s j d a];have:(Pp x s 32).getD j 0=yN x s j:=by
  unfold Pp;rw[aR,aX,eZ b];rfl
 rw[this];unfold yN;by_cases h:j<s
 .rw[aa h,aa h,KB]
 rw[dZ h,dZ h,KB];simp[b]
def p4(x f:Nat):Nat:=
 if f=2 then cv (ar x 20 12) 12
 else if f=4 then cv (ar x 7 5+32*ar x 25 7) 12
 else if f=5 then cv (2*ar x 8 4+32*ar x 25 6+2048*ar x 7 1+4096*ar x 31 1) 13
 else if f=6 then 4096*ar x 12 20
 else if f=7 then cv (2*ar x 21 10+2048*ar x 20 1+4096*ar x 12 8+1048576*ar x 31 1) 21
 else if f=3 then ar x 20 5 else 0
def nD(x a s v:Nat)(b:x<2 ^ a)(c:v<2 ^ s):bo x a s v=x+2 ^ a*v:=by
 unfold bo;rw[Nat.div_eq_of_lt (e5 b (bU oT oT)),jM b,jM c,Nat.mul_zero,bJ,gJ]
def zw(x f:Nat)(g:f<=8):EG f x=p4 x f:=by
 have e:f=0\/f=1\/f=2\/f=3\/f=4\/f=5\/f=6\/f=7\/f=8:=oT;rcases e with rfl|rfl|rfl|rfl|rfl|rfl|rfl|rfl|rfl
 .simp[EG,p4,rZ,eQ,xH,qN,cv]
 .rfl
 .have a:=iR x 20 12;show cv ((bo 0 0 12 (ar x 20 12))*2 ^ 0%4294967296) 12=cv (ar x 20 12) 12;rw[nD _ _ _ _ oT a];congr 1;omega
 .have a:=iR x 20 5;show(bo 0 0 5 (ar x 20 5))*2 ^ 0%4294967296=ar x 20 5;rw[nD _ _ _ _ oT a];omega
 .have a:=iR x 7 5;have b:=iR x 25 7;show cv ((bo (bo 0 0 5 (ar x 7 5)) 5 7 (ar x 25 7))*2 ^ 0%4294967296) 12=cv (ar x 7 5+32*ar x 25 7) 12;rw[nD 0 0 5 _ oT a,nD _ 5 7 _ oT b];congr 1;omega
 .have a:=iR x 8 4;have b:=iR x 25 6;have c:=iR x 7 1;have d:=iR x 31 1;show cv ((bo (bo (bo (bo 0 0 4 (ar x 8 4)) 4 6 (ar x 25 6)) 10 1 (ar x 7 1)) 11 1 (ar x 31 1))*2 ^ 1%4294967296) 13=cv (2*ar x 8 4+32*ar x 25 6+2048*ar x 7 1+4096*ar x 31 1) 13;rw[nD 0 0 4 _ oT a,nD _ 4 6 _ oT b,nD _ 10 1 _ oT c,nD _ 11 1 _ oT d];congr 1;omega
 .have a:=iR x 12 20;show cv ((bo 0 0 20 (ar x 12 20))*2 ^ 12%4294967296) 32=4096*ar x 12 20;rw[nD 0 0 20 _ oT a];have:cv ((0+2 ^ 0*ar x 12 20)*2 ^ 12%4294967296) 32=(0+2 ^ 0*ar x 12 20)*2 ^ 12%4294967296:=by
   unfold cv;rw[jM (oT:(0+2 ^ 0*ar x 12 20)*2 ^ 12%4294967296<2 ^ 32)];split<;>omega
  rw[this];omega
 .have a:=iR x 21 10;have b:=iR x 20 1;have c:=iR x 12 8;have d:=iR x 31 1;show cv ((bo (bo (bo (bo 0 0 10 (ar x 21 10)) 10 1 (ar x 20 1)) 11 8 (ar x 12 8)) 19 1 (ar x 31 1))*2 ^ 1%4294967296) 21=cv (2*ar x 21 10+2048*ar x 20 1+4096*ar x 12 8+1048576*ar x 31 1) 21;rw[nD 0 0 10 _ oT a,nD _ 10 1 _ oT b,nD _ 11 8 _ oT c,nD _ 19 1 _ oT d];congr 1;omega
 rfl
end Go.Proofs.YtiaekocjeinkjaaGreatDoor
