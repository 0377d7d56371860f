/- Lemmas. -/
import Derived.Test.YtdhclfgoomldfaaGreatDoorS1
import Derived.Test.YtdhclfgoomldfaaGreatDoorS25
set_option linter.all false
namespace Go.Proofs.YtdhclfgoomldfaaGreatDoor
open Go.RowKit
def i_(l:List Nat):Nat:=l.foldr (λb v=>2*v+b) 0
def Jr(b:Nat)(l:List Nat):i_ (b::l)=2*i_ l+b:=rfl
theorem SM:∀(l:List Nat),(∀b∈l,b<2)->i_ l<2 ^ l.length
 |[],_=>by simp[i_]
 |b::l,h=>by
  have d:=SM l λc a=>h c (by simp[a]);have e:=h b (by simp);rw[Jr,bN,Nat.pow_succ];omega
theorem Oc:∀(l:List Nat),(∀b∈l,b<2)->∀j,(i_ l).testBit j=decide (l.getD j 0=1)
 |[],_,j=>by simp[i_]
 |b::l,a,0=>by
  have d:=a b (by simp);rw[Jr,KB];simp only[Nat.pow_zero,qU,List.getD_cons_zero];congr 1
  rw[(oT:(2*i_ l+b)%2=b)]
 |b::l,a,j+1=>by
  have d:=a b (by simp);rw[Jr,Nat.testBit_succ,(oT:(2*i_ l+b)/2=i_ l),Oc l (λc e=>a c (by simp[e])) j,List.getD_cons_succ]
def Ms(x a size:Nat):List Nat:=(List.range size).map λi=>x/2 ^ (a+i)%2
def Od(x a size):∀b∈Ms x a size,b<2:=by
 intro b c;obtain⟨i, -,rfl⟩:=pG.1 c;exact aQ _ dT
def SN(x a size):(Ms x a size).length=size:=by simp[Ms]
def x9(x a size):i_ (Ms x a size)=an x a size:=by
 apply Nat.eq_of_testBit_eq;intro j;rw[Oc _ (Od x a size),UG];by_cases h:j<size
 ·have:(Ms x a size).getD j 0=x/2 ^ (a+j)%2:=by
   unfold Ms;rw[aR,aX,eZ h];rfl
  rw[this,KB,gJ j a];simp[h]
 have:(Ms x a size).getD j 0=0:=by
  rw[aR,bE (by rw[SN];omega)];rfl
 rw[this];simp[h]
def yN(x size i:Nat):Nat:=if i<size then x/2 ^ i%2 else x/2 ^ (size-1)%2
def Pp(x size n:Nat):List Nat:=(List.range n).map (yN x size)
def Oe(x size i):yN x size i<2:=by
 unfold yN;split<;>exact aQ _ dT
def Js(x size n):∀b∈Pp x size n,b<2:=by
 intro b a;obtain⟨i, -,rfl⟩:=pG.1 a;exact Oe x size i
def SO(x size n):(Pp x size n).length=n:=by simp[Pp]
def SP(x s:Nat)(a:s<=32):cp x s<4294967296:=Ia x s a
def x_(x s)(d:1<=s)(a:s<=32):i_ (Pp x s 32)=cp x s:=by
 have c:=SM _ (Js x s 32);rw[SO]at c;refine ul c (SP x s a) λj b=>?_;rw[Oc _ (Js x s 32),XF x s j d a];have:(Pp x s 32).getD j 0=yN x s j:=by
  unfold Pp;rw[aR,aX,eZ b];rfl
 rw[this];unfold yN;by_cases h:j<s
 ·rw[aa h,aa h,KB]
 rw[dZ h,dZ h,KB];simp[b]
def qe(x f:Nat):Nat:=
 if f=2 then cp (an x 20 12) 12
 else if f=4 then cp (an x 7 5+32*an x 25 7) 12
 else if f=5 then cp (2*an x 8 4+32*an x 25 6+2048*an x 7 1+4096*an x 31 1) 13
 else if f=6 then 4096*an x 12 20
 else if f=7 then cp (2*an x 21 10+2048*an x 20 1+4096*an x 12 8+1048576*an x 31 1) 21
 else if f=3 then an x 20 5 else 0
def nD(x a s v)(b:x<2 ^ a)(c:v<2 ^ s):bi x a s v=x+2 ^ a*v:=by
 unfold bi;rw[Nat.div_eq_of_lt (ep b (bU oT oT)),jM b,jM c,Nat.mul_zero,bJ,gJ]
def z6(x f)(g:f<=8):EG f x=qe x f:=by
 have e:f=0∨f=1∨f=2∨f=3∨f=4∨f=5∨f=6∨f=7∨f=8:=oT;rcases e with rfl|rfl|rfl|rfl|rfl|rfl|rfl|rfl|rfl
 ·simp[EG,qe,rZ,eQ,xH,qN,cp]
 ·rfl
 ·have a:=iR x 20 12;show cp ((bi 0 0 12 (an x 20 12))*2 ^ 0%4294967296) 12=cp (an x 20 12) 12;rw[nD _ _ _ _ oT a];congr 1;omega
 ·have a:=iR x 20 5;show(bi 0 0 5 (an x 20 5))*2 ^ 0%4294967296=an x 20 5;rw[nD _ _ _ _ oT a];omega
 ·have a:=iR x 7 5;have b:=iR x 25 7;show cp ((bi (bi 0 0 5 (an x 7 5)) 5 7 (an x 25 7))*2 ^ 0%4294967296) 12=cp (an x 7 5+32*an x 25 7) 12;rw[nD 0 0 5 _ oT a,nD _ 5 7 _ oT b];congr 1;omega
 ·have a:=iR x 8 4;have b:=iR x 25 6;have c:=iR x 7 1;have d:=iR x 31 1;show cp ((bi (bi (bi (bi 0 0 4 (an x 8 4)) 4 6 (an x 25 6)) 10 1 (an x 7 1)) 11 1 (an x 31 1))*2 ^ 1%4294967296) 13=cp (2*an x 8 4+32*an x 25 6+2048*an x 7 1+4096*an x 31 1) 13;rw[nD 0 0 4 _ oT a,nD _ 4 6 _ oT b,nD _ 10 1 _ oT c,nD _ 11 1 _ oT d];congr 1;omega
 ·have a:=iR x 12 20;show cp ((bi 0 0 20 (an x 12 20))*2 ^ 12%4294967296) 32=4096*an x 12 20;rw[nD 0 0 20 _ oT a];have:cp ((0+2 ^ 0*an x 12 20)*2 ^ 12%4294967296) 32=(0+2 ^ 0*an x 12 20)*2 ^ 12%4294967296:=by
   unfold cp;rw[jM (oT:(0+2 ^ 0*an x 12 20)*2 ^ 12%4294967296<2 ^ 32)];split<;>omega
  rw[this];omega
 ·have a:=iR x 21 10;have b:=iR x 20 1;have c:=iR x 12 8;have d:=iR x 31 1;show cp ((bi (bi (bi (bi 0 0 10 (an x 21 10)) 10 1 (an x 20 1)) 11 8 (an x 12 8)) 19 1 (an x 31 1))*2 ^ 1%4294967296) 21=cp (2*an x 21 10+2048*an x 20 1+4096*an x 12 8+1048576*an x 31 1) 21;rw[nD 0 0 10 _ oT a,nD _ 10 1 _ oT b,nD _ 11 8 _ oT c,nD _ 19 1 _ oT d];congr 1;omega
 rfl
end Go.Proofs.YtdhclfgoomldfaaGreatDoor
