/- Lemmas. -/
import Derived.Test.YtlpkggpdjobpmaaGreatDoorS1
import Derived.Test.YtlpkggpdjobpmaaGreatDoorS25
set_option linter.all false
namespace Go.Proofs.YtlpkggpdjobpmaaGreatDoor
open Go.RowKit
def ofN(l:List Nat):Nat:=l.foldr (λb v=>2*v+b) 0
def Jr(b:Nat)(l:List Nat):ofN (b::l)=2*ofN l+b:=rfl
theorem SM:∀(l:List Nat),(∀b∈l,b<2)->ofN l<2 ^ l.length
 |[],_=>by simp[ofN]
 |b::l,h=>by
  have h1:=SM l λc hc=>h c (by simp[hc]);have h2:=h b (by simp);rw[Jr,bN,Nat.pow_succ];omega
theorem Oc:∀(l:List Nat),(∀b∈l,b<2)->∀j,(ofN l).testBit j=decide (l.getD j 0=1)
 |[],_,j=>by simp[ofN]
 |b::l,hl,0=>by
  have h1:=hl b (by simp);rw[Jr,KB];simp only[Nat.pow_zero,qU,List.getD_cons_zero];congr 1
  rw[(oT:(2*ofN l+b)%2=b)]
 |b::l,hl,j+1=>by
  have h1:=hl b (by simp);rw[Jr,Nat.testBit_succ,(oT:(2*ofN l+b)/2=ofN l),Oc l (λc hc=>hl c (by simp[hc])) j,List.getD_cons_succ]
def Ms(x a size:Nat):List Nat:=(List.range size).map λi=>x/2 ^ (a+i)%2
def Od(x a size):∀b∈Ms x a size,b<2:=by
 intro b hb;obtain⟨i, -,rfl⟩:=pG.1 hb;exact aQ _ dT
def SN(x a size):(Ms x a size).length=size:=by simp[Ms]
def YD(x a size):ofN (Ms x a size)=field x a size:=by
 apply Nat.eq_of_testBit_eq;intro j;rw[Oc _ (Od x a size),UG];by_cases h:j<size
 ·have:(Ms x a size).getD j 0=x/2 ^ (a+j)%2:=by
   unfold Ms;rw[aR,aX,eZ h];rfl
  rw[this,KB,gJ j a];simp[h]
 have:(Ms x a size).getD j 0=0:=by
  rw[aR,bE (by rw[SN];omega)];rfl
 rw[this];simp[h]
def yN(x size i:Nat):Nat:=if i<size then x/2 ^ i%2 else x/2 ^ (size-1)%2
def Pp(x size n:Nat):List Nat:=(List.range n).map (yN x size)
def Oe(x size i):yN x size i<2:=by
 unfold yN;split<;>exact aQ _ dT
def Js(x size n):∀b∈Pp x size n,b<2:=by
 intro b hb;obtain⟨i, -,rfl⟩:=pG.1 hb;exact Oe x size i
def SO(x size n):(Pp x size n).length=n:=by simp[Pp]
def SP(x s:Nat)(h2:s<=32):sext x s<4294967296:=Ia x s h2
def YE(x s)(h1:1<=s)(h2:s<=32):ofN (Pp x s 32)=sext x s:=by
 have hl:=SM _ (Js x s 32);rw[SO]at hl;refine aeN hl (SP x s h2) λj hj=>?_;rw[Oc _ (Js x s 32),XF x s j h1 h2];have:(Pp x s 32).getD j 0=yN x s j:=by
  unfold Pp;rw[aR,aX,eZ hj];rfl
 rw[this];unfold yN;by_cases h:j<s
 ·rw[af1 h,af1 h,KB]
 rw[dZ h,dZ h,KB];simp[hj]
def adH(x f:Nat):Nat:=
 if f=2 then sext (field x 20 12) 12
 else if f=4 then sext (field x 7 5+32*field x 25 7) 12
 else if f=5 then sext (2*field x 8 4+32*field x 25 6+2048*field x 7 1+4096*field x 31 1) 13
 else if f=6 then 4096*field x 12 20
 else if f=7 then sext (2*field x 21 10+2048*field x 20 1+4096*field x 12 8+1048576*field x 31 1) 21
 else if f=3 then field x 20 5 else 0
def nD(x a s v)(hx:x<2 ^ a)(hv:v<2 ^ s):setf x a s v=x+2 ^ a*v:=by
 unfold setf;rw[Nat.div_eq_of_lt (af3 hx (bU oT oT)),jM hx,jM hv,Nat.mul_zero,bJ,gJ]
def abN(x f)(hf:f<=8):EG f x=adH x f:=by
 have hc:f=0∨f=1∨f=2∨f=3∨f=4∨f=5∨f=6∨f=7∨f=8:=oT;rcases hc with rfl|rfl|rfl|rfl|rfl|rfl|rfl|rfl|rfl
 ·simp[EG,adH,rZ,eQ,xH,qN,sext]
 ·rfl
 ·have l1:=iR x 20 12;show sext ((setf 0 0 12 (field x 20 12))*2 ^ 0%4294967296) 12=sext (field x 20 12) 12;rw[nD _ _ _ _ oT l1];congr 1;omega
 ·have l1:=iR x 20 5;show(setf 0 0 5 (field x 20 5))*2 ^ 0%4294967296=field x 20 5;rw[nD _ _ _ _ oT l1];omega
 ·have l1:=iR x 7 5;have l2:=iR x 25 7;show sext ((setf (setf 0 0 5 (field x 7 5)) 5 7 (field x 25 7))*2 ^ 0%4294967296) 12=sext (field x 7 5+32*field x 25 7) 12;rw[nD 0 0 5 _ oT l1,nD _ 5 7 _ oT l2];congr 1;omega
 ·have l1:=iR x 8 4;have l2:=iR x 25 6;have l3:=iR x 7 1;have l4:=iR x 31 1;show sext ((setf (setf (setf (setf 0 0 4 (field x 8 4)) 4 6 (field x 25 6)) 10 1 (field x 7 1)) 11 1 (field x 31 1))*2 ^ 1%4294967296) 13=sext (2*field x 8 4+32*field x 25 6+2048*field x 7 1+4096*field x 31 1) 13;rw[nD 0 0 4 _ oT l1,nD _ 4 6 _ oT l2,nD _ 10 1 _ oT l3,nD _ 11 1 _ oT l4];congr 1;omega
 ·have l1:=iR x 12 20;show sext ((setf 0 0 20 (field x 12 20))*2 ^ 12%4294967296) 32=4096*field x 12 20;rw[nD 0 0 20 _ oT l1];have:sext ((0+2 ^ 0*field x 12 20)*2 ^ 12%4294967296) 32=(0+2 ^ 0*field x 12 20)*2 ^ 12%4294967296:=by
   unfold sext;rw[jM (oT:(0+2 ^ 0*field x 12 20)*2 ^ 12%4294967296<2 ^ 32)];split<;>omega
  rw[this];omega
 ·have l1:=iR x 21 10;have l2:=iR x 20 1;have l3:=iR x 12 8;have l4:=iR x 31 1;show sext ((setf (setf (setf (setf 0 0 10 (field x 21 10)) 10 1 (field x 20 1)) 11 8 (field x 12 8)) 19 1 (field x 31 1))*2 ^ 1%4294967296) 21=sext (2*field x 21 10+2048*field x 20 1+4096*field x 12 8+1048576*field x 31 1) 21;rw[nD 0 0 10 _ oT l1,nD _ 10 1 _ oT l2,nD _ 11 8 _ oT l3,nD _ 19 1 _ oT l4];congr 1;omega
 rfl
end Go.Proofs.YtlpkggpdjobpmaaGreatDoor
