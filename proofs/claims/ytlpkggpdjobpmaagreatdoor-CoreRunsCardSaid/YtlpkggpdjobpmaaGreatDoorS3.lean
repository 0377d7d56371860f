/- Lemmas. -/
import Derived.Test.YtlpkggpdjobpmaaGreatDoorProg
import Derived.Test.YtlpkggpdjobpmaaGreatDoorS1
import Derived.Test.YtlpkggpdjobpmaaGreatDoorS2
set_option linter.all false
namespace Go.Proofs.YtlpkggpdjobpmaaGreatDoor
open Go.Proofs.Tryz
open Go.RowKit
def field(x at' size:Nat):Nat:=x/2 ^ at'%2 ^ size
def setf(x at' size v:Nat):Nat:=2 ^ at'*(2 ^ size*(x/2 ^ (at'+size))+v%2 ^ size)+x%2 ^ at'
def sext(x size:Nat):Nat:=if x/2 ^ (size-1)%2=1 then x%2 ^ size+(4294967296-2 ^ size)else x%2 ^ size
def iR(x at' size:Nat):field x at' size<2 ^ size:=aQ _ (eI _)
def wV{n:Nat}(h:n<=32):2 ^ n<=4294967296:=aL (bU oT h) dT
def Qb(at' size)(h:at'+size<=32):(((2 ^ size-1:Nat):Int)*2 ^ at'%4294967296)=(((2 ^ size-1)*2 ^ at':Nat):Int)∧(2 ^ size-1)*2 ^ at'<4294967296:=by
 have h1:(2 ^ size-1)*2 ^ at'<4294967296:=by
  have e:2 ^ size*2 ^ at'=2 ^ (at'+size):=by rw[<-Nat.pow_add,gJ]
  have:=wV h;have h2:(2 ^ size-1)*2 ^ at'=2 ^ size*2 ^ at'-2 ^ at':=by rw[Nat.sub_mul,lD]
  have h3:=eI at';have h4:=eI size;have h5:2 ^ at'<=2 ^ size*2 ^ at':=Nat.le_mul_of_pos_left _ h4;omega
 refine⟨?_,h1⟩;have h3:(((2 ^ size-1:Nat):Int)*2 ^ at')=(((2 ^ size-1)*2 ^ at':Nat):Int):=by simp
 rw[h3];omega
def JS(at' size j):((2 ^ size-1)*2 ^ at').testBit j=(decide (at'<=j)&&decide (j-at'<size)):=by
 rw[fK,dX]
def Qc(x at' size v)(h2:at'+size<=32)(hx:x<4294967296):
  (x&&&(4294967295-(2 ^ size-1)*2 ^ at')) ||| ((v*2 ^ at'%4294967296)&&&((2 ^ size-1)*2 ^ at'))=setf x at' size v:=by
 have hM:=(Qb at' size h2).2;apply Nat.eq_of_testBit_eq;intro j;have e1:(4294967295-(2 ^ size-1)*2 ^ at').testBit j=(decide (j<32)&& !((2 ^ size-1)*2 ^ at').testBit j):=by
  have:=Nat.testBit_two_pow_sub_succ (n:=32) hM j;rw[(dT:(2:Nat) ^ 32=4294967296)]at this;rw[(oT:4294967295-(2 ^ size-1)*2 ^ at'=4294967296-((2 ^ size-1)*2 ^ at'+1))];exact this
 have e2:(v*2 ^ at'%4294967296).testBit j=(decide (j<32)&&(decide (at'<=j)&&v.testBit (j-at'))):=by
  rw[(dT:(4294967296:Nat)=2 ^ 32),eB,fK]
 rw[Nat.testBit_or,Nat.testBit_and,Nat.testBit_and,e1,e2,JS];unfold setf;rw[Nat.testBit_two_pow_mul_add _ (aQ _ (eI _)),Nat.testBit_two_pow_mul_add _ (aQ _ (eI _))];have hx32:32<=j->x.testBit j=false:=λh=>Nat.testBit_lt_two_pow (af3 hx (aL (by decide:4294967296<=2 ^ 32) (bU oT h)));by_cases h1:j<at'
 ·rw[af1 h1,eB];have: ¬at'<=j:=oT;have:j<32:=oT;simp[*]
 rw[dZ h1];by_cases h3:j-at'<size
 ·rw[af1 h3,eB];have:at'<=j:=oT;have:j<32:=oT;simp[*]
 rw[dZ h3,Nat.testBit_div_two_pow];have h4:j-at'-size+(at'+size)=j:=oT;have h5:at'+size+(j-at'-size)=j:=oT;have h6:at'<=j:=oT;by_cases h7:j<32
 ·simp[h3,h4,h6,h7]
 simp[h3,h4,h6,h7,hx32 oT]
def EJ(x at' size v)(h2:at'+size<=32)(hx:x<4294967296):setf x at' size v<4294967296:=by
 rw[<-Qc x at' size v h2 hx];have h1:(x&&&(4294967295-(2 ^ size-1)*2 ^ at'))<2 ^ 32:=bL kE hx;have h3:((v*2 ^ at'%4294967296)&&&((2 ^ size-1)*2 ^ at'))<2 ^ 32:=bL kE (aQ _ dT);exact kQ h1 h3
def TH(x size)(h2:size<=32):(x%2 ^ size) ||| (4294967295^^^(2 ^ size-1))=x%2 ^ size+(4294967296-2 ^ size):=by
 have hp:=wV h2;have hpos:=eI size;have hx:4294967295^^^(2 ^ size-1)=2 ^ size*(2 ^ (32-size)-1):=by
  apply Nat.eq_of_testBit_eq;intro j;rw[Nat.testBit_xor,(dT:(4294967295:Nat)=2 ^ 32-1),dX,dX,fR,fK,dX];by_cases h1:j<size
  ·have: ¬size<=j:=oT;have:j<32:=oT;simp[*]
  have:size<=j:=oT;by_cases h3:j<32
  ·have:j-size<32-size:=oT;simp[*]
  have: ¬j-size<32-size:=oT;simp[*]
 rw[hx,Nat.or_comm, <-Nat.two_pow_add_eq_or_of_lt (aQ _ hpos)];have:2 ^ size*(2 ^ (32-size)-1)=4294967296-2 ^ size:=by
  rw[Nat.mul_sub,iD, <-Nat.pow_add,(oT:size+(32-size)=32)]
 omega
def JT(at' size:Nat)(w)(h1:1<=size)(h2:at'+size<=32):Calls Tryz.prog 185 #[.int .i64 at',.int .i64 size] w λe w'=>e=.returned (.bool true)∧w=w':=by
 have d1:at'<=31:=oT;have d2:decide ((size:Int)<=32-at')=true:=by simp;omega
 go_enter func185,ntmps185
 go_wp2
 go_ret
 exact⟨rfl,rfl⟩
def WA(size)(h:size<=32):((2:Int) ^ size%4294967296-1)%4294967296=((2 ^ size-1:Nat):Int):=by
 have h1:=wV h;have h2:=eI size;have h3:((2:Int) ^ size)=((2 ^ size:Nat):Int):=by simp
 rw[h3];omega
def DU(size:Nat)(w)(h:size<=32):Calls Tryz.prog 169 #[.int .i64 size] w λe w'=>e=.returned (.int .u32 (2 ^ size-1:Nat))∧w=w':=by
 have hE:=Lib.hid (WA size h)
 go_enter func169,ntmps169
 go_wp2
 go_ret
 exact⟨by rw[<-hE.out];rfl,rfl⟩
def WB(x at' size:Nat)(w)(h1:1<=size)(h2:at'+size<=32)(hx:x<4294967296):Calls Tryz.prog 183 #[.int .u32 x,.int .i64 at',.int .i64 size] w λe w'=>e=.returned (.int .u32 (field x at' size))∧∃m,w'=w.drewN m:=by
 go_enter func183,ntmps183
 go_wp2_with (go_at_call 185;refine(JT _ _ _ h1 h2).mono ?_;rintro e w' ⟨rfl,rfl⟩)
 go_quiet ((go_at_call 169;exact Calls.quiet_of_same ((DU size _ oT).mono λ_ _ ⟨a,b⟩=>⟨a,b.symm⟩)))
 go_wp2_with fail
 go_ret
 refine⟨?_,_,rfl⟩;have e1:((x:Int)/2 ^ at')=((x/2 ^ at':Nat):Int):=by simp
 have e2:(bits .and .u32 ((x:Int)/2 ^ at') ((2 ^ size-1:Nat):Int))=(field x at' size:Nat):=by
  have:=wV (oT:size<=32);have h3:x/2 ^ at'<4294967296:=bL (cO _ _) hx;rw[e1,u32_and_nat _ _ h3 oT,eV];rfl
 rw[<-e2];rfl
def Qd(x at' size:Nat)(w)(h1:1<=size)(h2:at'+size<=32)(hx:x<4294967296):Calls Tryz.prog 183 #[.int .u32 x,.int .i64 at',.int .i64 size] w λe w'=>e=.returned (.int .u32 (field x at' size))∧Below w.heap.size w w':=by
 refine(WB x at' size w h1 h2 hx).mono ?_;rintro e w' ⟨rfl,m,rfl⟩;exact⟨rfl,EC _ _⟩
def TJ(x at' size v:Nat)(w)(h1:1<=size)(h2:at'+size<=32)(hx:x<4294967296)(hv:v<4294967296):Calls Tryz.prog 168 #[.int .u32 x,.int .i64 at',.int .i64 size,.int .u32 v] w λe w'=>e=.returned (.int .u32 (setf x at' size v))∧w=w':=by
 go_enter func168,ntmps168
 go_wp2_with (first|(go_at_call 185;refine(JT _ _ _ h1 h2).mono ?_;rintro e w' ⟨rfl,rfl⟩)|(go_at_call 169;refine(DU size _ oT).mono ?_;rintro e w' ⟨rfl,rfl⟩))
 go_ret
 refine⟨?_,rfl⟩;have e2:(bits .or .u32 (bits .andNot .u32 (x:Int) (((2 ^ size-1:Nat):Int)*2 ^ at'%4294967296)) (bits .and .u32 ((v:Int)*2 ^ at'%4294967296) (((2 ^ size-1:Nat):Int)*2 ^ at'%4294967296)))=(setf x at' size v:Nat):=by
  obtain⟨m1,m2⟩:=Qb at' size h2;have e3:((v:Int)*2 ^ at'%4294967296)=((v*2 ^ at'%4294967296:Nat):Int):=by simp
  rw[m1,e3,u32_andNot_nat _ _ hx m2,u32_and_nat _ _ (aQ _ dT) m2,u32_or_nat _ _ (bL kE hx) (bL kE (aQ _ dT)),Qc x at' size v h2 hx]
 rw[<-e2];rfl
def Qe(x at' size v:Nat)(w)(h1:1<=size)(h2:at'+size<=32)(hx:x<4294967296)(hv:v<4294967296):Calls Tryz.prog 168 #[.int .u32 x,.int .i64 at',.int .i64 size,.int .u32 v] w λe w'=>e=.returned (.int .u32 (setf x at' size v))∧Below w.heap.size w w':=by
 refine(TJ x at' size v w h1 h2 hx hv).mono ?_;rintro e w' ⟨rfl,rfl⟩;exact⟨rfl,rD _⟩
def Ic(x size:Nat)(w)(h1:1<=size)(h2:size<=32)(hx:x<4294967296):Calls Tryz.prog 149 #[.int .u32 x,.int .i64 size] w λe w'=>e=.returned (.int .u32 (sext x size))∧Below w.heap.size w w':=by
 have d1:decide ((size:Int)<1)=false:=by simp;omega
 have d2:decide ((32:Int)<size)=false:=by simp;omega
 have hp:=wV h2;have hpos:=eI size;have e1:Hid (bits .and .u32 (x:Int) ((2 ^ size-1:Nat):Int)=((x%2 ^ size:Nat):Int)):=by
  show _=_;rw[u32_and_nat _ _ hx oT,eV]
 have e2:bits .and .u32 ((x:Int)/2 ^ (size-1)) 1=((x/2 ^ (size-1)%2:Nat):Int):=by
  have h3:x/2 ^ (size-1)<4294967296:=bL (cO _ _) hx;have:=u32_and_nat (x/2 ^ (size-1)) 1 h3 oT;rw[Nat.and_one_is_mod]at this;have e3:((x:Int)/2 ^ (size-1))=((x/2 ^ (size-1):Nat):Int):=by simp
  rw[e3];exact this
 have e4:Hid (bits .xor .u32 IntKind.u32.max ((2 ^ size-1:Nat):Int)=((4294967295^^^(2 ^ size-1):Nat):Int)):=by
  show _=_;have:=u32_xor_nat 4294967295 (2 ^ size-1) oT oT;exact this
 have e5:(4294967295^^^(2 ^ size-1):Nat)<4294967296:=iM (n:=32) dT oT;clear hp hpos;by_cases hb:x/2 ^ (size-1)%2=1
 ·have e6:(bits .and .u32 ((x:Int)/2 ^ (size-1)) 1==1)=true:=by rw[e2,hb];rfl
  have hv:Hid (sext x size=x%2 ^ size+(4294967296-2 ^ size)):=by show _=_;simp[sext,hb]
  clear e2 hb
  go_enter func149,ntmps149
  go_wp2_with (go_at_call 169;refine(DU size _ oT).mono ?_;rintro e w' ⟨rfl,rfl⟩)
  go_ret
  refine⟨?_,rD _⟩;have e7:bits .or .u32 (bits .and .u32 (x:Int) ((2 ^ size-1:Nat):Int)) (bits .xor .u32 IntKind.u32.max ((2 ^ size-1:Nat):Int))=((sext x size:Nat):Int):=by
   rw[hv.out, <-TH x size h2,e1.out,e4.out,u32_or_nat _ _ (bL (gR _ _) hx) e5]
  rw[<-e7];rfl
 have e6:(bits .and .u32 ((x:Int)/2 ^ (size-1)) 1==1)=false:=by rw[e2];simp only[bA];omega
 have hv:Hid (sext x size=x%2 ^ size):=by show _=_;simp[sext,hb]
 clear e2 hb
 go_enter func149,ntmps149
 go_wp2_with (go_at_call 169;refine(DU size _ oT).mono ?_;rintro e w' ⟨rfl,rfl⟩)
 go_ret
 refine⟨?_,rD _⟩;rw[hv.out, <-e1.out];rfl
end Go.Proofs.YtlpkggpdjobpmaaGreatDoor
