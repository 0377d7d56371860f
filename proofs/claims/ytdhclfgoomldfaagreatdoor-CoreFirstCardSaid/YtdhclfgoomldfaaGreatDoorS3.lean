/- Lemmas. -/
import Derived.Test.YtdhclfgoomldfaaGreatDoorProg
import Derived.Test.YtdhclfgoomldfaaGreatDoorS1
import Derived.Test.YtdhclfgoomldfaaGreatDoorS2
set_option linter.all false
namespace Go.Proofs.YtdhclfgoomldfaaGreatDoor
open Go.Proofs.Tryz
open Go.RowKit
def an(x a size:Nat):Nat:=x/2 ^ a%2 ^ size
def bi(x a size v:Nat):Nat:=2 ^ a*(2 ^ size*(x/2 ^ (a+size))+v%2 ^ size)+x%2 ^ a
def cp(x size:Nat):Nat:=if x/2 ^ (size-1)%2=1 then x%2 ^ size+(4294967296-2 ^ size)else x%2 ^ size
def iR(x a size:Nat):an x a size<2 ^ size:=aQ _ (eI _)
def wV{n:Nat}(h:n<=32):2 ^ n<=4294967296:=aL (bU oT h) dT
def Qb(a size)(h:a+size<=32):(((2 ^ size-1:Nat):Int)*2 ^ a%4294967296)=(((2 ^ size-1)*2 ^ a:Nat):Int)∧(2 ^ size-1)*2 ^ a<4294967296:=by
 have c:(2 ^ size-1)*2 ^ a<4294967296:=by
  have e:2 ^ size*2 ^ a=2 ^ (a+size):=by rw[<-Nat.pow_add,gJ]
  have:=wV h;have d:(2 ^ size-1)*2 ^ a=2 ^ size*2 ^ a-2 ^ a:=by rw[Nat.sub_mul,lD]
  have b:=eI a;have f:2 ^ a<=2 ^ size*2 ^ a:=Nat.le_mul_of_pos_left _ (eI size);omega
 refine⟨?_,c⟩;have b:(((2 ^ size-1:Nat):Int)*2 ^ a)=(((2 ^ size-1)*2 ^ a:Nat):Int):=by simp
 rw[b];omega
def JS(a size j):((2 ^ size-1)*2 ^ a).testBit j=(decide (a<=j)&&decide (j-a<size)):=by
 rw[fK,dX]
def Qc(x a size v)(l:a+size<=32)(m:x<4294967296):
  (x&&&(4294967295-(2 ^ size-1)*2 ^ a)) ||| ((v*2 ^ a%4294967296)&&&((2 ^ size-1)*2 ^ a))=bi x a size v:=by
 apply Nat.eq_of_testBit_eq;intro j;have i:(4294967295-(2 ^ size-1)*2 ^ a).testBit j=(decide (j<32)&& !((2 ^ size-1)*2 ^ a).testBit j):=by
  have:=Nat.testBit_two_pow_sub_succ (n:=32) ((Qb a size l).2) j;rw[(dT:(2:Nat) ^ 32=4294967296)]at this;rwa[(oT:4294967295-(2 ^ size-1)*2 ^ a=4294967296-((2 ^ size-1)*2 ^ a+1))]
 have k:(v*2 ^ a%4294967296).testBit j=(decide (j<32)&&(decide (a<=j)&&v.testBit (j-a))):=by
  rw[(dT:(4294967296:Nat)=2 ^ 32),eB,fK]
 rw[Nat.testBit_or,Nat.testBit_and,Nat.testBit_and,i,k,JS];unfold bi;rw[Nat.testBit_two_pow_mul_add _ (aQ _ (eI _)),Nat.testBit_two_pow_mul_add _ (aQ _ (eI _))];have c:32<=j->x.testBit j=false:=λh=>Nat.testBit_lt_two_pow (ep m (aL (by decide:4294967296<=2 ^ 32) (bU oT h)));by_cases d:j<a
 ·rw[aa d,eB];have: ¬a<=j:=oT;have:j<32:=oT;simp[*]
 rw[dZ d];by_cases b:j-a<size
 ·rw[aa b,eB];have:a<=j:=oT;have:j<32:=oT;simp[*]
 rw[dZ b,Nat.testBit_div_two_pow];have e:j-a-size+(a+size)=j:=oT;have n:=oT;have f:=oT;by_cases g:j<32
 ·simp[b,e,f,g]
 simp[b,e,f,g,c oT]
def EJ(x a size v)(c:a+size<=32)(b:x<4294967296):bi x a size v<4294967296:=by
 rw[<-Qc x a size v c b];have d:((v*2 ^ a%4294967296)&&&((2 ^ size-1)*2 ^ a))<2 ^ 32:=bL kE (aQ _ dT);exact kQ (bL kE b) d
def TH(x size)(a:size<=32):(x%2 ^ size) ||| (4294967295^^^(2 ^ size-1))=x%2 ^ size+(4294967296-2 ^ size):=by
 have hp:=wV a;have b:4294967295^^^(2 ^ size-1)=2 ^ size*(2 ^ (32-size)-1):=by
  apply Nat.eq_of_testBit_eq;intro j;rw[Nat.testBit_xor,(dT:(4294967295:Nat)=2 ^ 32-1),dX,dX,fR,fK,dX];by_cases c:j<size
  ·have: ¬size<=j:=oT;have:j<32:=oT;simp[*]
  have:size<=j:=oT;by_cases d:j<32
  ·have:j-size<32-size:=oT;simp[*]
  have: ¬j-size<32-size:=oT;simp[*]
 rw[b,Nat.or_comm, <-Nat.two_pow_add_eq_or_of_lt (aQ _ (eI size))];have:2 ^ size*(2 ^ (32-size)-1)=4294967296-2 ^ size:=by
  rw[Nat.mul_sub,iD, <-Nat.pow_add,(oT:size+(32-size)=32)]
 omega
def JT(at' size:Nat)(w)(h1:1<=size)(h2:at'+size<=32):Calls Tryz.prog 186 #[.int .i64 at',.int .i64 size] w λe w'=>e=.returned (.bool true)∧w=w':=by
 have d1:=oT;have d2:decide ((size:Int)<=32-at')=true:=by simp;omega
 go_enter func186,ntmps186
 go_wp2
 go_ret
 exact⟨rfl,rfl⟩
def WA(size)(h:size<=32):((2:Int) ^ size%4294967296-1)%4294967296=((2 ^ size-1:Nat):Int):=by
 have b:=wV h;have c:=eI size;have a:((2:Int) ^ size)=((2 ^ size:Nat):Int):=by simp
 rw[a];omega
def DU(size:Nat)(w)(h:size<=32):Calls Tryz.prog 170 #[.int .i64 size] w λe w'=>e=.returned (.int .u32 (2 ^ size-1:Nat))∧w=w':=by
 have hE:=Lib.hid (WA size h)
 go_enter func170,ntmps170
 go_wp2
 go_ret
 exact⟨by rw[<-hE.out];rfl,rfl⟩
def WB(x at' size:Nat)(w)(h1:1<=size)(h2:at'+size<=32)(hx:x<4294967296):Calls Tryz.prog 184 #[.int .u32 x,.int .i64 at',.int .i64 size] w λe w'=>e=.returned (.int .u32 (an x at' size))∧∃m,w'=w.drewN m:=by
 go_enter func184,ntmps184
 go_wp2_with (go_at_call 186;refine(JT _ _ _ h1 h2).mono ?_;rintro e w' ⟨rfl,rfl⟩)
 go_quiet ((go_at_call 170;exact Calls.quiet_of_same ((DU size _ oT).mono λ_ _ ⟨a,b⟩=>⟨a,b.symm⟩)))
 go_wp2_with fail
 go_ret
 refine⟨?_,_,rfl⟩;have e1:((x:Int)/2 ^ at')=((x/2 ^ at':Nat):Int):=by simp
 have e2:(bits .and .u32 ((x:Int)/2 ^ at') ((2 ^ size-1:Nat):Int))=(an x at' size:Nat):=by
  have:=wV (oT:size<=32);rw[e1,u32_and_nat _ _ (bL (cO _ _) hx) oT,eV];rfl
 rw[<-e2];rfl
def Qd(x a size:Nat)(w)(b:1<=size)(c:a+size<=32)(d:x<4294967296):Calls Tryz.prog 184 #[.int .u32 x,.int .i64 a,.int .i64 size] w λe w'=>e=.returned (.int .u32 (an x a size))∧Below w.heap.size w w':=by
 apply(WB x a size w b c d).mono;rintro e w' ⟨rfl,m,rfl⟩;exact⟨rfl,EC _ _⟩
def TJ(x at' size v:Nat)(w)(h1:1<=size)(h2:at'+size<=32)(hx:x<4294967296)(hv:v<4294967296):Calls Tryz.prog 169 #[.int .u32 x,.int .i64 at',.int .i64 size,.int .u32 v] w λe w'=>e=.returned (.int .u32 (bi x at' size v))∧w=w':=by
 go_enter func169,ntmps169
 go_wp2_with (first|(go_at_call 186;refine(JT _ _ _ h1 h2).mono ?_;rintro e w' ⟨rfl,rfl⟩)|(go_at_call 170;refine(DU size _ oT).mono ?_;rintro e w' ⟨rfl,rfl⟩))
 go_ret
 refine⟨?_,rfl⟩;have e2:(bits .or .u32 (bits .andNot .u32 (x:Int) (((2 ^ size-1:Nat):Int)*2 ^ at'%4294967296)) (bits .and .u32 ((v:Int)*2 ^ at'%4294967296) (((2 ^ size-1:Nat):Int)*2 ^ at'%4294967296)))=(bi x at' size v:Nat):=by
  let⟨m1,m2⟩:=Qb at' size h2;have e3:((v:Int)*2 ^ at'%4294967296)=((v*2 ^ at'%4294967296:Nat):Int):=by simp
  rw[m1,e3,u32_andNot_nat _ _ hx m2,u32_and_nat _ _ (aQ _ dT) m2,u32_or_nat _ _ (bL kE hx) (bL kE (aQ _ dT)),Qc x at' size v h2 hx]
 rw[<-e2];rfl
def Qe(x a size v:Nat)(w)(b:1<=size)(c:a+size<=32)(f:x<4294967296)(d:v<4294967296):Calls Tryz.prog 169 #[.int .u32 x,.int .i64 a,.int .i64 size,.int .u32 v] w λe w'=>e=.returned (.int .u32 (bi x a size v))∧Below w.heap.size w w':=by
 apply(TJ x a size v w b c f d).mono;rintro e w' ⟨rfl,rfl⟩;exact⟨rfl,rD _⟩
def Ic(x size:Nat)(w)(h1:1<=size)(h2:size<=32)(hx:x<4294967296):Calls Tryz.prog 150 #[.int .u32 x,.int .i64 size] w λe w'=>e=.returned (.int .u32 (cp x size))∧Below w.heap.size w w':=by
 have d1:decide ((size:Int)<1)=false:=by simp;omega
 have d2:decide ((32:Int)<size)=false:=by simp;omega
 have hp:=wV h2;have hpos:=eI size;have e1:Hid (bits .and .u32 (x:Int) ((2 ^ size-1:Nat):Int)=((x%2 ^ size:Nat):Int)):=by
  show _=_;rw[u32_and_nat _ _ hx oT,eV]
 have e2:bits .and .u32 ((x:Int)/2 ^ (size-1)) 1=((x/2 ^ (size-1)%2:Nat):Int):=by
  have h3:x/2 ^ (size-1)<4294967296:=bL (cO _ _) hx;have:=u32_and_nat (x/2 ^ (size-1)) 1 h3 oT;rw[Nat.and_one_is_mod]at this;have e3:((x:Int)/2 ^ (size-1))=((x/2 ^ (size-1):Nat):Int):=by simp
  rwa[e3]
 have e4:Hid (bits .xor .u32 IntKind.u32.max ((2 ^ size-1:Nat):Int)=((4294967295^^^(2 ^ size-1):Nat):Int)):=by
  show _=_;have:=u32_xor_nat 4294967295 (2 ^ size-1) oT oT;exact this
 have e5:(4294967295^^^(2 ^ size-1):Nat)<4294967296:=iM (n:=32) dT oT;clear hp hpos;by_cases hb:x/2 ^ (size-1)%2=1
 ·have e6:(bits .and .u32 ((x:Int)/2 ^ (size-1)) 1==1)=true:=by rw[e2,hb];rfl
  have hv:Hid (cp x size=x%2 ^ size+(4294967296-2 ^ size)):=by show _=_;simp[cp,hb]
  clear e2 hb
  go_enter func150,ntmps150
  go_wp2_with (go_at_call 170;refine(DU size _ oT).mono ?_;rintro e w' ⟨rfl,rfl⟩)
  go_ret
  refine⟨?_,rD _⟩;have e7:bits .or .u32 (bits .and .u32 (x:Int) ((2 ^ size-1:Nat):Int)) (bits .xor .u32 IntKind.u32.max ((2 ^ size-1:Nat):Int))=((cp x size:Nat):Int):=by
   rw[hv.out, <-TH x size h2,e1.out,e4.out,u32_or_nat _ _ (bL (gR _ _) hx) e5]
  rw[<-e7];rfl
 have e6:(bits .and .u32 ((x:Int)/2 ^ (size-1)) 1==1)=false:=by rw[e2];simp only[bA];omega
 have hv:Hid (cp x size=x%2 ^ size):=by show _=_;simp[cp,hb]
 clear e2 hb
 go_enter func150,ntmps150
 go_wp2_with (go_at_call 170;refine(DU size _ oT).mono ?_;rintro e w' ⟨rfl,rfl⟩)
 go_ret
 refine⟨?_,rD _⟩;rw[hv.out, <-e1.out];rfl
end Go.Proofs.YtdhclfgoomldfaaGreatDoor
