/- Joined texts. -/
import Derived.Test.YtgleompefdogkaaGreatDoorProg
import Derived.Test.YtgleompefdogkaaGreatDoorS1
import Derived.Test.YtgleompefdogkaaGreatDoorS2
set_option linter.unusedVariables false
set_option linter.unusedSimpArgs false
set_option linter.defProp false
namespace Go.Proofs.YtgleompefdogkaaGreatDoor
open Go.RowKit
def field(x at' size:Nat):Nat:=x/2 ^ at'%2 ^ size
def setf(x at' size v:Nat):Nat:=2 ^ at'*(2 ^ size*(x/2 ^ (at'+size))+v%2 ^ size)+x%2 ^ at'
def sext(x size:Nat):Nat:=if x/2 ^ (size-1)%2=1 then x%2 ^ size+(4294967296-2 ^ size)else x%2 ^ size
def wZ(x at' size:Nat):field x at' size<2 ^ size:=bE _ (eH _)
def xA{n:Nat}(h:n<=32):2 ^ n<=4294967296:=aN (eQ (by omega) h) (by decide)
def Qn(at' size:Nat)(h:at'+size<=32):(((2 ^ size-1:Nat):Int)*2 ^ at'%4294967296)=(((2 ^ size-1)*2 ^ at':Nat):Int)∧(2 ^ size-1)*2 ^ at'<4294967296:=by
 have h1:(2 ^ size-1)*2 ^ at'<4294967296:=by
  have e:2 ^ size*2 ^ at'=2 ^ (at'+size):=by rw[<-Nat.pow_add,iD]
  have:=xA h;have h2:(2 ^ size-1)*2 ^ at'=2 ^ size*2 ^ at'-2 ^ at':=by rw[Nat.sub_mul,kU]
  have h3:=eH at';have h4:=eH size;have h5:2 ^ at'<=2 ^ size*2 ^ at':=Nat.le_mul_of_pos_left _ h4;omega
 refine⟨?_,h1⟩;have h3:(((2 ^ size-1:Nat):Int)*2 ^ at')=(((2 ^ size-1)*2 ^ at':Nat):Int):=by simp
 rw[h3];omega
def JG(at' size j:Nat):((2 ^ size-1)*2 ^ at').testBit j=(decide (at'<=j)&&decide (j-at'<size)):=by
 rw[dN,fP]
def Qo(x at' size v:Nat)(h2:at'+size<=32)(hx:x<4294967296):
  (x&&&(4294967295-(2 ^ size-1)*2 ^ at')) ||| ((v*2 ^ at'%4294967296)&&&((2 ^ size-1)*2 ^ at'))=setf x at' size v:=by
 have hM:=(Qn at' size h2).2;apply Nat.eq_of_testBit_eq;intro j;have e1:(4294967295-(2 ^ size-1)*2 ^ at').testBit j=(decide (j<32)&& !((2 ^ size-1)*2 ^ at').testBit j):=by
  have:=Nat.testBit_two_pow_sub_succ (n:=32) hM j;rw[show(2:Nat) ^ 32=4294967296 by decide]at this;rw[show 4294967295-(2 ^ size-1)*2 ^ at'=4294967296-((2 ^ size-1)*2 ^ at'+1) by omega];exact this
 have e2:(v*2 ^ at'%4294967296).testBit j=(decide (j<32)&&(decide (at'<=j)&&v.testBit (j-at'))):=by
  rw[show(4294967296:Nat)=2 ^ 32 by decide,dO,dN]
 rw[Nat.testBit_or,Nat.testBit_and,Nat.testBit_and,e1,e2,JG];unfold setf;rw[Nat.testBit_two_pow_mul_add _ (bE _ (eH _)),Nat.testBit_two_pow_mul_add _ (bE _ (eH _))];have hx32:32<=j->x.testBit j=false:=λh=>Nat.testBit_lt_two_pow (Nat.lt_of_lt_of_le hx (aN (by decide:4294967296<=2 ^ 32) (eQ (by omega) h)));by_cases h1:j<at'
 ·rw[if_pos h1,dO];have: ¬at'<=j:=by omega
  have:j<32:=by omega
  simp[*]
 ·rw[if_neg h1];by_cases h3:j-at'<size
  ·rw[if_pos h3,dO];have:at'<=j:=by omega
   have:j<32:=by omega
   simp[*]
  ·rw[if_neg h3,Nat.testBit_div_two_pow];have h4:j-at'-size+(at'+size)=j:=by omega
   have h5:at'+size+(j-at'-size)=j:=by omega
   have h6:at'<=j:=by omega
   by_cases h7:j<32
   ·simp[h3,h4,h6,h7]
   ·simp[h3,h4,h6,h7,hx32 (by omega)]
def EP(x at' size v:Nat)(h2:at'+size<=32)(hx:x<4294967296):setf x at' size v<4294967296:=by
 rw[<-Qo x at' size v h2 hx];have h1:(x&&&(4294967295-(2 ^ size-1)*2 ^ at'))<2 ^ 32:=bM mG hx;have h3:((v*2 ^ at'%4294967296)&&&((2 ^ size-1)*2 ^ at'))<2 ^ 32:=bM mG (bE _ (by decide));exact mU h1 h3
def Tg(x size:Nat)(h2:size<=32):(x%2 ^ size) ||| (4294967295^^^(2 ^ size-1))=x%2 ^ size+(4294967296-2 ^ size):=by
 have hp:=xA h2;have hpos:=eH size;have hx:4294967295^^^(2 ^ size-1)=2 ^ size*(2 ^ (32-size)-1):=by
  apply Nat.eq_of_testBit_eq;intro j;rw[Nat.testBit_xor,show(4294967295:Nat)=2 ^ 32-1 by decide,fP,fP,lG,dN,fP];by_cases h1:j<size
  ·have: ¬size<=j:=by omega
   have:j<32:=by omega
   simp[*]
  ·have:size<=j:=by omega
   by_cases h3:j<32
   ·have:j-size<32-size:=by omega
    simp[*]
   ·have: ¬j-size<32-size:=by omega
    simp[*]
 rw[hx,Nat.or_comm, <-Nat.two_pow_add_eq_or_of_lt (bE _ hpos)];have:2 ^ size*(2 ^ (32-size)-1)=4294967296-2 ^ size:=by
  rw[Nat.mul_sub,iT, <-Nat.pow_add,show size+(32-size)=32 by omega]
 omega
def JH(at' size:Nat)(w:World)(h1:1<=size)(h2:at'+size<=32):Calls Tryz.prog 174 #[.int .i64 at',.int .i64 size] w λe w'=>e=.returned (.bool true)∧w=w':=by
 have d1:at'<=31:=by omega
 have d2:decide ((size:Int)<=32-at')=true:=by simp;omega
 go_enter Tryz.func174,Tryz.ntmps174
 go_wp2
 go_ret
 exact⟨rfl,rfl⟩
def VY(size:Nat)(h:size<=32):((2:Int) ^ size%4294967296-1)%4294967296=((2 ^ size-1:Nat):Int):=by
 have h1:=xA h;have h2:=eH size;have h3:((2:Int) ^ size)=((2 ^ size:Nat):Int):=by simp
 rw[h3];omega
def DO(size:Nat)(w:World)(h:size<=32):Calls Tryz.prog 155 #[.int .i64 size] w λe w'=>e=.returned (.int .u32 (2 ^ size-1:Nat))∧w=w':=by
 have hE:=Lib.hid (VY size h)
 go_enter Tryz.func155,Tryz.ntmps155
 go_wp2
 go_ret
 exact⟨by rw[<-hE.out];rfl,rfl⟩
def VZ(x at' size:Nat)(w:World)(h1:1<=size)(h2:at'+size<=32)(hx:x<4294967296):Calls Tryz.prog 169 #[.int .u32 x,.int .i64 at',.int .i64 size] w λe w'=>e=.returned (.int .u32 (field x at' size))∧∃m,w'=w.drewN m:=by
 go_enter Tryz.func169,Tryz.ntmps169
 go_wp2_with (go_at_call 174;refine(JH _ _ _ h1 h2).mono ?_;rintro e w' ⟨rfl,rfl⟩)
 go_quiet ((go_at_call 155;exact Calls.quiet_of_same ((DO size _ (by omega)).mono λ_ _ ⟨a,b⟩=>⟨a,b.symm⟩)))
 go_wp2_with fail
 go_ret
 refine⟨?_,_,rfl⟩;have e1:((x:Int)/2 ^ at')=((x/2 ^ at':Nat):Int):=by simp
 have e2:(bits .and .u32 ((x:Int)/2 ^ at') ((2 ^ size-1:Nat):Int))=(field x at' size:Nat):=by
  have:=xA (show size<=32 by omega);have h3:x/2 ^ at'<4294967296:=bM (fJ _ _) hx;rw[e1,u32_and_nat _ _ h3 (by omega),jB];rfl
 rw[<-e2];rfl
def Qp(x at' size:Nat)(w:World)(h1:1<=size)(h2:at'+size<=32)(hx:x<4294967296):Calls Tryz.prog 169 #[.int .u32 x,.int .i64 at',.int .i64 size] w λe w'=>e=.returned (.int .u32 (field x at' size))∧Below w.heap.size w w':=by
 refine(VZ x at' size w h1 h2 hx).mono ?_;rintro e w' ⟨rfl,m,rfl⟩;exact⟨rfl,Ei _ _⟩
def Th(x at' size v:Nat)(w:World)(h1:1<=size)(h2:at'+size<=32)(hx:x<4294967296)(hv:v<4294967296):Calls Tryz.prog 154 #[.int .u32 x,.int .i64 at',.int .i64 size,.int .u32 v] w λe w'=>e=.returned (.int .u32 (setf x at' size v))∧w=w':=by
 go_enter Tryz.func154,Tryz.ntmps154
 go_wp2_with (first|(go_at_call 174;refine(JH _ _ _ h1 h2).mono ?_;rintro e w' ⟨rfl,rfl⟩)|(go_at_call 155;refine(DO size _ (by omega)).mono ?_;rintro e w' ⟨rfl,rfl⟩))
 go_ret
 refine⟨?_,rfl⟩;have e2:(bits .or .u32 (bits .andNot .u32 (x:Int) (((2 ^ size-1:Nat):Int)*2 ^ at'%4294967296)) (bits .and .u32 ((v:Int)*2 ^ at'%4294967296) (((2 ^ size-1:Nat):Int)*2 ^ at'%4294967296)))=(setf x at' size v:Nat):=by
  obtain⟨m1,m2⟩:=Qn at' size h2;have e3:((v:Int)*2 ^ at'%4294967296)=((v*2 ^ at'%4294967296:Nat):Int):=by simp
  rw[m1,e3,u32_andNot_nat _ _ hx m2,u32_and_nat _ _ (bE _ (by decide)) m2,u32_or_nat _ _ (bM mG hx) (bM mG (bE _ (by decide))),Qo x at' size v h2 hx]
 rw[<-e2];rfl
def Qq(x at' size v:Nat)(w:World)(h1:1<=size)(h2:at'+size<=32)(hx:x<4294967296)(hv:v<4294967296):Calls Tryz.prog 154 #[.int .u32 x,.int .i64 at',.int .i64 size,.int .u32 v] w λe w'=>e=.returned (.int .u32 (setf x at' size v))∧Below w.heap.size w w':=by
 refine(Th x at' size v w h1 h2 hx hv).mono ?_;rintro e w' ⟨rfl,rfl⟩;exact⟨rfl,rM _⟩
def Ii(x size:Nat)(w:World)(h1:1<=size)(h2:size<=32)(hx:x<4294967296):Calls Tryz.prog 133 #[.int .u32 x,.int .i64 size] w λe w'=>e=.returned (.int .u32 (sext x size))∧Below w.heap.size w w':=by
 have d1:decide ((size:Int)<1)=false:=by simp;omega
 have d2:decide ((32:Int)<size)=false:=by simp;omega
 have hp:=xA h2;have hpos:=eH size;have e1:Hid (bits .and .u32 (x:Int) ((2 ^ size-1:Nat):Int)=((x%2 ^ size:Nat):Int)):=by
  show _=_;rw[u32_and_nat _ _ hx (by omega),jB]
 have e2:bits .and .u32 ((x:Int)/2 ^ (size-1)) 1=((x/2 ^ (size-1)%2:Nat):Int):=by
  have h3:x/2 ^ (size-1)<4294967296:=bM (fJ _ _) hx;have:=u32_and_nat (x/2 ^ (size-1)) 1 h3 (by omega);rw[Nat.and_one_is_mod]at this;have e3:((x:Int)/2 ^ (size-1))=((x/2 ^ (size-1):Nat):Int):=by simp
  rw[e3];exact this
 have e4:Hid (bits .xor .u32 IntKind.u32.max ((2 ^ size-1:Nat):Int)=((4294967295^^^(2 ^ size-1):Nat):Int)):=by
  show _=_;have:=u32_xor_nat 4294967295 (2 ^ size-1) (by omega) (by omega);exact this
 have e5:(4294967295^^^(2 ^ size-1):Nat)<4294967296:=mE (n:=32) (by decide) (by omega);clear hp hpos;by_cases hb:x/2 ^ (size-1)%2=1
 ·have e6:(bits .and .u32 ((x:Int)/2 ^ (size-1)) 1==1)=true:=by rw[e2,hb];rfl
  have hv:Hid (sext x size=x%2 ^ size+(4294967296-2 ^ size)):=by show _=_;simp[sext,hb]
  clear e2 hb
  go_enter Tryz.func133,Tryz.ntmps133
  go_wp2_with (go_at_call 155;refine(DO size _ (by omega)).mono ?_;rintro e w' ⟨rfl,rfl⟩)
  go_ret
  refine⟨?_,rM _⟩;have e7:bits .or .u32 (bits .and .u32 (x:Int) ((2 ^ size-1:Nat):Int)) (bits .xor .u32 IntKind.u32.max ((2 ^ size-1:Nat):Int))=((sext x size:Nat):Int):=by
   rw[hv.out, <-Tg x size h2,e1.out,e4.out,u32_or_nat _ _ (bM (oF _ _) hx) e5]
  rw[<-e7];rfl
 ·have e6:(bits .and .u32 ((x:Int)/2 ^ (size-1)) 1==1)=false:=by rw[e2];simp only[bA];omega
  have hv:Hid (sext x size=x%2 ^ size):=by show _=_;simp[sext,hb]
  clear e2 hb
  go_enter Tryz.func133,Tryz.ntmps133
  go_wp2_with (go_at_call 155;refine(DO size _ (by omega)).mono ?_;rintro e w' ⟨rfl,rfl⟩)
  go_ret
  refine⟨?_,rM _⟩;rw[hv.out, <-e1.out];rfl
end Go.Proofs.YtgleompefdogkaaGreatDoor
