/- Joined texts. -/
import Derived.Test.YtgleompefdogkaaGreatDoorProg
import Derived.Test.YtgleompefdogkaaGreatDoorS1
import Derived.Test.YtgleompefdogkaaGreatDoorS2
set_option linter.unusedVariables false
set_option linter.unusedSimpArgs false
set_option linter.defProp false
namespace Go.Proofs.YtgleompefdogkaaGreatDoor
open Go.RowKit
def sgn(x:Nat):Int:=if x<2147483648 then(x:Int)else(x:Int)-4294967296
def wordOf(n:Int):Nat:=(n%4294967296).toNat
def zF(n:Int):((wordOf n:Nat):Int)=n%4294967296:=by unfold wordOf;omega
def EQ(n:Int):wordOf n<4294967296:=by unfold wordOf;omega
def doP(op:Int)(a b:Nat):Nat:=
 if op=28∨op=19 then(a+b)%4294967296 else if op=29 then(a+4294967296-b)%4294967296
 else if op=37∨op=24 then a&&&b else if op=36∨op=23 then a ||| b else if op=33∨op=22 then a^^^b
 else if op=30∨op=25 then a*2 ^ (b%32)%4294967296 else if op=34∨op=26 then a/2 ^ (b%32)
 else if op=35∨op=27 then wordOf (sgn a/2 ^ (b%32))else if op=31∨op=20 then(if sgn a<sgn b then 1 else 0)
 else if op=32∨op=21 then(if a<b then 1 else 0)else if op=1 then b else 0
def Kn(op:Int)(a b:Nat):Nat:=
 if op=38 then a*b%4294967296 else if op=39 then wordOf (sgn a*sgn b/4294967296)else if op=40 then wordOf (sgn a*b/4294967296)
 else if op=41 then a*b/4294967296 else 0
def JJ(op:Int)(a b:Nat):Bool:=
 if op=5 then a==b else if op=6 then !(a==b)else if op=7 then decide (sgn a<sgn b)else if op=8 then decide (sgn b<=sgn a)
 else if op=9 then decide (a<b)else if op=10 then decide (b<=a)else false
def xB(a:Nat)(h:a<4294967296):IntKind.i32.wrap (a:Int)=sgn a:=by
 have e:(a:Int)%4294967296=a:=by omega
 simp only[IntKind.wrap,IntKind.bits,IntKind.signed,sgn,eF,Int.reducePow,Nat.reduceSub,e,bB];by_cases h2:a<2147483648
 ·rw[if_neg (by omega),if_pos h2]
 ·rw[if_pos (by omega),if_neg h2]
def MN(n:Int):IntKind.u64.wrap n=n%18446744073709551616:=by simp[IntKind.wrap,IntKind.bits,IntKind.signed]
def ER(n:Int):IntKind.u64.wrap (wrap64 n)=n%18446744073709551616:=by
 rw[MN];unfold wrap64;omega
def iM(t:Bool)(w:World):Calls Tryz.prog 180 #[.bool t] w λe w'=>e=.returned (.int .u32 (if t=true then 1 else 0))∧w=w':=by
 cases t
 all_goals
  go_enter Tryz.func180,Tryz.ntmps180
  go_wp2
  go_ret
  exact⟨rfl,rfl⟩
def gE{x y:Int}(h:x=y):Ending.returned (Value.int .u32 x)=Ending.returned (Value.int .u32 y):=by rw[h]
def GB(a:Nat)(h:a<4294967296): -2147483648<=sgn a∧sgn a<2147483648:=by unfold sgn;split<;>omega
set_option maxHeartbeats 4000000 in
theorem Ys(op:Int)(a b:Nat)(w:World)(ha:a<4294967296)(hb:b<4294967296):Calls Tryz.prog 165 #[.int .i64 op,.int .u32 a,.int .u32 b] w λe w'=>e=.returned (.int .u32 (doP op a b))∧w=w':=by
 have hm:bits .and .u32 (b:Int) 31=((b%32:Nat):Int):=by
  rw[show(31:Int)=((2 ^ 5-1:Nat):Int) by rfl,u32_and_nat _ _ hb (by decide),jB]
 have hs:b%32<32:=bE _ (by decide);have wa:=xB a ha;have wb:=xB b hb;have hc:op=28∨op=19∨op=29∨op=37∨op=24∨op=36∨op=23∨op=33∨op=22∨op=30∨op=25∨op=34∨op=26∨op=35∨op=27∨op=31∨op=20∨op=32∨op=21∨op=1∨(op≠28∧op≠19∧op≠29∧op≠37∧op≠24∧op≠36∧op≠23∧op≠33∧op≠22∧op≠30∧op≠25∧op≠34∧op≠26∧op≠35∧op≠27∧op≠31∧op≠20∧op≠32∧op≠21∧op≠1):=by omega
 obtain⟨s,hse⟩:∃s,s=b%32:=⟨_,rfl⟩;rw[<-hse]at hm hs;have hsd:=Lib.hid hse.symm;clear hse;rcases hc with rfl|rfl|rfl|rfl|rfl|rfl|rfl|rfl|rfl|rfl|rfl|rfl|rfl|rfl|rfl|rfl|rfl|rfl|rfl|rfl|⟨n0,n1,n2,n3,n4,n5,n6,n7,n8,n9,n10,n11,n12,n13,n14,n15,n16,n17,n18,n19⟩
 ·go_enter Tryz.func165,Tryz.ntmps165
  go_wp2_with (go_at_call 180;refine(iM _ _).mono ?_;rintro e w' ⟨rfl,rfl⟩)
  all_goals
   go_ret
   refine⟨gE ?_,rfl⟩;rw[show doP 28 a b=(a+b)%4294967296 by simp[doP]];omega
 ·go_enter Tryz.func165,Tryz.ntmps165
  go_wp2_with (go_at_call 180;refine(iM _ _).mono ?_;rintro e w' ⟨rfl,rfl⟩)
  all_goals
   go_ret
   refine⟨gE ?_,rfl⟩;rw[show doP 19 a b=(a+b)%4294967296 by simp[doP]];omega
 ·go_enter Tryz.func165,Tryz.ntmps165
  go_wp2_with (go_at_call 180;refine(iM _ _).mono ?_;rintro e w' ⟨rfl,rfl⟩)
  all_goals
   go_ret
   refine⟨gE ?_,rfl⟩;rw[show doP 29 a b=(a+4294967296-b)%4294967296 by simp[doP]];omega
 ·go_enter Tryz.func165,Tryz.ntmps165
  go_wp2_with (go_at_call 180;refine(iM _ _).mono ?_;rintro e w' ⟨rfl,rfl⟩)
  all_goals
   go_ret
   refine⟨gE ?_,rfl⟩;rw[show doP 37 a b=a&&&b by simp[doP]];exact u32_and_nat a b ha hb
 ·go_enter Tryz.func165,Tryz.ntmps165
  go_wp2_with (go_at_call 180;refine(iM _ _).mono ?_;rintro e w' ⟨rfl,rfl⟩)
  all_goals
   go_ret
   refine⟨gE ?_,rfl⟩;rw[show doP 24 a b=a&&&b by simp[doP]];exact u32_and_nat a b ha hb
 ·go_enter Tryz.func165,Tryz.ntmps165
  go_wp2_with (go_at_call 180;refine(iM _ _).mono ?_;rintro e w' ⟨rfl,rfl⟩)
  all_goals
   go_ret
   refine⟨gE ?_,rfl⟩;rw[show doP 36 a b=a ||| b by simp[doP]];exact u32_or_nat a b ha hb
 ·go_enter Tryz.func165,Tryz.ntmps165
  go_wp2_with (go_at_call 180;refine(iM _ _).mono ?_;rintro e w' ⟨rfl,rfl⟩)
  all_goals
   go_ret
   refine⟨gE ?_,rfl⟩;rw[show doP 23 a b=a ||| b by simp[doP]];exact u32_or_nat a b ha hb
 ·go_enter Tryz.func165,Tryz.ntmps165
  go_wp2_with (go_at_call 180;refine(iM _ _).mono ?_;rintro e w' ⟨rfl,rfl⟩)
  all_goals
   go_ret
   refine⟨gE ?_,rfl⟩;rw[show doP 33 a b=a^^^b by simp[doP]];exact u32_xor_nat a b ha hb
 ·go_enter Tryz.func165,Tryz.ntmps165
  go_wp2_with (go_at_call 180;refine(iM _ _).mono ?_;rintro e w' ⟨rfl,rfl⟩)
  all_goals
   go_ret
   refine⟨gE ?_,rfl⟩;rw[show doP 22 a b=a^^^b by simp[doP]];exact u32_xor_nat a b ha hb
 ·go_enter Tryz.func165,Tryz.ntmps165
  go_wp2_with (go_at_call 180;refine(iM _ _).mono ?_;rintro e w' ⟨rfl,rfl⟩)
  all_goals
   go_ret
   refine⟨gE ?_,rfl⟩;rw[show doP 30 a b=a*2 ^ (b%32)%4294967296 by simp[doP]];rw[hsd.out];simp
 ·go_enter Tryz.func165,Tryz.ntmps165
  go_wp2_with (go_at_call 180;refine(iM _ _).mono ?_;rintro e w' ⟨rfl,rfl⟩)
  all_goals
   go_ret
   refine⟨gE ?_,rfl⟩;rw[show doP 25 a b=a*2 ^ (b%32)%4294967296 by simp[doP]];rw[hsd.out];simp
 ·go_enter Tryz.func165,Tryz.ntmps165
  go_wp2_with (go_at_call 180;refine(iM _ _).mono ?_;rintro e w' ⟨rfl,rfl⟩)
  all_goals
   go_ret
   refine⟨gE ?_,rfl⟩;rw[show doP 34 a b=a/2 ^ (b%32) by simp[doP]];rw[hsd.out];simp
 ·go_enter Tryz.func165,Tryz.ntmps165
  go_wp2_with (go_at_call 180;refine(iM _ _).mono ?_;rintro e w' ⟨rfl,rfl⟩)
  all_goals
   go_ret
   refine⟨gE ?_,rfl⟩;rw[show doP 26 a b=a/2 ^ (b%32) by simp[doP]];rw[hsd.out];simp
 ·go_enter Tryz.func165,Tryz.ntmps165
  go_wp2_with (go_at_call 180;refine(iM _ _).mono ?_;rintro e w' ⟨rfl,rfl⟩)
  all_goals
   go_ret
   refine⟨gE ?_,rfl⟩;rw[show doP 35 a b=wordOf (sgn a/2 ^ (b%32)) by simp[doP]];rw[hsd.out,zF]
 ·go_enter Tryz.func165,Tryz.ntmps165
  go_wp2_with (go_at_call 180;refine(iM _ _).mono ?_;rintro e w' ⟨rfl,rfl⟩)
  all_goals
   go_ret
   refine⟨gE ?_,rfl⟩;rw[show doP 27 a b=wordOf (sgn a/2 ^ (b%32)) by simp[doP]];rw[hsd.out,zF]
 ·go_enter Tryz.func165,Tryz.ntmps165
  go_wp2_with (go_at_call 180;refine(iM _ _).mono ?_;rintro e w' ⟨rfl,rfl⟩)
  all_goals
   go_ret
   refine⟨gE ?_,rfl⟩;rw[show doP 31 a b=if sgn a<sgn b then 1 else 0 by simp[doP]]
   first|(rw[if_pos (by assumption)];rfl)|(rw[if_neg (by omega)];rfl)
 ·go_enter Tryz.func165,Tryz.ntmps165
  go_wp2_with (go_at_call 180;refine(iM _ _).mono ?_;rintro e w' ⟨rfl,rfl⟩)
  all_goals
   go_ret
   refine⟨gE ?_,rfl⟩;rw[show doP 20 a b=if sgn a<sgn b then 1 else 0 by simp[doP]]
   first|(rw[if_pos (by assumption)];rfl)|(rw[if_neg (by omega)];rfl)
 ·go_enter Tryz.func165,Tryz.ntmps165
  go_wp2_with (go_at_call 180;refine(iM _ _).mono ?_;rintro e w' ⟨rfl,rfl⟩)
  all_goals
   go_ret
   refine⟨gE ?_,rfl⟩;rw[show doP 32 a b=if a<b then 1 else 0 by simp[doP]]
   first|(rw[if_pos (by omega)];rfl)|(rw[if_neg (by omega)];rfl)
 ·go_enter Tryz.func165,Tryz.ntmps165
  go_wp2_with (go_at_call 180;refine(iM _ _).mono ?_;rintro e w' ⟨rfl,rfl⟩)
  all_goals
   go_ret
   refine⟨gE ?_,rfl⟩;rw[show doP 21 a b=if a<b then 1 else 0 by simp[doP]]
   first|(rw[if_pos (by omega)];rfl)|(rw[if_neg (by omega)];rfl)
 ·go_enter Tryz.func165,Tryz.ntmps165
  go_wp2_with (go_at_call 180;refine(iM _ _).mono ?_;rintro e w' ⟨rfl,rfl⟩)
  all_goals
   go_ret
   refine⟨gE ?_,rfl⟩;rw[show doP 1 a b=b by simp[doP]]
 ·have hv:Hid (doP op a b=0):=by
   show _=_;unfold doP;simp only[n0,n1,n2,n3,n4,n5,n6,n7,n8,n9,n10,n11,n12,n13,n14,n15,n16,n17,n18,n19,or_self, ↓reduceIte]
  have m0:(op==(28:Int))=false:=by simpa using n0
  have m1:(op==(19:Int))=false:=by simpa using n1
  have m2:(op==(29:Int))=false:=by simpa using n2
  have m3:(op==(37:Int))=false:=by simpa using n3
  have m4:(op==(24:Int))=false:=by simpa using n4
  have m5:(op==(36:Int))=false:=by simpa using n5
  have m6:(op==(23:Int))=false:=by simpa using n6
  have m7:(op==(33:Int))=false:=by simpa using n7
  have m8:(op==(22:Int))=false:=by simpa using n8
  have m9:(op==(30:Int))=false:=by simpa using n9
  have m10:(op==(25:Int))=false:=by simpa using n10
  have m11:(op==(34:Int))=false:=by simpa using n11
  have m12:(op==(26:Int))=false:=by simpa using n12
  have m13:(op==(35:Int))=false:=by simpa using n13
  have m14:(op==(27:Int))=false:=by simpa using n14
  have m15:(op==(31:Int))=false:=by simpa using n15
  have m16:(op==(20:Int))=false:=by simpa using n16
  have m17:(op==(32:Int))=false:=by simpa using n17
  have m18:(op==(21:Int))=false:=by simpa using n18
  have m19:(op==(1:Int))=false:=by simpa using n19
  clear n0 n1 n2 n3 n4 n5 n6 n7 n8 n9 n10 n11 n12 n13 n14 n15 n16 n17 n18 n19
  go_enter Tryz.func165,Tryz.ntmps165
  go_wp2_with fail
  go_ret
  exact⟨by rw[hv.out];rfl,rfl⟩
set_option maxHeartbeats 4000000 in
theorem Wd(op:Int)(a b:Nat)(w:World)(ha:a<4294967296)(hb:b<4294967296):Calls Tryz.prog 162 #[.int .i64 op,.int .u32 a,.int .u32 b] w λe w'=>e=.returned (.int .u32 (Kn op a b))∧w=w':=by
 have wa:=xB a ha;have wb:=xB b hb;have sa:=GB a ha;have sb:=GB b hb;have hc:op=38∨op=39∨op=40∨op=41∨(op≠38∧op≠39∧op≠40∧op≠41):=by omega
 rcases hc with rfl|rfl|rfl|rfl|⟨n1,n2,n3,n4⟩
 ·go_enter Tryz.func162,Tryz.ntmps162
  go_wp2_with fail
  go_ret
  refine⟨gE ?_,rfl⟩;rw[show Kn 38 a b=a*b%4294967296 by simp[Kn]];simp
 ·go_enter Tryz.func162,Tryz.ntmps162
  go_wp2_with fail
  go_ret
  refine⟨gE ?_,rfl⟩;rw[show Kn 39 a b=wordOf (sgn a*sgn b/4294967296) by simp[Kn],zF,ER];generalize sgn a*sgn b=x;omega
 ·go_enter Tryz.func162,Tryz.ntmps162
  go_wp2_with fail
  go_ret
  refine⟨gE ?_,rfl⟩;rw[show Kn 40 a b=wordOf (sgn a*b/4294967296) by simp[Kn],zF,ER];generalize sgn a*(b:Int)=x;omega
 ·go_enter Tryz.func162,Tryz.ntmps162
  go_wp2_with fail
  go_ret
  refine⟨gE ?_,rfl⟩;have hp:a*b<18446744073709551616:=Nat.lt_of_lt_of_le (Nat.mul_lt_mul'' ha hb) (by decide);rw[show Kn 41 a b=a*b/4294967296 by simp[Kn],MN, <-Int.natCast_mul];generalize a*b=x at *;omega
 ·have hv:Hid (Kn op a b=0):=by
   show _=_;unfold Kn;simp only[n1,n2,n3,n4, ↓reduceIte]
  have m1:(op==(38:Int))=false:=by simpa using n1
  have m2:(op==(39:Int))=false:=by simpa using n2
  have m3:(op==(40:Int))=false:=by simpa using n3
  have m4:(op==(41:Int))=false:=by simpa using n4
  clear n1 n2 n3 n4
  go_enter Tryz.func162,Tryz.ntmps162
  go_wp2_with fail
  go_ret
  exact⟨by rw[hv.out];rfl,rfl⟩
def zG{x y:Bool}(h:x=y):Ending.returned (Value.bool x)=Ending.returned (Value.bool y):=by rw[h]
set_option maxHeartbeats 4000000 in
theorem Qt(op:Int)(a b:Nat)(w:World)(ha:a<4294967296)(hb:b<4294967296):Calls Tryz.prog 182 #[.int .i64 op,.int .u32 a,.int .u32 b] w λe w'=>e=.returned (.bool (JJ op a b))∧w=w':=by
 have wa:=xB a ha;have wb:=xB b hb;have hc:op=5∨op=6∨op=7∨op=8∨op=9∨op=10∨(op≠5∧op≠6∧op≠7∧op≠8∧op≠9∧op≠10):=by omega
 rcases hc with rfl|rfl|rfl|rfl|rfl|rfl|⟨n1,n2,n3,n4,n5,n6⟩
 ·go_enter Tryz.func182,Tryz.ntmps182
  go_wp2_with fail
  all_goals
   go_ret
   refine⟨zG ?_,rfl⟩;show _=(a==b);rw[bX];simp;omega
 ·go_enter Tryz.func182,Tryz.ntmps182
  go_wp2_with fail
  all_goals
   go_ret
   refine⟨zG ?_,rfl⟩;show _=(!(a==b));rw[bX];simp;omega
 ·go_enter Tryz.func182,Tryz.ntmps182
  go_wp2_with fail
  all_goals
   go_ret
   refine⟨zG ?_,rfl⟩;show _=decide (sgn a<sgn b)
   first|rfl|simp[*]|(rw[bX];simp;omega)
 ·go_enter Tryz.func182,Tryz.ntmps182
  go_wp2_with fail
  all_goals
   go_ret
   refine⟨zG ?_,rfl⟩;show _=decide (sgn b<=sgn a)
   first|rfl|simp[*]|(rw[bX];simp;omega)
 ·go_enter Tryz.func182,Tryz.ntmps182
  go_wp2_with fail
  all_goals
   go_ret
   refine⟨zG ?_,rfl⟩;show _=decide (a<b)
   first|rfl|simp[*]|(rw[bX];simp;omega)
 ·go_enter Tryz.func182,Tryz.ntmps182
  go_wp2_with fail
  all_goals
   go_ret
   refine⟨zG ?_,rfl⟩;show _=decide (b<=a)
   first|rfl|simp[*]|(rw[bX];simp;omega)
 ·have hv:Hid (JJ op a b=false):=by
   show _=_;unfold JJ;simp only[n1,n2,n3,n4,n5,n6, ↓reduceIte]
  have m1:(op==(5:Int))=false:=by simpa using n1
  have m2:(op==(6:Int))=false:=by simpa using n2
  have m3:(op==(7:Int))=false:=by simpa using n3
  have m4:(op==(8:Int))=false:=by simpa using n4
  have m5:(op==(9:Int))=false:=by simpa using n5
  have m6:(op==(10:Int))=false:=by simpa using n6
  clear n1 n2 n3 n4 n5 n6
  go_enter Tryz.func182,Tryz.ntmps182
  go_wp2_with fail
  go_ret
  exact⟨by rw[hv.out];rfl,rfl⟩
end Go.Proofs.YtgleompefdogkaaGreatDoor
