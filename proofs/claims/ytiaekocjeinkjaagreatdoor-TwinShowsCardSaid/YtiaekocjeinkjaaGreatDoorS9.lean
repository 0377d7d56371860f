import Derived.Test.YtiaekocjeinkjaaGreatDoorProg
import Derived.Test.YtiaekocjeinkjaaGreatDoorS2
set_option linter.all false
namespace Go.Proofs.YtiaekocjeinkjaaGreatDoor
open Go.Proofs.Tryz
open Go.RowKit
def bw(x:Nat):Int:=if x<2147483648 then(x:Int)else(x:Int)-4294967296
def fi(n:Int):Nat:=(n%4294967296).toNat
def tP(n:Int):((fi n:Nat):Int)=n%4294967296:=by unfold fi;omega
def Fm(n:Int):fi n<4294967296:=by unfold fi;omega
def b7(c:Int)(a b:Nat):Nat:=
 if c=28\/c=19 then(a+b)%4294967296 else if c=29 then(a+4294967296-b)%4294967296
 else if c=37\/c=24 then a&&&b else if c=36\/c=23 then a ||| b else if c=33\/c=22 then a^^^b
 else if c=30\/c=25 then a*2 ^ (b%32)%4294967296 else if c=34\/c=26 then a/2 ^ (b%32)
 else if c=35\/c=27 then fi (bw a/2 ^ (b%32))else if c=31\/c=20 then(if bw a<bw b then 1 else 0)
 else if c=32\/c=21 then(if a<b then 1 else 0)else if c=1 then b else 0
def hJ(c:Int)(a b:Nat):Nat:=
 if c=38 then a*b%4294967296 else if c=39 then fi (bw a*bw b/4294967296)else if c=40 then fi (bw a*b/4294967296)
 else if c=41 then a*b/4294967296 else 0
def tB(c:Int)(a b:Nat):Bool:=
 if c=5 then a==b else if c=6 then !(a==b)else if c=7 then decide (bw a<bw b)else if c=8 then decide (bw b<=bw a)
 else if c=9 then decide (a<b)else if c=10 then decide (b<=a)else false
def xD(a:Nat)(h:a<4294967296):IntKind.i32.wrap (a:Int)=bw a:=by
 have e:(a:Int)%4294967296=a:=oT;simp only[IntKind.wrap,IntKind.bits,IntKind.signed,bw,kL,Int.reducePow,Nat.reduceSub,e,aY];by_cases b:a<2147483648
 .rw[dZ oT,aa b]
 rw[aa oT,dZ b]
def Ny(n:Int):IntKind.u64.wrap n=n%18446744073709551616:=by simp[IntKind.wrap,IntKind.bits,IntKind.signed]
def Fn(n:Int):IntKind.u64.wrap (wrap64 n)=n%18446744073709551616:=by
 rw[Ny];unfold wrap64;omega
def iK(t:Bool)(w:World):Calls Tryz.prog 247 #[.bool t] w λe w'=>e=.returned (.int .u32 (if t=true then 1 else 0))/\w=w':=by
 cases t
 all_goals
  go_enter func247,ntmps247
  go_wp2
  go_ret
  exact⟨R,R⟩
def gH{x y:Int}(h:x=y):Ending.returned (Value.int .u32 x)=Ending.returned (Value.int .u32 y):=by rw[h]
def Ha(a:Nat)(h:a<4294967296): -2147483648<=bw a/\bw a<2147483648:=by unfold bw;split<;>omega
set_option maxHeartbeats 4000000 in
theorem yj(op:Int)(a b:Nat)(w:World)(ha:a<4294967296)(hb:b<4294967296):Calls Tryz.prog 234 #[.int .i64 op,.int .u32 a,.int .u32 b] w λe w'=>e=.returned (.int .u32 (b7 op a b))/\w=w':=by
 have hm:bits .and .u32 (b:Int) 31=((b%32:Nat):Int):=by
  rw[show(31:Int)=((2 ^ 5-1:Nat):Int) by rfl,u32_and_nat _ _ hb dT,eV]
 have hs:b%32<32:=aQ _ dT;have wa:=xD a ha;have wb:=xD b hb;have hc:op=28\/op=19\/op=29\/op=37\/op=24\/op=36\/op=23\/op=33\/op=22\/op=30\/op=25\/op=34\/op=26\/op=35\/op=27\/op=31\/op=20\/op=32\/op=21\/op=1\/(op≠28/\op≠19/\op≠29/\op≠37/\op≠24/\op≠36/\op≠23/\op≠33/\op≠22/\op≠30/\op≠25/\op≠34/\op≠26/\op≠35/\op≠27/\op≠31/\op≠20/\op≠32/\op≠21/\op≠1):=oT;obtain⟨s,hse⟩:∃s,s=b%32:=⟨_,R⟩;rw[<-hse]at hm hs;have hsd:=Lib.hid hse.symm;clear hse;rcases hc with rfl|rfl|rfl|rfl|rfl|rfl|rfl|rfl|rfl|rfl|rfl|rfl|rfl|rfl|rfl|rfl|rfl|rfl|rfl|rfl|⟨n0,n1,n2,n3,n4,n5,n6,n7,n8,n9,n10,n11,n12,n13,n14,n15,n16,n17,n18,n19⟩
 .go_enter func234,ntmps234
  go_wp2_with (go_at_call 247;refine(iK _ _).mono ?_;rintro e w' ⟨rfl,rfl⟩)
  all_goals
   go_ret
   refine⟨gH ?_,R⟩;rw[show b7 28 a b=(a+b)%4294967296 by simp[b7]];omega
 .go_enter func234,ntmps234
  go_wp2_with (go_at_call 247;refine(iK _ _).mono ?_;rintro e w' ⟨rfl,rfl⟩)
  all_goals
   go_ret
   refine⟨gH ?_,R⟩;rw[show b7 19 a b=(a+b)%4294967296 by simp[b7]];omega
 .go_enter func234,ntmps234
  go_wp2_with (go_at_call 247;refine(iK _ _).mono ?_;rintro e w' ⟨rfl,rfl⟩)
  all_goals
   go_ret
   refine⟨gH ?_,R⟩;rw[show b7 29 a b=(a+4294967296-b)%4294967296 by simp[b7]];omega
 .go_enter func234,ntmps234
  go_wp2_with (go_at_call 247;refine(iK _ _).mono ?_;rintro e w' ⟨rfl,rfl⟩)
  all_goals
   go_ret
   refine⟨gH ?_,R⟩;rw[show b7 37 a b=a&&&b by simp[b7]];exact u32_and_nat a b ha hb
 .go_enter func234,ntmps234
  go_wp2_with (go_at_call 247;refine(iK _ _).mono ?_;rintro e w' ⟨rfl,rfl⟩)
  all_goals
   go_ret
   refine⟨gH ?_,R⟩;rw[show b7 24 a b=a&&&b by simp[b7]];exact u32_and_nat a b ha hb
 .go_enter func234,ntmps234
  go_wp2_with (go_at_call 247;refine(iK _ _).mono ?_;rintro e w' ⟨rfl,rfl⟩)
  all_goals
   go_ret
   refine⟨gH ?_,R⟩;rw[show b7 36 a b=a ||| b by simp[b7]];exact u32_or_nat a b ha hb
 .go_enter func234,ntmps234
  go_wp2_with (go_at_call 247;refine(iK _ _).mono ?_;rintro e w' ⟨rfl,rfl⟩)
  all_goals
   go_ret
   refine⟨gH ?_,R⟩;rw[show b7 23 a b=a ||| b by simp[b7]];exact u32_or_nat a b ha hb
 .go_enter func234,ntmps234
  go_wp2_with (go_at_call 247;refine(iK _ _).mono ?_;rintro e w' ⟨rfl,rfl⟩)
  all_goals
   go_ret
   refine⟨gH ?_,R⟩;rw[show b7 33 a b=a^^^b by simp[b7]];exact u32_xor_nat a b ha hb
 .go_enter func234,ntmps234
  go_wp2_with (go_at_call 247;refine(iK _ _).mono ?_;rintro e w' ⟨rfl,rfl⟩)
  all_goals
   go_ret
   refine⟨gH ?_,R⟩;rw[show b7 22 a b=a^^^b by simp[b7]];exact u32_xor_nat a b ha hb
 .go_enter func234,ntmps234
  go_wp2_with (go_at_call 247;refine(iK _ _).mono ?_;rintro e w' ⟨rfl,rfl⟩)
  all_goals
   go_ret
   refine⟨gH ?_,R⟩;rw[show b7 30 a b=a*2 ^ (b%32)%4294967296 by simp[b7]];rw[hsd.out];simp
 .go_enter func234,ntmps234
  go_wp2_with (go_at_call 247;refine(iK _ _).mono ?_;rintro e w' ⟨rfl,rfl⟩)
  all_goals
   go_ret
   refine⟨gH ?_,R⟩;rw[show b7 25 a b=a*2 ^ (b%32)%4294967296 by simp[b7]];rw[hsd.out];simp
 .go_enter func234,ntmps234
  go_wp2_with (go_at_call 247;refine(iK _ _).mono ?_;rintro e w' ⟨rfl,rfl⟩)
  all_goals
   go_ret
   refine⟨gH ?_,R⟩;rw[show b7 34 a b=a/2 ^ (b%32) by simp[b7]];rw[hsd.out];simp
 .go_enter func234,ntmps234
  go_wp2_with (go_at_call 247;refine(iK _ _).mono ?_;rintro e w' ⟨rfl,rfl⟩)
  all_goals
   go_ret
   refine⟨gH ?_,R⟩;rw[show b7 26 a b=a/2 ^ (b%32) by simp[b7]];rw[hsd.out];simp
 .go_enter func234,ntmps234
  go_wp2_with (go_at_call 247;refine(iK _ _).mono ?_;rintro e w' ⟨rfl,rfl⟩)
  all_goals
   go_ret
   refine⟨gH ?_,R⟩;rw[show b7 35 a b=fi (bw a/2 ^ (b%32)) by simp[b7]];rw[hsd.out,tP]
 .go_enter func234,ntmps234
  go_wp2_with (go_at_call 247;refine(iK _ _).mono ?_;rintro e w' ⟨rfl,rfl⟩)
  all_goals
   go_ret
   refine⟨gH ?_,R⟩;rw[show b7 27 a b=fi (bw a/2 ^ (b%32)) by simp[b7]];rw[hsd.out,tP]
 .go_enter func234,ntmps234
  go_wp2_with (go_at_call 247;refine(iK _ _).mono ?_;rintro e w' ⟨rfl,rfl⟩)
  all_goals
   go_ret
   refine⟨gH ?_,R⟩;rw[show b7 31 a b=if bw a<bw b then 1 else 0 by simp[b7]]
   first|(rw[aa (by assumption)];rfl)|(rw[dZ oT];rfl)
 .go_enter func234,ntmps234
  go_wp2_with (go_at_call 247;refine(iK _ _).mono ?_;rintro e w' ⟨rfl,rfl⟩)
  all_goals
   go_ret
   refine⟨gH ?_,R⟩;rw[show b7 20 a b=if bw a<bw b then 1 else 0 by simp[b7]]
   first|(rw[aa (by assumption)];rfl)|(rw[dZ oT];rfl)
 .go_enter func234,ntmps234
  go_wp2_with (go_at_call 247;refine(iK _ _).mono ?_;rintro e w' ⟨rfl,rfl⟩)
  all_goals
   go_ret
   refine⟨gH ?_,R⟩;rw[show b7 32 a b=if a<b then 1 else 0 by simp[b7]]
   first|(rw[aa oT];rfl)|(rw[dZ oT];rfl)
 .go_enter func234,ntmps234
  go_wp2_with (go_at_call 247;refine(iK _ _).mono ?_;rintro e w' ⟨rfl,rfl⟩)
  all_goals
   go_ret
   refine⟨gH ?_,R⟩;rw[show b7 21 a b=if a<b then 1 else 0 by simp[b7]]
   first|(rw[aa oT];rfl)|(rw[dZ oT];rfl)
 .go_enter func234,ntmps234
  go_wp2_with (go_at_call 247;refine(iK _ _).mono ?_;rintro e w' ⟨rfl,rfl⟩)
  all_goals
   go_ret
   refine⟨gH ?_,R⟩;rw[show b7 1 a b=b by simp[b7]]
 .have hv:Hid (b7 op a b=0):=by
   show _=_;unfold b7;simp only[n0,n1,n2,n3,n4,n5,n6,n7,n8,n9,n10,n11,n12,n13,n14,n15,n16,n17,n18,n19,or_self, ↓reduceIte]
  have m0:(op==(28:Int))=false:=sU n0;have m1:(op==(19:Int))=false:=sU n1;have m2:(op==(29:Int))=false:=sU n2;have m3:(op==(37:Int))=false:=sU n3;have m4:(op==(24:Int))=false:=sU n4;have m5:(op==(36:Int))=false:=sU n5;have m6:(op==(23:Int))=false:=sU n6;have m7:(op==(33:Int))=false:=sU n7;have m8:(op==(22:Int))=false:=sU n8;have m9:(op==(30:Int))=false:=sU n9;have m10:(op==(25:Int))=false:=sU n10;have m11:(op==(34:Int))=false:=sU n11;have m12:(op==(26:Int))=false:=sU n12;have m13:(op==(35:Int))=false:=sU n13;have m14:(op==(27:Int))=false:=sU n14;have m15:(op==(31:Int))=false:=sU n15;have m16:(op==(20:Int))=false:=sU n16;have m17:(op==(32:Int))=false:=sU n17;have m18:(op==(21:Int))=false:=sU n18;have m19:(op==(1:Int))=false:=sU n19;clear n0 n1 n2 n3 n4 n5 n6 n7 n8 n9 n10 n11 n12 n13 n14 n15 n16 n17 n18 n19
  go_enter func234,ntmps234
  go_wp2_with fail
  go_ret
  exact⟨by rw[hv.out];rfl,R⟩
set_option maxHeartbeats 4000000 in
theorem XD(op:Int)(a b:Nat)(w:World)(ha:a<4294967296)(hb:b<4294967296):Calls Tryz.prog 231 #[.int .i64 op,.int .u32 a,.int .u32 b] w λe w'=>e=.returned (.int .u32 (hJ op a b))/\w=w':=by
 have wa:=xD a ha;have wb:=xD b hb;have sa:=Ha a ha;have sb:=Ha b hb;have hc:op=38\/op=39\/op=40\/op=41\/(op≠38/\op≠39/\op≠40/\op≠41):=oT;rcases hc with rfl|rfl|rfl|rfl|⟨n1,n2,n3,n4⟩
 .go_enter func231,ntmps231
  go_wp2_with fail
  go_ret
  refine⟨gH ?_,rfl⟩;rw[show hJ 38 a b=a*b%4294967296 by simp[hJ]];simp
 .go_enter func231,ntmps231
  go_wp2_with fail
  go_ret
  refine⟨gH ?_,rfl⟩;rw[show hJ 39 a b=fi (bw a*bw b/4294967296) by simp[hJ],tP,Fn];generalize bw a*bw b=x;omega
 .go_enter func231,ntmps231
  go_wp2_with fail
  go_ret
  refine⟨gH ?_,rfl⟩;rw[show hJ 40 a b=fi (bw a*b/4294967296) by simp[hJ],tP,Fn];generalize bw a*(b:Int)=x;omega
 .go_enter func231,ntmps231
  go_wp2_with fail
  go_ret
  refine⟨gH ?_,rfl⟩;have hp:a*b<18446744073709551616:=e5 (Nat.mul_lt_mul'' ha hb) dT;rw[show hJ 41 a b=a*b/4294967296 by simp[hJ],Ny, <-Int.natCast_mul];generalize a*b=x at *;omega
 .have hv:Hid (hJ op a b=0):=by
   show _=_;unfold hJ;simp only[n1,n2,n3,n4, ↓reduceIte]
  have m1:(op==(38:Int))=false:=sU n1;have m2:(op==(39:Int))=false:=sU n2;have m3:(op==(40:Int))=false:=sU n3;have m4:(op==(41:Int))=false:=sU n4;clear n1 n2 n3 n4
  go_enter func231,ntmps231
  go_wp2_with fail
  go_ret
  exact⟨by rw[hv.out];rfl,R⟩
def zJ{x y:Bool}(h:x=y):Ending.returned (Value.bool x)=Ending.returned (Value.bool y):=by rw[h]
set_option maxHeartbeats 4000000 in
theorem Rr(op:Int)(a b:Nat)(w:World)(ha:a<4294967296)(hb:b<4294967296):Calls Tryz.prog 249 #[.int .i64 op,.int .u32 a,.int .u32 b] w λe w'=>e=.returned (.bool (tB op a b))/\w=w':=by
 have wa:=xD a ha;have wb:=xD b hb;have hc:op=5\/op=6\/op=7\/op=8\/op=9\/op=10\/(op≠5/\op≠6/\op≠7/\op≠8/\op≠9/\op≠10):=oT;rcases hc with rfl|rfl|rfl|rfl|rfl|rfl|⟨n1,n2,n3,n4,n5,n6⟩
 .go_enter func249,ntmps249
  go_wp2_with fail
  all_goals
   go_ret
   refine⟨zJ ?_,rfl⟩;show _=(a==b);rw[bB];simp;omega
 .go_enter func249,ntmps249
  go_wp2_with fail
  all_goals
   go_ret
   refine⟨zJ ?_,rfl⟩;show _=(!(a==b));rw[bB];simp;omega
 .go_enter func249,ntmps249
  go_wp2_with fail
  all_goals
   go_ret
   refine⟨zJ ?_,rfl⟩;show _=decide (bw a<bw b)
   first|rfl|simp[*]|(rw[bB];simp;omega)
 .go_enter func249,ntmps249
  go_wp2_with fail
  all_goals
   go_ret
   refine⟨zJ ?_,rfl⟩;show _=decide (bw b<=bw a)
   first|rfl|simp[*]|(rw[bB];simp;omega)
 .go_enter func249,ntmps249
  go_wp2_with fail
  all_goals
   go_ret
   refine⟨zJ ?_,rfl⟩;show _=decide (a<b)
   first|rfl|simp[*]|(rw[bB];simp;omega)
 .go_enter func249,ntmps249
  go_wp2_with fail
  all_goals
   go_ret
   refine⟨zJ ?_,rfl⟩;show _=decide (b<=a)
   first|rfl|simp[*]|(rw[bB];simp;omega)
 .have hv:Hid (tB op a b=false):=by
   show _=_;unfold tB;simp only[n1,n2,n3,n4,n5,n6, ↓reduceIte]
  have m1:(op==(5:Int))=false:=sU n1;have m2:(op==(6:Int))=false:=sU n2;have m3:(op==(7:Int))=false:=sU n3;have m4:(op==(8:Int))=false:=sU n4;have m5:(op==(9:Int))=false:=sU n5;have m6:(op==(10:Int))=false:=sU n6;clear n1 n2 n3 n4 n5 n6
  go_enter func249,ntmps249
  go_wp2_with fail
  go_ret
  exact⟨by rw[hv.out];rfl,R⟩
end Go.Proofs.YtiaekocjeinkjaaGreatDoor
