/- Lemmas. -/
import Derived.Test.YtlpkggpdjobpmaaGreatDoorS1
import Derived.Test.YtlpkggpdjobpmaaGreatDoorS26
import Derived.Test.YtlpkggpdjobpmaaGreatDoorS30
import Derived.Test.YtlpkggpdjobpmaaGreatDoorS31
import Derived.Test.YtlpkggpdjobpmaaGreatDoorS33
import Derived.Test.YtlpkggpdjobpmaaGreatDoorS36
import Derived.Test.YtlpkggpdjobpmaaGreatDoorS37
set_option linter.all false
namespace Go.Proofs.YtlpkggpdjobpmaaGreatDoor
open Go.Proofs.Tryz
set_option maxRecDepth 100000
set_option maxHeartbeats 4000000
open Go.RowKit
def sS(op):((op=11∨op=14∨op=16)∧sizeOf' op=1)∨((op=12∨op=15∨op=17)∧sizeOf' op=2)∨((op=13∨op=18)∧sizeOf' op=4)∨((op<11∨18<op)∧sizeOf' op=0):=by
 unfold sizeOf'
 (repeat' split)<;>first|(simp;done)|(simp;omega)
def letterOf(op:Int):Nat:=
 if op<1∨48<op then 0 else if op<=2 then 85 else if op=3 then 74 else if op=4 then 73 else if op<=10 then 66 else if op<=15 then 73 else if op<=18 then 83
 else if op<=24 then 73 else if op<=27 then 84 else if op<=45 then 82 else 87
def dN(op):((op<1∨48<op)∧letterOf op=0)∨((1<=op∧op<=2)∧letterOf op=85)∨((op=3)∧letterOf op=74)∨((op=4)∧letterOf op=73)∨((5<=op∧op<=10)∧letterOf op=66)∨((11<=op∧op<=15)∧letterOf op=73)∨((16<=op∧op<=18)∧letterOf op=83)∨((19<=op∧op<=24)∧letterOf op=73)∨((25<=op∧op<=27)∧letterOf op=84)∨((28<=op∧op<=45)∧letterOf op=82)∨((46<=op∧op<=48)∧letterOf op=87):=by
 unfold letterOf
 (repeat' split)<;>first|(simp;done)|(simp;omega)
def oG(op):((3<=op∧op<=10)∧kindOf op=5)∨((11<=op∧op<=15)∧kindOf op=3)∨((16<=op∧op<=18)∧kindOf op=4)∨((38<=op∧op<=41)∧kindOf op=1)∨((42<=op∧op<=45)∧kindOf op=2)∨((op=47∨op=48)∧kindOf op=6)∨((op<3∨(19<=op∧op<=37)∨op=46∨48<op)∧kindOf op=0):=by
 unfold kindOf
 (repeat' split)<;>first|(simp;done)|(simp;omega)
def Dl(i):((letterOf i.op=82∨letterOf i.op=73∨letterOf i.op=84∨letterOf i.op=85∨letterOf i.op=74)∧wr i=i.rd)∨(¬(letterOf i.op=82∨letterOf i.op=73∨letterOf i.op=84∨letterOf i.op=85∨letterOf i.op=74)∧wr i=0):=by
 unfold wr;have:yW (cW i.op)=decide (letterOf i.op=82∨letterOf i.op=73∨letterOf i.op=84∨letterOf i.op=85∨letterOf i.op=74):=by
  unfold cW letterOf
  (repeat' split)<;>first|rfl|(exfalso;omega)
 rw[this];simp only[aY];split<;>omega
def abK(op):bI C0 31 [vI op] (.v (.int .i64 ((sizeOf' op:Nat):Int))):=by
 refine dIZ func31 rfl ?_;refine zE2 op 11 (λh1=>?_) (λh1=>?_)
 ·refine zT (pEq.2 h1) ?_;exact fI rfl (oH (sS op))
 refine zE2 op 14 (λh2=>?_) (λh2=>?_)
 ·refine zT (pEq.2 h2) ?_;exact fI rfl (oH (sS op))
 refine zE2 op 16 (λh3=>?_) (λh3=>?_)
 ·exact fI rfl (oH (sS op))
 refine zE2 op 12 (λh4=>?_) (λh4=>?_)
 ·refine zT (pEq.2 h4) ?_;exact fI rfl (oH (sS op))
 refine zE2 op 15 (λh5=>?_) (λh5=>?_)
 ·refine zT (pEq.2 h5) ?_;exact fI rfl (oH (sS op))
 refine zE2 op 17 (λh6=>?_) (λh6=>?_)
 ·exact fI rfl (oH (sS op))
 refine zE2 op 13 (λh7=>?_) (λh7=>?_)
 ·refine zT (pEq.2 h7) ?_;exact fI rfl (oH (sS op))
 refine zE2 op 18 (λh8=>?_) (λh8=>?_)
 ·exact fI rfl (oH (sS op))
 exact fI rfl (oH (sS op))
def Vs(op ):bI C0 88 [vI op] (.v (.int .u8 ((letterOf op:Nat):Int))):=by
 refine dIZ func88 rfl ?_;refine zE2 op 1 (λh1=>?_) (λh1=>?_)
 ·refine zT (pEq.2 h1) ?_;exact fI rfl (oH (dN op))
 refine zE2 op 2 (λh2=>?_) (λh2=>?_)
 ·exact fI rfl (oH (dN op))
 refine zE2 op 3 (λh3=>?_) (λh3=>?_)
 ·exact fI rfl (oH (dN op))
 refine zE2 op 5 (λh4=>?_) (λh4=>?_)
 ·refine zT (pEq.2 h4) ?_;exact fI rfl (oH (dN op))
 refine zE2 op 6 (λh5=>?_) (λh5=>?_)
 ·refine zT (pEq.2 h5) ?_;exact fI rfl (oH (dN op))
 refine zE2 op 7 (λh6=>?_) (λh6=>?_)
 ·refine zT (pEq.2 h6) ?_;exact fI rfl (oH (dN op))
 refine zE2 op 8 (λh7=>?_) (λh7=>?_)
 ·refine zT (pEq.2 h7) ?_;exact fI rfl (oH (dN op))
 refine zE2 op 9 (λh8=>?_) (λh8=>?_)
 ·refine zT (pEq.2 h8) ?_;exact fI rfl (oH (dN op))
 refine zE2 op 10 (λh9=>?_) (λh9=>?_)
 ·exact fI rfl (oH (dN op))
 refine zE2 op 16 (λh10=>?_) (λh10=>?_)
 ·refine zT (pEq.2 h10) ?_;exact fI rfl (oH (dN op))
 refine zE2 op 17 (λh11=>?_) (λh11=>?_)
 ·refine zT (pEq.2 h11) ?_;exact fI rfl (oH (dN op))
 refine zE2 op 18 (λh12=>?_) (λh12=>?_)
 ·exact fI rfl (oH (dN op))
 refine zE2 op 25 (λh13=>?_) (λh13=>?_)
 ·refine zT (pEq.2 h13) ?_;exact fI rfl (oH (dN op))
 refine zE2 op 26 (λh14=>?_) (λh14=>?_)
 ·refine zT (pEq.2 h14) ?_;exact fI rfl (oH (dN op))
 refine zE2 op 27 (λh15=>?_) (λh15=>?_)
 ·exact fI rfl (oH (dN op))
 refine zE2 op 46 (λh16=>?_) (λh16=>?_)
 ·refine zT (pEq.2 h16) ?_;exact fI rfl (oH (dN op))
 refine zE2 op 47 (λh17=>?_) (λh17=>?_)
 ·refine zT (pEq.2 h17) ?_;exact fI rfl (oH (dN op))
 refine zE2 op 48 (λh18=>?_) (λh18=>?_)
 ·exact fI rfl (oH (dN op))
 refine zV (vB (op==4))<|gBS rfl id rfl<|zG rfl id<|gBS rfl id rfl<|pB rfl rfl rfl rfl (λh=>h) rfl rfl (λhg hc=>by first|(rw[hg,hc];rfl)|simp_all)<|zN rfl (by simp) ?_;refine gBS rfl id rfl<|zG rfl id<|gBS rfl id rfl<|pB rfl rfl rfl rfl (λh=>h) rfl rfl (λhg hc=>by first|(rw[hg,hc];rfl)|simp_all)<|zN rfl (by simp) ?_;refine zPr ((op=4∨(op>=11∧op<=15))∨(op>=19∧op<=24)) (wP _ _ (wP _ _ pEq (uA _ _ qW qW)) (uA _ _ qW qW)) (λh19=>?_) (λh19=>?_)
 ·exact fI rfl (oH (dN op))
 refine zV (vB (decide (op>=28)))<|gBS rfl id rfl<|zN rfl (λh=>h) ?_;refine zPr (op>=28∧op<=45) (uA _ _ qW qW) (λh20=>?_) (λh20=>?_)
 ·exact fI rfl (oH (dN op))
 exact fI rfl (oH (dN op))
def SE(op):bI C0 28 [vI op] (.v (.int .i64 ((kindOf op:Nat):Int))):=by
 refine dIZ func28 rfl ?_;refine zC (Vs _)<|zW _ (okB (eqN _ _)) ?_;refine zEq (letterOf op) 83 (λh1=>?_) (λh1=>?_)
 ·exact fI rfl (by have:=dN op;have:=oG op;omega)
 refine zW _ (okB (eqN _ _))<|gBS rfl id (okB (eqN _ _))<|zN rfl (by simp)<|gBS rfl id rfl<|zN rfl (by simp) ?_;refine zPr (((letterOf op)=66∨(letterOf op)=74)∨op=4) (wP _ _ (wP _ _ pEq pEq) pEq) (λh2=>?_) (λh2=>?_)
 ·exact fI rfl (by have:=dN op;have:=oG op;omega)
 refine zV (vB (decide (op>=11)))<|gBS rfl id rfl<|zN rfl (λh=>h) ?_;refine zPr (op>=11∧op<=15) (uA _ _ qW qW) (λh3=>?_) (λh3=>?_)
 ·exact fI rfl (by have:=dN op;have:=oG op;omega)
 refine zV (vB (decide (op>=38)))<|gBS rfl id rfl<|zN rfl (λh=>h) ?_;refine zPr (op>=38∧op<=41) (uA _ _ qW qW) (λh4=>?_) (λh4=>?_)
 ·exact fI rfl (by have:=dN op;have:=oG op;omega)
 refine zV (vB (decide (op>=42)))<|gBS rfl id rfl<|zN rfl (λh=>h) ?_;refine zPr (op>=42∧op<=45) (uA _ _ qW qW) (λh5=>?_) (λh5=>?_)
 ·exact fI rfl (by have:=dN op;have:=oG op;omega)
 refine zV (vB (op==47))<|gBS rfl id rfl<|zN rfl (by simp) ?_;refine zPr (op=47∨op=48) (wP _ _ pEq pEq) (λh6=>?_) (λh6=>?_)
 ·exact fI rfl (by have:=dN op;have:=oG op;omega)
 exact fI rfl (by have:=dN op;have:=oG op;omega)
def Yw(i):bI C0 29 [siA i] (.v (.int .i64 (wr i))):=by
 refine dIZ func29 rfl ?_;refine zC (Vs _) ?_;refine zW _ (okB (eqN _ _)) ?_;refine zEq (letterOf i.op) 82 (λh1=>?_) (λh1=>?_)
 ·refine zT (pEq.2 h1) ?_;exact fI rfl (oH (Dl i))
 refine zW _ (okB (eqN _ _)) ?_;refine zEq (letterOf i.op) 73 (λh2=>?_) (λh2=>?_)
 ·refine zT (pEq.2 h2) ?_;exact fI rfl (oH (Dl i))
 refine zW _ (okB (eqN _ _)) ?_;refine zEq (letterOf i.op) 84 (λh3=>?_) (λh3=>?_)
 ·refine zT (pEq.2 h3) ?_;exact fI rfl (oH (Dl i))
 refine zW _ (okB (eqN _ _)) ?_;refine zEq (letterOf i.op) 85 (λh4=>?_) (λh4=>?_)
 ·refine zT (pEq.2 h4) ?_;exact fI rfl (oH (Dl i))
 refine zW _ (okB (eqN _ _)) ?_;refine zEq (letterOf i.op) 74 (λh5=>?_) (λh5=>?_)
 ·exact fI rfl (oH (Dl i))
 exact fI rfl (oH (Dl i))
def abV(is):bI C0 142 [vB is] (.v (.int .u32 (((if is=true then 1 else 0:Nat)):Int))):=by
 refine dIZ func142 rfl ?_;refine zPr (is=true) Iff.rfl (λh1=>?_) (λh1=>?_)
 ·exact fI rfl (by rw[af1 h1];rfl)
 exact fI rfl (by rw[dZ h1];rfl)
def abL(op)(a b)(ha:a<=4294967295)(hb:b<=4294967295):bI C0 97 [vI op,vU a,vU b] (.v (.bool (tB op a b))):=by
 refine dIZ func97 rfl ?_;refine zE2 op 5 (λh1=>?_) (λh1=>?_)
 ·refine zW _ (okB (eqN _ _)) ?_;exact fB rfl (by unfold tB;(repeat' split)<;>first|rfl|(exfalso;omega)|(rw[bB];simp;done)|(rw[bB];simp;omega))
 refine zE2 op 6 (λh2=>?_) (λh2=>?_)
 ·refine zW _ (okB (eqN _ _)) ?_;exact fB rfl (by unfold tB;(repeat' split)<;>first|rfl|(exfalso;omega)|(rw[bB];simp;done)|(rw[bB];simp;omega))
 refine zE2 op 7 (λh3=>?_) (λh3=>?_)
 ·refine zC (wL a ha)<|rCi rfl (wL b hb)<|zV (vB (decide ((sgn a)<(sgn b)))) ?_;exact fB rfl (by unfold tB;(repeat' split)<;>first|rfl|(exfalso;omega)|(rw[bB];simp;done)|(rw[bB];simp;omega))
 refine zE2 op 8 (λh4=>?_) (λh4=>?_)
 ·refine zC (wL a ha)<|rCi rfl (wL b hb)<|zV (vB (decide ((sgn a)<(sgn b)))) ?_;exact fB rfl (by unfold tB;(repeat' split)<;>first|rfl|(exfalso;omega)|(rw[bB];simp;done)|(rw[bB];simp;omega))
 refine zE2 op 9 (λh5=>?_) (λh5=>?_)
 ·refine zW _ (okB (ltN _ _)) ?_;exact fB rfl (by unfold tB;(repeat' split)<;>first|rfl|(exfalso;omega)|(rw[bB];simp;done)|(rw[bB];simp;omega))
 refine zE2 op 10 (λh6=>?_) (λh6=>?_)
 all_goals
  first|(refine zW _ (okB (ltN _ _)) ?_)|skip
  exact fB rfl (by unfold tB;(repeat' split)<;>first|rfl|(exfalso;omega)|(rw[bB];simp;done)|(rw[bB];simp;omega))
def Yx(a b)(ha:a<=4294967295)(hb:b<=4294967295):sgn a*sgn b=((a*b:Nat):Int)-4294967296*((if a>=2147483648 then(b:Int)else 0)+(if b>=2147483648 then(a:Int)else 0))+(if a>=2147483648∧b>=2147483648 then 18446744073709551616 else 0):=by
 have e:((a*b:Nat):Int)=(a:Int)*b:=Int.natCast_mul a b;rw[e];unfold sgn;have h1:((a:Int)-4294967296)*b=a*b-4294967296*b:=Int.sub_mul ..;have h2:(a:Int)*(b-4294967296)=a*b-a*4294967296:=Int.mul_sub ..;have h3:((a:Int)-4294967296)*(b-4294967296)=a*b-4294967296*b-(a*4294967296-18446744073709551616):=by rw[Int.mul_sub,Int.sub_mul,Int.sub_mul];omega
 (repeat' split)<;>first|(exfalso;omega)|(simp only[h1,h2,h3];omega)|omega
def Yy(a b)(ha:a<=4294967295)(hb:b<=4294967295):sgn a*b=((a*b:Nat):Int)-4294967296*(if a>=2147483648 then(b:Int)else 0):=by
 have e:((a*b:Nat):Int)=(a:Int)*b:=Int.natCast_mul a b;rw[e];unfold sgn;have h1:((a:Int)-4294967296)*b=a*b-4294967296*b:=Int.sub_mul ..
 (repeat' split)<;>first|(exfalso;omega)|(simp only[h1];omega)|omega
def YN(a b)(ha:a<=4294967295)(hb:b<=4294967295)(op)(x)(h:(op=38∧x=((a*b%4294967296:Nat):Int))∨(op=39∧x=(((a*b/4294967296:Nat):Int)-(if a>=2147483648 then(b:Int)else 0)-(if b>=2147483648 then(a:Int)else 0))%4294967296)∨(op=40∧x=(((a*b/4294967296:Nat):Int)-(if a>=2147483648 then(b:Int)else 0))%4294967296)∨
  (op=41∧x=((a*b/4294967296:Nat):Int))∨(¬op=38∧ ¬op=39∧ ¬op=40∧ ¬op=41∧x=0)):x=((mulP op a b:Nat):Int):=by
 have hle:a*b<=4294967295*4294967295:=cJ ha hb;unfold mulP wordOf;rw[Yx a b ha hb,Yy a b ha hb];generalize a*b=p at *
 (repeat' split at h)<;>(repeat' split)<;>omega
def ae0(op)(a b)(ha:a<=4294967295)(hb:b<=4294967295):bI C0 92 [vI op,vU a,vU b] (.v (.int .u32 ((mulP op a b:Nat):Int))):=by
 refine dIZ func92 rfl ?_;have hhi:a*b/4294967296<=4294967295:=oH (cJ ha hb);refine zC (adG a b ha hb)<|zV (vB (op==39)) ?_;refine gBS rfl id rfl<|zN rfl (by simp)<|gBS rfl id (okB (geN _ _))<|zN rfl (λh=>h) ?_;refine zPr ((op=39∨op=40)∧a>=2147483648) (uA _ _ (wP _ _ pEq pEq) qW) (λh1=>?_) (λh1=>?_)
 all_goals
  first|(skip;have b1:((a*b/4294967296)+4294967296-b)%4294967296<=4294967295:=aI (aQ _ dT);refine zW _ (okI (Gn hb rfl)) ?_)|skip
  refine zV (vB (op==39))<|gBS rfl id (okB (geN _ _))<|zN rfl (λh=>h) ?_;refine zPr (op=39∧b>=2147483648) (uA _ _ pEq qW) (λh2=>?_) (λh2=>?_)
  all_goals
   first
    |skip
     first|(have b2:((((a*b/4294967296)+4294967296-b)%4294967296)+4294967296-a)%4294967296<=4294967295:=aI (aQ _ dT);refine zW _ (okI (Gn ha rfl)) ?_)|(have b2:((a*b/4294967296)+4294967296-a)%4294967296<=4294967295:=aI (aQ _ dT);refine zW _ (okI (Gn ha rfl)) ?_)
    |skip
   refine zV (vB (op==39))<|gBS rfl id rfl<|zN rfl (by simp)<|gBS rfl id rfl<|zN rfl (by simp) ?_
   first
    |refine zPr ((op=39∨op=40)∨op=41) (wP _ _ (wP _ _ pEq pEq) pEq) (λh3=>?_) (λh3=>absurd h3 omT);exact fI rfl (YN a b ha hb op _ omT)
    |refine zPr ((op=39∨op=40)∨op=41) (wP _ _ (wP _ _ pEq pEq) pEq) (λh3=>?_) (λh3=>?_)
     ·exact fI rfl (YN a b ha hb op _ omT)
     ·refine zE2 op 38 (λh8=>?_) (λh8=>?_)
      ·refine zW _ (okI (nJ ha rfl))<|rW _ rfl (okI (nJ hb rfl)) ?_;have b4:a*b<=18446744065119617025:=cJ ha hb;refine rW _ rfl (okI (nJ b4 rfl)) ?_;have b5:(a*b)%4294967296<=4294967295:=aI (aQ _ dT);refine nW (.v (.int .u64 (((a*b)%4294967296:Nat):Int))) rfl rfl dT<|zW _ (okI (nJ b5 rfl)) ?_;exact fI rfl (YN a b ha hb op _ omT)
      ·exact fI rfl (YN a b ha hb op _ omT)
def adB(i)(pc a b:Nat)(hi:i.agR<=4294967295)(hpc:pc<=4294967295)(ha:a<=4294967295)(hb:b<=4294967295):bI C0 38 [siA i,.v (.int .u32 (pc:Int)),.v (.int .u32 (a:Int)),.v (.int .u32 (b:Int))] (.v (.int .u32 ((qP i.op i.agR pc a b:Nat):Int))):=by
 refine dIZ func38 rfl ?_;refine zE2 i.op 4 (λh1=>?_) (λh1=>?_)
 ·skip;have b1:(a+i.agR)%4294967296<=4294967295:=aI (aQ _ dT);refine zV (vU ((a+i.agR)%4294967296)) ?_;have b2:((a+i.agR)%4294967296)%2<=1:=aI (aQ _ dT);refine nW (vU (((a+i.agR)%4294967296)%2)) rfl rfl dT ?_;have b3:(((a+i.agR)%4294967296)+4294967296-(((a+i.agR)%4294967296)%2))%4294967296<=4294967295:=aI (aQ _ dT);refine zW _ (okI (Gn b2 rfl)) ?_;exact fI rfl (by have t4:i.op=4->tB i.op a b=false:=(λe=>by rw[e];rfl);unfold qP;(repeat' split)<;>first|omega|(simp_all;done)|(simp_all;omega))
 refine zV (vB (i.op==3))<|zG rfl id<|jQ rfl rfl rfl rfl hsT rfl rfl rfl (.inl rfl) rfl (λhg=>abL i.op a b ha hb)<|zN rfl (by simp) ?_;refine zPr (i.op=3∨(tB i.op a b)=true) (wP _ _ pEq Iff.rfl) (λh2=>?_) (λh2=>?_)
 all_goals
  skip
  first|(have b4:(pc+i.agR)%4294967296<=4294967295:=aI (aQ _ dT);refine zV (vU ((pc+i.agR)%4294967296)) ?_)|(have b4:(pc+4)%4294967296<=4294967295:=aI (aQ _ dT);refine zV (vU ((pc+4)%4294967296)) ?_)
  exact fI rfl (by have t4:i.op=4->tB i.op a b=false:=(λe=>by rw[e];rfl);unfold qP;(repeat' split)<;>first|omega|(simp_all;done)|(simp_all;omega))
def Ek(op)(x)(hx:x<=4294967295):((sizeP op x:Nat):Int)=if op=42∨op=44 then(if sgn x<0 then-sgn x else sgn x)else(x:Int):=by
 unfold sizeP sgn
 (repeat' split)<;>omega
def FC(x)(hx:x<=4294967295): -2147483648<=sgn x∧sgn x<=2147483647:=by unfold sgn;split<;>omega
def Wg(op)(a)(ha:a<=4294967295):bI C0 98 [vI op,vU a] (.v (.int .i64 ((sizeP op a:Nat):Int))):=by
 refine dIZ func98 rfl ?_;refine zW (vI (a:Int)) (okI (wrap_i64 omT omT))<|zV (vB (op==42)) ?_;refine gBS rfl id rfl<|zN rfl (by simp) ?_;refine zPr (op=42∨op=44) (wP _ _ pEq pEq) (λh1=>?_) (λh1=>?_)
 ·refine zC (wL a ha)<|zV (vB (decide ((sgn a)<0))) ?_;refine zPr ((sgn a)<0) qW (λh2=>?_) (λh2=>?_)
  ·refine zW (vI (-(sgn a))) (okI (by rw[Int.zero_sub];exact wrap_i64 (oH (FC a ha)) (oH (FC a ha)))) ?_;exact fI rfl (by rw[Ek op a ha];(repeat' split)<;>omega)
  exact fI rfl (by rw[Ek op a ha];(repeat' split)<;>omega)
 refine zV (vB (decide ((a:Int)<0))) ?_;refine zPr ((a:Int)<0) qW (λh3=>?_) (λh3=>?_)
 ·refine zW (vI (-(a:Int))) (okI (by rw[Int.zero_sub];exact wrap_i64 (oH (FC a ha)) (oH (FC a ha)))) ?_;exact fI rfl (by rw[Ek op a ha];(repeat' split)<;>omega)
 exact fI rfl (by rw[Ek op a ha];(repeat' split)<;>omega)
def SF(n)(h: ¬(Int.tmod n 4294967296<0)):IntKind.wrap .u32 (Int.tmod n 4294967296)=((wordOf n:Nat):Int):=by
 rw[tP];simp only[IntKind.wrap,IntKind.signed,IntKind.bits];have:=Int.mul_tdiv_add_tmod n 4294967296;simp;omega
def Po(n)(h:Int.tmod n 4294967296<0):IntKind.wrap .u32 (Int.tmod n 4294967296+4294967296)=((wordOf n:Nat):Int):=by
 rw[tP];simp only[IntKind.wrap,IntKind.signed,IntKind.bits];have:=Int.mul_tdiv_add_tmod n 4294967296;simp;omega
def Vt(n):bI C0 138 [vI n] (.v (.int .u32 ((wordOf n:Nat):Int))):=by
 refine dIZ func138 rfl ?_;refine zM (vI (Int.tmod n 4294967296)) rfl dT<|zV (vB (decide ((Int.tmod n 4294967296)<0))) ?_;refine zPr ((Int.tmod n 4294967296)<0) qW (λh1=>?_) (λh1=>?_)
 ·refine zW _ (okI (wrap_i64 (by have:=Int.tmod_lt_of_pos n (dT:(0:Int)<4294967296);have:=Int.lt_tmod_of_pos n (dT:(0:Int)<4294967296);omega) (by have:=Int.tmod_lt_of_pos n (dT:(0:Int)<4294967296);omega)))<|zW _ (okI (Po n h1)) ?_;exact fT rfl rfl
 refine zW _ (okI (SF n h1)) ?_;exact fT rfl rfl
def ad4(a b)(_ha:a<=4294967295)(hb:b<=4294967295)(h: ¬b=0):sgn b≠0:=by unfold sgn;split<;>omega
def ad5(a b:Nat)(_ha:a<=4294967295)(_hb:b<=4294967295)(h: ¬b=0):(b:Int)≠0:=oT
def SG(x y)(h1: -4294967295<=x)(h2:x<=4294967295): -4294967295<=Int.tdiv x y∧Int.tdiv x y<=4294967295:=by
 have:=Int.natAbs_tdiv_le_natAbs x y;omega
def ae1(a b)(ha:a<=4294967295)(_hb:b<=4294967295):IntKind.wrap .i64 (Int.tdiv (sgn a) (sgn b))=Int.tdiv (sgn a) (sgn b):=by
 have:=FC a ha;have:=SG (sgn a) (sgn b) omT omT;exact wrap_i64 omT omT
def ae2(a b:Nat)(ha:a<=4294967295)(_hb:b<=4294967295):IntKind.wrap .i64 (Int.tdiv (a:Int) (b:Int))=Int.tdiv (a:Int) (b:Int):=by
 have:=SG (a:Int) (b:Int) omT omT;exact wrap_i64 omT omT
def Yz(a b)(ha:a<=4294967295)(hb:b<=4294967295):2147483648<=a^^^b↔ ¬(2147483648<=a↔2147483648<=b):=by
 have tb:∀x:Nat,x<=4294967295->(2147483648<=x↔x.testBit 31=true):=by
  intro x hx;rw[Nat.testBit_eq_decide_div_mod_eq];simp;omega
 have hx:a^^^b<2 ^ 32:=iM omT omT;rw[tb a ha,tb b hb,tb (a^^^b) omT,Nat.testBit_xor];cases a.testBit 31<;>cases b.testBit 31<;>simp
def adC(op)(a b)(ha:a<=4294967295)(hb:b<=4294967295)(h0: ¬b=0)(ho:op=42):wordOf (Int.tdiv (sgn a) (sgn b))=divP op a b:=by
 subst ho;unfold divP zI sizeP;simp only[h0,eE,true_or,fD,true_and,Yz a b ha hb];unfold wordOf sgn;have key:∀x y:Nat,(x:Int).tdiv (y:Int)=((x/y:Nat):Int):=λx y=>rfl;have n1:∀x:Nat,2147483648<=x->x<=4294967295->(x:Int)-4294967296= -((4294967296-x:Nat):Int):=λx h1 h2=>by omega
 by_cases h1:2147483648<=a<;>by_cases h2:2147483648<=b
 ·rw[dZ omT,dZ omT,n1 a h1 ha,n1 b h2 hb,Int.neg_tdiv,Int.tdiv_neg,Int.neg_neg,key];have:=cO (4294967296-a) (4294967296-b);simp only[h1,h2,iff_self,not_true,eE,fD];generalize (4294967296-a)/(4294967296-b)=q at *;omega
 ·rw[dZ omT,af1 omT,n1 a h1 ha,Int.neg_tdiv,key];have:=cO (4294967296-a) b;simp only[h1,h2,iff_false,not_true,not_false_iff,eE,fD];omega
 ·rw[af1 omT,dZ omT,n1 b h2 hb,Int.tdiv_neg,key];have:=cO a (4294967296-b);simp only[h1,h2,pI,not_true,not_false_iff,eE,fD];omega
 rw[af1 omT,af1 omT,key];have:=cO a b;simp only[h1,h2,iff_self,not_true,eE];generalize a/b=q at *;omega
def adD(op)(a b:Nat)(ha:a<=4294967295)(_hb:b<=4294967295)(h0: ¬b=0)(ho:op=43):wordOf (Int.tdiv (a:Int) (b:Int))=divP op a b:=by
 subst ho;have d:divP 43 a b=a/b:=by unfold divP zI sizeP;simp[h0]
 rw[d];unfold wordOf;have e:(a:Int).tdiv (b:Int)=((a/b:Nat):Int):=rfl;rw[e];have:=cO a b;generalize a/b=q at *;omega
def adE(op)(a b)(ha:a<=4294967295)(hb:b<=4294967295)(h0: ¬b=0)(ho:op=44):wordOf (Int.tmod (sgn a) (sgn b))=divP op a b:=by
 subst ho;unfold divP zI sizeP;simp only[h0,eE,or_true,true_or,fD,true_and,(dT:¬((44:Int)=42∨(44:Int)=43))];unfold wordOf sgn;have key:∀x y:Nat,(x:Int).tmod (y:Int)=((x%y:Nat):Int):=λx y=>rfl;have n1:∀x:Nat,2147483648<=x->x<=4294967295->(x:Int)-4294967296= -((4294967296-x:Nat):Int):=λx h1 h2=>by omega
 by_cases h1:2147483648<=a<;>by_cases h2:2147483648<=b
 ·rw[dZ omT,dZ omT,n1 a h1 ha,n1 b h2 hb,Int.neg_tmod,Int.tmod_neg,key];have:=gR (4294967296-a) (4294967296-b);simp only[h1,h2,fD];omega
 ·rw[dZ omT,af1 omT,n1 a h1 ha,Int.neg_tmod,key];have:=gR (4294967296-a) b;simp only[h1,h2,eE,fD];omega
 ·rw[af1 omT,dZ omT,n1 b h2 hb,Int.tmod_neg,key];have:=gR a (4294967296-b);simp only[h1,h2,eE,fD];omega
 rw[af1 omT,af1 omT,key];have:=gR a b;simp only[h1,h2,eE];omega
def adF(op)(a b:Nat)(ha:a<=4294967295)(_hb:b<=4294967295)(h0: ¬b=0)(ho:op=45):wordOf (Int.tmod (a:Int) (b:Int))=divP op a b:=by
 subst ho;have d:divP 45 a b=a%b:=by unfold divP zI sizeP;simp[h0]
 rw[d];unfold wordOf;have e:(a:Int).tmod (b:Int)=((a%b:Nat):Int):=rfl;rw[e];have:=gR a b;generalize a%b=q at *;omega
def ae3(op)(a b)(ha:a<=4294967295)(hb:b<=4294967295):bI C0 93 [vI op,vU a,vU b] (.v (.int .u32 ((divP op a b:Nat):Int))):=by
 refine dIZ func93 rfl ?_;refine zV (vB (decide (op<42)))<|gBS rfl id rfl<|zN rfl (by simp) ?_;refine zPr (op<42∨op>45) (wP _ _ qW qW) (λh1=>?_) (λh1=>?_)
 ·exact fI rfl (by unfold divP;(repeat' split)<;>omega)
 refine zV (vB (op==42))<|gBS rfl id rfl<|zN rfl (by simp)<|zW _ (okB (eqN _ _)) ?_;refine zEq b 0 (λh2=>?_) (λh2=>?_)
 ·skip
  refine zPr (op=42∨op=43) (wP _ _ pEq pEq) (λh3=>?_) (λh3=>?_)
  ·exact fI rfl (by unfold divP;(repeat' split)<;>omega)
  exact fI rfl (by unfold divP;(repeat' split)<;>omega)
 refine zW _ (okI (wrap_i64 omT omT))<|zW _ (okI (wrap_i64 omT omT)) ?_;refine zV (vB (op==42))<|gBS rfl id rfl<|zN rfl (by simp) ?_;refine zPr (op=42∨op=44) (wP _ _ pEq pEq) (λh4=>?_) (λh4=>?_)
 ·refine zC (wL a ha)<|zC (wL b hb) ?_;refine zPr (op=42∨op=43) (wP _ _ pEq pEq) (λh5=>?_) (λh5=>?_)
  ·refine nW _ rfl (al8 (ae1 a b ha hb)) (ad4 a b ha hb h2)<|zC (Vt _) ?_;exact fN rfl (adC op a b ha hb omT omT)
  refine nW (vI (Int.tmod (sgn a) (sgn b))) rfl rfl (ad4 a b ha hb h2)<|zC (Vt _) ?_;exact fN rfl (adE op a b ha hb omT omT)
 skip
 refine zPr (op=42∨op=43) (wP _ _ pEq pEq) (λh6=>?_) (λh6=>?_)
 ·refine nW _ rfl (al8 (ae2 a b ha hb)) (ad5 a b ha hb h2)<|zC (Vt _) ?_;exact fN rfl (adD op a b ha hb omT omT)
 refine nW (vI (Int.tmod (a:Int) (b:Int))) rfl rfl (ad5 a b ha hb h2)<|zC (Vt _) ?_;exact fN rfl (adF op a b ha hb omT omT)
def ofB:List Nat->Nat
 |[]=>0
 |b::l=>(2*ofB l+b)%4294967296
theorem Jq:∀(l:List Nat),(∀b∈l,b<2)->l.length<=32->ofB l=ofN l
 |[],_,_=>rfl
 |b::l,hb,hl=>by
  have hl':l.length<=31:=by simp at hl;omega
  have ih:=Jq l (λx hx=>hb x (bY _ hx)) oT;have h1:=SM l (λx hx=>hb x (bY _ hx));have h2:=hb b al_List_mem_cons_self;have h3:2 ^ l.length<=2 ^ 31:=bU dT hl';show(2*ofB l+b)%4294967296=2*ofN l+b;rw[ih];omega
def upto{α:Type}(g:Nat->α)(k:Nat):List α:=(List.range k).map g
def afQ{α}(g:Nat->α)(k):(upto g k).length=k:=by simp[upto]
def SH{α}(g:Nat->α)(k):upto g (k+1)=upto g k++[g k]:=by simp[upto,gZ]
def Vu(g)(k j)(h:j<k):(upto g k).getD j 0=g j:=by simp[upto,h]
def NZ{α}{g}{k}{p:α->Prop}(h:∀i,i<k->p (g i)):∀b∈upto g k,p b:=by
 intro b hb;simp only[upto,pG,lI]at hb;obtain⟨i,hi,rfl⟩:=hb;exact h i hi
def tbD(a i:Nat):a.testBit i=decide (a/2 ^ i%2=1):=Nat.testBit_eq_decide_div_mod_eq
def abM{a i:Nat}(ha:a<4294967296)(hi:32<=i):a.testBit i=false:=
 Nat.testBit_lt_two_pow (af3 ha (bU (n:=2) dT hi))
def Bc(g)(x)(hg:∀i,i<32->g i<2)(hx:x<4294967296)(h:∀i,i<32->(g i=1↔x.testBit i=true)):ofB (upto g 32)=x:=by
 have hb:∀b∈upto g 32,b<2:=NZ hg;rw[Jq _ hb (by rw[afQ];exact aC _)];refine Nat.eq_of_testBit_eq λj=>?_;rw[Oc _ hb];by_cases hj:j<32
 ·rw[Vu g 32 j hj];have:=h j hj;cases hx:x.testBit j<;>simp_all
 rw[aR,bE (by rw[afQ];omega),abM hx oT];rfl
def uP(rule:Int)(a b i:Nat):Nat:=if((rule=1∧a/2 ^ i%2+b/2 ^ i%2=2)∨(rule=2∧a/2 ^ i%2+b/2 ^ i%2>0))∨(rule=3∧a/2 ^ i%2+b/2 ^ i%2=1)then 1 else 0
def El(rule)(a b i):uP rule a b i<2:=by unfold uP;split<;>omega
def Oa(a b)(ha:a<=4294967295)(_hb:b<=4294967295):ofB (upto (uP 1 a b) 32)=a&&&b:=by
 refine Bc _ _ (λi _=>El ..) (bL kE oT) λi _=>?_;rw[Nat.testBit_and,tbD,tbD];unfold uP;rcases al_Nat_mod_two_eq_zero_or_one (a/2 ^ i)with h1|h1<;>rcases al_Nat_mod_two_eq_zero_or_one (b/2 ^ i)with h2|h2<;>simp[h1,h2]
def SJ(a b)(ha:a<=4294967295)(hb:b<=4294967295):ofB (upto (uP 2 a b) 32)=a ||| b:=by
 refine Bc _ _ (λi _=>El ..) (kQ (n:=32) oT oT) λi _=>?_;rw[Nat.testBit_or,tbD,tbD];unfold uP;rcases al_Nat_mod_two_eq_zero_or_one (a/2 ^ i)with h1|h1<;>rcases al_Nat_mod_two_eq_zero_or_one (b/2 ^ i)with h2|h2<;>simp[h1,h2]
def Ob(a b)(ha:a<=4294967295)(hb:b<=4294967295):ofB (upto (uP 3 a b) 32)=a^^^b:=by
 refine Bc _ _ (λi _=>El ..) (iM (n:=32) oT oT) λi _=>?_;rw[Nat.testBit_xor,tbD,tbD];unfold uP;rcases al_Nat_mod_two_eq_zero_or_one (a/2 ^ i)with h1|h1<;>rcases al_Nat_mod_two_eq_zero_or_one (b/2 ^ i)with h2|h2<;>simp[h1,h2]
def af9(a:Nat)(n:Int)(fill i:Nat):Nat:=if((i:Int)-n<0∨(i:Int)-n>31)then fill else a/2 ^ ((i:Int)-n).toNat%2
def CF(a)(n){fill}(hf:fill<2)(i):af9 a n fill i<2:=by unfold af9;split<;>omega
def La(a s:Nat)(_ha:a<=4294967295)(hs:s<32):ofB (upto (af9 a (s:Int) 0) 32)=a*2 ^ s%4294967296:=by
 refine Bc _ _ (λi _=>CF _ _ dT _) (aQ _ dT) λi hi=>?_;rw[show(4294967296:Nat)=2 ^ 32 from rfl,eB,fK];unfold af9;by_cases h:i<s
 ·rw[af1 (.inl oT)];simp;omega
 rw[dZ oT,(oT:((i:Int)-(s:Int)).toNat=i-s),tbD];simp;omega
def FD(a s:Nat)(ha:a<=4294967295)(_hs:s<32):ofB (upto (af9 a (-(s:Int)) 0) 32)=a/2 ^ s:=by
 refine Bc _ _ (λi _=>CF _ _ dT _) (bL (cO _ _) oT) λi hi=>?_;rw[Nat.testBit_div_two_pow];unfold af9;by_cases h:i+s>31
 ·rw[af1 (.inr oT),abM oT oT];simp
 rw[dZ oT,(oT:((i:Int) - -(s:Int)).toNat=i+s),tbD];simp
def YB(a s)(ha:a<=4294967295)(hs:s<32):wordOf (sgn a/2 ^ s)=if a<2147483648 then a/2 ^ s else 2 ^ (32-s)*(2 ^ s-1)+a/2 ^ s:=by
 have hp:(2:Nat) ^ 32=2 ^ (32-s)*2 ^ s:=by rw[<-Nat.pow_add];congr 1;omega
 have hd:a/2 ^ s<2 ^ (32-s):=fO (by rw[fR, <-hp];omega);have hK:2 ^ (32-s)<=2 ^ 32:=bU dT oT;have hpos:0<2 ^ s:=eI s;unfold wordOf sgn;have hc:((2:Int) ^ s)=((2 ^ s:Nat):Int):=by simp
 split
 ·rw[hc];have e:((a:Int)/((2 ^ s:Nat):Int))=((a/2 ^ s:Nat):Int):=rfl;have:=cO a (2 ^ s);rw[e];generalize a/2 ^ s=q at *;omega
 have e:((a:Int)-4294967296)/2 ^ s=((a/2 ^ s:Nat):Int)-((2 ^ (32-s):Nat):Int):=by
  have h1:(a:Int)-4294967296=(a:Int)+(-((2 ^ (32-s):Nat):Int))*((2 ^ s:Nat):Int):=by
   have:((2 ^ (32-s):Nat):Int)*((2 ^ s:Nat):Int)=4294967296:=by rw[<-Int.natCast_mul, <-hp];rfl
   rw[Int.neg_mul,this];omega
  rw[hc,h1,Int.add_mul_ediv_right _ _ oT];have e:((a:Int)/((2 ^ s:Nat):Int))=((a/2 ^ s:Nat):Int):=rfl;rw[e];omega
 rw[e,Nat.mul_sub, <-hp,iD];generalize a/2 ^ s=q at *;generalize 2 ^ (32-s)=K at *;omega
def Lb(a s:Nat)(ha:a<=4294967295)(hs:s<32):ofB (upto (af9 a (-(s:Int)) (a/2 ^ 31%2)) 32)=wordOf (sgn a/2 ^ s):=by
 have hp:(2:Nat) ^ 32=2 ^ (32-s)*2 ^ s:=by rw[<-Nat.pow_add];congr 1;omega
 have hd:a/2 ^ s<2 ^ (32-s):=fO (by rw[fR, <-hp];omega);rw[YB a s ha hs];by_cases h2:a<2147483648
 ·rw[af1 h2,(oT:a/2 ^ 31%2=0)];exact FD a s ha hs
 rw[dZ h2,(oT:a/2 ^ 31%2=1)];have hpos:0<2 ^ s:=eI s;refine Bc _ _ (λi _=>CF _ _ dT _) (by rw[Nat.mul_sub, <-hp];have:2 ^ (32-s)<=2 ^ 32:=bU dT oT;omega) λi hi=>?_;rw[Nat.testBit_two_pow_mul_add _ hd];unfold af9;by_cases h:i+s>31
 ·rw[af1 (.inr oT),dZ oT,dX];simp;omega
 rw[dZ oT,af1 oT,Nat.testBit_div_two_pow,(oT:((i:Int) - -(s:Int)).toNat=i+s),tbD];simp
theorem Lc:∀(l:List Int) (b:ByteArray),(l.foldl (λr m=>r.push (UInt8.ofNat m.toNat)) b).data.toList=b.data.toList++l.map λm=>UInt8.ofNat m.toNat
 |[],b=>by simp
 |m::l,b=>by
  rw[mK,Lc l];show(b.data.push (UInt8.ofNat m.toNat)).toList++_=_;simp
def xM(x i:Nat):UInt8:=UInt8.ofNat (field x (8*i) 8)
def YC(j):256 ^ j=2 ^ (8*j):=by rw[Nat.pow_mul]
def SK(x n):(⟨(upto (xM x) n).toArray⟩:ByteArray)=oF x n:=by
 have h:(oF x n).data.toList=upto (xM x) n:=by
  unfold oF;rw[Lc];simp only[ByteArray.empty,upto,List.map_map];show []++_=_;rw[iA];refine iB λj _=>?_;simp only[Function.comp,xM,field,Int.toNat_natCast];rw[YC]
 rw[<-h]
theorem FE(b:UInt8)(l:List UInt8):∀k,joinTo (b::l) (k+1)=b.toNat+256*joinTo l k
 |0=>by simp[joinTo]
 |k+1=>by
  show joinTo (b::l) (k+1)+256 ^ (k+1)*((b::l).getD (k+1) 0).toNat=b.toNat+256*(joinTo l k+256 ^ k*(l.getD k 0).toNat);rw[FE b l k,Nat.mul_add,show(b::l).getD (k+1) 0=l.getD k 0 from rfl,Nat.pow_succ, <-Nat.mul_assoc,fR 256 (256 ^ k)];omega
def SL(l:List UInt8)(k)(hk:k<l.length):joinTo (l.drop (l.length-(k+1))) (k+1)=256*joinTo (l.drop (l.length-k)) k+(l.getD (l.length-1-k) 0).toNat:=by
 have h1:l.length-(k+1)<l.length:=oT;rw[bF h1,FE,(oT:l.length-(k+1)+1=l.length-k),(oT:l.length-1-k=l.length-(k+1)),aR,aA h1];simp;omega
def uU(m b:ByteArray)(agZ i:Nat):UInt8:=if((i:Int)-(agZ:Int)>=0∧(i:Int)-(agZ:Int)<(b.size:Int))then b.data.toList.getD ((i:Int)-(agZ:Int)).toNat 0 else m.data.toList.getD i 0
def Ld(m b)(agZ)(h:agZ+b.size<=m.size):(⟨(upto (uU m b agZ) m.size).toArray⟩:ByteArray)=DD m agZ b:=by
 unfold DD;congr 2;have hm:m.data.toList.length=m.size:=cV;have hb:b.data.toList.length=b.size:=cV;refine dD λi=>?_;unfold upto;rw[aX];by_cases hi:i<m.size
 ·rw[eZ hi];simp only[dF,uU];by_cases h1:i<agZ
  ·rw[dZ oT,eD,cF (by rw[aM];omega),List.getElem?_take_of_lt h1,aR,aA oT];rfl
  by_cases h2:i<agZ+b.size
  ·rw[af1 oT,eD,bM (by rw[aM];omega),aM,cF oT,aR,(oT:((i:Int)-(agZ:Int)).toNat=i-min agZ m.data.toList.length),aA oT];rfl
  rw[dZ oT,bM (by rw[aU,aM];omega),aU,aM,cL,(oT:agZ+b.size+(i-(min agZ m.data.toList.length+b.data.toList.length))=i),aR,aA oT];rfl
 rw[bE (sU hi),bE (by simp only[aU,aM,bD];omega)];rfl
abbrev Sx(b:UInt8):List AV:=[.v (.int .u8 (b.toNat:Int))]
section
variable {α:Type}{g:Nat->α}{row:α->List AV}{k:Nat}
def gT:List.take (k+1) (List.drop 0 ((upto g (k+1)).map row))=(upto g (k+1)).map row:=by
 rw[bS,aN (by rw[aH,afQ];exact aC _)]
def gC{r}(h:k+2<=1000000):(List.take (k+1) (List.drop 0 ((upto g (k+1)).map row))).length+([r]:List (List AV)).length<=jH:=by
 rw[gT,aH,afQ];exact h
def gF:0+(k+1)=((upto g (k+1)).map row).length:=by rw[aH,afQ];omega
def gL{r}:(List.take (k+1) (List.drop 0 ((upto g (k+1)).map row))).length+([r]:List (List AV)).length=k+1+1:=by rw[gT,aH,afQ];rfl
def Jp{x}(h:x=g 0):[row x]=(upto g (0+1)).map row:=by rw[h];rfl
def Gh{x}(h:x=g (k+1)):List.take (k+1) (List.drop 0 ((upto g (k+1)).map row))++[row x]=(upto g (k+1+1)).map row:=by
 rw[gT,h,SH g (k+1),dH];rfl
end
def okN{x y}{k}(h:x=y):Res.ok (.v (.int k x))=.ok (.v (.int k y)):=by rw[h]
def Pu(a i)(ha:a<=4294967295)(hi:i<=1000):bI C0 141 [vU a,vN i] (.v (.int .u32 ((a/2 ^ i%2:Nat):Int))):=by
 refine dIZ func141 rfl ?_;refine rW _ rfl (okI (nJ hi rfl)) ?_;have b1:a/2 ^ i<=4294967295:=aL (cO _ _) ha;refine nW _ rfl (al8 (YP i ha rfl)) (aG _) ?_;have b2:(a/2 ^ i)%2<=1:=aI (aQ _ dT);refine zM (vU ((a/2 ^ i)%2)) rfl dT ?_;exact fT rfl rfl
def Sy(l:List Nat)(k)(hk:k<l.length):l.drop (l.length-(k+1))=l.getD (l.length-1-k) 0::l.drop (l.length-k):=by
 have h1:l.length-(k+1)<l.length:=oT;rw[bF h1,(oT:l.length-(k+1)+1=l.length-k),(oT:l.length-1-k=l.length-(k+1)),aR,aA h1];rfl
def Yv{l:List Nat}{B}(h:∀n∈l,n<=B)(i):l.getD i 0<=B:=by
 rw[aR];rcases al_Nat_lt_or_ge i l.length with k|k
 ·rw[aA k];exact h _ (jO k)
 rw[bE k];exact aE _
def rOf(l)(hb:∀n∈l,n<=4294967295)(hl:l.length<=1000000):bI C0 144 [.sl 1 (l.map dU) false] (.v (.int .u32 ((ofB l:Nat):Int))):=by
 refine dIZ func144 rfl ?_;refine rV (vI ((l.map dU).length:Int)) rfl<|zV (vI (IntKind.wrap .i64 (((l.map dU).length:Int)-1))) ?_;refine zLo (λk=>⟨slotsF [(0,.sl 1 (l.map dU) false),(3,vU (ofB (l.drop (l.length-k)))),(4,vI ((l.length:Int)-1-(k:Int)))],heapF [],6⟩) (λk=>k<=l.length) (λk=>l.length-k) 0 (λs=>s) (wOL (λs=>s) ⟨⟨rfl,rfl⟩,⟨by show AV.v (.int .u32 0)=.v (.int .u32 ((ofB (l.drop (l.length-0)):Nat):Int));simp[ofB],rfl⟩,⟨by show AV.v (.int .i64 (IntKind.wrap .i64 (((l.map dU).length:Int)-1)))=.v (.int .i64 ((l.length:Int)-1-((0:Nat):Int)));rw[aH,wrap_i64 omT omT];simp,rfl⟩,trivial⟩ trivial rfl) (aE _) ?_;intro k hk;have hg:l.getD (l.length-1-k) 0<=4294967295:=Yv hb _;refine zV (vB (decide (((l.length:Int)-1-(k:Int))>=0))) ?_;refine zPr (((l.length:Int)-1-(k:Int))>=0) qW (λh1=>?_) (λh1=>?_)
 ·skip
  have b1:(2*(ofB (l.drop (l.length-k))))%4294967296<=4294967295:=aI (aQ _ dT);refine zV (vU ((2*(ofB (l.drop (l.length-k))))%4294967296)) ?_;refine FO (dU (l.getD (l.length-1-k) 0)) rfl rfl rfl (⟨oT,by rw[(oT:((l.length:Int)-1-(k:Int)).toNat=l.length-1-k),aX,aA omT,aR,aA omT];rfl⟩) rfl ?_;have b2:(((2*(ofB (l.drop (l.length-k))))%4294967296)+(l.getD (l.length-1-k) 0))%4294967296<=4294967295:=aI (aQ _ dT);refine qR 0 rfl<|zV (vU ((((2*(ofB (l.drop (l.length-k))))%4294967296)+(l.getD (l.length-1-k) 0))%4294967296))<|zV (vI (IntKind.wrap .i64 (((l.length:Int)-1-(k:Int))-1))) ?_;refine⟨k+1,λs=>s,wOL (λs=>s) ⟨⟨rfl,rfl⟩,⟨acJ (by rw[Sy l k omT];simp only[ofB];omega),rfl⟩,⟨by show AV.v (.int .i64 (IntKind.wrap .i64 ((l.length:Int)-1-(k:Int)-1)))=.v (.int .i64 ((l.length:Int)-1-((k+1:Nat):Int)));rw[wrap_i64 omT omT];congr 2;omega,rfl⟩,trivial⟩ trivial rfl,omT,omT⟩
 exact fN rfl (by rw[(oT:l.length-k=0)];simp)
def abG(a:Nat)(z)(ha:a<=4294967295)(h0:0<=z)(h1:z<=31):bI C0 141 [.v (.int .u32 (a:Int)),.v (.int .i64 z)] (.v (.int .u32 ((a/2 ^ z.toNat%2:Nat):Int))):=by
 have e:((z.toNat:Nat):Int)=z:=lU h0;have:bI C0 141 [.v (.int .u32 (a:Int)),.v (.int .i64 ((z.toNat:Nat):Int))] (.v (.int .u32 ((a/2 ^ z.toNat%2:Nat):Int))):=Pu a z.toNat ha omT
 rwa [e]at this
def ac9(n){g}{k}(hg:∀i,g i<=4294967295)(hk:k+1=n∧n<=32):bI C0 144 [.sl 1 (List.take (k+1) (List.drop 0 ((upto g (k+1)).map dU))) false] (.v (.int .u32 ((ofB (upto g n):Nat):Int))):=by
 rw[gT,hk.1];exact rOf _ (NZ λi _=>hg i) (by rw[afQ];omega)
def ad3{g:Nat->Nat}{k:Nat}(hg:∀i,g i<=4294967295)(hk:k+1=32):bI C0 144 [.sl 1 (List.take (k+1) (List.drop 0 ((upto g (k+1)).map dU))) false] (.v (.int .u32 ((ofB (upto g 32):Nat):Int))):=ac9 32 hg ⟨hk,dT⟩
def ofl{h}{k}{g}(e:h 0=some (.arr ((upto g (k+1)).map dU) 1)):jV h [.osl 0 0 (k+1) false]:=by
 show(match h 0 with|some (.arr rows _)=>0+(k+1)<=rows.length|_=>False)∧True;rw[e];exact⟨Nat.le_of_eq gF,trivial⟩
def adA(a n)(e1:1<=n)(e2:a+n<=32):bI C0 143 [vN a,vN n] (.v (.bool true)):=by
 refine dIZ func143 rfl ?_;refine zW _ (okB (geN _ _))<|gBS rfl id (okB (leN _ _))<|zN rfl (λh=>h)<|gBS rfl id (okB (geN _ _)) ?_;refine zN rfl (λh=>h)<|gBS rfl id (okN (wrap_i64 omT omT))<|gBS rfl hsT rfl<|zN rfl (λh=>h) ?_;exact fB rfl (by have e3:a<=31:=omT;have e4:(n:Int)<=32-a:=omT;simp[cE,e1,e3,e4])
def Sz(x a n)(h:n<=32):ofB (upto (λi=>x/2 ^ (a+i)%2) n)=field x a n:=by
 rw[<-YD];exact Jq _ (Od x a n) (by simp[upto];omega)
def abH(x n)(h1:1<=n)(h2:n<=32):ofB (upto (yN x n) 32)=sext x n:=by
 rw[<-YE x n h1 h2];exact Jq _ (Js x n 32) (by simp[upto])
def SB(x a i:Nat):x/2 ^ (a+i)%2<=4294967295:=oT
def Vq(x n i:Nat):yN x n i<=4294967295:=oH (Oe x n i)
def fle(x a n k)(h:2 ^ n=k+1):field x a n<=k:=by have:=iR x a n;rw[h]at this;exact aI this
def gQ{x a n k}(h:2 ^ n=k+1):field x a n<=k:=by have:=iR x a n;rw[h]at this;exact aI this
def SC(x a n)(hx:x<=4294967295)(e1:1<=n)(e2:a+n<=32):bI C0 95 [vU x,vN a,vN n] (.v (.int .u32 ((field x a n:Nat):Int))):=by
 refine dIZ func95 rfl ?_;refine rCi rfl (adA a n e1 e2) ?_;refine qR 1 rfl<|zV (.sl 1 ([]) true)<|jR (κ:=Nat) (λk=>match k with|0=>⟨slotsF [(0,vU x),(1,vN a),(2,vN n),(7,.sl 1 ([]) true),(8,vN 0)],heapF [],8⟩|k+1=>⟨slotsF [(0,vU x),(1,vN a),(2,vN n),(7,.osl 0 0 (k+1) false),(8,vN (k+1))],heapF [(0,.arr ((upto (λi=>x/2 ^ (a+i)%2) (k+1)).map dU) 1)],8⟩) (λk=>k<=n) (λk=>n-k) 0 (λs=>s) (wOL (λs=>s) wT trivial rfl) (aE _) ?_;intro k hk;rcases k with _|k
 ·have hkB:0<=1000000:=dT;refine qS 0 rfl<|zW _ (okB (ltN _ _)) ?_;refine zPr (0<n) qW (λh1=>?_) (λh1=>by omega);have b1:a+0<=1000032:=aD omT hkB;refine rW _ rfl (okI (bH b1 rfl))<|rCi rfl (Pu x (a+0) hx omT)<|rV (.sl 1 ([[vU (x/2 ^ (a+0)%2)]]) true) rfl<|zF (x:=.osl 18 0 1 false) (h':=upd _ 18 (some (.arr (([])++([[vU (x/2 ^ (a+0)%2)]])) 1))) (rfl) (⟨by exact aJ rfl,by exact aJ rfl,trivial,trivial⟩) ?_;have b2:0+1<=1000001:=aD hkB (aC 1);refine zW _ (okI (bH b2 rfl)) ?_;refine⟨0+1,λs=>match s with|0=>18|s=>s,wOL (λs=>match s with|0=>18|s=>s) wT ⟨⟨rfl,af2 (λz=>some (Blk.arr z 1)) (Jp (g:=λi=>x/2 ^ (a+i)%2) (row:=dU) (rfl)),rfl⟩,trivial⟩ rfl,omT,omT⟩
 have hkB:k+1<=1000000:=oT;refine qS 0 rfl<|zW _ (okB (ltN _ _)) ?_;refine zPr ((k+1)<n) qW (λh2=>?_) (λh2=>?_)
 ·skip
  have b3:a+(k+1)<=1000032:=aD omT hkB;refine rW _ rfl (okI (bH b3 rfl))<|rCi rfl (Pu x (a+(k+1)) hx omT)<|rV (.sl 1 ([[vU (x/2 ^ (a+(k+1))%2)]]) true) rfl ?_;refine zF (rfl) (⟨gC omT,gF,trivial⟩) ?_;have b4:(k+1)+1<=1000001:=aD hkB (aC 1);refine zW _ (okI (bH b4 rfl)) ?_;refine⟨(k+1)+1,λs=>match s with|0=>18|s=>s,wOL (λs=>match s with|0=>18|s=>s) ⟨⟨rfl,rfl⟩,⟨rfl,rfl⟩,⟨rfl,rfl⟩,⟨af2 (λz=>AV.osl 18 0 z false) gL,rfl⟩,⟨rfl,rfl⟩,trivial⟩ ⟨⟨rfl,af2 (λz=>some (Blk.arr z 1)) (Gh (rfl)),rfl⟩,trivial⟩ rfl,omT,omT⟩
 refine qX 0 rfl<|zL rfl (.inr ⟨rfl,ofl rfl⟩) (ac9 n (SB x a) omT) ?_;exact fN rfl (Sz x a n omT)
def Pm(x n)(hx:x<=4294967295)(e1:1<=n)(e2:n<=32):bI C0 96 [vU x,vN n] (.v (.int .u32 ((sext x n:Nat):Int))):=by
 refine dIZ func96 rfl ?_;refine zW _ (okB (ltN _ _))<|gBS rfl id (okB (gtN _ _))<|zN rfl (by simp) ?_;refine zPr (n<1∨n>32) (wP _ _ qW qW) (λh1=>by omega) (λh1=>?_);refine zV (.sl 1 ([]) true)<|jR (κ:=Nat) (λk=>match k with|0=>⟨slotsF [(0,vU x),(1,vN n),(5,.sl 1 ([]) true),(6,vN 0)],heapF [],10⟩|k+1=>⟨slotsF [(0,vU x),(1,vN n),(5,.osl 0 0 (k+1) false),(6,vN (k+1))],heapF [(0,.arr ((upto (yN x n) (k+1)).map dU) 1)],10⟩) (λk=>k<=32) (λk=>32-k) 0 (λs=>s) (wOL (λs=>s) wT trivial rfl) (aE _) ?_;intro k hk;rcases k with _|k
 ·have hkB:0<=1000000:=dT;refine qS 0 rfl<|zW _ (okB (ltN _ _)) ?_;refine zPr (0<32) qW (λh2=>?_) (λh2=>by omega);refine zW _ (okB (ltN _ _)) ?_;refine zPr (0<n) qW (λh3=>?_) (λh3=>by omega);refine rCi rfl (Pu x 0 hx omT)<|rV (.sl 1 ([[vU (x/2 ^ 0%2)]]) true) rfl<|zF (x:=.osl 20 0 1 false) (h':=upd _ 20 (some (.arr (([])++([[vU (x/2 ^ 0%2)]])) 1))) (rfl) (⟨by exact aJ rfl,by exact aJ rfl,trivial,trivial⟩) ?_;have b1:0+1<=1000001:=aD hkB (aC 1);refine zW _ (okI (bH b1 rfl)) ?_;refine⟨0+1,λs=>match s with|0=>20|s=>s,wOL (λs=>match s with|0=>20|s=>s) wT ⟨⟨rfl,af2 (λz=>some (Blk.arr z 1)) (Jp (row:=dU) (x:=x/2 ^ 0%2) (by unfold yN;rw[af1 omT])),rfl⟩,trivial⟩ rfl,omT,omT⟩
 have hkB:k+1<=1000000:=oT;refine qS 0 rfl<|zW _ (okB (ltN _ _)) ?_;refine zPr ((k+1)<32) qW (λh4=>?_) (λh4=>?_)
 ·refine zW _ (okB (ltN _ _)) ?_;refine zPr ((k+1)<n) qW (λh5=>?_) (λh5=>?_)
  ·refine rCi rfl (Pu x (k+1) hx omT)<|rV (.sl 1 ([[vU (x/2 ^ (k+1)%2)]]) true) rfl ?_;refine zF (rfl) (⟨gC omT,gF,trivial⟩) ?_;have b2:(k+1)+1<=1000001:=aD hkB (aC 1);refine zW _ (okI (bH b2 rfl)) ?_;refine⟨(k+1)+1,λs=>match s with|0=>20|s=>s,wOL (λs=>match s with|0=>20|s=>s) ⟨⟨rfl,rfl⟩,⟨rfl,rfl⟩,⟨af2 (λz=>AV.osl 20 0 z false) gL,rfl⟩,⟨rfl,rfl⟩,trivial⟩ ⟨⟨rfl,af2 (λz=>some (Blk.arr z 1)) (Gh (by unfold yN;rw[af1 h5])),rfl⟩,trivial⟩ rfl,omT,omT⟩
  refine rW _ rfl (okN (by rw[wrap_i64 omT omT];omega))<|rCi rfl (Pu x (n-1) hx omT)<|rV (.sl 1 ([[vU (x/2 ^ (n-1)%2)]]) true) rfl ?_;refine zF (rfl) (⟨gC omT,gF,trivial⟩) ?_;have b3:(k+1)+1<=1000001:=aD hkB (aC 1);refine zW _ (okI (bH b3 rfl)) ?_;refine⟨(k+1)+1,λs=>match s with|0=>21|s=>s,wOL (λs=>match s with|0=>21|s=>s) ⟨⟨rfl,rfl⟩,⟨rfl,rfl⟩,⟨af2 (λz=>AV.osl 21 0 z false) gL,rfl⟩,⟨rfl,rfl⟩,trivial⟩ ⟨⟨rfl,af2 (λz=>some (Blk.arr z 1)) (Gh (by unfold yN;rw[dZ h5])),rfl⟩,trivial⟩ rfl,omT,omT⟩
 refine qX 0 rfl<|zL rfl (.inr ⟨rfl,ofl rfl⟩) (ac9 32 (Vq x n) omT) ?_;exact fN rfl (abH x n e1 e2)
def Vr(rule:Int)(a b i:Nat):uP rule a b i<=4294967295:=oH (El rule a b i)
def SD(a:Nat)(n:Int){fill:Nat}(hf:fill<2)(i:Nat):af9 a n fill i<=4294967295:=oH (CF a n hf i)
def Pn(rule)(a b)(ha:a<=4294967295)(hb:b<=4294967295):bI C0 139 [vI rule,vU a,vU b] (.v (.int .u32 ((ofB (upto (uP rule a b) 32):Nat):Int))):=by
 refine dIZ func139 rfl ?_;refine zV (.sl 1 ([]) true) ?_;refine jR (κ:=Nat) (λk=>match k with|0=>⟨slotsF [(0,vI rule),(1,vU a),(2,vU b),(7,.sl 1 ([]) true),(8,vN 0)],heapF [],4⟩|k+1=>⟨slotsF [(0,vI rule),(1,vU a),(2,vU b),(7,.osl 0 0 (k+1) false),(8,vN (k+1))],heapF [(0,.arr ((upto (uP rule a b) (k+1)).map dU) 1)],4⟩) (λk=>k<=32) (λk=>32-k) 0 (λs=>s) (wOL (λs=>s) wT trivial rfl) (aE _) ?_;intro k hk;rcases k with _|k
 ·have hkB:0<=1000000:=dT;refine qS 0 rfl<|zW _ (okB (ltN _ _)) ?_;refine zPr (0<32) qW (λh1=>?_) (λh1=>by omega);refine zC (Pu a 0 ha omT)<|rCi rfl (Pu b 0 hb omT) ?_;have b1:(a/2 ^ 0%2)+(b/2 ^ 0%2)<=2:=aD (aI (aQ _ dT)) (aI (aQ _ dT));refine zW _ (okI (nJ b1 rfl))<|zV (vB (rule==1))<|gBS rfl id (okB (eqN _ _))<|zN rfl (λh=>h)<|gBS rfl id rfl<|zG rfl id ?_;refine gBS rfl id (okB (gtN _ _))<|pB rfl rfl rfl rfl (λh=>h) rfl rfl (λhg hc=>by first|(rw[hg,hc];rfl)|simp_all)<|zN rfl (by simp)<|gBS rfl id rfl<|zG rfl id<|gBS rfl id (okB (eqN _ _))<|pB rfl rfl rfl rfl (λh=>h) rfl rfl (λhg hc=>by first|(rw[hg,hc];rfl)|simp_all)<|zN rfl (by simp) ?_;refine zPr (((rule=1∧((a/2 ^ 0%2)+(b/2 ^ 0%2))=2)∨(rule=2∧((a/2 ^ 0%2)+(b/2 ^ 0%2))>0))∨(rule=3∧((a/2 ^ 0%2)+(b/2 ^ 0%2))=1)) (wP _ _ (wP _ _ (uA _ _ pEq pEq) (uA _ _ pEq qW)) (uA _ _ pEq pEq)) (λh2=>?_) (λh2=>?_)
  ·refine rV (.sl 1 ([[.v (.int .u32 1)]]) true) rfl<|zF (x:=.osl 40 0 1 false) (h':=upd _ 40 (some (.arr (([])++([[.v (.int .u32 1)]])) 1))) (rfl) (⟨dT,dT,trivial,trivial⟩) ?_;have b2:0+1<=1000001:=aD hkB (aC 1);refine zW _ (okI (bH b2 rfl)) ?_;refine⟨0+1,λs=>match s with|0=>40|s=>s,wOL (λs=>match s with|0=>40|s=>s) wT ⟨⟨rfl,af2 (λz=>some (Blk.arr z 1)) (Jp (row:=dU) (x:=1) (by unfold uP;rw[af1 h2])),rfl⟩,trivial⟩ rfl,omT,omT⟩
  refine rV (.sl 1 ([[.v (.int .u32 0)]]) true) rfl<|zF (x:=.osl 40 0 1 false) (h':=upd _ 40 (some (.arr (([])++([[.v (.int .u32 0)]])) 1))) (rfl) (⟨dT,dT,trivial,trivial⟩) ?_;have b3:0+1<=1000001:=aD hkB (aC 1);refine zW _ (okI (bH b3 rfl)) ?_;refine⟨0+1,λs=>match s with|0=>40|s=>s,wOL (λs=>match s with|0=>40|s=>s) wT ⟨⟨rfl,af2 (λz=>some (Blk.arr z 1)) (Jp (row:=dU) (x:=0) (by unfold uP;rw[dZ h2])),rfl⟩,trivial⟩ rfl,omT,omT⟩
 have hkB:k+1<=1000000:=oT;refine qS 0 rfl<|zW _ (okB (ltN _ _)) ?_;refine zPr ((k+1)<32) qW (λh3=>?_) (λh3=>?_)
 ·refine zC (Pu a (k+1) ha omT)<|rCi rfl (Pu b (k+1) hb omT) ?_;have b4:(a/2 ^ (k+1)%2)+(b/2 ^ (k+1)%2)<=2:=aD (aI (aQ _ dT)) (aI (aQ _ dT));refine zW _ (okI (nJ b4 rfl))<|zV (vB (rule==1))<|gBS rfl id (okB (eqN _ _))<|zN rfl (λh=>h)<|gBS rfl id rfl<|zG rfl id ?_;refine gBS rfl id (okB (gtN _ _))<|pB rfl rfl rfl rfl (λh=>h) rfl rfl (λhg hc=>by first|(rw[hg,hc];rfl)|simp_all)<|zN rfl (by simp)<|gBS rfl id rfl<|zG rfl id<|gBS rfl id (okB (eqN _ _))<|pB rfl rfl rfl rfl (λh=>h) rfl rfl (λhg hc=>by first|(rw[hg,hc];rfl)|simp_all)<|zN rfl (by simp) ?_;refine zPr (((rule=1∧((a/2 ^ (k+1)%2)+(b/2 ^ (k+1)%2))=2)∨(rule=2∧((a/2 ^ (k+1)%2)+(b/2 ^ (k+1)%2))>0))∨(rule=3∧((a/2 ^ (k+1)%2)+(b/2 ^ (k+1)%2))=1)) (wP _ _ (wP _ _ (uA _ _ pEq pEq) (uA _ _ pEq qW)) (uA _ _ pEq pEq)) (λh4=>?_) (λh4=>?_)
  ·refine rV (.sl 1 ([[.v (.int .u32 1)]]) true) rfl ?_;refine zF (rfl) (⟨gC omT,gF,trivial⟩) ?_;have b5:(k+1)+1<=1000001:=aD hkB (aC 1);refine zW _ (okI (bH b5 rfl)) ?_;refine⟨(k+1)+1,λs=>match s with|0=>40|s=>s,wOL (λs=>match s with|0=>40|s=>s) ⟨⟨rfl,rfl⟩,⟨rfl,rfl⟩,⟨rfl,rfl⟩,⟨af2 (λz=>AV.osl 40 0 z false) gL,rfl⟩,⟨rfl,rfl⟩,trivial⟩ ⟨⟨rfl,af2 (λz=>some (Blk.arr z 1)) (Gh (by unfold uP;rw[af1 h4])),rfl⟩,trivial⟩ rfl,omT,omT⟩
  refine rV (.sl 1 ([[.v (.int .u32 0)]]) true) rfl ?_;refine zF (rfl) (⟨gC omT,gF,trivial⟩) ?_;have b6:(k+1)+1<=1000001:=aD hkB (aC 1);refine zW _ (okI (bH b6 rfl)) ?_;refine⟨(k+1)+1,λs=>match s with|0=>40|s=>s,wOL (λs=>match s with|0=>40|s=>s) ⟨⟨rfl,rfl⟩,⟨rfl,rfl⟩,⟨rfl,rfl⟩,⟨af2 (λz=>AV.osl 40 0 z false) gL,rfl⟩,⟨rfl,rfl⟩,trivial⟩ ⟨⟨rfl,af2 (λz=>some (Blk.arr z 1)) (Gh (by unfold uP;rw[dZ h4])),rfl⟩,trivial⟩ rfl,omT,omT⟩
 refine qX 0 rfl<|zL rfl (.inr ⟨rfl,ofl rfl⟩) (ad3 (Vr rule a b) omT) ?_;exact fT rfl rfl
def Hg(a)(n)(fill)(ha:a<=4294967295)(hn1: -32<=n)(hn2:n<=32)(hf:fill<2):bI C0 140 [vU a,vI n,vU fill] (.v (.int .u32 ((ofB (upto (af9 a n fill) 32):Nat):Int))):=by
 refine dIZ func140 rfl ?_;refine zV (.sl 1 ([]) true) ?_;refine jR (κ:=Nat) (λk=>match k with|0=>⟨slotsF [(0,vU a),(1,vI n),(2,vU fill),(7,.sl 1 ([]) true),(8,vN 0)],heapF [],4⟩|k+1=>⟨slotsF [(0,vU a),(1,vI n),(2,vU fill),(7,.osl 0 0 (k+1) false),(8,vN (k+1))],heapF [(0,.arr ((upto (af9 a n fill) (k+1)).map dU) 1)],4⟩) (λk=>k<=32) (λk=>32-k) 0 (λs=>s) (wOL (λs=>s) wT trivial rfl) (aE _) ?_;intro k hk;rcases k with _|k
 ·have hkB:0<=1000000:=dT;refine qS 0 rfl<|zW _ (okB (ltN _ _)) ?_;refine zPr (0<32) qW (λh1=>?_) (λh1=>by omega);refine rW _ rfl (okN (wrap_i64 omT omT))<|zV (vB (decide ((((0:Nat):Int)-n)<0)))<|gBS rfl hsT (okN (wrap_i64 omT omT))<|gBS rfl id rfl<|zN rfl (by simp) ?_;refine zPr ((((0:Nat):Int)-n)<0∨(((0:Nat):Int)-n)>31) (wP _ _ qW qW) (λh2=>?_) (λh2=>?_)
  ·refine rV (.sl 1 ([[vU fill]]) true) rfl<|zF (x:=.osl 19 0 1 false) (h':=upd _ 19 (some (.arr (([])++([[vU fill]])) 1))) (rfl) (⟨by exact aJ rfl,by exact aJ rfl,trivial,trivial⟩) ?_;have b1:0+1<=1000001:=aD hkB (aC 1);refine zW _ (okI (bH b1 rfl)) ?_;refine⟨0+1,λs=>match s with|0=>19|s=>s,wOL (λs=>match s with|0=>19|s=>s) wT ⟨⟨rfl,af2 (λz=>some (Blk.arr z 1)) (Jp (row:=dU) (x:=fill) (by unfold af9;rw[af1 h2])),rfl⟩,trivial⟩ rfl,omT,omT⟩
  refine rW _ rfl (okN (wrap_i64 omT omT))<|rCi rfl (abG a _ ha omT omT)<|rV (.sl 1 ([[vU (a/2 ^ (((0:Nat):Int)-n).toNat%2)]]) true) rfl<|zF (x:=.osl 23 0 1 false) (h':=upd _ 23 (some (.arr (([])++([[vU (a/2 ^ (((0:Nat):Int)-n).toNat%2)]])) 1))) (rfl) (⟨by exact aJ rfl,by exact aJ rfl,trivial,trivial⟩) ?_;have b2:0+1<=1000001:=aD hkB (aC 1);refine zW _ (okI (bH b2 rfl)) ?_;refine⟨0+1,λs=>match s with|0=>23|s=>s,wOL (λs=>match s with|0=>23|s=>s) wT ⟨⟨rfl,af2 (λz=>some (Blk.arr z 1)) (Jp (row:=dU) (x:=a/2 ^ (((0:Nat):Int)-n).toNat%2) (by unfold af9;rw[dZ h2])),rfl⟩,trivial⟩ rfl,omT,omT⟩
 have hkB:k+1<=1000000:=oT;refine qS 0 rfl<|zW _ (okB (ltN _ _)) ?_;refine zPr ((k+1)<32) qW (λh3=>?_) (λh3=>?_)
 ·refine rW _ rfl (okN (wrap_i64 omT omT))<|zV (vB (decide (((((k+1):Nat):Int)-n)<0)))<|gBS rfl hsT (okN (wrap_i64 omT omT))<|gBS rfl id rfl<|zN rfl (by simp) ?_;refine zPr (((((k+1):Nat):Int)-n)<0∨((((k+1):Nat):Int)-n)>31) (wP _ _ qW qW) (λh4=>?_) (λh4=>?_)
  ·refine rV (.sl 1 ([[vU fill]]) true) rfl ?_;refine zF (rfl) (⟨gC omT,gF,trivial⟩) ?_;have b3:(k+1)+1<=1000001:=aD hkB (aC 1);refine zW _ (okI (bH b3 rfl)) ?_;refine⟨(k+1)+1,λs=>match s with|0=>19|s=>s,wOL (λs=>match s with|0=>19|s=>s) ⟨⟨rfl,rfl⟩,⟨rfl,rfl⟩,⟨rfl,rfl⟩,⟨af2 (λz=>AV.osl 19 0 z false) gL,rfl⟩,⟨rfl,rfl⟩,trivial⟩ ⟨⟨rfl,af2 (λz=>some (Blk.arr z 1)) (Gh (by unfold af9;rw[af1 h4])),rfl⟩,trivial⟩ rfl,omT,omT⟩
  refine rW _ rfl (okN (wrap_i64 omT omT))<|rCi rfl (abG a _ ha omT omT)<|rV (.sl 1 ([[vU (a/2 ^ ((((k+1):Nat):Int)-n).toNat%2)]]) true) rfl ?_;refine zF (rfl) (⟨gC omT,gF,trivial⟩) ?_;have b4:(k+1)+1<=1000001:=aD hkB (aC 1);refine zW _ (okI (bH b4 rfl)) ?_;refine⟨(k+1)+1,λs=>match s with|0=>23|s=>s,wOL (λs=>match s with|0=>23|s=>s) ⟨⟨rfl,rfl⟩,⟨rfl,rfl⟩,⟨rfl,rfl⟩,⟨af2 (λz=>AV.osl 23 0 z false) gL,rfl⟩,⟨rfl,rfl⟩,trivial⟩ ⟨⟨rfl,af2 (λz=>some (Blk.arr z 1)) (Gh (by unfold af9;rw[dZ h4])),rfl⟩,trivial⟩ rfl,omT,omT⟩
 refine qX 0 rfl<|zL rfl (.inr ⟨rfl,ofl rfl⟩) (ad3 (SD a n hf) omT) ?_;exact fT rfl rfl
def abI(x i):IntKind.wrap .u8 ((field x (8*i) 8:Nat):Int)=(((xM x i).toNat:Nat):Int):=by
 simp only[IntKind.wrap,IntKind.signed,IntKind.bits,xM,field];simp
def abJ(x n)(hx:x<=4294967295)(hn:n<=4):bI C0 33 [vU x,vN n] (.tup [.v (.string (oF x n)),.v (.int .i64 0)]):=by
 refine dIZ func33 rfl ?_;refine zW _ (okB (ltN _ _))<|gBS (x:=vB (decide (n>4))) rfl id (okB (gtN _ _))<|zN rfl (by simp) ?_;refine zPr (n<0∨n>4) (wP _ _ qW qW) (λh1=>by omega) (λh1=>?_);refine zV (.sl 1 ([]) true)<|jR (κ:=Nat) (λk=>match k with|0=>⟨slotsF [(0,vU x),(1,vN n),(6,.sl 1 ([]) true),(7,vN 0)],heapF [],11⟩|k+1=>⟨slotsF [(0,vU x),(1,vN n),(6,.osl 0 0 (k+1) false),(7,vN (k+1))],heapF [(0,.arr ((upto (xM x) (k+1)).map Sx) 1)],11⟩) (λk=>k<=n) (λk=>n-k) 0 (λs=>s) (wOL (λs=>s) wT trivial rfl) (aE _) ?_;intro k hk;rcases k with _|k
 ·have hkB:0<=1000000:=dT;refine qS 0 rfl<|zW _ (okB (ltN _ _)) ?_;refine zPr (0<n) qW (λh2=>?_) (λh2=>?_)
  ·skip
   have b1:8*0<=8000000:=cJ (aC 8) hkB;refine rW _ rfl (okI (bH b1 rfl))<|rCi rfl (SC x (8*0) 8 hx dT omT)<|rW _ rfl (okN (abI x 0))<|rV (.sl 1 ([[.v (.int .u8 (((xM x 0).toNat:Nat):Int))]]) true) rfl<|zF (x:=.osl 21 0 1 false) (h':=upd _ 21 (some (.arr (([])++([[.v (.int .u8 (((xM x 0).toNat:Nat):Int))]])) 1))) (rfl) (⟨by exact aJ rfl,by exact aJ rfl,trivial,trivial⟩) ?_;have b2:0+1<=1000001:=aD hkB (aC 1);refine zW _ (okI (bH b2 rfl)) ?_;refine⟨0+1,λs=>match s with|0=>21|s=>s,wOL (λs=>match s with|0=>21|s=>s) wT ⟨⟨rfl,af2 (λz=>some (Blk.arr z 1)) (Jp (g:=xM x) (row:=Sx) (rfl)),rfl⟩,trivial⟩ rfl,omT,omT⟩
  refine qX 0 rfl<|SV (([]:List UInt8)) rfl rfl rfl (trivial) (rfl)<|qRF 0 rfl ?_;exact fT rfl (by rw[(oT:n=0)];rfl)
 have hkB:k+1<=1000000:=oT;refine qS 0 rfl<|zW _ (okB (ltN _ _)) ?_;refine zPr ((k+1)<n) qW (λh3=>?_) (λh3=>?_)
 ·skip
  have b3:8*(k+1)<=8000000:=cJ (aC 8) hkB;refine rW _ rfl (okI (bH b3 rfl))<|rCi rfl (SC x (8*(k+1)) 8 hx dT omT)<|rW _ rfl (okN (abI x (k+1)))<|rV (.sl 1 ([[.v (.int .u8 (((xM x (k+1)).toNat:Nat):Int))]]) true) rfl ?_;refine zF (rfl) (⟨gC omT,gF,trivial⟩) ?_;have b4:(k+1)+1<=1000001:=aD hkB (aC 1);refine zW _ (okI (bH b4 rfl)) ?_;refine⟨(k+1)+1,λs=>match s with|0=>21|s=>s,wOL (λs=>match s with|0=>21|s=>s) ⟨⟨rfl,rfl⟩,⟨rfl,rfl⟩,⟨af2 (λz=>AV.osl 21 0 z false) gL,rfl⟩,⟨rfl,rfl⟩,trivial⟩ ⟨⟨rfl,af2 (λz=>some (Blk.arr z 1)) (Gh (rfl)),rfl⟩,trivial⟩ rfl,omT,omT⟩
 refine qX 0 rfl<|SV (upto (xM x) (k+1)) rfl rfl rfl (Nat.le_of_eq gF) (by rw[gT];exact lN _)<|qRF 0 rfl ?_;exact fT rfl (by rw[show oF x n=(⟨(upto (xM x) (k+1)).toArray⟩:ByteArray) by rw[(oT:k+1=n)];exact(SK x n).symm];rfl)
def rFd(x a t)(hx:x<=4294967295)(e1:a<=t)(e2:t<32):bI C0 90 [vU x,vN a,vN t] (.v (.int .u32 ((field x a (t+1-a):Nat):Int))):=by
 refine dIZ func90 rfl ?_;refine rW _ rfl (okN (wrap_i64 omT omT))<|rW _ rfl (okN (by rw[wrap_i64 omT omT];omega))<|zC (SC x a (t+1-a) hx omT omT) ?_;exact fT rfl rfl
abbrev ae7(n:Nat):List AV:=[.v (.int .i64 (n:Int))]
def Mr(l)(f)(hf:f<=7):bI C0 133 [.sl 1 (l.map ae7) true,vU f] (.v (.int .i64 ((pickN l f:Nat):Int))):=by
 refine dIZ func133 rfl ?_;refine zW _ (okI (bH hf rfl))<|rW _ rfl (af2 (λn:Nat=>Res.ok (.v (.int .i64 (n:Int)))) (aH ..))<|zW _ (okB (ltN _ _)) ?_;refine zPr (f<l.length) qW (λh1=>?_) (λh1=>?_)
 ·skip
  refine zX (ae7 (l.getD f 0)) (.dp 1 0 (ae7 (l.getD f 0))) rfl (by rw[Int.toNat_natCast,aX,aA omT,aR,aA omT];rfl) ?_;exact fI rfl (rfl)
 exact fN rfl (by show 0=l.getD f 0;rw[aR,bE omT];rfl)
def ac5(f g)(hf:f<=7)(hg:g<=127):bI C0 134 [vU f,vU g] (.v (.int .i64 ((immR f g:Nat):Int))):=by
 refine dIZ func134 rfl ?_;refine zW _ (okB (eqN _ _)) ?_;refine zEq f 1 (λh1=>?_) (λh1=>?_)
 ·refine zW _ (okB (eqN _ _)) ?_;refine zEq g 0 (λh2=>?_) (λh2=>?_)
  ·exact fN rfl (by unfold immR;simp[h1,h2])
  exact fN rfl (by unfold immR;simp[h1,h2])
 refine zW _ (okB (eqN _ _)) ?_;refine zEq f 5 (λh3=>?_) (λh3=>?_)
 ·refine zW _ (okB (eqN _ _)) ?_;refine zEq g 0 (λh4=>?_) (λh4=>?_)
  ·exact fN rfl (by unfold immR;simp[h1,h3,h4])
  refine zW _ (okB (eqN _ _)) ?_;refine zEq g 32 (λh5=>?_) (λh5=>?_)
  ·exact fN rfl (by unfold immR;simp[h1,h3,h4,h5])
  exact fN rfl (by unfold immR;simp[h1,h3,h4,h5])
 refine zV (.sl 1 ([[vI 19],[vI 0],[vI 20],[vI 21],[vI 22],[vI 0],[vI 23],[vI 24]]) true)<|zC (Mr [19,0,20,21,22,0,23,24] f hf) ?_;exact fN rfl (by unfold immR;simp[h1,h3])
def ac6(f g)(hf:f<=7)(hg:g<=127):bI C0 135 [vU f,vU g] (.v (.int .i64 ((regR f g:Nat):Int))):=by
 refine dIZ func135 rfl ?_;refine zW _ (okB (eqN _ _)) ?_;refine zEq g 0 (λh1=>?_) (λh1=>?_)
 ·refine zV (.sl 1 ([[vI 28],[vI 30],[vI 31],[vI 32],[vI 33],[vI 34],[vI 36],[vI 37]]) true)<|zC (Mr [28,30,31,32,33,34,36,37] f hf) ?_;exact fN rfl (by unfold regR;simp[h1])
 refine zW _ (okB (eqN _ _)) ?_;refine zEq g 1 (λh2=>?_) (λh2=>?_)
 ·refine zV (.sl 1 ([[vI 38],[vI 39],[vI 40],[vI 41],[vI 42],[vI 43],[vI 44],[vI 45]]) true)<|zC (Mr [38,39,40,41,42,43,44,45] f hf) ?_;exact fN rfl (by unfold regR;simp[h1,h2])
 refine zW _ (okB (eqN _ _))<|gBS rfl id (okB (eqN _ _))<|zN rfl (λh=>h) ?_;refine zPr (g=32∧f=0) (uA _ _ pEq pEq) (λh3=>?_) (λh3=>?_)
 ·exact fN rfl (by unfold regR;simp[h1,h2,h3])
 refine zW _ (okB (eqN _ _))<|gBS rfl id (okB (eqN _ _))<|zN rfl (λh=>h) ?_;refine zPr (g=32∧f=5) (uA _ _ pEq pEq) (λh4=>?_) (λh4=>?_)
 ·exact fN rfl (by unfold regR;simp[h1,h2,h3,h4])
 exact fN rfl (by unfold regR;simp[h1,h2,h3,h4])
def aeX(x)(hx:x<=4294967295):bI C0 87 [vU x] (.v (.int .i64 ((refOp x:Nat):Int))):=by
 refine dIZ func87 rfl ?_;refine zC (rFd x 12 14 hx dT dT)<|zC (rFd x 25 31 hx dT dT) ?_;refine zW _ (okB (eqN _ _)) ?_;refine zEq x 15 (λh1=>?_) (λh1=>?_)
 ·exact fN rfl (by unfold refOp refTab;simp[h1])
 refine zW _ (okB (eqN _ _)) ?_;refine zEq x 115 (λh2=>?_) (λh2=>?_)
 ·exact fN rfl (by unfold refOp refTab;simp[h1,h2])
 refine zW _ (okB (eqN _ _)) ?_;refine zEq x 1048691 (λh3=>?_) (λh3=>?_)
 ·exact fN rfl (by unfold refOp refTab;simp[h1,h2,h3])
 refine zC (rFd x 0 6 hx dT dT)<|zW _ (okB (eqN _ _)) ?_;refine zEq (field x 0 7) 55 (λh4=>?_) (λh4=>?_)
 ·exact fN rfl (by unfold refOp refTab;simp[h1,h2,h3,h4])
 refine zW _ (okB (eqN _ _)) ?_;refine zEq (field x 0 7) 23 (λh5=>?_) (λh5=>?_)
 ·exact fN rfl (by unfold refOp refTab;simp[h1,h2,h3,h4,h5])
 refine zW _ (okB (eqN _ _)) ?_;refine zEq (field x 0 7) 111 (λh6=>?_) (λh6=>?_)
 ·exact fN rfl (by unfold refOp refTab;simp[h1,h2,h3,h4,h5,h6])
 refine zW _ (okB (eqN _ _)) ?_;refine zEq (field x 0 7) 103 (λh7=>?_) (λh7=>?_)
 ·refine zV (.sl 1 ([[vI 4]]) true)<|zC (Mr [4] (field x 12 3) (gQ rfl)) ?_;exact fN rfl (by unfold refOp refTab;simp[h1,h2,h3,h4,h5,h6,h7])
 refine zW _ (okB (eqN _ _)) ?_;refine zEq (field x 0 7) 99 (λh8=>?_) (λh8=>?_)
 ·refine zV (.sl 1 ([[vI 5],[vI 6],[vI 0],[vI 0],[vI 7],[vI 8],[vI 9],[vI 10]]) true)<|zC (Mr [5,6,0,0,7,8,9,10] (field x 12 3) (gQ rfl)) ?_;exact fN rfl (by unfold refOp refTab;simp[h1,h2,h3,h4,h5,h6,h7,h8])
 refine zW _ (okB (eqN _ _)) ?_;refine zEq (field x 0 7) 3 (λh9=>?_) (λh9=>?_)
 ·refine zV (.sl 1 ([[vI 11],[vI 12],[vI 13],[vI 0],[vI 14],[vI 15]]) true)<|zC (Mr [11,12,13,0,14,15] (field x 12 3) (gQ rfl)) ?_;exact fN rfl (by unfold refOp refTab;simp[h1,h2,h3,h4,h5,h6,h7,h8,h9])
 refine zW _ (okB (eqN _ _)) ?_;refine zEq (field x 0 7) 35 (λh10=>?_) (λh10=>?_)
 ·refine zV (.sl 1 ([[vI 16],[vI 17],[vI 18]]) true)<|zC (Mr [16,17,18] (field x 12 3) (gQ rfl)) ?_;exact fN rfl (by unfold refOp refTab;simp[h1,h2,h3,h4,h5,h6,h7,h8,h9,h10])
 refine zW _ (okB (eqN _ _)) ?_;refine zEq (field x 0 7) 19 (λh11=>?_) (λh11=>?_)
 ·refine zC (ac5 _ _ (gQ rfl) (gQ rfl)) ?_;exact fN rfl (by unfold refOp refTab;simp[h1,h2,h3,h4,h5,h6,h7,h8,h9,h10,h11])
 refine zW _ (okB (eqN _ _)) ?_;refine zEq (field x 0 7) 51 (λh12=>?_) (λh12=>?_)
 ·refine zC (ac6 _ _ (gQ rfl) (gQ rfl)) ?_;exact fN rfl (by unfold refOp refTab;simp[h1,h2,h3,h4,h5,h6,h7,h8,h9,h10,h11,h12])
 exact fN rfl (by unfold refOp refTab;simp[h1,h2,h3,h4,h5,h6,h7,h8,h9,h10,h11,h12])
def numL(x L:Nat):Nat:=
 if L=73 then sext (field x 20 12) 12 else if L=83 then sext (field x 7 5+32*field x 25 7) 12
 else if L=66 then sext (2*field x 8 4+32*field x 25 6+2048*field x 7 1+4096*field x 31 1) 13 else if L=85 then 4096*field x 12 20
 else if L=74 then sext (2*field x 21 10+2048*field x 20 1+4096*field x 12 8+1048576*field x 31 1) 21 else if L=84 then field x 20 5 else 0
def ae6(op):letterOf op<=255:=by unfold letterOf;(repeat' split)<;>decide
def lf(op):(cW op,letterOf op)∈[(0,0),(6,85),(7,74),(2,73),(5,66),(4,83),(3,84),(1,82),(8,87)]:=by
 unfold cW letterOf;(repeat' split)<;>first|decide|(exfalso;omega)
def lfc(op){p:Nat->Nat->Prop}(h0:p 0 0)(h6:p 6 85)(h7:p 7 74)(h2:p 2 73)(h5:p 5 66)(h4:p 4 83)(h3:p 3 84)(h1:p 1 82)(h8:p 8 87):p (cW op) (letterOf op):=by
 have h:=lf op;simp only[al_List_mem_cons,Prod.mk.injEq,List.not_mem_nil,or_false]at h;rcases h with h|h|h|h|h|h|h|h|h<;>rw[h.1,h.2]<;>assumption
def ac7(x)(op):numL x (letterOf op)=EG (cW op) x:=by
 rw[abN x _ (sB op)];exact lfc op (p:=λf L=>numL x L=adH x f) rfl rfl rfl rfl rfl rfl rfl rfl rfl
def aeY(x L:Nat)(hx:x<=4294967295)(hL:L<=255):bI C0 89 [vU x,.v (.int .u8 (L:Int))] (.v (.int .u32 ((numL x L:Nat):Int))):=by
 refine dIZ func89 rfl ?_;refine zC (rFd x 31 31 hx dT dT) ?_;refine zW _ (okB (eqN _ _)) ?_;refine zEq L 73 (λh1=>?_) (λh1=>?_)
 ·refine rCi rfl (rFd x 20 31 hx dT dT)<|zC (Pm (field x 20 12) 12 (aL ((fle x 20 12 4095 rfl)) dT) dT dT) ?_;exact fN rfl (by unfold numL;simp[h1])
 refine zW _ (okB (eqN _ _)) ?_;refine zEq L 83 (λh2=>?_) (λh2=>?_)
 ·refine zC (rFd x 7 11 hx dT dT)<|rCi rfl (rFd x 25 31 hx dT dT) ?_;have b1:32*(field x 25 7)<=4064:=cJ (aC 32) (fle x 25 7 127 rfl);refine rW _ rfl (okI (nJ b1 rfl)) ?_;have b2:(field x 7 5)+(32*(field x 25 7))<=4095:=aD (fle x 7 5 31 rfl) b1;refine rW _ rfl (okI (nJ b2 rfl))<|zC (Pm ((field x 7 5)+(32*(field x 25 7))) 12 (aL (b2) dT) dT dT) ?_;exact fN rfl (by unfold numL;simp[h1,h2])
 refine zW _ (okB (eqN _ _)) ?_;refine zEq L 66 (λh3=>?_) (λh3=>?_)
 ·refine rCi rfl (rFd x 8 11 hx dT dT) ?_;have b3:2*(field x 8 4)<=30:=cJ (aC 2) (fle x 8 4 15 rfl);refine zW _ (okI (nJ b3 rfl))<|rCi rfl (rFd x 25 30 hx dT dT) ?_;have b4:32*(field x 25 6)<=2016:=cJ (aC 32) (fle x 25 6 63 rfl);refine rW _ rfl (okI (nJ b4 rfl)) ?_;have b5:(2*(field x 8 4))+(32*(field x 25 6))<=2046:=aD b3 b4;refine zW _ (okI (nJ b5 rfl))<|rCi rfl (rFd x 7 7 hx dT dT) ?_;have b6:2048*(field x 7 1)<=2048:=cJ (aC 2048) (fle x 7 1 1 rfl);refine rW _ rfl (okI (nJ b6 rfl)) ?_;have b7:((2*(field x 8 4))+(32*(field x 25 6)))+(2048*(field x 7 1))<=4094:=aD b5 b6;refine zW _ (okI (nJ b7 rfl)) ?_;have b8:4096*(field x 31 1)<=4096:=cJ (aC 4096) (fle x 31 1 1 rfl);refine rW _ rfl (okI (nJ b8 rfl)) ?_;have b9:(((2*(field x 8 4))+(32*(field x 25 6)))+(2048*(field x 7 1)))+(4096*(field x 31 1))<=8190:=aD b7 b8;refine rW _ rfl (okI (nJ b9 rfl))<|zC (Pm ((((2*(field x 8 4))+(32*(field x 25 6)))+(2048*(field x 7 1)))+(4096*(field x 31 1))) 13 (aL (b9) dT) dT dT) ?_;exact fN rfl (by unfold numL;simp[h1,h2,h3])
 refine zW _ (okB (eqN _ _)) ?_;refine zEq L 85 (λh4=>?_) (λh4=>?_)
 ·refine rCi rfl (rFd x 12 31 hx dT dT) ?_;have b10:4096*(field x 12 20)<=4294963200:=cJ (aC 4096) (fle x 12 20 1048575 rfl);refine zW _ (okI (nJ b10 rfl)) ?_;exact fN rfl (by unfold numL;simp[h1,h2,h3,h4])
 refine zW _ (okB (eqN _ _)) ?_;refine zEq L 74 (λh5=>?_) (λh5=>?_)
 ·refine rCi rfl (rFd x 21 30 hx dT dT) ?_;have b11:2*(field x 21 10)<=2046:=cJ (aC 2) (fle x 21 10 1023 rfl);refine zW _ (okI (nJ b11 rfl))<|rCi rfl (rFd x 20 20 hx dT dT) ?_;have b12:2048*(field x 20 1)<=2048:=cJ (aC 2048) (fle x 20 1 1 rfl);refine rW _ rfl (okI (nJ b12 rfl)) ?_;have b13:(2*(field x 21 10))+(2048*(field x 20 1))<=4094:=aD b11 b12;refine zW _ (okI (nJ b13 rfl))<|rCi rfl (rFd x 12 19 hx dT dT) ?_;have b14:4096*(field x 12 8)<=1044480:=cJ (aC 4096) (fle x 12 8 255 rfl);refine rW _ rfl (okI (nJ b14 rfl)) ?_;have b15:((2*(field x 21 10))+(2048*(field x 20 1)))+(4096*(field x 12 8))<=1048574:=aD b13 b14;refine zW _ (okI (nJ b15 rfl)) ?_;have b16:1048576*(field x 31 1)<=1048576:=cJ (aC 1048576) (fle x 31 1 1 rfl);refine rW _ rfl (okI (nJ b16 rfl)) ?_;have b17:(((2*(field x 21 10))+(2048*(field x 20 1)))+(4096*(field x 12 8)))+(1048576*(field x 31 1))<=2097150:=aD b15 b16;refine rW _ rfl (okI (nJ b17 rfl))<|zC (Pm ((((2*(field x 21 10))+(2048*(field x 20 1)))+(4096*(field x 12 8)))+(1048576*(field x 31 1))) 21 (aL (b17) dT) dT dT) ?_;exact fN rfl (by unfold numL;simp[h1,h2,h3,h4,h5])
 refine zW _ (okB (eqN _ _)) ?_;refine zEq L 84 (λh6=>?_) (λh6=>?_)
 ·refine zC (rFd x 20 24 hx dT dT) ?_;exact fN rfl (by unfold numL;simp[h1,h2,h3,h4,h5,h6])
 exact fN rfl (by unfold numL;simp[h1,h2,h3,h4,h5,h6])
def Pl(x:Nat)(k:Nat):SI:=
 if refOp x=0 then MG else⟨k,if letterOf k=83∨letterOf k=66∨letterOf k=87 then 0 else(field x 7 5:Nat),if letterOf k=85∨letterOf k=74∨letterOf k=87 then 0 else(field x 15 5:Nat),
  if letterOf k=82∨letterOf k=83∨letterOf k=66 then(field x 20 5:Nat)else 0,numL x (letterOf k)⟩
def Yu(x)(hx:x<4294967296):Pl x (refOp x)=decN x:=by
 unfold Pl decN;rw[<-Wi x hx];by_cases h:opOf x=0
 ·rw[af1 h,af1 h]
 rw[dZ h,dZ h,ac7];unfold xW;have hk:=Fp x h;have f1:=AY (opOf x:Int) ⟨oT,oT⟩;generalize EG _ _=z;revert f1;exact lfc (opOf x) (p:=λf L=>1<=f->SI.mk (opOf x) (if L=83∨L=66∨L=87 then 0 else(field x 7 5:Nat)) (if L=85∨L=74∨L=87 then 0 else(field x 15 5:Nat)) (if L=82∨L=83∨L=66 then(field x 20 5:Nat)else 0) z=⟨opOf x,if yW f then(field x 7 5:Nat)else 0,if uS f then(field x 15 5:Nat)else 0,if vS f then(field x 20 5:Nat)else 0,z⟩) (λh=>absurd h dT) (λ_=>rfl) (λ_=>rfl) (λ_=>rfl) (λ_=>rfl) (λ_=>rfl) (λ_=>rfl) (λ_=>rfl) (λ_=>rfl)
def ac8(x)(hx:x<=4294967295):bI C0 27 [vU x] (.tup [siA (Pl x (refOp x)),.v (.int .i64 ((if refOp x=0 then 20 else 0:Nat):Int))]):=by
 refine dIZ func27 rfl ?_;refine zC (aeX x hx) ?_;refine zW _ (okB (eqN _ _)) ?_;refine zEq (refOp x) 0 (λh1=>?_) (λh1=>?_)
 ·refine zV (.agg [vI 0,vI 0,vI 0,vI 0,.v (.int .u32 0)]) ?_;exact fT rfl (by rw[show Pl x (refOp x)=⟨0,0,0,0,0⟩from by unfold Pl;rw[af1 h1];rfl,af1 h1];rfl)
 refine zC (Vs _)<|rCi rfl (aeY x _ hx (ae6 _))<|zV (.agg [vN (refOp x),vI 0,vI 0,vI 0,vU (numL x (letterOf (refOp x)))]) ?_;refine zW _ (okB (eqN _ _)) ?_;refine zEq (letterOf (refOp x)) 87 (λh2=>?_) (λh2=>?_)
 ·exact fT rfl (by rw[show Pl x (refOp x)=⟨((refOp x:Nat):Int),0,0,0,(numL x (letterOf (refOp x)))⟩from by unfold Pl;rw[dZ h1];congr 1<;>split<;>first|rfl|(exfalso;omega),dZ h1];rfl)
 refine zW _ (okB (neN _ _))<|gBS rfl id (okB (neN _ _))<|zN rfl (λh=>h) ?_;refine zPr (¬(letterOf (refOp x))=83∧ ¬(letterOf (refOp x))=66) (uA _ _ pNe pNe) (λh3=>?_) (λh3=>?_)
 all_goals
  first|(refine rCi rfl (rFd x 7 11 hx dT dT) ?_;refine zW _ (okI (bH (fle x 7 5 31 rfl) rfl)) ?_)|skip
  refine zW _ (okB (neN _ _))<|gBS rfl id (okB (neN _ _))<|zN rfl (λh=>h) ?_;refine zPr (¬(letterOf (refOp x))=85∧ ¬(letterOf (refOp x))=74) (uA _ _ pNe pNe) (λh4=>?_) (λh4=>?_)
  all_goals
   first|(refine rCi rfl (rFd x 15 19 hx dT dT) ?_;refine zW _ (okI (bH (fle x 15 5 31 rfl) rfl)) ?_)|skip
   refine zW _ (okB (eqN _ _))<|gBS rfl id (okB (eqN _ _))<|zN rfl (by simp) ?_;refine gBS rfl id (okB (eqN _ _))<|zN rfl (by simp) ?_;refine zPr (((letterOf (refOp x))=82∨(letterOf (refOp x))=83)∨(letterOf (refOp x))=66) (wP _ _ (wP _ _ pEq pEq) pEq) (λh5=>?_) (λh5=>?_)
   ·refine rCi rfl (rFd x 20 24 hx dT dT)<|zW _ (okI (bH (fle x 20 5 31 rfl) rfl)) ?_
    first|(exact fT rfl (by rw[show Pl x (refOp x)=⟨((refOp x:Nat):Int),((field x 7 5:Nat):Int),((field x 15 5:Nat):Int),((field x 20 5:Nat):Int),(numL x (letterOf (refOp x)))⟩from by unfold Pl;rw[dZ h1];congr 1<;>split<;>first|rfl|(exfalso;omega),dZ h1];rfl))|(exact fT rfl (by rw[show Pl x (refOp x)=⟨((refOp x:Nat):Int),0,((field x 15 5:Nat):Int),((field x 20 5:Nat):Int),(numL x (letterOf (refOp x)))⟩from by unfold Pl;rw[dZ h1];congr 1<;>split<;>first|rfl|(exfalso;omega),dZ h1];rfl))|(exact fT rfl (by rw[show Pl x (refOp x)=⟨((refOp x:Nat):Int),((field x 7 5:Nat):Int),0,((field x 20 5:Nat):Int),(numL x (letterOf (refOp x)))⟩from by unfold Pl;rw[dZ h1];congr 1<;>split<;>first|rfl|(exfalso;omega),dZ h1];rfl))|(exact fT rfl (by rw[show Pl x (refOp x)=⟨((refOp x:Nat):Int),0,0,((field x 20 5:Nat):Int),(numL x (letterOf (refOp x)))⟩from by unfold Pl;rw[dZ h1];congr 1<;>split<;>first|rfl|(exfalso;omega),dZ h1];rfl))
   first|(exact fT rfl (by rw[show Pl x (refOp x)=⟨((refOp x:Nat):Int),((field x 7 5:Nat):Int),((field x 15 5:Nat):Int),0,(numL x (letterOf (refOp x)))⟩from by unfold Pl;rw[dZ h1];congr 1<;>split<;>first|rfl|(exfalso;omega),dZ h1];rfl))|(exact fT rfl (by rw[show Pl x (refOp x)=⟨((refOp x:Nat):Int),0,((field x 15 5:Nat):Int),0,(numL x (letterOf (refOp x)))⟩from by unfold Pl;rw[dZ h1];congr 1<;>split<;>first|rfl|(exfalso;omega),dZ h1];rfl))|(exact fT rfl (by rw[show Pl x (refOp x)=⟨((refOp x:Nat):Int),((field x 7 5:Nat):Int),0,0,(numL x (letterOf (refOp x)))⟩from by unfold Pl;rw[dZ h1];congr 1<;>split<;>first|rfl|(exfalso;omega),dZ h1];rfl))|(exact fT rfl (by rw[show Pl x (refOp x)=⟨((refOp x:Nat):Int),0,0,0,(numL x (letterOf (refOp x)))⟩from by unfold Pl;rw[dZ h1];congr 1<;>split<;>first|rfl|(exfalso;omega),dZ h1];rfl))
def aeZ(x:Nat)(hx:x<4294967296):bI C0 27 [.v (.int .u32 (x:Int))] (.tup [siA (decN x),.v (.int .i64 ((decE x:Nat):Int))]):=by
 have h:=ac8 x (aI hx);rw[Yu x hx]at h;unfold decE;rw[Wi x hx];exact h
def Yr(s:ByteArray)(hs:s.size<=4)(k)(hk:k<=s.size):joinTo (s.data.toList.drop (s.size-k)) k<=4294967295:=by
 have h:=yK (s.data.toList.drop (s.size-k)) k;have:256 ^ k<=256 ^ 4:=bU dT omT;omega
def ae5(s:ByteArray)(hs:s.size<=4):joinTo s.data.toList s.size<=4294967295:=by
 have h:=Yr s hs s.size (aC _)
 rwa [eK,bS]at h
def adT(s:ByteArray):s.data.toList.length=s.size:=cV
def Ys(s:ByteArray)(hs:s.size<=4)(k)(hk:k<s.size):(256*joinTo (s.data.toList.drop (s.size-k)) k%4294967296+(s.data.toList.getD (((s.size:Int)-1-(k:Int))).toNat 0).toNat)%4294967296=joinTo (s.data.toList.drop (s.size-(k+1))) (k+1):=by
 have h:=SL s.data.toList k (by rw[adT];exact hk);rw[adT]at h;have h2:=Yr s hs (k+1) hk;rw[(oT:(((s.size:Int)-1-(k:Int))).toNat=s.size-1-k),h];rw[h]at h2;omega
def u8w(b:UInt8):IntKind.wrap .u32 ((b.toNat:Nat):Int)=((b.toNat:Nat):Int):=by
 have:=UInt8.toNat_lt b;simp only[IntKind.wrap,IntKind.signed,IntKind.bits];simp;omega
def aa8(n:Nat):IntKind.wrap .u32 (n:Int)=((n%4294967296:Nat):Int):=by
 simp only[IntKind.wrap,IntKind.signed,IntKind.bits];simp
def aa9(s)(hs:s.size<=4):bI C0 35 [.v (.string s)] (.tup [.v (.int .u32 ((joinTo s.data.toList s.size:Nat):Int)),.v (.int .i64 0)]):=by
 refine dIZ func35 rfl ?_;refine rV (vN s.size) rfl<|zW (vB (decide (s.size>4))) (okB (gtN _ _)) ?_;refine zPr (s.size>4) qW (λh1=>by omega) (λh1=>?_);refine rV (vN s.size) rfl<|zW (vI ((s.size:Int)-1)) (okN (wrap_i64 omT omT))<|zLo (λk=>⟨slotsF [(0,.v (.string s)),(4,vU (joinTo (s.data.toList.drop (s.size-k)) k)),(5,vI ((s.size:Int)-1-(k:Int)))],heapF [],10⟩) (λk=>k<=s.size) (λk=>s.size-k) 0 (λs=>s) (wOL (λs=>s) ⟨⟨rfl,rfl⟩,⟨rfl,rfl⟩,⟨af2 (λn:Int=>AV.v (.int .i64 n)) (by simp),rfl⟩,trivial⟩ trivial rfl) (aE _) ?_;intro k hk;refine zV (vB (decide (((s.size:Int)-1-(k:Int))>=0))) ?_;refine zPr (((s.size:Int)-1-(k:Int))>=0) qW (λh2=>?_) (λh2=>?_)
 ·skip
  have b1:(256*(joinTo (s.data.toList.drop (s.size-k)) k))%4294967296<=4294967295:=aI (aQ _ dT);refine zV (vU ((256*(joinTo (s.data.toList.drop (s.size-k)) k))%4294967296))<|nW (.v (.int .u8 (((s.data.toList.getD ((s.size:Int)-1-(k:Int)).toNat 0).toNat:Nat):Int))) rfl rfl (⟨oT,oT⟩)<|rW (vU ((s.data.toList.getD ((s.size:Int)-1-(k:Int)).toNat 0).toNat)) rfl (okN (u8w _))<|zW (vU (joinTo (s.data.toList.drop (s.size-(k+1))) (k+1))) (okI (by rw[<-Ys s hs k omT];exact aa8 _))<|zW (vI ((s.size:Int)-1-((k+1:Nat):Int))) (okN (by rw[wrap_i64 omT omT];omega)) ?_;refine⟨k+1,λs=>s,wOL (λs=>s) wT trivial rfl,omT,omT⟩
 have e:k=s.size:=oT;subst e;exact fT rfl (by rw[eK,bS];rfl)
def Su(x k)(hx:x<=4294967295)(h:x/2 ^ k>0):lenP (x/2 ^ k)=1+lenP (x/2 ^ (k+1)):=by
 have:x/2 ^ k<=x:=cO _ _;unfold lenP;rw[Lib.bitLen_half _ omT omT,Nat.div_div_eq_div_mul, <-Nat.pow_succ]
def Sv(x k)(hx:x<=4294967295)(h:x/2 ^ k>0):k<32:=by
 refine Nat.lt_of_not_le λhk=>?_;have:(2:Nat) ^ 32<=2 ^ k:=bU dT hk;rw[Nat.div_eq_of_lt omT]at h;omega
def abA:lenP 0=0:=dT
def abB(x)(hx:x<=4294967295):bI C0 99 [vU x] (.v (.int .i64 ((lenP x:Nat):Int))):=by
 refine dIZ func99 rfl ?_;refine zLo (λk=>⟨slotsF [(0,vU (x/2 ^ k)),(3,vN k)],heapF [],2⟩) (λk=>k<=32∧lenP x=k+lenP (x/2 ^ k)) (λk=>33-k) 0 (λs=>s) (wOL (λs=>s) ⟨⟨acJ (by simp),rfl⟩,⟨rfl,rfl⟩,trivial⟩ trivial rfl) (⟨dT,by simp⟩) ?_;intro k hk;refine zW (vB (decide ((x/2 ^ k)>0))) (okB (gtN _ _)) ?_;refine zPr ((x/2 ^ k)>0) qW (λh1=>?_) (λh1=>?_)
 ·skip
  have b1:k+1<=33:=aD hk.1 (aC 1);refine zW (vN (k+1)) (okI (bH b1 rfl))<|zM (vU (x/2 ^ (k+1))) (al8 (by rw[Nat.pow_succ, <-Nat.div_div_eq_div_mul];exact nJ (aL (cO _ _) (aL (cO _ _) hx)) rfl)) dT ?_;refine⟨k+1,λs=>s,wOL (λs=>s) wT trivial rfl,⟨Sv x k hx h1,by rw[hk.2,Su x k hx h1];omega⟩,(oH (Sv x k hx h1))⟩
 exact fN rfl (by rw[hk.2,show x/2 ^ k=0 from Nat.eq_zero_of_not_pos h1,abA];rfl)
def abC(m)(agZ)(b)(hr:agZ+b.size<=m.size)(hm:m.size<=256)(ha:agZ<=4294967295)(hb:b.size<=4):bI C0 34 [.v (.string m),vU agZ,.v (.string b)] (.v (.string (DD m agZ b))):=by
 refine dIZ func34 rfl ?_;refine zV (.sl 1 ([]) true) ?_;refine jR (λk=>match k with|0=>⟨slotsF [(0,.v (.string m)),(1,vU agZ),(2,.v (.string b)),(7,.sl 1 ([]) true),(8,vN 0)],heapF [],4⟩|k+1=>⟨slotsF [(0,.v (.string m)),(1,vU agZ),(2,.v (.string b)),(7,.osl 0 0 (k+1) false),(8,vN (k+1))],heapF [(0,.arr ((upto (uU m b agZ) (k+1)).map Sx) 1)],4⟩) (λk=>k<=m.size) (λk=>m.size-k) 0 (λs=>s) (wOL (λs=>s) wT trivial rfl) (aE _) ?_;intro k hk;rcases k with _|k
 ·have hkB:0<=1000000:=dT;refine qS 0 rfl<|rV (vN m.size) rfl<|zW _ (okB (ltN _ _)) ?_;refine zPr (0<m.size) qW (λh1=>?_) (λh1=>?_)
  ·refine rW _ rfl (okI (bH ha rfl))<|zW _ (okN (wrap_i64 omT omT))<|zV (vB (decide ((((0:Nat):Int)-(agZ:Int))>=0))) ?_;refine gBS rfl id rfl<|gBS rfl hsT rfl<|zN rfl (λh=>h) ?_;refine zPr ((((0:Nat):Int)-(agZ:Int))>=0∧(((0:Nat):Int)-(agZ:Int))<((b.size:Nat):Int)) (uA _ _ qW qW) (λh2=>?_) (λh2=>?_)
   ·refine nW (.v (.int .u8 (((b.data.toList.getD (((0:Nat):Int)-(agZ:Int)).toNat 0).toNat:Nat):Int))) rfl rfl (⟨oT,oT⟩)<|rV (.sl 1 ([[.v (.int .u8 (((b.data.toList.getD (((0:Nat):Int)-(agZ:Int)).toNat 0).toNat:Nat):Int))]]) true) rfl<|zF (x:=.osl 26 0 1 false) (h':=upd _ 26 (some (.arr (([])++([[.v (.int .u8 (((b.data.toList.getD (((0:Nat):Int)-(agZ:Int)).toNat 0).toNat:Nat):Int))]])) 1))) (rfl) (⟨by exact aJ rfl,by exact aJ rfl,trivial,trivial⟩) ?_;have b1:0+1<=1000001:=aD hkB (aC 1);refine zW _ (okI (bH b1 rfl)) ?_;refine⟨0+1,λs=>match s with|0=>26|s=>s,wOL (λs=>match s with|0=>26|s=>s) wT ⟨⟨rfl,af2 (λz=>some (Blk.arr z 1)) (Jp (row:=Sx) (x:=b.data.toList.getD (((0:Nat):Int)-(agZ:Int)).toNat 0) (by unfold uU;rw[af1 h2])),rfl⟩,trivial⟩ rfl,omT,omT⟩
   refine nW (.v (.int .u8 (((m.data.toList.getD (((0:Nat):Int)).toNat 0).toNat:Nat):Int))) rfl rfl (⟨oT,oT⟩)<|rV (.sl 1 ([[.v (.int .u8 (((m.data.toList.getD (((0:Nat):Int)).toNat 0).toNat:Nat):Int))]]) true) rfl<|zF (x:=.osl 26 0 1 false) (h':=upd _ 26 (some (.arr (([])++([[.v (.int .u8 (((m.data.toList.getD (((0:Nat):Int)).toNat 0).toNat:Nat):Int))]])) 1))) (rfl) (⟨by exact aJ rfl,by exact aJ rfl,trivial,trivial⟩) ?_;have b2:0+1<=1000001:=aD hkB (aC 1);refine zW _ (okI (bH b2 rfl)) ?_;refine⟨0+1,λs=>match s with|0=>26|s=>s,wOL (λs=>match s with|0=>26|s=>s) wT ⟨⟨rfl,af2 (λz=>some (Blk.arr z 1)) (Jp (row:=Sx) (x:=m.data.toList.getD ((0:Nat):Int).toNat 0) (by unfold uU;rw[dZ h2];rfl)),rfl⟩,trivial⟩ rfl,omT,omT⟩
  refine qX 0 rfl<|SV (([]:List UInt8)) rfl rfl rfl (trivial) (rfl)<|qRF 0 rfl ?_;exact fS rfl (by rw[<-Ld m b agZ hr];rw[(oT:m.size=0)];rfl)
 have hkB:k+1<=1000000:=oT;refine qS 0 rfl<|rV (vN m.size) rfl<|zW _ (okB (ltN _ _)) ?_;refine zPr ((k+1)<m.size) qW (λh3=>?_) (λh3=>?_)
 ·refine rW _ rfl (okI (bH ha rfl))<|zW _ (okN (wrap_i64 omT omT))<|zV (vB (decide (((((k+1):Nat):Int)-(agZ:Int))>=0))) ?_;refine gBS rfl id rfl<|gBS rfl hsT rfl<|zN rfl (λh=>h) ?_;refine zPr (((((k+1):Nat):Int)-(agZ:Int))>=0∧((((k+1):Nat):Int)-(agZ:Int))<((b.size:Nat):Int)) (uA _ _ qW qW) (λh4=>?_) (λh4=>?_)
  ·refine nW (.v (.int .u8 (((b.data.toList.getD ((((k+1):Nat):Int)-(agZ:Int)).toNat 0).toNat:Nat):Int))) rfl rfl (⟨oT,oT⟩)<|rV (.sl 1 ([[.v (.int .u8 (((b.data.toList.getD ((((k+1):Nat):Int)-(agZ:Int)).toNat 0).toNat:Nat):Int))]]) true) rfl ?_;refine zF (rfl) (⟨gC omT,gF,trivial⟩) ?_;have b3:(k+1)+1<=1000001:=aD hkB (aC 1);refine zW _ (okI (bH b3 rfl)) ?_;refine⟨(k+1)+1,λs=>match s with|0=>26|s=>s,wOL (λs=>match s with|0=>26|s=>s) ⟨⟨rfl,rfl⟩,⟨rfl,rfl⟩,⟨rfl,rfl⟩,⟨af2 (λz=>AV.osl 26 0 z false) gL,rfl⟩,⟨rfl,rfl⟩,trivial⟩ ⟨⟨rfl,af2 (λz=>some (Blk.arr z 1)) (Gh (by unfold uU;rw[af1 h4])),rfl⟩,trivial⟩ rfl,omT,omT⟩
  refine nW (.v (.int .u8 (((m.data.toList.getD ((((k+1):Nat):Int)).toNat 0).toNat:Nat):Int))) rfl rfl (⟨oT,oT⟩)<|rV (.sl 1 ([[.v (.int .u8 (((m.data.toList.getD ((((k+1):Nat):Int)).toNat 0).toNat:Nat):Int))]]) true) rfl ?_;refine zF (rfl) (⟨gC omT,gF,trivial⟩) ?_;have b4:(k+1)+1<=1000001:=aD hkB (aC 1);refine zW _ (okI (bH b4 rfl)) ?_;refine⟨(k+1)+1,λs=>match s with|0=>26|s=>s,wOL (λs=>match s with|0=>26|s=>s) ⟨⟨rfl,rfl⟩,⟨rfl,rfl⟩,⟨rfl,rfl⟩,⟨af2 (λz=>AV.osl 26 0 z false) gL,rfl⟩,⟨rfl,rfl⟩,trivial⟩ ⟨⟨rfl,af2 (λz=>some (Blk.arr z 1)) (Gh (by unfold uU;rw[dZ h4];rfl)),rfl⟩,trivial⟩ rfl,omT,omT⟩
 refine qX 0 rfl<|SV (upto (uU m b agZ) (k+1)) rfl rfl rfl (Nat.le_of_eq gF) (by rw[gT];exact lN _)<|qRF 0 rfl ?_;exact fS rfl (by rw[<-Ld m b agZ hr];rw[(oT:m.size=k+1)])
def KZ(n):gU (List.take n (List.drop 0 (List.replicate n [AV.v (.int .u8 0)])))=some (List.replicate n (0:UInt8)):=by
 rw[bS,aN (by simp)];have:List.replicate n [AV.v (.int .u8 0)]=(List.replicate n (0:UInt8)).map λb=>[.v (.int .u8 (b.toNat:Int))]:=by simp
 rw[this];exact lN _
def apW(m:ByteArray)(j)(hm:m.size<=256)(hj:j<=4):((m.size+(⟨(List.replicate (16*2 ^ j-m.size) (0:UInt8)).toArray⟩:ByteArray).size:Nat):Int)<=IntKind.i64.max:=by
 have p5:=bU (n:=2) dT hj;have e:(⟨(List.replicate (16*2 ^ j-m.size) (0:UInt8)).toArray⟩:ByteArray).size=16*2 ^ j-m.size:=by
  show(List.replicate (16*2 ^ j-m.size) (0:UInt8)).toArray.size=_;simp
 rw[e];simp only[IntKind.max,IntKind.signed,IntKind.bits];simp;omega
def Mq(m:ByteArray):m.extract 0 m.size=m:=by simp
def NY(x)(n):x++(⟨(List.replicate n (0:UInt8)).toArray⟩:ByteArray)=(⟨(x.data.toList++List.replicate n 0).toArray⟩:ByteArray):=by
 refine ByteArray.ext ?_;rw[ByteArray.data_append];simp
def Vo(m)(j)(hm: ¬m.size>256)(h1: ¬ 16*2 ^ j<m.size)(hj:j<=4)(h2:j=0∨16*2 ^ (j-1)<m.size):m++(⟨(List.replicate (16*2 ^ j-m.size) (0:UInt8)).toArray⟩:ByteArray)=jB m:=by
 rw[NY];unfold jB;rw[kD omT,Mq,NE hj omT h2]
def Sw(m)(j)(hm:m.size>256)(h1: ¬ 16*2 ^ j<(m.extract 0 256).size)(hj:j<=4)(h2:j=0∨16*2 ^ (j-1)<(m.extract 0 256).size):m.extract 0 256++(⟨(List.replicate (16*2 ^ j-(m.extract 0 256).size) (0:UInt8)).toArray⟩:ByteArray)=jB m:=by
 have e:(m.extract 0 256).size=256:=by rw[dA];omega
 rw[NY];unfold jB;rw[Nat.min_eq_right omT, <-NE hj omT omT,e]
def Ej{n j:Nat}(hn:n<=256)(h4:j<=4)(h:16*2 ^ j<n):j+1<=4:=IQ (n:=n) h4 omT
def abD(m):bI C0 6 [.v (.string m)] (.v (.string (jB m))):=by
 refine dIZ func6 rfl ?_;refine rV (vN m.size) rfl<|zW (vB (decide (m.size>256))) (okB (gtN _ _)) ?_;refine zPr (m.size>256) qW (λh1=>?_) (λh1=>?_)
 ·refine zM (.v (.string (m.extract 0 256))) rfl (⟨dT,by show(0:Int)<=256;decide,by show(256:Int)<=((m.size:Nat):Int);omega⟩) ?_;have hM:(m.extract 0 256).size<=256:=by rw[dA];omega
  refine zLo (κ:=Nat) (λj=>⟨slotsF [(0,.v (.string (m.extract 0 256))),(3,vN (16*2 ^ j))],heapF [],8⟩) (λj=>j<=4∧(j=0∨16*2 ^ (j-1)<(m.extract 0 256).size)) (λj=>4-j) 0 (λs=>s) (wOL (λs=>s) wT trivial rfl) (⟨dT,.inl rfl⟩) ?_;intro j hj;refine rV (vN ((m.extract 0 256).size)) rfl<|zW (vB (decide ((16*2 ^ j)<((m.extract 0 256).size)))) (okB (ltN _ _)) ?_;refine zPr ((16*2 ^ j)<((m.extract 0 256).size)) qW (λh2=>?_) (λh2=>?_)
  ·refine zW (vN (16*2 ^ (j+1))) (by show Res.ok (.v (.int .i64 (IntKind.wrap .i64 (2*((16*2 ^ j:Nat):Int)))))=_;have p5:=bU (n:=2) dT hj.1;rw[wrap_i64 omT omT];congr 3;rw[Nat.pow_succ];omega) ?_;refine⟨j+1,λs=>s,wOL (λs=>s) wT trivial rfl,⟨Ej hM hj.1 h2,.inr (sU h2)⟩,(oH (Ej hM hj.1 h2))⟩
  refine rV (vN ((m.extract 0 256).size)) rfl<|rW (vN (16*2 ^ j-(m.extract 0 256).size)) rfl (okN (by have p5:=bU (n:=2) dT hj.1;rw[wrap_i64 omT omT];omega)) ?_;refine zF (h':=upd _ 16 (some (.arr (List.replicate (16*2 ^ j-(m.extract 0 256).size) [AV.v (.int .u8 0)]) 1))) (rfl) (by have p5:=bU (n:=2) dT hj.1;refine⟨oT,oT,?_⟩;simp only[jH];omega) ?_;refine SV (List.replicate (16*2 ^ j-(m.extract 0 256).size) (0:UInt8)) rfl rfl rfl (by show 0+(16*2 ^ j-(m.extract 0 256).size)<=(List.replicate (16*2 ^ j-(m.extract 0 256).size) [AV.v (.int .u8 0)]).length;rw[cM];omega) (KZ _)<|zM (.v (.string (jB m))) (af2 (λx=>Res.need _ (.v (.string x))) (Sw m j omT omT hj.1 hj.2)) (apW (m.extract 0 256) j hM hj.1) ?_;exact fT rfl rfl
 skip
 have hM:m.size<=256:=oT;refine zLo (κ:=Nat) (λj=>⟨slotsF [(0,.v (.string m)),(3,vN (16*2 ^ j))],heapF [],5⟩) (λj=>j<=4∧(j=0∨16*2 ^ (j-1)<m.size)) (λj=>4-j) 0 (λs=>s) (wOL (λs=>s) wT trivial rfl) (⟨dT,.inl rfl⟩) ?_;intro j hj;refine rV (vN m.size) rfl<|zW (vB (decide ((16*2 ^ j)<m.size))) (okB (ltN _ _)) ?_;refine zPr ((16*2 ^ j)<m.size) qW (λh3=>?_) (λh3=>?_)
 ·refine zW (vN (16*2 ^ (j+1))) (by show Res.ok (.v (.int .i64 (IntKind.wrap .i64 (2*((16*2 ^ j:Nat):Int)))))=_;have p5:=bU (n:=2) dT hj.1;rw[wrap_i64 omT omT];congr 3;rw[Nat.pow_succ];omega) ?_;refine⟨j+1,λs=>s,wOL (λs=>s) wT trivial rfl,⟨Ej hM hj.1 h3,.inr (sU h3)⟩,(oH (Ej hM hj.1 h3))⟩
 refine rV (vN m.size) rfl<|rW (vN (16*2 ^ j-m.size)) rfl (okN (by have p5:=bU (n:=2) dT hj.1;rw[wrap_i64 omT omT];omega)) ?_;refine zF (h':=upd _ 13 (some (.arr (List.replicate (16*2 ^ j-m.size) [AV.v (.int .u8 0)]) 1))) (rfl) (by have p5:=bU (n:=2) dT hj.1;refine⟨oT,oT,?_⟩;simp only[jH];omega) ?_;refine SV (List.replicate (16*2 ^ j-m.size) (0:UInt8)) rfl rfl rfl (by show 0+(16*2 ^ j-m.size)<=(List.replicate (16*2 ^ j-m.size) [AV.v (.int .u8 0)]).length;rw[cM];omega) (KZ _)<|zM (.v (.string (jB m))) (af2 (λx=>Res.need _ (.v (.string x))) (Vo m j omT omT hj.1 hj.2)) (apW m j hM hj.1) ?_;exact fT rfl rfl
def abE(size agZ n)(hs:size<=256)(ha:agZ<=4294967295)(hn:n<=4):bI C0 32 [vN size,vU agZ,vN n] (.v (.bool (kZ (size:Int) agZ (n:Int)))):=by
 refine dIZ func32 rfl ?_;refine zW _ (okB (neN _ _))<|gBS rfl id (okB (neN _ _))<|zN rfl (λh=>h) ?_;refine gBS rfl id (okB (neN _ _))<|zN rfl (λh=>h) ?_;refine zPr ((¬n=1∧ ¬n=2)∧ ¬n=4) (uA _ _ (uA _ _ pNe pNe) pNe) (λh1=>?_) (λh1=>?_)
 ·exact fB rfl (by have hv:n=0∨n=1∨n=2∨n=3∨n=4:=omT;rw[bB];rcases hv with rfl|rfl|rfl|rfl|rfl<;>simp[c2,kZ]<;>omega)
 refine rW _ rfl (okI (nJ hn rfl)) ?_;have b1:agZ%n<=4294967295:=aL (gR _ _) ha;refine nW (vU (agZ%n)) rfl rfl omT<|zW _ (okB (eqN _ _))<|gBS rfl id (okB (geN _ _))<|zN rfl (λh=>h)<|zAS rfl id (okI (nJ ha rfl))<|gBS rfl id (okI (nJ hn rfl)) ?_;have b2:agZ+n<=4294967299:=aD ha hn;refine zAS rfl hsT (okI (nJ b2 rfl))<|gBS rfl id (okI (nJ hs rfl))<|gBS rfl hsT (okB (leN _ _))<|zN rfl (λh=>h) ?_;exact fB rfl (by have hv:n=0∨n=1∨n=2∨n=3∨n=4:=omT;rw[bB];rcases hv with rfl|rfl|rfl|rfl|rfl<;>simp[c2,kZ]<;>omega)
def Vp{op}{s}(h: ¬kindOf op=3∨ ¬s.size=sizeOf' op):loadP op s=0:=by
 unfold loadP;exact dZ (λe=>h.elim (λq=>q e.1) λq=>q e.2)
def Jo{op}{s}(h: ¬(¬kindOf op=3∨ ¬s.size=sizeOf' op)):loadP op s=(if op=11 then sext (joinTo s.data.toList s.size) 8 else if op=12 then sext (joinTo s.data.toList s.size) 16 else joinTo s.data.toList s.size):=by
 unfold loadP;exact af1 ⟨af4 λq=>h (.inl q),af4 λq=>h (.inr q)⟩
def ac2(op)(s):bI C0 36 [vI op,.v (.string s)] (.v (.int .u32 ((loadP op s:Nat):Int))):=by
 refine dIZ func36 rfl ?_;refine rCi rfl (SE op)<|zW _ (okB (neN _ _))<|zAS rfl id rfl<|jQ rfl rfl rfl rfl (λh=>h) rfl rfl rfl (.inl rfl) rfl (λhg=>abK op) ?_;refine gBS rfl hsT (okB (neN _ _))<|zN rfl (by simp) ?_;refine zPr (¬(kindOf op)=3∨ ¬s.size=(sizeOf' op)) (wP _ _ pNe pNe) (λh1=>?_) (λh1=>?_)
 ·exact fI rfl (by rw[Vp h1];rfl)
 refine zC (aa9 s (oH (lQ op)))<|zE2 op 11 (λh2=>?_) (λh2=>?_)
 ·refine zC (Pm _ 8 (ae5 s (oH (lQ op))) dT dT) ?_;exact fI rfl (by rw[Jo h1,af1 h2])
 refine zE2 op 12 (λh3=>?_) (λh3=>?_)
 ·refine zC (Pm _ 16 (ae5 s (oH (lQ op))) dT dT) ?_;exact fI rfl (by rw[Jo h1,dZ h2,af1 h3])
 exact fI rfl (by rw[Jo h1,dZ h2,dZ h3])
def ac3(op)(a b)(ha:a<=4294967295)(hb:b<=4294967295):bI C0 39 [vI op,vU a,vU b] (.v (.int .i64 ((tookP op a b:Nat):Int))):=by
 refine dIZ func39 rfl ?_;have hsa:sizeP op a<=4294967295:=aI (pT op a (bG ha));have hsb:sizeP op b<=4294967295:=aI (pT op b (bG hb));refine zV (vB (decide (op<42)))<|gBS rfl id rfl<|zN rfl (by simp) ?_;refine zPr (op<42∨op>45) (wP _ _ qW qW) (λh1=>?_) (λh1=>?_)
 ·exact fI rfl (by unfold tookP;rw[af1 omT];rfl)
 refine zC (Wg op a ha)<|zC (Wg op b hb) ?_;refine zW _ (okB (eqN _ _))<|gBS rfl hsT (okB (ltN _ _))<|zN rfl (by simp) ?_;refine zPr (b=0∨(sizeP op a)<(sizeP op b)) (wP _ _ pEq qW) (λh2=>?_) (λh2=>?_)
 ·exact fI rfl (by unfold tookP;rw[dZ omT,af1 omT];rfl)
 refine rW _ rfl (okI (nJ hsa rfl))<|rCi rfl (abB _ hsa) ?_;have b1:3+(lenP (sizeP op a))<=35:=aD (aC 3) (IM _ (bG hsa));refine zW _ (okI (bH b1 rfl))<|rW _ rfl (okI (nJ hsb rfl))<|rCi rfl (abB _ hsb)<|zV (vI (IntKind.wrap .i64 (((3+(lenP (sizeP op a)):Nat):Int)-((lenP (sizeP op b):Nat):Int)))) ?_;exact fI rfl (by unfold tookP;rw[dZ omT,dZ omT];have l1:=IM _ (bG hsa);have l3:=Kz (sizeP op b) (sizeP op a) omT omT omT (oH (yJ op b omT omT));rw[wrap_i64 omT omT];omega)
def adU{op}(a b)(h:op=28∨op=19):doP op a b=(a+b)%4294967296:=by rcases h with rfl|rfl<;>simp[doP]
def aeW{op}(a b)(h:op=29):doP op a b=(a+4294967296-b)%4294967296:=by subst h;simp[doP]
def adV{op}(a b)(h:op=37∨op=24):doP op a b=a&&&b:=by rcases h with rfl|rfl<;>simp[doP]
def adW{op}(a b)(h:op=36∨op=23):doP op a b=a ||| b:=by rcases h with rfl|rfl<;>simp[doP]
def adX{op}(a b)(h:op=33∨op=22):doP op a b=a^^^b:=by rcases h with rfl|rfl<;>simp[doP]
def adY{op}(a b)(h:op=30∨op=25):doP op a b=a*2 ^ (b%32)%4294967296:=by rcases h with rfl|rfl<;>simp[doP]
def adZ{op}(a b)(h:op=34∨op=26):doP op a b=a/2 ^ (b%32):=by rcases h with rfl|rfl<;>simp[doP]
def ad0{op}(a b)(h:op=35∨op=27):doP op a b=wordOf (sgn a/2 ^ (b%32)):=by rcases h with rfl|rfl<;>simp[doP]
def ad1{op}(a b)(h:op=31∨op=20):doP op a b=(if sgn a<sgn b then 1 else 0):=by rcases h with rfl|rfl<;>simp[doP]
def ad2{op}(a b)(h:op=32∨op=21):doP op a b=(if a<b then 1 else 0):=by rcases h with rfl|rfl<;>simp[doP]
def dp1{op}(a b)(h:op=1):doP op a b=b:=by subst h;simp[doP]
def dp0{op}(a b)(h:∀k∈[28,19,29,37,24,36,23,33,22,30,25,34,26,35,27,31,20,32,21,1],op≠k):doP op a b=0:=by
 simp only[al_List_mem_cons,List.not_mem_nil,or_false,forall_eq_or_imp,forall_eq]at h;unfold doP
 (repeat rw[dZ omT])
def rDo(op )(a b)(ha:a<=4294967295)(hb:b<=4294967295):bI C0 94 [vI op,vU a,vU b] (.v (.int .u32 ((doP op a b:Nat):Int))):=by
 refine dIZ func94 rfl ?_;have b1:b%32<=31:=aI (aQ _ dT);refine nW (vU (b%32)) rfl rfl dT<|zW _ (okI (bH b1 rfl))<|zE2 op 28 (λh1=>?_) (λh1=>?_)
 ·refine zT (pEq.2 h1)<|zW _ (okI (nJ ha rfl))<|rW _ rfl (okI (nJ hb rfl)) ?_;have b2:a+b<=8589934590:=aD ha hb;refine rW _ rfl (okI (nJ b2 rfl)) ?_;have b3:(a+b)%4294967296<=4294967295:=aI (aQ _ dT);refine nW (.v (.int .u64 (((a+b)%4294967296:Nat):Int))) rfl rfl dT<|zW _ (okI (nJ b3 rfl)) ?_;exact fN rfl (adU a b omT).symm
 refine zE2 op 19 (λh2=>?_) (λh2=>?_)
 ·refine zW _ (okI (nJ ha rfl))<|rW _ rfl (okI (nJ hb rfl)) ?_;have b4:a+b<=8589934590:=aD ha hb;refine rW _ rfl (okI (nJ b4 rfl)) ?_;have b5:(a+b)%4294967296<=4294967295:=aI (aQ _ dT);refine nW (.v (.int .u64 (((a+b)%4294967296:Nat):Int))) rfl rfl dT<|zW _ (okI (nJ b5 rfl)) ?_;exact fN rfl (adU a b omT).symm
 refine zE2 op 29 (λh3=>?_) (λh3=>?_)
 ·refine rW _ rfl (okI (nJ ha rfl)) ?_;have b6:a+4294967296<=8589934591:=aD ha (aC 4294967296);refine zW _ (okI (nJ b6 rfl))<|rW _ rfl (okI (nJ hb rfl)) ?_;have b7:((a+4294967296)+18446744073709551616-b)%18446744073709551616<=18446744073709551615:=aI (aQ _ dT);refine rW _ rfl (okI (YO hb rfl)) ?_;have b8:(((a+4294967296)+18446744073709551616-b)%18446744073709551616)%4294967296<=4294967295:=aI (aQ _ dT);refine nW (.v (.int .u64 (((((a+4294967296)+18446744073709551616-b)%18446744073709551616)%4294967296:Nat):Int))) rfl rfl dT<|zW _ (okI (nJ b8 rfl)) ?_;exact fN rfl (by rw[aeW a b omT];omega)
 refine zE2 op 37 (λh4=>?_) (λh4=>?_)
 ·refine zT (pEq.2 h4)<|zC (Pn 1 a b ha hb) ?_;exact fN rfl ((adV a b omT).trans (Oa a b ha hb).symm).symm
 refine zE2 op 24 (λh5=>?_) (λh5=>?_)
 ·refine zC (Pn 1 a b ha hb) ?_;exact fN rfl ((adV a b omT).trans (Oa a b ha hb).symm).symm
 refine zE2 op 36 (λh6=>?_) (λh6=>?_)
 ·refine zT (pEq.2 h6)<|zC (Pn 2 a b ha hb) ?_;exact fN rfl ((adW a b omT).trans (SJ a b ha hb).symm).symm
 refine zE2 op 23 (λh7=>?_) (λh7=>?_)
 ·refine zC (Pn 2 a b ha hb) ?_;exact fN rfl ((adW a b omT).trans (SJ a b ha hb).symm).symm
 refine zE2 op 33 (λh8=>?_) (λh8=>?_)
 ·refine zT (pEq.2 h8)<|zC (Pn 3 a b ha hb) ?_;exact fN rfl ((adX a b omT).trans (Ob a b ha hb).symm).symm
 refine zE2 op 22 (λh9=>?_) (λh9=>?_)
 ·refine zC (Pn 3 a b ha hb) ?_;exact fN rfl ((adX a b omT).trans (Ob a b ha hb).symm).symm
 refine zE2 op 30 (λh10=>?_) (λh10=>?_)
 ·refine zT (pEq.2 h10)<|zC (Hg a (((b%32:Nat):Int)) (0) ha omT omT omT) ?_;exact fN rfl ((adY a b omT).trans (La a (b%32) ha omT).symm).symm
 refine zE2 op 25 (λh11=>?_) (λh11=>?_)
 ·refine zC (Hg a (((b%32:Nat):Int)) (0) ha omT omT omT) ?_;exact fN rfl ((adY a b omT).trans (La a (b%32) ha omT).symm).symm
 refine zE2 op 34 (λh12=>?_) (λh12=>?_)
 ·refine zT (pEq.2 h12)<|rW _ rfl (okN (by rw[Int.zero_sub];exact wrap_i64 omT omT))<|zC (Hg a (-((b%32:Nat):Int)) (0) ha omT omT omT) ?_;exact fN rfl ((adZ a b omT).trans (FD a (b%32) ha omT).symm).symm
 refine zE2 op 26 (λh13=>?_) (λh13=>?_)
 ·refine rW _ rfl (okN (by rw[Int.zero_sub];exact wrap_i64 omT omT))<|zC (Hg a (-((b%32:Nat):Int)) (0) ha omT omT omT) ?_;exact fN rfl ((adZ a b omT).trans (FD a (b%32) ha omT).symm).symm
 refine zE2 op 35 (λh14=>?_) (λh14=>?_)
 ·refine zT (pEq.2 h14)<|zW _ (okN (by rw[Int.zero_sub];exact wrap_i64 omT omT))<|rCi rfl (Pu a 31 ha dT)<|zC (Hg a (-((b%32:Nat):Int)) (a/2 ^ 31%2) ha omT omT omT) ?_;exact fN rfl ((ad0 a b omT).trans (Lb a (b%32) ha omT).symm).symm
 refine zE2 op 27 (λh15=>?_) (λh15=>?_)
 ·refine zW _ (okN (by rw[Int.zero_sub];exact wrap_i64 omT omT))<|rCi rfl (Pu a 31 ha dT)<|zC (Hg a (-((b%32:Nat):Int)) (a/2 ^ 31%2) ha omT omT omT) ?_;exact fN rfl ((ad0 a b omT).trans (Lb a (b%32) ha omT).symm).symm
 refine zE2 op 31 (λh16=>?_) (λh16=>?_)
 ·refine zT (pEq.2 h16)<|zC (wL a ha)<|rCi rfl (wL b hb)<|rV (vB (decide ((sgn a)<(sgn b)))) rfl<|zC (abV _) ?_;exact fN rfl (by rw[ad1 a b omT];simp only[aY])
 refine zE2 op 20 (λh17=>?_) (λh17=>?_)
 ·refine zC (wL a ha)<|rCi rfl (wL b hb)<|rV (vB (decide ((sgn a)<(sgn b)))) rfl<|zC (abV _) ?_;exact fN rfl (by rw[ad1 a b omT];simp only[aY])
 refine zE2 op 32 (λh18=>?_) (λh18=>?_)
 ·refine zT (pEq.2 h18)<|rW _ rfl (okB (ltN _ _))<|zC (abV _) ?_;exact fN rfl (by rw[ad2 a b omT];simp only[aY])
 refine zE2 op 21 (λh19=>?_) (λh19=>?_)
 ·refine rW _ rfl (okB (ltN _ _))<|zC (abV _) ?_;exact fN rfl (by rw[ad2 a b omT];simp only[aY])
 refine zE2 op 1 (λh20=>?_) (λh20=>?_)
 ·exact fN rfl (dp1 a b omT).symm
 exact fN rfl (dp0 a b (by simp;omega)).symm
def bP(i:SI)(b:Nat):Nat:=if((i.op=1∨letterOf i.op=84)∨((letterOf i.op=73∧ ¬i.op=4)∧ ¬kindOf i.op=3))then i.agR else b
def Yt{i}{b}(hi:i.agR<=4294967295)(hb:b<=4294967295):bP i b<=4294967295:=by unfold bP;split<;>assumption
def Wf{i}{b}(h:kindOf i.op=1∨kindOf i.op=2):bP i b=b:=by
 unfold bP;refine dZ ?_;have:=oG i.op;have:=dN i.op;omega
def ac4(i)(a b):doP i.op a (bP i b)=doP i.op a (if UB i.op=true then i.agR else b):=by
 by_cases h:((i.op=1∨letterOf i.op=84)∨((letterOf i.op=73∧ ¬i.op=4)∧ ¬kindOf i.op=3))↔UB i.op=true
 ·unfold bP;simp only[h]
 have h0:i.op=11∨i.op=12∨i.op=13∨i.op=14∨i.op=15:=by
  have h1:=oG i.op;have h2:=dN i.op;simp only[UB,dE,aP,aY]at h;omega
 rw[dp0 _ _ (by simp;omega),dp0 _ _ (by simp;omega)]
def rB(i)(b:Nat)(hi:i.agR<=4294967295)(hb:b<=4294967295):bI C0 91 [siA i,.v (.int .u32 (b:Int))] (.v (.int .u32 ((bP i b:Nat):Int))):=by
 refine dIZ func91 rfl ?_;refine zC (Vs _) ?_;refine zV (vB (i.op==1))<|gBS rfl id (okB (eqN _ _))<|zN rfl (by simp)<|gBS rfl id (okB (eqN _ _))<|zG rfl id<|gS rfl id<|gBS rfl id rfl<|pB rfl rfl rfl rfl (λh=>h) rfl rfl (λhg hc=>by first|(rw[hg,hc];rfl)|simp_all)<|zG rfl id<|gS rfl id ?_;refine jQ rfl rfl rfl rfl (λh=>h) rfl rfl rfl (.inl rfl) rfl (λhg=>SE _)<|gBS rfl id (okB (neN _ _))<|pB rfl rfl rfl rfl (λh=>h) rfl rfl (λhg hc=>by first|(rw[hg,hc];rfl)|simp_all)<|zN rfl (by simp) ?_;refine zPr ((i.op=1∨(letterOf i.op)=84)∨(((letterOf i.op)=73∧ ¬i.op=4)∧ ¬(kindOf i.op)=3)) (wP _ _ (wP _ _ pEq pEq) (uA _ _ (uA _ _ pEq pNe) pNe)) (λh1=>?_) (λh1=>?_)
 ·exact fI rfl (by unfold bP;rw[af1 h1])
 exact fI rfl (by unfold bP;rw[dZ h1])
def abF(i)(pc a b:Nat)(hi:i.agR<=4294967295)(hpc:pc<=4294967295)(ha:a<=4294967295)(hb:b<=4294967295):bI C0 30 [siA i,.v (.int .u32 (pc:Int)),.v (.int .u32 (a:Int)),.v (.int .u32 (b:Int))] (.v (.int .u32 ((BF i.op i.agR pc a b:Nat):Int))):=by
 refine dIZ func30 rfl ?_;refine zC (rB i b hi hb) ?_;refine rCi rfl (SE _)<|zW _ (okB (eqN _ _)) ?_;refine zEq (kindOf i.op) 1 (λh1=>?_) (λh1=>?_)
 ·refine zC (ae0 i.op a (bP i b) ha (Yt hi hb)) ?_;exact fN rfl (by unfold BF;rw[Wf (.inl h1),af1 h1])
 refine rCi rfl (SE _)<|zW _ (okB (eqN _ _)) ?_;refine zEq (kindOf i.op) 2 (λh2=>?_) (λh2=>?_)
 ·refine zC (ae3 i.op a (bP i b) ha (Yt hi hb)) ?_;exact fN rfl (by unfold BF;rw[Wf (.inr h2),dZ h1,af1 h2])
 refine zE2 i.op 2 (λh3=>?_) (λh3=>?_)
 ·skip
  have b1:(pc+i.agR)%4294967296<=4294967295:=aI (aQ _ dT);refine zV (vU ((pc+i.agR)%4294967296)) ?_;exact fN rfl (by unfold BF;rw[dZ h1,dZ h2,af1 h3])
 refine zV (vB (i.op==3))<|gS rfl id<|gBS rfl id rfl<|zN rfl (by simp) ?_;refine zPr (i.op=3∨i.op=4) (wP _ _ pEq pEq) (λh4=>?_) (λh4=>?_)
 ·skip
  have b2:(pc+4)%4294967296<=4294967295:=aI (aQ _ dT);refine zV (vU ((pc+4)%4294967296)) ?_;exact fN rfl (by unfold BF;rw[dZ h1,dZ h2,dZ h3,af1 h4])
 refine zC (rDo i.op a (bP i b) ha (Yt hi hb)) ?_;exact fN rfl (by unfold BF;rw[ac4,dZ h1,dZ h2,dZ h3,dZ h4])
def Mp{prog}{pc k x}(h:pc=4*k)(hx:prog[k]?=some x):fetchP prog pc=some x:=by
 unfold fetchP;rw[af1 omT,(oT:pc/4=k),hx]
def Pk{prog}{pc}(h:∀i,i<prog.length->pc≠4*i):fetchP prog pc=none:=by
 refine NC ?_;by_cases h1:pc%4=0
 ·exact .inr (Nat.le_of_not_lt λh2=>h _ h2 omT)
 exact .inl h1
def aeV(o:Option Nat):AV:=.tup [.v (.int .u32 ((o.getD 0:Nat):Int)),.v (.bool o.isSome)]
def aa7(prog)(pc:Nat)(clip)(hp:∀x∈prog,x<=4294967295)(hl:prog.length<=1000000)(hpc:pc<=4294967295):bI C0 25 [.sl 1 (prog.map dU) clip,.v (.int .u32 (pc:Int))] (aeV (fetchP prog pc)):=by
 refine dIZ func25 rfl ?_;refine zW _ (af2 (λn:Nat=>Res.ok (.v (.int .i64 (n:Int)))) (aH ..))<|zLo (κ:=Nat) (λk=>⟨slotsF [(0,.sl 1 (prog.map dU) clip),(1,.v (.int .u32 (pc:Int))),(4,.v (.int .u32 0)),(5,.v (.bool false)),(8,.sl 1 (prog.map dU) clip),(9,.v (.int .i64 ((prog.length:Nat):Int))),(10,.v (.int .i64 (k:Int)))],heapF [],5⟩) (λk=>k<=prog.length∧∀i,i<k->pc≠4*i) (λk=>prog.length-k) 0 (λs=>s) (wOL (λs=>s) wT trivial rfl) (⟨aE _,λi h=>absurd h (dG i)⟩) ?_;intro k hk;have hkB:k<=1000000:=aL hk.1 hl;refine zWB (okB (ltN _ _)) (λh1=>?_) (λh1=>?_)
 ·skip
  obtain⟨x,hx⟩:∃x,prog[k]?=some x:=⟨_,aA (af0 h1)⟩;have hxm:=hp x (aB hx);refine zX (dU x) (.dp 1 0 (dU x)) rfl (by rw[Int.toNat_natCast,aX,hx];rfl) ?_;refine zW _ (okI (nJ hpc rfl))<|rW _ rfl (okI (nJ hkB rfl)) ?_;have b1:4*k<=4000000:=cJ (aC 4) hkB;refine rW _ rfl (okI (nJ b1 rfl))<|zWB (okB (eqN _ _)) (λh2=>?_) (λh2=>?_)
  ·exact fT rfl (by rw[Mp (sU h2) hx];rfl)
  skip
  have b2:k+1<=1000001:=aD hkB (aC 1);refine zW _ (okI (bH b2 rfl)) ?_;refine⟨k+1,λs=>s,wOL (λs=>s) wT trivial rfl,⟨af0 h1,λi hi=>if e:i=k then e ▸ (sU h2)else hk.2 i omT⟩,by have:=af0 h1;show prog.length-(k+1)<prog.length-k;omega⟩
 exact fT rfl (by rw[Pk (λi hi=>hk.2 i (oH (aF h1)))];rfl)
def ac1(m)(agZ n:Nat)(hr:agZ+n<=m.size)(ha:agZ<=4294967295)(hn:n<=4):bI C0 37 [.v (.string m),.v (.int .u32 (agZ:Int)),.v (.int .i64 (n:Int))] (.v (.string (Cv m agZ n))):=by
 refine dIZ func37 rfl ?_;refine zW _ (okI (bH ha rfl))<|zW _ (okI (bH ha rfl))<|rW _ rfl (okI (wrap_i64 omT omT))<|zM (.v (.string (Cv m agZ n))) rfl (⟨aG _,by show(agZ:Int)<=((agZ+n:Nat):Int);omega,by show((agZ+n:Nat):Int)<=((m.size:Nat):Int);omega⟩) ?_;exact qY rfl trivial rfl rfl
def Sg{r}(h:∀k,r k<=4294967295){v}(hv:v<=4294967295)(n):∀k,setR r n v k<=4294967295:=by
 intro k;unfold setR;split
 ·exact hv
 exact h k
def Ml{m}{agZ}{b}(h:agZ+b.size<=m.size):(DD m agZ b).size=m.size:=by
 show(DD m agZ b).data.size=m.data.size;have h':agZ+b.data.size<=m.data.size:=h;simp only[DD,kP,aU,aM,bD,cV];show min agZ m.data.size+b.data.size+(m.data.size-(agZ+b.data.size))=m.data.size;omega
def Bb{s:St}(h:s.ok)(why:Int)(agZ:Nat):(Gc s why agZ).1.ok:=⟨h.pc,h.r,h.mem⟩
def Sh{s}(h:s.ok){i}{a b nx}{tk}(hi:i.agR<=4294967295)(ha:a<=4294967295)(hb:b<=4294967295)(hn:nx<=4294967295):(IJ s i a b nx tk).1.ok:=by
 unfold IJ;split
 ·exact⟨hn,h.r,h.mem⟩
 exact⟨hn,Sg h.r (aI (Rp i.op i.agR s.pc a b (bG hi) (bG ha) (bG hb))) _,h.mem⟩
def Vh{prog}{s}(h:s.ok):(gE prog s).1.ok:=by
 unfold gE;split
 ·split
  ·split
   ·exact Bb h _ _
   have hd:=IK (fetchW prog s.pc);have hi:(rA prog s).agR<=4294967295:=aI hd.2.2.2.2.2.2;unfold doI;split
   ·exact Bb h _ _
   split
   ·exact Bb h _ _
   split
   ·unfold sN;split
    ·rename_i hr;have hq:=sQ hr;split
     ·exact⟨uT _,h.r,by rw[Ml (by rw[mP];exact hq.1)];exact h.mem⟩
     split
     ·exact⟨uT _,h.r,h.mem⟩
     exact⟨uT _,Sg h.r (MT _ _) _,h.mem⟩
    exact Bb h _ _
   unfold oN;split
   ·split
    ·exact Sh h hi (h.r _) (h.r _) (aI (Ed _ _ _ _ _))
    exact Bb h _ _
   exact Sh h hi (h.r _) (h.r _) (uT _)
  exact Bb h _ _
 exact h
def Wc{ev:Operand->AV}{h:AH}{s b n v:Nat}{a x:Operand}{pc:Nat}{r:Nat->Nat}{m:ByteArray}{hl:Int}(ha:ev a=.ptr b (1+n*1))(hb:h b=some (.box (stL pc r m hl)))(hx:ev x=.v (.int .u32 (v:Int)))(hn:n<32):
  opA C1 ev h s (.store 28 a x)=.fx True .any (upd h b (some (.box (stL pc (setR r n v) m hl)))):=stR (s:=s) ha hb hx hn
def stN(prog:List Nat)(s:St):Nat->St
 |0=>s
 |k+1=>(gE prog (stN prog s k)).1
theorem Si{prog:List Nat}{s:St}(h:s.ok):∀k,(stN prog s k).ok
 |0=>h
 |k+1=>Vh (Si h k)
def PL(m:ByteArray):St:=⟨0,λ_=>0,jB m,0⟩
def Jk(m:ByteArray):(PL m).ok:=⟨aE _,λ_=>aE _,by show(jB m).size<=256;rw[wE];exact(RA _)⟩
def BK(s)(why)(agZ:Nat)(hs:s.ok)(ha:agZ<=4294967295):bI C0 26 [stA s,.v (.int .i64 why),.v (.int .u32 (agZ:Int))] (two (Gc s why agZ)):=by
 refine dJZ func26 rfl ?_;refine pO rfl rfl<|oR 7 rfl<|rV (.agg [.v (.int .u32 ((s.pc:Nat):Int)),.v (.int .u32 ((s.pc:Nat):Int)),.v (.int .i64 0),.v (.int .u32 0),.v (.int .u32 (agZ:Int)),.v (.int .i64 0),.v (.bool false),.v (.int .i64 why),.v (.int .i64 0)]) rfl<|rSt rfl<|rSt rfl<|rE 19<|And.intro (by kernel_rfl)<|qXF 0 rfl ?_;exact fT rfl rfl
def sR{x:Nat}(h: ¬¬decE x=0): ¬opOf x=0:=λq=>h (by unfold decE;rw[af1 q];decide)
def aa6(prog)(s)(clip)(hp:∀x∈prog,x<=4294967295)(hl:prog.length<=1000000)(hs:s.ok):bI C0 8 [.sl 1 (prog.map dU) clip,stA s] (two (gE prog s)):=by
 refine dJ func8 ?_;have hfw:=KE hp s.pc;have hdec:=aeZ (fetchW prog s.pc) (bG hfw);have hd:=IK (fetchW prog s.pc);have hv:=ZU (fetchW prog s.pc);obtain⟨i,hI⟩:∃i,decN (fetchW prog s.pc)=i:=⟨_,rfl⟩;have hI2:rA prog s=i:=hI;rw[hI]at hdec hd hv;replace hd:0<=i.rd∧i.rd<32∧0<=i.ag0∧i.ag0<32∧0<=i.ag1∧i.ag1<32∧i.agR<=4294967295:=⟨hd.1,hd.2.1,hd.2.2.1,hd.2.2.2.1,hd.2.2.2.2.1,hd.2.2.2.2.2.1,aI hd.2.2.2.2.2.2⟩;obtain⟨a,hA⟩:∃a,s.r i.ag0.toNat=a:=⟨_,rfl⟩;obtain⟨b,hB⟩:∃b,s.r i.ag1.toNat=b:=⟨_,rfl⟩;have ha:a<=4294967295:=hA ▸ hs.r _;have hb:b<=4294967295:=hB ▸ hs.r _;have hnx:qP i.op i.agR s.pc a b<=4294967295:=aI (Ed _ _ _ _ _);refine qS 0 rfl<|rV (.v (.bool (s.halt != 0))) rfl ?_;refine qRC 0 rfl<|cPr (¬s.halt=0) pNe (λh1=>?_) (λh1=>?_)
 ·refine qC 0 rfl<|rV (.agg [.v (.int .u32 0),.v (.int .u32 0),.v (.int .i64 0),.v (.int .u32 0),.v (.int .u32 0),.v (.int .i64 0),.v (.bool false),.v (.int .i64 0),.v (.int .i64 0)]) rfl<|qRF 0 rfl ?_;exact fT rfl (by unfold gE;rw[dZ h1];rfl)
 refine qC 0 rfl<|rCi rfl (aa7 prog s.pc clip hp hl hs.pc) ?_;refine qRC 0 rfl<|cPr (¬(((fetchP prog s.pc).isSome)=true)) (abW Iff.rfl) (λh2=>?_) (λh2=>?_)
 ·refine qC 0 rfl<|rCi rfl (BK s (1) (0) hs dT)<|qRF 0 rfl ?_;exact fT rfl (by unfold gE;rw[af1 (agD.1 h1),dZ h2];rfl)
 refine qC 0 rfl<|rCi rfl (hdec)<|qR 0 rfl<|rW (.v (.bool ((decE (fetchW prog s.pc)) != 0))) rfl (okB (neN _ _)) ?_;refine qRC 0 rfl<|cPr (¬(decE (fetchW prog s.pc))=0) pNe (λh3=>?_) (λh3=>?_)
 ·refine qC 0 rfl<|rCi rfl (BK s (2) (0) hs dT)<|qRF 0 rfl ?_;exact fT rfl (by unfold gE;rw[af1 (agD.1 h1),af1 (agD.1 h2),af1 (af4 λq=>h3 (by unfold decE;rw[dZ q]))];rfl)
 refine qC 0 rfl<|rV (.v (.bool (i.op==47))) rfl ?_;refine qRC 0 rfl<|cEq i.op 47 (λh4=>?_) (λh4=>?_)
 ·refine qC 0 rfl<|rCi rfl (BK s (6) (0) hs dT)<|qRF 0 rfl ?_;exact fT rfl (by unfold gE;rw[af1 (agD.1 h1),af1 (agD.1 h2),dZ (sR h3),hI2];unfold doI;rw[af1 h4];rfl)
 refine qC 0 rfl<|rV (.v (.bool (i.op==48))) rfl ?_;refine qRC 0 rfl<|cEq i.op 48 (λh5=>?_) (λh5=>?_)
 ·refine qC 0 rfl<|rCi rfl (BK s (7) (0) hs dT)<|qRF 0 rfl ?_;exact fT rfl (by unfold gE;rw[af1 (agD.1 h1),af1 (agD.1 h2),dZ (sR h3),hI2];unfold doI;rw[dZ h4,af1 h5];rfl)
 refine qC 0 rfl<|nW (.ptr 0 (1+(i.ag0).toNat*1)) rfl rfl omT<|rW (.v (.int .u32 (a:Int))) rfl ((ldR _ _ _ _ _ omT).trans (by rw[hA]))<|qR 0 rfl<|nW (.ptr 0 (1+(i.ag1).toNat*1)) rfl rfl omT<|rW (.v (.int .u32 (b:Int))) rfl ((ldR _ _ _ _ _ omT).trans (by rw[hB])) ?_;refine qR 0 rfl<|rCi rfl (SE i.op)<|qRC 0 rfl<|cRg<|oR 4 rfl<|rV (.v (.int .u32 ((up4 s.pc:Nat):Int))) rfl<|oR 1 rfl<|rCi rfl (Yw i)<|rV (.agg [.v (.int .u32 ((s.pc:Nat):Int)),.v (.int .u32 ((up4 s.pc:Nat):Int)),.v (.int .i64 (wr i)),.v (.int .u32 0),.v (.int .u32 0),.v (.int .i64 0),.v (.bool false),.v (.int .i64 0),.v (.int .i64 0)]) rfl<|rAl 57 rfl rfl<|rSt rfl<|rE 59 ?_;refine qX 0 rfl<|rCi rfl (abF i s.pc a b hd.2.2.2.2.2.2 hs.pc ha hb)<|qR 0 rfl<|rW (.v (.bool ((kindOf i.op)==3))) rfl (okB (eqN _ _)) ?_;refine qR 0 rfl<|gBS rfl id (okB (eqN _ _))<|bO rfl rfl rfl (by simp) ?_;refine qRC 0 rfl<|cPr ((kindOf i.op)=3∨(kindOf i.op)=4) (wP _ _ pEq pEq) (λh6=>?_) (λh6=>?_)
 ·refine qC 0 rfl<|rV (.v (.int .u32 ((addrOf i a:Nat):Int))) rfl<|qR 0 rfl<|rCi rfl (abK i.op) ?_;refine qR 0 rfl<|rV (.v (.int .i64 (s.mem.size:Int))) rfl<|qR 0 rfl<|rCi rfl (abE s.mem.size (addrOf i a) (sizeOf' i.op) hs.mem (Ay i a) (lQ i.op)) ?_;refine qRC 0 rfl<|cPr (¬((kZ (s.mem.size:Int) (addrOf i a) ((sizeOf' i.op:Nat):Int))=true)) (abW Iff.rfl) (λh7=>?_) (λh7=>?_)
  ·refine qC 0 rfl<|rW (.v (.bool ((kindOf i.op)==3))) rfl (okB (eqN _ _)) ?_;refine qRC 0 rfl<|cEq (kindOf i.op) 3 (λh8=>?_) (λh8=>?_)
   ·refine qC 0 rfl<|rCi rfl (BK s (4) ((addrOf i a)) hs (Ay i a))<|qRF 0 rfl ?_;exact fT rfl (by unfold gE;rw[af1 (agD.1 h1),af1 (agD.1 h2),dZ (sR h3),hI2];unfold doI;rw[dZ h4,dZ h5,af1 h6,hA,hB];unfold sN;rw[dZ h7,dZ omT];rfl)
   refine qC 0 rfl<|rCi rfl (BK s (5) ((addrOf i a)) hs (Ay i a))<|qRF 0 rfl ?_;exact fT rfl (by unfold gE;rw[af1 (agD.1 h1),af1 (agD.1 h2),dZ (sR h3),hI2];unfold doI;rw[dZ h4,dZ h5,af1 h6,hA,hB];unfold sN;rw[dZ h7,af1 omT];rfl)
  refine qC 0 rfl<|rW (.v (.bool ((kindOf i.op)==4))) rfl (okB (eqN _ _)) ?_;refine qRC 0 rfl<|cEq (kindOf i.op) 4 (λh9=>?_) (λh9=>?_)
  ·refine qC 0 rfl<|rCi rfl (abJ b (sizeOf' i.op) hb (lQ i.op)) ?_;have hrt:=sQ (sU h7);refine qR 0 rfl<|rCi rfl (abC s.mem (addrOf i a) (oF b (sizeOf' i.op)) (by rw[mP];exact hrt.1) hs.mem (Ay i a) (by rw[mP];exact lQ i.op)) ?_;refine qR 0 rfl<|rCi rfl (aa9 _ (by rw[mP];exact lQ i.op))<|qRC 0 rfl<|pO rfl rfl ?_;refine oR 2 rfl<|rSt rfl<|rSt rfl<|rE 133<|And.intro (by kernel_rfl)<|qXF 0 rfl ?_;exact fT rfl (by unfold gE;rw[af1 (agD.1 h1),af1 (agD.1 h2),dZ (sR h3),hI2];unfold doI;rw[dZ h4,dZ h5,af1 h6,hA,hB];unfold sN;rw[af1 (agD.1 h7),af1 h9];rw[show(kindOf i.op==4)=true from pU.2 h9];rfl)
  refine qCC 0 rfl<|cRg<|oR 3 rfl ?_;have hrt:=sQ (sU h7);refine oR 5 rfl<|rCi rfl (ac1 s.mem (addrOf i a) (sizeOf' i.op) hrt.1 (Ay i a) (lQ i.op))<|rCi rfl (ac2 i.op _)<|oR 1 rfl<|rE 108<|qX 0 rfl<|rW (.v (.bool ((kindOf i.op)==5))) rfl (okB (eqN _ _)) ?_;refine qRC 0 rfl<|cEq (kindOf i.op) 5 (λh10=>absurd h10 (oH (oG i.op))) (λh10=>?_);refine qC 0 rfl<|rW (.v (.bool ((kindOf i.op)==2))) rfl (okB (eqN _ _)) ?_;refine qRC 0 rfl<|cEq (kindOf i.op) 2 (λh11=>absurd h11 (oH (oG i.op))) (λh11=>?_);refine qC 0 rfl<|rV (.v (.bool (decide ((wr i)>0)))) rfl ?_;refine qRC 0 rfl<|cPr ((wr i)>0) qW (λh12=>?_) (λh12=>?_)
  ·refine qC 0 rfl<|nW (.ptr 67 (1+(wr i).toNat*1)) rfl rfl omT<|Ow rfl rfl (Wc rfl rfl rfl omT) (trivial) ?_;refine qRC 0 rfl<|pO rfl rfl<|oR 2 rfl<|rSt rfl<|rSt rfl<|rE 132<|And.intro (by kernel_rfl)<|qXF 0 rfl ?_;exact fT rfl (by unfold gE;rw[af1 (agD.1 h1),af1 (agD.1 h2),dZ (sR h3),hI2];unfold doI;rw[dZ h4,dZ h5,af1 h6,hA,hB];unfold sN;rw[af1 (agD.1 h7),dZ h9,dZ omT];rw[show(kindOf i.op==4)=false from beq_false_of_ne h9];rfl)
  refine qCC 0 rfl<|pO rfl rfl<|oR 2 rfl<|rSt rfl<|rSt rfl<|rE 123<|And.intro (by kernel_rfl)<|qXF 0 rfl ?_;exact fT rfl (by unfold gE;rw[af1 (agD.1 h1),af1 (agD.1 h2),dZ (sR h3),hI2];unfold doI;rw[dZ h4,dZ h5,af1 h6,hA,hB];unfold sN;rw[af1 (agD.1 h7),dZ h9,af1 omT];rw[show(kindOf i.op==4)=false from beq_false_of_ne h9];rfl)
 refine qC 0 rfl<|rW (.v (.bool ((kindOf i.op)==5))) rfl (okB (eqN _ _)) ?_;refine qRC 0 rfl<|cEq (kindOf i.op) 5 (λh13=>?_) (λh13=>?_)
 ·refine qC 0 rfl<|rCi rfl (adB i s.pc a b hd.2.2.2.2.2.2 hs.pc ha hb) ?_;have b1:(qP i.op i.agR s.pc a b)%4<=3:=aI (aQ _ dT);refine qR 0 rfl<|nW (.v (.int .u32 (((qP i.op i.agR s.pc a b)%4:Nat):Int))) rfl rfl dT<|rW (.v (.bool (((qP i.op i.agR s.pc a b)%4) != 0))) rfl (okB (neN _ _)) ?_;refine qRC 0 rfl<|cPr (¬((qP i.op i.agR s.pc a b)%4)=0) pNe (λh14=>?_) (λh14=>?_)
  ·refine qC 0 rfl<|rCi rfl (BK s (3) (0) hs dT)<|qRF 0 rfl ?_;exact fT rfl (by unfold gE;rw[af1 (agD.1 h1),af1 (agD.1 h2),dZ (sR h3),hI2];unfold doI;rw[dZ h4,dZ h5,dZ h6,hA,hB];unfold oN IJ;rw[af1 h13,dZ h14];rfl)
  refine qC 0 rfl<|rW (.v (.bool ((kindOf i.op)==2))) rfl (okB (eqN _ _)) ?_;refine qRC 0 rfl<|cEq (kindOf i.op) 2 (λh15=>absurd h15 (oH (oG i.op))) (λh15=>?_);refine qC 0 rfl<|rV (.v (.bool (decide ((wr i)>0)))) rfl ?_;refine qRC 0 rfl<|cPr ((wr i)>0) qW (λh16=>?_) (λh16=>?_)
  ·refine qC 0 rfl<|nW (.ptr 67 (1+(wr i).toNat*1)) rfl rfl omT<|Ow rfl rfl (Wc rfl rfl rfl omT) (trivial) ?_;refine qRC 0 rfl<|pO rfl rfl<|oR 2 rfl<|rSt rfl<|rSt rfl<|rE 111<|And.intro (by kernel_rfl)<|qXF 0 rfl ?_;exact fT rfl (by unfold gE;rw[af1 (agD.1 h1),af1 (agD.1 h2),dZ (sR h3),hI2];unfold doI;rw[dZ h4,dZ h5,dZ h6,hA,hB];unfold oN IJ;rw[af1 h13,af1 (agD.1 h14),dZ omT];rfl)
  refine qCC 0 rfl<|pO rfl rfl<|oR 2 rfl<|rSt rfl<|rSt rfl<|rE 102<|And.intro (by kernel_rfl)<|qXF 0 rfl ?_;exact fT rfl (by unfold gE;rw[af1 (agD.1 h1),af1 (agD.1 h2),dZ (sR h3),hI2];unfold doI;rw[dZ h4,dZ h5,dZ h6,hA,hB];unfold oN IJ;rw[af1 h13,af1 (agD.1 h14),af1 omT];rfl)
 refine qC 0 rfl<|rW (.v (.bool ((kindOf i.op)==2))) rfl (okB (eqN _ _)) ?_;refine qRC 0 rfl<|cEq (kindOf i.op) 2 (λh17=>?_) (λh17=>?_)
 ·refine qC 0 rfl<|rCi rfl (ac3 i.op a b ha hb)<|qR 0 rfl<|rV (.v (.bool (decide ((wr i)>0)))) rfl ?_;refine qRC 0 rfl<|cPr ((wr i)>0) qW (λh18=>?_) (λh18=>?_)
  ·refine qC 0 rfl<|nW (.ptr 67 (1+(wr i).toNat*1)) rfl rfl omT<|Ow rfl rfl (Wc rfl rfl rfl omT) (trivial) ?_;refine qRC 0 rfl<|pO rfl rfl<|oR 2 rfl<|rSt rfl<|rSt rfl<|rE 106<|And.intro (by kernel_rfl)<|qXF 0 rfl ?_;exact fT rfl (by unfold gE;rw[af1 (agD.1 h1),af1 (agD.1 h2),dZ (sR h3),hI2];unfold doI;rw[dZ h4,dZ h5,dZ h6,hA,hB];unfold oN IJ;rw[dZ h13,dZ omT,af1 h17];rfl)
  refine qCC 0 rfl<|pO rfl rfl<|oR 2 rfl<|rSt rfl<|rSt rfl<|rE 97<|And.intro (by kernel_rfl)<|qXF 0 rfl ?_;exact fT rfl (by unfold gE;rw[af1 (agD.1 h1),af1 (agD.1 h2),dZ (sR h3),hI2];unfold doI;rw[dZ h4,dZ h5,dZ h6,hA,hB];unfold oN IJ;rw[dZ h13,af1 omT,af1 h17];rfl)
 refine qC 0 rfl<|rV (.v (.bool (decide ((wr i)>0)))) rfl ?_;refine qRC 0 rfl<|cPr ((wr i)>0) qW (λh19=>?_) (λh19=>?_)
 ·refine qC 0 rfl<|nW (.ptr 67 (1+(wr i).toNat*1)) rfl rfl omT<|Ow rfl rfl (Wc rfl rfl rfl omT) (trivial) ?_;refine qRC 0 rfl<|pO rfl rfl<|oR 2 rfl<|rSt rfl<|rSt rfl<|rE 99<|And.intro (by kernel_rfl)<|qXF 0 rfl ?_;exact fT rfl (by unfold gE;rw[af1 (agD.1 h1),af1 (agD.1 h2),dZ (sR h3),hI2];unfold doI;rw[dZ h4,dZ h5,dZ h6,hA,hB];unfold oN IJ;rw[dZ h13,dZ omT,dZ h17];rfl)
 refine qCC 0 rfl<|pO rfl rfl<|oR 2 rfl<|rSt rfl<|rSt rfl<|rE 90<|And.intro (by kernel_rfl)<|qXF 0 rfl ?_;exact fT rfl (by unfold gE;rw[af1 (agD.1 h1),af1 (agD.1 h2),dZ (sR h3),hI2];unfold doI;rw[dZ h4,dZ h5,dZ h6,hA,hB];unfold oN IJ;rw[dZ h13,af1 omT,dZ h17];rfl)
end Go.Proofs.YtlpkggpdjobpmaaGreatDoor
