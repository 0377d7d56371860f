/- Lemmas. -/
import Derived.Test.YtlpkggpdjobpmaaGreatDoorS1
import Derived.Test.YtlpkggpdjobpmaaGreatDoorS14
set_option linter.all false
namespace Go.Proofs.YtlpkggpdjobpmaaGreatDoor
open Go.Proofs.Tryz
open Go.RowKit
def qP(op:Int)(agR pc a b:Nat):Nat:=
 if op=3 then(pc+agR)%4294967296 else if tB op a b=true then(pc+agR)%4294967296
 else if op=4 then(a+agR)%4294967296/2*2 else(pc+4)%4294967296
def BF(op:Int)(agR pc a b:Nat):Nat:=
 if kindOf op=1 then mulP op a b else if kindOf op=2 then divP op a b else if op=2 then(pc+agR)%4294967296
 else if op=3∨op=4 then(pc+4)%4294967296 else doP op a (if UB op=true then agR else b)
def Ed(op)(agR pc a b):qP op agR pc a b<4294967296:=by
 unfold qP
 repeat' split
 all_goals omega
def qF{c}[Decidable c]{x y n:Nat}(hx:x<n)(hy:y<n):(if c then x else y)<n:=by
 split
 ·exact hx
 exact hy
def ZY(op)(a b)(ha:a<4294967296)(hb:b<4294967296):doP op a b<4294967296:=by
 unfold doP;exact qF (aQ _ dT) (qF (aQ _ dT) (qF (bL kE ha) (qF (kQ (n:=32) ha hb) (qF (iM (n:=32) ha hb)
  (qF (aQ _ dT) (qF (bL (cO _ _) ha) (qF (Fm _) (qF (qF dT dT) (qF (qF dT dT) (qF hb dT))))))))))
def XB(op)(a b)(ha:a<4294967296)(hb:b<4294967296):mulP op a b<4294967296:=by
 unfold mulP;exact qF (aQ _ dT) (qF (Fm _) (qF (Fm _) (qF (fO (af3 (Nat.mul_lt_mul'' ha hb) dT)) dT)))
def Rp(op)(agR pc a b)(hi:agR<4294967296)(ha:a<4294967296)(hb:b<4294967296):BF op agR pc a b<4294967296:=by
 unfold BF;exact qF (XB _ _ _ ha hb) (qF (XC _ _ _ ha hb) (qF (aQ _ dT) (qF (aQ _ dT) (ZY _ _ _ ha (qF hi hb)))))
set_option maxHeartbeats 4000000 in
theorem UA(op rd ag0 ag1)(agR pc a b:Nat)(w)(hi:agR<4294967296)(hp:pc<4294967296)(ha:a<4294967296)(hb:b<4294967296):
  Calls Tryz.prog 182 #[.agg #[.int .i64 op,.int .i64 rd,.int .i64 ag0,.int .i64 ag1,.int .u32 agR],.int .u32 pc,.int .u32 a,.int .u32 b] w λe w'=>e=.returned (.int .u32 (qP op agR pc a b))∧Below w.heap.size w w':=by
 have ct:=λw=>Rr op a b w ha hb;have hmask:∀x:Nat,x<4294967296->bits .andNot .u32 (x:Int) 1=((x/2*2:Nat):Int):=λx hx=>by
  rw[show(1:Int)=((1:Nat):Int) by rfl,u32_andNot_nat x 1 hx dT,(dT:(4294967295:Nat)-1=4294967294),nat_midmask 32 1 x dT];have:x%2 ^ 32=x:=jM hx;omega
 by_cases h3:op=3
 ·subst h3;have hv:Hid (qP 3 agR pc a b=(pc+agR)%4294967296):=by show _=_;simp[qP]
  go_enter func182,ntmps182
  go_wp2_with fail
  go_ret
  refine⟨gH ?_,cK _⟩;rw[hv.out];omega
 have m3:(op==(3:Int))=false:=sU h3
 cases ht:tB op a b with
 |true=>
  have hv:Hid (qP op agR pc a b=(pc+agR)%4294967296):=by show _=_;unfold qP;rw[dZ h3,ht,af1 rfl]
  rw[ht]at ct;clear h3 ht
  go_enter func182,ntmps182
  go_wp2_with fail
  refine(ct _).mono ?_;rintro e w' ⟨rfl,rfl⟩
  go_wp2_with fail
  go_ret
  refine⟨gH ?_,cK _⟩;rw[hv.out]
  omega
 | false=>
  rw[ht]at ct;by_cases h4:op=4
  ·subst h4;have hv:Hid (qP 4 agR pc a b=(a+agR)%4294967296/2*2):=by show _=_;unfold qP;rw[dZ h3,ht,dZ dT,af1 rfl]
   have hsum:((a:Int)+agR)%4294967296=(((a+agR)%4294967296:Nat):Int):=oT;have hm:=hmask ((a+agR)%4294967296) (aQ _ dT);rw[<-hsum]at hm;clear h3 ht m3;have HM:=Lib.hid hm;clear hm hsum
   go_enter func182,ntmps182
   go_wp2_with fail
   refine(ct _).mono ?_;rintro e w' ⟨rfl,rfl⟩
   go_wp2_with fail
   go_ret
   refine⟨gH ?_,cK _⟩;rw[hv.out];exact HM.out
  ·have m4:(op==(4:Int))=false:=sU h4;have hv:Hid (qP op agR pc a b=(pc+4)%4294967296):=by show _=_;unfold qP;rw[dZ h3,ht,dZ dT,dZ h4]
   clear h3 ht h4
   go_enter func182,ntmps182
   go_wp2_with fail
   refine(ct _).mono ?_;rintro e w' ⟨rfl,rfl⟩
   go_wp2_with fail
   go_ret
   refine⟨gH ?_,cK _⟩;rw[hv.out];omega
set_option maxHeartbeats 4000000 in
theorem OV(op rd ag0 ag1)(agR pc a b:Nat)(w)(hi:agR<4294967296)(hp:pc<4294967296)(ha:a<4294967296)(hb:b<4294967296):
  Calls Tryz.prog 163 #[.agg #[.int .i64 op,.int .i64 rd,.int .i64 ag0,.int .i64 ag1,.int .u32 agR],.int .u32 pc,.int .u32 a,.int .u32 b] w λe w'=>e=.returned (.tuple #[.int .u32 (qP op agR pc a b),.bool (decide (qP op agR pc a b%4=0))])∧Below w.heap.size w w':=by
 have cn:=λw=>UA op rd ag0 ag1 agR pc a b w hi hp ha hb;have hl:=Ed op agR pc a b;generalize qP op agR pc a b=n at *;have hm:(n:Int).tmod 4=((n%4:Nat):Int):=pY n 4;by_cases h:n%4=0
 ·have hd:(n:Int).tmod 4=0:=by rw[hm,h];rfl
  have hd2:(n:Int)%4=0:=oT;have hv:Hid (decide (n%4=0)=true):=by show _=_;simpa using h
  clear hm h
  go_enter func163,ntmps163
  go_wp2_with fail
  refine(cn _).mono ?_;rintro e w1 ⟨rfl,b1⟩
  go_wp2_with fail
  go_ret2
  exact⟨by rw[hv.out];rfl,(cK _).and b1⟩
 ·have hd:((n:Int).tmod 4==0)=false:=by rw[hm];simp;omega
  have hd2:((n:Int)%4==0)=false:=by simp;omega
  have hv:Hid (decide (n%4=0)=false):=by show _=_;simpa using h
  clear hm h
  go_enter func163,ntmps163
  go_wp2_with fail
  refine(cn _).mono ?_;rintro e w1 ⟨rfl,b1⟩
  go_wp2_with fail
  go_ret2
  exact⟨by rw[hv.out];rfl,(cK _).and b1⟩
def yI(w:World)(op rd ag0 ag1:Int)(agR:Nat):Mine (w.alloc (.cells #[.int .i64 op,.int .i64 rd,.int .i64 ag0,.int .i64 ag1,.int .u32 agR] 70)) w.heap.size [.int .i64 op,.int .i64 rd,.int .i64 ag0,.int .i64 ag1,.int .u32 agR]:=Mine.new w _ _
set_option maxHeartbeats 8000000 in
theorem Rq(op rd ag0 ag1)(agR pc a b:Nat)(w)(hi:agR<4294967296)(hp:pc<4294967296)(ha:a<4294967296)(hb:b<4294967296):
  Calls Tryz.prog 161 #[.agg #[.int .i64 op,.int .i64 rd,.int .i64 ag0,.int .i64 ag1,.int .u32 agR],.int .u32 pc,.int .u32 a,.int .u32 b] w λe w'=>e=.returned (.int .u32 (BF op agR pc a b))∧Below w.heap.size w w':=by
 have ck:=λw=>IP op rd ag0 ag1 agR w;have cm:=λw=>XD op a b w ha hb;have cd:=λw=>OW op a b w ha hb;have cdo:=λ(n:Nat) (hn:n<4294967296) w=>ZZ op a n w ha hn;have cim:=λw=>IL op w;have hv:BF op agR pc a b=if kindOf op=1 then mulP op a b else if kindOf op=2 then divP op a b else if op=2 then(pc+agR)%4294967296
  else if op=3∨op=4 then(pc+4)%4294967296 else doP op a _:=rfl
 generalize BF op agR pc a b=v at *;have hkd:∀k:Nat,kindOf op=k->∀w,Calls Tryz.prog 63 #[.agg #[.int .i64 op,.int .i64 rd,.int .i64 ag0,.int .i64 ag1,.int .u32 agR]] w λe w'=>e=.returned _∧Below w.heap.size w w':=λk hk w=>hk ▸ ck w;clear ck;by_cases h1:kindOf op=1
 ·have ck:=hkd 1 h1;rw[af1 h1]at hv;rw[hv];clear hv hkd cd cdo cim h1;generalize mulP op a b=v at *
  go_enter func161,ntmps161
  go_wp2_with fail
  refine(ck _).mono ?_;rintro e w1 ⟨rfl,b1⟩;have M:=(yI w op rd ag0 ag1 agR).kept b1;have c0:=M.c 0 _ rfl
  go_wp2_with fail
  refine(cm _).mono ?_;rintro e w2 ⟨rfl,rfl⟩
  go_wp2_with fail
  go_ret
  exact⟨rfl,(cK _).and b1⟩
 by_cases h2:kindOf op=2
 ·have ck:=hkd 2 h2;rw[dZ h1,af1 h2]at hv;rw[hv];clear hv hkd cm cdo cim h1 h2;generalize divP op a b=v at *
  go_enter func161,ntmps161
  go_wp2_with fail
  refine(ck _).mono ?_;rintro e w1 ⟨rfl,b1⟩;have M:=(yI w op rd ag0 ag1 agR).kept b1;have c0:=M.c 0 _ rfl
  go_wp2_with fail
  refine(cd _).mono ?_;rintro e w2 ⟨rfl,b2⟩
  go_wp2_with fail
  go_ret
  exact⟨rfl,((cK _).and b1).and b2⟩
 rw[dZ h1,dZ h2]at hv;obtain⟨k,hk⟩:∃k,kindOf op=k:=⟨_,rfl⟩;have ck:=hkd k hk;rw[hk]at h1 h2;have q1:((k:Int)==1)=false:=by simp;omega
 have q2:((k:Int)==2)=false:=by simp;omega
 clear hkd hk h1 h2 cm cd;by_cases h3:op=2
 ·rw[af1 h3]at hv;subst h3;have HV:=Lib.hid hv;clear hv cdo cim
  go_enter func161,ntmps161
  go_wp2_with fail
  refine(ck _).mono ?_;rintro e w1 ⟨rfl,b1⟩;have M:=(yI w 2 rd ag0 ag1 agR).kept b1;have c0:=M.c 0 _ rfl;have c4:=M.c 4 _ rfl
  go_wp2_with fail
  go_ret
  refine⟨gH ?_,(cK _).and b1⟩;rw[HV.out];omega
 rw[dZ h3]at hv;have q3:(op==(2:Int))=false:=sU h3;by_cases h4:op=3∨op=4
 ·rw[af1 h4]at hv;have HV:=Lib.hid hv;clear hv cdo cim h3;rcases h4 with rfl|rfl
  all_goals
   go_enter func161,ntmps161
   go_wp2_with fail
   refine(ck _).mono ?_;rintro e w1 ⟨rfl,b1⟩;have M:=(yI w _ rd ag0 ag1 agR).kept b1;have c0:=M.c 0 _ rfl
   go_wp2_with fail
   go_ret
   refine⟨gH ?_,(cK _).and b1⟩;rw[HV.out];omega
 rw[dZ h4]at hv;have q4:(op==(3:Int))=false:=by simp;omega
 have q5:(op==(4:Int))=false:=by simp;omega
 clear h3 h4
 cases him:UB op with
 |true=>
  rw[him,af1 rfl]at hv;rw[him]at cim;have cdo':=cdo agR hi;rw[<-hv]at cdo';clear cdo hv him
  go_enter func161,ntmps161
  go_wp2_with fail
  refine(ck _).mono ?_;rintro e w1 ⟨rfl,b1⟩;have M:=(yI w op rd ag0 ag1 agR).kept b1;have c0:=M.c 0 _ rfl;have c4:=M.c 4 _ rfl
  go_wp2_with fail
  refine(cim _).mono ?_;rintro e w2 ⟨rfl,rfl⟩
  go_wp2_with fail
  refine(cdo' _).mono ?_;rintro e w2 ⟨rfl,rfl⟩
  go_wp2_with fail
  go_ret
  exact⟨rfl,(cK _).and b1⟩
 |false=>
  rw[him,dZ dT]at hv;rw[him]at cim;have cdo':=cdo b hb;rw[<-hv]at cdo';clear cdo hv him
  go_enter func161,ntmps161
  go_wp2_with fail
  refine(ck _).mono ?_;rintro e w1 ⟨rfl,b1⟩;have M:=(yI w op rd ag0 ag1 agR).kept b1;have c0:=M.c 0 _ rfl
  go_wp2_with fail
  refine(cim _).mono ?_;rintro e w2 ⟨rfl,rfl⟩
  go_wp2_with fail
  refine(cdo' _).mono ?_;rintro e w2 ⟨rfl,rfl⟩
  go_wp2_with fail
  go_ret
  exact⟨rfl,(cK _).and b1⟩
end Go.Proofs.YtlpkggpdjobpmaaGreatDoor
