/- Lemmas. -/
import Derived.Test.YtdhclfgoomldfaaGreatDoorS1
import Derived.Test.YtdhclfgoomldfaaGreatDoorS14
set_option linter.all false
namespace Go.Proofs.YtdhclfgoomldfaaGreatDoor
open Go.Proofs.Tryz
open Go.RowKit
def qP(d:Int)(c pc a b:Nat):Nat:=
 if d=3 then(pc+c)%4294967296 else if tB d a b=true then(pc+c)%4294967296
 else if d=4 then(a+c)%4294967296/2*2 else(pc+4)%4294967296
def BF(c:Int)(d pc a b:Nat):Nat:=
 if ak c=1 then g5 c a b else if ak c=2 then eg c a b else if c=2 then(pc+d)%4294967296
 else if c=3∨c=4 then(pc+4)%4294967296 else bT c a (if UB c=true then d else b)
def Ed(d)(c pc a b):qP d c pc a b<4294967296:=by
 unfold qP
 repeat' split
 all_goals omega
def qF{c}[Decidable c]{x y n:Nat}(a:x<n)(b:y<n):(if c then x else y)<n:=by
 split
 ·exact a
 exact b
def y1(e)(a b)(c:a<4294967296)(d:b<4294967296):bT e a b<4294967296:=by
 unfold bT;exact qF (aQ _ dT) (qF (aQ _ dT) (qF (bL kE c) (qF (kQ (n:=32) c d) (qF (iM (n:=32) c d)
  (qF (aQ _ dT) (qF (bL (cO _ _) c) (qF (Fm _) (qF (qF dT dT) (qF (qF dT dT) (qF d dT))))))))))
def XB(e)(a b)(c:a<4294967296)(d:b<4294967296):g5 e a b<4294967296:=by
 unfold g5;exact qF (aQ _ dT) (qF (Fm _) (qF (Fm _) (qF (fO (ep (Nat.mul_lt_mul'' c d) dT)) dT)))
def Rp(g)(c pc a b)(f:c<4294967296)(d:a<4294967296)(e:b<4294967296):BF g c pc a b<4294967296:=by
 unfold BF;exact qF (XB _ _ _ d e) (qF (XC _ _ _ d e) (qF (aQ _ dT) (qF (aQ _ dT) (y1 _ _ _ d (qF f e)))))
set_option maxHeartbeats 4000000 in
theorem UA(op rd ag0 ag1)(agR pc a b:Nat)(w)(hi:agR<4294967296)(hp:pc<4294967296)(ha:a<4294967296)(hb:b<4294967296):
  Calls Tryz.prog 183 #[.agg #[.int .i64 op,.int .i64 rd,.int .i64 ag0,.int .i64 ag1,.int .u32 agR],.int .u32 pc,.int .u32 a,.int .u32 b] w λe w'=>e=.returned (.int .u32 (qP op agR pc a b))∧Below w.heap.size w w':=by
 have ct:=λw=>Rr op a b w ha hb;have hmask:∀x:Nat,x<4294967296->bits .andNot .u32 (x:Int) 1=((x/2*2:Nat):Int):=λx hx=>by
  rw[show(1:Int)=((1:Nat):Int) by rfl,u32_andNot_nat x 1 hx dT,(dT:(4294967295:Nat)-1=4294967294),nat_midmask 32 1 x dT];have:x%2 ^ 32=x:=jM hx;omega
 by_cases h3:op=3
 ·subst h3;have hv:Hid (qP 3 agR pc a b=(pc+agR)%4294967296):=by show _=_;simp[qP]
  go_enter func183,ntmps183
  go_wp2_with fail
  go_ret
  refine⟨gH ?_,cK _⟩;rw[hv.out];omega
 have m3:(op==(3:Int))=false:=sU h3
 cases ht:tB op a b with
 |true=>
  have hv:Hid (qP op agR pc a b=(pc+agR)%4294967296):=by show _=_;unfold qP;rw[dZ h3,ht,aa rfl]
  rw[ht]at ct;clear h3 ht
  go_enter func183,ntmps183
  go_wp2_with fail
  apply(ct _).mono;rintro e w' ⟨rfl,rfl⟩
  go_wp2_with fail
  go_ret
  refine⟨gH ?_,cK _⟩;rw[hv.out]
  omega
 | false=>
  rw[ht]at ct;by_cases h4:op=4
  ·subst h4;have hv:Hid (qP 4 agR pc a b=(a+agR)%4294967296/2*2):=by show _=_;unfold qP;rw[dZ h3,ht,dZ dT,aa rfl]
   have hsum:((a:Int)+agR)%4294967296=(((a+agR)%4294967296:Nat):Int):=oT;have hm:=hmask ((a+agR)%4294967296) (aQ _ dT);rw[<-hsum]at hm;clear h3 ht m3;have HM:=Lib.hid hm;clear hm hsum
   go_enter func183,ntmps183
   go_wp2_with fail
   apply(ct _).mono;rintro e w' ⟨rfl,rfl⟩
   go_wp2_with fail
   go_ret
   refine⟨gH ?_,cK _⟩;rw[hv.out];exact HM.out
  ·have m4:(op==(4:Int))=false:=sU h4;have hv:Hid (qP op agR pc a b=(pc+4)%4294967296):=by show _=_;unfold qP;rw[dZ h3,ht,dZ dT,dZ h4]
   clear h3 ht h4
   go_enter func183,ntmps183
   go_wp2_with fail
   apply(ct _).mono;rintro e w' ⟨rfl,rfl⟩
   go_wp2_with fail
   go_ret
   refine⟨gH ?_,cK _⟩;rw[hv.out];omega
set_option maxHeartbeats 4000000 in
theorem OV(op rd ag0 ag1)(agR pc a b:Nat)(w)(hi:agR<4294967296)(hp:pc<4294967296)(ha:a<4294967296)(hb:b<4294967296):
  Calls Tryz.prog 164 #[.agg #[.int .i64 op,.int .i64 rd,.int .i64 ag0,.int .i64 ag1,.int .u32 agR],.int .u32 pc,.int .u32 a,.int .u32 b] w λe w'=>e=.returned (.tuple #[.int .u32 (qP op agR pc a b),.bool (decide (qP op agR pc a b%4=0))])∧Below w.heap.size w w':=by
 have cn:=λw=>UA op rd ag0 ag1 agR pc a b w hi hp ha hb;have hl:=Ed op agR pc a b;generalize qP op agR pc a b=n at *;have hm:(n:Int).tmod 4=((n%4:Nat):Int):=pY n 4;by_cases h:n%4=0
 ·have hd:(n:Int).tmod 4=0:=by rw[hm,h];rfl
  have hd2:(n:Int)%4=0:=oT;have hv:Hid (decide (n%4=0)=true):=by show _=_;simpa using h
  clear hm h
  go_enter func164,ntmps164
  go_wp2_with fail
  apply(cn _).mono;rintro e w1 ⟨rfl,b1⟩
  go_wp2_with fail
  go_ret2
  exact⟨by rw[hv.out];rfl,(cK _).and b1⟩
 ·have hd:((n:Int).tmod 4==0)=false:=by rw[hm];simp;omega
  have hd2:((n:Int)%4==0)=false:=by simp;omega
  have hv:Hid (decide (n%4=0)=false):=by show _=_;simpa using h
  clear hm h
  go_enter func164,ntmps164
  go_wp2_with fail
  apply(cn _).mono;rintro e w1 ⟨rfl,b1⟩
  go_wp2_with fail
  go_ret2
  exact⟨by rw[hv.out];rfl,(cK _).and b1⟩
def yI(w:World)(d e a b:Int)(c:Nat):f' (w.alloc (.cells #[.int .i64 d,.int .i64 e,.int .i64 a,.int .i64 b,.int .u32 c] 64)) w.heap.size [.int .i64 d,.int .i64 e,.int .i64 a,.int .i64 b,.int .u32 c]:=f'.new w _ _
set_option maxHeartbeats 8000000 in
theorem Rq(op rd ag0 ag1)(agR pc a b:Nat)(w)(hi:agR<4294967296)(hp:pc<4294967296)(ha:a<4294967296)(hb:b<4294967296):
  Calls Tryz.prog 162 #[.agg #[.int .i64 op,.int .i64 rd,.int .i64 ag0,.int .i64 ag1,.int .u32 agR],.int .u32 pc,.int .u32 a,.int .u32 b] w λe w'=>e=.returned (.int .u32 (BF op agR pc a b))∧Below w.heap.size w w':=by
 have ck:=λw=>IP op rd ag0 ag1 agR w;have cm:=λw=>XD op a b w ha hb;have cd:=λw=>OW op a b w ha hb;have cdo:=λ(n:Nat) (hn:n<4294967296) w=>y2 op a n w ha hn;have cim:=λw=>IL op w;have hv:BF op agR pc a b=if ak op=1 then g5 op a b else if ak op=2 then eg op a b else if op=2 then(pc+agR)%4294967296
  else if op=3∨op=4 then(pc+4)%4294967296 else bT op a _:=rfl
 generalize BF op agR pc a b=v at *;have hkd:∀k:Nat,ak op=k->∀w,Calls Tryz.prog 78 #[.agg #[.int .i64 op,.int .i64 rd,.int .i64 ag0,.int .i64 ag1,.int .u32 agR]] w λe w'=>e=.returned _∧Below w.heap.size w w':=λk hk w=>hk ▸ ck w;clear ck;by_cases h1:ak op=1
 ·have ck:=hkd 1 h1;rw[aa h1]at hv;rw[hv];clear hv hkd cd cdo cim h1;generalize g5 op a b=v at *
  go_enter func162,ntmps162
  go_wp2_with fail
  apply(ck _).mono;rintro e w1 ⟨rfl,b1⟩;have M:=(yI w op rd ag0 ag1 agR).kept b1;have c0:=M.c 0 _ rfl
  go_wp2_with fail
  apply(cm _).mono;rintro e w2 ⟨rfl,rfl⟩
  go_wp2_with fail
  go_ret
  exact⟨rfl,(cK _).and b1⟩
 by_cases h2:ak op=2
 ·have ck:=hkd 2 h2;rw[dZ h1,aa h2]at hv;rw[hv];clear hv hkd cm cdo cim h1 h2;generalize eg op a b=v at *
  go_enter func162,ntmps162
  go_wp2_with fail
  apply(ck _).mono;rintro e w1 ⟨rfl,b1⟩;have M:=(yI w op rd ag0 ag1 agR).kept b1;have c0:=M.c 0 _ rfl
  go_wp2_with fail
  apply(cd _).mono;rintro e w2 ⟨rfl,b2⟩
  go_wp2_with fail
  go_ret
  exact⟨rfl,((cK _).and b1).and b2⟩
 rw[dZ h1,dZ h2]at hv;let⟨k,hk⟩:∃k,ak op=k:=⟨_,rfl⟩;have ck:=hkd k hk;rw[hk]at h1 h2;have q1:((k:Int)==1)=false:=by simp;omega
 have q2:((k:Int)==2)=false:=by simp;omega
 clear hkd hk h1 h2 cm cd;by_cases h3:op=2
 ·rw[aa h3]at hv;subst h3;have HV:=Lib.hid hv;clear hv cdo cim
  go_enter func162,ntmps162
  go_wp2_with fail
  apply(ck _).mono;rintro e w1 ⟨rfl,b1⟩;have M:=(yI w 2 rd ag0 ag1 agR).kept b1;have c0:=M.c 0 _ rfl;have c4:=M.c 4 _ rfl
  go_wp2_with fail
  go_ret
  refine⟨gH ?_,(cK _).and b1⟩;rw[HV.out];omega
 rw[dZ h3]at hv;have q3:(op==(2:Int))=false:=sU h3;by_cases h4:op=3∨op=4
 ·rw[aa h4]at hv;have HV:=Lib.hid hv;clear hv cdo cim h3;rcases h4 with rfl|rfl
  all_goals
   go_enter func162,ntmps162
   go_wp2_with fail
   apply(ck _).mono;rintro e w1 ⟨rfl,b1⟩;have M:=(yI w _ rd ag0 ag1 agR).kept b1;have c0:=M.c 0 _ rfl
   go_wp2_with fail
   go_ret
   refine⟨gH ?_,(cK _).and b1⟩;rw[HV.out];omega
 rw[dZ h4]at hv;have q4:(op==(3:Int))=false:=by simp;omega
 have q5:(op==(4:Int))=false:=by simp;omega
 clear h3 h4
 cases him:UB op with
 |true=>
  rw[him,aa rfl]at hv;rw[him]at cim;have cdo':=cdo agR hi;rw[<-hv]at cdo';clear cdo hv him
  go_enter func162,ntmps162
  go_wp2_with fail
  apply(ck _).mono;rintro e w1 ⟨rfl,b1⟩;have M:=(yI w op rd ag0 ag1 agR).kept b1;have c0:=M.c 0 _ rfl;have c4:=M.c 4 _ rfl
  go_wp2_with fail
  apply(cim _).mono;rintro e w2 ⟨rfl,rfl⟩
  go_wp2_with fail
  apply(cdo' _).mono;rintro e w2 ⟨rfl,rfl⟩
  go_wp2_with fail
  go_ret
  exact⟨rfl,(cK _).and b1⟩
 |false=>
  rw[him,dZ dT]at hv;rw[him]at cim;have cdo':=cdo b hb;rw[<-hv]at cdo';clear cdo hv him
  go_enter func162,ntmps162
  go_wp2_with fail
  apply(ck _).mono;rintro e w1 ⟨rfl,b1⟩;have M:=(yI w op rd ag0 ag1 agR).kept b1;have c0:=M.c 0 _ rfl
  go_wp2_with fail
  apply(cim _).mono;rintro e w2 ⟨rfl,rfl⟩
  go_wp2_with fail
  apply(cdo' _).mono;rintro e w2 ⟨rfl,rfl⟩
  go_wp2_with fail
  go_ret
  exact⟨rfl,(cK _).and b1⟩
end Go.Proofs.YtdhclfgoomldfaaGreatDoor
