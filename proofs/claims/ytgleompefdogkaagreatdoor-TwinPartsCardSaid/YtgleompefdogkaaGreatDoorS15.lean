/- Joined texts. -/
import Derived.Test.YtgleompefdogkaaGreatDoorS1
import Derived.Test.YtgleompefdogkaaGreatDoorS14
set_option linter.unusedVariables false
set_option linter.unusedSimpArgs false
set_option linter.defProp false
namespace Go.Proofs.YtgleompefdogkaaGreatDoor
open Go.RowKit
def iI(op:Int)(imm pc a b:Nat):Nat:=
 if op=3 then(pc+imm)%4294967296 else if JJ op a b=true then(pc+imm)%4294967296
 else if op=4 then(a+imm)%4294967296/2*2 else(pc+4)%4294967296
def rD(op:Int)(imm pc a b:Nat):Nat:=
 if kindOf op=1 then Kn op a b else if kindOf op=2 then IF op a b else if op=2 then(pc+imm)%4294967296
 else if op=3∨op=4 then(pc+4)%4294967296 else doP op a (if Xd op=true then imm else b)
def MK(op:Int)(imm pc a b:Nat):iI op imm pc a b<4294967296:=by
 unfold iI
 repeat' split
 all_goals omega
def qL{c:Prop}[Decidable c]{x y n:Nat}(hx:x<n)(hy:y<n):(if c then x else y)<n:=by
 split
 ·exact hx
 ·exact hy
def Yr(op:Int)(a b:Nat)(ha:a<4294967296)(hb:b<4294967296):doP op a b<4294967296:=by
 unfold doP;exact qL (bE _ (by decide)) (qL (bE _ (by decide)) (qL (bM mG ha) (qL (mU (n:=32) ha hb) (qL (mE (n:=32) ha hb)
  (qL (bE _ (by decide)) (qL (bM (fJ _ _) ha) (qL (EQ _) (qL (qL (by decide) (by decide)) (qL (qL (by decide) (by decide)) (qL hb (by decide)))))))))))
def Wa(op:Int)(a b:Nat)(ha:a<4294967296)(hb:b<4294967296):Kn op a b<4294967296:=by
 unfold Kn;exact qL (bE _ (by decide)) (qL (EQ _) (qL (EQ _) (qL (iY (Nat.lt_of_lt_of_le (Nat.mul_lt_mul'' ha hb) (by decide))) (by decide))))
def Wb(op:Int)(imm pc a b:Nat)(hi:imm<4294967296)(ha:a<4294967296)(hb:b<4294967296):rD op imm pc a b<4294967296:=by
 unfold rD;exact qL (Wa _ _ _ ha hb) (qL (Wc _ _ _ ha hb) (qL (bE _ (by decide)) (qL (bE _ (by decide)) (Yr _ _ _ ha (qL hi hb)))))
set_option maxHeartbeats 4000000 in
theorem Ti(op rd rs1 rs2:Int)(imm pc a b:Nat)(w:World)(hi:imm<4294967296)(hp:pc<4294967296)(ha:a<4294967296)(hb:b<4294967296):
  Calls Tryz.prog 168 #[.agg #[.int .i64 op,.int .i64 rd,.int .i64 rs1,.int .i64 rs2,.int .u32 imm],.int .u32 pc,.int .u32 a,.int .u32 b] w λe w'=>e=.returned (.int .u32 (iI op imm pc a b))∧Below w.heap.size w w':=by
 have ct:=λw=>Qt op a b w ha hb;have hmask:∀x:Nat,x<4294967296->bits .andNot .u32 (x:Int) 1=((x/2*2:Nat):Int):=λx hx=>by
  rw[show(1:Int)=((1:Nat):Int) by rfl,u32_andNot_nat x 1 hx (by decide),show(4294967295:Nat)-1=4294967294 by decide,nat_midmask 32 1 x (by decide)];have:x%2 ^ 32=x:=rK hx;omega
 by_cases h3:op=3
 ·subst h3;have hv:Hid (iI 3 imm pc a b=(pc+imm)%4294967296):=by show _=_;simp[iI]
  go_enter Tryz.func168,Tryz.ntmps168
  go_wp2_with fail
  go_ret
  refine⟨gE ?_,cJ _⟩;rw[hv.out];omega
 have m3:(op==(3:Int))=false:=by simpa using h3
 cases ht:JJ op a b with
 |true=>
  have hv:Hid (iI op imm pc a b=(pc+imm)%4294967296):=by show _=_;unfold iI;rw[if_neg h3,ht,if_pos rfl]
  rw[ht]at ct;clear h3 ht
  go_enter Tryz.func168,Tryz.ntmps168
  go_wp2_with fail
  refine(ct _).mono ?_;rintro e w' ⟨rfl,rfl⟩
  go_wp2_with fail
  go_ret
  refine⟨gE ?_,cJ _⟩;rw[hv.out]
  omega
 | false=>
  rw[ht]at ct;by_cases h4:op=4
  ·subst h4;have hv:Hid (iI 4 imm pc a b=(a+imm)%4294967296/2*2):=by show _=_;unfold iI;rw[if_neg h3,ht,if_neg (by decide),if_pos rfl]
   have hsum:((a:Int)+imm)%4294967296=(((a+imm)%4294967296:Nat):Int):=by omega
   have hm:=hmask ((a+imm)%4294967296) (bE _ (by decide));rw[<-hsum]at hm;clear h3 ht m3;have HM:=Lib.hid hm;clear hm hsum
   go_enter Tryz.func168,Tryz.ntmps168
   go_wp2_with fail
   refine(ct _).mono ?_;rintro e w' ⟨rfl,rfl⟩
   go_wp2_with fail
   go_ret
   refine⟨gE ?_,cJ _⟩;rw[hv.out];exact HM.out
  ·have m4:(op==(4:Int))=false:=by simpa using h4
   have hv:Hid (iI op imm pc a b=(pc+4)%4294967296):=by show _=_;unfold iI;rw[if_neg h3,ht,if_neg (by decide),if_neg h4]
   clear h3 ht h4
   go_enter Tryz.func168,Tryz.ntmps168
   go_wp2_with fail
   refine(ct _).mono ?_;rintro e w' ⟨rfl,rfl⟩
   go_wp2_with fail
   go_ret
   refine⟨gE ?_,cJ _⟩;rw[hv.out];omega
set_option maxHeartbeats 4000000 in
theorem NU(op rd rs1 rs2:Int)(imm pc a b:Nat)(w:World)(hi:imm<4294967296)(hp:pc<4294967296)(ha:a<4294967296)(hb:b<4294967296):
  Calls Tryz.prog 147 #[.agg #[.int .i64 op,.int .i64 rd,.int .i64 rs1,.int .i64 rs2,.int .u32 imm],.int .u32 pc,.int .u32 a,.int .u32 b] w λe w'=>e=.returned (.tuple #[.int .u32 (iI op imm pc a b),.bool (decide (iI op imm pc a b%4=0))])∧Below w.heap.size w w':=by
 have cn:=λw=>Ti op rd rs1 rs2 imm pc a b w hi hp ha hb;have hl:=MK op imm pc a b;generalize iI op imm pc a b=n at *;have hm:(n:Int).tmod 4=((n%4:Nat):Int):=qD n 4;by_cases h:n%4=0
 ·have hd:(n:Int).tmod 4=0:=by rw[hm,h];rfl
  have hd2:(n:Int)%4=0:=by omega
  have hv:Hid (decide (n%4=0)=true):=by show _=_;simpa using h
  clear hm h
  go_enter Tryz.func147,Tryz.ntmps147
  go_wp2_with fail
  refine(cn _).mono ?_;rintro e w1 ⟨rfl,b1⟩
  go_wp2_with fail
  go_ret2
  exact⟨by rw[hv.out];rfl,(cJ _).and b1⟩
 ·have hd:((n:Int).tmod 4==0)=false:=by rw[hm];simp;omega
  have hd2:((n:Int)%4==0)=false:=by simp;omega
  have hv:Hid (decide (n%4=0)=false):=by show _=_;simpa using h
  clear hm h
  go_enter Tryz.func147,Tryz.ntmps147
  go_wp2_with fail
  refine(cn _).mono ?_;rintro e w1 ⟨rfl,b1⟩
  go_wp2_with fail
  go_ret2
  exact⟨by rw[hv.out];rfl,(cJ _).and b1⟩
def yG(w:World)(op rd rs1 rs2:Int)(imm:Nat):Mine (w.alloc (.cells #[.int .i64 op,.int .i64 rd,.int .i64 rs1,.int .i64 rs2,.int .u32 imm] 93)) w.heap.size [.int .i64 op,.int .i64 rd,.int .i64 rs1,.int .i64 rs2,.int .u32 imm]:=Mine.new w _ _
set_option maxHeartbeats 8000000 in
theorem Qr(op rd rs1 rs2:Int)(imm pc a b:Nat)(w:World)(hi:imm<4294967296)(hp:pc<4294967296)(ha:a<4294967296)(hb:b<4294967296):
  Calls Tryz.prog 145 #[.agg #[.int .i64 op,.int .i64 rd,.int .i64 rs1,.int .i64 rs2,.int .u32 imm],.int .u32 pc,.int .u32 a,.int .u32 b] w λe w'=>e=.returned (.int .u32 (rD op imm pc a b))∧Below w.heap.size w w':=by
 have ck:=λw=>Ik op rd rs1 rs2 imm w;have cm:=λw=>Wd op a b w ha hb;have cd:=λw=>NV op a b w ha hb;have cdo:=λ(n:Nat) (hn:n<4294967296) w=>Ys op a n w ha hn;have cim:=λw=>Ij op w;have hv:rD op imm pc a b=if kindOf op=1 then Kn op a b else if kindOf op=2 then IF op a b else if op=2 then(pc+imm)%4294967296
  else if op=3∨op=4 then(pc+4)%4294967296 else doP op a (if Xd op=true then imm else b):=rfl
 generalize rD op imm pc a b=v at *;have hkd:∀k:Nat,kindOf op=k->∀w,Calls Tryz.prog 59 #[.agg #[.int .i64 op,.int .i64 rd,.int .i64 rs1,.int .i64 rs2,.int .u32 imm]] w λe w'=>e=.returned (.int .i64 k)∧Below w.heap.size w w':=λk hk w=>hk ▸ ck w;clear ck;by_cases h1:kindOf op=1
 ·have ck:=hkd 1 h1;rw[if_pos h1]at hv;rw[hv];clear hv hkd cd cdo cim h1;generalize Kn op a b=v at *
  go_enter Tryz.func145,Tryz.ntmps145
  go_wp2_with fail
  refine(ck _).mono ?_;rintro e w1 ⟨rfl,b1⟩;have M:=(yG w op rd rs1 rs2 imm).kept b1;have c0:=M.c 0 _ rfl
  go_wp2_with fail
  refine(cm _).mono ?_;rintro e w2 ⟨rfl,rfl⟩
  go_wp2_with fail
  go_ret
  exact⟨rfl,(cJ _).and b1⟩
 by_cases h2:kindOf op=2
 ·have ck:=hkd 2 h2;rw[if_neg h1,if_pos h2]at hv;rw[hv];clear hv hkd cm cdo cim h1 h2;generalize IF op a b=v at *
  go_enter Tryz.func145,Tryz.ntmps145
  go_wp2_with fail
  refine(ck _).mono ?_;rintro e w1 ⟨rfl,b1⟩;have M:=(yG w op rd rs1 rs2 imm).kept b1;have c0:=M.c 0 _ rfl
  go_wp2_with fail
  refine(cd _).mono ?_;rintro e w2 ⟨rfl,b2⟩
  go_wp2_with fail
  go_ret
  exact⟨rfl,((cJ _).and b1).and b2⟩
 rw[if_neg h1,if_neg h2]at hv;obtain⟨k,hk⟩:∃k,kindOf op=k:=⟨_,rfl⟩;have ck:=hkd k hk;rw[hk]at h1 h2;have q1:((k:Int)==1)=false:=by simp;omega
 have q2:((k:Int)==2)=false:=by simp;omega
 clear hkd hk h1 h2 cm cd;by_cases h3:op=2
 ·rw[if_pos h3]at hv;subst h3;have HV:=Lib.hid hv;clear hv cdo cim
  go_enter Tryz.func145,Tryz.ntmps145
  go_wp2_with fail
  refine(ck _).mono ?_;rintro e w1 ⟨rfl,b1⟩;have M:=(yG w 2 rd rs1 rs2 imm).kept b1;have c0:=M.c 0 _ rfl;have c4:=M.c 4 _ rfl
  go_wp2_with fail
  go_ret
  refine⟨gE ?_,(cJ _).and b1⟩;rw[HV.out];omega
 rw[if_neg h3]at hv;have q3:(op==(2:Int))=false:=by simpa using h3
 by_cases h4:op=3∨op=4
 ·rw[if_pos h4]at hv;have HV:=Lib.hid hv;clear hv cdo cim h3;rcases h4 with rfl|rfl
  all_goals
   go_enter Tryz.func145,Tryz.ntmps145
   go_wp2_with fail
   refine(ck _).mono ?_;rintro e w1 ⟨rfl,b1⟩;have M:=(yG w _ rd rs1 rs2 imm).kept b1;have c0:=M.c 0 _ rfl
   go_wp2_with fail
   go_ret
   refine⟨gE ?_,(cJ _).and b1⟩;rw[HV.out];omega
 rw[if_neg h4]at hv;have q4:(op==(3:Int))=false:=by simp;omega
 have q5:(op==(4:Int))=false:=by simp;omega
 clear h3 h4
 cases him:Xd op with
 |true=>
  rw[him,if_pos rfl]at hv;rw[him]at cim;have cdo':=cdo imm hi;rw[<-hv]at cdo';clear cdo hv him
  go_enter Tryz.func145,Tryz.ntmps145
  go_wp2_with fail
  refine(ck _).mono ?_;rintro e w1 ⟨rfl,b1⟩;have M:=(yG w op rd rs1 rs2 imm).kept b1;have c0:=M.c 0 _ rfl;have c4:=M.c 4 _ rfl
  go_wp2_with fail
  refine(cim _).mono ?_;rintro e w2 ⟨rfl,rfl⟩
  go_wp2_with fail
  refine(cdo' _).mono ?_;rintro e w2 ⟨rfl,rfl⟩
  go_wp2_with fail
  go_ret
  exact⟨rfl,(cJ _).and b1⟩
 |false=>
  rw[him,if_neg (by decide)]at hv;rw[him]at cim;have cdo':=cdo b hb;rw[<-hv]at cdo';clear cdo hv him
  go_enter Tryz.func145,Tryz.ntmps145
  go_wp2_with fail
  refine(ck _).mono ?_;rintro e w1 ⟨rfl,b1⟩;have M:=(yG w op rd rs1 rs2 imm).kept b1;have c0:=M.c 0 _ rfl
  go_wp2_with fail
  refine(cim _).mono ?_;rintro e w2 ⟨rfl,rfl⟩
  go_wp2_with fail
  refine(cdo' _).mono ?_;rintro e w2 ⟨rfl,rfl⟩
  go_wp2_with fail
  go_ret
  exact⟨rfl,(cJ _).and b1⟩
end Go.Proofs.YtgleompefdogkaaGreatDoor
