/- Joined texts. -/
import Derived.Test.YtgleompefdogkaaGreatDoorS1
import Derived.Test.YtgleompefdogkaaGreatDoorS7
set_option linter.unusedVariables false
set_option linter.unusedSimpArgs false
set_option linter.defProp false
namespace Go.Proofs.YtgleompefdogkaaGreatDoor
open Go.RowKit
def Bz(x a s v j:Nat):(setf x a s v).testBit j=if j<a then x.testBit j else if j-a<s then v.testBit (j-a)else x.testBit j:=by
 unfold setf;rw[Nat.testBit_two_pow_mul_add _ (bE _ (eH _))];by_cases h1:j<a
 ·rw[if_pos h1,if_pos h1,dO];simp[h1]
 ·rw[if_neg h1,if_neg h1,Nat.testBit_two_pow_mul_add _ (bE _ (eH _))];by_cases h2:j-a<s
  ·rw[if_pos h2,if_pos h2,dO];simp[h2]
  ·rw[if_neg h2,if_neg h2,Nat.testBit_div_two_pow];congr 1;omega
def zH(x a s j:Nat):(field x a s).testBit j=(decide (j<s)&&x.testBit (j+a)):=by
 unfold field;rw[dO,Nat.testBit_div_two_pow,iD]
def Yt(x n:Nat):x.testBit n=decide (x/2 ^ n%2=1):=by
 rw[Nat.testBit_eq_decide_div_mod_eq]
def ET(x s j:Nat)(h1:1<=s)(h2:s<=32):(sext x s).testBit j=if j<s then x.testBit j else(decide (j<32)&&x.testBit (s-1)):=by
 unfold sext;have hp:=xA h2;have hb:=Yt x (s-1);have hsplit:4294967296-2 ^ s=2 ^ s*(2 ^ (32-s)-1):=by
  rw[Nat.mul_sub,iT, <-Nat.pow_add,show s+(32-s)=32 by omega]
 by_cases hb1:x/2 ^ (s-1)%2=1
 ·rw[if_pos hb1,hb,hsplit,iD,Nat.testBit_two_pow_mul_add _ (bE _ (eH _)),dO,fP];by_cases h3:j<s
  ·simp[h3]
  ·rw[if_neg h3,if_neg h3];by_cases h4:j<32
   ·have:j-s<32-s:=by omega
    simp[this,h4,hb1]
   ·have: ¬j-s<32-s:=by omega
    simp[this,h4]
 ·rw[if_neg hb1,hb,dO];by_cases h3:j<s
  ·simp[h3]
  ·simp[h3,hb1]
def GC(v low j:Nat):(v/2 ^ low).testBit j=v.testBit (j+low):=by
 rw[Nat.testBit_div_two_pow,iD]
def xC(i:SI):Nat:=
 let f:=cS i.op
 let w0:=code i.op.toNat ||| (lJ (i.imm/2 ^ nV f) (eB f)).1
 let w1:=if uS f then setf w0 7 5 (i.rd%4294967296).toNat else w0
 let w2:=if pI f then setf w1 15 5 (i.rs1%4294967296).toNat else w1
 if qK f then setf w2 20 5 (i.rs2%4294967296).toNat else w2
def Wf(n:Nat)(h:n<32):((n:Int)%4294967296).toNat=n:=by omega
def abG{a b:Nat}(ha:a<4294967296)(hb:b<4294967296)(h:∀j,j<32->a.testBit j=b.testBit j):a=b:=by
 apply Nat.eq_of_testBit_eq;intro j;by_cases hj:j<32
 ·exact h j hj
 ·have h32:4294967296<=2 ^ j:=aN (by decide:4294967296<=2 ^ 32) (eQ (by omega) (by omega));rw[Nat.testBit_lt_two_pow (Nat.lt_of_lt_of_le ha h32),Nat.testBit_lt_two_pow (Nat.lt_of_lt_of_le hb h32)]
def JL{P:Nat->Prop}(h:P 0∧P 1∧P 2∧P 3∧P 4∧P 5∧P 6∧P 7∧P 8∧P 9∧P 10∧P 11∧P 12∧P 13∧P 14∧P 15∧P 16∧P 17∧P 18∧P 19∧P 20∧P 21∧P 22∧P 23∧P 24∧P 25∧P 26∧P 27∧P 28∧P 29∧P 30∧P 31):∀j,j<32->P j:=by
 obtain⟨h0,h1,h2,h3,h4,h5,h6,h7,h8,h9,h10,h11,h12,h13,h14,h15,h16,h17,h18,h19,h20,h21,h22,h23,h24,h25,h26,h27,h28,h29,h30,h31⟩:=h;intro j hj;have hc:j=0∨j=1∨j=2∨j=3∨j=4∨j=5∨j=6∨j=7∨j=8∨j=9∨j=10∨j=11∨j=12∨j=13∨j=14∨j=15∨j=16∨j=17∨j=18∨j=19∨j=20∨j=21∨j=22∨j=23∨j=24∨j=25∨j=26∨j=27∨j=28∨j=29∨j=30∨j=31:=by omega
 rcases hc with rfl|rfl|rfl|rfl|rfl|rfl|rfl|rfl|rfl|rfl|rfl|rfl|rfl|rfl|rfl|rfl|rfl|rfl|rfl|rfl|rfl|rfl|rfl|rfl|rfl|rfl|rfl|rfl|rfl|rfl|rfl|rfl
 ·exact h0
 ·exact h1
 ·exact h2
 ·exact h3
 ·exact h4
 ·exact h5
 ·exact h6
 ·exact h7
 ·exact h8
 ·exact h9
 ·exact h10
 ·exact h11
 ·exact h12
 ·exact h13
 ·exact h14
 ·exact h15
 ·exact h16
 ·exact h17
 ·exact h18
 ·exact h19
 ·exact h20
 ·exact h21
 ·exact h22
 ·exact h23
 ·exact h24
 ·exact h25
 ·exact h26
 ·exact h27
 ·exact h28
 ·exact h29
 ·exact h30
 ·exact h31
def Lo(x a:Nat):(((field x a 5:Nat):Int)%4294967296).toNat=field x a 5:=Wf _ (wZ x a 5)
def GD(v j:Nat):(v%4294967296).testBit j=(decide (j<32)&&v.testBit j):=by
 rw[show(4294967296:Nat)=2 ^ 32 by decide,dO]
def ZM:∀j,j<32->Nat.testBit 4261441663 j=(decide (j<7)||(decide (12<=j)&&decide (j<15))||decide (25<=j)):=by decide
def abH(x k:Nat)(hf:cS k=1):xC (lQ k x)=(setf (setf (setf (code k ||| 0) 7 5 (field x 7 5)) 15 5 (field x 15 5)) 20 5 (field x 20 5)):=by
 simp only[xC,lQ,hf,Br,uS,pI,qK,nV,eB,lJ,List.foldl,Lo,Int.toNat_natCast,Nat.reduceBEq,Bool.or_false, ↓reduceIte,Nat.reduceEqDiff,true_or]
set_option maxRecDepth 100000 in
set_option maxHeartbeats 4000000 in
theorem ZN(x k:Nat)(hf:cS k=1)(hm:x&&&4261441663=code k):∀j,j<32->(xC (lQ k x)).testBit j=x.testBit j:=by
 have hc:∀j,j<32->(code k).testBit j=(x.testBit j&&(decide (j<7)||(decide (12<=j)&&decide (j<15))||decide (25<=j))):=λj hj=>by rw[<-hm,Nat.testBit_and,ZM j hj]
 rw[abH x k hf];refine JL ?_;simp only[Nat.testBit_or,Bz,zH,hc,Nat.zero_testBit,Nat.reduceLT,Nat.reduceLeDiff,Nat.reduceSub,Nat.reduceAdd, ↓reduceIte,decide_true,decide_false,eF,Bool.and_true,Bool.and_false,Bool.or_false,Bool.or_true,Bool.or_self,and_self,dU,aC]
def ZO:∀j,j<32->Nat.testBit 28799 j=(decide (j<7)||(decide (12<=j)&&decide (j<15))):=by decide
def abI(x k:Nat)(hf:cS k=2):xC (lQ k x)=(setf (setf (code k ||| (setf 0 20 12 ((sext ((setf 0 0 12 (field x 20 12))*2 ^ 0%4294967296) 12)/2 ^ 0))) 7 5 (field x 7 5)) 15 5 (field x 15 5)):=by
 simp only[xC,lQ,hf,Br,uS,pI,qK,nV,eB,uR,nU,wB,lJ,Bu,List.foldl,Lo,Int.toNat_natCast,List.map,List.sum_cons,List.sum_nil,Nat.reduceAdd,Nat.reduceBEq,Bool.or_false,Bool.or_true, ↓reduceIte,Nat.reduceEqDiff,or_self,bZ]
set_option maxRecDepth 100000 in
set_option maxHeartbeats 4000000 in
theorem ZP(x k:Nat)(hf:cS k=2)(hm:x&&&28799=code k):∀j,j<32->(xC (lQ k x)).testBit j=x.testBit j:=by
 have hc:∀j,j<32->(code k).testBit j=(x.testBit j&&(decide (j<7)||(decide (12<=j)&&decide (j<15)))):=λj hj=>by rw[<-hm,Nat.testBit_and,ZO j hj]
 rw[abI x k hf];refine JL ?_;simp only[Nat.testBit_or,Bz,zH,dN,GC,GD,hc,Nat.zero_testBit,ET,Nat.reduceLT,Nat.reduceLeDiff,Nat.reduceSub,Nat.reduceAdd, ↓reduceIte,decide_true,decide_false,eF,Bool.and_true,Bool.and_false,Bool.or_false,eG,Bool.or_true,Bool.or_self,and_self,dU,aC]
def ZQ:∀j,j<32->Nat.testBit 4261441663 j=(decide (j<7)||(decide (12<=j)&&decide (j<15))||decide (25<=j)):=by decide
def abJ(x k:Nat)(hf:cS k=3):xC (lQ k x)=(setf (setf (code k ||| (setf 0 20 5 (((setf 0 0 5 (field x 20 5))*2 ^ 0%4294967296)/2 ^ 0))) 7 5 (field x 7 5)) 15 5 (field x 15 5)):=by
 simp only[xC,lQ,hf,Br,uS,pI,qK,nV,eB,nU,wB,lJ,Bu,List.foldl,Lo,Int.toNat_natCast,Nat.reduceAdd,Nat.reduceBEq,Bool.or_false,Bool.or_true, ↓reduceIte,bZ]
set_option maxRecDepth 100000 in
set_option maxHeartbeats 4000000 in
theorem ZR(x k:Nat)(hf:cS k=3)(hm:x&&&4261441663=code k):∀j,j<32->(xC (lQ k x)).testBit j=x.testBit j:=by
 have hc:∀j,j<32->(code k).testBit j=(x.testBit j&&(decide (j<7)||(decide (12<=j)&&decide (j<15))||decide (25<=j))):=λj hj=>by rw[<-hm,Nat.testBit_and,ZQ j hj]
 rw[abJ x k hf];refine JL ?_;simp only[Nat.testBit_or,Bz,zH,dN,GC,GD,hc,Nat.zero_testBit,Nat.reduceLT,Nat.reduceLeDiff,Nat.reduceSub,Nat.reduceAdd, ↓reduceIte,decide_true,decide_false,eF,Bool.and_true,Bool.and_false,Bool.or_false,eG,Bool.or_true,Bool.or_self,and_self,dU,aC]
def ZS:∀j,j<32->Nat.testBit 28799 j=(decide (j<7)||(decide (12<=j)&&decide (j<15))):=by decide
def abK(x k:Nat)(hf:cS k=4):xC (lQ k x)=(setf (setf (code k ||| (setf (setf 0 7 5 ((sext ((setf (setf 0 0 5 (field x 7 5)) 5 7 (field x 25 7))*2 ^ 0%4294967296) 12)/2 ^ 0)) 25 7 (((sext ((setf (setf 0 0 5 (field x 7 5)) 5 7 (field x 25 7))*2 ^ 0%4294967296) 12)/2 ^ 0)/2 ^ 5))) 15 5 (field x 15 5)) 20 5 (field x 20 5)):=by
 simp only[xC,lQ,hf,Br,uS,pI,qK,nV,eB,uR,nU,wB,lJ,Bu,List.foldl,Lo,Int.toNat_natCast,List.map,List.sum_cons,List.sum_nil,Nat.reduceAdd,Nat.reduceBEq,Bool.or_false,Bool.or_true, ↓reduceIte,Nat.reduceEqDiff,or_self,bZ]
set_option maxRecDepth 100000 in
set_option maxHeartbeats 4000000 in
theorem ZT(x k:Nat)(hf:cS k=4)(hm:x&&&28799=code k):∀j,j<32->(xC (lQ k x)).testBit j=x.testBit j:=by
 have hc:∀j,j<32->(code k).testBit j=(x.testBit j&&(decide (j<7)||(decide (12<=j)&&decide (j<15)))):=λj hj=>by rw[<-hm,Nat.testBit_and,ZS j hj]
 rw[abK x k hf];refine JL ?_;simp only[Nat.testBit_or,Bz,zH,dN,GC,GD,hc,Nat.zero_testBit,ET,Nat.reduceLT,Nat.reduceLeDiff,Nat.reduceSub,Nat.reduceAdd, ↓reduceIte,decide_true,decide_false,eF,Bool.and_true,Bool.and_false,Bool.or_false,eG,Bool.or_true,Bool.or_self,and_self,dU,aC]
def ZU:∀j,j<32->Nat.testBit 28799 j=(decide (j<7)||(decide (12<=j)&&decide (j<15))):=by decide
def abL(x k:Nat)(hf:cS k=5):xC (lQ k x)=(setf (setf (code k ||| (setf (setf (setf (setf 0 8 4 ((sext ((setf (setf (setf (setf 0 0 4 (field x 8 4)) 4 6 (field x 25 6)) 10 1 (field x 7 1)) 11 1 (field x 31 1))*2 ^ 1%4294967296) 13)/2 ^ 1)) 25 6 (((sext ((setf (setf (setf (setf 0 0 4 (field x 8 4)) 4 6 (field x 25 6)) 10 1 (field x 7 1)) 11 1 (field x 31 1))*2 ^ 1%4294967296) 13)/2 ^ 1)/2 ^ 4)) 7 1 ((((sext ((setf (setf (setf (setf 0 0 4 (field x 8 4)) 4 6 (field x 25 6)) 10 1 (field x 7 1)) 11 1 (field x 31 1))*2 ^ 1%4294967296) 13)/2 ^ 1)/2 ^ 4)/2 ^ 6)) 31 1 (((((sext ((setf (setf (setf (setf 0 0 4 (field x 8 4)) 4 6 (field x 25 6)) 10 1 (field x 7 1)) 11 1 (field x 31 1))*2 ^ 1%4294967296) 13)/2 ^ 1)/2 ^ 4)/2 ^ 6)/2 ^ 1))) 15 5 (field x 15 5)) 20 5 (field x 20 5)):=by
 simp only[xC,lQ,hf,Br,uS,pI,qK,nV,eB,uR,nU,wB,lJ,Bu,List.foldl,Lo,Int.toNat_natCast,List.map,List.sum_cons,List.sum_nil,Nat.reduceAdd,Nat.reduceBEq,Bool.or_false,Bool.or_true, ↓reduceIte,Nat.reduceEqDiff,or_self,bZ]
set_option maxRecDepth 100000 in
set_option maxHeartbeats 4000000 in
theorem ZV(x k:Nat)(hf:cS k=5)(hm:x&&&28799=code k):∀j,j<32->(xC (lQ k x)).testBit j=x.testBit j:=by
 have hc:∀j,j<32->(code k).testBit j=(x.testBit j&&(decide (j<7)||(decide (12<=j)&&decide (j<15)))):=λj hj=>by rw[<-hm,Nat.testBit_and,ZU j hj]
 rw[abL x k hf];refine JL ?_;simp only[Nat.testBit_or,Bz,zH,dN,GC,GD,hc,Nat.zero_testBit,ET,Nat.reduceLT,Nat.reduceLeDiff,Nat.reduceSub,Nat.reduceAdd, ↓reduceIte,decide_true,decide_false,eF,Bool.and_true,Bool.and_false,Bool.or_false,eG,Bool.or_true,Bool.or_self,and_self,dU,aC]
def ZW:∀j,j<32->Nat.testBit 127 j=(decide (j<7)):=by decide
def abM(x k:Nat)(hf:cS k=6):xC (lQ k x)=(setf (code k ||| (setf 0 12 20 ((sext ((setf 0 0 20 (field x 12 20))*2 ^ 12%4294967296) 32)/2 ^ 12))) 7 5 (field x 7 5)):=by
 simp only[xC,lQ,hf,Br,uS,pI,qK,nV,eB,uR,nU,wB,lJ,Bu,List.foldl,Lo,Int.toNat_natCast,List.map,List.sum_cons,List.sum_nil,Nat.reduceAdd,Nat.reduceBEq,Bool.or_false,Bool.or_true, ↓reduceIte,Nat.reduceEqDiff,or_self,bZ]
set_option maxRecDepth 100000 in
set_option maxHeartbeats 4000000 in
theorem ZX(x k:Nat)(hf:cS k=6)(hm:x&&&127=code k):∀j,j<32->(xC (lQ k x)).testBit j=x.testBit j:=by
 have hc:∀j,j<32->(code k).testBit j=(x.testBit j&&(decide (j<7))):=λj hj=>by rw[<-hm,Nat.testBit_and,ZW j hj]
 rw[abM x k hf];refine JL ?_;simp only[Nat.testBit_or,Bz,zH,dN,GC,GD,hc,Nat.zero_testBit,ET,Nat.reduceLT,Nat.reduceLeDiff,Nat.reduceSub,Nat.reduceAdd, ↓reduceIte,decide_true,decide_false,eF,Bool.and_true,Bool.and_false,Bool.or_false,eG,and_self,dU,aC]
def ZY:∀j,j<32->Nat.testBit 127 j=(decide (j<7)):=by decide
def abN(x k:Nat)(hf:cS k=7):xC (lQ k x)=(setf (code k ||| (setf (setf (setf (setf 0 21 10 ((sext ((setf (setf (setf (setf 0 0 10 (field x 21 10)) 10 1 (field x 20 1)) 11 8 (field x 12 8)) 19 1 (field x 31 1))*2 ^ 1%4294967296) 21)/2 ^ 1)) 20 1 (((sext ((setf (setf (setf (setf 0 0 10 (field x 21 10)) 10 1 (field x 20 1)) 11 8 (field x 12 8)) 19 1 (field x 31 1))*2 ^ 1%4294967296) 21)/2 ^ 1)/2 ^ 10)) 12 8 ((((sext ((setf (setf (setf (setf 0 0 10 (field x 21 10)) 10 1 (field x 20 1)) 11 8 (field x 12 8)) 19 1 (field x 31 1))*2 ^ 1%4294967296) 21)/2 ^ 1)/2 ^ 10)/2 ^ 1)) 31 1 (((((sext ((setf (setf (setf (setf 0 0 10 (field x 21 10)) 10 1 (field x 20 1)) 11 8 (field x 12 8)) 19 1 (field x 31 1))*2 ^ 1%4294967296) 21)/2 ^ 1)/2 ^ 10)/2 ^ 1)/2 ^ 8))) 7 5 (field x 7 5)):=by
 simp only[xC,lQ,hf,Br,uS,pI,qK,nV,eB,uR,nU,wB,lJ,Bu,List.foldl,Lo,Int.toNat_natCast,List.map,List.sum_cons,List.sum_nil,Nat.reduceAdd,Nat.reduceBEq,Bool.or_false,Bool.or_true, ↓reduceIte,Nat.reduceEqDiff,or_self,bZ]
set_option maxRecDepth 100000 in
set_option maxHeartbeats 4000000 in
theorem ZZ(x k:Nat)(hf:cS k=7)(hm:x&&&127=code k):∀j,j<32->(xC (lQ k x)).testBit j=x.testBit j:=by
 have hc:∀j,j<32->(code k).testBit j=(x.testBit j&&(decide (j<7))):=λj hj=>by rw[<-hm,Nat.testBit_and,ZY j hj]
 rw[abN x k hf];refine JL ?_;simp only[Nat.testBit_or,Bz,zH,dN,GC,GD,hc,Nat.zero_testBit,ET,Nat.reduceLT,Nat.reduceLeDiff,Nat.reduceSub,Nat.reduceAdd, ↓reduceIte,decide_true,decide_false,eF,Bool.and_true,Bool.and_false,Bool.or_false,eG,and_self,dU,aC]
def aaA:∀j,j<32->Nat.testBit 4294967295 j=(true):=by decide
def abO(x k:Nat)(hf:cS k=8):xC (lQ k x)=(code k ||| 0):=by
 simp only[xC,lQ,hf,Br,uS,pI,qK,nV,eB,lJ,List.foldl,Int.toNat_natCast,Nat.reduceBEq,Bool.or_false, ↓reduceIte,Nat.reduceEqDiff,or_true,bZ]
set_option maxRecDepth 100000 in
set_option maxHeartbeats 4000000 in
theorem aaB(x k:Nat)(hf:cS k=8)(hm:x&&&4294967295=code k):∀j,j<32->(xC (lQ k x)).testBit j=x.testBit j:=by
 have hc:∀j,j<32->(code k).testBit j=(x.testBit j&&(true)):=λj hj=>by rw[<-hm,Nat.testBit_and,aaA j hj]
 rw[abO x k hf];refine JL ?_;simp only[Nat.testBit_or,hc,Nat.zero_testBit,Nat.reduceLT,Bool.and_true,Bool.or_false,and_self]
def CN(v:Nat)(f:Nat)(hv:v<4294967296):(lJ v (eB f)).1<4294967296:=
 (Bv (eB f) (0,v) (by show 0<4294967296;omega) hv (vH f).1).1
def Lp(i:SI)(hi:i.imm<4294967296):xC i<4294967296:=by
 unfold xC;have h0:code i.op.toNat ||| (lJ (i.imm/2 ^ nV (cS i.op)) (eB (cS i.op))).1<4294967296:=
  mU (n:=32) (Ih _) (CN _ _ (bM (fJ _ _) hi))
 have hs:∀w a v,w<4294967296->a+5<=32->setf w a 5 v<4294967296:=λw a v hw ha=>EP w a 5 v ha hw;dsimp only
 repeat' (first|assumption|refine hs _ _ _ ?_ (by omega)|split)
def EU(f x:Nat)(hf:f<=8):Br f x<4294967296:=by
 have hc:f=0∨f=1∨f=2∨f=3∨f=4∨f=5∨f=6∨f=7∨f=8:=by omega
 unfold Br;split
 ·exact bE _ (by omega)
 ·split
  ·omega
  ·refine Lk _ _ ?_;rcases hc with rfl|rfl|rfl|rfl|rfl|rfl|rfl|rfl|rfl<;>decide
def GE(op:Int)(hop:1<=op∧op<=48):1<=cS op:=by
 unfold cS
 repeat' (split<;>try omega)
def Tn(x k:Nat)(hk:1<=k∧k<=48)(hm:NQ x k=true)(hx:x<4294967296):xC (lQ k x)=x:=by
 have hm':x&&&xL (cS k)=code k:=by unfold NQ at hm;exact pY.1 hm
 refine abG (Lp _ (EU _ _ (uM _))) hx ?_;have h1:=uM (k:Int);have h2:=GE (k:Int) ⟨by omega,by omega⟩;have hc:cS k=1∨cS k=2∨cS k=3∨cS k=4∨cS k=5∨cS k=6∨cS k=7∨cS k=8:=by omega
 rcases hc with h|h|h|h|h|h|h|h<;>rw[h]at hm'
 ·exact ZN x k h hm'
 ·exact ZP x k h hm'
 ·exact ZR x k h hm'
 ·exact ZT x k h hm'
 ·exact ZV x k h hm'
 ·exact ZX x k h hm'
 ·exact ZZ x k h hm'
 ·exact aaB x k h hm'
def JM(x:Nat)(h:EM x≠0):1<=EM x∧EM x<=48∧NQ x (EM x)=true:=by
 rcases opFrom_le x 48 1 with h'|⟨h1,h2,h3, -⟩
 ·exact absurd h' h
 ·exact⟨h1,by unfold EM;omega,h3⟩
def Wg(x:Nat)(h:EM x≠0)(hx:x<4294967296):xC (kJ x)=x:=by
 obtain⟨h1,h2,h3⟩:=JM x h;unfold kJ;rw[if_neg h];exact Tn x _ ⟨h1,h2⟩ h3 hx
end Go.Proofs.YtgleompefdogkaaGreatDoor
