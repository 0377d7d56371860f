/- Lemmas. -/
import Derived.Test.YtlpkggpdjobpmaaGreatDoorS1
import Derived.Test.YtlpkggpdjobpmaaGreatDoorS7
set_option linter.all false
namespace Go.Proofs.YtlpkggpdjobpmaaGreatDoor
open Go.RowKit
def aoQ(x a s v j):(setf x a s v).testBit j=if j<a then x.testBit j else if j-a<s then v.testBit (j-a)else x.testBit j:=by
 unfold setf;rw[Nat.testBit_two_pow_mul_add _ (aQ _ (eI _))];by_cases h1:j<a
 ·rw[af1 h1,af1 h1,eB];simp[h1]
 rw[dZ h1,dZ h1,Nat.testBit_two_pow_mul_add _ (aQ _ (eI _))];by_cases h2:j-a<s
 ·rw[af1 h2,af1 h2,eB];simp[h2]
 rw[dZ h2,dZ h2,Nat.testBit_div_two_pow];congr 1;omega
def UG(x a s j):(field x a s).testBit j=(decide (j<s)&&x.testBit (j+a)):=by
 unfold field;rw[eB,Nat.testBit_div_two_pow,gJ]
def KB(x n):x.testBit n=decide (x/2 ^ n%2=1):=by
 rw[Nat.testBit_eq_decide_div_mod_eq]
def XF(x s j)(h1:1<=s)(h2:s<=32):(sext x s).testBit j=if j<s then x.testBit j else(decide (j<32)&&x.testBit (s-1)):=by
 unfold sext;have hp:=wV h2;have hb:=KB x (s-1);have hsplit:4294967296-2 ^ s=2 ^ s*(2 ^ (32-s)-1):=by
  rw[Nat.mul_sub,iD, <-Nat.pow_add,(oT:s+(32-s)=32)]
 by_cases hb1:x/2 ^ (s-1)%2=1
 ·rw[af1 hb1,hb,hsplit,gJ,Nat.testBit_two_pow_mul_add _ (aQ _ (eI _)),eB,dX];by_cases h3:j<s
  ·simp[h3]
  rw[dZ h3,dZ h3];by_cases h4:j<32
  ·have:j-s<32-s:=oT;simp[this,h4,hb1]
  have: ¬j-s<32-s:=oT;simp[this,h4]
 rw[dZ hb1,hb,eB];by_cases h3:j<s
 ·simp[h3]
 simp[h3,hb1]
def ahL(v low j):(v/2 ^ low).testBit j=v.testBit (j+low):=by
 rw[Nat.testBit_div_two_pow,gJ]
def Jw(i:SI):Nat:=
 let f:=cW i.op
 let w0:=code i.op.toNat ||| (tT (i.agR/2 ^ qN f) (eQ f)).1
 let w1:=if yW f then setf w0 7 5 (i.rd%4294967296).toNat else w0
 let w2:=if uS f then setf w1 15 5 (i.ag0%4294967296).toNat else w1
 if vS f then setf w2 20 5 (i.ag1%4294967296).toNat else w2
def al9(n:Nat)(h:n<32):((n:Int)%4294967296).toNat=n:=oT
def aeN{a b}(ha:a<4294967296)(hb:b<4294967296)(h:∀j,j<32->a.testBit j=b.testBit j):a=b:=by
 apply Nat.eq_of_testBit_eq;intro j;by_cases hj:j<32
 ·exact h j hj
 have h32:4294967296<=2 ^ j:=aL (by decide:4294967296<=2 ^ 32) (bU oT oT);rw[Nat.testBit_lt_two_pow (af3 ha h32),Nat.testBit_lt_two_pow (af3 hb h32)]
def ah7{P:Nat->Prop}(h:P 0∧P 1∧P 2∧P 3∧P 4∧P 5∧P 6∧P 7∧P 8∧P 9∧P 10∧P 11∧P 12∧P 13∧P 14∧P 15∧P 16∧P 17∧P 18∧P 19∧P 20∧P 21∧P 22∧P 23∧P 24∧P 25∧P 26∧P 27∧P 28∧P 29∧P 30∧P 31):∀j,j<32->P j:=by
 obtain⟨h0,h1,h2,h3,h4,h5,h6,h7,h8,h9,h10,h11,h12,h13,h14,h15,h16,h17,h18,h19,h20,h21,h22,h23,h24,h25,h26,h27,h28,h29,h30,h31⟩:=h;intro j hj;have hc:j=0∨j=1∨j=2∨j=3∨j=4∨j=5∨j=6∨j=7∨j=8∨j=9∨j=10∨j=11∨j=12∨j=13∨j=14∨j=15∨j=16∨j=17∨j=18∨j=19∨j=20∨j=21∨j=22∨j=23∨j=24∨j=25∨j=26∨j=27∨j=28∨j=29∨j=30∨j=31:=oT;rcases hc with rfl|rfl|rfl|rfl|rfl|rfl|rfl|rfl|rfl|rfl|rfl|rfl|rfl|rfl|rfl|rfl|rfl|rfl|rfl|rfl|rfl|rfl|rfl|rfl|rfl|rfl|rfl|rfl|rfl|rfl|rfl|rfl
 ·exact h0
 ·exact h1
 ·exact h2
 ·exact h3
 ·exact h4
 ·exact h5
 ·exact h6
 ·exact h7
 ·exact h8
 ·exact h9
 ·exact h10
 ·exact h11
 ·exact h12
 ·exact h13
 ·exact h14
 ·exact h15
 ·exact h16
 ·exact h17
 ·exact h18
 ·exact h19
 ·exact h20
 ·exact h21
 ·exact h22
 ·exact h23
 ·exact h24
 ·exact h25
 ·exact h26
 ·exact h27
 ·exact h28
 ·exact h29
 ·exact h30
 exact h31
def aiP(x a:Nat):(((field x a 5:Nat):Int)%4294967296).toNat=field x a 5:=al9 _ (iR x a 5)
def ahM(v j):(v%4294967296).testBit j=(decide (j<32)&&v.testBit j):=by
 rw[(dT:(4294967296:Nat)=2 ^ 32),eB]
def anD:∀j,j<32->Nat.testBit 4261441663 j=(decide (j<7)||(decide (12<=j)&&decide (j<15))||decide (25<=j)):=dT
def anX(x k:Nat)(hf:cW k=1):Jw (xW k x)=(setf (setf (setf (code k ||| 0) 7 5 (field x 7 5)) 15 5 (field x 15 5)) 20 5 (field x 20 5)):=by
 simp only[Jw,xW,hf,EG,yW,uS,vS,qN,eQ,tT,List.foldl,aiP,Int.toNat_natCast,Nat.reduceBEq,Bool.or_false, ↓reduceIte,Nat.reduceEqDiff,true_or]
set_option maxRecDepth 100000 in
set_option maxHeartbeats 4000000 in
theorem anE(x k:Nat)(hf:cW k=1)(hm:x&&&4261441663=code k):∀j,j<32->(Jw (xW k x)).testBit j=x.testBit j:=by
 have hc:∀j,j<32->(code k).testBit j=(x.testBit j&&(decide _||(decide _&&decide _)||decide _)):=λj hj=>by rw[<-hm,Nat.testBit_and,anD j hj]
 rw[anX x k hf];refine ah7 ?_;simp only[Nat.testBit_or,aoQ,UG,hc,Nat.zero_testBit,Nat.reduceLT,Nat.reduceLeDiff,Nat.reduceSub,Nat.reduceAdd, ↓reduceIte,decide_true,decide_false,kL,Bool.and_true,Bool.and_false,Bool.or_false,Bool.or_true,Bool.or_self,and_self,iI,aC]
def anF:∀j,j<32->Nat.testBit 28799 j=(decide (j<7)||(decide (12<=j)&&decide (j<15))):=dT
def anY(x k:Nat)(hf:cW k=2):Jw (xW k x)=(setf (setf (code k ||| (setf 0 20 12 ((sext ((setf 0 0 12 (field x 20 12))*2 ^ 0%4294967296) 12)/2 ^ 0))) 7 5 (field x 7 5)) 15 5 (field x 15 5)):=by
 simp only[Jw,xW,hf,EG,yW,uS,vS,qN,eQ,xH,rZ,Ag,tT,Ib,List.foldl,aiP,Int.toNat_natCast,List.map,List.sum_cons,List.sum_nil,Nat.reduceAdd,Nat.reduceBEq,Bool.or_false,Bool.or_true, ↓reduceIte,Nat.reduceEqDiff,or_self,cS]
set_option maxRecDepth 100000 in
set_option maxHeartbeats 4000000 in
theorem anG(x k:Nat)(hf:cW k=2)(hm:x&&&28799=code k):∀j,j<32->(Jw (xW k x)).testBit j=x.testBit j:=by
 have hc:∀j,j<32->(code k).testBit j=(x.testBit j&&(decide _||(decide _&&decide _))):=λj hj=>by rw[<-hm,Nat.testBit_and,anF j hj]
 rw[anY x k hf];refine ah7 ?_;simp only[Nat.testBit_or,aoQ,UG,fK,ahL,ahM,hc,Nat.zero_testBit,XF,Nat.reduceLT,Nat.reduceLeDiff,Nat.reduceSub,Nat.reduceAdd, ↓reduceIte,decide_true,decide_false,kL,Bool.and_true,Bool.and_false,Bool.or_false,jD,Bool.or_true,Bool.or_self,and_self,iI,aC]
def anH:∀j,j<32->Nat.testBit 4261441663 j=(decide (j<7)||(decide (12<=j)&&decide (j<15))||decide (25<=j)):=dT
def anZ(x k:Nat)(hf:cW k=3):Jw (xW k x)=(setf (setf (code k ||| (setf 0 20 5 (((setf 0 0 5 (field x 20 5))*2 ^ 0%4294967296)/2 ^ 0))) 7 5 (field x 7 5)) 15 5 (field x 15 5)):=by
 simp only[Jw,xW,hf,EG,yW,uS,vS,qN,eQ,rZ,Ag,tT,Ib,List.foldl,aiP,Int.toNat_natCast,Nat.reduceAdd,Nat.reduceBEq,Bool.or_false,Bool.or_true, ↓reduceIte,cS]
set_option maxRecDepth 100000 in
set_option maxHeartbeats 4000000 in
theorem anI(x k:Nat)(hf:cW k=3)(hm:x&&&4261441663=code k):∀j,j<32->(Jw (xW k x)).testBit j=x.testBit j:=by
 have hc:∀j,j<32->(code k).testBit j=(x.testBit j&&(decide _||(decide _&&decide _)||decide _)):=λj hj=>by rw[<-hm,Nat.testBit_and,anH j hj]
 rw[anZ x k hf];refine ah7 ?_;simp only[Nat.testBit_or,aoQ,UG,fK,ahL,ahM,hc,Nat.zero_testBit,Nat.reduceLT,Nat.reduceLeDiff,Nat.reduceSub,Nat.reduceAdd, ↓reduceIte,decide_true,decide_false,kL,Bool.and_true,Bool.and_false,Bool.or_false,jD,Bool.or_true,Bool.or_self,and_self,iI,aC]
def anJ:∀j,j<32->Nat.testBit 28799 j=(decide (j<7)||(decide (12<=j)&&decide (j<15))):=dT
def an0(x k:Nat)(hf:cW k=4):Jw (xW k x)=(setf (setf (code k ||| (setf (setf 0 7 5 ((sext ((setf (setf 0 0 5 (field x 7 5)) 5 7 (field x 25 7))*2 ^ 0%4294967296) 12)/2 ^ 0)) 25 7 (((sext ((setf (setf 0 0 5 (field x 7 5)) 5 7 (field x 25 7))*2 ^ 0%4294967296) 12)/2 ^ 0)/2 ^ 5))) 15 5 (field x 15 5)) 20 5 (field x 20 5)):=by
 simp only[Jw,xW,hf,EG,yW,uS,vS,qN,eQ,xH,rZ,Ag,tT,Ib,List.foldl,aiP,Int.toNat_natCast,List.map,List.sum_cons,List.sum_nil,Nat.reduceAdd,Nat.reduceBEq,Bool.or_false,Bool.or_true, ↓reduceIte,Nat.reduceEqDiff,or_self,cS]
set_option maxRecDepth 100000 in
set_option maxHeartbeats 4000000 in
theorem anK(x k:Nat)(hf:cW k=4)(hm:x&&&28799=code k):∀j,j<32->(Jw (xW k x)).testBit j=x.testBit j:=by
 have hc:∀j,j<32->(code k).testBit j=(x.testBit j&&(decide _||(decide _&&decide _))):=λj hj=>by rw[<-hm,Nat.testBit_and,anJ j hj]
 rw[an0 x k hf];refine ah7 ?_;simp only[Nat.testBit_or,aoQ,UG,fK,ahL,ahM,hc,Nat.zero_testBit,XF,Nat.reduceLT,Nat.reduceLeDiff,Nat.reduceSub,Nat.reduceAdd, ↓reduceIte,decide_true,decide_false,kL,Bool.and_true,Bool.and_false,Bool.or_false,jD,Bool.or_true,Bool.or_self,and_self,iI,aC]
def anL:∀j,j<32->Nat.testBit 28799 j=(decide (j<7)||(decide (12<=j)&&decide (j<15))):=dT
def an1(x k:Nat)(hf:cW k=5):Jw (xW k x)=(setf (setf (code k ||| (setf (setf (setf (setf 0 8 4 ((sext ((setf (setf (setf (setf 0 0 4 (field x 8 4)) 4 6 (field x 25 6)) 10 1 (field x 7 1)) 11 1 (field x 31 1))*2 ^ 1%4294967296) 13)/2 ^ 1)) 25 6 (((sext ((setf (setf (setf (setf 0 0 4 (field x 8 4)) 4 6 (field x 25 6)) 10 1 (field x 7 1)) 11 1 (field x 31 1))*2 ^ 1%4294967296) 13)/2 ^ 1)/2 ^ 4)) 7 1 ((((sext ((setf (setf (setf (setf 0 0 4 (field x 8 4)) 4 6 (field x 25 6)) 10 1 (field x 7 1)) 11 1 (field x 31 1))*2 ^ 1%4294967296) 13)/2 ^ 1)/2 ^ 4)/2 ^ 6)) 31 1 (((((sext ((setf (setf (setf (setf 0 0 4 (field x 8 4)) 4 6 (field x 25 6)) 10 1 (field x 7 1)) 11 1 (field x 31 1))*2 ^ 1%4294967296) 13)/2 ^ 1)/2 ^ 4)/2 ^ 6)/2 ^ 1))) 15 5 (field x 15 5)) 20 5 (field x 20 5)):=by
 simp only[Jw,xW,hf,EG,yW,uS,vS,qN,eQ,xH,rZ,Ag,tT,Ib,List.foldl,aiP,Int.toNat_natCast,List.map,List.sum_cons,List.sum_nil,Nat.reduceAdd,Nat.reduceBEq,Bool.or_false,Bool.or_true, ↓reduceIte,Nat.reduceEqDiff,or_self,cS]
set_option maxRecDepth 100000 in
set_option maxHeartbeats 4000000 in
theorem anM(x k:Nat)(hf:cW k=5)(hm:x&&&28799=code k):∀j,j<32->(Jw (xW k x)).testBit j=x.testBit j:=by
 have hc:∀j,j<32->(code k).testBit j=(x.testBit j&&(decide _||(decide _&&decide _))):=λj hj=>by rw[<-hm,Nat.testBit_and,anL j hj]
 rw[an1 x k hf];refine ah7 ?_;simp only[Nat.testBit_or,aoQ,UG,fK,ahL,ahM,hc,Nat.zero_testBit,XF,Nat.reduceLT,Nat.reduceLeDiff,Nat.reduceSub,Nat.reduceAdd, ↓reduceIte,decide_true,decide_false,kL,Bool.and_true,Bool.and_false,Bool.or_false,jD,Bool.or_true,Bool.or_self,and_self,iI,aC]
def anN:∀j,j<32->Nat.testBit 127 j=(decide (j<7)):=dT
def an2(x k:Nat)(hf:cW k=6):Jw (xW k x)=(setf (code k ||| (setf 0 12 20 ((sext ((setf 0 0 20 (field x 12 20))*2 ^ 12%4294967296) 32)/2 ^ 12))) 7 5 (field x 7 5)):=by
 simp only[Jw,xW,hf,EG,yW,uS,vS,qN,eQ,xH,rZ,Ag,tT,Ib,List.foldl,aiP,Int.toNat_natCast,List.map,List.sum_cons,List.sum_nil,Nat.reduceAdd,Nat.reduceBEq,Bool.or_false,Bool.or_true, ↓reduceIte,Nat.reduceEqDiff,or_self,cS]
set_option maxRecDepth 100000 in
set_option maxHeartbeats 4000000 in
theorem anO(x k:Nat)(hf:cW k=6)(hm:x&&&127=code k):∀j,j<32->(Jw (xW k x)).testBit j=x.testBit j:=by
 have hc:∀j,j<32->(code k).testBit j=(x.testBit j&&(decide _)):=λj hj=>by rw[<-hm,Nat.testBit_and,anN j hj]
 rw[an2 x k hf];refine ah7 ?_;simp only[Nat.testBit_or,aoQ,UG,fK,ahL,ahM,hc,Nat.zero_testBit,XF,Nat.reduceLT,Nat.reduceLeDiff,Nat.reduceSub,Nat.reduceAdd, ↓reduceIte,decide_true,decide_false,kL,Bool.and_true,Bool.and_false,Bool.or_false,jD,and_self,iI,aC]
def anP:∀j,j<32->Nat.testBit 127 j=(decide (j<7)):=dT
def an3(x k:Nat)(hf:cW k=7):Jw (xW k x)=(setf (code k ||| (setf (setf (setf (setf 0 21 10 ((sext ((setf (setf (setf (setf 0 0 10 (field x 21 10)) 10 1 (field x 20 1)) 11 8 (field x 12 8)) 19 1 (field x 31 1))*2 ^ 1%4294967296) 21)/2 ^ 1)) 20 1 (((sext ((setf (setf (setf (setf 0 0 10 (field x 21 10)) 10 1 (field x 20 1)) 11 8 (field x 12 8)) 19 1 (field x 31 1))*2 ^ 1%4294967296) 21)/2 ^ 1)/2 ^ 10)) 12 8 ((((sext ((setf (setf (setf (setf 0 0 10 (field x 21 10)) 10 1 (field x 20 1)) 11 8 (field x 12 8)) 19 1 (field x 31 1))*2 ^ 1%4294967296) 21)/2 ^ 1)/2 ^ 10)/2 ^ 1)) 31 1 (((((sext ((setf (setf (setf (setf 0 0 10 (field x 21 10)) 10 1 (field x 20 1)) 11 8 (field x 12 8)) 19 1 (field x 31 1))*2 ^ 1%4294967296) 21)/2 ^ 1)/2 ^ 10)/2 ^ 1)/2 ^ 8))) 7 5 (field x 7 5)):=by
 simp only[Jw,xW,hf,EG,yW,uS,vS,qN,eQ,xH,rZ,Ag,tT,Ib,List.foldl,aiP,Int.toNat_natCast,List.map,List.sum_cons,List.sum_nil,Nat.reduceAdd,Nat.reduceBEq,Bool.or_false,Bool.or_true, ↓reduceIte,Nat.reduceEqDiff,or_self,cS]
set_option maxRecDepth 100000 in
set_option maxHeartbeats 4000000 in
theorem anQ(x k:Nat)(hf:cW k=7)(hm:x&&&127=code k):∀j,j<32->(Jw (xW k x)).testBit j=x.testBit j:=by
 have hc:∀j,j<32->(code k).testBit j=(x.testBit j&&(decide _)):=λj hj=>by rw[<-hm,Nat.testBit_and,anP j hj]
 rw[an3 x k hf];refine ah7 ?_;simp only[Nat.testBit_or,aoQ,UG,fK,ahL,ahM,hc,Nat.zero_testBit,XF,Nat.reduceLT,Nat.reduceLeDiff,Nat.reduceSub,Nat.reduceAdd, ↓reduceIte,decide_true,decide_false,kL,Bool.and_true,Bool.and_false,Bool.or_false,jD,and_self,iI,aC]
def anR:∀j,j<32->Nat.testBit 4294967295 j=(true):=dT
def an4(x k:Nat)(hf:cW k=8):Jw (xW k x)=(code k ||| 0):=by
 simp only[Jw,xW,hf,EG,yW,uS,vS,qN,eQ,tT,List.foldl,Int.toNat_natCast,Nat.reduceBEq,Bool.or_false, ↓reduceIte,Nat.reduceEqDiff,or_true,cS]
set_option maxRecDepth 100000 in
set_option maxHeartbeats 4000000 in
theorem anS(x k:Nat)(hf:cW k=8)(hm:x&&&4294967295=code k):∀j,j<32->(Jw (xW k x)).testBit j=x.testBit j:=by
 have hc:∀j,j<32->(code k).testBit j=(x.testBit j&&(true)):=λj hj=>by rw[<-hm,Nat.testBit_and,anR j hj]
 rw[an4 x k hf];refine ah7 ?_;simp only[Nat.testBit_or,hc,Nat.zero_testBit,Nat.reduceLT,Bool.and_true,Bool.or_false,and_self]
def Dc(v:Nat)(f:Nat)(hv:v<4294967296):(tT v (eQ f)).1<4294967296:=
 (BB _ _ (by show 0<4294967296;omega) hv (vF f).1).1
def Ry(i)(hi:i.agR<4294967296):Jw i<4294967296:=by
 unfold Jw;have h0:code i.op.toNat ||| (tT (i.agR/2 ^ qN (cW i.op)) (eQ (cW i.op))).1<4294967296:=
  kQ (n:=32) (HZ _) (Dc _ _ (bL (cO _ _) hi))
 have hs:∀w a v,w<4294967296->a+5<=32->setf w a 5 v<4294967296:=λw a v hw ha=>EJ w a 5 v ha hw;dsimp only
 repeat' (first|assumption|refine hs _ _ _ ?_ oT|split)
def KC(f x)(hf:f<=8):EG f x<4294967296:=by
 have hc:f=0∨f=1∨f=2∨f=3∨f=4∨f=5∨f=6∨f=7∨f=8:=oT;unfold EG;split
 ·exact aQ _ oT
 split
 ·omega
 refine Ia _ _ ?_;rcases hc with rfl|rfl|rfl|rfl|rfl|rfl|rfl|rfl|rfl<;>decide
def AY(op)(hop:1<=op∧op<=48):1<=cW op:=by
 unfold cW
 repeat' (split<;>try omega)
def ak2(x k)(hk:1<=k∧k<=48)(hm:Lh x k=true)(hx:x<4294967296):Jw (xW k x)=x:=by
 have hm':x&&&qH (cW k)=code k:=by unfold Lh at hm;exact pU.1 hm
 refine aeN (Ry _ (KC _ _ (sB _))) hx ?_;have h1:=sB (k:Int);have h2:=AY (k:Int) ⟨oT,oT⟩;have hc:cW k=1∨cW k=2∨cW k=3∨cW k=4∨cW k=5∨cW k=6∨cW k=7∨cW k=8:=oT;rcases hc with h|h|h|h|h|h|h|h<;>rw[h]at hm'
 ·exact anE x k h hm'
 ·exact anG x k h hm'
 ·exact anI x k h hm'
 ·exact anK x k h hm'
 ·exact anM x k h hm'
 ·exact anO x k h hm'
 ·exact anQ x k h hm'
 exact anS x k h hm'
def Fp(x)(h:opOf x≠0):1<=opOf x∧opOf x<=48∧Lh x (opOf x)=true:=by
 rcases opFrom_le x 48 1 with h'|⟨h1,h2,h3, -⟩
 ·exact absurd h' h
 exact⟨h1,by unfold opOf;omega,h3⟩
def amA(x)(h:opOf x≠0)(hx:x<4294967296):Jw (decN x)=x:=by
 obtain⟨h1,h2,h3⟩:=Fp x h;unfold decN;rw[dZ h];exact ak2 x _ ⟨h1,h2⟩ h3 hx
end Go.Proofs.YtlpkggpdjobpmaaGreatDoor
