/- Joined texts. -/
import Derived.Test.YtlhofpglndhfaaaGreatDoorS201
import Derived.Test.YtlhofpglndhfaaaGreatDoorS207
set_option linter.unusedVariables false
set_option linter.unusedSimpArgs false
namespace Go.Proofs.YtlhofpglndhfaaaGreatDoor
open Go.RowKit
theorem Bh(x a s v j:Nat):(setf x a s v).testBit j=if j<a then x.testBit j else if j - a<s then v.testBit (j - a)else x.testBit j:=by
 unfold setf;rw[Nat.testBit_two_pow_mul_add _ (aY _ (eM _))];by_cases h1:j<a
 ·rw[if_pos h1,if_pos h1,dQ];simp[h1]
 ·rw[if_neg h1,if_neg h1,Nat.testBit_two_pow_mul_add _ (aY _ (eM _))];by_cases h2:j - a<s
  ·rw[if_pos h2,if_pos h2,dQ];simp[h2]
  ·rw[if_neg h2,if_neg h2,Nat.testBit_div_two_pow];congr 1;omega
theorem yS(x a s j:Nat):(field x a s).testBit j=(decide (j<s)&&x.testBit (j+a)):=by
 unfold field;rw[dQ,Nat.testBit_div_two_pow,iF]
theorem Yu(x n:Nat):x.testBit n=decide (x / 2 ^ n % 2=1):=by
 rw[Nat.testBit_eq_decide_div_mod_eq]
theorem EG(x s j:Nat)(h1:1≤s)(h2:s≤32):(sext x s).testBit j=if j<s then x.testBit j else (decide (j<32)&&x.testBit (s - 1)):=by
 unfold sext;have hp:=vX h2;have hb:=Yu x (s - 1);have hsplit:4294967296 - 2 ^ s=2 ^ s * (2 ^ (32 - s) - 1):=by
  rw[Nat.mul_sub,iX, ←Nat.pow_add,show s+(32 - s)=32 by omega]
 by_cases hb1:x / 2 ^ (s - 1) % 2=1
 ·rw[if_pos hb1,hb,hsplit,iF,Nat.testBit_two_pow_mul_add _ (aY _ (eM _)),dQ,fO];by_cases h3:j<s
  ·simp[h3]
  ·rw[if_neg h3,if_neg h3];by_cases h4:j<32
   ·have:j - s<32 - s:=by omega
    simp[this,h4,hb1]
   ·have: ¬ j - s<32 - s:=by omega
    simp[this,h4]
 ·rw[if_neg hb1,hb,dQ];by_cases h3:j<s
  ·simp[h3]
  ·simp[h3,hb1]
theorem Gv(v low j:Nat):(v / 2 ^ low).testBit j=v.testBit (j+low):=by
 rw[Nat.testBit_div_two_pow,iF]
def wG(i:SI):Nat:=
 let f:=cL i.op
 let w0:=code i.op.toNat ||| (lG (i.imm / 2 ^ nO f) (eD f)).1
 let w1:=if uA f then setf w0 7 5 (i.rd % 4294967296).toNat else w0
 let w2:=if pB f then setf w1 15 5 (i.rs1 % 4294967296).toNat else w1
 if pZ f then setf w2 20 5 (i.rs2 % 4294967296).toNat else w2
theorem Wo(n:Nat)(h:n<32):((n:Int) % 4294967296).toNat=n:=by omega
theorem aa7{a b:Nat}(ha:a<4294967296)(hb:b<4294967296)(h:∀ j,j<32→a.testBit j=b.testBit j):a=b:=by
 apply Nat.eq_of_testBit_eq;intro j;by_cases hj:j<32
 ·exact h j hj
 ·have h32:4294967296≤2 ^ j:=aL (by decide:4294967296≤2 ^ 32) (eY (by omega) (by omega));rw[Nat.testBit_lt_two_pow (Nat.lt_of_lt_of_le ha h32),Nat.testBit_lt_two_pow (Nat.lt_of_lt_of_le hb h32)]
theorem JF{P:Nat→Prop}(h:P 0∧P 1∧P 2∧P 3∧P 4∧P 5∧P 6∧P 7∧P 8∧P 9∧P 10∧P 11∧P 12∧P 13∧P 14∧P 15∧P 16∧P 17∧P 18∧P 19∧P 20∧P 21∧P 22∧P 23∧P 24∧P 25∧P 26∧P 27∧P 28∧P 29∧P 30∧P 31):∀ j,j<32→P j:=by
 obtain⟨h0,h1,h2,h3,h4,h5,h6,h7,h8,h9,h10,h11,h12,h13,h14,h15,h16,h17,h18,h19,h20,h21,h22,h23,h24,h25,h26,h27,h28,h29,h30,h31⟩:=h;intro j hj;have hc:j=0∨j=1∨j=2∨j=3∨j=4∨j=5∨j=6∨j=7∨j=8∨j=9∨j=10∨j=11∨j=12∨j=13∨j=14∨j=15∨j=16∨j=17∨j=18∨j=19∨j=20∨j=21∨j=22∨j=23∨j=24∨j=25∨j=26∨j=27∨j=28∨j=29∨j=30∨j=31:=by omega
 rcases hc with rfl|rfl|rfl|rfl|rfl|rfl|rfl|rfl|rfl|rfl|rfl|rfl|rfl|rfl|rfl|rfl|rfl|rfl|rfl|rfl|rfl|rfl|rfl|rfl|rfl|rfl|rfl|rfl|rfl|rfl|rfl|rfl
 ·exact h0
 ·exact h1
 ·exact h2
 ·exact h3
 ·exact h4
 ·exact h5
 ·exact h6
 ·exact h7
 ·exact h8
 ·exact h9
 ·exact h10
 ·exact h11
 ·exact h12
 ·exact h13
 ·exact h14
 ·exact h15
 ·exact h16
 ·exact h17
 ·exact h18
 ·exact h19
 ·exact h20
 ·exact h21
 ·exact h22
 ·exact h23
 ·exact h24
 ·exact h25
 ·exact h26
 ·exact h27
 ·exact h28
 ·exact h29
 ·exact h30
 ·exact h31
theorem Li(x a:Nat):(((field x a 5:Nat):Int) % 4294967296).toNat=field x a 5:=Wo _ (BF x a 5)
theorem Gw(v j:Nat):(v % 4294967296).testBit j=(decide (j<32)&&v.testBit j):=by
 rw[show (4294967296:Nat)=2 ^ 32 by decide,dQ]
theorem ZF:∀ j,j<32→Nat.testBit 4261441663 j=(decide (j<7)||(decide (12≤j)&&decide (j<15))||decide (25≤j)):=by decide
theorem aa8(x k:Nat)(hf:cL k=1):wG (lY k x)=(setf (setf (setf (code k ||| 0) 7 5 (field x 7 5)) 15 5 (field x 15 5)) 20 5 (field x 20 5)):=by
 simp only[wG,lY,hf,Ba,uA,pB,pZ,nO,eD,lG,List.foldl,Li,Int.toNat_natCast,Nat.reduceBEq,Bool.or_false, ↓reduceIte,Nat.reduceEqDiff,true_or]
set_option maxRecDepth 100000 in
set_option maxHeartbeats 4000000 in
theorem ZG(x k:Nat)(hf:cL k=1)(hm:x &&& 4261441663=code k):∀ j,j<32→(wG (lY k x)).testBit j=x.testBit j:=by
 have hc:∀ j,j<32→(code k).testBit j=(x.testBit j&&(decide (j<7)||(decide (12≤j)&&decide (j<15))||decide (25≤j))):=λ j hj=>by rw[←hm,Nat.testBit_and,ZF j hj]
 rw[aa8 x k hf];refine JF ?_;simp only[Nat.testBit_or,Bh,yS,hc,Nat.zero_testBit,Nat.reduceLT,Nat.reduceLeDiff,Nat.reduceSub,Nat.reduceAdd, ↓reduceIte,decide_true,decide_false,eS,Bool.and_true,Bool.and_false,Bool.or_false,Bool.or_true,Bool.or_self,and_self,dU,aC]
theorem ZH:∀ j,j<32→Nat.testBit 28799 j=(decide (j<7)||(decide (12≤j)&&decide (j<15))):=by decide
theorem aa9(x k:Nat)(hf:cL k=2):wG (lY k x)=(setf (setf (code k ||| (setf 0 20 12 ((sext ((setf 0 0 12 (field x 20 12)) * 2 ^ 0 % 4294967296) 12) / 2 ^ 0))) 7 5 (field x 7 5)) 15 5 (field x 15 5)):=by
 simp only[wG,lY,hf,Ba,uA,pB,pZ,nO,eD,tZ,nN,uW,lG,Bc,List.foldl,Li,Int.toNat_natCast,List.map,List.sum_cons,List.sum_nil,Nat.reduceAdd,Nat.reduceBEq,Bool.or_false,Bool.or_true, ↓reduceIte,Nat.reduceEqDiff,or_self,bQ]
set_option maxRecDepth 100000 in
set_option maxHeartbeats 4000000 in
theorem ZI(x k:Nat)(hf:cL k=2)(hm:x &&& 28799=code k):∀ j,j<32→(wG (lY k x)).testBit j=x.testBit j:=by
 have hc:∀ j,j<32→(code k).testBit j=(x.testBit j&&(decide (j<7)||(decide (12≤j)&&decide (j<15)))):=λ j hj=>by rw[←hm,Nat.testBit_and,ZH j hj]
 rw[aa9 x k hf];refine JF ?_;simp only[Nat.testBit_or,Bh,yS,dP,Gv,Gw,hc,Nat.zero_testBit,EG,Nat.reduceLT,Nat.reduceLeDiff,Nat.reduceSub,Nat.reduceAdd, ↓reduceIte,decide_true,decide_false,eS,Bool.and_true,Bool.and_false,Bool.or_false,eL,Bool.or_true,Bool.or_self,and_self,dU,aC]
theorem ZJ:∀ j,j<32→Nat.testBit 4261441663 j=(decide (j<7)||(decide (12≤j)&&decide (j<15))||decide (25≤j)):=by decide
theorem abA(x k:Nat)(hf:cL k=3):wG (lY k x)=(setf (setf (code k ||| (setf 0 20 5 (((setf 0 0 5 (field x 20 5)) * 2 ^ 0 % 4294967296) / 2 ^ 0))) 7 5 (field x 7 5)) 15 5 (field x 15 5)):=by
 simp only[wG,lY,hf,Ba,uA,pB,pZ,nO,eD,nN,uW,lG,Bc,List.foldl,Li,Int.toNat_natCast,Nat.reduceAdd,Nat.reduceBEq,Bool.or_false,Bool.or_true, ↓reduceIte,bQ]
set_option maxRecDepth 100000 in
set_option maxHeartbeats 4000000 in
theorem ZK(x k:Nat)(hf:cL k=3)(hm:x &&& 4261441663=code k):∀ j,j<32→(wG (lY k x)).testBit j=x.testBit j:=by
 have hc:∀ j,j<32→(code k).testBit j=(x.testBit j&&(decide (j<7)||(decide (12≤j)&&decide (j<15))||decide (25≤j))):=λ j hj=>by rw[←hm,Nat.testBit_and,ZJ j hj]
 rw[abA x k hf];refine JF ?_;simp only[Nat.testBit_or,Bh,yS,dP,Gv,Gw,hc,Nat.zero_testBit,Nat.reduceLT,Nat.reduceLeDiff,Nat.reduceSub,Nat.reduceAdd, ↓reduceIte,decide_true,decide_false,eS,Bool.and_true,Bool.and_false,Bool.or_false,eL,Bool.or_true,Bool.or_self,and_self,dU,aC]
theorem ZL:∀ j,j<32→Nat.testBit 28799 j=(decide (j<7)||(decide (12≤j)&&decide (j<15))):=by decide
theorem abB(x k:Nat)(hf:cL k=4):wG (lY k x)=(setf (setf (code k ||| (setf (setf 0 7 5 ((sext ((setf (setf 0 0 5 (field x 7 5)) 5 7 (field x 25 7)) * 2 ^ 0 % 4294967296) 12) / 2 ^ 0)) 25 7 (((sext ((setf (setf 0 0 5 (field x 7 5)) 5 7 (field x 25 7)) * 2 ^ 0 % 4294967296) 12) / 2 ^ 0) / 2 ^ 5))) 15 5 (field x 15 5)) 20 5 (field x 20 5)):=by
 simp only[wG,lY,hf,Ba,uA,pB,pZ,nO,eD,tZ,nN,uW,lG,Bc,List.foldl,Li,Int.toNat_natCast,List.map,List.sum_cons,List.sum_nil,Nat.reduceAdd,Nat.reduceBEq,Bool.or_false,Bool.or_true, ↓reduceIte,Nat.reduceEqDiff,or_self,bQ]
set_option maxRecDepth 100000 in
set_option maxHeartbeats 4000000 in
theorem ZM(x k:Nat)(hf:cL k=4)(hm:x &&& 28799=code k):∀ j,j<32→(wG (lY k x)).testBit j=x.testBit j:=by
 have hc:∀ j,j<32→(code k).testBit j=(x.testBit j&&(decide (j<7)||(decide (12≤j)&&decide (j<15)))):=λ j hj=>by rw[←hm,Nat.testBit_and,ZL j hj]
 rw[abB x k hf];refine JF ?_;simp only[Nat.testBit_or,Bh,yS,dP,Gv,Gw,hc,Nat.zero_testBit,EG,Nat.reduceLT,Nat.reduceLeDiff,Nat.reduceSub,Nat.reduceAdd, ↓reduceIte,decide_true,decide_false,eS,Bool.and_true,Bool.and_false,Bool.or_false,eL,Bool.or_true,Bool.or_self,and_self,dU,aC]
theorem ZN:∀ j,j<32→Nat.testBit 28799 j=(decide (j<7)||(decide (12≤j)&&decide (j<15))):=by decide
theorem abC(x k:Nat)(hf:cL k=5):wG (lY k x)=(setf (setf (code k ||| (setf (setf (setf (setf 0 8 4 ((sext ((setf (setf (setf (setf 0 0 4 (field x 8 4)) 4 6 (field x 25 6)) 10 1 (field x 7 1)) 11 1 (field x 31 1)) * 2 ^ 1 % 4294967296) 13) / 2 ^ 1)) 25 6 (((sext ((setf (setf (setf (setf 0 0 4 (field x 8 4)) 4 6 (field x 25 6)) 10 1 (field x 7 1)) 11 1 (field x 31 1)) * 2 ^ 1 % 4294967296) 13) / 2 ^ 1) / 2 ^ 4)) 7 1 ((((sext ((setf (setf (setf (setf 0 0 4 (field x 8 4)) 4 6 (field x 25 6)) 10 1 (field x 7 1)) 11 1 (field x 31 1)) * 2 ^ 1 % 4294967296) 13) / 2 ^ 1) / 2 ^ 4) / 2 ^ 6)) 31 1 (((((sext ((setf (setf (setf (setf 0 0 4 (field x 8 4)) 4 6 (field x 25 6)) 10 1 (field x 7 1)) 11 1 (field x 31 1)) * 2 ^ 1 % 4294967296) 13) / 2 ^ 1) / 2 ^ 4) / 2 ^ 6) / 2 ^ 1))) 15 5 (field x 15 5)) 20 5 (field x 20 5)):=by
 simp only[wG,lY,hf,Ba,uA,pB,pZ,nO,eD,tZ,nN,uW,lG,Bc,List.foldl,Li,Int.toNat_natCast,List.map,List.sum_cons,List.sum_nil,Nat.reduceAdd,Nat.reduceBEq,Bool.or_false,Bool.or_true, ↓reduceIte,Nat.reduceEqDiff,or_self,bQ]
set_option maxRecDepth 100000 in
set_option maxHeartbeats 4000000 in
theorem ZO(x k:Nat)(hf:cL k=5)(hm:x &&& 28799=code k):∀ j,j<32→(wG (lY k x)).testBit j=x.testBit j:=by
 have hc:∀ j,j<32→(code k).testBit j=(x.testBit j&&(decide (j<7)||(decide (12≤j)&&decide (j<15)))):=λ j hj=>by rw[←hm,Nat.testBit_and,ZN j hj]
 rw[abC x k hf];refine JF ?_;simp only[Nat.testBit_or,Bh,yS,dP,Gv,Gw,hc,Nat.zero_testBit,EG,Nat.reduceLT,Nat.reduceLeDiff,Nat.reduceSub,Nat.reduceAdd, ↓reduceIte,decide_true,decide_false,eS,Bool.and_true,Bool.and_false,Bool.or_false,eL,Bool.or_true,Bool.or_self,and_self,dU,aC]
theorem ZP:∀ j,j<32→Nat.testBit 127 j=(decide (j<7)):=by decide
theorem abD(x k:Nat)(hf:cL k=6):wG (lY k x)=(setf (code k ||| (setf 0 12 20 ((sext ((setf 0 0 20 (field x 12 20)) * 2 ^ 12 % 4294967296) 32) / 2 ^ 12))) 7 5 (field x 7 5)):=by
 simp only[wG,lY,hf,Ba,uA,pB,pZ,nO,eD,tZ,nN,uW,lG,Bc,List.foldl,Li,Int.toNat_natCast,List.map,List.sum_cons,List.sum_nil,Nat.reduceAdd,Nat.reduceBEq,Bool.or_false,Bool.or_true, ↓reduceIte,Nat.reduceEqDiff,or_self,bQ]
set_option maxRecDepth 100000 in
set_option maxHeartbeats 4000000 in
theorem ZQ(x k:Nat)(hf:cL k=6)(hm:x &&& 127=code k):∀ j,j<32→(wG (lY k x)).testBit j=x.testBit j:=by
 have hc:∀ j,j<32→(code k).testBit j=(x.testBit j&&(decide (j<7))):=λ j hj=>by rw[←hm,Nat.testBit_and,ZP j hj]
 rw[abD x k hf];refine JF ?_;simp only[Nat.testBit_or,Bh,yS,dP,Gv,Gw,hc,Nat.zero_testBit,EG,Nat.reduceLT,Nat.reduceLeDiff,Nat.reduceSub,Nat.reduceAdd, ↓reduceIte,decide_true,decide_false,eS,Bool.and_true,Bool.and_false,Bool.or_false,eL,and_self,dU,aC]
theorem ZR:∀ j,j<32→Nat.testBit 127 j=(decide (j<7)):=by decide
theorem abE(x k:Nat)(hf:cL k=7):wG (lY k x)=(setf (code k ||| (setf (setf (setf (setf 0 21 10 ((sext ((setf (setf (setf (setf 0 0 10 (field x 21 10)) 10 1 (field x 20 1)) 11 8 (field x 12 8)) 19 1 (field x 31 1)) * 2 ^ 1 % 4294967296) 21) / 2 ^ 1)) 20 1 (((sext ((setf (setf (setf (setf 0 0 10 (field x 21 10)) 10 1 (field x 20 1)) 11 8 (field x 12 8)) 19 1 (field x 31 1)) * 2 ^ 1 % 4294967296) 21) / 2 ^ 1) / 2 ^ 10)) 12 8 ((((sext ((setf (setf (setf (setf 0 0 10 (field x 21 10)) 10 1 (field x 20 1)) 11 8 (field x 12 8)) 19 1 (field x 31 1)) * 2 ^ 1 % 4294967296) 21) / 2 ^ 1) / 2 ^ 10) / 2 ^ 1)) 31 1 (((((sext ((setf (setf (setf (setf 0 0 10 (field x 21 10)) 10 1 (field x 20 1)) 11 8 (field x 12 8)) 19 1 (field x 31 1)) * 2 ^ 1 % 4294967296) 21) / 2 ^ 1) / 2 ^ 10) / 2 ^ 1) / 2 ^ 8))) 7 5 (field x 7 5)):=by
 simp only[wG,lY,hf,Ba,uA,pB,pZ,nO,eD,tZ,nN,uW,lG,Bc,List.foldl,Li,Int.toNat_natCast,List.map,List.sum_cons,List.sum_nil,Nat.reduceAdd,Nat.reduceBEq,Bool.or_false,Bool.or_true, ↓reduceIte,Nat.reduceEqDiff,or_self,bQ]
set_option maxRecDepth 100000 in
set_option maxHeartbeats 4000000 in
theorem ZS(x k:Nat)(hf:cL k=7)(hm:x &&& 127=code k):∀ j,j<32→(wG (lY k x)).testBit j=x.testBit j:=by
 have hc:∀ j,j<32→(code k).testBit j=(x.testBit j&&(decide (j<7))):=λ j hj=>by rw[←hm,Nat.testBit_and,ZR j hj]
 rw[abE x k hf];refine JF ?_;simp only[Nat.testBit_or,Bh,yS,dP,Gv,Gw,hc,Nat.zero_testBit,EG,Nat.reduceLT,Nat.reduceLeDiff,Nat.reduceSub,Nat.reduceAdd, ↓reduceIte,decide_true,decide_false,eS,Bool.and_true,Bool.and_false,Bool.or_false,eL,and_self,dU,aC]
theorem ZT:∀ j,j<32→Nat.testBit 4294967295 j=(true):=by decide
theorem abF(x k:Nat)(hf:cL k=8):wG (lY k x)=(code k ||| 0):=by
 simp only[wG,lY,hf,Ba,uA,pB,pZ,nO,eD,lG,List.foldl,Int.toNat_natCast,Nat.reduceBEq,Bool.or_false, ↓reduceIte,Nat.reduceEqDiff,or_true,bQ]
set_option maxRecDepth 100000 in
set_option maxHeartbeats 4000000 in
theorem ZU(x k:Nat)(hf:cL k=8)(hm:x &&& 4294967295=code k):∀ j,j<32→(wG (lY k x)).testBit j=x.testBit j:=by
 have hc:∀ j,j<32→(code k).testBit j=(x.testBit j&&(true)):=λ j hj=>by rw[←hm,Nat.testBit_and,ZT j hj]
 rw[abF x k hf];refine JF ?_;simp only[Nat.testBit_or,hc,Nat.zero_testBit,Nat.reduceLT,Bool.and_true,Bool.or_false,and_self]
theorem CD(v:Nat)(f:Nat)(hv:v<4294967296):(lG v (eD f)).1<4294967296:=
 (Be (eD f) (0,v) (by show 0<4294967296;omega) hv (uL f).1).1
theorem Lj(i:SI)(hi:i.imm<4294967296):wG i<4294967296:=by
 unfold wG;have h0:code i.op.toNat ||| (lG (i.imm / 2 ^ nO (cL i.op)) (eD (cL i.op))).1<4294967296:=
  mN (n:=32) (Hr _) (CD _ _ (bI (fJ _ _) hi))
 have hs:∀ w a v,w<4294967296→a+5≤32→setf w a 5 v<4294967296:=λ w a v hw ha=>Ee w a 5 v ha hw;dsimp only
 repeat' (first|assumption|refine hs _ _ _ ?_ (by omega)|split)
theorem JG(f x:Nat)(hf:f≤8):Ba f x<4294967296:=by
 have hc:f=0∨f=1∨f=2∨f=3∨f=4∨f=5∨f=6∨f=7∨f=8:=by omega
 unfold Ba;split
 ·exact aY _ (by omega)
 ·split
  ·omega
  ·refine KM _ _ ?_;rcases hc with rfl|rfl|rfl|rfl|rfl|rfl|rfl|rfl|rfl<;>decide
theorem Gx(op:Int)(hop:1≤op∧op≤48):1≤cL op:=by
 unfold cL
 repeat' (split<;>try omega)
theorem Tf(x k:Nat)(hk:1≤k∧k≤48)(hm:Nr x k=true)(hx:x<4294967296):wG (lY k x)=x:=by
 have hm':x &&& wL (cL k)=code k:=by unfold Nr at hm;exact pS.1 hm
 refine aa7 (Lj _ (JG _ _ (uX _))) hx ?_;have h1:=uX (k:Int);have h2:=Gx (k:Int) ⟨by omega,by omega⟩;have hc:cL k=1∨cL k=2∨cL k=3∨cL k=4∨cL k=5∨cL k=6∨cL k=7∨cL k=8:=by omega
 rcases hc with h|h|h|h|h|h|h|h<;>rw[h]at hm'
 ·exact ZG x k h hm'
 ·exact ZI x k h hm'
 ·exact ZK x k h hm'
 ·exact ZM x k h hm'
 ·exact ZO x k h hm'
 ·exact ZQ x k h hm'
 ·exact ZS x k h hm'
 ·exact ZU x k h hm'
theorem JH(x:Nat)(h:Fr x≠0):1≤Fr x∧Fr x≤48∧Nr x (Fr x)=true:=by
 rcases opFrom_le x 48 1 with h'|⟨h1,h2,h3, -⟩
 ·exact absurd h' h
 ·exact⟨h1,by unfold Fr;omega,h3⟩
theorem Wp(x:Nat)(h:Fr x≠0)(hx:x<4294967296):wG (lL x)=x:=by
 obtain⟨h1,h2,h3⟩:=JH x h;unfold lL;rw[if_neg h];exact Tf x _ ⟨h1,h2⟩ h3 hx
end Go.Proofs.YtlhofpglndhfaaaGreatDoor
