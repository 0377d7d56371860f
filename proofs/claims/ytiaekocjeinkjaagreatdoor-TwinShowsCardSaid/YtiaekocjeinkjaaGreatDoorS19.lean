import Derived.Test.YtiaekocjeinkjaaGreatDoorS6
set_option linter.all false
namespace Go.Proofs.YtiaekocjeinkjaaGreatDoor
open Go.RowKit
def lq(x a s v j:Nat):(bo x a s v).testBit j=if j<a then x.testBit j else if j-a<s then v.testBit (j-a)else x.testBit j:=by
 unfold bo;rw[Nat.testBit_two_pow_mul_add _ (aQ _ (eI _))];by_cases b:j<a
 .rw[aa b,aa b,eB];simp[b]
 rw[dZ b,dZ b,Nat.testBit_two_pow_mul_add _ (aQ _ (eI _))];by_cases c:j-a<s
 .rw[aa c,aa c,eB];simp[c]
 rw[dZ c,dZ c,Nat.testBit_div_two_pow];congr 1;omega
def UG(x a s j:Nat):(ar x a s).testBit j=(decide (j<s)&&x.testBit (j+a)):=by
 unfold ar;rw[eB,Nat.testBit_div_two_pow,gJ]
def KB(x n:Nat):x.testBit n=decide (x/2 ^ n%2=1):=by
 rw[Nat.testBit_eq_decide_div_mod_eq]
def XF(x s j:Nat)(g:1<=s)(f:s<=32):(cv x s).testBit j=if j<s then x.testBit j else(decide (j<32)&&x.testBit (s-1)):=by
 unfold cv;have hp:=wV f;have e:=KB x (s-1);have c:4294967296-2 ^ s=2 ^ s*(2 ^ (32-s)-1):=by
  rw[Nat.mul_sub,iD, <-Nat.pow_add,(oT:s+(32-s)=32)]
 by_cases a:x/2 ^ (s-1)%2=1
 .rw[aa a,e,c,gJ,Nat.testBit_two_pow_mul_add _ (aQ _ (eI _)),eB,dX];by_cases b:j<s
  .simp[b]
  rw[dZ b,dZ b];by_cases d:j<32
  .have:j-s<32-s:=oT;simp[this,d,a]
  have: ¬j-s<32-s:=oT;simp[this,d]
 rw[dZ a,e,eB];by_cases b:j<s
 .simp[b]
 simp[b,a]
def lS(v low j:Nat):(v/2 ^ low).testBit j=v.testBit (j+low):=by
 rw[Nat.testBit_div_two_pow,gJ]
def Jw(i:SI):Nat:=
 let f:=cW i.op
 let a:=cm i.op.toNat ||| (tT (i.C/2 ^ qN f) (eQ f)).1
 let b:=if yW f then bo a 7 5 (i.rd%4294967296).toNat else a
 let c:=if uS f then bo b 15 5 (i.y%4294967296).toNat else b
 if vS f then bo c 20 5 (i.A%4294967296).toNat else c
def H8(n:Nat)(h:n<32):((n:Int)%4294967296).toNat=n:=oT
def uh{a b:Nat}(d:a<4294967296)(e:b<4294967296)(h:∀j,j<32->a.testBit j=b.testBit j):a=b:=by
 apply Nat.eq_of_testBit_eq;intro j;by_cases f:j<32
 .exact h j f
 have c:4294967296<=2 ^ j:=aL (by decide:4294967296<=2 ^ 32) (bU oT oT);rw[Nat.testBit_lt_two_pow (e5 d c),Nat.testBit_lt_two_pow (e5 e c)]
def kF{P:Nat->Prop}(h:P 0/\P 1/\P 2/\P 3/\P 4/\P 5/\P 6/\P 7/\P 8/\P 9/\P 10/\P 11/\P 12/\P 13/\P 14/\P 15/\P 16/\P 17/\P 18/\P 19/\P 20/\P 21/\P 22/\P 23/\P 24/\P 25/\P 26/\P 27/\P 28/\P 29/\P 30/\P 31):∀j,j<32->P j:=by
 obtain⟨y,z,A,B,C,D,E,F,G,H,a,b,c,d,e,f,g,i,k,l,m,n,o,p,q,r,s,t,u,v,w,x⟩:=h;intro j J;have I:j=0\/j=1\/j=2\/j=3\/j=4\/j=5\/j=6\/j=7\/j=8\/j=9\/j=10\/j=11\/j=12\/j=13\/j=14\/j=15\/j=16\/j=17\/j=18\/j=19\/j=20\/j=21\/j=22\/j=23\/j=24\/j=25\/j=26\/j=27\/j=28\/j=29\/j=30\/j=31:=oT;rcases I with rfl|rfl|rfl|rfl|rfl|rfl|rfl|rfl|rfl|rfl|rfl|rfl|rfl|rfl|rfl|rfl|rfl|rfl|rfl|rfl|rfl|rfl|rfl|rfl|rfl|rfl|rfl|rfl|rfl|rfl|rfl|rfl
 .exact y
 .exact z
 .exact A
 .exact B
 .exact C
 .exact D
 .exact E
 .exact F
 .exact G
 .exact H
 .exact a
 .exact b
 .exact c
 .exact d
 .exact e
 .exact f
 .exact g
 .exact i
 .exact k
 .exact l
 .exact m
 .exact n
 .exact o
 .exact p
 .exact q
 .exact r
 .exact s
 .exact t
 .exact u
 .exact v
 .exact w
 exact x
def lm(x a:Nat):(((ar x a 5:Nat):Int)%4294967296).toNat=ar x a 5:=H8 _ (iR x a 5)
def lT(v j:Nat):(v%4294967296).testBit j=(decide (j<32)&&v.testBit j):=by
 rw[(dT:(4294967296:Nat)=2 ^ 32),eB]
def L3:∀j,j<32->Nat.testBit 4261441663 j=(decide (j<7)||(decide (12<=j)&&decide (j<15))||decide (25<=j)):=dT
def M_(x k:Nat)(a:cW k=1):Jw (xW k x)=(bo (bo (bo (cm k ||| 0) 7 5 (ar x 7 5)) 15 5 (ar x 15 5)) 20 5 (ar x 20 5)):=by
 simp only[Jw,xW,a,EG,yW,uS,vS,qN,eQ,tT,List.foldl,lm,Int.toNat_natCast,Nat.reduceBEq,Bool.or_false, ↓reduceIte,Nat.reduceEqDiff,true_or]
set_option maxRecDepth 100000 in
set_option maxHeartbeats 4000000 in
theorem L4(x k:Nat)(b:cW k=1)(d:x&&&4261441663=cm k):∀j,j<32->(Jw (xW k x)).testBit j=x.testBit j:=by
 have a:∀j,j<32->(cm k).testBit j=(x.testBit j&&(decide (j<7)||(decide (12<=j)&&decide (j<15))||decide (25<=j))):=λj c=>by rw[<-d,Nat.testBit_and,L3 j c]
 rw[M_ x k b];refine kF ?_;simp only[Nat.testBit_or,lq,UG,a,Nat.zero_testBit,Nat.reduceLT,Nat.reduceLeDiff,Nat.reduceSub,Nat.reduceAdd, ↓reduceIte,decide_true,decide_false,kL,Bool.and_true,Bool.and_false,Bool.or_false,Bool.or_true,Bool.or_self,and_self,iI,aC]
def L5:∀j,j<32->Nat.testBit 28799 j=(decide (j<7)||(decide (12<=j)&&decide (j<15))):=dT
def M'(x k:Nat)(a:cW k=2):Jw (xW k x)=(bo (bo (cm k ||| (bo 0 20 12 ((cv ((bo 0 0 12 (ar x 20 12))*2 ^ 0%4294967296) 12)/2 ^ 0))) 7 5 (ar x 7 5)) 15 5 (ar x 15 5)):=by
 simp only[Jw,xW,a,EG,yW,uS,vS,qN,eQ,xH,rZ,Ag,tT,Ib,List.foldl,lm,Int.toNat_natCast,List.map,List.sum_cons,List.sum_nil,Nat.reduceAdd,Nat.reduceBEq,Bool.or_false,Bool.or_true, ↓reduceIte,Nat.reduceEqDiff,or_self,cS]
set_option maxRecDepth 100000 in
set_option maxHeartbeats 4000000 in
theorem L6(x k:Nat)(b:cW k=2)(d:x&&&28799=cm k):∀j,j<32->(Jw (xW k x)).testBit j=x.testBit j:=by
 have a:∀j,j<32->(cm k).testBit j=(x.testBit j&&(decide (j<7)||(decide (12<=j)&&decide (j<15)))):=λj c=>by rw[<-d,Nat.testBit_and,L5 j c]
 rw[M' x k b];refine kF ?_;simp only[Nat.testBit_or,lq,UG,fK,lS,lT,a,Nat.zero_testBit,XF,Nat.reduceLT,Nat.reduceLeDiff,Nat.reduceSub,Nat.reduceAdd, ↓reduceIte,decide_true,decide_false,kL,Bool.and_true,Bool.and_false,Bool.or_false,jD,Bool.or_true,Bool.or_self,and_self,iI,aC]
def L7:∀j,j<32->Nat.testBit 4261441663 j=(decide (j<7)||(decide (12<=j)&&decide (j<15))||decide (25<=j)):=dT
def No(x k:Nat)(a:cW k=3):Jw (xW k x)=(bo (bo (cm k ||| (bo 0 20 5 (((bo 0 0 5 (ar x 20 5))*2 ^ 0%4294967296)/2 ^ 0))) 7 5 (ar x 7 5)) 15 5 (ar x 15 5)):=by
 simp only[Jw,xW,a,EG,yW,uS,vS,qN,eQ,rZ,Ag,tT,Ib,List.foldl,lm,Int.toNat_natCast,Nat.reduceAdd,Nat.reduceBEq,Bool.or_false,Bool.or_true, ↓reduceIte,cS]
set_option maxRecDepth 100000 in
set_option maxHeartbeats 4000000 in
theorem L8(x k:Nat)(b:cW k=3)(d:x&&&4261441663=cm k):∀j,j<32->(Jw (xW k x)).testBit j=x.testBit j:=by
 have a:∀j,j<32->(cm k).testBit j=(x.testBit j&&(decide (j<7)||(decide (12<=j)&&decide (j<15))||decide (25<=j))):=λj c=>by rw[<-d,Nat.testBit_and,L7 j c]
 rw[No x k b];refine kF ?_;simp only[Nat.testBit_or,lq,UG,fK,lS,lT,a,Nat.zero_testBit,Nat.reduceLT,Nat.reduceLeDiff,Nat.reduceSub,Nat.reduceAdd, ↓reduceIte,decide_true,decide_false,kL,Bool.and_true,Bool.and_false,Bool.or_false,jD,Bool.or_true,Bool.or_self,and_self,iI,aC]
def L9:∀j,j<32->Nat.testBit 28799 j=(decide (j<7)||(decide (12<=j)&&decide (j<15))):=dT
def K9(x k:Nat)(a:cW k=4):Jw (xW k x)=(bo (bo (cm k ||| (bo (bo 0 7 5 ((cv ((bo (bo 0 0 5 (ar x 7 5)) 5 7 (ar x 25 7))*2 ^ 0%4294967296) 12)/2 ^ 0)) 25 7 (((cv ((bo (bo 0 0 5 (ar x 7 5)) 5 7 (ar x 25 7))*2 ^ 0%4294967296) 12)/2 ^ 0)/2 ^ 5))) 15 5 (ar x 15 5)) 20 5 (ar x 20 5)):=by
 simp only[Jw,xW,a,EG,yW,uS,vS,qN,eQ,xH,rZ,Ag,tT,Ib,List.foldl,lm,Int.toNat_natCast,List.map,List.sum_cons,List.sum_nil,Nat.reduceAdd,Nat.reduceBEq,Bool.or_false,Bool.or_true, ↓reduceIte,Nat.reduceEqDiff,or_self,cS]
set_option maxRecDepth 100000 in
set_option maxHeartbeats 4000000 in
theorem L_(x k:Nat)(b:cW k=4)(d:x&&&28799=cm k):∀j,j<32->(Jw (xW k x)).testBit j=x.testBit j:=by
 have a:∀j,j<32->(cm k).testBit j=(x.testBit j&&(decide (j<7)||(decide (12<=j)&&decide (j<15)))):=λj c=>by rw[<-d,Nat.testBit_and,L9 j c]
 rw[K9 x k b];refine kF ?_;simp only[Nat.testBit_or,lq,UG,fK,lS,lT,a,Nat.zero_testBit,XF,Nat.reduceLT,Nat.reduceLeDiff,Nat.reduceSub,Nat.reduceAdd, ↓reduceIte,decide_true,decide_false,kL,Bool.and_true,Bool.and_false,Bool.or_false,jD,Bool.or_true,Bool.or_self,and_self,iI,aC]
def L':∀j,j<32->Nat.testBit 28799 j=(decide (j<7)||(decide (12<=j)&&decide (j<15))):=dT
def K_(x k:Nat)(a:cW k=5):Jw (xW k x)=(bo (bo (cm k ||| (bo (bo (bo (bo 0 8 4 ((cv ((bo (bo (bo (bo 0 0 4 (ar x 8 4)) 4 6 (ar x 25 6)) 10 1 (ar x 7 1)) 11 1 (ar x 31 1))*2 ^ 1%4294967296) 13)/2 ^ 1)) 25 6 (((cv ((bo (bo (bo (bo 0 0 4 (ar x 8 4)) 4 6 (ar x 25 6)) 10 1 (ar x 7 1)) 11 1 (ar x 31 1))*2 ^ 1%4294967296) 13)/2 ^ 1)/2 ^ 4)) 7 1 ((((cv ((bo (bo (bo (bo 0 0 4 (ar x 8 4)) 4 6 (ar x 25 6)) 10 1 (ar x 7 1)) 11 1 (ar x 31 1))*2 ^ 1%4294967296) 13)/2 ^ 1)/2 ^ 4)/2 ^ 6)) 31 1 (((((cv ((bo (bo (bo (bo 0 0 4 (ar x 8 4)) 4 6 (ar x 25 6)) 10 1 (ar x 7 1)) 11 1 (ar x 31 1))*2 ^ 1%4294967296) 13)/2 ^ 1)/2 ^ 4)/2 ^ 6)/2 ^ 1))) 15 5 (ar x 15 5)) 20 5 (ar x 20 5)):=by
 simp only[Jw,xW,a,EG,yW,uS,vS,qN,eQ,xH,rZ,Ag,tT,Ib,List.foldl,lm,Int.toNat_natCast,List.map,List.sum_cons,List.sum_nil,Nat.reduceAdd,Nat.reduceBEq,Bool.or_false,Bool.or_true, ↓reduceIte,Nat.reduceEqDiff,or_self,cS]
set_option maxRecDepth 100000 in
set_option maxHeartbeats 4000000 in
theorem M0(x k:Nat)(b:cW k=5)(d:x&&&28799=cm k):∀j,j<32->(Jw (xW k x)).testBit j=x.testBit j:=by
 have a:∀j,j<32->(cm k).testBit j=(x.testBit j&&(decide (j<7)||(decide (12<=j)&&decide (j<15)))):=λj c=>by rw[<-d,Nat.testBit_and,L' j c]
 rw[K_ x k b];refine kF ?_;simp only[Nat.testBit_or,lq,UG,fK,lS,lT,a,Nat.zero_testBit,XF,Nat.reduceLT,Nat.reduceLeDiff,Nat.reduceSub,Nat.reduceAdd, ↓reduceIte,decide_true,decide_false,kL,Bool.and_true,Bool.and_false,Bool.or_false,jD,Bool.or_true,Bool.or_self,and_self,iI,aC]
def M1:∀j,j<32->Nat.testBit 127 j=(decide (j<7)):=dT
def K'(x k:Nat)(a:cW k=6):Jw (xW k x)=(bo (cm k ||| (bo 0 12 20 ((cv ((bo 0 0 20 (ar x 12 20))*2 ^ 12%4294967296) 32)/2 ^ 12))) 7 5 (ar x 7 5)):=by
 simp only[Jw,xW,a,EG,yW,uS,vS,qN,eQ,xH,rZ,Ag,tT,Ib,List.foldl,lm,Int.toNat_natCast,List.map,List.sum_cons,List.sum_nil,Nat.reduceAdd,Nat.reduceBEq,Bool.or_false,Bool.or_true, ↓reduceIte,Nat.reduceEqDiff,or_self,cS]
set_option maxRecDepth 100000 in
set_option maxHeartbeats 4000000 in
theorem M2(x k:Nat)(b:cW k=6)(d:x&&&127=cm k):∀j,j<32->(Jw (xW k x)).testBit j=x.testBit j:=by
 have a:∀j,j<32->(cm k).testBit j=(x.testBit j&&(decide (j<7))):=λj c=>by rw[<-d,Nat.testBit_and,M1 j c]
 rw[K' x k b];refine kF ?_;simp only[Nat.testBit_or,lq,UG,fK,lS,lT,a,Nat.zero_testBit,XF,Nat.reduceLT,Nat.reduceLeDiff,Nat.reduceSub,Nat.reduceAdd, ↓reduceIte,decide_true,decide_false,kL,Bool.and_true,Bool.and_false,Bool.or_false,jD,and_self,iI,aC]
def M3:∀j,j<32->Nat.testBit 127 j=(decide (j<7)):=dT
def L0(x k:Nat)(a:cW k=7):Jw (xW k x)=(bo (cm k ||| (bo (bo (bo (bo 0 21 10 ((cv ((bo (bo (bo (bo 0 0 10 (ar x 21 10)) 10 1 (ar x 20 1)) 11 8 (ar x 12 8)) 19 1 (ar x 31 1))*2 ^ 1%4294967296) 21)/2 ^ 1)) 20 1 (((cv ((bo (bo (bo (bo 0 0 10 (ar x 21 10)) 10 1 (ar x 20 1)) 11 8 (ar x 12 8)) 19 1 (ar x 31 1))*2 ^ 1%4294967296) 21)/2 ^ 1)/2 ^ 10)) 12 8 ((((cv ((bo (bo (bo (bo 0 0 10 (ar x 21 10)) 10 1 (ar x 20 1)) 11 8 (ar x 12 8)) 19 1 (ar x 31 1))*2 ^ 1%4294967296) 21)/2 ^ 1)/2 ^ 10)/2 ^ 1)) 31 1 (((((cv ((bo (bo (bo (bo 0 0 10 (ar x 21 10)) 10 1 (ar x 20 1)) 11 8 (ar x 12 8)) 19 1 (ar x 31 1))*2 ^ 1%4294967296) 21)/2 ^ 1)/2 ^ 10)/2 ^ 1)/2 ^ 8))) 7 5 (ar x 7 5)):=by
 simp only[Jw,xW,a,EG,yW,uS,vS,qN,eQ,xH,rZ,Ag,tT,Ib,List.foldl,lm,Int.toNat_natCast,List.map,List.sum_cons,List.sum_nil,Nat.reduceAdd,Nat.reduceBEq,Bool.or_false,Bool.or_true, ↓reduceIte,Nat.reduceEqDiff,or_self,cS]
set_option maxRecDepth 100000 in
set_option maxHeartbeats 4000000 in
theorem M4(x k:Nat)(b:cW k=7)(d:x&&&127=cm k):∀j,j<32->(Jw (xW k x)).testBit j=x.testBit j:=by
 have a:∀j,j<32->(cm k).testBit j=(x.testBit j&&(decide (j<7))):=λj c=>by rw[<-d,Nat.testBit_and,M3 j c]
 rw[L0 x k b];refine kF ?_;simp only[Nat.testBit_or,lq,UG,fK,lS,lT,a,Nat.zero_testBit,XF,Nat.reduceLT,Nat.reduceLeDiff,Nat.reduceSub,Nat.reduceAdd, ↓reduceIte,decide_true,decide_false,kL,Bool.and_true,Bool.and_false,Bool.or_false,jD,and_self,iI,aC]
def M5:∀j,j<32->Nat.testBit 4294967295 j=(true):=dT
def L1(x k:Nat)(a:cW k=8):Jw (xW k x)=(cm k ||| 0):=by
 simp only[Jw,xW,a,EG,yW,uS,vS,qN,eQ,tT,List.foldl,Int.toNat_natCast,Nat.reduceBEq,Bool.or_false, ↓reduceIte,Nat.reduceEqDiff,or_true,cS]
set_option maxRecDepth 100000 in
set_option maxHeartbeats 4000000 in
theorem M6(x k:Nat)(b:cW k=8)(d:x&&&4294967295=cm k):∀j,j<32->(Jw (xW k x)).testBit j=x.testBit j:=by
 have a:∀j,j<32->(cm k).testBit j=(x.testBit j&&(true)):=λj c=>by rw[<-d,Nat.testBit_and,M5 j c]
 rw[L1 x k b];refine kF ?_;simp only[Nat.testBit_or,a,Nat.zero_testBit,Nat.reduceLT,Bool.and_true,Bool.or_false,and_self]
def Dc(v:Nat)(f:Nat)(a:v<4294967296):(tT v (eQ f)).1<4294967296:=
 (BB (eQ f) (0,v) (by show 0<4294967296;omega) a (vF f).1).1
def Ry(i:SI)(c:i.C<4294967296):Jw i<4294967296:=by
 unfold Jw;have f:cm i.op.toNat ||| (tT (i.C/2 ^ qN (cW i.op)) (eQ (cW i.op))).1<4294967296:=
  kQ (n:=32) (HZ _) (Dc _ _ (bL (cO _ _) c))
 have d:∀w a v,w<4294967296->a+5<=32->bo w a 5 v<4294967296:=λw a v e b=>EJ w a 5 v b e;dsimp only
 repeat' (first|assumption|refine d _ _ _ ?_ oT|split)
def KC(f x:Nat)(b:f<=8):EG f x<4294967296:=by
 have a:f=0\/f=1\/f=2\/f=3\/f=4\/f=5\/f=6\/f=7\/f=8:=oT;unfold EG;split
 .exact aQ _ oT
 split
 .omega
 refine Ia _ _ ?_;rcases a with rfl|rfl|rfl|rfl|rfl|rfl|rfl|rfl|rfl<;>decide
def AY(a:Int)(b:1<=a/\a<=48):1<=cW a:=by
 unfold cW
 repeat' (split<;>try omega)
def G8(x k:Nat)(g:1<=k/\k<=48)(b:Lh x k=true)(d:x<4294967296):Jw (xW k x)=x:=by
 have a:x&&&qH (cW k)=cm k:=by unfold Lh at b;exact pU.1 b
 refine uh (Ry _ (KC _ _ (sB _))) d ?_;have e:=sB (k:Int);have f:=AY (k:Int) ⟨oT,oT⟩;have c:cW k=1\/cW k=2\/cW k=3\/cW k=4\/cW k=5\/cW k=6\/cW k=7\/cW k=8:=oT;rcases c with h|h|h|h|h|h|h|h<;>rw[h]at a
 .exact L4 x k h a
 .exact L6 x k h a
 .exact L8 x k h a
 .exact L_ x k h a
 .exact M0 x k h a
 .exact M2 x k h a
 .exact M4 x k h a
 exact M6 x k h a
def Fp(x:Nat)(h:dq x≠0):1<=dq x/\dq x<=48/\Lh x (dq x)=true:=by
 rcases xq x 48 1 with h'|⟨a,c,b, -⟩
 .exact absurd h' h
 exact⟨a,by unfold dq;omega,b⟩
def J5(x:Nat)(h:dq x≠0)(d:x<4294967296):Jw (be x)=x:=by
 obtain⟨a,b,c⟩:=Fp x h;unfold be;rw[dZ h];exact G8 x _ ⟨a,b⟩ c d
def Pe:∀k:Nat,k<49->1<=k->∀m:Nat,m<49->1<=m->cm k&&&qH (cW m)=cm m&&&qH (cW k)->k=m:=by decide+kernel
def UL(x k m:Nat)(e:1<=k/\k<=48)(f:1<=m/\m<=48)(c:Lh x k=true)(d:Lh x m=true):k=m:=by
 have a:x&&&qH (cW k)=cm k:=pU.1 c;have b:x&&&qH (cW m)=cm m:=pU.1 d;refine Pe k oT e.1 m oT f.1 ?_;rw[<-a, <-b,Nat.and_assoc,Nat.and_assoc,Nat.and_comm (qH _)]
def XI(x k:Nat)(a:1<=k/\k<=48)(h:Lh x k=true):dq x=k:=by
 have b:dq x≠0:=λe=>by
  have:=EF x 48 1 (aC _) e k a.1 oT;rw[this]at h;cases h
 obtain⟨c,d,f⟩:=Fp x b;exact UL x _ k ⟨c,d⟩ a f h
end Go.Proofs.YtiaekocjeinkjaaGreatDoor
