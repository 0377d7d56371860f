/- Lemmas. -/
import Derived.Test.YtmbhlpgmfafmbaaGreatDoorS1
import Derived.Test.YtmbhlpgmfafmbaaGreatDoorS7
set_option linter.all false
namespace Go.Proofs.YtmbhlpgmfafmbaaGreatDoor
open Go.RowKit
def kk(x a s v j):(bo x a s v).testBit j=if j<a then x.testBit j else if j-a<s then v.testBit (j-a)else x.testBit j:=by
 unfold bo;rw[Nat.testBit_two_pow_mul_add _ (aQ _ (eI _))];by_cases b:j<a
 ·rw[aa b,aa b,eB];simp[b]
 rw[dZ b,dZ b,Nat.testBit_two_pow_mul_add _ (aQ _ (eI _))];by_cases c:j-a<s
 ·rw[aa c,aa c,eB];simp[c]
 rw[dZ c,dZ c,Nat.testBit_div_two_pow];congr 1;omega
def UG(x a s j):(br x a s).testBit j=(decide (j<s)&&x.testBit (j+a)):=by
 unfold br;rw[eB,Nat.testBit_div_two_pow,gJ]
def KB(x n):x.testBit n=decide (x/2 ^ n%2=1):=by
 rw[Nat.testBit_eq_decide_div_mod_eq]
def XF(x s j)(g:1<=s)(f:s<=32):(ed x s).testBit j=if j<s then x.testBit j else(decide (j<32)&&x.testBit (s-1)):=by
 unfold ed;have hp:=wV f;have e:=KB x (s-1);have c:4294967296-2 ^ s=2 ^ s*(2 ^ (32-s)-1):=by
  rw[Nat.mul_sub,iD, <-Nat.pow_add,(oT:s+(32-s)=32)]
 by_cases a:x/2 ^ (s-1)%2=1
 ·rw[aa a,e,c,gJ,Nat.testBit_two_pow_mul_add _ (aQ _ (eI _)),eB,dX];by_cases b:j<s
  ·simp[b]
  rw[dZ b,dZ b];by_cases d:j<32
  ·have:j-s<32-s:=oT;simp[this,d,a]
  have: ¬j-s<32-s:=oT;simp[this,d]
 rw[dZ a,e,eB];by_cases b:j<s
 ·simp[b]
 simp[b,a]
def kY(v low j):(v/2 ^ low).testBit j=v.testBit (j+low):=by
 rw[Nat.testBit_div_two_pow,gJ]
def Jw(i:SI):Nat:=
 let f:=cW i.op
 let a:=ck i.op.toNat ||| (tT (i.k/2 ^ qN f) (eQ f)).1
 let b:=if yW f then bo a 7 5 (i.rd%4294967296).toNat else a
 let c:=if uS f then bo b 15 5 (i.j%4294967296).toNat else b
 if vS f then bo c 20 5 (i.o%4294967296).toNat else c
def K1(n:Nat)(h:n<32):((n:Int)%4294967296).toNat=n:=oT
def G4{a b}(d:a<4294967296)(e:b<4294967296)(h:∀j,j<32->a.testBit j=b.testBit j):a=b:=by
 apply Nat.eq_of_testBit_eq;intro j;by_cases f:j<32
 ·exact h j f
 have c:4294967296<=2 ^ j:=aL (by decide:4294967296<=2 ^ 32) (bU oT oT);rw[Nat.testBit_lt_two_pow (ei d c),Nat.testBit_lt_two_pow (ei e c)]
def kb{P:Nat->Prop}(h:P 0∧P 1∧P 2∧P 3∧P 4∧P 5∧P 6∧P 7∧P 8∧P 9∧P 10∧P 11∧P 12∧P 13∧P 14∧P 15∧P 16∧P 17∧P 18∧P 19∧P 20∧P 21∧P 22∧P 23∧P 24∧P 25∧P 26∧P 27∧P 28∧P 29∧P 30∧P 31):∀j,j<32->P j:=by
 let⟨y,z,A,B,C,D,E,F,G,H,a,b,c,d,e,f,g,i,k,l,m,n,o,p,q,r,s,t,u,v,w,x⟩:=h;intro j J;have I:j=0∨j=1∨j=2∨j=3∨j=4∨j=5∨j=6∨j=7∨j=8∨j=9∨j=10∨j=11∨j=12∨j=13∨j=14∨j=15∨j=16∨j=17∨j=18∨j=19∨j=20∨j=21∨j=22∨j=23∨j=24∨j=25∨j=26∨j=27∨j=28∨j=29∨j=30∨j=31:=oT;rcases I with rfl|rfl|rfl|rfl|rfl|rfl|rfl|rfl|rfl|rfl|rfl|rfl|rfl|rfl|rfl|rfl|rfl|rfl|rfl|rfl|rfl|rfl|rfl|rfl|rfl|rfl|rfl|rfl|rfl|rfl|rfl|rfl
 ·exact y
 ·exact z
 ·exact A
 ·exact B
 ·exact C
 ·exact D
 ·exact E
 ·exact F
 ·exact G
 ·exact H
 ·exact a
 ·exact b
 ·exact c
 ·exact d
 ·exact e
 ·exact f
 ·exact g
 ·exact i
 ·exact k
 ·exact l
 ·exact m
 ·exact n
 ·exact o
 ·exact p
 ·exact q
 ·exact r
 ·exact s
 ·exact t
 ·exact u
 ·exact v
 ·exact w
 exact x
def kj(x a:Nat):(((br x a 5:Nat):Int)%4294967296).toNat=br x a 5:=K1 _ (iR x a 5)
def kD(v j):(v%4294967296).testBit j=(decide (j<32)&&v.testBit j):=by
 rw[(dT:(4294967296:Nat)=2 ^ 32),eB]
def E9:∀j,j<32->Nat.testBit 4261441663 j=(decide (j<7)||(decide (12<=j)&&decide (j<15))||decide (25<=j)):=dT
def z7(x k:Nat)(a:cW k=1):Jw (xW k x)=(bo (bo (bo (ck k ||| 0) 7 5 (br x 7 5)) 15 5 (br x 15 5)) 20 5 (br x 20 5)):=by
 simp[Jw,xW,a,EG,yW,uS,vS,qN,eQ,tT,List.foldl,kj,Int.toNat_natCast,Nat.reduceBEq,Bool.or_false, ↓reduceIte,Nat.reduceEqDiff,true_or]
set_option maxRecDepth 100000 in
set_option maxHeartbeats 4000000 in
theorem F3(x k:Nat)(b:cW k=1)(d:x&&&4261441663=ck k):∀j,j<32->(Jw (xW k x)).testBit j=x.testBit j:=by
 have a:∀j,j<32->(ck k).testBit j=(x.testBit j&&(decide _||(decide _&&decide _)||decide _)):=λj c=>by rw[<-d,Nat.testBit_and,E9 j c]
 rw[z7 x k b];apply kb;simp only[Nat.testBit_or,kk,UG,a,Nat.zero_testBit,Nat.reduceLT,Nat.reduceLeDiff,Nat.reduceSub,Nat.reduceAdd, ↓reduceIte,decide_true,decide_false,kL,Bool.and_true,Bool.and_false,Bool.or_false,Bool.or_true,Bool.or_self,and_self,iI,aC]
def F7:∀j,j<32->Nat.testBit 28799 j=(decide (j<7)||(decide (12<=j)&&decide (j<15))):=dT
def E'(x k:Nat)(a:cW k=2):Jw (xW k x)=(bo (bo (ck k ||| (bo 0 20 12 ((ed ((bo 0 0 12 (br x 20 12))*2 ^ 0%4294967296) 12)/2 ^ 0))) 7 5 (br x 7 5)) 15 5 (br x 15 5)):=by
 simp[Jw,xW,a,EG,yW,uS,vS,qN,eQ,xH,rZ,Ag,tT,Ib,List.foldl,kj,Int.toNat_natCast,List.map,List.sum_cons,List.sum_nil,Nat.reduceAdd,Nat.reduceBEq,Bool.or_false,Bool.or_true, ↓reduceIte,Nat.reduceEqDiff,or_self,cS]
set_option maxRecDepth 100000 in
set_option maxHeartbeats 4000000 in
theorem Br(x k:Nat)(b:cW k=2)(d:x&&&28799=ck k):∀j,j<32->(Jw (xW k x)).testBit j=x.testBit j:=by
 have a:∀j,j<32->(ck k).testBit j=(x.testBit j&&(decide _||(decide _&&decide _))):=λj c=>by rw[<-d,Nat.testBit_and,F7 j c]
 rw[E' x k b];apply kb;simp only[Nat.testBit_or,kk,UG,fK,kY,kD,a,Nat.zero_testBit,XF,Nat.reduceLT,Nat.reduceLeDiff,Nat.reduceSub,Nat.reduceAdd, ↓reduceIte,decide_true,decide_false,kL,Bool.and_true,Bool.and_false,Bool.or_false,jD,Bool.or_true,Bool.or_self,and_self,iI,aC]
def H_:∀j,j<32->Nat.testBit 4261441663 j=(decide (j<7)||(decide (12<=j)&&decide (j<15))||decide (25<=j)):=dT
def zy(x k:Nat)(a:cW k=3):Jw (xW k x)=(bo (bo (ck k ||| (bo 0 20 5 (((bo 0 0 5 (br x 20 5))*2 ^ 0%4294967296)/2 ^ 0))) 7 5 (br x 7 5)) 15 5 (br x 15 5)):=by
 simp[Jw,xW,a,EG,yW,uS,vS,qN,eQ,rZ,Ag,tT,Ib,List.foldl,kj,Int.toNat_natCast,Nat.reduceAdd,Nat.reduceBEq,Bool.or_false,Bool.or_true, ↓reduceIte,cS]
set_option maxRecDepth 100000 in
set_option maxHeartbeats 4000000 in
theorem G1(x k:Nat)(b:cW k=3)(d:x&&&4261441663=ck k):∀j,j<32->(Jw (xW k x)).testBit j=x.testBit j:=by
 have a:∀j,j<32->(ck k).testBit j=(x.testBit j&&(decide _||(decide _&&decide _)||decide _)):=λj c=>by rw[<-d,Nat.testBit_and,H_ j c]
 rw[zy x k b];apply kb;simp only[Nat.testBit_or,kk,UG,fK,kY,kD,a,Nat.zero_testBit,Nat.reduceLT,Nat.reduceLeDiff,Nat.reduceSub,Nat.reduceAdd, ↓reduceIte,decide_true,decide_false,kL,Bool.and_true,Bool.and_false,Bool.or_false,jD,Bool.or_true,Bool.or_self,and_self,iI,aC]
def G2:∀j,j<32->Nat.testBit 28799 j=(decide (j<7)||(decide (12<=j)&&decide (j<15))):=dT
def zi(x k:Nat)(a:cW k=4):Jw (xW k x)=(bo (bo (ck k ||| (bo (bo 0 7 5 ((ed ((bo (bo 0 0 5 (br x 7 5)) 5 7 (br x 25 7))*2 ^ 0%4294967296) 12)/2 ^ 0)) 25 7 (((ed ((bo (bo 0 0 5 (br x 7 5)) 5 7 (br x 25 7))*2 ^ 0%4294967296) 12)/2 ^ 0)/2 ^ 5))) 15 5 (br x 15 5)) 20 5 (br x 20 5)):=by
 simp[Jw,xW,a,EG,yW,uS,vS,qN,eQ,xH,rZ,Ag,tT,Ib,List.foldl,kj,Int.toNat_natCast,List.map,List.sum_cons,List.sum_nil,Nat.reduceAdd,Nat.reduceBEq,Bool.or_false,Bool.or_true, ↓reduceIte,Nat.reduceEqDiff,or_self,cS]
set_option maxRecDepth 100000 in
set_option maxHeartbeats 4000000 in
theorem F9(x k:Nat)(b:cW k=4)(d:x&&&28799=ck k):∀j,j<32->(Jw (xW k x)).testBit j=x.testBit j:=by
 have a:∀j,j<32->(ck k).testBit j=(x.testBit j&&(decide _||(decide _&&decide _))):=λj c=>by rw[<-d,Nat.testBit_and,G2 j c]
 rw[zi x k b];apply kb;simp only[Nat.testBit_or,kk,UG,fK,kY,kD,a,Nat.zero_testBit,XF,Nat.reduceLT,Nat.reduceLeDiff,Nat.reduceSub,Nat.reduceAdd, ↓reduceIte,decide_true,decide_false,kL,Bool.and_true,Bool.and_false,Bool.or_false,jD,Bool.or_true,Bool.or_self,and_self,iI,aC]
def Ky:∀j,j<32->Nat.testBit 28799 j=(decide (j<7)||(decide (12<=j)&&decide (j<15))):=dT
def BY(x k:Nat)(a:cW k=5):Jw (xW k x)=(bo (bo (ck k ||| (bo (bo (bo (bo 0 8 4 ((ed ((bo (bo (bo (bo 0 0 4 (br x 8 4)) 4 6 (br x 25 6)) 10 1 (br x 7 1)) 11 1 (br x 31 1))*2 ^ 1%4294967296) 13)/2 ^ 1)) 25 6 (((ed ((bo (bo (bo (bo 0 0 4 (br x 8 4)) 4 6 (br x 25 6)) 10 1 (br x 7 1)) 11 1 (br x 31 1))*2 ^ 1%4294967296) 13)/2 ^ 1)/2 ^ 4)) 7 1 ((((ed ((bo (bo (bo (bo 0 0 4 (br x 8 4)) 4 6 (br x 25 6)) 10 1 (br x 7 1)) 11 1 (br x 31 1))*2 ^ 1%4294967296) 13)/2 ^ 1)/2 ^ 4)/2 ^ 6)) 31 1 (((((ed ((bo (bo (bo (bo 0 0 4 (br x 8 4)) 4 6 (br x 25 6)) 10 1 (br x 7 1)) 11 1 (br x 31 1))*2 ^ 1%4294967296) 13)/2 ^ 1)/2 ^ 4)/2 ^ 6)/2 ^ 1))) 15 5 (br x 15 5)) 20 5 (br x 20 5)):=by
 simp[Jw,xW,a,EG,yW,uS,vS,qN,eQ,xH,rZ,Ag,tT,Ib,List.foldl,kj,Int.toNat_natCast,List.map,List.sum_cons,List.sum_nil,Nat.reduceAdd,Nat.reduceBEq,Bool.or_false,Bool.or_true, ↓reduceIte,Nat.reduceEqDiff,or_self,cS]
set_option maxRecDepth 100000 in
set_option maxHeartbeats 4000000 in
theorem zh(x k:Nat)(b:cW k=5)(d:x&&&28799=ck k):∀j,j<32->(Jw (xW k x)).testBit j=x.testBit j:=by
 have a:∀j,j<32->(ck k).testBit j=(x.testBit j&&(decide _||(decide _&&decide _))):=λj c=>by rw[<-d,Nat.testBit_and,Ky j c]
 rw[BY x k b];apply kb;simp only[Nat.testBit_or,kk,UG,fK,kY,kD,a,Nat.zero_testBit,XF,Nat.reduceLT,Nat.reduceLeDiff,Nat.reduceSub,Nat.reduceAdd, ↓reduceIte,decide_true,decide_false,kL,Bool.and_true,Bool.and_false,Bool.or_false,jD,Bool.or_true,Bool.or_self,and_self,iI,aC]
def zq:∀j,j<32->Nat.testBit 127 j=(decide (j<7)):=dT
def yp(x k:Nat)(a:cW k=6):Jw (xW k x)=(bo (ck k ||| (bo 0 12 20 ((ed ((bo 0 0 20 (br x 12 20))*2 ^ 12%4294967296) 32)/2 ^ 12))) 7 5 (br x 7 5)):=by
 simp[Jw,xW,a,EG,yW,uS,vS,qN,eQ,xH,rZ,Ag,tT,Ib,List.foldl,kj,Int.toNat_natCast,List.map,List.sum_cons,List.sum_nil,Nat.reduceAdd,Nat.reduceBEq,Bool.or_false,Bool.or_true, ↓reduceIte,Nat.reduceEqDiff,or_self,cS]
set_option maxRecDepth 100000 in
set_option maxHeartbeats 4000000 in
theorem x9(x k:Nat)(b:cW k=6)(d:x&&&127=ck k):∀j,j<32->(Jw (xW k x)).testBit j=x.testBit j:=by
 have a:∀j,j<32->(ck k).testBit j=(x.testBit j&&(decide _)):=λj c=>by rw[<-d,Nat.testBit_and,zq j c]
 rw[yp x k b];apply kb;simp only[Nat.testBit_or,kk,UG,fK,kY,kD,a,Nat.zero_testBit,XF,Nat.reduceLT,Nat.reduceLeDiff,Nat.reduceSub,Nat.reduceAdd, ↓reduceIte,decide_true,decide_false,kL,Bool.and_true,Bool.and_false,Bool.or_false,jD,and_self,iI,aC]
def z6:∀j,j<32->Nat.testBit 127 j=(decide (j<7)):=dT
def A3(x k:Nat)(a:cW k=7):Jw (xW k x)=(bo (ck k ||| (bo (bo (bo (bo 0 21 10 ((ed ((bo (bo (bo (bo 0 0 10 (br x 21 10)) 10 1 (br x 20 1)) 11 8 (br x 12 8)) 19 1 (br x 31 1))*2 ^ 1%4294967296) 21)/2 ^ 1)) 20 1 (((ed ((bo (bo (bo (bo 0 0 10 (br x 21 10)) 10 1 (br x 20 1)) 11 8 (br x 12 8)) 19 1 (br x 31 1))*2 ^ 1%4294967296) 21)/2 ^ 1)/2 ^ 10)) 12 8 ((((ed ((bo (bo (bo (bo 0 0 10 (br x 21 10)) 10 1 (br x 20 1)) 11 8 (br x 12 8)) 19 1 (br x 31 1))*2 ^ 1%4294967296) 21)/2 ^ 1)/2 ^ 10)/2 ^ 1)) 31 1 (((((ed ((bo (bo (bo (bo 0 0 10 (br x 21 10)) 10 1 (br x 20 1)) 11 8 (br x 12 8)) 19 1 (br x 31 1))*2 ^ 1%4294967296) 21)/2 ^ 1)/2 ^ 10)/2 ^ 1)/2 ^ 8))) 7 5 (br x 7 5)):=by
 simp[Jw,xW,a,EG,yW,uS,vS,qN,eQ,xH,rZ,Ag,tT,Ib,List.foldl,kj,Int.toNat_natCast,List.map,List.sum_cons,List.sum_nil,Nat.reduceAdd,Nat.reduceBEq,Bool.or_false,Bool.or_true, ↓reduceIte,Nat.reduceEqDiff,or_self,cS]
set_option maxRecDepth 100000 in
set_option maxHeartbeats 4000000 in
theorem yo(x k:Nat)(b:cW k=7)(d:x&&&127=ck k):∀j,j<32->(Jw (xW k x)).testBit j=x.testBit j:=by
 have a:∀j,j<32->(ck k).testBit j=(x.testBit j&&(decide _)):=λj c=>by rw[<-d,Nat.testBit_and,z6 j c]
 rw[A3 x k b];apply kb;simp only[Nat.testBit_or,kk,UG,fK,kY,kD,a,Nat.zero_testBit,XF,Nat.reduceLT,Nat.reduceLeDiff,Nat.reduceSub,Nat.reduceAdd, ↓reduceIte,decide_true,decide_false,kL,Bool.and_true,Bool.and_false,Bool.or_false,jD,and_self,iI,aC]
def CG:∀j,j<32->Nat.testBit 4294967295 j=(true):=dT
def zd(x k:Nat)(a:cW k=8):Jw (xW k x)=(ck k ||| 0):=by
 simp[Jw,xW,a,EG,yW,uS,vS,qN,eQ,tT,List.foldl,Int.toNat_natCast,Nat.reduceBEq,Bool.or_false, ↓reduceIte,Nat.reduceEqDiff,or_true,cS]
set_option maxRecDepth 100000 in
set_option maxHeartbeats 4000000 in
theorem Jo(x k:Nat)(b:cW k=8)(d:x&&&4294967295=ck k):∀j,j<32->(Jw (xW k x)).testBit j=x.testBit j:=by
 have a:∀j,j<32->(ck k).testBit j=(x.testBit j&&(true)):=λj c=>by rw[<-d,Nat.testBit_and,CG j c]
 rw[zd x k b];apply kb;simp[Nat.testBit_or,a,Nat.zero_testBit,Nat.reduceLT,Bool.and_true,Bool.or_false,and_self]
def Dc(v:Nat)(f:Nat)(a:v<4294967296):(tT v (eQ f)).1<4294967296:=
 (BB _ _ (oT:0<4294967296) a (vF f).1).1
def Ry(i)(c:i.k<4294967296):Jw i<4294967296:=by
 unfold Jw;have e:ck i.op.toNat ||| (tT (i.k/2 ^ qN (cW i.op)) (eQ (cW i.op))).1<4294967296:=
  kQ (n:=32) (HZ _) (Dc _ _ (bL (cO _ _) c))
 dsimp only
 repeat' (first|assumption|refine (λw a v d b=>EJ w a 5 v b d) _ _ _ ?_ oT|split)
def KC(f x)(b:f<=8):EG f x<4294967296:=by
 have a:f=0∨f=1∨f=2∨f=3∨f=4∨f=5∨f=6∨f=7∨f=8:=oT;unfold EG;split
 ·exact aQ _ oT
 split
 ·omega
 apply Ia _ _;rcases a with rfl|rfl|rfl|rfl|rfl|rfl|rfl|rfl|rfl<;>decide
def AY(a)(b:1<=a∧a<=48):1<=cW a:=by
 unfold cW
 repeat' (split<;>try omega)
def D6(x k)(g:1<=k∧k<=48)(b:Lh x k=true)(d:x<4294967296):Jw (xW k x)=x:=by
 have a:x&&&qH (cW k)=ck k:=by unfold Lh at b;exact pU.1 b
 apply G4 (Ry _ (KC _ _ (sB _))) d;have e:=sB (k:Int);have f:=AY (k:Int) ⟨oT,oT⟩;have c:cW k=1∨cW k=2∨cW k=3∨cW k=4∨cW k=5∨cW k=6∨cW k=7∨cW k=8:=oT;rcases c with h|h|h|h|h|h|h|h<;>rw[h]at a
 ·exact F3 x k h a
 ·exact Br x k h a
 ·exact G1 x k h a
 ·exact F9 x k h a
 ·exact zh x k h a
 ·exact x9 x k h a
 ·exact yo x k h a
 exact Jo x k h a
def Fp(x)(h:e4 x≠0):1<=e4 x∧e4 x<=48∧Lh x (e4 x)=true:=by
 rcases r8 x 48 1 with h'|⟨a,c,b, -⟩
 ·exact absurd h' h
 exact⟨a,by unfold e4;omega,b⟩
def z1(x)(h:e4 x≠0)(d:x<4294967296):Jw (bi x)=x:=by
 let⟨a,b,c⟩:=Fp x h;unfold bi;rw[dZ h];exact D6 x _ ⟨a,b⟩ c d
end Go.Proofs.YtmbhlpgmfafmbaaGreatDoor
