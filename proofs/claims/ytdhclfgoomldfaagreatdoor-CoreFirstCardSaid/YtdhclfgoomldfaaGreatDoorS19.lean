/- Lemmas. -/
import Derived.Test.YtdhclfgoomldfaaGreatDoorS1
import Derived.Test.YtdhclfgoomldfaaGreatDoorS7
set_option linter.all false
namespace Go.Proofs.YtdhclfgoomldfaaGreatDoor
open Go.RowKit
def lh(x a s v j):(bi x a s v).testBit j=if j<a then x.testBit j else if j-a<s then v.testBit (j-a)else x.testBit j:=by
 unfold bi;rw[Nat.testBit_two_pow_mul_add _ (aQ _ (eI _))];by_cases b:j<a
 ·rw[aa b,aa b,eB];simp[b]
 rw[dZ b,dZ b,Nat.testBit_two_pow_mul_add _ (aQ _ (eI _))];by_cases c:j-a<s
 ·rw[aa c,aa c,eB];simp[c]
 rw[dZ c,dZ c,Nat.testBit_div_two_pow];congr 1;omega
def UG(x a s j):(an x a s).testBit j=(decide (j<s)&&x.testBit (j+a)):=by
 unfold an;rw[eB,Nat.testBit_div_two_pow,gJ]
def KB(x n):x.testBit n=decide (x/2 ^ n%2=1):=by
 rw[Nat.testBit_eq_decide_div_mod_eq]
def XF(x s j)(g:1<=s)(f:s<=32):(cp x s).testBit j=if j<s then x.testBit j else(decide (j<32)&&x.testBit (s-1)):=by
 unfold cp;have hp:=wV f;have e:=KB x (s-1);have c:4294967296-2 ^ s=2 ^ s*(2 ^ (32-s)-1):=by
  rw[Nat.mul_sub,iD, <-Nat.pow_add,(oT:s+(32-s)=32)]
 by_cases a:x/2 ^ (s-1)%2=1
 ·rw[aa a,e,c,gJ,Nat.testBit_two_pow_mul_add _ (aQ _ (eI _)),eB,dX];by_cases b:j<s
  ·simp[b]
  rw[dZ b,dZ b];by_cases d:j<32
  ·have:j-s<32-s:=oT;simp[this,d,a]
  have: ¬j-s<32-s:=oT;simp[this,d]
 rw[dZ a,e,eB];by_cases b:j<s
 ·simp[b]
 simp[b,a]
def lA(v low j):(v/2 ^ low).testBit j=v.testBit (j+low):=by
 rw[Nat.testBit_div_two_pow,gJ]
def Jw(i:SI):Nat:=
 let f:=cW i.op
 let a:=cg i.op.toNat ||| (tT (i.A/2 ^ qN f) (eQ f)).1
 let b:=if yW f then bi a 7 5 (i.rd%4294967296).toNat else a
 let c:=if uS f then bi b 15 5 (i.m%4294967296).toNat else b
 if vS f then bi c 20 5 (i.x%4294967296).toNat else c
def G4(n:Nat)(h:n<32):((n:Int)%4294967296).toNat=n:=oT
def ul{a b}(d:a<4294967296)(e:b<4294967296)(h:∀j,j<32->a.testBit j=b.testBit j):a=b:=by
 apply Nat.eq_of_testBit_eq;intro j;by_cases f:j<32
 ·exact h j f
 have c:4294967296<=2 ^ j:=aL (by decide:4294967296<=2 ^ 32) (bU oT oT);rw[Nat.testBit_lt_two_pow (ep d c),Nat.testBit_lt_two_pow (ep e c)]
def ks{P:Nat->Prop}(h:P 0∧P 1∧P 2∧P 3∧P 4∧P 5∧P 6∧P 7∧P 8∧P 9∧P 10∧P 11∧P 12∧P 13∧P 14∧P 15∧P 16∧P 17∧P 18∧P 19∧P 20∧P 21∧P 22∧P 23∧P 24∧P 25∧P 26∧P 27∧P 28∧P 29∧P 30∧P 31):∀j,j<32->P j:=by
 let⟨y,z,A,B,C,D,E,F,G,H,a,b,c,d,e,f,g,i,k,l,m,n,o,p,q,r,s,t,u,v,w,x⟩:=h;intro j J;have I:j=0∨j=1∨j=2∨j=3∨j=4∨j=5∨j=6∨j=7∨j=8∨j=9∨j=10∨j=11∨j=12∨j=13∨j=14∨j=15∨j=16∨j=17∨j=18∨j=19∨j=20∨j=21∨j=22∨j=23∨j=24∨j=25∨j=26∨j=27∨j=28∨j=29∨j=30∨j=31:=oT;rcases I with rfl|rfl|rfl|rfl|rfl|rfl|rfl|rfl|rfl|rfl|rfl|rfl|rfl|rfl|rfl|rfl|rfl|rfl|rfl|rfl|rfl|rfl|rfl|rfl|rfl|rfl|rfl|rfl|rfl|rfl|rfl|rfl
 ·exact y
 ·exact z
 ·exact A
 ·exact B
 ·exact C
 ·exact D
 ·exact E
 ·exact F
 ·exact G
 ·exact H
 ·exact a
 ·exact b
 ·exact c
 ·exact d
 ·exact e
 ·exact f
 ·exact g
 ·exact i
 ·exact k
 ·exact l
 ·exact m
 ·exact n
 ·exact o
 ·exact p
 ·exact q
 ·exact r
 ·exact s
 ·exact t
 ·exact u
 ·exact v
 ·exact w
 exact x
def lg(x a:Nat):(((an x a 5:Nat):Int)%4294967296).toNat=an x a 5:=G4 _ (iR x a 5)
def lB(v j):(v%4294967296).testBit j=(decide (j<32)&&v.testBit j):=by
 rw[(dT:(4294967296:Nat)=2 ^ 32),eB]
def I5:∀j,j<32->Nat.testBit 4261441663 j=(decide (j<7)||(decide (12<=j)&&decide (j<15))||decide (25<=j)):=dT
def J4(x k:Nat)(a:cW k=1):Jw (xW k x)=(bi (bi (bi (cg k ||| 0) 7 5 (an x 7 5)) 15 5 (an x 15 5)) 20 5 (an x 20 5)):=by
 simp[Jw,xW,a,EG,yW,uS,vS,qN,eQ,tT,List.foldl,lg,Int.toNat_natCast,Nat.reduceBEq,Bool.or_false, ↓reduceIte,Nat.reduceEqDiff,true_or]
set_option maxRecDepth 100000 in
set_option maxHeartbeats 4000000 in
theorem I6(x k:Nat)(b:cW k=1)(d:x&&&4261441663=cg k):∀j,j<32->(Jw (xW k x)).testBit j=x.testBit j:=by
 have a:∀j,j<32->(cg k).testBit j=(x.testBit j&&(decide _||(decide _&&decide _)||decide _)):=λj c=>by rw[<-d,Nat.testBit_and,I5 j c]
 rw[J4 x k b];apply ks;simp only[Nat.testBit_or,lh,UG,a,Nat.zero_testBit,Nat.reduceLT,Nat.reduceLeDiff,Nat.reduceSub,Nat.reduceAdd, ↓reduceIte,decide_true,decide_false,kL,Bool.and_true,Bool.and_false,Bool.or_false,Bool.or_true,Bool.or_self,and_self,iI,aC]
def I7:∀j,j<32->Nat.testBit 28799 j=(decide (j<7)||(decide (12<=j)&&decide (j<15))):=dT
def J5(x k:Nat)(a:cW k=2):Jw (xW k x)=(bi (bi (cg k ||| (bi 0 20 12 ((cp ((bi 0 0 12 (an x 20 12))*2 ^ 0%4294967296) 12)/2 ^ 0))) 7 5 (an x 7 5)) 15 5 (an x 15 5)):=by
 simp[Jw,xW,a,EG,yW,uS,vS,qN,eQ,xH,rZ,Ag,tT,Ib,List.foldl,lg,Int.toNat_natCast,List.map,List.sum_cons,List.sum_nil,Nat.reduceAdd,Nat.reduceBEq,Bool.or_false,Bool.or_true, ↓reduceIte,Nat.reduceEqDiff,or_self,cS]
set_option maxRecDepth 100000 in
set_option maxHeartbeats 4000000 in
theorem I8(x k:Nat)(b:cW k=2)(d:x&&&28799=cg k):∀j,j<32->(Jw (xW k x)).testBit j=x.testBit j:=by
 have a:∀j,j<32->(cg k).testBit j=(x.testBit j&&(decide _||(decide _&&decide _))):=λj c=>by rw[<-d,Nat.testBit_and,I7 j c]
 rw[J5 x k b];apply ks;simp only[Nat.testBit_or,lh,UG,fK,lA,lB,a,Nat.zero_testBit,XF,Nat.reduceLT,Nat.reduceLeDiff,Nat.reduceSub,Nat.reduceAdd, ↓reduceIte,decide_true,decide_false,kL,Bool.and_true,Bool.and_false,Bool.or_false,jD,Bool.or_true,Bool.or_self,and_self,iI,aC]
def I9:∀j,j<32->Nat.testBit 4261441663 j=(decide (j<7)||(decide (12<=j)&&decide (j<15))||decide (25<=j)):=dT
def J6(x k:Nat)(a:cW k=3):Jw (xW k x)=(bi (bi (cg k ||| (bi 0 20 5 (((bi 0 0 5 (an x 20 5))*2 ^ 0%4294967296)/2 ^ 0))) 7 5 (an x 7 5)) 15 5 (an x 15 5)):=by
 simp[Jw,xW,a,EG,yW,uS,vS,qN,eQ,rZ,Ag,tT,Ib,List.foldl,lg,Int.toNat_natCast,Nat.reduceAdd,Nat.reduceBEq,Bool.or_false,Bool.or_true, ↓reduceIte,cS]
set_option maxRecDepth 100000 in
set_option maxHeartbeats 4000000 in
theorem I_(x k:Nat)(b:cW k=3)(d:x&&&4261441663=cg k):∀j,j<32->(Jw (xW k x)).testBit j=x.testBit j:=by
 have a:∀j,j<32->(cg k).testBit j=(x.testBit j&&(decide _||(decide _&&decide _)||decide _)):=λj c=>by rw[<-d,Nat.testBit_and,I9 j c]
 rw[J6 x k b];apply ks;simp only[Nat.testBit_or,lh,UG,fK,lA,lB,a,Nat.zero_testBit,Nat.reduceLT,Nat.reduceLeDiff,Nat.reduceSub,Nat.reduceAdd, ↓reduceIte,decide_true,decide_false,kL,Bool.and_true,Bool.and_false,Bool.or_false,jD,Bool.or_true,Bool.or_self,and_self,iI,aC]
def I':∀j,j<32->Nat.testBit 28799 j=(decide (j<7)||(decide (12<=j)&&decide (j<15))):=dT
def IT(x k:Nat)(a:cW k=4):Jw (xW k x)=(bi (bi (cg k ||| (bi (bi 0 7 5 ((cp ((bi (bi 0 0 5 (an x 7 5)) 5 7 (an x 25 7))*2 ^ 0%4294967296) 12)/2 ^ 0)) 25 7 (((cp ((bi (bi 0 0 5 (an x 7 5)) 5 7 (an x 25 7))*2 ^ 0%4294967296) 12)/2 ^ 0)/2 ^ 5))) 15 5 (an x 15 5)) 20 5 (an x 20 5)):=by
 simp[Jw,xW,a,EG,yW,uS,vS,qN,eQ,xH,rZ,Ag,tT,Ib,List.foldl,lg,Int.toNat_natCast,List.map,List.sum_cons,List.sum_nil,Nat.reduceAdd,Nat.reduceBEq,Bool.or_false,Bool.or_true, ↓reduceIte,Nat.reduceEqDiff,or_self,cS]
set_option maxRecDepth 100000 in
set_option maxHeartbeats 4000000 in
theorem Jh(x k:Nat)(b:cW k=4)(d:x&&&28799=cg k):∀j,j<32->(Jw (xW k x)).testBit j=x.testBit j:=by
 have a:∀j,j<32->(cg k).testBit j=(x.testBit j&&(decide _||(decide _&&decide _))):=λj c=>by rw[<-d,Nat.testBit_and,I' j c]
 rw[IT x k b];apply ks;simp only[Nat.testBit_or,lh,UG,fK,lA,lB,a,Nat.zero_testBit,XF,Nat.reduceLT,Nat.reduceLeDiff,Nat.reduceSub,Nat.reduceAdd, ↓reduceIte,decide_true,decide_false,kL,Bool.and_true,Bool.and_false,Bool.or_false,jD,Bool.or_true,Bool.or_self,and_self,iI,aC]
def Ji:∀j,j<32->Nat.testBit 28799 j=(decide (j<7)||(decide (12<=j)&&decide (j<15))):=dT
def I0(x k:Nat)(a:cW k=5):Jw (xW k x)=(bi (bi (cg k ||| (bi (bi (bi (bi 0 8 4 ((cp ((bi (bi (bi (bi 0 0 4 (an x 8 4)) 4 6 (an x 25 6)) 10 1 (an x 7 1)) 11 1 (an x 31 1))*2 ^ 1%4294967296) 13)/2 ^ 1)) 25 6 (((cp ((bi (bi (bi (bi 0 0 4 (an x 8 4)) 4 6 (an x 25 6)) 10 1 (an x 7 1)) 11 1 (an x 31 1))*2 ^ 1%4294967296) 13)/2 ^ 1)/2 ^ 4)) 7 1 ((((cp ((bi (bi (bi (bi 0 0 4 (an x 8 4)) 4 6 (an x 25 6)) 10 1 (an x 7 1)) 11 1 (an x 31 1))*2 ^ 1%4294967296) 13)/2 ^ 1)/2 ^ 4)/2 ^ 6)) 31 1 (((((cp ((bi (bi (bi (bi 0 0 4 (an x 8 4)) 4 6 (an x 25 6)) 10 1 (an x 7 1)) 11 1 (an x 31 1))*2 ^ 1%4294967296) 13)/2 ^ 1)/2 ^ 4)/2 ^ 6)/2 ^ 1))) 15 5 (an x 15 5)) 20 5 (an x 20 5)):=by
 simp[Jw,xW,a,EG,yW,uS,vS,qN,eQ,xH,rZ,Ag,tT,Ib,List.foldl,lg,Int.toNat_natCast,List.map,List.sum_cons,List.sum_nil,Nat.reduceAdd,Nat.reduceBEq,Bool.or_false,Bool.or_true, ↓reduceIte,Nat.reduceEqDiff,or_self,cS]
set_option maxRecDepth 100000 in
set_option maxHeartbeats 4000000 in
theorem Jj(x k:Nat)(b:cW k=5)(d:x&&&28799=cg k):∀j,j<32->(Jw (xW k x)).testBit j=x.testBit j:=by
 have a:∀j,j<32->(cg k).testBit j=(x.testBit j&&(decide _||(decide _&&decide _))):=λj c=>by rw[<-d,Nat.testBit_and,Ji j c]
 rw[I0 x k b];apply ks;simp only[Nat.testBit_or,lh,UG,fK,lA,lB,a,Nat.zero_testBit,XF,Nat.reduceLT,Nat.reduceLeDiff,Nat.reduceSub,Nat.reduceAdd, ↓reduceIte,decide_true,decide_false,kL,Bool.and_true,Bool.and_false,Bool.or_false,jD,Bool.or_true,Bool.or_self,and_self,iI,aC]
def Jl:∀j,j<32->Nat.testBit 127 j=(decide (j<7)):=dT
def I1(x k:Nat)(a:cW k=6):Jw (xW k x)=(bi (cg k ||| (bi 0 12 20 ((cp ((bi 0 0 20 (an x 12 20))*2 ^ 12%4294967296) 32)/2 ^ 12))) 7 5 (an x 7 5)):=by
 simp[Jw,xW,a,EG,yW,uS,vS,qN,eQ,xH,rZ,Ag,tT,Ib,List.foldl,lg,Int.toNat_natCast,List.map,List.sum_cons,List.sum_nil,Nat.reduceAdd,Nat.reduceBEq,Bool.or_false,Bool.or_true, ↓reduceIte,Nat.reduceEqDiff,or_self,cS]
set_option maxRecDepth 100000 in
set_option maxHeartbeats 4000000 in
theorem Jm(x k:Nat)(b:cW k=6)(d:x&&&127=cg k):∀j,j<32->(Jw (xW k x)).testBit j=x.testBit j:=by
 have a:∀j,j<32->(cg k).testBit j=(x.testBit j&&(decide _)):=λj c=>by rw[<-d,Nat.testBit_and,Jl j c]
 rw[I1 x k b];apply ks;simp only[Nat.testBit_or,lh,UG,fK,lA,lB,a,Nat.zero_testBit,XF,Nat.reduceLT,Nat.reduceLeDiff,Nat.reduceSub,Nat.reduceAdd, ↓reduceIte,decide_true,decide_false,kL,Bool.and_true,Bool.and_false,Bool.or_false,jD,and_self,iI,aC]
def Jn:∀j,j<32->Nat.testBit 127 j=(decide (j<7)):=dT
def I2(x k:Nat)(a:cW k=7):Jw (xW k x)=(bi (cg k ||| (bi (bi (bi (bi 0 21 10 ((cp ((bi (bi (bi (bi 0 0 10 (an x 21 10)) 10 1 (an x 20 1)) 11 8 (an x 12 8)) 19 1 (an x 31 1))*2 ^ 1%4294967296) 21)/2 ^ 1)) 20 1 (((cp ((bi (bi (bi (bi 0 0 10 (an x 21 10)) 10 1 (an x 20 1)) 11 8 (an x 12 8)) 19 1 (an x 31 1))*2 ^ 1%4294967296) 21)/2 ^ 1)/2 ^ 10)) 12 8 ((((cp ((bi (bi (bi (bi 0 0 10 (an x 21 10)) 10 1 (an x 20 1)) 11 8 (an x 12 8)) 19 1 (an x 31 1))*2 ^ 1%4294967296) 21)/2 ^ 1)/2 ^ 10)/2 ^ 1)) 31 1 (((((cp ((bi (bi (bi (bi 0 0 10 (an x 21 10)) 10 1 (an x 20 1)) 11 8 (an x 12 8)) 19 1 (an x 31 1))*2 ^ 1%4294967296) 21)/2 ^ 1)/2 ^ 10)/2 ^ 1)/2 ^ 8))) 7 5 (an x 7 5)):=by
 simp[Jw,xW,a,EG,yW,uS,vS,qN,eQ,xH,rZ,Ag,tT,Ib,List.foldl,lg,Int.toNat_natCast,List.map,List.sum_cons,List.sum_nil,Nat.reduceAdd,Nat.reduceBEq,Bool.or_false,Bool.or_true, ↓reduceIte,Nat.reduceEqDiff,or_self,cS]
set_option maxRecDepth 100000 in
set_option maxHeartbeats 4000000 in
theorem Jx(x k:Nat)(b:cW k=7)(d:x&&&127=cg k):∀j,j<32->(Jw (xW k x)).testBit j=x.testBit j:=by
 have a:∀j,j<32->(cg k).testBit j=(x.testBit j&&(decide _)):=λj c=>by rw[<-d,Nat.testBit_and,Jn j c]
 rw[I2 x k b];apply ks;simp only[Nat.testBit_or,lh,UG,fK,lA,lB,a,Nat.zero_testBit,XF,Nat.reduceLT,Nat.reduceLeDiff,Nat.reduceSub,Nat.reduceAdd, ↓reduceIte,decide_true,decide_false,kL,Bool.and_true,Bool.and_false,Bool.or_false,jD,and_self,iI,aC]
def JP:∀j,j<32->Nat.testBit 4294967295 j=(true):=dT
def I3(x k:Nat)(a:cW k=8):Jw (xW k x)=(cg k ||| 0):=by
 simp[Jw,xW,a,EG,yW,uS,vS,qN,eQ,tT,List.foldl,Int.toNat_natCast,Nat.reduceBEq,Bool.or_false, ↓reduceIte,Nat.reduceEqDiff,or_true,cS]
set_option maxRecDepth 100000 in
set_option maxHeartbeats 4000000 in
theorem J0(x k:Nat)(b:cW k=8)(d:x&&&4294967295=cg k):∀j,j<32->(Jw (xW k x)).testBit j=x.testBit j:=by
 have a:∀j,j<32->(cg k).testBit j=(x.testBit j&&(true)):=λj c=>by rw[<-d,Nat.testBit_and,JP j c]
 rw[I3 x k b];apply ks;simp[Nat.testBit_or,a,Nat.zero_testBit,Nat.reduceLT,Bool.and_true,Bool.or_false,and_self]
def Dc(v:Nat)(f:Nat)(a:v<4294967296):(tT v (eQ f)).1<4294967296:=
 (BB _ _ (oT:0<4294967296) a (vF f).1).1
def Ry(i)(c:i.A<4294967296):Jw i<4294967296:=by
 unfold Jw;have e:cg i.op.toNat ||| (tT (i.A/2 ^ qN (cW i.op)) (eQ (cW i.op))).1<4294967296:=
  kQ (n:=32) (HZ _) (Dc _ _ (bL (cO _ _) c))
 dsimp only
 repeat' (first|assumption|refine (λw a v d b=>EJ w a 5 v b d) _ _ _ ?_ oT|split)
def KC(f x)(b:f<=8):EG f x<4294967296:=by
 have a:f=0∨f=1∨f=2∨f=3∨f=4∨f=5∨f=6∨f=7∨f=8:=oT;unfold EG;split
 ·exact aQ _ oT
 split
 ·omega
 apply Ia _ _;rcases a with rfl|rfl|rfl|rfl|rfl|rfl|rfl|rfl|rfl<;>decide
def AY(a)(b:1<=a∧a<=48):1<=cW a:=by
 unfold cW
 repeat' (split<;>try omega)
def Fj(x k)(g:1<=k∧k<=48)(b:Lh x k=true)(d:x<4294967296):Jw (xW k x)=x:=by
 have a:x&&&qH (cW k)=cg k:=by unfold Lh at b;exact pU.1 b
 apply ul (Ry _ (KC _ _ (sB _))) d;have e:=sB (k:Int);have f:=AY (k:Int) ⟨oT,oT⟩;have c:cW k=1∨cW k=2∨cW k=3∨cW k=4∨cW k=5∨cW k=6∨cW k=7∨cW k=8:=oT;rcases c with h|h|h|h|h|h|h|h<;>rw[h]at a
 ·exact I6 x k h a
 ·exact I8 x k h a
 ·exact I_ x k h a
 ·exact Jh x k h a
 ·exact Jj x k h a
 ·exact Jm x k h a
 ·exact Jx x k h a
 exact J0 x k h a
def Fp(x)(h:dw x≠0):1<=dw x∧dw x<=48∧Lh x (dw x)=true:=by
 rcases x0 x 48 1 with h'|⟨a,c,b, -⟩
 ·exact absurd h' h
 exact⟨a,by unfold dw;omega,b⟩
def HX(x)(h:dw x≠0)(d:x<4294967296):Jw (bm x)=x:=by
 let⟨a,b,c⟩:=Fp x h;unfold bm;rw[dZ h];exact Fj x _ ⟨a,b⟩ c d
end Go.Proofs.YtdhclfgoomldfaaGreatDoor
