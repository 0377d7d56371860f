/- Lemmas. -/
import Derived.Test.YtdhclfgoomldfaaGreatDoorS1
import Derived.Test.YtdhclfgoomldfaaGreatDoorS30
import Derived.Test.YtdhclfgoomldfaaGreatDoorS36
import Derived.Test.YtdhclfgoomldfaaGreatDoorS37
import Derived.Test.YtdhclfgoomldfaaGreatDoorS40
set_option linter.all false
namespace Go.Proofs.YtdhclfgoomldfaaGreatDoor
open Go.Proofs.Tryz
set_option maxRecDepth 100000
set_option maxHeartbeats 4000000
open Go.RowKit
def ji(l:List Int)(k:Nat):Int:=fq (l.take k)
def xb{l:List Int}{k:Nat}{x:Int}(h:l[k]?=some x):ji l (k+1)=if x>ji l k then x else ji l k:=by
 unfold ji fq;rw[bW,h,List.foldl_append];rfl
def P0{l:List Int}{k:Nat}{x:Int}(h:l[k]?=some x)(q:decide (x>ji l k)=true):x=ji l (k+1):=by
 rw[xb h,aa (a6 q)]
def Q6{l:List Int}{k:Nat}{x:Int}(h:l[k]?=some x)(q:decide (x>ji l k)=false):ji l k=ji l (k+1):=by
 rw[xb h,dZ (aF q)]
def rz{a b:Int}(d:0<=a∧a<=1000000)(c:0<=b∧b<=1000):wrap64 (a*b)=a*b:=by
 have e:0<=a*b:=Int.mul_nonneg d.1 c.1;have f:a*b<=1000000*1000:=Int.mul_le_mul d.2 c.2 c.1 dT;unfold wrap64;omega
def l3{a b:Int}(c:0<=a∧a<=1000000000)(d:0<=b∧b<=1000000000):wrap64 (a+b)=a+b:=by unfold wrap64;omega
structure yf(f:Cf):Prop where
 s:0<=f.A∧f.A<=6
 t:0<=f.W∧f.W<=4
 e:0<=f.Q∧f.Q<=4
 w:0<=f.ways∧f.ways<=2
 m:0<=fq f.J∧fq f.J<=8
 p:0<=f.Q*f.ways∧f.Q*f.ways<=8
 q:0<=(f.A+f.W+f.Q*f.ways+4)*(fq f.J+1)∧(f.A+f.W+f.Q*f.ways+4)*(fq f.J+1)<=1000
def xh(c:Cf):yf (bZ c):=by
 have h:=NS c.A 2 6 dT;have i:=NS c.W 1 4 dT;have j:=NS c.ways 1 2 dT;have k:=NS c.Q 1 4 dT;have l:=o' c;have d:(bZ c).A=bV c.A 2 6:=rfl;have f:(bZ c).W=bV c.W 1 4:=rfl;have g:(bZ c).ways=bV c.ways 1 2:=rfl;have a:(bZ c).Q=if bV c.Q 1 4=3 then 2 else bV c.Q 1 4:=rfl
 have e:0<=(bZ c).Q∧(bZ c).Q<=4:=by rw[a];split<;>omega
 have w:0<=(bZ c).ways∧(bZ c).ways<=2:=oT;have b:=Int.mul_nonneg e.1 w.1;have m:=Int.mul_le_mul e.2 w.2 w.1 dT;refine⟨oT,oT,e,w,oT,⟨b,oT⟩,Int.mul_nonneg oT oT,?_⟩;have:=Int.mul_le_mul (oT:(bZ c).A+(bZ c).W+(bZ c).Q*(bZ c).ways+4<=22) (oT:fq (bZ c).J+1<=9) oT dT;omega
def Rc(c:Cf)(j:c.ok):bI C0 15 [.agg (g0 c false false)] (vI (fq (bZ c).J)):=by
 refine bk func15 rfl ?_;have o:(bZ c).J.length<=64:=QT c;refine zC (ws c j)<|bw (x:=vN (((bZ c).J).length)) rfl rfl (cD bf ((bZ c).J)) ?_;refine c_ 0 rfl<|ee (κ:=Nat) (λk=>⟨a8 [(2,vI 0),(8,.Y 1 (((bZ c).J).map bf) false),(9,vN (((bZ c).J).length)),(3,vI (ji (bZ c).J k)),(10,vN k)],ap [(0,.box [vI c.mode,vI c.o,vI c.Z,vI c.queue,vI c.W,vI c.A,vI c.Q,vI c.ways,.Y 1 (c.J.map bf) false,vB c.tables,.Y 1 (c.tape.map dU) false])],8⟩) (λk=>k<=((bZ c).J).length) (λk=>((bZ c).J).length-k) 0 (λs=>s) (av (λs=>s) wT wH rfl) (aE _) ?_;intro k l;have n:k<=((bZ c).J).length:=l;have b:k<=64:=oT;refine bw (x:=vB (decide (k<(((bZ c).J).length)))) rfl rfl (am (bs _ _)) ?_;refine c_ 0 rfl<|zB rfl (λd=>?_) (λd=>?_)
 ·have f:=a6 d;obtain⟨x,e⟩:∃m,((bZ c).J)[k]?=some m:=⟨_,aA ad⟩;refine FO (bf x) (x:=.dp 1 0 (bf x)) rfl rfl rfl (⟨aG _,iH e⟩) rfl<|qR 0 rfl<|bw (x:=vB (decide (x>(ji (bZ c).J k)))) rfl rfl rfl ?_;refine c_ 0 rfl<|zB rfl (λa=>?_) (λa=>?_)
  ·have g:=a6 a;have h:k+1<=65:=aD b (aC 1);refine bw (x:=vN (k+1)) rfl rfl (ao (bH h rfl)) ?_;refine cN 0 rfl<|⟨k+1,λs=>s,av (λs=>s) ⟨⟨rfl,rfl⟩,⟨rfl,rfl⟩,⟨rfl,rfl⟩,⟨(ax (λz:Int=>vI z) (P0 e a)),rfl⟩,⟨rfl,rfl⟩,trivial⟩ wH rfl,oT,by show((bZ c).J).length-(k+1)<((bZ c).J).length-k;omega⟩
  have g:=aF a;have i:k+1<=65:=aD b (aC 1);refine bw (x:=vN (k+1)) rfl rfl (ao (bH i rfl)) ?_;refine cN 0 rfl<|⟨k+1,λs=>s,av (λs=>s) ⟨⟨rfl,rfl⟩,⟨rfl,rfl⟩,⟨rfl,rfl⟩,⟨(ax (λz:Int=>vI z) (Q6 e a)),rfl⟩,⟨rfl,rfl⟩,trivial⟩ wH rfl,oT,by show((bZ c).J).length-(k+1)<((bZ c).J).length-k;omega⟩
 have f:=aF d;exact dK rfl trivial rfl (by unfold ji;rw[aN oT];rfl)
def Q7(c:Cf)(b:c.ok):bI C0 7 [.agg (g0 c false false)] (vI (jj (bZ c))):=by
 refine ey func7 rfl ?_;obtain⟨⟨s1,ar⟩,⟨t1,t2⟩,⟨j,k⟩,⟨l,m⟩,⟨f,g⟩,⟨h,i⟩,⟨d,e⟩⟩:=xh c;have a:0<=((bZ c).A+(bZ c).W+(bZ c).Q*(bZ c).ways+4)*(fq (bZ c).J+1)*((bZ c).W+3)∧((bZ c).A+(bZ c).W+(bZ c).Q*(bZ c).ways+4)*(fq (bZ c).J+1)*((bZ c).W+3)<=1000000000:=by have:=Int.mul_nonneg d (oT:0<=(bZ c).W+3);have:=Int.mul_le_mul e (oT:(bZ c).W+3<=7) oT dT;omega
 refine zC (ws c b)<|bw (x:=vI ((bZ c).A+(bZ c).W)) rfl rfl (ao ((af _).trans (l3 oT oT))) ?_;refine qR 0 rfl<|bw (x:=vI ((bZ c).Q*(bZ c).ways)) rfl rfl (ao ((af _).trans (rz oT oT)))<|bw (x:=vI ((bZ c).A+(bZ c).W+(bZ c).Q*(bZ c).ways)) rfl rfl (ao ((af _).trans (l3 oT oT)))<|bw (x:=vI ((bZ c).A+(bZ c).W+(bZ c).Q*(bZ c).ways+4)) rfl rfl (ao ((af _).trans (l3 oT dT)))<|c_ 0 rfl<|Wz rfl<|oR 2 rfl<|g4 rfl (.inl rfl) (Rc c b)<|bw (x:=vI (fq (bZ c).J+1)) rfl rfl (ao ((af _).trans (l3 oT dT)))<|bw (x:=vI (((bZ c).A+(bZ c).W+(bZ c).Q*(bZ c).ways+4)*(fq (bZ c).J+1))) rfl rfl (ao ((af _).trans (rz oT oT)))<|oR 2 rfl<|bw (x:=vI ((bZ c).W+3)) rfl rfl (ao ((af _).trans (l3 oT dT)))<|bw (x:=vI (((bZ c).A+(bZ c).W+(bZ c).Q*(bZ c).ways+4)*(fq (bZ c).J+1)*((bZ c).W+3))) rfl rfl (ao ((af _).trans (rz oT oT)))<|bw (x:=vI (jj (bZ c))) rfl rfl (ao ((af _).trans ((l3 dT a)))) ?_;refine oR 1 rfl<|rE 30<|c1 0 rfl ?_;exact dK rfl trivial rfl rfl
def M5(prog:List Nat)(m:ByteArray)(k:Nat)(a:k<=600)(hp:∀x∈prog,x<=4294967295)(b:prog.length<=1000):∃(u:St) (T:List Sp),u.ok∧T.length<=600∧T.length=ed prog k (g3 m)∧
  bI C0 8 [.Y 1 (prog.map dU) false,.v (.string m),vN k] (.C [lw u,.Y 9 (T.map bj) false]):=by
 have h:=D_ prog m (k:Int) false hp (aL b dT);rw[(oT:(min (k:Int) 10000).toNat=k),Jj]at h;have e:((kf prog (g3 m) (ed prog k (g3 m))).map Prod.snd).length=ed prog k (g3 m):=by rw[aH,uw]
 exact⟨_,_,Si (Jk m) _,by rw[e];exact aL (AB ..) a,e,h⟩
def P1(b:Cf)(prog:List Nat)(m:ByteArray)(g:b.ok)(hp:∀x∈Bj prog,x<=4294967295){X:Co}(a:X=fX b (Bj prog) m)(k:Nat)(q:k<=600){B:Nat}(n:jj (bZ b)=(B:Int)){T:List Sp}(p:T.length=ed (Bj prog) (k/B) (g3 m)):
  (uN X k).ok (0+10*k)∧((uN X k).N.length>=k/B∨(uN X k).N.length>=T.length):=by
 have c:X.ok 0:=a ▸ Id b _ _ g hp;have d:0<=X.U.Z∧0<=X.U.queue:=by rw[a];exact HT b
 have e:jF X=true:=a ▸ HB _ _ _ (a ▸ c);have o:=wh (IT b (Bj prog) m g hp X a e) d;have i:X.mc:=by subst a;exact IS _ _ _ (EL c ad e)
 have f:X.prog=Bj prog:=by rw[a];exact F0 prog
 have hI:Iv X.prog X (g3 m):=by subst a;exact Iv.new _ _ _
 obtain⟨j,l⟩:=Rl a d o i hI k ad;refine⟨wW c k ad,?_⟩;by_cases h:(uN X k).halt=0
 ·have:=(l h).1;rw[n,Int.toNat_natCast]at this;exact .inl this
 have:=j h (k/B);rw[f, <-p]at this;exact .inr this
def qNq{N Q:Nat}(h:N/Q<=600):IntKind.wrap .i64 (Int.tdiv (N:Int) (Q:Int))=((N/Q:Nat):Int):=by
 rw[show Int.tdiv (N:Int) (Q:Int)=((N/Q:Nat):Int)from rfl]
 revert h;generalize N/Q=z;intro h;exact c3 ad ad
def sjN(a b:Nat):(if(b:Int)<(a:Int)then(b:Int)else(a:Int))=((min a b:Nat):Int):=by split<;>omega
def PL{a b r:Nat}(h:r>=a∨r>=b):decide ((r:Int)>=((min a b:Nat):Int))=true:=jP ad
def M6(a:Cf):∃B:Nat,jj (bZ a)=(B:Int)∧1<=B∧B<=8000:=by
 obtain⟨-,⟨t1,t2⟩, -, -, -, -,⟨b,c⟩⟩:=xh a;have:=Int.mul_nonneg b (oT:0<=(bZ a).W+3);have:=Int.mul_le_mul c (oT:(bZ a).W+3<=7) ad dT;refine⟨(jj (bZ a)).toNat,(lU ?_).symm,?_,?_⟩<;>unfold jj<;>omega
def N8(a:Cf)(prog:List Nat)(m:ByteArray)(n:Int)(d:a.ok)(hp:∀x∈prog,x<=4294967295)(q:prog.length<=9223372036854775807)(r:m.size<=9223372036854775807):bI C0 3 [.agg (g0 a false false),.Y 1 (prog.map dU) false,.v (.string m),vI n] (vB true):=by
 refine ey func3 rfl ?_;obtain⟨N,f⟩:∃N,N=nz n 600:=⟨_,rfl⟩;have j:(if(600:Int)<max n 0 then(600:Int)else max n 0)=(N:Int):=f ▸ Yn n 600;have i:N<=600:=f ▸ Ym _ _;have g:(Bj prog).length<=1000:=by unfold Bj;rw[aM];omega
 have b:=zD (P:=λx=>x<=4294967295) (n:=min prog.length 64) hp;obtain⟨X,c⟩:∃X,X=fX a (Bj prog) (Bk m):=⟨_,rfl⟩;have A:X.ok 0:=c ▸ Id a _ _ d b;obtain⟨Q,k,s,t⟩:=M6 a;have e:N/Q<=600:=aL (cO _ _) i;obtain⟨u,T,z,v,o,l⟩:=M5 (Bj prog) (Bk m) (N/Q) e b g;obtain⟨hZ,p⟩:=P1 a prog (Bk m) d b c N i k o;have w:min (N/Q) T.length<=600:=oT;have y:0+10*N<=890000:=oT;refine zC (J4 prog m q r)<|rW _ rfl (ao (We n 0))<|zW _ (ao j) ?_;refine g4 (x:=.agg (gr (uN X N))) rfl (.inl rfl) ((show bI C0 6 [.agg (g0 a false false),.Y 1 ((Bj prog).map dU) false,.v (.string (Bk m)),vN N] (.agg (gr (uN X N)))from J5 a (Bj prog) (Bk m) N d b g ad X c))<|dx 0 rfl<|dq 19 (gr (uN X N)) rfl rfl rfl<|qR 0 rfl<|g4 (x:=vN Q) rfl (.inl rfl) ((show bI C0 7 [.agg (g0 a false false)] (vN Q)from by have q:=Q7 a d;rw[k]at q;exact q))<|zM _ (hU (qNq e)) (by simp;omega) ?_;refine zC (l)<|zC (J3)<|gS rfl id<|fQ (x:=vN (((uN X N).N).length)) rfl id (cD bj ((uN X N).N)) ?_;refine az (x:=vN T.length) rfl id (cD bj T)<|az (x:=vN (min (N/Q) T.length)) rfl cq (ao (sjN _ _))<|az (x:=vB true) rfl cq (am (PL p))<|zN rfl (λh=>h) ?_;exact fT rfl rfl
end Go.Proofs.YtdhclfgoomldfaaGreatDoor
