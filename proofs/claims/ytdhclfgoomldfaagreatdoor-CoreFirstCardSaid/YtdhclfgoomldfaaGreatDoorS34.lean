/- Lemmas. -/
import Derived.Test.YtdhclfgoomldfaaGreatDoorS1
import Derived.Test.YtdhclfgoomldfaaGreatDoorS30
import Derived.Test.YtdhclfgoomldfaaGreatDoorS31
import Derived.Test.YtdhclfgoomldfaaGreatDoorS33
set_option linter.all false
namespace Go.Proofs.YtdhclfgoomldfaaGreatDoor
open Go.Proofs.Tryz
set_option maxRecDepth 100000
set_option maxHeartbeats 4000000
open Go.RowKit
structure Co.I(c:Co)(n:Nat):Prop where
 ok:c.ok n
 nb:n<=890000
 cf:wA c.U=true
 data:gG c.data=true
 C:gG c.C=true
 N:sM c.N=true
 Z:c.Z.length<=1000
 Z6:c.Q.length<=1000
 Z_:c.W.length<=1000
 prog:c.prog.length<=1000
 mem:c.mem.size<=256
 ZM:∀x∈c.W,x.data.size<=4
theorem Co.I.Y{c:Co}{n}(h:c.I n):c.Y.length<=890000:=aL h.ok.Y h.nb
theorem Co.I.ret{c:Co}{n}(h:c.I n):c.O.length<=890000:=aL h.ok.ret h.nb
def pD{c}(h:wA c=true):c.y.length<=64∧c.tape.length<=64∧1<=c.k∧c.k<=2∧c.Z<=8∧2<=c.Z∧c.queue<=4∧1<=c.queue∧c.W<=4∧1<=c.W∧c.o<=6∧2<=c.o∧0<=c.mode∧c.mode<=2:=by
 unfold wA it at h;simp[aP,aY]at h;omega
theorem Co.I.U{c:Co}{n}(h:c.I n):c.U.ok:=⟨oH ((pD h.cf).1),oH ((pD h.cf).2.1),h.ok.U.tp⟩
theorem Co.I.d4{c:Co}{n}(h:c.I n):c.data.L.length<=4:=(kJ h.data).2.1
theorem Co.I.d2{c:Co}{n}(h:c.I n):∀s∈c.data.L,s.length<=2:=λs a=>by have:=kJ h.data;have:=this.2.2.2.2 s a;omega
def MU(agF)(c)(q)(m):(jm agF c q m).size=m.size:=by unfold jm Ct jZ;rw[iY,iY,iY]
def Ua(c)(n)(a:c.I n)(R F S T)(first):bI C0 95 [.dp 64 0 (ax c R F S T),vB first] (vB (tA c first)):=by
 refine bk func95 rfl<|zC (XR c.Y false (oH a.Y) (λx d=>(a.ok.a x d).R))<|zB rfl (λb=>?_) (λb=>?_)
 ·exact zV (vB (decide (((yH c.Y:Nat):Int)<c.U.o)))<|fT rfl (dR (by unfold tA;rw[aa b]))
 exact rW _ rfl (ar (c4 (oH (pD a.cf)) (oH (pD a.cf))))<|zV (vB (decide (((yH c.Y:Nat):Int)<(c.U.o-1))))<|fT rfl (dR (by unfold tA;rw[dZ (by rw[b];decide)]))
def QI{m a n:Nat}(h:kZ (m:Int) a (n:Int)=true):a+n<=m:=by
 unfold kZ at h;simp[aP,aY]at h;omega
def zb(m)(a n)(h:m.size<=1000)(d:a<=4294967295)(e:n<=4):bI C0 119 [.v (.string m),vU a,vN n] (.E [.v (.string (if kZ (m.size:Int) a (n:Int)=true then Cv m a n else oZ)),vI (if kZ (m.size:Int) a (n:Int)=true then 0 else 1)]):=by
 refine bk func119 rfl<|zV (vN m.size)<|zC (GY (m.size:Int) a (n:Int) ad (CI d))<|zB rfl (λc=>?_) (λc=>?_)
 ·have b: ¬kZ (m.size:Int) a (n:Int)=true:=sU c;exact fT rfl (by rw[dZ b,dZ b];rfl)
 have g:=QI (sU c:kZ (m.size:Int) a (n:Int)=true);refine zW _ (ar (bH d rfl)) ?_;refine rW _ rfl (ar (bH (aD d e) rfl))<|zM (.v (.string (m.extract a (a+n)))) rfl (by refine⟨?_,?_,?_⟩<;>(first|exact aG _|decide|(apply FG.2;exact ad))) ?_;have b:kZ (m.size:Int) a (n:Int)=true:=sU c;exact fT rfl (by rw[aa b,aa b];rfl)
def MV(c)(n)(a:c.I n)(R F T)(b)(e)(d:e.ok):bI C0 73 [.dp 64 0 (ax c R F (.X 2 (c.W.map aw) b) T),.agg (aj e)] (.v (.string (oL c e))):=by
 exact bk func73 rfl<|zR<|zC (A4 c.W c.data c.Y c.mem false b a.ok.data a.d4 a.d2 (oH a.mem) (oH a.Y) a.ok.a (oH a.Z_) a.ok.Z2)<|zC (Gd e.i)<|zC (zb (jm c.W c.data c.Y c.mem) e.V (a' e.i.op) (by rw[MU];have:=a.mem;omega) d.V (lQ e.i.op))<|fT rfl rfl
def Xb(c)(n)(m:c.I n)(F S T)(o)(agY)(a:agY<=4294967295):bI C0 161 [.dp 64 0 (ax c (.X 17 (c.Z.map aj) o) F S T),vU agY] (vB (Kt c agY)):=by
 refine e_ func161 rfl<|zC (As c.data agY m.ok.data a)<|zB rfl (λd=>?_) (λd=>?_)
 ·exact fT rfl (dR (by unfold Kt;rw[d];rfl))
 refine zW _ (cD aj c.Z)<|eh (λk=>⟨be [(1,vU agY),(21,vB ((bK c.data agY).2.isSome)),(26,.X 17 (c.Z.map aj) o),(27,vN c.Z.length),(28,vN k)],ap [],23⟩) (λk=>k<=c.Z.length∧(c.Z.take k).any (λe:ai=>e.Z4&&decide (ab e.V=agY))=false) (λk=>c.Z.length-k) 0 (λs=>s) (av (λs=>s) wT trivial rfl) (⟨aE _,rfl⟩) ?_;intro k j;have t:k<=c.Z.length:=j.1;refine b7 (am (bz _ _)) (λg=>?_) (λg=>?_)
 ·have p:=bj g;let⟨x,b⟩:=d7 c.Z k;have q:=m.ok.Z8 x (aB b);refine zX (aj x) (.dp 17 0 (aj x)) rfl (iH b)<|gS rfl id<|zQ rfl (λh=>h) rfl (.inl rfl) (λu=>tN x.V q.V)<|ay rfl cn (am (a6 _ _))<|zN rfl (λh=>h)<|zB rfl (λi=>?_) (λi=>?_)
  ·have z:=i;exact fT rfl (dR (by unfold Kt;rw[Jf b (by simpa [qA]using z)];simp))
  skip
  have r:k+1<=1001:=aD (oH m.Z) (aC 1);refine zW _ (ar (bH r rfl)) ?_;refine⟨k+1,λs=>s,av _ wT trivial rfl,⟨oT,Je b (by have z:=i;simpa [qA]using z) j.2⟩,c7⟩
 have p:=aF g;exact fT rfl (dR (by unfold Kt;rw[d,Mj ad j.2];rfl))
def zc(c)(n)(a:c.I n)(F S T)(e)(i)(s:i<c.Z.length):bI C0 88 [.dp 64 0 (ax c (.X 17 (c.Z.map aj) e) F S T),vN i] (vB (DN c i)):=by
 apply e_ func88 rfl;let⟨x,d⟩:=d7 c.Z i;have r:=a.ok.Z8 x (aB d);refine zX (aj x) (.dp 17 0 (aj x)) rfl (iH d)<|cN (x.is != 0) (λj=>?_) (λj=>?_)
 ·have g:=wM j;exact fT rfl (dR (by unfold DN;rw[d];dsimp only;rw[aa g]))
 have g:=wN j;refine zR<|zC (CD c.U.mode c.Z e i a.Z a.ok.Z8 (oH a.Z))<|zC (Fs x.i)<|zR<|zC (Kl c.Z c.r e i (x.i.m) a.Z a.ok.Z8 a.ok.r (oH a.Z))<|zC (pS x.i)<|b7 (am (a6 _ _)) (λk=>?_) (λk=>?_)
 ·have b:=mT k;exact zG rfl id<|pB rfl rfl rfl rfl (λh=>h) rfl rfl (λq p=>by first|(rw[q,p];rfl)|simp_all)<|zN rfl (by simp)<|fT rfl (dR (by unfold DN;rw[d];dsimp only;rw[dZ ad,aa b];simp[qA,ae,lG]))
 have b:=nA k;refine b7 (am (a6 _ _)) (λm=>?_) (λm=>?_)
 ·have o:=mT m;exact zN rfl (λh=>h)<|zN rfl (λh=>h)<|fT rfl (dR (by unfold DN;rw[d];dsimp only;rw[dZ ad,dZ b,aa o];simp[qA,ae,lG]))
 exact zR<|zC (VK c.Z c.r e i a.Z a.ok.Z8 a.ok.r (oH a.Z))<|zN rfl (λh=>h)<|fT rfl (dR (by unfold DN;rw[d];dsimp only;rw[dZ ad,dZ b,dZ (nA m)];simp[qA,ae,lG]))
theorem pM.Zy{P}{G}{f}{args}{g c}{L}{s}{r}(H:pM P G f args (ap ((0,g)::L)) s (λx h'=>x=r∧h'=ap ((0,c)::L)))(ρ)(K)(aq)(b:g4 (ap ((0,g)::L)) s=true)(h:iy ρ K s aq ((0,g)::L))(p:UQ ρ s=true)(n:mS s args=true)(q:eP r=true)(o:qM s c=true):
  pM P G f (Bg ρ args) K aq (λx h'=>x=r∧h'=ao K (ρ 0) (some (DI ρ c))):=by
 have t:0<s:=aJ h.1.2.1;refine H.ZF ρ K aq b h p n _ λu h' m=>?_;obtain⟨rfl,rfl⟩:=m;refine⟨_,⟨ol _ _ q,rfl⟩,λy blk a=>?_⟩;by_cases i:y=ρ 0
 ·subst i;rw[dB]at a;injection a with a;exact .inl ⟨0,c,rfl,(rL ρ ad).symm,by rw[<-a,yL ρ s aq c o]⟩
 rw[cI _ _ i]at a;by_cases k:∃x,x<s∧ρ x=y
 ·obtain⟨x,d,rfl⟩:=k;let⟨bb,b4⟩:=DQ.1 (uH b x d);have j:=h.get x bb b4;rw[j.2.2.2]at a;injection a with a;refine .inl ⟨x,bb,?_,(rL ρ ad).symm,?_⟩
  ·have:Nat.beq 0 x=false:=by rw[<-eJ];exact λe=>(λe=>i (by rw[e])) (aO e).symm
   simp[ap,this]at b4⊢;exact b4
  rw[<-a];exact(yL ρ s aq bb j.2.2.1).symm
 exact .inr ⟨a,λx d e=>k ⟨x,d,e⟩⟩
theorem pM.fB{P}{G}{f}{args}{b c}{L}{s}{r}(H:pM P G f args (ap ((0,b)::L)) s (λx h'=>x=r∧h'=ap ((0,c)::L)))(ρ){K}{aq}(a:g4 (ap ((0,b)::L)) s=true:=by rfl)(d:iy ρ K s aq ((0,b)::L):=by repeat (first|exact trivial|refine⟨d8,?_⟩))(bb:UQ ρ s=true:=by rfl)(e:mS s args=true:=by rfl)(h:eP r=true:=by rfl)(g:qM s c=true:=by rfl):
  pM P G f (Bg ρ args) K aq (λx h'=>x=r∧h'=ao K (ρ 0) (some (DI ρ c))):=H.Zy ρ K aq a d bb e h g
def o6{c}{agY}(h:(iQ c.data c.Y c.mem agY (lX c.U c.asked)).2.2=true):oK c agY={c with data:=(iQ c.data c.Y c.mem agY (lX c.U c.asked)).1,Y:=(iQ c.data c.Y c.mem agY (lX c.U c.asked)).2.1,asked:=wrap64 (c.asked+1)}:=by unfold oK;generalize iQ c.data c.Y c.mem agY _=t at h⊢;let⟨d,q,a⟩:=t;dsimp only at h;subst h;rfl
def AN{c}{agY}(h:(iQ c.data c.Y c.mem agY (lX c.U c.asked)).2.2=false):oK c agY={c with data:=(iQ c.data c.Y c.mem agY (lX c.U c.asked)).1,Y:=(iQ c.data c.Y c.mem agY (lX c.U c.asked)).2.1}:=by unfold oK;generalize iQ c.data c.Y c.mem agY _=t at h⊢;let⟨d,q,a⟩:=t;dsimp only at h;subst h;rfl
def mg(c)(n)(e:c.I n)(b)(agY)(a)(d:agY<=4294967295)(h)(m)(g)(k)(i)(o)(j)(p):pM C0.P C0.G 96 [.ptr 0 0,vI b,vU agY,.v (.string a)] (ap [(0,.box (ax c (.X 17 m h) (.X 2 k g) (.X 2 o i) (.X 9 p j)))]) 1 (λx h'=>x=.E []∧h'=ap [(0,.box (ax (jE c b agY a) (.X 17 m h) (.X 2 k g) (.X 2 o i) (.X 9 p j)))]):=by
 apply hZ 1 func96 rfl;exact a8<|oR 18 rfl<|a1 rfl (Fa c.U c.asked e.U e.ok.asked)<|oR 1 rfl<|a1 rfl (Ng c.Y b agY (lX c.U c.asked) a false (oH e.Y) e.ok.a d)<|oR 3 rfl<|a_ rfl<|rE 26<|qX 0 rfl<|rW _ rfl (ar (af _))<|dx 0 rfl<|a_ rfl<|dc 0 rfl<|de
def zx(c)(n)(e:c.I n)(b)(agY)(a)(d:agY<=4294967295)(k m)(h)(o)(g)(p)(i)(q)(j)(r):pM C0.P C0.G 96 [.ptr 0 0,vI b,vU agY,.v (.string a)] (ap [(0,.box (ax c (.S 1 k m h) (.X 2 p g) (.X 2 q i) (.X 9 r j))),(1,.arr o 17)]) 2 (λx h'=>x=.E []∧h'=ap [(0,.box (ax (jE c b agY a) (.S 1 k m h) (.X 2 p g) (.X 2 q i) (.X 9 r j))),(1,.arr o 17)]):=by
 apply hZ 2 func96 rfl;exact a8<|oR 18 rfl<|a1 rfl (Fa c.U c.asked e.U e.ok.asked)<|oR 1 rfl<|a1 rfl (Ng c.Y b agY (lX c.U c.asked) a false (oH e.Y) e.ok.a d)<|oR 3 rfl<|a_ rfl<|rE 27<|qX 0 rfl<|rW _ rfl (ar (af _))<|dx 0 rfl<|a_ rfl<|dc 0 rfl<|de
def AX(c)(n)(e:c.I n)(b)(agY)(a)(d:agY<=4294967295)(h)(o)(k m)(g)(rF)(i)(p)(j)(q):pM C0.P C0.G 96 [.ptr 0 0,vI b,vU agY,.v (.string a)] (ap [(0,.box (ax c (.X 17 o h) (.S 1 k m g) (.X 2 p i) (.X 9 q j))),(1,.arr rF 2)]) 2 (λx h'=>x=.E []∧h'=ap [(0,.box (ax (jE c b agY a) (.X 17 o h) (.S 1 k m g) (.X 2 p i) (.X 9 q j))),(1,.arr rF 2)]):=by
 apply hZ 2 func96 rfl;exact a8<|oR 18 rfl<|a1 rfl (Fa c.U c.asked e.U e.ok.asked)<|oR 1 rfl<|a1 rfl (Ng c.Y b agY (lX c.U c.asked) a false (oH e.Y) e.ok.a d)<|oR 3 rfl<|a_ rfl<|rE 27<|qX 0 rfl<|rW _ rfl (ar (af _))<|dx 0 rfl<|a_ rfl<|dc 0 rfl<|de
def CB(c)(n)(a:c.I n)(agY)(b:agY<=4294967295)(g)(k)(e)(j)(h)(m)(i)(o):pM C0.P C0.G 75 [.ptr 0 0,vU agY] (ap [(0,.box (ax c (.X 17 k g) (.X 2 j e) (.X 2 m h) (.X 9 o i)))]) 1 (λx h'=>x=.E []∧h'=ap [(0,.box (ax (oK c agY) (.X 17 k g) (.X 2 j e) (.X 2 m h) (.X 9 o i)))]):=by
 refine hZ 1 func75 rfl<|a8<|oR 28 rfl<|a1 rfl (Fa c.U c.asked a.U a.ok.asked)<|a1 rfl (Nb c.data c.Y c.mem agY (lX c.U c.asked) a.ok.data (oH a.Y) a.ok.a (oH a.mem) b)<|oR 7 rfl<|a_ rfl<|oR 3 rfl<|a_ rfl<|oR 1 rfl<|rE 45<|jq 0 rfl<|aV rfl (λd=>?_) (λd=>?_)
 ·refine qC 0 rfl<|rW _ rfl (ar (af _))<|dx 0 rfl<|a_ rfl ?_;rw[o6 d];exact dc 0 rfl<|de
 skip
 rw[AN d];exact i' 0 rfl<|de
def A0(c)(n)(a:c.I n)(agY)(b:agY<=4294967295)(j k)(g)(m)(e)(o)(h)(p)(i)(q):pM C0.P C0.G 75 [.ptr 0 0,vU agY] (ap [(0,.box (ax c (.S 1 j k g) (.X 2 o e) (.X 2 p h) (.X 9 q i))),(1,.arr m 17)]) 2 (λx h'=>x=.E []∧h'=ap [(0,.box (ax (oK c agY) (.S 1 j k g) (.X 2 o e) (.X 2 p h) (.X 9 q i))),(1,.arr m 17)]):=by
 refine hZ 2 func75 rfl<|a8<|oR 28 rfl<|a1 rfl (Fa c.U c.asked a.U a.ok.asked)<|a1 rfl (Nb c.data c.Y c.mem agY (lX c.U c.asked) a.ok.data (oH a.Y) a.ok.a (oH a.mem) b)<|oR 7 rfl<|a_ rfl<|oR 3 rfl<|a_ rfl<|oR 1 rfl<|rE 46<|jq 0 rfl<|aV rfl (λd=>?_) (λd=>?_)
 ·refine qC 0 rfl<|rW _ rfl (ar (af _))<|dx 0 rfl<|a_ rfl ?_;rw[o6 d];exact dc 0 rfl<|de
 skip
 rw[AN d];exact i' 0 rfl<|de
def zd(c)(n)(a:c.I n)(agY)(b:agY<=4294967295)(j m)(g)(p)(e)(r)(h)(s)(k o)(i)(q):pM C0.P C0.G 75 [.ptr 0 0,vU agY] (ap [(0,.box (ax c (.S 1 j m g) (.X 2 r e) (.X 2 s h) (.S 2 k o i))),(1,.arr p 17),(2,.arr q 9)]) 3 (λx h'=>x=.E []∧h'=ap [(0,.box (ax (oK c agY) (.S 1 j m g) (.X 2 r e) (.X 2 s h) (.S 2 k o i))),(1,.arr p 17),(2,.arr q 9)]):=by
 refine hZ 3 func75 rfl<|a8<|oR 28 rfl<|a1 rfl (Fa c.U c.asked a.U a.ok.asked)<|a1 rfl (Nb c.data c.Y c.mem agY (lX c.U c.asked) a.ok.data (oH a.Y) a.ok.a (oH a.mem) b)<|oR 7 rfl<|a_ rfl<|oR 3 rfl<|a_ rfl<|oR 1 rfl<|rE 47<|jq 0 rfl<|aV rfl (λd=>?_) (λd=>?_)
 ·refine qC 0 rfl<|rW _ rfl (ar (af _))<|dx 0 rfl<|a_ rfl ?_;rw[o6 d];exact dc 0 rfl<|de
 skip
 rw[AN d];exact i' 0 rfl<|de
def Xc(c)(n)(a:c.I n)(agY)(b:agY<=4294967295)(j o)(g)(r)(e)(t)(k p)(h)(rS)(m q)(i)(s):pM C0.P C0.G 75 [.ptr 0 0,vU agY] (ap [(0,.box (ax c (.S 1 j o g) (.X 2 t e) (.S 2 k p h) (.S 3 m q i))),(1,.arr r 17),(2,.arr rS 2),(3,.arr s 9)]) 4 (λx h'=>x=.E []∧h'=ap [(0,.box (ax (oK c agY) (.S 1 j o g) (.X 2 t e) (.S 2 k p h) (.S 3 m q i))),(1,.arr r 17),(2,.arr rS 2),(3,.arr s 9)]):=by
 refine hZ 4 func75 rfl<|a8<|oR 28 rfl<|a1 rfl (Fa c.U c.asked a.U a.ok.asked)<|a1 rfl (Nb c.data c.Y c.mem agY (lX c.U c.asked) a.ok.data (oH a.Y) a.ok.a (oH a.mem) b)<|oR 7 rfl<|a_ rfl<|oR 3 rfl<|a_ rfl<|oR 1 rfl<|rE 48<|jq 0 rfl<|aV rfl (λd=>?_) (λd=>?_)
 ·refine qC 0 rfl<|rW _ rfl (ar (af _))<|dx 0 rfl<|a_ rfl ?_;rw[o6 d];exact dc 0 rfl<|de
 skip
 rw[AN d];exact i' 0 rfl<|de
def uc(e)(d:e.ok):bI C0 77 [.agg (aj e)] (.agg (aj (a0 e))):=by
 refine bk func77 rfl<|cN (e.is != 1) (λa=>?_) (λa=>?_)
 ·replace a:=sP a;refine dK rfl cz rfl (oW ?_);simp[af,a0,a]<;>(intros;simp_all)
 refine zV (vI (IntKind.wrap .i64 (e.left-1)))<|cN (decide ((IntKind.wrap .i64 (e.left-1))<=0)) (λb=>?_) (λb=>?_)
 ·refine a1 rfl (pS e.i)<|zW _ (am (a6 _ _))<|gS rfl id<|ay rfl id rfl<|zN rfl (λh=>h)<|zB rfl (λc=>?_) (λc=>?_)
  all_goals
   replace a:=sP a;replace b:=sP b;replace c:=sP c
   first|refine dK rfl cz rfl (oW (e:=(⟨e.no,e.K,⟨e.i.op,e.i.rd,e.i.m,e.i.x,e.i.A⟩,e.N,3,0,e.value,e.next,e.V,e.halt,e.ZW,true,e.Z4⟩:ai)) ?_)|refine dK rfl cz rfl (oW (e:=(⟨e.no,e.K,⟨e.i.op,e.i.rd,e.i.m,e.i.x,e.i.A⟩,e.N,3,0,e.value,e.next,e.V,e.halt,e.ZW,e.known,e.Z4⟩:ai)) ?_)
   simp[af,a0,a,b,c]<;>(intros;simp_all)
 replace a:=sP a;replace b:=sP b;refine dK rfl cz rfl (oW (e:=(⟨e.no,e.K,⟨e.i.op,e.i.rd,e.i.m,e.i.x,e.i.A⟩,e.N,e.is,IntKind.wrap .i64 (e.left-1),e.value,e.next,e.V,e.halt,e.ZW,e.known,e.Z4⟩:ai)) ?_);simp[af,a0,a,b]<;>(intros;simp_all)
def XS(e)(a b)(k:e.ok)(m:a<=4294967295)(n:b<=4294967295):bI C0 137 [.agg (aj e),vU a,vU b] (.agg (aj (rJ e a b))):=by
 refine bk func137 rfl<|zC (pS e.i)<|zV (vB (e.is != 0))<|ay rfl id (am (a6 _ _))<|zN rfl (by simp)<|ay rfl id (am (a6 _ _))<|zN rfl (by simp)<|zB rfl (λc=>?_) (λc=>?_)
 ·replace c:=sP c;refine dK rfl cz rfl (oW ?_);simp[af,rJ,uE,b8,c]<;>(intros;simp_all)
 refine a1 rfl (Da e.i)<|cN ((wr e.i) != 0) (λd=>?_) (λd=>?_)
 all_goals
  first|refine zC (Nu e.i e.K a b (CI k.A) (CI k.K) (CI m) (CI n)) ?_|skip
  refine zV (vU ((e.K+4)%4294967296))<|b7 (am (a6 _ _)) (λg=>?_) (λg=>?_)
  ·replace c:=sP c;replace d:=sP d;replace g:=sP g
   first|refine dK rfl cz rfl (oW (e:=(⟨e.no,e.K,⟨e.i.op,e.i.rd,e.i.m,e.i.x,e.i.A⟩,e.N,1,3,BF e.i.op e.i.A e.K a b,(e.K+4)%4294967296,e.V,e.halt,e.ZW,e.known,e.Z4⟩:ai)) ?_)|refine dK rfl cz rfl (oW (e:=(⟨e.no,e.K,⟨e.i.op,e.i.rd,e.i.m,e.i.x,e.i.A⟩,e.N,1,3,0,(e.K+4)%4294967296,e.V,e.halt,e.ZW,e.known,e.Z4⟩:ai)) ?_)
   simp[af,rJ,uE,b8,c,d,g]<;>(intros;simp_all)
  refine b7 (am (a6 _ _)) (λh=>?_) (λh=>?_)
  ·apply zC (Xz e.i.op a b (CI m) (CI n));replace c:=sP c;replace d:=sP d;replace g:=sP g;replace h:=sP h
   first|refine dK rfl cz rfl (oW (e:=(⟨e.no,e.K,⟨e.i.op,e.i.rd,e.i.m,e.i.x,e.i.A⟩,e.N,1,(eu e.i.op a b:Int),BF e.i.op e.i.A e.K a b,(e.K+4)%4294967296,e.V,e.halt,(eu e.i.op a b:Int),e.known,e.Z4⟩:ai)) ?_)|refine dK rfl cz rfl (oW (e:=(⟨e.no,e.K,⟨e.i.op,e.i.rd,e.i.m,e.i.x,e.i.A⟩,e.N,1,(eu e.i.op a b:Int),0,(e.K+4)%4294967296,e.V,e.halt,(eu e.i.op a b:Int),e.known,e.Z4⟩:ai)) ?_)
   simp[af,rJ,uE,b8,c,d,g,h]<;>(intros;simp_all)
  refine b7 (am (a6 _ _)) (λi=>?_) (λi=>?_)
  ·refine zC (LW e.i e.K a b (CI k.A) (CI k.K) (CI m) (CI n))<|zB rfl (λj=>?_) (λj=>?_)
   all_goals
    replace c:=sP c;replace d:=sP d;replace g:=sP g;replace h:=sP h;replace i:=sP i;replace j:=sP j
    first|refine dK rfl cz rfl (oW (e:=(⟨e.no,e.K,⟨e.i.op,e.i.rd,e.i.m,e.i.x,e.i.A⟩,e.N,1,1,BF e.i.op e.i.A e.K a b,qP e.i.op e.i.A e.K a b,e.V,e.halt,e.ZW,e.known,e.Z4⟩:ai)) ?_)|refine dK rfl cz rfl (oW (e:=(⟨e.no,e.K,⟨e.i.op,e.i.rd,e.i.m,e.i.x,e.i.A⟩,e.N,1,1,0,qP e.i.op e.i.A e.K a b,e.V,e.halt,e.ZW,e.known,e.Z4⟩:ai)) ?_)|refine dK rfl cz rfl (oW (e:=(⟨e.no,e.K,⟨e.i.op,e.i.rd,e.i.m,e.i.x,e.i.A⟩,e.N,1,1,0,(e.K+4)%4294967296,e.V,3,e.ZW,e.known,e.Z4⟩:ai)) ?_)
    simp[af,rJ,uE,b8,c,d,g,h,i,j]<;>(intros;simp_all)
  replace c:=sP c;replace d:=sP d;replace g:=sP g;replace h:=sP h;replace i:=sP i
  first|refine dK rfl cz rfl (oW (e:=(⟨e.no,e.K,⟨e.i.op,e.i.rd,e.i.m,e.i.x,e.i.A⟩,e.N,1,1,BF e.i.op e.i.A e.K a b,(e.K+4)%4294967296,e.V,e.halt,e.ZW,e.known,e.Z4⟩:ai)) ?_)|refine dK rfl cz rfl (oW (e:=(⟨e.no,e.K,⟨e.i.op,e.i.rd,e.i.m,e.i.x,e.i.A⟩,e.N,1,1,0,(e.K+4)%4294967296,e.V,e.halt,e.ZW,e.known,e.Z4⟩:ai)) ?_)
  simp[af,rJ,uE,b8,c,d,g,h,i]<;>(intros;simp_all)
def VV(e)(size)(a)(j:e.ok)(g:size<9223372036854775808)(i:a<=4294967295):bI C0 135 [.agg (aj e),vI size,vU a] (.agg (aj (yC e size a))):=by
 refine bk func135 rfl<|zC (pS e.i)<|zW _ (am (db _ _))<|ay rfl id (am (db _ _))<|zN rfl (λh=>h)<|gS rfl id<|ay rfl id rfl<|zN rfl (by simp)<|gS rfl id<|zN rfl (by simp)<|zB rfl (λb=>?_) (λb=>?_)
 ·replace b:=sP b;refine dK rfl cz rfl (oW ?_);simp[af,yC,b]<;>(intros;simp_all)
 skip;refine zV (vU ((a+e.i.A)%4294967296))<|zR<|zC (Gd e.i)<|zC (GY size ((a+e.i.A)%4294967296) (a' e.i.op:Nat) g (aQ _ dT))<|zB rfl (λc=>?_) (λc=>?_)
 ·replace b:=sP b;replace c:=sP c;refine dK rfl cz rfl (oW (e:=(⟨e.no,e.K,⟨e.i.op,e.i.rd,e.i.m,e.i.x,e.i.A⟩,e.N,e.is,e.left,e.value,e.next,(a+e.i.A)%4294967296,e.halt,e.ZW,true,e.Z4⟩:ai)) ?_);simp[af,yC,b,c]<;>(intros;simp_all)
 refine b7 (am (a6 _ _)) (λd=>?_) (λd=>?_)
 all_goals
  replace b:=sP b;replace c:=sP c;replace d:=sP d
  first|refine dK rfl cz rfl (oW (e:=(⟨e.no,e.K,⟨e.i.op,e.i.rd,e.i.m,e.i.x,e.i.A⟩,e.N,3,e.left,e.value,e.next,(a+e.i.A)%4294967296,5,e.ZW,e.known,e.Z4⟩:ai)) ?_)|refine dK rfl cz rfl (oW (e:=(⟨e.no,e.K,⟨e.i.op,e.i.rd,e.i.m,e.i.x,e.i.A⟩,e.N,3,e.left,e.value,e.next,(a+e.i.A)%4294967296,4,e.ZW,e.known,e.Z4⟩:ai)) ?_)
  simp[af,yC,b,c,d]<;>(intros;simp_all)
def RR(e)(s)(i:e.ok)(g:s.size<9223372036854775808):bI C0 72 [.agg (aj e),.v (.string s)] (.agg (aj (uM e s))):=by
 refine bk func72 rfl<|a1 rfl (pS e.i)<|zW _ (am (db _ _))<|gS rfl id<|gS rfl id<|zN rfl (by simp)<|gS rfl id<|ay rfl id rfl<|zG rfl id<|gS rfl id<|ay rfl id rfl<|pB rfl rfl rfl rfl (λh=>h) rfl rfl (λd c=>by first|(rw[d,c];rfl)|simp_all)<|zN rfl (by simp)<|zB rfl (λa=>?_) (λa=>?_)
 ·replace a:=sP a;refine dK rfl cz rfl (oW ?_);simp[af,uM,a]<;>(intros;simp_all)
 skip
 refine a1 rfl (Da e.i)<|cN _ (λb=>?_) (λb=>?_)
 ·apply zC (y0 e.i.op s g);replace a:=sP a;replace b:=sP b;refine dK rfl cz rfl (oW (e:=(⟨e.no,e.K,⟨e.i.op,e.i.rd,e.i.m,e.i.x,e.i.A⟩,e.N,1,1,hL e.i.op s,e.next,e.V,e.halt,e.ZW,e.known,e.Z4⟩:ai)) ?_);simp[af,uM,a,b]<;>(intros;simp_all)
 replace a:=sP a;replace b:=sP b;refine dK rfl cz rfl (oW (e:=(⟨e.no,e.K,⟨e.i.op,e.i.rd,e.i.m,e.i.x,e.i.A⟩,e.N,1,1,0,e.next,e.V,e.halt,e.ZW,e.known,e.Z4⟩:ai)) ?_);simp[af,uM,a,b]<;>(intros;simp_all)
def XT(x n:Nat)(b:x<4294967296)(a:n<=4):bI C0 127 [vU x,vI (n:Int)] (vU (kY x n)):=by
 exact bk func127 rfl<|zC (Nv x n b a)<|zC (yM (oF x n) (by rw[mP];exact a))<|fT rfl rfl
def RS(e)(b)(d:e.ok)(c:b<=4294967295):bI C0 81 [.agg (aj e),vU b] (.agg (aj (uF e b))):=by
 refine bk func81 rfl<|a1 rfl (pS e.i)<|zW _ (am (db _ _))<|gS rfl id<|gS rfl id<|zN rfl (by simp)<|gS rfl id<|ay rfl id rfl<|zN rfl (by simp)<|zB rfl (λa=>?_) (λa=>?_)
 ·replace a:=sP a;refine dK rfl cz rfl (oW ?_);simp[af,uF,a]<;>(intros;simp_all)
 refine a1 rfl (Gd e.i)<|zC (XT b (a' e.i.op) (CI c) (lQ e.i.op)) ?_;replace a:=sP a;refine dK rfl cz rfl (oW (e:=(⟨e.no,e.K,⟨e.i.op,e.i.rd,e.i.m,e.i.x,e.i.A⟩,e.N,3,e.left,kY b (a' e.i.op),e.next,e.V,e.halt,e.ZW,e.known,e.Z4⟩:ai)) ?_);simp[af,uF,a]<;>(intros;simp_all)
def RT(e)(j:e.ok):bI C0 84 [.agg (aj e)] (.agg (bg (cA e))):=by
 refine bk func84 rfl<|cN (e.halt != 0) (λa=>?_) (λa=>?_)
 ·refine zV (.agg [vU e.K,vU e.K,vI 0,zU,zU,vI 0,vB false,vI e.halt,vI 0])<|zV (vB (e.halt==4))<|gS rfl id<|ay rfl id rfl<|zN rfl (by simp)<|zB rfl (λg=>?_) (λg=>?_)
  ·replace a:=sP a;replace g:=sP g;refine dK rfl cz rfl (DL (e:=⟨e.K,e.K,0,0,e.V,0,false,e.halt,0⟩) ?_);simp[cA,b8,a,g]<;>(intros;simp_all)
  replace a:=sP a;replace g:=sP g;refine dK rfl cz rfl (DL (e:=⟨e.K,e.K,0,0,0,0,false,e.halt,0⟩) ?_);simp[cA,b8,a,g]<;>(intros;simp_all)
 refine zR ?_;refine zV (vU ((e.K+4)%4294967296))<|zC (Da e.i)<|zV (.agg [vU e.K,vU ((e.K+4)%4294967296),vI (wr e.i),zU,zU,vI 0,vB false,vI 0,vI 0])<|cN ((wr e.i) != 0) (λb=>?_) (λb=>?_)
 all_goals
  refine zC (pS e.i)<|b7 (am (a6 _ _)) (λc=>?_) (λc=>?_)
  ·skip;apply zC (Gd e.i);replace a:=sP a;replace b:=sP b;replace c:=sP c;refine dK rfl cz rfl (DL (e:=⟨e.K,(e.K+4)%4294967296,wr e.i,e.value,e.V,a' e.i.op,true,0,0⟩) ?_);simp[cA,b8,a,b,c]<;>(intros;simp_all)
  refine b7 (am (a6 _ _)) (λd=>?_) (λd=>?_)
  ·apply zC (Gd e.i);replace a:=sP a;replace b:=sP b;replace c:=sP c;replace d:=sP d
   first|refine dK rfl cz rfl (DL (e:=⟨e.K,(e.K+4)%4294967296,wr e.i,e.value,e.V,a' e.i.op,false,0,0⟩) ?_)|refine dK rfl cz rfl (DL (e:=⟨e.K,(e.K+4)%4294967296,wr e.i,0,e.V,a' e.i.op,false,0,0⟩) ?_)
   simp[cA,b8,a,b,c,d]<;>(intros;simp_all)
  refine b7 (am (a6 _ _)) (λh=>?_) (λh=>?_)
  ·replace a:=sP a;replace b:=sP b;replace c:=sP c;replace d:=sP d;replace h:=sP h
   first|refine dK rfl cz rfl (DL (e:=⟨e.K,(e.K+4)%4294967296,wr e.i,e.value,0,0,false,0,e.ZW⟩) ?_)|refine dK rfl cz rfl (DL (e:=⟨e.K,(e.K+4)%4294967296,wr e.i,0,0,0,false,0,e.ZW⟩) ?_)
   simp[cA,b8,a,b,c,d,h]<;>(intros;simp_all)
  refine b7 (am (a6 _ _)) (λi=>?_) (λi=>?_)
  all_goals
   replace a:=sP a;replace b:=sP b;replace c:=sP c;replace d:=sP d;replace h:=sP h;replace i:=sP i
   first|refine dK rfl cz rfl (DL (e:=⟨e.K,e.next,wr e.i,e.value,0,0,false,0,0⟩) ?_)|refine dK rfl cz rfl (DL (e:=⟨e.K,e.next,wr e.i,0,0,0,false,0,0⟩) ?_)|refine dK rfl cz rfl (DL (e:=⟨e.K,(e.K+4)%4294967296,wr e.i,e.value,0,0,false,0,0⟩) ?_)|refine dK rfl cz rfl (DL (e:=⟨e.K,(e.K+4)%4294967296,wr e.i,0,0,0,false,0,0⟩) ?_)
   simp[cA,b8,a,b,c,d,h,i]<;>(intros;simp_all)
def C_(n:Nat):(if(0:Int)>(n:Int)then(0:Int)else(n:Int))=(n:Int):=dZ ad
def tg{n:Nat}(h:n<=1000):IntKind.wrap .i64 ((n:Int)-1)=(n:Int)-1:=c4 ad ad
def XU{k:Nat}(a:0<k)(h:k<=1000):IntKind.wrap .i64 (((k:Int)-1)-1)=((k-1:Nat):Int)-1:=by rw[c4 ad ad];omega
def A9{a b:Nat}(h:b<=a)(c:a<=4294967295):IntKind.wrap .u32 ((a:Int)-(b:Int))=((a-b:Nat):Int):=by
 rw[(oT:((a:Int)-(b:Int))=((a-b:Nat):Int))];exact nJ (by omega:a-b<=4294967295) rfl
def US(a n)(b:a<=4294967295)(c:n<=1000):bI C0 190 [vU a,vN n] (.v (.int .u64 ((a+n:Nat):Int))):=by
 apply bk func190 rfl;exact zW _ (ar (nJ b rfl))<|rW _ rfl (ar (C_ n))<|rW _ rfl (ar (nJ c rfl)) (zW _ (ar (nJ (aD b c) rfl))<|fT rfl rfl)
def zs(a n b m)(d:a<=4294967295)(i:n<=1000)(e:b<=4294967295)(g:m<=1000):bI C0 175 [vU a,vN n,vU b,vN m] (vB (h7 a n b m)):=by
 refine bk func175 rfl<|zW _ (am (jh _ _))<|ay rfl id (am (jh _ _))<|zN rfl (by simp)<|zB rfl (λc=>?_) (λc=>?_)
 ·exact fT rfl (dR (by have z:=c;simp[ae,qA,h7]at z⊢ <;>grind))
 exact zW _ (ar (nJ d rfl))<|a1 rfl (US b m e g)<|zW _ (am (bz _ _))<|e8 rfl id (ar (nJ e rfl))<|jQ rfl rfl rfl rfl cn rfl rfl rfl (.inl rfl) rfl (λj=>US a n d i)<|ay rfl cn (am (bz _ _))<|zN rfl (λh=>h)<|fT rfl (dR (by have z:=c;simp[ae,qA,h7]at z⊢ <;>grind))
def XV(a n b m)(c:a<=4294967295)(i:n<=1000)(d:b<=4294967295)(g:m<=1000):bI C0 176 [vU a,vN n,vU b,vN m] (vB (Fh a n b m)):=by
 exact bk func176 rfl<|zW _ (am (fw _ _))<|ay rfl cn (am (jh _ _))<|zN rfl (λh=>h)<|zQ rfl cn rfl (.inl rfl) (λe=>US b m d g)<|jQ rfl rfl rfl rfl cn rfl rfl rfl (.inl rfl) rfl (λe=>US a n c i)<|ay rfl cn (am (jh _ _))<|zN rfl (λh=>h)<|fT rfl (dR (by simp[ae,qA,Fh]<;>grind))
def Dd(s:Std):Value:=.agg #[.int .u32 (s.V:Int),.int .i64 (s.size:Int),.string s.data,.bool s.there]
def th(s:Std):Array Value:= #[Dd s]
abbrev x2(s:Std):List AV:=[vU s.V,vN s.size,.v (.string s.data),vB s.there]
def NN(R:List ai)(k:Nat):List Std:=(((R.drop k).filter λe=>gj e 4).map Fg).reverse
def UT(R:List ai)(S:List Pt)(k:Nat):List Std:=NN R 0++((S.drop k).map CY).reverse
def NO(R:List ai)(S:List Pt):FW R S=NN R 0++(S.map CY).reverse:=rfl
def FA{α}{l:List α}{k}{x}(b:0<k)(h:l[k-1]?=some x):l.drop (k-1)=x::l.drop k:=by
 obtain⟨a,rfl⟩:=Em.1 h;rw[bF a,(oT:k-1+1=k)]
def NP{R}{k}{x}(a:0<k)(h:R[k-1]?=some x)(b:gj x 4=true):NN R (k-1)=NN R k++[Fg x]:=by
 unfold NN;rw[FA a h,List.filter_cons_of_pos (sU b)];simp
def XW{R}{k}{x}(a:0<k)(h:R[k-1]?=some x)(b:gj x 4=false):NN R k=NN R (k-1):=by
 unfold NN;rw[FA a h,List.filter_cons_of_neg (sU b)]
def UU(R)(S)(k):NN R k <+: FW R S:=by
 rw[NO];refine List.IsPrefix.trans ?_ (List.prefix_append _ _);refine⟨(((R.take k).filter λe=>gj e 4).map Fg).reverse,?_⟩;unfold NN;rw[<-List.reverse_append, <-dH, <-mL,kb,bS]
def Ph(R):NN R R.length=[]:=by unfold NN;rw[List.drop_length];rfl
def KV{R}{S}{k}{x}(a:0<k)(h:S[k-1]?=some x):UT R S (k-1)=UT R S k++[CY x]:=by
 unfold UT;rw[FA a h];simp
def UV(R)(S)(k):UT R S k <+: FW R S:=by
 rw[NO];unfold UT;rw[List.prefix_append_right_inj];exact⟨((S.take k).map CY).reverse,by rw[<-List.reverse_append, <-dH,kb]⟩
def Pi(R)(S):UT R S S.length=NN R 0:=by unfold UT;rw[List.drop_length];simp
def UW(R:List ai)(S:List Pt):UT R S 0=FW R S:=rfl
def UX{R}{S}(d:∀x∈R,x.ok)(a:∀x∈S,x.ok)(b:∀x∈S,x.data.size<=4){s}(h:s∈FW R S):s.V<=4294967295∧s.size<=4∧s.data.size=s.size:=by
 unfold FW at h;rcases cx.1 h with h|h
 ·obtain⟨e,c,rfl⟩:=pG.1 (List.mem_reverse.1 h);exact⟨(d e (List.mem_filter.1 c).1).V,lQ _,mP _ _⟩
 obtain⟨p,hp,rfl⟩:=pG.1 (List.mem_reverse.1 h);exact⟨(a p hp).V,b p hp,rfl⟩
theorem DE{at_ n:Nat}:∀{l:List Std},(∀s,s∈l->h7 s.V s.size at_ n=false)->xK at_ n l=(2,oZ)
 |[],_=>rfl
 |s::l,h=>by
  simp[xK];rw[aa (h s b9)];exact DE λy a=>h y (bY _ a)
theorem Dh{at_ n:Nat}{s:Std}:∀{pre l:List Std},pre++[s] <+: l->(∀y,y∈pre->h7 y.V y.size at_ n=false)->h7 s.V s.size at_ n=true->
  xK at_ n l=if Fh s.V s.size at_ n=false∨s.there=false then(0,oZ)else(1,s.data.extract (at_-s.V) (at_-s.V+n))
 |[],[],h,_,_=>by have:=h.length_le;simp at this
 |[],y::l,h,_,a=>by
  let⟨t,b⟩:=h;obtain⟨rfl, -⟩:=List.cons.inj b
  simp only[xK];rw[dZ (by simp[a])]
 |y::pre,[],h,_,_=>by have:=h.length_le;simp at this
 |y::pre,z::l,h,c,a=>by
  let⟨t,b⟩:=h;let⟨d,e⟩:=List.cons.inj b;subst d;simp[xK];rw[aa (c y b9)];exact Dh ⟨t,e⟩ (λy g=>c y (bY _ g)) a
def RU(R)(S)(c a)(J:R.length<=1000)(K:∀x∈R,x.ok)(F:S.length<=1000)(E:∀x∈S,x.ok):RN C0 189 [.dp 1 0 ([.X 17 (R.map aj) c]),.dp 1 0 ([.X 2 (S.map aw) a])] th (FW R S):=by
 apply RN.intro gq func189 rfl rfl (by kernel_rfl) rfl;intro y;refine rQ<|rQ<|nU rfl<|a8<|oR 1 rfl<|rW _ rfl (cD aj R)<|rW _ rfl (ar (tg J))<|oR 1 rfl<|rE 4<|AA<|NH (κ:=Nat) (λk=>⟨be [(0,.v y),(1,.dp 1 0 ([.X 17 (R.map aj) c])),(2,.dp 1 0 ([.X 2 (S.map aw) a])),(4,vI ((k:Int)-1))],ap [],4⟩) (λk=>NN R k) (λk=>k<=R.length) (λk=>k) R.length (λs=>s) (av (λs=>s) wT trivial rfl) rfl (Ph R) (aC _) ?_;intro k I;have i:k<=1000:=by have:k<=R.length:=I;omega
 refine rQ<|rQ<|nU rfl<|a8<|oR 1 rfl<|rV (vB (decide (((k:Int)-1)>=0))) rfl<|rE 6<|Cz rfl (λn=>?_) (λn=>?_)
 ·have u:=bj n;have b:0<k:=oT;refine nU rfl<|mF<|rQ<|AA<|rQ<|nU rfl<|a8<|oR 2 rfl ?_;let⟨x,h⟩:=d7 R (k-1);have G:=K x (aB h);refine FO (aj x) rfl rfl rfl (⟨oT,by rw[(oT:((k:Int)-1).toNat=k-1)];exact iH h⟩) rfl<|oR 1 rfl<|e4 10 rfl rfl<|a_ rfl<|rE 12<|rQ<|rQ<|nU rfl<|a8<|oR 2 rfl<|a1 rfl (pS x.i)<|rW _ rfl (am (db _ _))<|rE 16<|Cz rfl (λo=>?_) (λo=>?_)
  ·have d:=wM o;have D:gj x 4=false:=by unfold gj;simpa using d
   refine nU rfl<|Bh<|nU rfl<|a8<|oR 1 rfl<|rW _ rfl (ar (XU b i))<|oR 1 rfl<|rE 19 ?_;refine⟨rfl,k-1,λs=>s,av _ wT trivial rfl,rfl,(XW b h D).symm,(oT:k-1<=R.length),(oT:k-1<k)⟩
  have d:=wN o;have m:gj x 4=true:=by unfold gj;simpa using d
  refine nU rfl<|mF<|rQ<|nU rfl<|a8<|oR 2 rfl<|a1 rfl (Gd x.i)<|oR 1 rfl<|rE 20<|rQ<|nU rfl<|a8<|oR 3 rfl<|a1 rfl (Nv x.value (a' x.i.op) (CI G.value) (lQ x.i.op))<|oR 5 rfl<|rE 29<|rQ<|NI rfl 9 rfl rfl rfl<|oR 7 rfl<|rV (vB (x.is==3)) rfl<|rV (.agg [vU x.V,vN (a' x.i.op),.v (.string (oF x.value (a' x.i.op))),vB (x.is==3)]) rfl<|rE 38 ?_;refine⟨Fg x,_,⟨be [(0,.v y),(1,.dp 1 0 ([.X 17 (R.map aj) c])),(2,.dp 1 0 ([.X 2 (S.map aw) a])),(4,vI ((k:Int)-1)),(36,.v y),(44,.agg [vU x.V,vN (a' x.i.op),.v (.string (oF x.value (a' x.i.op))),vB (x.is==3)])],ap [],0⟩,λs=>s,av _ wT trivial rfl,rfl,rfl,rfl,rfl,rfl,rfl,(by rw[<-NP b h m];exact UU R S _),λM=>?_⟩;refine oR 1 rfl<|rE 40<|Cz rfl (λq=>?_) (λq=>?_)
  ·refine nU rfl<|FQ ?_;intro g;rw[q]at g;cases g
  refine nU rfl<|mF<|nU rfl<|a8<|oR 1 rfl<|rW _ rfl (ar (XU b i))<|oR 1 rfl<|rE 43 ?_;refine⟨q,k-1,λs=>s,av _ wT trivial rfl,rfl,(NP b h m),(oT:k-1<=R.length),(oT:k-1<k)⟩
 have u:=aF n;refine nU rfl<|Bh<|rQ<|nU rfl<|a8<|oR 1 rfl<|rW _ rfl (cD aw S)<|rW _ rfl (ar (tg F))<|oR 1 rfl<|rE 10<|AA ?_;obtain C:k=0:=oT;subst C;apply NH (κ:=Nat) (λj=>⟨be [(0,.v y),(1,.dp 1 0 ([.X 17 (R.map aj) c])),(2,.dp 1 0 ([.X 2 (S.map aw) a])),(9,vI ((j:Int)-1))],ap [],10⟩) (λj=>UT R S j) (λj=>j<=S.length) (λj=>j) S.length (λs=>s) (av (λs=>s) wT trivial rfl) rfl (Pi R S) (aC _);intro j H;have w:j<=1000:=by have:j<=S.length:=H;omega
 refine rQ<|rQ<|nU rfl<|a8<|oR 1 rfl<|rV (vB (decide (((j:Int)-1)>=0))) rfl<|rE 12<|Cz rfl (λr=>?_) (λr=>?_)
 ·have v:=bj r;have e:0<j:=oT;refine nU rfl<|mF<|rQ<|AA<|rQ<|nU rfl<|a8<|oR 2 rfl ?_;let⟨p,hp⟩:=d7 S (j-1);have L:=E p (aB hp);refine FO (aw p) rfl rfl rfl (⟨oT,by rw[(oT:((j:Int)-1).toNat=j-1)];exact iH hp⟩) rfl<|oR 1 rfl<|e4 16 rfl rfl<|a_ rfl<|rE 18<|rQ<|NI rfl 9 rfl rfl rfl<|oR 5 rfl<|rV (vN p.data.size) rfl<|oR 2 rfl<|rV (.agg [vU p.V,vN p.data.size,.v (.string p.data),vB true]) rfl<|rE 27 ?_;refine⟨CY p,_,⟨be [(0,.v y),(1,.dp 1 0 ([.X 17 (R.map aj) c])),(2,.dp 1 0 ([.X 2 (S.map aw) a])),(9,vI ((j:Int)-1)),(58,.v y),(66,.agg [vU p.V,vN p.data.size,.v (.string p.data),vB true])],ap [],0⟩,λs=>s,av _ wT trivial rfl,rfl,rfl,rfl,rfl,rfl,rfl,(by rw[<-KV e hp];exact UV R S _),λN=>?_⟩;refine oR 1 rfl<|rE 29<|Cz rfl (λt=>?_) (λt=>?_)
  ·refine nU rfl<|FQ ?_;intro g;rw[t]at g;cases g
  refine nU rfl<|mF<|nU rfl<|a8<|oR 1 rfl<|rW _ rfl (ar (XU e w))<|oR 1 rfl<|rE 32 ?_;refine⟨t,j-1,λs=>s,av _ wT trivial rfl,rfl,(KV e hp),(oT:j-1<=S.length),(oT:j-1<j)⟩
 have v:=aF r;refine nU rfl<|Bh ?_;intro _;obtain z:j=0:=oT;subst z;exact UW R S
def RV(R:List ai)(S:List Pt)(b a)(e:R.length<=1000)(g:∀x∈R,x.ok)(d:S.length<=1000)(c:∀x∈S,x.ok):bI C0 174 [.X 17 (R.map aj) b,.X 2 (S.map aw) a] (.F 189 [] [.dp 1 0 [.X 17 (R.map aj) b],.dp 1 0 [.X 2 (S.map aw) a]]):=by
 apply bk func174 rfl;apply zV (.F 189 [] [.ptr 0 0,.ptr 1 0]);exact dK rfl hD rfl rfl
def UY{l:List ai}{k}{x}(h:∀y,y∈l.take k->Aw y=false)(b:l[k]?=some x)(a:Aw x=false):∀y,y∈l.take (k+1)->Aw y=false:=by
 intro y hy;rw[bW,b]at hy;rcases cx.1 hy with hy|hy
 ·exact h y hy
 have:y=x:=sU hy;rw[this];exact a
def UZ{agI}{agF}{i}{e}(a:agI[i]?=some e)(b: ¬ak e.i.op=3):lL agI agF i=(0,oZ):=by
 unfold lL;rw[a];exact aa b
def RW{agI}{agF}{i k:Nat}{e x}(a:agI[i]?=some e)(b:ak e.i.op=3)(d:(agI.take i)[k]?=some x)(c:Aw x=true):lL agI agF i=(0,oZ):=by
 unfold lL;rw[a];exact(dZ (λh=>h b)).trans (aa (Mv.2 ⟨x,aB d,c⟩))
def RX{agI}{agF}{i k}{e}(d:agI[i]?=some e)(g:ak e.i.op=3)(a:∀y,y∈(agI.take i).take k->Aw y=false)(b:(agI.take i).length<=k):lL agI agF i=xK e.V (a' e.i.op) (FW (agI.take i) agF):=by
 unfold lL;rw[d];refine(dZ (λh=>h g)).trans (dZ λh=>?_);let⟨x,j,c⟩:=Mv.1 h;rw[aN b]at a;rw[a x j]at c;cases c
def XX(agI)(agF)(g a)(i)(hl:agI.length<=1000)(R:∀x∈agI,x.ok)(H:agF.length<=1000)(v:∀x∈agF,x.ok)(W:∀x∈agF,x.data.size<=4)(hi:i<agI.length):bI C0 160 [.X 17 (agI.map aj) g,.X 2 (agF.map aw) a,vN i] (.E [vI (lL agI agF i).1,.v (.string (lL agI agF i).2)]):=by
 refine xy (bI.Y9 (C:=C1) (λd=>pl.wd d) (λn=>pl.at) func160 rfl rfl (by kernel_rfl) rfl ?_);have ag:i<=1000:=oT;have J:(agI.take i).length<=1000:=by rw[aM];omega
 have C:∀x∈agI.take i,x.ok:=λx q=>R x (cQ q);refine uO<|tQ rfl<|a8<|e4 0 rfl rfl<|e4 1 rfl rfl<|rE 2<|XO<|uO<|uO<|tQ rfl<|a8<|oR 1 rfl<|rW (vB (decide (i<0))) rfl (am (bz _ _))<|oR 1 rfl<|gN rfl<|gN rfl<|ay rfl id (cD aj agI)<|ay rfl cn (am (i9 _ _))<|bO rfl rfl rfl (by simp)<|oR 1 rfl<|gN rfl<|gN rfl ?_;let⟨e,j⟩:=d7 agI i;have b:=R e (aB j);refine DK (aj e) (x:=.dp 17 0 (aj e)) (g:= !(cE (decide (i<0)) true (decide (i>=agI.length)))) rfl rfl rfl rfl cn rfl rfl (λP=>⟨aG _,iH j⟩) rfl<|gS rfl id<|gS rfl id<|jQ (x:=vN (ak e.i.op)) (g:= !(cE (decide (i<0)) true (decide (i>=agI.length)))) rfl rfl rfl rfl (λh=>h) rfl rfl rfl (.inl rfl) rfl (λP=>pS e.i)<|ay rfl id (am (db _ _))<|bO rfl rfl rfl (by simp)<|rE 19<|VT (v:=cE (cE (decide (i<0)) true (decide (i>=agI.length))) true ((ak e.i.op) != 3)) rfl (λK=>?_) (λK=>?_)
 ·have c: ¬ak e.i.op=3:=by have z:=K;simp[ae]at z;grind
  refine uO<|tQ rfl<|a8<|a_ rfl<|a_ rfl<|rE 21<|tQ rfl<|FQ ?_;have m:=UZ (agF:=agF) j c;rw[m];exact fT rfl rfl
 have c:ak e.i.op=3:=by have z:=K;simp[ae]at z;grind
 refine tQ rfl<|mF<|uO<|uO<|tQ rfl<|a8<|oR 2 rfl<|nW (.X 17 ((agI.take i).map aj) (g&&false)) rfl (yB (vY aj agI i)) g7<|rW (vN i) rfl (vW aj (agI.take i) ad)<|oR 1 rfl<|rE 24<|Ja<|zq<|jR (κ:=Nat) (λk=>⟨be [(0,.X 17 (agI.map aj) g),(1,.X 2 (agF.map aw) a),(2,vN i),(6,.ptr 0 0),(7,.ptr 1 0),(30,vB (cE (cE (decide (i<0)) true (decide (i>=agI.length))) true ((ak e.i.op) != 3))),(33,.X 17 ((agI.take i).map aj) (g&&false)),(34,vN i),(35,vN k)],ap [(0,.box [vI 0]),(1,.box [.v (.string (⟨#[]⟩:ByteArray))])],24⟩) (λk=>k<=i∧∀y,y∈(agI.take i).take k->Aw y=false) (λk=>i-k) 0 (λs=>s) (av (λs=>s) wT wH rfl) (⟨aE _,nofun⟩) ?_;intro k Q;have ai:k<=i:=Q.1;refine bq<|rW (vB (decide (k<i))) rfl (am (bz _ _))<|rE 25<|uR<|aV rfl (λL=>?_) (λL=>?_)
 ·have U:=bj L;refine mF<|uR<|kO<|bq ?_;let⟨x,q⟩:=d7 (agI.take i) k;have al:=(zD R) x (aB q);refine ji (aj x) (.dp 17 0 (aj x)) rfl rfl (iH q) rfl<|oR 1 rfl<|e4 27 rfl rfl<|a_ rfl<|rE 29<|bq<|oR 2 rfl<|a1 rfl (pS x.i)<|rW (vB ((ak x.i.op)==4)) rfl (am (a6 _ _))<|oR 1 rfl<|gN rfl<|gS rfl id<|gS rfl id<|gS rfl id<|gN rfl<|gS rfl id<|ay rfl id rfl<|pB (x:=vB (cE (!x.known) true (x.halt != 0))) (g:=(ak x.i.op)==4) rfl rfl rfl rfl (λh=>h) rfl rfl (λP Z=>by first|(rw[P,Z];rfl)|simp_all)<|bO rfl rfl rfl (λh=>h)<|rE 43<|aV rfl (λM=>?_) (λM=>?_)
  ·have T:Aw x=true:=by have z:=M;unfold Aw gj;simp[ae,qA]at z⊢;grind
   refine bq<|a_ rfl<|a_ rfl<|rE 45<|FQ ?_;have m:=RW (agF:=agF) j c q T;rw[m];exact fT rfl rfl
  have T:Aw x=false:=by have z:=M;unfold Aw gj;simp[ae,qA]at z⊢;grind
  refine mF<|a8 ?_;have X:k+1<=1000001:=aD oT (aC 1);refine rW (vN (k+1)) rfl (ar (bH X rfl))<|oR 1 rfl<|rE 45 ?_;refine⟨k+1,λs=>s,av _ wT wH rfl,⟨oT,UY Q.2 q T⟩,c7⟩
 have U:=aF L;have r:=Q.2;have t:(agI.take i).length<=k:=by rw[aM];omega
 refine Bh<|uO<|tQ rfl<|a8<|oR 2 rfl<|ji (aj e) (.dp 17 0 (aj e)) rfl rfl (iH j) rfl<|oR 4 rfl<|ji (aj e) (.dp 17 0 (aj e)) rfl rfl (iH j) rfl<|oR 2 rfl<|a1 rfl (Gd e.i)<|e4 36 rfl rfl<|e4 37 rfl rfl<|a_ rfl<|a_ rfl<|rE 40<|uO<|tQ rfl<|zr<|uO<|uO<|tQ rfl<|a8<|oR 2 rfl<|nW (.X 17 ((agI.take i).map aj) (g&&false)) rfl (yB (vY aj agI i)) g7<|oR 1 rfl<|a1 rfl (RV (agI.take i) agF (g&&false) a J C H v)<|rE 45<|Ja<|Md (.mk _ (.refl _) ⟨⟨be [(6,.ptr 0 0),(7,.ptr 1 0),(10,.ptr 2 0),(11,.ptr 3 0),(69,.F 189 [] [.dp 1 0 ([.X 17 ((agI.take i).map aj) (g&&false)]),.dp 1 0 ([.X 2 (agF.map aw) a])])],ap [(0,.box [vI 0]),(1,.box [.v (.string (⟨#[]⟩:ByteArray))]),(2,.box [vU e.V]),(3,.box [vN (a' e.i.op)])],4⟩,λs=>match s with|2=>36|3=>37|s=>s,av _ wT wH rfl,rfl,?_⟩);refine .mk Std 189 [.dp 1 0 ([.X 17 ((agI.take i).map aj) (g&&false)]),.dp 1 0 ([.X 2 (agF.map aw) a])] (λs:Std=>[.agg (x2 s)]) th (FW (agI.take i) agF) (λs:Std=>h7 s.V s.size e.V (a' e.i.op)=false) 4 (λ_=>ap [(0,.box [vI 0]),(1,.box [.v (.string (⟨#[]⟩:ByteArray))]),(2,.box [vU e.V]),(3,.box [vN (a' e.i.op)])]) (λ_=>4) rfl rfl ⟨_,func189,rfl,rfl⟩ (RU (agI.take i) agF (g&&false) a J C H v) (λx S w β=>BL (show Ju [.agg (x2 x)]=some _ from rfl)) (λ_=>rfl) rfl rfl (λ_=>rfl) (av (hp:=[]) (λs=>s) wT trivial rfl) ?_ ?_
 ·intro ab s u E;have G:=UX C v W (u.subset (List.mem_append_right _ (uJ.2 rfl)));have I:s.size<=1000:=oT;have F:a' e.i.op<=1000:=aL (lQ e.i.op) dT;refine a8<|e4 4 rfl rfl<|a_ rfl<|rE 6 ?_;refine⟨rfl,?_⟩;refine kO<|uR<|bq<|oR 6 rfl<|a1 rfl (zs s.V s.size e.V (a' e.i.op) G.1 I b.V F)<|oR 1 rfl<|rE 14<|aV rfl (λN=>?_) (λN=>?_)
  ·have p:h7 s.V s.size e.V (a' e.i.op)=false:=sU N;exact Bh<|⟨p,.mk _ (.refl _) ⟨λs=>s,rfl,av (l:=[]) (hp:=[(0,.box [vI 0]),(1,.box [.v (.string (⟨#[]⟩:ByteArray))]),(2,.box [vU e.V]),(3,.box [vN (a' e.i.op)])]) (λs=>s) trivial wH rfl⟩⟩
  have p:h7 s.V s.size e.V (a' e.i.op)=true:=sU N;refine mF<|uR<|bq<|oR 6 rfl<|a1 rfl (XV s.V s.size e.V (a' e.i.op) G.1 I b.V F)<|oR 2 rfl<|gN rfl<|gS rfl id<|gS rfl id<|bO rfl rfl rfl (by simp)<|rE 27<|aV rfl (λO=>?_) (λO=>?_)
  ·have o:Fh s.V s.size e.V (a' e.i.op)=false∨s.there=false:=by have z:=O;simp[ae]at z;grind
   refine bq<|a_ rfl<|a_ rfl<|rE 29<|FQ<|.mk _ (.refl _) ⟨ap [(0,.box [vI 0]),(1,.box [.v (.string (⟨#[]⟩:ByteArray))]),(2,.box [vU e.V]),(3,.box [vN (a' e.i.op)])],4,λs=>s,rfl,rfl,av (l:=[]) (hp:=[(0,.box [vI 0]),(1,.box [.v (.string (⟨#[]⟩:ByteArray))]),(2,.box [vU e.V]),(3,.box [vN (a' e.i.op)])]) (λs=>s) trivial wH rfl,?_⟩;intro D;have m:=(RX (agF:=agF) j c r t).trans ((Dh u E p).trans (aa o));rw[m];exact fT rfl rfl
  have o: ¬(Fh s.V s.size e.V (a' e.i.op)=false∨s.there=false):=by have z:=O;simp[ae]at z;grind
  have V:s.V<=e.V∧e.V+a' e.i.op<=s.V+s.size:=by have z:=o;simp[not_or,Bool.not_eq_false]at z;have y:=z.1;unfold Fh at y;simp[aP,aY]at y;omega
  refine mF<|bq<|oR 3 rfl<|rW (vU (e.V-s.V)) rfl (ar (A9 V.1 b.V))<|rW (vN (e.V-s.V)) rfl (ar (bH (aL (jT _ _) b.V) rfl))<|oR 1 rfl<|rE 33<|uR<|pO rfl rfl<|oR 5 rfl ?_;have b2:(e.V-s.V)+(a' e.i.op)<=4294967299:=aD (aL (jT _ _) b.V) (lQ e.i.op);refine rW (vN ((e.V-s.V)+(a' e.i.op))) rfl (ar (bH (aD (aL (jT _ _) b.V) (lQ e.i.op)) rfl))<|nW (.v (.string (s.data.extract (e.V-s.V) ((e.V-s.V)+(a' e.i.op))))) rfl rfl (by refine⟨?_,?_,?_⟩<;>(first|exact aG _|decide|(apply FG.2;exact ad)))<|a_ rfl<|a_ rfl<|rE 42<|And.intro (by kernel_rfl)<|FQ<|.mk _ (.refl _) ⟨ap [(0,.box [vI 1]),(1,.box [.v (.string (s.data.extract (e.V-s.V) ((e.V-s.V)+(a' e.i.op))))]),(2,.box [vU e.V]),(3,.box [vN (a' e.i.op)])],4,λs=>s,rfl,rfl,av (l:=[]) (hp:=[(0,.box [vI 1]),(1,.box [.v (.string (s.data.extract (e.V-s.V) ((e.V-s.V)+(a' e.i.op))))]),(2,.box [vU e.V]),(3,.box [vN (a' e.i.op)])]) (λs=>s) trivial wH rfl,?_⟩;intro D;have m:=(RX (agF:=agF) j c r t).trans ((Dh u E p).trans (dZ o));rw[m];exact fT rfl rfl
 intro Y D;refine uO<|tQ rfl<|a8<|a_ rfl<|a_ rfl<|rE 6<|tQ rfl<|FQ ?_;rw[(RX (agF:=agF) j c r t).trans (DE Y)];exact fT rfl rfl
section
variable {α:Type}{f:α->List AV}{A l B:List α}{lo:Nat}
def jK{x}{i}(a:A.length=lo)(b:l[i]?=some x):(A++l++B)[lo+i]?=some x:=by
 rw[eD,bM ad, <-a,Nat.add_sub_cancel_left,cF ((Em.1 b).1),b]
def tV{n}(a:A.length=lo)(b:l.length=n):List.take n (List.drop lo ((A++l++B).map f))=l.map f:=by
 subst a b;rw[<-kM, <-eO];congr 1;rw[eD,List.drop_left,List.take_left]
def Xa{x}{i}(a:A.length=lo)(b:i<l.length):(A++l++B).set (lo+i) x=A++l.set i x++B:=by
 subst a;rw[eD,iN _ _ ad,Nat.add_sub_cancel_left,List.set_append_left _ _ b,eD]
def uL{x}{i}{h:AH}{b rs}(a:A.length=lo)(c:i<l.length):some (ao h b (some (.arr (((A++l++B).map f).set (lo+i) (f x)) rs)))=some (ao h b (some (.arr ((A++l.set i x++B).map f) rs))):=by
 rw[<-List.map_set,Xa a c]
end
def MT(a)(s):hL a s<=4294967295:=by
 unfold hL;split
 ·rename_i h;have:=Fo s (oH (lQ a));split
  ·exact aI (Ia _ _ ad)
  split
  ·exact aI (Ia _ _ ad)
  omega
 exact aE _
def QG{e}(c:e.ok){a b}(h:a<=4294967295)(i:b<=4294967295):(rJ e a b).ok:=by
 have g:uE e a b<=4294967295:=by
  unfold uE;split
  ·exact aE _
  exact aI (Rp _ _ _ _ _ (CI c.A) (CI h) (CI i))
 have d:b8 e.K<=4294967295:=by unfold b8;omega
 unfold rJ
 repeat' split
 all_goals first|exact c|exact⟨c.K,c.A,c.N,g,d,c.V⟩|exact⟨c.K,c.A,c.N,g,aI (Ed _ _ _ _ _),c.V⟩|exact⟨c.K,c.A,c.N,aE _,d,c.V⟩
def QH{e}(a:e.ok):(a0 e).ok:=by
 unfold a0;repeat' split
 all_goals first|exact a|exact⟨a.K,a.A,a.N,a.value,a.next,a.V⟩
def Ik{e}(b:e.ok)(size)(a):(yC e size a).ok:=by
 have c:(a+e.i.A)%4294967296<=4294967295:=oT;unfold yC;repeat' split
 all_goals first|exact b|exact⟨b.K,b.A,b.N,b.value,b.next,c⟩
def Il{e}(a:e.ok)(s):(uM e s).ok:=by
 have b:hL e.i.op s<=4294967295:=MT e.i.op s;unfold uM;split
 ·exact a
 refine⟨a.K,a.A,a.N,?_,a.next,a.V⟩;show(if wr e.i=0 then 0 else hL e.i.op s)<=_;split<;>omega
def Kj(agI)(agF)(i):(lL agI agF i).2.size<=100:=by
 have b:∀(l:List Std) (a n:Nat),n<=4->(xK a n l).2.size<=100:=by
  intro l a n c
  induction l with
  |nil=>exact aE _
  | cons s l ih=>
   unfold xK;split
   ·exact ih
   ·split
    ·exact aE _
    ·show(s.data.extract _ _).size<=100;rw[dA];omega
 unfold lL;split
 ·exact aE _
 ·split
  ·exact aE _
  ·split
   ·exact aE _
   ·exact b _ _ _ (lQ _)
def GN{c}(h:c.mem.size<=256)(e):(oL c e).size<=1000:=by
 unfold oL Cv;split
 ·rw[dA];have:=MU c.W c.data c.Y c.mem;unfold Xr;omega
 exact aE _
def Kk(q)(agY)(k):Mi q agY [k]=bn q agY k:=by unfold Mi bn;congr 1;funext x;simp
def zw(c)(y)(b:c.I y)(i)(G:i<c.Z.length)(A B)(lo n)(m s o t)(u v)(a:A.length=lo)(j:c.Z.length=n)(hA:A.length+n+B.length<=1000):pM C0.P C0.G 136 [.ptr 0 0,vN i] (ap [(0,.box (ax c (.S 1 lo n m) (.X 2 u s) (.X 2 (c.W.map aw) o) (.X 9 v t))),(1,.arr ((A++(c).Z++B).map aj) 17)]) 2 (λx h'=>x=.E []∧h'=ap [(0,.box (ax (oE c i) (.S 1 lo n m) (.X 2 u s) (.X 2 (c.W.map aw) o) (.X 9 v t))),(1,.arr ((A++((oE c i)).Z++B).map aj) 17)]):=by
 refine hZ 2 func136 rfl<|nW (.u 1 (lo+i) 0) rfl rfl ez ?_;let⟨x,d⟩:=d7 c.Z i;have g:=b.ok.Z8 x (aB d);refine zX (aj x) (.agg (aj x)) rfl (iH (jK a d))<|zB rfl (λr=>?_) (λr=>?_)
 ·have e:oE c i=c:=by unfold oE;rw[d];dsimp only;rw[aa (FV r)];try rfl
  rw[e];exact de
 refine zR<|zL (x:=.E [vI ((lL c.Z c.W i).1),.v (.string ((lL c.Z c.W i).2))]) rfl (.inr ⟨rfl,⟨(by show lo+n<=((A++c.Z++B).map aj).length;exact ad),trivial,trivial,trivial⟩⟩) ((show bI C0 160 [.X 17 (List.take n (List.drop lo ((A++c.Z++B).map aj))) m,.X 2 (c.W.map aw) o,vN i] _ from by rw[tV (l:=c.Z) a (by first|exact j|(rw[cC];exact j)|(simp[cC];exact j))];exact XX c.Z c.W m o i b.Z b.ok.Z8 b.Z_ b.ok.Z2 b.ZM G))<|zC (tN x.V g.V)<|zV (vB (((lL c.Z c.W i).1)==1))<|aV rfl (λD=>?_) (λD=>?_)
 ·have k:=mT D;refine a8<|oR 8 rfl<|a1 rfl (RR x ((lL c.Z c.W i).2) g (bL (Kj c.Z c.W i) dT))<|nW (.u 1 (lo+i) 0) rfl rfl ez ?_;refine nM (aj x) (h':=ao _ 1 (some (.arr ((A++(c.Z.set i (uM x ((lL c.Z c.W i).2)))++B).map aj) 17))) rfl rfl rfl (⟨aG _,iH ((jK a d))⟩) (uL (f:=aj) (x:=(uM x ((lL c.Z c.W i).2))) (l:=c.Z) (i:=i) a ad)<|rE 50 ?_;have e:oE c i=b0 c i (uM x ((lL c.Z c.W i).2)):=by unfold oE;rw[d];dsimp only;rw[dZ (sI r),aa k];try rfl
  rw[e];exact dh 0 rfl<|de
 have k:=nA D;refine qC 0 rfl<|cN (((lL c.Z c.W i).1) != 2) (λE=>?_) (λE=>?_)
 ·have p:=wM E;have e:oE c i=c:=by unfold oE;rw[d];dsimp only;rw[dZ (sI r),dZ k,aa p];try rfl
  rw[e];exact de
 have p:=wN E;apply zH (args:=[.ptr 0 0,vU (ab x.V)]) rfl (pM.Zu (C:=C0) (show bI C0 161 [.dp 64 0 (ax c (.X 17 (List.take n (List.drop lo ((A++c.Z++B).map aj))) m) (.X 2 u s) (.X 2 (c.W.map aw) o) (.X 9 v t)),vU (ab x.V)] _ from by rw[tV (l:=c.Z) a (by first|exact j|(rw[cC];exact j)|(simp[cC];exact j))];exact Xb c y b (.X 2 u s) (.X 2 (c.W.map aw) o) (.X 9 v t) m (ab x.V) (dV g.V)) (by rfl) (by exact⟨⟨rfl,(r4 (r4 (r4 (r4 (r4 (r4 (r4 (r4 (r4 (r4 (r4 (r4 ⟨(by show lo+n<=((A++c.Z++B).map aj).length;simp[aH,aU,cC];omega),hD⟩))))))))))))⟩,trivial,trivial⟩) (by rfl));rintro _ _ ⟨rfl,rfl⟩;refine aV rfl (λw=>?_) (λw=>?_)
 ·refine a8<|oR 9 rfl<|kS rfl (.inr ⟨rfl,⟨trivial,hD,trivial⟩⟩) (MV c y b .any (.X 2 u s) (.X 9 v t) o x g)<|a1 rfl (RR x (oL c x) g (by have:=GN (c:=c) (oH b.mem) x;omega))<|nW (.u 1 (lo+i) 0) rfl rfl ez ?_;refine nM (aj x) (h':=ao _ 1 (some (.arr ((A++(c.Z.set i (uM x (oL c x)))++B).map aj) 17))) rfl rfl rfl (⟨aG _,iH ((jK a d))⟩) (uL (f:=aj) (x:=(uM x (oL c x))) (l:=c.Z) (i:=i) a ad)<|rE 59 ?_;have e:oE c i=b0 c i (uM x (oL c x)):=by unfold oE;rw[d];dsimp only;rw[dZ (sI r),dZ k,dZ (λq=>q p),aa w];try rfl
  rw[e];exact dh 0 rfl<|de
 refine qC 0 rfl<|rV (.X 1 ([[vI 1]]) true) rfl<|zC (x:=vB (bn c.Y (ab x.V) 1)) ((show bI C0 _ [_,_,.X 1 ([(1:Int)].map b1) true] _ from by rw[<-Kk];exact RQ c.Y (ab x.V) [1] false true (oH b.Y) (λx d=>(b.ok.a x d).R) (dV g.V) dT))<|zB rfl (λC=>?_) (λC=>?_)
 ·apply zM (.u 1 (lo+i) 0) rfl ez;apply nM (aj x) (h':=ao _ 1 (some (.arr ((A++(c.Z.set i (⟨x.no,x.K,⟨x.i.op,x.i.rd,x.i.m,x.i.x,x.i.A⟩,x.N,2,x.left,x.value,x.next,x.V,x.halt,x.ZW,x.known,x.Z4⟩:ai))++B).map aj) 17))) rfl rfl rfl (⟨aG _,iH ((jK a d))⟩) (uL (f:=aj) (x:=(⟨x.no,x.K,⟨x.i.op,x.i.rd,x.i.m,x.i.x,x.i.A⟩,x.N,2,x.left,x.value,x.next,x.V,x.halt,x.ZW,x.known,x.Z4⟩:ai)) (l:=c.Z) (i:=i) a ad);have e:oE c i=b0 c i (⟨x.no,x.K,⟨x.i.op,x.i.rd,x.i.m,x.i.x,x.i.A⟩,x.N,2,x.left,x.value,x.next,x.V,x.halt,x.ZW,x.known,x.Z4⟩:ai):=by unfold oE;rw[d];dsimp only;rw[dZ (sI r),dZ k,dZ (λq=>q p),dZ (by rw[w];decide),aa C];try rfl
  rw[e];exact dc 0 rfl<|de
 refine kS (x:=vB (vC c.Z i)) rfl (.inr ⟨rfl,⟨(by show lo+n<=((A++c.Z++B).map aj).length;exact ad),trivial,trivial⟩⟩) ((show bI C0 159 [.X 17 (List.take n (List.drop lo ((A++c.Z++B).map aj))) m,vN i] _ from by rw[tV (l:=c.Z) a (by first|exact j|(rw[cC];exact j)|(simp[cC];exact j))];exact MX c.Z m i b.Z b.ok.Z8 (oH b.Z)))<|zH (args:=[.ptr 0 0,vB (vC c.Z i)]) rfl (pM.Zu (C:=C0) (show bI C0 95 [.dp 64 0 (ax c (.X 17 (List.take n (List.drop lo ((A++c.Z++B).map aj))) m) (.X 2 u s) (.X 2 (c.W.map aw) o) (.X 9 v t)),vB (vC c.Z i)] _ from by rw[tV (l:=c.Z) a (by first|exact j|(rw[cC];exact j)|(simp[cC];exact j))];exact Ua c y b (.X 17 (c.Z.map aj) m) (.X 2 u s) (.X 2 (c.W.map aw) o) (.X 9 v t) (vC c.Z i)) (by rfl) (by exact⟨⟨rfl,(r4 (r4 (r4 (r4 (r4 (r4 (r4 (r4 (r4 (r4 (r4 (r4 ⟨(by show lo+n<=((A++c.Z++B).map aj).length;simp[aH,aU,cC];omega),hD⟩))))))))))))⟩,trivial,trivial⟩) (by rfl)) ?_;rintro _ _ ⟨rfl,rfl⟩;refine gS rfl id<|gS rfl id<|gS rfl id<|zG rfl id<|gB rfl rfl<|jQ (args:=[.X 4 (c.Y.map ca) false,vU (ab x.V),.X 1 ([[vI 3]]) true]) (x:=vB (bn c.Y (ab x.V) 3)) (g:=tA c (vC c.Z i)) rfl rfl rfl rfl cn rfl rfl rfl (.inl rfl) rfl (λH=>(show bI C0 _ [_,_,.X 1 ([(3:Int)].map b1) true] _ from by rw[<-Kk];exact RQ c.Y (ab x.V) [3] false true (oH b.Y) (λx d=>(b.ok.a x d).R) (dV g.V) dT))<|gS rfl id<|zN rfl (λh=>h)<|aV rfl (λF=>?_) (λF=>?_)
 ·refine qC 0 rfl<|zH (args:=[.ptr 0 0,vI 1,vU (ab x.V),.v (.string (⟨#[]⟩:ByteArray))]) rfl ((zx c y b 1 (ab x.V) (⟨#[]⟩:ByteArray) (dV g.V) lo n m ((A++c.Z++B).map aj) s u o (c.W.map aw) t v).fB (λz=>z)) ?_;rintro _ _ ⟨rfl,rfl⟩;apply zM (.u 1 (lo+i) 0) rfl ez;apply nM (aj x) (h':=ao _ 1 (some (.arr ((A++(c.Z.set i (⟨x.no,x.K,⟨x.i.op,x.i.rd,x.i.m,x.i.x,x.i.A⟩,x.N,2,x.left,x.value,x.next,x.V,x.halt,x.ZW,x.known,x.Z4⟩:ai))++B).map aj) 17))) rfl rfl rfl (⟨aG _,iH ((jK a d))⟩) (uL (f:=aj) (x:=(⟨x.no,x.K,⟨x.i.op,x.i.rd,x.i.m,x.i.x,x.i.A⟩,x.N,2,x.left,x.value,x.next,x.V,x.halt,x.ZW,x.known,x.Z4⟩:ai)) (l:=c.Z) (i:=i) a ad);have e:oE c i=b0 (jE c 1 (ab x.V) (⟨#[]⟩:ByteArray)) i (⟨x.no,x.K,⟨x.i.op,x.i.rd,x.i.m,x.i.x,x.i.A⟩,x.N,2,x.left,x.value,x.next,x.V,x.halt,x.ZW,x.known,x.Z4⟩:ai):=by unfold oE;rw[d];dsimp only;rw[dZ (sI r),dZ k,dZ (λq=>q p),dZ (by rw[w];decide),dZ (by rw[C];decide),aa (by have z:=F;simp[qA]at z;simpa using z)];try rfl
  rw[e];exact dc 0 rfl<|de
 skip
 have e:oE c i=c:=by unfold oE;rw[d];dsimp only;rw[dZ (sI r),dZ k,dZ (λq=>q p),dZ (by rw[w];decide),dZ (by rw[C];decide),dZ (by have z:=F;simp[qA]at z;simpa using z)];try rfl
 rw[e];exact i' 0 rfl<|de
theorem pM.Y1{P}{G}{f}{args}{i j c d}{L}{s}{r}(H:pM P G f args (ap ((0,i)::(1,j)::L)) s (λx h'=>x=r∧h'=ap ((0,c)::(1,d)::L)))(ρ)(K)(aq)(b:g4 (ap ((0,i)::(1,j)::L)) s=true)(k:iy ρ K s aq ((0,i)::(1,j)::L))(w:UQ ρ s=true)(v:mS s args=true)(z:eP r=true)(n:qM s c=true)(o:qM s d=true):
  pM P G f (Bg ρ args) K aq (λx h'=>x=r∧h'=ao (ao K (ρ 0) (some (DI ρ c))) (ρ 1) (some (DI ρ d))):=by
 have E:1<s:=aJ k.2.1.2.1;refine H.ZF ρ K aq b k w v _ λF h' u=>?_;obtain⟨rfl,rfl⟩:=u;refine⟨_,⟨ol _ _ z,rfl⟩,λy blk a=>?_⟩;by_cases g:y=ρ 1
 ·subst g;rw[dB]at a;injection a with a;exact .inl ⟨1,d,rfl,(rL ρ ad).symm,by rw[<-a,yL ρ s aq d o]⟩
 rw[cI _ _ g]at a;by_cases m:y=ρ 0
 ·subst m;rw[dB]at a;injection a with a;exact .inl ⟨0,c,rfl,(rL ρ ad).symm,by rw[<-a,yL ρ s aq c n]⟩
 rw[cI _ _ m]at a;by_cases q:∃x,x<s∧ρ x=y
 ·obtain⟨x,h,rfl⟩:=q;have t:x≠1:=λe=>g (by rw[e]);let⟨bb,hb⟩:=DQ.1 (uH b x h);have p:=k.get x bb hb;rw[p.2.2.2]at a;injection a with a;refine .inl ⟨x,bb,?_,(rL ρ ad).symm,?_⟩
  ·have C:Nat.beq 0 x=false:=by rw[<-eJ];exact λe=>(λe=>m (by rw[e])) (aO e).symm
   have D:Nat.beq 1 x=false:=by rw[<-eJ];exact λe=>t (aO e).symm
   simp[ap,C,D]at hb⊢;exact hb
  rw[<-a];exact(yL ρ s aq bb p.2.2.1).symm
 exact .inr ⟨a,λx h e=>q ⟨x,h,e⟩⟩
theorem pM.Y3{P}{G}{f}{args}{b c d e}{L}{s}{r}(H:pM P G f args (ap ((0,b)::(1,c)::L)) s (λx h'=>x=r∧h'=ap ((0,d)::(1,e)::L)))(ρ){K}{aq}(a:g4 (ap ((0,b)::(1,c)::L)) s=true:=by rfl)(i:iy ρ K s aq ((0,b)::(1,c)::L):=by repeat (first|exact trivial|refine⟨d8,?_⟩))(bb:UQ ρ s=true:=by rfl)(j:mS s args=true:=by rfl)(k:eP r=true:=by rfl)(g:qM s d=true:=by rfl)(h:qM s e=true:=by rfl):
  pM P G f (Bg ρ args) K aq (λx h'=>x=r∧h'=ao (ao K (ρ 0) (some (DI ρ d))) (ρ 1) (some (DI ρ e))):=H.Y1 ρ K aq a i bb j k g h
def xA{c}{n}(h:c.I n)(i){e}(b:e.ok):(b0 c i e).I n:=by
 have a:(c.Z.set i e).length=c.Z.length:=cC ..;exact⟨⟨h.ok.U,h.ok.prog,h.ok.Z5,h.ok.r,h.ok.M,h.ok.Z6,h.ok.ZV,by show(c.Z.set i e).length<=_;rw[a];exact h.ok.Z,kk h.ok.Z8 b,h.ok.Z_,h.ok.Z2,h.ok.data,h.ok.C,h.ok.Y,h.ok.a,h.ok.asked,h.ok.ZZ,h.ok.mem,h.ok.N,h.ok.ret,h.ok.ZU⟩,h.nb,h.cf,h.data,h.C,h.N,by show(c.Z.set i e).length<=_;rw[a];exact h.Z,h.Z6,h.Z_,h.prog,h.mem,h.ZM⟩
def Cj{agI}{r}(a:∀x∈agI,x.ok)(b:∀k,r k<=4294967295)(i):(mI agI r i).1<=4294967295∧(mI agI r i).2.1<=4294967295:=by
 unfold mI;split
 ·exact⟨Ck a b _ _,Ck a b _ _⟩
 exact⟨aE _,aE _⟩
def VJ(c)(v)(a:c.I v)(i)(w:i<c.Z.length)(A B)(lo n)(j p q r)(s t)(b:A.length=lo)(k:c.Z.length=n)(hA:A.length+n+B.length<=1000):pM C0.P C0.G 90 [.ptr 0 0,vN i] (ap [(0,.box (ax c (.S 1 lo n j) (.X 2 s p) (.X 2 (c.W.map aw) q) (.X 9 t r))),(1,.arr ((A++(c).Z++B).map aj) 17)]) 2 (λx h'=>x=.E []∧h'=ap [(0,.box (ax (iS c i) (.S 1 lo n j) (.X 2 s p) (.X 2 (c.W.map aw) q) (.X 9 t r))),(1,.arr ((A++((iS c i)).Z++B).map aj) 17)]):=by
 refine hZ 2 func90 rfl<|nW (.u 1 (lo+i) 0) rfl rfl ez ?_;let⟨x,d⟩:=d7 c.Z i;have h:=a.ok.Z8 x (aB d);refine zX (aj x) (.agg (aj x)) rfl (iH (jK b d))<|zR<|zL (x:=.E [vU ((mI c.Z c.r i).1),vU ((mI c.Z c.r i).2.1),vB ((mI c.Z c.r i).2.2)]) rfl (.inr ⟨rfl,⟨(by show lo+n<=((A++c.Z++B).map aj).length;exact ad),hD,trivial,trivial⟩⟩) ((show bI C0 133 [.X 17 (List.take n (List.drop lo ((A++c.Z++B).map aj))) j,.agg (Ks c.r),vN i] _ from by rw[tV (l:=c.Z) b (by first|exact k|(rw[cC];exact k)|(simp[cC];exact k))];exact VK c.Z c.r j i a.Z a.ok.Z8 a.ok.r (oH a.Z)))<|zC (pS x.i)<|zW _ (am (a6 _ _))<|aV rfl (λm=>?_) (λm=>?_)
 ·have g:=mT m;refine a8<|oR 12 rfl<|rV (vN c.mem.size) rfl<|oR 1 rfl<|a1 rfl (VV x ((c.mem.size:Nat):Int) ((mI c.Z c.r i).1) h (oH a.mem) (Cj a.ok.Z8 a.ok.r i).1)<|nW (.u 1 (lo+i) 0) rfl rfl ez ?_;refine nM (aj x) rfl rfl rfl (⟨aG _,iH ((jK b d))⟩) (uL b ad)<|rE 53 ?_;have e:iS c i=b0 c i (yC x ((c.mem.size:Nat):Int) ((mI c.Z c.r i).1)):=by unfold iS;rw[d];dsimp only;rw[aa g]
  rw[e];exact dh 0 rfl<|de
 have g:=nA m;refine qC 0 rfl<|zW _ (am (a6 _ _))<|aV rfl (λo=>?_) (λo=>?_)
 ·have u:=mT o;refine j9 0 rfl<|a8<|oR 12 rfl<|rV (vN c.mem.size) rfl<|oR 1 rfl<|a1 rfl (VV x ((c.mem.size:Nat):Int) ((mI c.Z c.r i).1) h (oH a.mem) (Cj a.ok.Z8 a.ok.r i).1)<|nW (.u 1 (lo+i) 0) rfl rfl ez ?_;refine nM (aj x) rfl rfl rfl (⟨aG _,iH ((jK b d))⟩) (uL b ad)<|rE 55<|qX 0 rfl<|fU _ rfl rfl rfl ((zw (b0 c i (yC x ((c.mem.size:Nat):Int) ((mI c.Z c.r i).1))) v (xA a i (Ik h _ _)) i (by show i<(c.Z.set i _).length;rw[cC];exact w) A B lo n j p q r s t b (by show(c.Z.set i _).length=n;rw[cC];exact k) hA).Y3 (λz=>z)) ?_;rintro _ _ ⟨rfl,rfl⟩;have e:iS c i=oE (b0 c i (yC x (c.mem.size:Int) (mI c.Z c.r i).1)) i:=by unfold iS;rw[d];dsimp only;rw[dZ g,aa u]
  rw[e];exact dc 0 rfl<|de
 refine a8<|oR 9 rfl<|a1 rfl (XS x ((mI c.Z c.r i).1) ((mI c.Z c.r i).2.1) h (Cj a.ok.Z8 a.ok.r i).1 (Cj a.ok.Z8 a.ok.r i).2)<|nW (.u 1 (lo+i) 0) rfl rfl ez ?_;refine nM (aj x) rfl rfl rfl (⟨aG _,iH ((jK b d))⟩) (uL b ad)<|rE 50 ?_;have e:iS c i=b0 c i (rJ x ((mI c.Z c.r i).1) ((mI c.Z c.r i).2.1)):=by unfold iS;rw[d];dsimp only;rw[dZ g,dZ (nA o)]
 rw[e];exact dh 0 rfl<|de
structure ss(n k:Nat)(w:Wy):Prop where
 R:ab w.R=w.R
 set:w.R/16%n=k
 data:w.data.size=0∨w.data.size=16
 le:w.R<=4294967295
structure jy(n:Nat)(ways:Int)(k:Nat)(s:List Wy):Prop where
 len:(s.length:Int)<=ways
 ZK:∀w∈s,ss n k w
 one:(s.map (·.R)).Nodup
structure cd(c:Ca):Prop where
 L:c.L.length=1∨c.L.length=2∨c.L.length=4
 ways:c.ways=1∨c.ways=2
 set:∀k s,c.L[k]?=some s->jy c.L.length c.ways k s
theorem QC:∀{s:List Wy} {agY:Nat},jY s agY=none↔∀w∈s,w.R≠agY
 |[],_=>by simp[jY]
 |w::l,agY=>by
  unfold jY;by_cases h:w.R=agY
  ·rw[aa h];simp[h]
  ·rw[dZ h,Option.map_eq_none_iff,QC];simp[h]
def WZ:∀{s:List Wy},(∀i x,s[i]?=some x->jY (s.take i) x.R=none)↔(s.map (·.R)).Nodup:=by
 intro s;rw[List.nodup_iff_pairwise_ne,List.pairwise_map,List.pairwise_iff_getElem];constructor
 ·intro h i j a b c e;exact QC.1 (h j s[j] (aA b)) s[i] (aB (by rw[cU,aa c,aA a])) e
 intro h j x g;obtain⟨b,rfl⟩:=Em.1 g;refine QC.2 λw d=>?_;obtain⟨i,a,rfl⟩:=fY d;rw[aM]at a;rw[List.getElem_take];exact h i j ad b ad
def hK{c}:cd c↔gG c=true∧c.ok:=by
 constructor
 ·intro h;refine⟨(jL c).2 ⟨⟨h.L,h.ways⟩,λk s a=>(jX c k s).2 ?_⟩,⟨oH h.L,λs a=>?_⟩⟩
  ·have g:=h.set k s a;refine⟨g.len,λi x b=>?_⟩;have d:=g.ZK x (aB b);exact⟨d.R,d.set,d.data,WZ.2 g.one i x b⟩
  obtain⟨k,r,rfl⟩:=fY a;have g:=h.set k _ (aA r);refine⟨by have:=g.len;have:=h.ways;omega,λx b=>⟨(g.ZK x b).le⟩⟩
 rintro⟨h,ok⟩;let⟨⟨n,o⟩,p⟩:=(jL c).1 h;refine⟨n,o,λk s a=>?_⟩;let⟨m,e⟩:=(jX c k s).1 (p k s a);refine⟨m,λw j=>?_,WZ.1 λi x b=>(e i x b).2.2.2⟩;obtain⟨i,q,rfl⟩:=fY j;have g:=e i _ (aA q);exact⟨g.1,g.2.1,g.2.2.1,((ok.set s (aB a)).2 _ j).R⟩
theorem cd.Ze{c}(h:cd c){k}{s}(d:jy c.L.length c.ways k s):cd (rK c k s):=by
 have b:(c.L.set k s).length=c.L.length:=cC ..;refine⟨by show(c.L.set k s).length=1∨(c.L.set k s).length=2∨(c.L.set k s).length=4;rw[b];exact h.L,h.ways,λj t a=>?_⟩;show jy (c.L.set k s).length c.ways j t;rw[b];rw[show(rK c k s).L=c.L.set k s from rfl,mV]at a;split at a
 ·rename_i e;subst e;split at a
  ·injection a with a;subst a;exact d
  cases a
 exact h.set j t a
def EV{α}{l:List α}{k}(h:k<l.length):(eY l k).Perm l:=by
 unfold eY;rw[aA h,List.singleton_append,nV];apply(List.perm_middle.symm).trans;rw[<-bF h,kb]
theorem jy.perm{n}{ways}{k}{s t}(h:jy n ways k s)(p:t.Perm s):jy n ways k t:=
 ⟨by rw[p.length_eq];exact h.len,λw a=>h.ZK w (p.mem_iff.1 a),(p.map _).nodup_iff.2 h.one⟩
theorem jy.modHd{n:Nat}{ways:Int}{k:Nat}{s:List Wy}(h:jy n ways k s){f:Wy->Wy}(b:∀w∈s,(f w).R=w.R∧((f w).data.size=0∨(f w).data.size=16)):jy n ways k (kR f s):=by
 cases s with
 |nil=>exact h
 | cons x l=>
  have a:=b x (b9 ..);have g:=h.ZK x (b9 ..);refine⟨h.len,λw hw=>?_,?_⟩
  ·rcases dk.1 hw with rfl|hw
   ·exact⟨by rw[a.1];exact g.R,by rw[a.1];exact g.set,a.2,by rw[a.1];exact g.le⟩
   ·exact h.ZK w (bY _ hw)
  ·show((f x).R::l.map (·.R)).Nodup;rw[a.1];exact h.one
theorem cd.at{c}(h:cd c){k}(a:k<c.L.length):jy c.L.length c.ways k (pF c k):=by
 rw[vA (aA a)];exact h.set k _ (aA a)
theorem cd.Zi{c}(h:cd c)(agY):cd (tO c agY):=by
 by_cases a:(bK c agY).2.isSome=true
 ·rw[Dw a];have ff:=pR a;exact h.Ze ((h.at ff.2.2.1).perm (EV ff.2.2.2))
 rw[Dx (sU a)];exact h
def QD(d):(dC d).size=0∨(dC d).size=16:=by
 unfold dC;split
 ·right;assumption
 left;rfl
theorem cd.put{c}(h:cd c){agY}(n:agY<=4294967295)(d)(b):cd (qZ c agY d b).1:=by
 have j:=(hK.1 h).1;by_cases i:(bK c agY).2.isSome=true
 ·rw[Cn i];have ff:=pR i;have g:=(h.at ff.2.2.1).perm (EV ff.2.2.2);refine h.Ze (g.modHd λw hw=>⟨rfl,?_⟩);split
  ·exact(g.ZK w hw).data
  exact QD d
 have a:(bK c agY).2.isSome=false:=sU i;rw[AR j a];have e:=rI (agY:=agY) j;have m:(bK c agY).1<c.L.length:=by rw[e];exact AP (kJ j).1 _
 have hn:jY (pF c (bK c agY).1) (ab agY)=none:=by rw[e]at a ⊢;simpa using a
 have g:=h.at m;split
 all_goals
  rename_i hw;refine h.Ze ⟨?_,λw hw=>?_,?_⟩
  ·first|(have:=h.ways;rw[bN,oA])|(have:=g.len;rw[bN];push_cast)
   omega
  ·rcases dk.1 hw with rfl|hw
   ·exact (⟨by show ab (ab agY)=ab agY;unfold ab;omega,by rw[e];rfl,QD d,dV n⟩)
   first|exact g.ZK w (oC _ hw)|exact g.ZK w hw
  rw[jC,List.nodup_cons]
  first|refine⟨λk=>?_,g.one.sublist ((List.dropLast_sublist _).map _)⟩|refine⟨λk=>?_,g.one⟩
  let⟨w,hw,e⟩:=pG.1 k
  first|exact QC.1 hn w (oC _ hw) e|exact QC.1 hn w hw e
def OK{d b}{a}(h:b.size+a<=d.size):(Fk d a b).size=d.size:=by
 unfold Fk;simp[kH,dA];omega
theorem cd.write{c}(h:cd c)(a)(b):cd (xL c a b).1:=by
 by_cases i:(bK c a).2.isSome=true
 ·have ff:=pR i;rw[At b i rfl (aA ff.2.2.2)];split
  ·exact h
  rename_i k;have g:=(h.at ff.2.2.1).perm (EV ff.2.2.2);have j:=((h.at ff.2.2.1).ZK _ (jO ff.2.2.2)).data;have e:eY (pF c (bK c a).1) ((bK c a).2.getD 0)=(pF c (bK c a).1)[(bK c a).2.getD 0]::((pF c (bK c a).1).take ((bK c a).2.getD 0)++(pF c (bK c a).1).drop ((bK c a).2.getD 0+1)):=by
   unfold eY;rw[aA ff.2.2.2];rfl
  apply h.Ze;rw[e]at g⊢;have d:=g.ZK _ (b9 ..);refine⟨g.len,λw hw=>?_,g.one⟩;rcases dk.1 hw with rfl|hw
  ·refine⟨d.R,d.set,.inr ?_,d.le⟩;rw[OK ad];omega
  exact g.ZK w (bY _ hw)
 rw[GV b (sU i)];exact h
theorem cd.Y4{c}(h:cd c)(agY):cd (wB c agY):=by
 by_cases b:(bK c agY).2.isSome=true
 ·rw[Dy b rfl];have g:=h.at (pR b).2.2.1;have d:(((pF c (bK c agY).1).modify ((bK c agY).2.getD 0) λw=>{w with Z':=false}).map (·.R))=(pF c (bK c agY).1).map (·.R):=by
   apply dD;intro i;simp[aX,oD];split<;>simp[Option.map_map,Function.comp_def]
  refine h.Ze ⟨by rw[List.length_modify];exact g.len,λw j=>?_,by rw[d];exact g.one⟩;let⟨i,bb⟩:=List.getElem?_of_mem j;rw[oD]at bb;obtain⟨v,e,rfl⟩:=Gi.1 bb;have a:=g.ZK v (aB e);split
  ·exact⟨a.R,a.set,a.data,a.le⟩
  exact a
 rw[Dz (sU b)];exact h
theorem cd.Z'{c}(h:cd c){w}(hw:cR c=some w):w.R<=4294967295:=by
 unfold cR at hw;split at hw
 ·have:=List.mem_of_find?_eq_some hw;let⟨s,bb,hw⟩:=List.mem_flatten.1 this;obtain⟨k,a,rfl⟩:=fY bb;exact((h.set k _ (aA a)).ZK w hw).le
 cases hw
def MS{q}(h:∀x∈q,x.ok){a}{agY}{left}{d}(b:agY<=4294967295):∀x∈Bi q a agY left d,x.ok:=by
 intro x hx;unfold Bi at hx;rcases cx.1 hx with hx|hx
 ·exact h x hx
 rw[uJ.1 hx];exact⟨b⟩
def Ki(q)(a)(agY)(left)(d):(Bi q a agY left d).length=q.length+1:=by unfold Bi;simp
theorem Co.I.gd{c:Co}{n}(h:c.I n):cd c.data:=hK.2 ⟨h.data,h.ok.data⟩
theorem Co.I.gw{c:Co}{n}(h:c.I n):cd c.C:=hK.2 ⟨h.C,h.ok.C⟩
theorem Co.I.mono{c:Co}{n m}(h:c.I n)(a:n<=m)(b:m<=890000):c.I m:=
 ⟨⟨h.ok.U,h.ok.prog,h.ok.Z5,h.ok.r,h.ok.M,h.ok.Z6,h.ok.ZV,h.ok.Z,h.ok.Z8,h.ok.Z_,h.ok.Z2,h.ok.data,h.ok.C,aL h.ok.Y a,h.ok.a,h.ok.asked,h.ok.ZZ,h.ok.mem,h.ok.N,aL h.ok.ret a,h.ok.ZU⟩,b,h.cf,h.data,h.C,h.N,h.Z,h.Z6,h.Z_,h.prog,h.mem,h.ZM⟩
def EW(z):wrap64 z<=9223372036854775807:=by unfold wrap64;omega
theorem Co.I.Zh{c:Co}{n}(h:c.I n){q}{d}{a}(j:q.length<=n+1)(e:∀x∈q,x.ok)(b:cd d)(g:a<=9223372036854775807)(i:n+1<=890000):Co.I {c with Y:=q,data:=d,asked:=a} (n+1):=
 ⟨⟨h.ok.U,h.ok.prog,h.ok.Z5,h.ok.r,h.ok.M,h.ok.Z6,h.ok.ZV,h.ok.Z,h.ok.Z8,h.ok.Z_,h.ok.Z2,(hK.1 b).2,h.ok.C,j,e,g,h.ok.ZZ,h.ok.mem,h.ok.N,qJ h.ok.ret,h.ok.ZU⟩,i,h.cf,(hK.1 b).1,h.C,h.N,h.Z,h.Z6,h.Z_,h.prog,h.mem,h.ZM⟩
def sH{c:Co}{n:Nat}(h:c.I n)(b:n+1<=890000)(a:Int){agY:Nat}(e:agY<=4294967295)(d:ByteArray):(jE c a agY d).I (n+1):=
 h.Zh (by rw[Ki];have:=h.ok.Y;omega) (MS h.ok.a e) h.gd (EW _) b
def QE{d}{q}{m}{agY}{left}(a:cd d)(b:∀x∈q,x.ok)(h:agY<=4294967295):cd (iQ d q m agY left).1∧(iQ d q m agY left).2.1.length<=q.length+1∧∀x∈(iQ d q m agY left).2.1,x.ok:=by
 unfold iQ;split
 ·exact⟨a,fF _,b⟩
 split
 ·exact⟨a.Zi _,fF _,b⟩
 have hp:=a.put (dV h) (Ga (jZ q m) (ab agY)) false;have c:=GR (hK.1 a).2 (ab agY) (Ga (jZ q m) (ab agY)) false;generalize qZ d (ab agY) (Ga (jZ q m) (ab agY)) false=t at hp c;let⟨e,g,i⟩:=t;dsimp only at hp c⊢;split
 ·exact⟨hp,by rw[Ki];exact aC _,MS b c⟩
 exact⟨hp,fF _,b⟩
def EX{c}{n}(h:c.I n)(e:n+1<=890000){agY}(g:agY<=4294967295):(oK c agY).I (n+1):=by
 have b:=QE (m:=c.mem) (left:=lX c.U c.asked) h.gd h.ok.a g;unfold oK;generalize iQ c.data c.Y c.mem agY _=t at b;let⟨d,q,a⟩:=t;dsimp only at b⊢;refine h.Zh (oH h.ok.Y) b.2.2 b.1 ?_ e;split
 ·exact EW _
 exact h.ok.asked
def QF{l}{c}(a:cd c):cd (sL l c).2.1∧(sL l c).1.length<=l.length∧∀x∈(sL l c).1,x∈l:=by
 unfold sL
 cases l with
 |nil=>exact⟨a,aC _,λx h=>h⟩
 |cons p l=>
  dsimp only;split
  ·exact⟨a.write _ _,fF _,λx h=>bY _ h⟩
  ·exact⟨a,aC _,λx h=>h⟩
def eR{c}{n}(h:c.I n):(aW c).I n:=by
 have a:=QF (l:=c.W) h.gd;exact⟨⟨h.ok.U,h.ok.prog,h.ok.Z5,h.ok.r,h.ok.M,h.ok.Z6,h.ok.ZV,h.ok.Z,h.ok.Z8,aL a.2.1 h.ok.Z_,λx b=>h.ok.Z2 x (a.2.2 x b),(hK.1 a.1).2,h.ok.C,h.ok.Y,h.ok.a,h.ok.asked,h.ok.ZZ,h.ok.mem,h.ok.N,h.ok.ret,h.ok.ZU⟩,h.nb,h.cf,(hK.1 a.1).1,h.C,h.N,h.Z,h.Z6,aL a.2.1 h.Z_,h.prog,h.mem,λx b=>h.ZM x (a.2.2 x b)⟩
def mO(c):tY c=nP (if(sL c.W c.data).2.2=false∧(aW c).W≠[]then tW (aW c)else aW c):=by
 unfold tY aW
 cases d:c.W with
 |nil=>simp[sL]
 | cons p l=>
  dsimp only
  cases a:(sL _ c.data).2.2 with
  |true=>simp
  | false=>
   have:(sL (p::l) c.data).1=p::l:=by
    unfold sL at a⊢;dsimp only at a⊢;by_cases b:(xL c.data p.V p.data).2=true
    ·rw[aa b]at a;cases a
    ·rw[dZ b]
   simp[this]
def ic{a b}:cE a b false=(a&&b):=by cases a<;>rfl
def fo{a b}:cE a true b=(a||b):=by cases a<;>rfl
def tK{d}{p}(hp:d.W[0]?=some p):tW d=if bn d.Y (ab p.V) 3=false∧tA d true=true then jE d 3 (ab p.V) oZ else d:=by
 unfold tW
 cases a:d.W with
 |nil=>rw[a]at hp;simp at hp
 |cons y l=>rw[a]at hp;simp at hp;subst hp;rfl
def uZ{d}(h:(cR d.data).isSome=true∧((cR d.data).getD qE).data.size≠0):pE d={jE d 4 ((cR d.data).getD qE).R ((cR d.data).getD qE).data with data:=wB d.data ((cR d.data).getD qE).R}:=by
 unfold pE
 cases a:cR d.data with
 |none=>rw[a]at h;simp at h
 |some w=>rw[a]at h;exact aa h.2
def wZ{d}(h: ¬((cR d.data).isSome=true∧((cR d.data).getD qE).data.size≠0)):pE d=d:=by
 unfold pE
 cases a:cR d.data with
 |none=>rfl
 |some w=>rw[a]at h;exact dZ λe=>h ⟨rfl,e⟩
theorem cd.ZO{c}(h:cd c):((cR c).getD qE).R<=4294967295:=by
 cases a:cR c with
 |none=>exact aE _
 |some w=>exact h.Z' a
def WY(c)(n)(a:c.I n)(H:n+2<=890000)(k)(q)(j)(o)(m)(r):pM C0.P C0.G 44 [.ptr 0 0] (ap [(0,.box (ax c (.X 17 q k) (.X 2 o j) (.X 2 (c.W.map aw) false) (.X 9 r m)))]) 1 (λx h'=>x=.E []∧h'=ap [(0,.box (ax (tY c) (.X 17 q k) (.X 2 o j) (.X 2 ((tY c).W.map aw) false) (.X 9 r m)))]):=by
 refine hZ 1 func44 rfl<|zR<|zC (yr c.W c.data a.ok.data (oH a.Z_) a.ok.Z2)<|pO rfl rfl<|oR 7 rfl<|a_ rfl<|oR 3 rfl<|a_ rfl<|rE 32<|And.intro (by kernel_rfl)<|qX 0 rfl<|gS rfl id<|gS rfl id<|gS rfl id<|gS rfl id<|ay rfl id (cD aw ((aW c).W))<|ay rfl id (am (fw _ _))<|zN rfl (λh=>h)<|zB rfl (λt=>?_) (λt=>?_)
 ·have d:((sL c.W c.data).2.2=false∧(aW c).W≠[]):=by have z:=t;simpa [ic,fC]using z
  have F:0<(aW c).W.length:=fC.2 d.2;let⟨p,hp⟩:=d7 ((aW c).W) 0;have g:=(eR a).ok.Z2 p (aB hp);refine FO (aw p) (x:=.dp 2 0 (aw p)) rfl rfl rfl (⟨dT,iH hp⟩) rfl<|qR 0 rfl<|zC (tN p.V g.V)<|rV (.X 1 ([[vI 3]]) true) rfl<|zC (x:=vB (bn c.Y (ab p.V) 3)) ((show bI C0 _ [_,_,.X 1 ([(3:Int)].map b1) true] _ from by rw[<-Kk];exact RQ c.Y (ab p.V) [3] false true (oH a.Y) (λx G=>(a.ok.a x G).R) (dV g.V) dT))<|jQ (x:=vB (tA (aW c) true)) (g:= !(bn c.Y (ab p.V) 3)) rfl rfl rfl rfl (λh=>h) rfl rfl rfl (.inr ⟨rfl,⟨trivial,trivial,trivial⟩⟩) rfl (λI=>Ua (aW c) n (eR a) (.X 17 q k) (.X 2 o j) (.X 2 (((aW c).W).map aw) false) (.X 9 r m) true)<|zN rfl (λh=>h)<|zB rfl (λu=>?_) (λu=>?_)
  ·have i:(bn (aW c).Y (ab p.V) 3=false∧tA (aW c) true=true):=by have z:=u;show(bn c.Y _ _=false∧_);simpa [ic]using z
   apply zH rfl ((mg (aW c) n (eR a) 3 (ab p.V) (⟨#[]⟩:ByteArray) (dV g.V) k q j o false ((aW c).W.map aw) m r).fB (λz=>z));rintro _ _ ⟨rfl,rfl⟩;refine rW (vN (((aW c).W).length)) rfl (cD aw ((aW c).W))<|zW (vB (decide ((((aW c).W).length)>0))) (am (fw _ _))<|gS rfl id<|gS rfl id<|gS rfl id<|gS rfl id<|ay rfl id rfl<|zN rfl (by simp)<|zB rfl (λv=>?_) (λv=>?_)
   ·have b:((aW c).W≠[]∨(jE (aW c) 3 (ab p.V) (⟨#[]⟩:ByteArray)).halt=0):=by have z:=v;simpa [fo,fC]using z
    rw[mO,aa d,tK hp,aa i,show nP (jE (aW c) 3 (ab p.V) oZ)=(jE (aW c) 3 (ab p.V) oZ)from aa b];exact de
   have b: ¬((aW c).W≠[]∨(jE (aW c) 3 (ab p.V) (⟨#[]⟩:ByteArray)).halt=0):=by have z:=v;simpa [fo,fC]using z
   refine zC (q' (jE (aW c) 3 (ab p.V) (⟨#[]⟩:ByteArray)).data (sH (eR a) ad 3 (dV g.V) oZ).ok.data)<|gS rfl id<|ay rfl id rfl<|zN rfl (λh=>h)<|aV rfl (λw=>?_) (λw=>?_)
   ·have e:((cR (jE (aW c) 3 (ab p.V) (⟨#[]⟩:ByteArray)).data).isSome=true∧((cR (jE (aW c) 3 (ab p.V) (⟨#[]⟩:ByteArray)).data).getD qE).data.size≠0):=by have z:=w;rw[jd]at z;simpa [qA]using z
    have s:Ca.ok (jE (aW c) 3 (ab p.V) (⟨#[]⟩:ByteArray)).data:=(sH (eR a) ad 3 (dV g.V) oZ).ok.data;refine qC 0 rfl<|zH rfl ((mg (jE (aW c) 3 (ab p.V) (⟨#[]⟩:ByteArray)) (n+1) (sH (eR a) ad 3 (dV g.V) oZ) 4 (((cR (jE (aW c) 3 (ab p.V) (⟨#[]⟩:ByteArray)).data).getD qE).R) (((cR (jE (aW c) 3 (ab p.V) (⟨#[]⟩:ByteArray)).data).getD qE).data) ((sH (eR a) ad 3 (dV g.V) oZ).gd.ZO) k q j o false ((aW c).W.map aw) m r).fB (λz=>z)) ?_;rintro _ _ ⟨rfl,rfl⟩;refine a8<|oR 8 rfl<|a1 rfl (Iu ((jE (jE (aW c) 3 (ab p.V) (⟨#[]⟩:ByteArray)) 4 (((cR (jE (aW c) 3 (ab p.V) (⟨#[]⟩:ByteArray)).data).getD qE).R) (((cR (jE (aW c) 3 (ab p.V) (⟨#[]⟩:ByteArray)).data).getD qE).data)).data) (((cR (jE (aW c) 3 (ab p.V) (⟨#[]⟩:ByteArray)).data).getD qE).R) s ((sH (eR a) ad 3 (dV g.V) oZ).gd.ZO))<|oR 3 rfl<|a_ rfl<|rE 121 ?_;rw[mO,aa d,tK hp,aa i,show nP (jE (aW c) 3 (ab p.V) oZ)=pE (jE (aW c) 3 (ab p.V) oZ)from dZ b,uZ (d:=(jE (aW c) 3 (ab p.V) oZ)) e];exact dh 0 rfl<|de
   have e: ¬((cR (jE (aW c) 3 (ab p.V) (⟨#[]⟩:ByteArray)).data).isSome=true∧((cR (jE (aW c) 3 (ab p.V) (⟨#[]⟩:ByteArray)).data).getD qE).data.size≠0):=by have z:=w;rw[jd]at z;simpa [qA]using z
   rw[mO,aa d,tK hp,aa i,show nP (jE (aW c) 3 (ab p.V) oZ)=pE (jE (aW c) 3 (ab p.V) oZ)from dZ b,wZ (d:=(jE (aW c) 3 (ab p.V) oZ)) e];exact i' 0 rfl<|de
  have i: ¬(bn (aW c).Y (ab p.V) 3=false∧tA (aW c) true=true):=by have z:=u;show ¬(bn c.Y _ _=false∧_);simpa [ic]using z
  refine rW (vN (((aW c).W).length)) rfl (cD aw ((aW c).W))<|zW (vB (decide ((((aW c).W).length)>0))) (am (fw _ _))<|gS rfl id<|gS rfl id<|gS rfl id<|gS rfl id<|ay rfl id rfl<|zN rfl (by simp)<|zB rfl (λy=>?_) (λy=>?_)
  ·have b:((aW c).W≠[]∨c.halt=0):=by have z:=y;simpa [fo,fC]using z
   rw[mO,aa d,tK hp,dZ i,show nP (aW c)=(aW c)from aa b];exact de
  have b: ¬((aW c).W≠[]∨c.halt=0):=by have z:=y;simpa [fo,fC]using z
  refine zC (q' (aW c).data (eR a).ok.data)<|gS rfl id<|ay rfl id rfl<|zN rfl (λh=>h)<|aV rfl (λC=>?_) (λC=>?_)
  ·have e:((cR (aW c).data).isSome=true∧((cR (aW c).data).getD qE).data.size≠0):=by have z:=C;rw[jd]at z;simpa [qA]using z
   have s:Ca.ok (aW c).data:=(eR a).ok.data;refine qC 0 rfl<|zH rfl ((mg (aW c) n (eR a) 4 (((cR (aW c).data).getD qE).R) (((cR (aW c).data).getD qE).data) ((eR a).gd.ZO) k q j o false ((aW c).W.map aw) m r).fB (λz=>z)) ?_;rintro _ _ ⟨rfl,rfl⟩;refine a8<|oR 8 rfl<|a1 rfl (Iu ((jE (aW c) 4 (((cR (aW c).data).getD qE).R) (((cR (aW c).data).getD qE).data)).data) (((cR (aW c).data).getD qE).R) s ((eR a).gd.ZO))<|oR 3 rfl<|a_ rfl<|rE 118 ?_;rw[mO,aa d,tK hp,dZ i,show nP (aW c)=pE (aW c)from dZ b,uZ e];exact dh 0 rfl<|de
  have e: ¬((cR (aW c).data).isSome=true∧((cR (aW c).data).getD qE).data.size≠0):=by have z:=C;rw[jd]at z;simpa [qA]using z
  rw[mO,aa d,tK hp,dZ i,show nP (aW c)=pE (aW c)from dZ b,wZ e];exact i' 0 rfl<|de
 have d: ¬((sL c.W c.data).2.2=false∧(aW c).W≠[]):=by have z:=t;simpa [ic,fC]using z
 refine rW (vN (((aW c).W).length)) rfl (cD aw ((aW c).W))<|zW (vB (decide ((((aW c).W).length)>0))) (am (fw _ _))<|gS rfl id<|gS rfl id<|gS rfl id<|gS rfl id<|ay rfl id rfl<|zN rfl (by simp)<|zB rfl (λD=>?_) (λD=>?_)
 ·have b:((aW c).W≠[]∨c.halt=0):=by have z:=D;simpa [fo,fC]using z
  rw[mO,dZ d,show nP (aW c)=(aW c)from aa b];exact de
 have b: ¬((aW c).W≠[]∨c.halt=0):=by have z:=D;simpa [fo,fC]using z
 refine zC (q' (aW c).data (eR a).ok.data)<|gS rfl id<|ay rfl id rfl<|zN rfl (λh=>h)<|aV rfl (λE=>?_) (λE=>?_)
 ·have e:((cR (aW c).data).isSome=true∧((cR (aW c).data).getD qE).data.size≠0):=by have z:=E;rw[jd]at z;simpa [qA]using z
  refine qC 0 rfl<|zH rfl ((mg (aW c) n (eR a) 4 (((cR (aW c).data).getD qE).R) (((cR (aW c).data).getD qE).data) ((eR a).gd.ZO) k q j o false ((aW c).W.map aw) m r).fB (λz=>z)) ?_;rintro _ _ ⟨rfl,rfl⟩;refine a8<|oR 8 rfl<|a1 rfl (Iu ((jE (aW c) 4 (((cR (aW c).data).getD qE).R) (((cR (aW c).data).getD qE).data)).data) (((cR (aW c).data).getD qE).R) ((eR a).ok.data) ((eR a).gd.ZO))<|oR 3 rfl<|a_ rfl<|rE 95 ?_;rw[mO,dZ d,show nP (aW c)=pE (aW c)from dZ b,uZ e];exact dh 0 rfl<|de
 have e: ¬((cR (aW c).data).isSome=true∧((cR (aW c).data).getD qE).data.size≠0):=by have z:=E;rw[jd]at z;simpa [qA]using z
 rw[mO,dZ d,show nP (aW c)=pE (aW c)from dZ b,wZ e];exact i' 0 rfl<|de
def XZ(a:Addr)(k:Nat)(w:World):Calls Tryz.prog 65 #[.slice (some a) 0 k] w λe w'=>∃v,e=.returned v∧Below w.heap.size w w'∧∃A c,v=.slice A 0 c∧c<=maxLen:=by
 obtain⟨i0,z0,hi, -⟩:=(gq.ty 106 _ rfl).ZR
 go_enter func65,ntmps65
 have hb:Sem.run Tryz.prog (binOp .eql 31 (.slice (some a) 0 k) (.slice none 0 0)) w=.ok (.bool false) w:=by
  have e1:(Op.equal 31 (.slice (some a) 0 k) (.slice none 0 0)).run Tryz.prog w=.ok (some a).isNone w:=Bx Tryz.prog w 9999 _ 106 (gq.ty 31 _ rfl).kd _ _ _;simp only[binOp,Sem.run_bind,e1,Result.andThen_ok];rfl
 go_wp2_with (first|(rw[hb];simp only[Result.andThen_ok,Oper.upon])|(at_builtin;refine yE rfl (.tmp 5) (.tmp 6) 31 rfl 106 i0 (gq.ty 31 _ rfl).kd hi _ _ _ _ rfl rfl ?_))
 go_ret
 exact⟨_,rfl,(Below.refl _ _).alloc (aC _) _,_,_,rfl,aE _⟩
def NQ(k):bI C0 65 [.v (.slice none 0 k)] (.X 0 [] true):=by
 exact bk func65 rfl<|rV _ rfl<|dc 1 rfl<|fT rfl rfl
def Va(m):bI C0 65 [.X 17 [] m] (.X 17 [] false):=by
 refine⟨(NQ 0).1,λS w x t s d=>?_⟩
 match x,d with
 |[],d=>simp[b2]at d
 |_::_::_,d=>simp[b2]at d
 | [v],d=>
  have n:=d.2 0 _ v rfl rfl
  cases n with
  | X _ _ _ A c b o u C D y z hA E g h'=>
   cases A with
   |none=>exact((NQ c).sub (oM 17 false)).2 S w _ t s (b2.cons (.v _) (b2.nil _ _ _))
   |some a=>
    exact(XZ a c w).mono λe w' ⟨v,g,p,A,k,q,r⟩=>⟨v,g,p,q ▸ .X 17 [] false A k 0 0 (λ_ _=>.bool false) (aE _) r nofun nofun (λh=>absurd h (iI 0)) (λi row j a h=>by simp at h) (λ_ _=>rfl) λi row j a h=>by simp at h⟩
def Vb{p}{H}{s}(e)(l):bw.fx p (.S s 0 (([]:List (List AV)).length+((e::l).map aj).length) false) (ao H s (some (.arr (([]:List (List AV))++(e::l).map aj) 17)))=.fx p (.S s 0 (l.length+1) false) (ao H s (some (.arr ((e::l).map aj) 17))):=by
 rw[iA,aH,bN,cX,bJ]
def Ya(e)(l)(a)(b:l.length<=1000):pM C0.P C0.G 65 [.X 17 ((e::l).map aj) a] (ap []) 0 (λx h'=>x=.S 0 0 (l.length+1) false∧h'=ap [(0,.arr ((e::l).map aj) 17)]):=by
 exact HCall.intro gq.at func65 rfl rfl (by kernel_rfl) rfl rfl<|qS 0 rfl<|rV _ rfl<|qR 1 rfl<|zV (.X 17 ([]) true)<|zF (Vb e l) (⟨by simp[aH,bN,cX,jH];omega,by simp,trivial,trivial⟩)<|BH rfl a9 rfl (ah (λ_=>5) rfl rfl wH rfl)
def VW(l:List Ft)(a)(b:l.length<=1000000):bI C0 66 [.X 2 (l.map a4) a] (.X 2 (l.map a4) true):=by
 refine bk func66 rfl<|zW _ (cD a4 l)<|rW _ rfl (cD a4 l)<|zM _ (yB (vY a4 l l.length)) (by refine⟨?_,?_,?_,?_⟩;all_goals (first|exact aG _|decide|(apply FG.2;exact ad)|(show(_:Int)=(_:Int);congr 1;omega)|rfl))<|fT rfl ?_;show AV.X 2 _ true=_;rw[cH]
def VX(l:List Pt)(a)(b:l.length<=1000000):bI C0 67 [.X 2 (l.map aw) a] (.X 2 (l.map aw) true):=by
 refine bk func67 rfl<|zW _ (cD aw l)<|rW _ rfl (cD aw l)<|zM _ (yB (vY aw l l.length)) (by refine⟨?_,?_,?_,?_⟩;all_goals (first|exact aG _|decide|(apply FG.2;exact ad)|(show(_:Int)=(_:Int);congr 1;omega)|rfl))<|fT rfl ?_;show AV.X 2 _ true=_;rw[cH]
def VY(l:List a5)(a)(b:l.length<=1000000):bI C0 68 [.X 4 (l.map ca) a] (.X 4 (l.map ca) true):=by
 refine bk func68 rfl<|zW _ (cD ca l)<|rW _ rfl (cD ca l)<|zM _ (yB (vY ca l l.length)) (by refine⟨?_,?_,?_,?_⟩;all_goals (first|exact aG _|decide|(apply FG.2;exact ad)|(show(_:Int)=(_:Int);congr 1;omega)|rfl))<|fT rfl ?_;show AV.X 4 _ true=_;rw[cH]
def VZ(l:List Sp)(a)(b:l.length<=1000000):bI C0 69 [.X 9 (l.map bg) a] (.X 9 (l.map bg) true):=by
 refine bk func69 rfl<|zW _ (cD bg l)<|rW _ rfl (cD bg l)<|zM _ (yB (vY bg l l.length)) (by refine⟨?_,?_,?_,?_⟩;all_goals (first|exact aG _|decide|(apply FG.2;exact ad)|(show(_:Int)=(_:Int);congr 1;omega)|rfl))<|fT rfl ?_;show AV.X 9 _ true=_;rw[cH]
def qQ{c:Co}{fz:Fz}{R b F a S d T e:AV}(h:e9 fz R b)(g:e9 fz F a)(i:e9 fz S d)(j:e9 fz T e):k_ fz (ax c R F S T) (ax c b a d e):=
 ⟨.refl _,.refl _,.refl _,.refl _,.refl _,.refl _,.refl _,.refl _,.refl _,.refl _,.refl _,.refl _,.refl _,.refl _,.refl _,.refl _,.refl _,.refl _,.refl _,.refl _,.refl _,.refl _,.refl _,.refl _,.refl _,.refl _,.refl _,.refl _,.refl _,.refl _,.refl _,.refl _,.refl _,.refl _,.refl _,.refl _,.refl _,.refl _,.refl _,.refl _,.refl _,.refl _,.refl _,.refl _,.refl _,.refl _,.refl _,g,h,.refl _,i,.refl _,.refl _,.refl _,.refl _,.refl _,.refl _,.refl _,.refl _,.refl _,.refl _,.refl _,.refl _,j,trivial⟩
def SY{C:a3}{b:Func}{bo:AV->AH->Prop}{s:Nat}{st a:a2}{rs:List AV}(c:gk C st b.results.toList=some rs)(g:jx ⟨Ge (Dp rs),st.h,st.n⟩ a){r:AV}{h':AH}{σ:Nat->Nat}(d:bo r h')(h:d_ s σ (s+1)=true)(e:c1 a ⟨Ge r,h',s+1⟩ σ):
  ∃rs,gk C st b.results.toList=some rs∧g2 ⟨Ge (Dp rs),st.h,st.n⟩ (λa=>∃r h' σ,bo r h'∧d_ s σ (s+1)=true∧c1 a ⟨Ge r,h',s+1⟩ σ):=
 ⟨rs,c,.mk _ g ⟨r,h',σ,d,h,e⟩⟩
def qT{x r}{h}{a}{hp}{n}(σ)(e:x=uW σ r)(b:mR n r=true)(c:WH ⟨be [(0,x)],h,a⟩ n σ hp)(d:En ((hp.map (·.1)).map σ)=true):c1 ⟨be [(0,x)],h,a⟩ ⟨Ge r,ap hp,n⟩ σ:=by
 have W:=av (l:=[(0,r)]) σ ⟨⟨e,b⟩,trivial⟩ c d;refine⟨λi=>?_,W.h,W.inj⟩;have:=W.t i
 cases i with
 |zero=>exact this
 |succ i=>exact .inl rfl
theorem jx.snoc{a b c}{fz}(h:jx a b)(k:kp b c fz):jx a c:=by
 induction h with
 |refl=>exact .step fz k (.refl _)
 |step f g _ ih=>exact .step f g (ih k)
abbrev xz (fz:Fz) (i:Nat):Prop:=match fz with|some (b,_,_)=>Nat.beq i b=false|none=>True
abbrev Ps (fz:Fz) (h:AH):Prop:=match fz with|some (x,rs,rows)=>h x=some (.arr rows rs)|none=>True
def ik{st:a2}{fz:Fz}{i:Nat}{a c:List AV}{l:List (Nat×bh)}(e:st.h i=some (.box a))(d:k_ fz a c)(g:GH st fz l)(h:xz fz i:=by first|exact trivial|rfl):GH st fz ((i,.box c)::l):=⟨⟨by rcases fz with _|⟨b,r,q⟩<;>exact h,_,e,.ZP d⟩,g⟩
def l5{st:a2}{fz:Fz}{i:Nat}{b:bh}{l:List (Nat×bh)}(a:st.h i=some b)(c:GH st fz l)(d:xz fz i:=by first|exact trivial|rfl):GH st fz ((i,b)::l):=⟨⟨by rcases fz with _|⟨b,r,q⟩<;>exact d,_,a,.refl _⟩,c⟩
def Jg{C:a3}{c:Func}{bo:AV->AH->Prop}{s:Nat}{st a:a2}{hp:List (Nat×bh)}(j:jx ⟨Ge (.E []),st.h,st.n⟩ a)(fz:Fz)(h:bo (.E []) (ap hp))(g:GH a fz hp)(e:gk C st c.results.toList=some []:=by rfl)(i:Ps fz a.h:=by first|exact trivial|rfl)(o:e9 fz (a.t 0) (.E []):=by exact .refl _)(n:d_ s (λz=>z) (s+1)=true:=by rfl)(k:WH ⟨be [(0,.E [])],ap hp,a.n⟩ (s+1) (λz=>z) hp:=by exact wH)(m:En ((hp.map (·.1)).map (λz=>z))=true:=by rfl):
  ∃rs,gk C st c.results.toList=some rs∧g2 ⟨Ge (Dp rs),st.h,st.n⟩ (λd=>∃r h' σ,bo r h'∧d_ s σ (s+1)=true∧c1 d ⟨Ge r,h',s+1⟩ σ):=
 SY e (j.snoc (e' (l:=[(0,.E [])]) (by rcases fz with _|⟨b,r,q⟩<;>exact i) ⟨o,trivial⟩ g)) h n (qT (λz=>z) rfl rfl k m)
def A_(c)(h)(a:c.I h)(d b e g):pM C0.P C0.G 37 [.ptr 0 0] (ap [(0,.box (ax c (.X 17 [] d) (.X 2 (c.Q.map a4) b) (.X 2 (c.W.map aw) e) (.X 9 (c.O.map bg) g)))]) 1 (λx h'=>x=.E []∧h'=ap [(0,.box (ax c (.X 17 [] false) (.X 2 (c.Q.map a4) true) (.X 2 (c.W.map aw) true) (.X 9 (c.O.map bg) true)))]):=by
 exact HCall.intro (C:=C0) gq.at func37 rfl rfl (by kernel_rfl) rfl rfl<|qS 0 rfl<|a1 rfl (Va d)<|dx 0 rfl<|a_ rfl<|qR 0 rfl<|a1 rfl (VW c.Q b (oH a.Z6))<|dx 0 rfl<|a_ rfl<|qR 0 rfl<|a1 rfl (VX c.W e (oH a.Z_))<|dx 0 rfl<|a_ rfl<|qR 0 rfl<|zC (VY c.Y false (oH a.Y))<|zC (VZ c.O g (oH a.ret))<|SY rfl (.step none (e' (l:=[(0,.E [])]) (hp:=[(0,.box (ax c (.X 17 [] false) (.X 2 (c.Q.map a4) true) (.X 2 (c.W.map aw) true) (.X 9 (c.O.map bg) true)))]) trivial ⟨.refl _,trivial⟩ ⟨⟨trivial,_,rfl,fc.ZP ⟨.refl _,.refl _,.refl _,.refl _,.refl _,.refl _,.refl _,.refl _,.refl _,.refl _,.refl _,.refl _,.refl _,.refl _,.refl _,.refl _,.refl _,.refl _,.refl _,.refl _,.refl _,.refl _,.refl _,.refl _,.refl _,.refl _,.refl _,.refl _,.refl _,.refl _,.refl _,.refl _,.refl _,.refl _,.refl _,.refl _,.refl _,.refl _,.refl _,.refl _,.refl _,.refl _,.refl _,.refl _,.refl _,.refl _,.refl _,.refl _,.refl _,.refl _,.refl _,.refl _,.refl _,.refl _,.refl _,.clip _ _,.refl _,.refl _,.refl _,.refl _,.refl _,.refl _,.refl _,.refl _,trivial⟩⟩,trivial⟩) (.refl _)) (σ:=λz=>z) a9 rfl (qT (λz=>z) rfl rfl wH rfl)
def A'(c)(k)(a:c.I k)(e)(l)(b:(e::l).length<=1000)(g d h i):pM C0.P C0.G 37 [.ptr 0 0] (ap [(0,.box (ax c (.X 17 ((e::l).map aj) g) (.X 2 (c.Q.map a4) d) (.X 2 (c.W.map aw) h) (.X 9 (c.O.map bg) i)))]) 1 (λx h'=>x=.E []∧h'=ap [(0,.box (ax c (.S 1 0 (l.length+1) false) (.X 2 (c.Q.map a4) true) (.X 2 (c.W.map aw) true) (.X 9 (c.O.map bg) true))),(1,.arr ((e::l).map aj) 17)]):=by
 apply HCall.intro (C:=C0) gq.at func37 rfl rfl (by kernel_rfl) rfl rfl;have j:l.length+1<=1000:=b;refine qS 0 rfl<|fU _ rfl rfl rfl ((Ya e l g ad).Zk _ _ rfl) ?_;rintro _ _ ⟨rfl,rfl⟩;exact dx 0 rfl<|a_ rfl<|qR 0 rfl<|a1 rfl (VW c.Q d (oH a.Z6))<|dx 0 rfl<|a_ rfl<|qR 0 rfl<|a1 rfl (VX c.W h (oH a.Z_))<|dx 0 rfl<|a_ rfl<|qR 0 rfl<|zC (VY c.Y false (oH a.Y))<|zC (VZ c.O i (oH a.ret))<|SY rfl (.step none (e' (l:=[(0,.E [])]) (hp:=[(0,.box (ax c (.S 7 0 (l.length+1) false) (.X 2 (c.Q.map a4) true) (.X 2 (c.W.map aw) true) (.X 9 (c.O.map bg) true))),(7,.arr ((e::l).map aj) 17)]) trivial ⟨.refl _,trivial⟩ ⟨⟨trivial,_,rfl,fc.ZP ⟨.refl _,.refl _,.refl _,.refl _,.refl _,.refl _,.refl _,.refl _,.refl _,.refl _,.refl _,.refl _,.refl _,.refl _,.refl _,.refl _,.refl _,.refl _,.refl _,.refl _,.refl _,.refl _,.refl _,.refl _,.refl _,.refl _,.refl _,.refl _,.refl _,.refl _,.refl _,.refl _,.refl _,.refl _,.refl _,.refl _,.refl _,.refl _,.refl _,.refl _,.refl _,.refl _,.refl _,.refl _,.refl _,.refl _,.refl _,.refl _,.refl _,.refl _,.refl _,.refl _,.refl _,.refl _,.refl _,.clip _ _,.refl _,.refl _,.refl _,.refl _,.refl _,.refl _,.refl _,.refl _,trivial⟩⟩,⟨trivial,_,rfl,.refl _⟩,trivial⟩) (.refl _)) (σ:=λz=>match z with|1=>7|z=>z) ⟨rfl,rfl⟩ rfl (qT (λz=>match z with|1=>7|z=>z) rfl rfl wH rfl)
def Qz{g}(h:g.ok)(pc)(i):xC g pc i<=4294967295:=by
 unfold xC;split
 ·split
  ·cases a:g.J.getLast? with
   |none=>exact aE _
   |some x=>exact h.ro x (List.mem_of_getLast? a)
  ·cases b:g.o[gO g pc]? with
   |none=>exact uT _
   |some s=>
    dsimp only;split
    ·exact(h.so s (aB b)).next
    ·exact uT _
 ·exact uT _
def QA{c}(h:∀x∈c.tape,x<=4294967295)(k)(pc):yG c k pc<=4294967295:=by
 have hp:=Iq h;unfold yG;generalize (bZ c).tape=l at hp
 cases l with
 |nil=>exact uT _
 |cons y l=>
  show(y::l).getD _ _<=_;rw[aR]
  cases a:(y::l)[(max k 0).toNat%(y::l).length]? with
  |none=>exact aE _
  |some x=>exact hp x (aB a)
def QB{c}{n}(h:c.I n)(w):(dM c w).2<=4294967295:=by
 unfold dM;split
 ·exact uT _
 split
 ·exact Qz h.ok.N _ _
 exact QA h.U.tp _ _
def Bn(c)(w):(dM c w).1.Q=c.Q:=by
 unfold dM;split
 ·rfl
 split<;>rfl
def lJ(d:Co):Co:={d with C:=tO d.C (ab d.M)}
def AM{c}{n}(h:c.I n):(lJ c).I n:=by
 have g:=hK.1 (h.gw.Zi (ab c.M));exact⟨⟨h.ok.U,h.ok.prog,h.ok.Z5,h.ok.r,h.ok.M,h.ok.Z6,h.ok.ZV,h.ok.Z,h.ok.Z8,h.ok.Z_,h.ok.Z2,h.ok.data,g.2,h.ok.Y,h.ok.a,h.ok.asked,h.ok.ZZ,h.ok.mem,h.ok.N,h.ok.ret,h.ok.ZU⟩,h.nb,h.cf,h.data,g.1,h.N,h.Z,h.Z6,h.Z_,h.prog,h.mem,h.ZM⟩
def OJ{c}{n}(h:c.I n)(w):(dM c w).1.I n:=by
 unfold dM;split
 ·exact h
 split
 ·exact h
 exact⟨⟨h.ok.U,h.ok.prog,h.ok.Z5,h.ok.r,h.ok.M,h.ok.Z6,h.ok.ZV,h.ok.Z,h.ok.Z8,h.ok.Z_,h.ok.Z2,h.ok.data,h.ok.C,h.ok.Y,h.ok.a,h.ok.asked,EW _,h.ok.mem,h.ok.N,h.ok.ret,h.ok.ZU⟩,h.nb,h.cf,h.data,h.C,h.N,h.Z,h.Z6,h.Z_,h.prog,h.mem,h.ZM⟩
def LL{c}{n}(h:c.I n)(d:c.Q.length<=999){x}(b:x<=4294967295):(LU c x).I n:=by
 have a:(c.Q++[(⟨c.M,x⟩:Ft)]).length<=1000:=by simp;omega
 exact⟨⟨h.ok.U,h.ok.prog,h.ok.Z5,h.ok.r,b,aL a dT,sJ h.ok.ZV (sK ⟨h.ok.M,b⟩),h.ok.Z,h.ok.Z8,h.ok.Z_,h.ok.Z2,h.ok.data,h.ok.C,h.ok.Y,h.ok.a,h.ok.asked,h.ok.ZZ,h.ok.mem,h.ok.N,h.ok.ret,h.ok.ZU⟩,h.nb,h.cf,h.data,h.C,h.N,h.Z,a,h.Z_,h.prog,h.mem,h.ZM⟩
def zP(d:Co):Co:=LU (dM (lJ d) (bf d.prog d.M)).1 (dM (lJ d) (bf d.prog d.M)).2
def tU(d):(zP d).Q=d.Q++[⟨(dM (lJ d) (bf d.prog d.M)).1.M,(dM (lJ d) (bf d.prog d.M)).2⟩]:=by
 show(dM (lJ d) _).1.Q++_=_;rw[Bn];rfl
def CW{c:Co}{n:Nat}(h:c.I n)(a:c.Q.length<=999):(zP c).I n:=
 LL (OJ (AM h) _) (by rw[Bn];exact a) (QB (AM h) _)
def yZ{d}{n}(h:d.stop=true∨(d.Q.length:Int)>=d.U.queue):eL n d=d:=by
 cases n with
 |zero=>rfl
 |succ n=>exact aa h
def Aq{d}{n}(b:0<n)(h: ¬(d.stop=true∨(d.Q.length:Int)>=d.U.queue))(a:(ek d.prog d.M).isSome=false):eL n d={d with Q:=d.Q++[⟨d.M,b8 d.M⟩],stop:=true}:=by
 cases n with
 |zero=>cases b
 |succ n=>exact(dZ h).trans (aa a)
def uD{d}{n}(b:0<n)(h: ¬(d.stop=true∨(d.Q.length:Int)>=d.U.queue))(a: ¬(ek d.prog d.M).isSome=false)(c:(bK d.C (ab d.M)).2.isSome=false):eL n d=if bn d.Y (ab d.M) 2=false∧tA d false=true then jE d 2 (ab d.M) oZ else d:=by
 cases n with
 |zero=>cases b
 |succ n=>exact((dZ h).trans (dZ a)).trans (aa c)
def BC{d}{n k}(c:k<n)(h: ¬(d.stop=true∨(d.Q.length:Int)>=d.U.queue))(a: ¬(ek d.prog d.M).isSome=false)(b: ¬(bK d.C (ab d.M)).2.isSome=false):eL (n-(k+1)) (zP d)=eL (n-k) d:=by
 rw[(oT:n-k=(n-(k+1))+1)];exact(((dZ h).trans (dZ a)).trans (dZ b)).symm
def WX(c)(s)(b:c.I s)(w)(r:w<=4294967295)(j)(o)(i)(n)(k)(p)(m)(q):pM C0.P C0.G 98 [.ptr 0 0,vU w] (ap [(0,.box (ax c (.X 17 o j) (.X 2 n i) (.X 2 p k) (.X 9 q m)))]) 1 (λx h'=>x=vU (dM c w).2∧h'=ap [(0,.box (ax (dM c w).1 (.X 17 o j) (.X 2 n i) (.X 2 p k) (.X 9 q m)))]):=by
 refine hZ 1 func98 rfl<|zC (IV w (CI r))<|zW _ (am (db _ _))<|jQ (x:=vN (ak (bm w).op)) (g:= !((he w) != 0)) rfl rfl rfl rfl (λh=>h) rfl rfl rfl (.inl rfl) rfl (λu=>pS (bm w))<|ay rfl id (am (db _ _))<|zN rfl (by simp)<|zB rfl (λd=>?_) (λd=>?_)
 ·have a:(dw w=0∨ak (bm w).op≠5):=by have z:=d;have e:=kv w;simp[fo,dE,dP,pX,iC,ne_eq]at z;grind
  have t:(c.M+4)%4294967296<=4294967295:=aI (aQ _ dT);apply zV (vU ((c.M+4)%4294967296));rw[show dM c w=(c,b8 c.M)from aa a];exact BH rfl a9 rfl (ah (λz=>z) rfl rfl wH rfl)
 have a: ¬(dw w=0∨ak (bm w).op≠5):=by have z:=d;have e:=kv w;simp[fo,dE,dP,pX,iC,ne_eq]at z;grind
 refine zB rfl (λg=>?_) (λg=>?_)
 ·refine zR<|zC (RJ c.N c.M (bm w) b.ok.N b.ok.M (aI (IU w))) ?_;rw[show dM c w=(c,xC c.N c.M (bm w))from(dZ a).trans (aa g)];exact BH (rs:=[vU (xC c.N c.M (bm w))]) rfl (r:=vU (xC c.N c.M (bm w))) (σ:=λz=>z) a9 rfl (ah (λz=>z) rfl rfl wH rfl)
 refine zR<|zC (QV c.U c.ZZ c.M b.U b.ok.ZZ b.ok.M)<|rW _ rfl (ar (af _))<|dx 0 rfl<|a_ rfl<|dc 0 rfl ?_;rw[show dM c w=({c with ZZ:=wrap64 (c.ZZ+1)},yG c.U c.ZZ c.M)from(dZ a).trans (dZ (by rw[g];decide))];exact BH rfl a9 rfl (ah (λz=>z) rfl rfl wH rfl)
def TY(c)(t)(b:c.I t)(w)(s:w<=4294967295)(j)(p)(n o)(i)(rF)(k)(q)(m)(r):pM C0.P C0.G 98 [.ptr 0 0,vU w] (ap [(0,.box (ax c (.X 17 p j) (.S 1 n o i) (.X 2 q k) (.X 9 r m))),(1,.arr rF 2)]) 2 (λx h'=>x=vU (dM c w).2∧h'=ap [(0,.box (ax (dM c w).1 (.X 17 p j) (.S 1 n o i) (.X 2 q k) (.X 9 r m))),(1,.arr rF 2)]):=by
 refine hZ 2 func98 rfl<|zC (IV w (CI s))<|zW _ (am (db _ _))<|jQ (x:=vN (ak (bm w).op)) (g:= !((he w) != 0)) rfl rfl rfl rfl (λh=>h) rfl rfl rfl (.inl rfl) rfl (λv=>pS (bm w))<|ay rfl id (am (db _ _))<|zN rfl (by simp)<|zB rfl (λd=>?_) (λd=>?_)
 ·have a:(dw w=0∨ak (bm w).op≠5):=by have z:=d;have e:=kv w;simp[fo,dE,dP,pX,iC,ne_eq]at z;grind
  have u:(c.M+4)%4294967296<=4294967295:=aI (aQ _ dT);apply zV (vU ((c.M+4)%4294967296));rw[show dM c w=(c,b8 c.M)from aa a];exact BH rfl a9 rfl (ah (λz=>z) rfl rfl wH rfl)
 have a: ¬(dw w=0∨ak (bm w).op≠5):=by have z:=d;have e:=kv w;simp[fo,dE,dP,pX,iC,ne_eq]at z;grind
 refine zB rfl (λg=>?_) (λg=>?_)
 ·refine zR<|zC (RJ c.N c.M (bm w) b.ok.N b.ok.M (aI (IU w))) ?_;rw[show dM c w=(c,xC c.N c.M (bm w))from(dZ a).trans (aa g)];exact BH (rs:=[vU (xC c.N c.M (bm w))]) rfl (r:=vU (xC c.N c.M (bm w))) (σ:=λz=>z) a9 rfl (ah (λz=>z) rfl rfl wH rfl)
 refine zR<|zC (QV c.U c.ZZ c.M b.U b.ok.ZZ b.ok.M)<|rW _ rfl (ar (af _))<|dx 0 rfl<|a_ rfl<|dc 0 rfl ?_;rw[show dM c w=({c with ZZ:=wrap64 (c.ZZ+1)},yG c.U c.ZZ c.M)from(dZ a).trans (dZ (by rw[g];decide))];exact BH rfl a9 rfl (ah (λz=>z) rfl rfl wH rfl)
def TZ(c)(t)(K:c.I t)(b)(m)(g)(n)(j)(o):pM C0.P C0.G 43 [.ptr 0 0] (ap [(0,.box (ax c (.X 17 m b) (.X 2 (c.Q.map a4) true) (.X 2 n g) (.X 9 o j)))]) 1 (λx h'=>x=.E []∧h'=ap [(0,.box (ax (eN c) (.X 17 m b) (.X 2 ((eN c).Q.map a4) false) (.X 2 n g) (.X 9 o j)))]):=by
 apply hZ 1 func43 rfl;let⟨W,E,Q⟩:∃W:Nat,c.U.k=(W:Int)∧W<=2:=⟨c.U.k.toNat,oH (pD K.cf),oH (pD K.cf)⟩;refine cN (c.halt != 0) (λF=>?_) (λF=>?_)
 ·have p:=wM F;have e:eN c=c:=aa p;rw[e];exact Jg (.refl _) none a9 (ik rfl (qQ (.refl _) (.clip _ _) (.refl _) (.refl _)) trivial)
 ·have p:=wN F;apply sX (λv=>match v with|(k,d,false)=>⟨be [(0,.ptr 0 0),(14,vB (c.halt != 0)),(20,vI c.U.k),(21,vN k)],ap [(0,.box (ax d (.X 17 m b) (.X 2 (d.Q.map a4) true) (.X 2 n g) (.X 9 o j)))],15⟩|(k,d,true)=>⟨be [(0,.ptr 0 0),(14,vB (c.halt != 0)),(20,vI c.U.k),(21,vN k)],ap [(0,.box (ax d (.X 17 m b) (.S 14 0 d.Q.length false) (.X 2 n g) (.X 9 o j))),(14,.arr (d.Q.map a4) 2)],15⟩) (λv=>match v with|(k,d,_)=>k<=W∧d.I t∧eL (W-k) d=eL W c) (λv=>W-v.1) (0,c,false) (λs=>s) (av (λs=>s) wT wH rfl) rfl (⟨aE _,K,rfl⟩);intro v J;let⟨k,d,N⟩:=v;cases N
  all_goals
   have S:k<=W:=J.1;have a:d.I t:=J.2.1;have w:eL (W-k) d=eL W c:=J.2.2;refine qS 0 rfl<|cN (decide ((k:Int)<c.U.k)) (λG=>?_) (λG=>?_)
   ·have L:=bj G;refine zR<|zG rfl id<|zG rfl id<|zG rfl id<|zG rfl id ?_
    first|refine e8 rfl id (cD a4 d.Q) ?_|refine e8 rfl id rfl ?_
    refine zG rfl id<|zG rfl id<|zG rfl id<|zG rfl id<|zG rfl id ?_
    first|refine e8 rfl cn rfl ?_|refine e8 rfl cn rfl ?_
    refine zN rfl (by simp)<|zB rfl (λH=>?_) (λH=>?_)
    ·have r:(d.stop=true∨(d.Q.length:Int)>=d.U.queue):=by have z:=H;simpa [fo]using z
     apply dh 0 rfl;have u:eN c=eL W c:=by show(if c.halt≠0 then c else eL c.U.k.toNat c)=_;rw[dZ (λq=>q p),E];rfl
     have e:eN c=d:=by rw[u, <-w];exact yZ r
     rw[e]
     first|exact Jg (.refl _) none a9 (ik rfl (qQ (.refl _) (.clip _ _) (.refl _) (.refl _)) trivial)|exact Jg (.refl _) (some (14,2,d.Q.map a4)) a9 (ik rfl (qQ (.refl _) (nB (by exact ad)) (.refl _) (.refl _)) trivial)
    ·have r: ¬(d.stop=true∨(d.Q.length:Int)>=d.U.queue):=by have z:=H;simpa [fo]using z
     have R:d.Q.length<=3:=oH (pD a.cf);refine zR<|zC (ND d.prog d.M false a.ok.Z5 (oH a.prog) a.ok.M)<|zB rfl (λy=>?_) (λy=>?_)
     ·refine a8<|oR 16 rfl ?_;have T:(d.M+4)%4294967296<=4294967295:=aI (aQ _ dT);refine rV (vU ((d.M+4)%4294967296)) rfl<|rV (.agg [vU d.M,vU ((d.M+4)%4294967296)]) rfl<|rV (.X 2 ([[vU d.M,vU ((d.M+4)%4294967296)]]) true) rfl ?_
      first|refine e5 rfl rfl (Au a4 d.Q ([(⟨d.M,(d.M+4)%4294967296⟩:Ft)]) ad) (⟨by exact ad,by exact ad,trivial,trivial⟩) ?_|refine e5 (h':=ao (ao _ 14 none) 73 (some (.arr ((d.Q++([(⟨d.M,(d.M+4)%4294967296⟩:Ft)])).map a4) 2))) rfl rfl (iP a4 d.Q ([(⟨d.M,(d.M+4)%4294967296⟩:Ft)]) ad ad) (⟨by exact ad,by exact ad,trivial⟩) ?_
      refine oR 3 rfl<|dq 0 (ax d (.X 17 m b) (.S 73 0 (d.Q.length+1) false) (.X 2 n g) (.X 9 o j)) rfl rfl rfl<|rE 78<|ns 0 rfl<|dq 0 (ax ({d with stop:=true}:Co) (.X 17 m b) (.S 73 0 (d.Q.length+1) false) (.X 2 n g) (.X 9 o j)) rfl rfl rfl<|dc 0 rfl<|dh 0 rfl ?_;have u:eN c=eL W c:=by show(if c.halt≠0 then c else eL c.U.k.toNat c)=_;rw[dZ (λq=>q p),E];rfl
      have e:eN c={d with Q:=d.Q++[⟨d.M,b8 d.M⟩],stop:=true}:=by rw[u, <-w];exact Aq ad r (FV y)
      rw[e];exact Jg (.refl _) (some (73,2,(d.Q++([(⟨d.M,(d.M+4)%4294967296⟩:Ft)])).map a4)) a9 (ik rfl (qQ (.refl _) (nB (by exact ad)) (.refl _) (.refl _)) trivial)
     ·refine zC (tN d.M a.ok.M)<|zC (As d.C (ab d.M) a.ok.C (dV a.ok.M))<|zB rfl (λD=>?_) (λD=>?_)
      ·refine rV (.X 1 ([[vI 2]]) true) rfl<|zC (x:=vB (bn d.Y (ab d.M) 2)) ((show bI C0 _ [_,_,.X 1 ([(2:Int)].map b1) true] _ from by rw[<-Kk];exact RQ d.Y (ab d.M) [2] false true (oH a.Y) (λx P=>(a.ok.a x P).R) (dV a.ok.M) dT)) ?_
       first|refine jQ (x:=vB (tA d false)) (g:= !(bn d.Y (ab d.M) 2)) rfl rfl rfl rfl (λh=>h) rfl rfl rfl (.inr ⟨rfl,⟨trivial,trivial,trivial⟩⟩) rfl (λO=>Ua d t a (.X 17 m b) (.X 2 (d.Q.map a4) true) (.X 2 n g) (.X 9 o j) false) ?_|refine jQ (x:=vB (tA d false)) (g:= !(bn d.Y (ab d.M) 2)) rfl rfl rfl rfl (λh=>h) rfl rfl rfl (.inr ⟨rfl,⟨trivial,trivial,trivial⟩⟩) rfl (λO=>Ua d t a (.X 17 m b) .any (.X 2 n g) (.X 9 o j) false) ?_
       refine zN rfl (λh=>h)<|zB rfl (λI=>?_) (λI=>?_)
       all_goals
        first
         |have C:(bn d.Y (ab d.M) 2=false∧tA d false=true):=by have z:=I;simpa [ic]using z
          first|refine zH rfl ((mg d t a 2 (ab d.M) oZ (dV a.ok.M) b m true (d.Q.map a4) g n j o).Zy (λz=>z) _ _ rfl ⟨d8,trivial⟩ rfl rfl rfl rfl) ?_|refine zH rfl ((AX d t a 2 (ab d.M) oZ (dV a.ok.M) b m 0 d.Q.length false (d.Q.map a4) g n j o).Zy (λz=>match z with|1=>14|z=>z) _ _ rfl ⟨d8,d8,trivial⟩ rfl rfl rfl rfl) ?_
          rintro _ _ ⟨rfl,rfl⟩
         |have C: ¬(bn d.Y (ab d.M) 2=false∧tA d false=true):=by have z:=I;simpa [ic]using z
        apply dh 0 rfl;have u:eN c=eL W c:=by show(if c.halt≠0 then c else eL c.U.k.toNat c)=_;rw[dZ (λq=>q p),E];rfl
        first|(have e:eN c=jE d 2 (ab d.M) oZ:=by rw[u, <-w];exact(uD ad r (sI y) (FV D)).trans (aa C))|(have e:eN c=d:=by rw[u, <-w];exact(uD ad r (sI y) (FV D)).trans (dZ C))
        rw[e]
        first|exact Jg (.refl _) none ⟨rfl,rfl⟩ (ik rfl (qQ (.refl _) (.clip _ _) (.refl _) (.refl _)) trivial)|exact Jg (.refl _) (some (14,2,d.Q.map a4)) ⟨rfl,rfl⟩ (ik rfl (qQ (.refl _) (nB (by exact ad)) (.refl _) (.refl _)) trivial)
      ·refine a1 rfl (It d.C (ab d.M) a.ok.C (dV a.ok.M))<|dx 0 rfl<|dq 0 (ax ({d with C:=(tO d.C (ab d.M))}:Co) (.X 17 m b) _ (.X 2 n g) (.X 9 o j)) rfl rfl rfl ?_;apply qR 0 rfl
       first|refine zH rfl ((WX (lJ d) t (AM a) (bf d.prog d.M) (LN a.ok.Z5 d.M) b m true (d.Q.map a4) g n j o).Zy (λz=>z) _ _ rfl ⟨d8,trivial⟩ rfl rfl rfl rfl) ?_|refine zH rfl ((TY (lJ d) t (AM a) (bf d.prog d.M) (LN a.ok.Z5 d.M) b m 0 d.Q.length false (d.Q.map a4) g n j o).Zy (λz=>match z with|1=>14|z=>z) _ _ rfl ⟨d8,d8,trivial⟩ rfl rfl rfl rfl) ?_
       rintro _ _ ⟨rfl,rfl⟩;refine a8<|oR 12 rfl<|rV (.agg [vU ((dM (lJ d) (bf d.prog d.M)).1.M),vU ((dM (lJ d) (bf d.prog d.M)).2)]) rfl<|rV (.X 2 ([[vU ((dM (lJ d) (bf d.prog d.M)).1.M),vU ((dM (lJ d) (bf d.prog d.M)).2)]]) true) rfl ?_
       first|refine e5 rfl rfl (Au a4 d.Q ([(⟨(dM (lJ d) (bf d.prog d.M)).1.M,(dM (lJ d) (bf d.prog d.M)).2⟩:Ft)]) ad) (⟨by exact ad,by exact ad,trivial,trivial⟩) ?_|refine e5 rfl rfl (iP a4 d.Q ([(⟨(dM (lJ d) (bf d.prog d.M)).1.M,(dM (lJ d) (bf d.prog d.M)).2⟩:Ft)]) ad ad) (⟨by exact ad,by exact ad,trivial⟩) ?_
       refine oR 3 rfl<|dq 0 (ax ((dM (lJ d) (bf d.prog d.M)).1) (.X 17 m b) (.S 107 0 (d.Q.length+1) false) (.X 2 n g) (.X 9 o j)) rfl rfl rfl<|rE 112<|ns 0 rfl<|dq 0 (ax ({ (dM (lJ d) (bf d.prog d.M)).1 with M:=(dM (lJ d) (bf d.prog d.M)).2}:Co) (.X 17 m b) (.S 107 0 (d.Q.length+1) false) (.X 2 n g) (.X 9 o j)) rfl rfl rfl ?_;have M:k+1<=3:=aD oT (aC 1);refine qR 0 rfl<|zW _ (ar (bH M rfl))<|.mk _ (.refl _) ⟨(k+1,zP d,true),λi=>match i with|14=>107|i=>i,av _ wT ⟨⟨rfl,(az (λz:Nat=>some (bh.box (ax (zP d) (.X 17 m b) (.S 107 0 z false) (.X 2 n g) (.X 9 o j)))) (show d.Q.length+1=(zP d).Q.length from by rw[tU];simp)),rfl⟩,⟨rfl,(az (λz:List Ft=>some (bh.arr (z.map a4) 2)) (tU d).symm),rfl⟩,trivial⟩ rfl,rfl,⟨oT,CW a ad,(BC ad r (sI y) (sI D)).trans w⟩,c7⟩
   ·have L:=aF G;have u:eN c=eL W c:=by show(if c.halt≠0 then c else eL c.U.k.toNat c)=_;rw[dZ (λq=>q p),E];rfl
    have e:eN c=d:=by rw[u, <-w];rw[(oT:W-k=0)];rfl
    rw[e];apply dh 0 rfl
    first|exact SY rfl (.step none (e' (l:=[(0,.E [])]) (hp:=[(0,.box (ax (d) (.X 17 m b) (.X 2 (d.Q.map a4) false) (.X 2 n g) (.X 9 o j)))]) trivial ⟨.refl _,trivial⟩ ⟨⟨trivial,_,rfl,fc.ZP (qQ (.refl _) (.clip _ _) (.refl _) (.refl _))⟩,trivial⟩) (.refl _)) (r:=.E []) (σ:=λz=>z) a9 rfl (qT (λz=>z) rfl rfl wH rfl)|exact SY (rs:=[]) rfl (.step (some (14,2,d.Q.map a4)) (e' (l:=[(0,.E [])]) (hp:=[(0,.box (ax (d) (.X 17 m b) (.X 2 (d.Q.map a4) false) (.X 2 n g) (.X 9 o j)))]) rfl ⟨.refl _,trivial⟩ ⟨⟨rfl,_,rfl,fc.ZP (qQ (.refl _) (nB (by exact ad)) (.refl _) (.refl _))⟩,trivial⟩) (.refl _)) (σ:=λz=>z) a9 rfl (qT (λz=>z) rfl rfl wH rfl)
end Go.Proofs.YtdhclfgoomldfaaGreatDoor
