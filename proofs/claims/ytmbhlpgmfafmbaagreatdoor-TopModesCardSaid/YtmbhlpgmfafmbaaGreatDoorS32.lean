/- Lemmas. -/
import Derived.Test.YtmbhlpgmfafmbaaGreatDoorS1
import Derived.Test.YtmbhlpgmfafmbaaGreatDoorS28
import Derived.Test.YtmbhlpgmfafmbaaGreatDoorS29
import Derived.Test.YtmbhlpgmfafmbaaGreatDoorS31
set_option linter.all false
namespace Go.Proofs.YtmbhlpgmfafmbaaGreatDoor
open Go.Proofs.Tryz
set_option maxRecDepth 100000
set_option maxHeartbeats 4000000
open Go.RowKit
structure Co.E(c:Co)(n:Nat):Prop where
 ok:c.ok n
 nb:n<=890000
 cf:wA c.U=true
 data:gG c.data=true
 y:gG c.y=true
 M:sM c.M=true
 Z:c.Z.length<=1000
 Z5:c.O.length<=1000
 Z9:c.W.length<=1000
 prog:c.prog.length<=1000
 mem:c.mem.size<=256
 ZK:∀x∈c.W,x.data.size<=4
theorem Co.E.Y{c:Co}{n}(h:c.E n):c.Y.length<=890000:=aL h.ok.Y h.nb
theorem Co.E.ret{c:Co}{n}(h:c.E n):c.N.length<=890000:=aL h.ok.ret h.nb
def pD{c}(h:wA c=true):c.J.length<=64∧c.tape.length<=64∧1<=c.u∧c.u<=2∧c.Z<=8∧2<=c.Z∧c.queue<=4∧1<=c.queue∧c.W<=4∧1<=c.W∧c.C<=6∧2<=c.C∧0<=c.mode∧c.mode<=2:=by
 unfold wA h7 at h;simp[aP,aY]at h;omega
theorem Co.E.U{c:Co}{n}(h:c.E n):c.U.ok:=⟨oH ((pD h.cf).1),oH ((pD h.cf).2.1),h.ok.U.tp⟩
theorem Co.E.d4{c:Co}{n}(h:c.E n):c.data.Q.length<=4:=(kJ h.data).2.1
theorem Co.E.d2{c:Co}{n}(h:c.E n):∀s∈c.data.Q,s.length<=2:=λs a=>by have:=kJ h.data;have:=this.2.2.2.2 s a;omega
def MU(agF)(c)(q)(m):(iz agF c q m).size=m.size:=by unfold iz Ct jZ;rw[iY,iY,iY]
def Ua(c)(n)(a:c.E n)(R F S T)(first):bI C0 75 [.dp 64 0 (aw c R F S T),vB first] (vB (tA c first)):=by
 refine bx func75 rfl<|zC (XR c.Y false (oH a.Y) (λx d=>(a.ok.Z_ x d).R))<|zB rfl (λb=>?_) (λb=>?_)
 ·exact zV (vB (decide (((yH c.Y:Nat):Int)<c.U.C)))<|fT rfl (dR (by unfold tA;rw[aa b]))
 exact rW _ rfl (ax (kw (oH (pD a.cf)) (oH (pD a.cf))))<|zV (vB (decide (((yH c.Y:Nat):Int)<(c.U.C-1))))<|fT rfl (dR (by unfold tA;rw[dZ (by rw[b];decide)]))
def QI{m a n:Nat}(h:kZ (m:Int) a (n:Int)=true):a+n<=m:=by
 unfold kZ at h;simp[aP,aY]at h;omega
def By(m)(a n)(h:m.size<=1000)(d:a<=4294967295)(e:n<=4):bI C0 93 [.v (.string m),vU a,vN n] (.A [.v (.string (if kZ (m.size:Int) a (n:Int)=true then Cv m a n else oZ)),vI (if kZ (m.size:Int) a (n:Int)=true then 0 else 1)]):=by
 refine bx func93 rfl<|zV (vN m.size)<|zC (GY (m.size:Int) a (n:Int) ad (CI d))<|zB rfl (λc=>?_) (λc=>?_)
 ·have b: ¬kZ (m.size:Int) a (n:Int)=true:=sU c;exact fT rfl (by rw[dZ b,dZ b];rfl)
 have g:=QI (sU c:kZ (m.size:Int) a (n:Int)=true);refine zW _ (ax (bH d rfl)) ?_;refine rW _ rfl (ax (bH (aD d e) rfl))<|zM (.v (.string (m.extract a (a+n)))) rfl (by refine⟨?_,?_,?_⟩<;>(first|exact aG _|decide|(apply FG.2;exact ad))) ?_;have b:kZ (m.size:Int) a (n:Int)=true:=sU c;exact fT rfl (by rw[aa b,aa b];rfl)
def MV(c)(n)(a:c.E n)(R F T)(b)(e)(d:e.ok):bI C0 56 [.dp 64 0 (aw c R F (.X 2 (c.W.map av) b) T),.agg (ak e)] (.v (.string (oL c e))):=by
 exact bx func56 rfl<|zR<|zC (E4 c.W c.data c.Y c.mem false b a.ok.data a.d4 a.d2 (oH a.mem) (oH a.Y) a.ok.Z_ (oH a.Z9) a.ok.Z1)<|zC (Gd e.i)<|zC (By (iz c.W c.data c.Y c.mem) e.V (bP e.i.op) (by rw[MU];have:=a.mem;omega) d.V (lQ e.i.op))<|fT rfl rfl
def Xb(c)(n)(m:c.E n)(F S T)(o)(agY)(a:agY<=4294967295):bI C0 144 [.dp 64 0 (aw c (.X 17 (c.Z.map ak) o) F S T),vU agY] (vB (Kt c agY)):=by
 refine dx func144 rfl<|zC (As c.data agY m.ok.data a)<|zB rfl (λd=>?_) (λd=>?_)
 ·exact fT rfl (dR (by unfold Kt;rw[d];rfl))
 refine zW _ (cD ak c.Z)<|dy (λk=>⟨be [(1,vU agY),(21,vB ((bK c.data agY).2.isSome)),(26,.X 17 (c.Z.map ak) o),(27,vN c.Z.length),(28,vN k)],ao [],23⟩) (λk=>k<=c.Z.length∧(c.Z.take k).any (λe:ai=>e.Z3&&decide (ab e.V=agY))=false) (λk=>c.Z.length-k) 0 (λs=>s) (au (λs=>s) wT trivial rfl) (⟨aE _,rfl⟩) ?_;intro k j;have t:k<=c.Z.length:=j.1;refine bu (ar (b2 _ _)) (λg=>?_) (λg=>?_)
 ·have p:=a7 g;let⟨x,b⟩:=d7 c.Z k;have q:=m.ok.Z7 x (aB b);refine zX (ak x) (.dp 17 0 (ak x)) rfl (iH b)<|gS rfl id<|zQ rfl (λh=>h) rfl (.inl rfl) (λu=>tN x.V q.V)<|a' rfl cj (ar (b8 _ _))<|zN rfl (λh=>h)<|zB rfl (λi=>?_) (λi=>?_)
  ·have z:=i;exact fT rfl (dR (by unfold Kt;rw[Jf b (by simpa [qA]using z)];simp))
  skip
  have r:k+1<=1001:=aD (oH m.Z) (aC 1);refine zW _ (ax (bH r rfl)) ?_;refine⟨k+1,λs=>s,au _ wT trivial rfl,⟨oT,Je b (by have z:=i;simpa [qA]using z) j.2⟩,c7⟩
 have p:=aF g;exact fT rfl (dR (by unfold Kt;rw[d,Mj ad j.2];rfl))
def Ac(c)(n)(a:c.E n)(F S T)(e)(i)(s:i<c.Z.length):bI C0 69 [.dp 64 0 (aw c (.X 17 (c.Z.map ak) e) F S T),vN i] (vB (DN c i)):=by
 apply dx func69 rfl;let⟨x,d⟩:=d7 c.Z i;have r:=a.ok.Z7 x (aB d);refine zX (ak x) (.dp 17 0 (ak x)) rfl (iH d)<|cq (x.is != 0) (λj=>?_) (λj=>?_)
 ·have g:=wM j;exact fT rfl (dR (by unfold DN;rw[d];dsimp only;rw[aa g]))
 have g:=wN j;refine zR<|zC (zu c.U.mode c.Z e i a.Z a.ok.Z7 (oH a.Z))<|zC (Fs x.i)<|zR<|zC (Kl c.Z c.r e i (x.i.j) a.Z a.ok.Z7 a.ok.r (oH a.Z))<|zC (pS x.i)<|bu (ar (b8 _ _)) (λk=>?_) (λk=>?_)
 ·have b:=mT k;exact zG rfl id<|pB rfl rfl rfl rfl (λh=>h) rfl rfl (λq p=>by first|(rw[q,p];rfl)|simp_all)<|zN rfl (by simp)<|fT rfl (dR (by unfold DN;rw[d];dsimp only;rw[dZ ad,aa b];simp[qA,af,lG]))
 have b:=nA k;refine bu (ar (b8 _ _)) (λm=>?_) (λm=>?_)
 ·have o:=mT m;exact zN rfl (λh=>h)<|zN rfl (λh=>h)<|fT rfl (dR (by unfold DN;rw[d];dsimp only;rw[dZ ad,dZ b,aa o];simp[qA,af,lG]))
 exact zR<|zC (VK c.Z c.r e i a.Z a.ok.Z7 a.ok.r (oH a.Z))<|zN rfl (λh=>h)<|fT rfl (dR (by unfold DN;rw[d];dsimp only;rw[dZ ad,dZ b,dZ (nA m)];simp[qA,af,lG]))
theorem pM.Zw{P}{G}{f}{args}{j g}{L}{s}{r}(H:pM P G f args (ao ((0,j)::L)) s (λx h'=>x=r∧h'=ao ((0,g)::L)))(a)(K)(ap)(d:gn (ao ((0,j)::L)) s=true)(k:ib a K s ap ((0,j)::L))(u:UQ a s=true)(q:mS s args=true)(v:eP r=true)(t:qM s g=true):
  pM P G f (Bg a args) K ap (λx h'=>x=r∧h'=an K (a 0) (some (DI a g))):=by
 have w:0<s:=aJ k.1.2.1;refine H.ZC a K ap d k u q _ λz h' p=>?_;obtain⟨rfl,rfl⟩:=p;refine⟨_,⟨nf _ _ v,rfl⟩,λy blk b=>?_⟩;by_cases m:y=a 0
 ·subst m;rw[dB]at b;injection b with b;exact .inl ⟨0,g,rfl,(rL a ad).symm,by rw[<-b,yL a s ap g t]⟩
 rw[cI _ _ m]at b;by_cases o:∃x,x<s∧a x=y
 ·obtain⟨x,i,rfl⟩:=o;let⟨c,h⟩:=DQ.1 (uH d x i);have n:=k.get x c h;rw[n.2.2.2]at b;injection b with b;refine .inl ⟨x,c,?_,(rL a ad).symm,?_⟩
  ·have:Nat.beq 0 x=false:=by rw[<-eJ];exact λe=>(λe=>m (by rw[e])) (aO e).symm
   simp[ao,this]at h⊢;exact h
  rw[<-b];exact(yL a s ap c n.2.2.1).symm
 exact .inr ⟨b,λx i e=>o ⟨x,i,e⟩⟩
theorem pM.fB{P}{G}{f}{args}{c d}{L}{s}{r}(H:pM P G f args (ao ((0,c)::L)) s (λx h'=>x=r∧h'=ao ((0,d)::L)))(a){K}{ap}(b:gn (ao ((0,c)::L)) s=true:=by rfl)(e:ib a K s ap ((0,c)::L):=by repeat (first|exact trivial|refine⟨d8,?_⟩))(i:UQ a s=true:=by rfl)(g:mS s args=true:=by rfl)(j:eP r=true:=by rfl)(h:qM s d=true:=by rfl):
  pM P G f (Bg a args) K ap (λx h'=>x=r∧h'=an K (a 0) (some (DI a d))):=H.Zw a K ap b e i g j h
def zA{c}{agY}(h:(iQ c.data c.Y c.mem agY (lX c.U c.asked)).2.2=true):oK c agY={c with data:=(iQ c.data c.Y c.mem agY (lX c.U c.asked)).1,Y:=(iQ c.data c.Y c.mem agY (lX c.U c.asked)).2.1,asked:=wrap64 (c.asked+1)}:=by unfold oK;generalize iQ c.data c.Y c.mem agY _=t at h⊢;let⟨d,q,a⟩:=t;dsimp only at h;subst h;rfl
def AN{c}{agY}(h:(iQ c.data c.Y c.mem agY (lX c.U c.asked)).2.2=false):oK c agY={c with data:=(iQ c.data c.Y c.mem agY (lX c.U c.asked)).1,Y:=(iQ c.data c.Y c.mem agY (lX c.U c.asked)).2.1}:=by unfold oK;generalize iQ c.data c.Y c.mem agY _=t at h⊢;let⟨d,q,a⟩:=t;dsimp only at h;subst h;rfl
def l6(c)(n)(e:c.E n)(b)(agY)(a)(d:agY<=4294967295)(h)(m)(g)(k)(i)(o)(j)(p):pM C0.P C0.G 76 [.ptr 0 0,vI b,vU agY,.v (.string a)] (ao [(0,.box (aw c (.X 17 m h) (.X 2 k g) (.X 2 o i) (.X 9 p j)))]) 1 (λx h'=>x=.A []∧h'=ao [(0,.box (aw (jE c b agY a) (.X 17 m h) (.X 2 k g) (.X 2 o i) (.X 9 p j)))]):=by
 apply hZ 1 func76 rfl;exact a6<|oR 18 rfl<|ba rfl (Fa c.U c.asked e.U e.ok.asked)<|oR 1 rfl<|ba rfl (Ng c.Y b agY (lX c.U c.asked) a false (oH e.Y) e.ok.Z_ d)<|oR 3 rfl<|a4 rfl<|rE 26<|qX 0 rfl<|rW _ rfl (ax (ae _))<|de 0 rfl<|a4 rfl<|cd 0 rfl<|cT
def C4(c)(n)(e:c.E n)(b)(agY)(a)(d:agY<=4294967295)(k m)(h)(o)(g)(p)(i)(q)(j)(r):pM C0.P C0.G 76 [.ptr 0 0,vI b,vU agY,.v (.string a)] (ao [(0,.box (aw c (.S 1 k m h) (.X 2 p g) (.X 2 q i) (.X 9 r j))),(1,.arr o 17)]) 2 (λx h'=>x=.A []∧h'=ao [(0,.box (aw (jE c b agY a) (.S 1 k m h) (.X 2 p g) (.X 2 q i) (.X 9 r j))),(1,.arr o 17)]):=by
 apply hZ 2 func76 rfl;exact a6<|oR 18 rfl<|ba rfl (Fa c.U c.asked e.U e.ok.asked)<|oR 1 rfl<|ba rfl (Ng c.Y b agY (lX c.U c.asked) a false (oH e.Y) e.ok.Z_ d)<|oR 3 rfl<|a4 rfl<|rE 27<|qX 0 rfl<|rW _ rfl (ax (ae _))<|de 0 rfl<|a4 rfl<|cd 0 rfl<|cT
def KX(c)(n)(e:c.E n)(b)(agY)(a)(d:agY<=4294967295)(h)(o)(k m)(g)(rF)(i)(p)(j)(q):pM C0.P C0.G 76 [.ptr 0 0,vI b,vU agY,.v (.string a)] (ao [(0,.box (aw c (.X 17 o h) (.S 1 k m g) (.X 2 p i) (.X 9 q j))),(1,.arr rF 2)]) 2 (λx h'=>x=.A []∧h'=ao [(0,.box (aw (jE c b agY a) (.X 17 o h) (.S 1 k m g) (.X 2 p i) (.X 9 q j))),(1,.arr rF 2)]):=by
 apply hZ 2 func76 rfl;exact a6<|oR 18 rfl<|ba rfl (Fa c.U c.asked e.U e.ok.asked)<|oR 1 rfl<|ba rfl (Ng c.Y b agY (lX c.U c.asked) a false (oH e.Y) e.ok.Z_ d)<|oR 3 rfl<|a4 rfl<|rE 27<|qX 0 rfl<|rW _ rfl (ax (ae _))<|de 0 rfl<|a4 rfl<|cd 0 rfl<|cT
def zm(c)(n)(a:c.E n)(agY)(b:agY<=4294967295)(g)(k)(e)(j)(h)(m)(i)(o):pM C0.P C0.G 58 [.ptr 0 0,vU agY] (ao [(0,.box (aw c (.X 17 k g) (.X 2 j e) (.X 2 m h) (.X 9 o i)))]) 1 (λx h'=>x=.A []∧h'=ao [(0,.box (aw (oK c agY) (.X 17 k g) (.X 2 j e) (.X 2 m h) (.X 9 o i)))]):=by
 refine hZ 1 func58 rfl<|a6<|oR 28 rfl<|ba rfl (Fa c.U c.asked a.U a.ok.asked)<|ba rfl (Nb c.data c.Y c.mem agY (lX c.U c.asked) a.ok.data (oH a.Y) a.ok.Z_ (oH a.mem) b)<|oR 7 rfl<|a4 rfl<|oR 3 rfl<|a4 rfl<|oR 1 rfl<|rE 45<|il 0 rfl<|aV rfl (λd=>?_) (λd=>?_)
 ·refine qC 0 rfl<|rW _ rfl (ax (ae _))<|de 0 rfl<|a4 rfl ?_;rw[zA d];exact cd 0 rfl<|cT
 skip
 rw[AN d];exact hM 0 rfl<|cT
def zp(c)(n)(a:c.E n)(agY)(b:agY<=4294967295)(j k)(g)(m)(e)(o)(h)(p)(i)(q):pM C0.P C0.G 58 [.ptr 0 0,vU agY] (ao [(0,.box (aw c (.S 1 j k g) (.X 2 o e) (.X 2 p h) (.X 9 q i))),(1,.arr m 17)]) 2 (λx h'=>x=.A []∧h'=ao [(0,.box (aw (oK c agY) (.S 1 j k g) (.X 2 o e) (.X 2 p h) (.X 9 q i))),(1,.arr m 17)]):=by
 refine hZ 2 func58 rfl<|a6<|oR 28 rfl<|ba rfl (Fa c.U c.asked a.U a.ok.asked)<|ba rfl (Nb c.data c.Y c.mem agY (lX c.U c.asked) a.ok.data (oH a.Y) a.ok.Z_ (oH a.mem) b)<|oR 7 rfl<|a4 rfl<|oR 3 rfl<|a4 rfl<|oR 1 rfl<|rE 46<|il 0 rfl<|aV rfl (λd=>?_) (λd=>?_)
 ·refine qC 0 rfl<|rW _ rfl (ax (ae _))<|de 0 rfl<|a4 rfl ?_;rw[zA d];exact cd 0 rfl<|cT
 skip
 rw[AN d];exact hM 0 rfl<|cT
def HH(c)(n)(a:c.E n)(agY)(b:agY<=4294967295)(j m)(g)(p)(e)(r)(h)(s)(k o)(i)(q):pM C0.P C0.G 58 [.ptr 0 0,vU agY] (ao [(0,.box (aw c (.S 1 j m g) (.X 2 r e) (.X 2 s h) (.S 2 k o i))),(1,.arr p 17),(2,.arr q 9)]) 3 (λx h'=>x=.A []∧h'=ao [(0,.box (aw (oK c agY) (.S 1 j m g) (.X 2 r e) (.X 2 s h) (.S 2 k o i))),(1,.arr p 17),(2,.arr q 9)]):=by
 refine hZ 3 func58 rfl<|a6<|oR 28 rfl<|ba rfl (Fa c.U c.asked a.U a.ok.asked)<|ba rfl (Nb c.data c.Y c.mem agY (lX c.U c.asked) a.ok.data (oH a.Y) a.ok.Z_ (oH a.mem) b)<|oR 7 rfl<|a4 rfl<|oR 3 rfl<|a4 rfl<|oR 1 rfl<|rE 47<|il 0 rfl<|aV rfl (λd=>?_) (λd=>?_)
 ·refine qC 0 rfl<|rW _ rfl (ax (ae _))<|de 0 rfl<|a4 rfl ?_;rw[zA d];exact cd 0 rfl<|cT
 skip
 rw[AN d];exact hM 0 rfl<|cT
def Xc(c)(n)(a:c.E n)(agY)(b:agY<=4294967295)(j o)(g)(r)(e)(t)(k p)(h)(rS)(m q)(i)(s):pM C0.P C0.G 58 [.ptr 0 0,vU agY] (ao [(0,.box (aw c (.S 1 j o g) (.X 2 t e) (.S 2 k p h) (.S 3 m q i))),(1,.arr r 17),(2,.arr rS 2),(3,.arr s 9)]) 4 (λx h'=>x=.A []∧h'=ao [(0,.box (aw (oK c agY) (.S 1 j o g) (.X 2 t e) (.S 2 k p h) (.S 3 m q i))),(1,.arr r 17),(2,.arr rS 2),(3,.arr s 9)]):=by
 refine hZ 4 func58 rfl<|a6<|oR 28 rfl<|ba rfl (Fa c.U c.asked a.U a.ok.asked)<|ba rfl (Nb c.data c.Y c.mem agY (lX c.U c.asked) a.ok.data (oH a.Y) a.ok.Z_ (oH a.mem) b)<|oR 7 rfl<|a4 rfl<|oR 3 rfl<|a4 rfl<|oR 1 rfl<|rE 48<|il 0 rfl<|aV rfl (λd=>?_) (λd=>?_)
 ·refine qC 0 rfl<|rW _ rfl (ax (ae _))<|de 0 rfl<|a4 rfl ?_;rw[zA d];exact cd 0 rfl<|cT
 skip
 rw[AN d];exact hM 0 rfl<|cT
def tc(e)(d:e.ok):bI C0 60 [.agg (ak e)] (.agg (ak (a0 e))):=by
 refine bx func60 rfl<|cq (e.is != 1) (λa=>?_) (λa=>?_)
 ·replace a:=sP a;refine dK rfl cn rfl (oW ?_);simp[ae,a0,a]<;>(intros;simp_all)
 refine zV (vI (IntKind.wrap .i64 (e.left-1)))<|cq (decide ((IntKind.wrap .i64 (e.left-1))<=0)) (λb=>?_) (λb=>?_)
 ·refine ba rfl (pS e.i)<|zW _ (ar (b8 _ _))<|gS rfl id<|a' rfl id rfl<|zN rfl (λh=>h)<|zB rfl (λc=>?_) (λc=>?_)
  all_goals
   replace a:=sP a;replace b:=sP b;replace c:=sP c
   first|refine dK rfl cn rfl (oW (e:=(⟨e.no,e.K,⟨e.i.op,e.i.rd,e.i.j,e.i.o,e.i.k⟩,e.M,3,0,e.value,e.next,e.V,e.halt,e.ZX,true,e.Z3⟩:ai)) ?_)|refine dK rfl cn rfl (oW (e:=(⟨e.no,e.K,⟨e.i.op,e.i.rd,e.i.j,e.i.o,e.i.k⟩,e.M,3,0,e.value,e.next,e.V,e.halt,e.ZX,e.known,e.Z3⟩:ai)) ?_)
   simp[ae,a0,a,b,c]<;>(intros;simp_all)
 replace a:=sP a;replace b:=sP b;refine dK rfl cn rfl (oW (e:=(⟨e.no,e.K,⟨e.i.op,e.i.rd,e.i.j,e.i.o,e.i.k⟩,e.M,e.is,IntKind.wrap .i64 (e.left-1),e.value,e.next,e.V,e.halt,e.ZX,e.known,e.Z3⟩:ai)) ?_);simp[ae,a0,a,b]<;>(intros;simp_all)
def XS(e)(a b)(k:e.ok)(m:a<=4294967295)(n:b<=4294967295):bI C0 113 [.agg (ak e),vU a,vU b] (.agg (ak (rJ e a b))):=by
 refine bx func113 rfl<|zC (pS e.i)<|zV (vB (e.is != 0))<|a' rfl id (ar (b8 _ _))<|zN rfl (by simp)<|a' rfl id (ar (b8 _ _))<|zN rfl (by simp)<|zB rfl (λc=>?_) (λc=>?_)
 ·replace c:=sP c;refine dK rfl cn rfl (oW ?_);simp[ae,rJ,uE,bz,c]<;>(intros;simp_all)
 refine ba rfl (Da e.i)<|cq ((wr e.i) != 0) (λd=>?_) (λd=>?_)
 all_goals
  first|refine zC (Nu e.i e.K a b (CI k.k) (CI k.K) (CI m) (CI n)) ?_|skip
  refine zV (vU ((e.K+4)%4294967296))<|bu (ar (b8 _ _)) (λg=>?_) (λg=>?_)
  ·replace c:=sP c;replace d:=sP d;replace g:=sP g
   first|refine dK rfl cn rfl (oW (e:=(⟨e.no,e.K,⟨e.i.op,e.i.rd,e.i.j,e.i.o,e.i.k⟩,e.M,1,3,BF e.i.op e.i.k e.K a b,(e.K+4)%4294967296,e.V,e.halt,e.ZX,e.known,e.Z3⟩:ai)) ?_)|refine dK rfl cn rfl (oW (e:=(⟨e.no,e.K,⟨e.i.op,e.i.rd,e.i.j,e.i.o,e.i.k⟩,e.M,1,3,0,(e.K+4)%4294967296,e.V,e.halt,e.ZX,e.known,e.Z3⟩:ai)) ?_)
   simp[ae,rJ,uE,bz,c,d,g]<;>(intros;simp_all)
  refine bu (ar (b8 _ _)) (λh=>?_) (λh=>?_)
  ·apply zC (Xz e.i.op a b (CI m) (CI n));replace c:=sP c;replace d:=sP d;replace g:=sP g;replace h:=sP h
   first|refine dK rfl cn rfl (oW (e:=(⟨e.no,e.K,⟨e.i.op,e.i.rd,e.i.j,e.i.o,e.i.k⟩,e.M,1,(e6 e.i.op a b:Int),BF e.i.op e.i.k e.K a b,(e.K+4)%4294967296,e.V,e.halt,(e6 e.i.op a b:Int),e.known,e.Z3⟩:ai)) ?_)|refine dK rfl cn rfl (oW (e:=(⟨e.no,e.K,⟨e.i.op,e.i.rd,e.i.j,e.i.o,e.i.k⟩,e.M,1,(e6 e.i.op a b:Int),0,(e.K+4)%4294967296,e.V,e.halt,(e6 e.i.op a b:Int),e.known,e.Z3⟩:ai)) ?_)
   simp[ae,rJ,uE,bz,c,d,g,h]<;>(intros;simp_all)
  refine bu (ar (b8 _ _)) (λi=>?_) (λi=>?_)
  ·refine zC (LW e.i e.K a b (CI k.k) (CI k.K) (CI m) (CI n))<|zB rfl (λj=>?_) (λj=>?_)
   all_goals
    replace c:=sP c;replace d:=sP d;replace g:=sP g;replace h:=sP h;replace i:=sP i;replace j:=sP j
    first|refine dK rfl cn rfl (oW (e:=(⟨e.no,e.K,⟨e.i.op,e.i.rd,e.i.j,e.i.o,e.i.k⟩,e.M,1,1,BF e.i.op e.i.k e.K a b,qP e.i.op e.i.k e.K a b,e.V,e.halt,e.ZX,e.known,e.Z3⟩:ai)) ?_)|refine dK rfl cn rfl (oW (e:=(⟨e.no,e.K,⟨e.i.op,e.i.rd,e.i.j,e.i.o,e.i.k⟩,e.M,1,1,0,qP e.i.op e.i.k e.K a b,e.V,e.halt,e.ZX,e.known,e.Z3⟩:ai)) ?_)|refine dK rfl cn rfl (oW (e:=(⟨e.no,e.K,⟨e.i.op,e.i.rd,e.i.j,e.i.o,e.i.k⟩,e.M,1,1,0,(e.K+4)%4294967296,e.V,3,e.ZX,e.known,e.Z3⟩:ai)) ?_)
    simp[ae,rJ,uE,bz,c,d,g,h,i,j]<;>(intros;simp_all)
  replace c:=sP c;replace d:=sP d;replace g:=sP g;replace h:=sP h;replace i:=sP i
  first|refine dK rfl cn rfl (oW (e:=(⟨e.no,e.K,⟨e.i.op,e.i.rd,e.i.j,e.i.o,e.i.k⟩,e.M,1,1,BF e.i.op e.i.k e.K a b,(e.K+4)%4294967296,e.V,e.halt,e.ZX,e.known,e.Z3⟩:ai)) ?_)|refine dK rfl cn rfl (oW (e:=(⟨e.no,e.K,⟨e.i.op,e.i.rd,e.i.j,e.i.o,e.i.k⟩,e.M,1,1,0,(e.K+4)%4294967296,e.V,e.halt,e.ZX,e.known,e.Z3⟩:ai)) ?_)
  simp[ae,rJ,uE,bz,c,d,g,h,i]<;>(intros;simp_all)
def VV(e)(size)(a)(j:e.ok)(g:size<9223372036854775808)(i:a<=4294967295):bI C0 111 [.agg (ak e),vI size,vU a] (.agg (ak (yC e size a))):=by
 refine bx func111 rfl<|zC (pS e.i)<|zW _ (ar (ee _ _))<|a' rfl id (ar (ee _ _))<|zN rfl (λh=>h)<|gS rfl id<|a' rfl id rfl<|zN rfl (by simp)<|gS rfl id<|zN rfl (by simp)<|zB rfl (λb=>?_) (λb=>?_)
 ·replace b:=sP b;refine dK rfl cn rfl (oW ?_);simp[ae,yC,b]<;>(intros;simp_all)
 skip;refine zV (vU ((a+e.i.k)%4294967296))<|zR<|zC (Gd e.i)<|zC (GY size ((a+e.i.k)%4294967296) (bP e.i.op:Nat) g (aQ _ dT))<|zB rfl (λc=>?_) (λc=>?_)
 ·replace b:=sP b;replace c:=sP c;refine dK rfl cn rfl (oW (e:=(⟨e.no,e.K,⟨e.i.op,e.i.rd,e.i.j,e.i.o,e.i.k⟩,e.M,e.is,e.left,e.value,e.next,(a+e.i.k)%4294967296,e.halt,e.ZX,true,e.Z3⟩:ai)) ?_);simp[ae,yC,b,c]<;>(intros;simp_all)
 refine bu (ar (b8 _ _)) (λd=>?_) (λd=>?_)
 all_goals
  replace b:=sP b;replace c:=sP c;replace d:=sP d
  first|refine dK rfl cn rfl (oW (e:=(⟨e.no,e.K,⟨e.i.op,e.i.rd,e.i.j,e.i.o,e.i.k⟩,e.M,3,e.left,e.value,e.next,(a+e.i.k)%4294967296,5,e.ZX,e.known,e.Z3⟩:ai)) ?_)|refine dK rfl cn rfl (oW (e:=(⟨e.no,e.K,⟨e.i.op,e.i.rd,e.i.j,e.i.o,e.i.k⟩,e.M,3,e.left,e.value,e.next,(a+e.i.k)%4294967296,4,e.ZX,e.known,e.Z3⟩:ai)) ?_)
  simp[ae,yC,b,c,d]<;>(intros;simp_all)
def RR(e)(s)(i:e.ok)(g:s.size<9223372036854775808):bI C0 55 [.agg (ak e),.v (.string s)] (.agg (ak (uM e s))):=by
 refine bx func55 rfl<|ba rfl (pS e.i)<|zW _ (ar (ee _ _))<|gS rfl id<|gS rfl id<|zN rfl (by simp)<|gS rfl id<|a' rfl id rfl<|zG rfl id<|gS rfl id<|a' rfl id rfl<|pB rfl rfl rfl rfl (λh=>h) rfl rfl (λd c=>by first|(rw[d,c];rfl)|simp_all)<|zN rfl (by simp)<|zB rfl (λa=>?_) (λa=>?_)
 ·replace a:=sP a;refine dK rfl cn rfl (oW ?_);simp[ae,uM,a]<;>(intros;simp_all)
 skip
 refine ba rfl (Da e.i)<|cq _ (λb=>?_) (λb=>?_)
 ·apply zC (va e.i.op s g);replace a:=sP a;replace b:=sP b;refine dK rfl cn rfl (oW (e:=(⟨e.no,e.K,⟨e.i.op,e.i.rd,e.i.j,e.i.o,e.i.k⟩,e.M,1,1,hW e.i.op s,e.next,e.V,e.halt,e.ZX,e.known,e.Z3⟩:ai)) ?_);simp[ae,uM,a,b]<;>(intros;simp_all)
 replace a:=sP a;replace b:=sP b;refine dK rfl cn rfl (oW (e:=(⟨e.no,e.K,⟨e.i.op,e.i.rd,e.i.j,e.i.o,e.i.k⟩,e.M,1,1,0,e.next,e.V,e.halt,e.ZX,e.known,e.Z3⟩:ai)) ?_);simp[ae,uM,a,b]<;>(intros;simp_all)
def XT(x n:Nat)(b:x<4294967296)(a:n<=4):bI C0 104 [vU x,vI (n:Int)] (vU (ki x n)):=by
 exact bx func104 rfl<|zC (Nv x n b a)<|zC (uy (oF x n) (by rw[mP];exact a))<|fT rfl rfl
def RS(e)(b)(d:e.ok)(c:b<=4294967295):bI C0 62 [.agg (ak e),vU b] (.agg (ak (uF e b))):=by
 refine bx func62 rfl<|ba rfl (pS e.i)<|zW _ (ar (ee _ _))<|gS rfl id<|gS rfl id<|zN rfl (by simp)<|gS rfl id<|a' rfl id rfl<|zN rfl (by simp)<|zB rfl (λa=>?_) (λa=>?_)
 ·replace a:=sP a;refine dK rfl cn rfl (oW ?_);simp[ae,uF,a]<;>(intros;simp_all)
 refine ba rfl (Gd e.i)<|zC (XT b (bP e.i.op) (CI c) (lQ e.i.op)) ?_;replace a:=sP a;refine dK rfl cn rfl (oW (e:=(⟨e.no,e.K,⟨e.i.op,e.i.rd,e.i.j,e.i.o,e.i.k⟩,e.M,3,e.left,ki b (bP e.i.op),e.next,e.V,e.halt,e.ZX,e.known,e.Z3⟩:ai)) ?_);simp[ae,uF,a]<;>(intros;simp_all)
def RT(e)(j:e.ok):bI C0 65 [.agg (ak e)] (.agg (a3 (cA e))):=by
 refine bx func65 rfl<|cq (e.halt != 0) (λa=>?_) (λa=>?_)
 ·refine zV (.agg [vU e.K,vU e.K,vI 0,zU,zU,vI 0,vB false,vI e.halt,vI 0])<|zV (vB (e.halt==4))<|gS rfl id<|a' rfl id rfl<|zN rfl (by simp)<|zB rfl (λg=>?_) (λg=>?_)
  ·replace a:=sP a;replace g:=sP g;refine dK rfl cn rfl (DL (e:=⟨e.K,e.K,0,0,e.V,0,false,e.halt,0⟩) ?_);simp[cA,bz,a,g]<;>(intros;simp_all)
  replace a:=sP a;replace g:=sP g;refine dK rfl cn rfl (DL (e:=⟨e.K,e.K,0,0,0,0,false,e.halt,0⟩) ?_);simp[cA,bz,a,g]<;>(intros;simp_all)
 refine zR ?_;refine zV (vU ((e.K+4)%4294967296))<|zC (Da e.i)<|zV (.agg [vU e.K,vU ((e.K+4)%4294967296),vI (wr e.i),zU,zU,vI 0,vB false,vI 0,vI 0])<|cq ((wr e.i) != 0) (λb=>?_) (λb=>?_)
 all_goals
  refine zC (pS e.i)<|bu (ar (b8 _ _)) (λc=>?_) (λc=>?_)
  ·skip;apply zC (Gd e.i);replace a:=sP a;replace b:=sP b;replace c:=sP c;refine dK rfl cn rfl (DL (e:=⟨e.K,(e.K+4)%4294967296,wr e.i,e.value,e.V,bP e.i.op,true,0,0⟩) ?_);simp[cA,bz,a,b,c]<;>(intros;simp_all)
  refine bu (ar (b8 _ _)) (λd=>?_) (λd=>?_)
  ·apply zC (Gd e.i);replace a:=sP a;replace b:=sP b;replace c:=sP c;replace d:=sP d
   first|refine dK rfl cn rfl (DL (e:=⟨e.K,(e.K+4)%4294967296,wr e.i,e.value,e.V,bP e.i.op,false,0,0⟩) ?_)|refine dK rfl cn rfl (DL (e:=⟨e.K,(e.K+4)%4294967296,wr e.i,0,e.V,bP e.i.op,false,0,0⟩) ?_)
   simp[cA,bz,a,b,c,d]<;>(intros;simp_all)
  refine bu (ar (b8 _ _)) (λh=>?_) (λh=>?_)
  ·replace a:=sP a;replace b:=sP b;replace c:=sP c;replace d:=sP d;replace h:=sP h
   first|refine dK rfl cn rfl (DL (e:=⟨e.K,(e.K+4)%4294967296,wr e.i,e.value,0,0,false,0,e.ZX⟩) ?_)|refine dK rfl cn rfl (DL (e:=⟨e.K,(e.K+4)%4294967296,wr e.i,0,0,0,false,0,e.ZX⟩) ?_)
   simp[cA,bz,a,b,c,d,h]<;>(intros;simp_all)
  refine bu (ar (b8 _ _)) (λi=>?_) (λi=>?_)
  all_goals
   replace a:=sP a;replace b:=sP b;replace c:=sP c;replace d:=sP d;replace h:=sP h;replace i:=sP i
   first|refine dK rfl cn rfl (DL (e:=⟨e.K,e.next,wr e.i,e.value,0,0,false,0,0⟩) ?_)|refine dK rfl cn rfl (DL (e:=⟨e.K,e.next,wr e.i,0,0,0,false,0,0⟩) ?_)|refine dK rfl cn rfl (DL (e:=⟨e.K,(e.K+4)%4294967296,wr e.i,e.value,0,0,false,0,0⟩) ?_)|refine dK rfl cn rfl (DL (e:=⟨e.K,(e.K+4)%4294967296,wr e.i,0,0,0,false,0,0⟩) ?_)
   simp[cA,bz,a,b,c,d,h,i]<;>(intros;simp_all)
def F8(n:Nat):(if(0:Int)>(n:Int)then(0:Int)else(n:Int))=(n:Int):=dZ ad
def rn{n:Nat}(h:n<=1000):IntKind.wrap .i64 ((n:Int)-1)=(n:Int)-1:=kw ad ad
def XU{k:Nat}(a:0<k)(h:k<=1000):IntKind.wrap .i64 (((k:Int)-1)-1)=((k-1:Nat):Int)-1:=by rw[kw ad ad];omega
def I_{a b:Nat}(h:b<=a)(c:a<=4294967295):IntKind.wrap .u32 ((a:Int)-(b:Int))=((a-b:Nat):Int):=by
 rw[(oT:((a:Int)-(b:Int))=((a-b:Nat):Int))];exact nJ (by omega:a-b<=4294967295) rfl
def US(a n)(b:a<=4294967295)(c:n<=1000):bI C0 162 [vU a,vN n] (.v (.int .u64 ((a+n:Nat):Int))):=by
 apply bx func162 rfl;exact zW _ (ax (nJ b rfl))<|rW _ rfl (ax (F8 n))<|rW _ rfl (ax (nJ c rfl)) (zW _ (ax (nJ (aD b c) rfl))<|fT rfl rfl)
def B5(a n b m)(d:a<=4294967295)(i:n<=1000)(e:b<=4294967295)(g:m<=1000):bI C0 157 [vU a,vN n,vU b,vN m] (vB (hF a n b m)):=by
 refine bx func157 rfl<|zW _ (ar (iT _ _))<|a' rfl id (ar (iT _ _))<|zN rfl (by simp)<|zB rfl (λc=>?_) (λc=>?_)
 ·exact fT rfl (dR (by have z:=c;simp[af,qA,hF]at z⊢ <;>grind))
 exact zW _ (ax (nJ d rfl))<|ba rfl (US b m e g)<|zW _ (ar (b2 _ _))<|gc rfl id (ax (nJ e rfl))<|jQ rfl rfl rfl rfl cj rfl rfl rfl (.inl rfl) rfl (λj=>US a n d i)<|a' rfl cj (ar (b2 _ _))<|zN rfl (λh=>h)<|fT rfl (dR (by have z:=c;simp[af,qA,hF]at z⊢ <;>grind))
def XV(a n b m)(c:a<=4294967295)(i:n<=1000)(d:b<=4294967295)(g:m<=1000):bI C0 158 [vU a,vN n,vU b,vN m] (vB (Fh a n b m)):=by
 exact bx func158 rfl<|zW _ (ar (gQ _ _))<|a' rfl cj (ar (iT _ _))<|zN rfl (λh=>h)<|zQ rfl cj rfl (.inl rfl) (λe=>US b m d g)<|jQ rfl rfl rfl rfl cj rfl rfl rfl (.inl rfl) rfl (λe=>US a n c i)<|a' rfl cj (ar (iT _ _))<|zN rfl (λh=>h)<|fT rfl (dR (by simp[af,qA,Fh]<;>grind))
def A4(s:Std):Value:=.agg #[.int .u32 (s.V:Int),.int .i64 (s.size:Int),.string s.data,.bool s.there]
def ud(s:Std):Array Value:= #[A4 s]
abbrev vo(s:Std):List AV:=[vU s.V,vN s.size,.v (.string s.data),vB s.there]
def NN(R:List ai)(k:Nat):List Std:=(((R.drop k).filter λe=>fm e 4).map Fg).reverse
def UT(R:List ai)(S:List Pt)(k:Nat):List Std:=NN R 0++((S.drop k).map CY).reverse
def NO(R:List ai)(S:List Pt):FW R S=NN R 0++(S.map CY).reverse:=rfl
def FA{α}{l:List α}{k}{x}(b:0<k)(h:l[k-1]?=some x):l.drop (k-1)=x::l.drop k:=by
 obtain⟨a,rfl⟩:=Em.1 h;rw[bF a,(oT:k-1+1=k)]
def NP{R}{k}{x}(a:0<k)(h:R[k-1]?=some x)(b:fm x 4=true):NN R (k-1)=NN R k++[Fg x]:=by
 unfold NN;rw[FA a h,List.filter_cons_of_pos (sU b)];simp
def XW{R}{k}{x}(a:0<k)(h:R[k-1]?=some x)(b:fm x 4=false):NN R k=NN R (k-1):=by
 unfold NN;rw[FA a h,List.filter_cons_of_neg (sU b)]
def UU(R)(S)(k):NN R k <+: FW R S:=by
 rw[NO];refine List.IsPrefix.trans ?_ (List.prefix_append _ _);refine⟨(((R.take k).filter λe=>fm e 4).map Fg).reverse,?_⟩;unfold NN;rw[<-List.reverse_append, <-dH, <-mL,js,bS]
def Ph(R):NN R R.length=[]:=by unfold NN;rw[List.drop_length];rfl
def KV{R}{S}{k}{x}(a:0<k)(h:S[k-1]?=some x):UT R S (k-1)=UT R S k++[CY x]:=by
 unfold UT;rw[FA a h];simp
def UV(R)(S)(k):UT R S k <+: FW R S:=by
 rw[NO];unfold UT;rw[List.prefix_append_right_inj];exact⟨((S.take k).map CY).reverse,by rw[<-List.reverse_append, <-dH,js]⟩
def Pi(R)(S):UT R S S.length=NN R 0:=by unfold UT;rw[List.drop_length];simp
def UW(R:List ai)(S:List Pt):UT R S 0=FW R S:=rfl
def UX{R}{S}(d:∀x∈R,x.ok)(a:∀x∈S,x.ok)(b:∀x∈S,x.data.size<=4){s}(h:s∈FW R S):s.V<=4294967295∧s.size<=4∧s.data.size=s.size:=by
 unfold FW at h;rcases cp.1 h with h|h
 ·obtain⟨e,c,rfl⟩:=pG.1 (List.mem_reverse.1 h);exact⟨(d e (List.mem_filter.1 c).1).V,lQ _,mP _ _⟩
 obtain⟨p,hp,rfl⟩:=pG.1 (List.mem_reverse.1 h);exact⟨(a p hp).V,b p hp,rfl⟩
theorem DE{at_ n:Nat}:∀{l:List Std},(∀s,s∈l->hF s.V s.size at_ n=false)->xK at_ n l=(2,oZ)
 |[],_=>rfl
 |s::l,h=>by
  simp[xK];rw[aa (h s b1)];exact DE λy a=>h y (bY _ a)
theorem Dh{at_ n:Nat}{s:Std}:∀{pre l:List Std},pre++[s] <+: l->(∀y,y∈pre->hF y.V y.size at_ n=false)->hF s.V s.size at_ n=true->
  xK at_ n l=if Fh s.V s.size at_ n=false∨s.there=false then(0,oZ)else(1,s.data.extract (at_-s.V) (at_-s.V+n))
 |[],[],h,_,_=>by have:=h.length_le;simp at this
 |[],y::l,h,_,a=>by
  let⟨t,b⟩:=h;obtain⟨rfl, -⟩:=List.cons.inj b
  simp only[xK];rw[dZ (by simp[a])]
 |y::pre,[],h,_,_=>by have:=h.length_le;simp at this
 |y::pre,z::l,h,c,a=>by
  let⟨t,b⟩:=h;let⟨d,e⟩:=List.cons.inj b;subst d;simp[xK];rw[aa (c y b1)];exact Dh ⟨t,e⟩ (λy g=>c y (bY _ g)) a
def RU(R)(S)(c a)(J:R.length<=1000)(K:∀x∈R,x.ok)(F:S.length<=1000)(E:∀x∈S,x.ok):RN C0 161 [.dp 1 0 ([.X 17 (R.map ak) c]),.dp 1 0 ([.X 2 (S.map av) a])] ud (FW R S):=by
 apply RN.intro fw func161 rfl rfl (by kernel_rfl) rfl;intro y;refine rQ<|rQ<|nU rfl<|a6<|oR 1 rfl<|rW _ rfl (cD ak R)<|rW _ rfl (ax (rn J))<|oR 1 rfl<|rE 4<|AA<|NH (κ:=Nat) (λk=>⟨be [(0,.v y),(1,.dp 1 0 ([.X 17 (R.map ak) c])),(2,.dp 1 0 ([.X 2 (S.map av) a])),(4,vI ((k:Int)-1))],ao [],4⟩) (λk=>NN R k) (λk=>k<=R.length) (λk=>k) R.length (λs=>s) (au (λs=>s) wT trivial rfl) rfl (Ph R) (aC _) ?_;intro k I;have i:k<=1000:=by have:k<=R.length:=I;omega
 refine rQ<|rQ<|nU rfl<|a6<|oR 1 rfl<|rV (vB (decide (((k:Int)-1)>=0))) rfl<|rE 6<|Cz rfl (λn=>?_) (λn=>?_)
 ·have u:=a7 n;have b:0<k:=oT;refine nU rfl<|mF<|rQ<|AA<|rQ<|nU rfl<|a6<|oR 2 rfl ?_;let⟨x,h⟩:=d7 R (k-1);have G:=K x (aB h);refine FO (ak x) rfl rfl rfl (⟨oT,by rw[(oT:((k:Int)-1).toNat=k-1)];exact iH h⟩) rfl<|oR 1 rfl<|c4 10 rfl rfl<|a4 rfl<|rE 12<|rQ<|rQ<|nU rfl<|a6<|oR 2 rfl<|ba rfl (pS x.i)<|rW _ rfl (ar (ee _ _))<|rE 16<|Cz rfl (λo=>?_) (λo=>?_)
  ·have d:=wM o;have D:fm x 4=false:=by unfold fm;simpa using d
   refine nU rfl<|Bh<|nU rfl<|a6<|oR 1 rfl<|rW _ rfl (ax (XU b i))<|oR 1 rfl<|rE 19 ?_;refine⟨rfl,k-1,λs=>s,au _ wT trivial rfl,rfl,(XW b h D).symm,(oT:k-1<=R.length),(oT:k-1<k)⟩
  have d:=wN o;have m:fm x 4=true:=by unfold fm;simpa using d
  refine nU rfl<|mF<|rQ<|nU rfl<|a6<|oR 2 rfl<|ba rfl (Gd x.i)<|oR 1 rfl<|rE 20<|rQ<|nU rfl<|a6<|oR 3 rfl<|ba rfl (Nv x.value (bP x.i.op) (CI G.value) (lQ x.i.op))<|oR 5 rfl<|rE 29<|rQ<|NI rfl 9 rfl rfl rfl<|oR 7 rfl<|rV (vB (x.is==3)) rfl<|rV (.agg [vU x.V,vN (bP x.i.op),.v (.string (oF x.value (bP x.i.op))),vB (x.is==3)]) rfl<|rE 38 ?_;refine⟨Fg x,_,⟨be [(0,.v y),(1,.dp 1 0 ([.X 17 (R.map ak) c])),(2,.dp 1 0 ([.X 2 (S.map av) a])),(4,vI ((k:Int)-1)),(36,.v y),(44,.agg [vU x.V,vN (bP x.i.op),.v (.string (oF x.value (bP x.i.op))),vB (x.is==3)])],ao [],0⟩,λs=>s,au _ wT trivial rfl,rfl,rfl,rfl,rfl,rfl,rfl,(by rw[<-NP b h m];exact UU R S _),λM=>?_⟩;refine oR 1 rfl<|rE 40<|Cz rfl (λq=>?_) (λq=>?_)
  ·refine nU rfl<|FQ ?_;intro g;rw[q]at g;cases g
  refine nU rfl<|mF<|nU rfl<|a6<|oR 1 rfl<|rW _ rfl (ax (XU b i))<|oR 1 rfl<|rE 43 ?_;refine⟨q,k-1,λs=>s,au _ wT trivial rfl,rfl,(NP b h m),(oT:k-1<=R.length),(oT:k-1<k)⟩
 have u:=aF n;refine nU rfl<|Bh<|rQ<|nU rfl<|a6<|oR 1 rfl<|rW _ rfl (cD av S)<|rW _ rfl (ax (rn F))<|oR 1 rfl<|rE 10<|AA ?_;obtain C:k=0:=oT;subst C;apply NH (κ:=Nat) (λj=>⟨be [(0,.v y),(1,.dp 1 0 ([.X 17 (R.map ak) c])),(2,.dp 1 0 ([.X 2 (S.map av) a])),(9,vI ((j:Int)-1))],ao [],10⟩) (λj=>UT R S j) (λj=>j<=S.length) (λj=>j) S.length (λs=>s) (au (λs=>s) wT trivial rfl) rfl (Pi R S) (aC _);intro j H;have w:j<=1000:=by have:j<=S.length:=H;omega
 refine rQ<|rQ<|nU rfl<|a6<|oR 1 rfl<|rV (vB (decide (((j:Int)-1)>=0))) rfl<|rE 12<|Cz rfl (λr=>?_) (λr=>?_)
 ·have v:=a7 r;have e:0<j:=oT;refine nU rfl<|mF<|rQ<|AA<|rQ<|nU rfl<|a6<|oR 2 rfl ?_;let⟨p,hp⟩:=d7 S (j-1);have L:=E p (aB hp);refine FO (av p) rfl rfl rfl (⟨oT,by rw[(oT:((j:Int)-1).toNat=j-1)];exact iH hp⟩) rfl<|oR 1 rfl<|c4 16 rfl rfl<|a4 rfl<|rE 18<|rQ<|NI rfl 9 rfl rfl rfl<|oR 5 rfl<|rV (vN p.data.size) rfl<|oR 2 rfl<|rV (.agg [vU p.V,vN p.data.size,.v (.string p.data),vB true]) rfl<|rE 27 ?_;refine⟨CY p,_,⟨be [(0,.v y),(1,.dp 1 0 ([.X 17 (R.map ak) c])),(2,.dp 1 0 ([.X 2 (S.map av) a])),(9,vI ((j:Int)-1)),(58,.v y),(66,.agg [vU p.V,vN p.data.size,.v (.string p.data),vB true])],ao [],0⟩,λs=>s,au _ wT trivial rfl,rfl,rfl,rfl,rfl,rfl,rfl,(by rw[<-KV e hp];exact UV R S _),λN=>?_⟩;refine oR 1 rfl<|rE 29<|Cz rfl (λt=>?_) (λt=>?_)
  ·refine nU rfl<|FQ ?_;intro g;rw[t]at g;cases g
  refine nU rfl<|mF<|nU rfl<|a6<|oR 1 rfl<|rW _ rfl (ax (XU e w))<|oR 1 rfl<|rE 32 ?_;refine⟨t,j-1,λs=>s,au _ wT trivial rfl,rfl,(KV e hp),(oT:j-1<=S.length),(oT:j-1<j)⟩
 have v:=aF r;refine nU rfl<|Bh ?_;intro _;obtain z:j=0:=oT;subst z;exact UW R S
def RV(R:List ai)(S:List Pt)(b a)(e:R.length<=1000)(g:∀x∈R,x.ok)(d:S.length<=1000)(c:∀x∈S,x.ok):bI C0 156 [.X 17 (R.map ak) b,.X 2 (S.map av) a] (.F 161 [] [.dp 1 0 [.X 17 (R.map ak) b],.dp 1 0 [.X 2 (S.map av) a]]):=by
 apply bx func156 rfl;apply zV (.F 161 [] [.ptr 0 0,.ptr 1 0]);exact dK rfl f_ rfl rfl
def UY{l:List ai}{k}{x}(h:∀y,y∈l.take k->Aw y=false)(b:l[k]?=some x)(a:Aw x=false):∀y,y∈l.take (k+1)->Aw y=false:=by
 intro y hy;rw[bW,b]at hy;rcases cp.1 hy with hy|hy
 ·exact h y hy
 have:y=x:=sU hy;rw[this];exact a
def UZ{agI}{agF}{i}{e}(a:agI[i]?=some e)(b: ¬am e.i.op=3):lL agI agF i=(0,oZ):=by
 unfold lL;rw[a];exact aa b
def RW{agI}{agF}{i k:Nat}{e x}(a:agI[i]?=some e)(b:am e.i.op=3)(d:(agI.take i)[k]?=some x)(c:Aw x=true):lL agI agF i=(0,oZ):=by
 unfold lL;rw[a];exact(dZ (λh=>h b)).trans (aa (Mv.2 ⟨x,aB d,c⟩))
def RX{agI}{agF}{i k}{e}(d:agI[i]?=some e)(g:am e.i.op=3)(a:∀y,y∈(agI.take i).take k->Aw y=false)(b:(agI.take i).length<=k):lL agI agF i=xK e.V (bP e.i.op) (FW (agI.take i) agF):=by
 unfold lL;rw[d];refine(dZ (λh=>h g)).trans (dZ λh=>?_);let⟨x,j,c⟩:=Mv.1 h;rw[aN b]at a;rw[a x j]at c;cases c
def XX(agI)(agF)(g a)(i)(hl:agI.length<=1000)(R:∀x∈agI,x.ok)(H:agF.length<=1000)(v:∀x∈agF,x.ok)(W:∀x∈agF,x.data.size<=4)(hi:i<agI.length):bI C0 143 [.X 17 (agI.map ak) g,.X 2 (agF.map av) a,vN i] (.A [vI (lL agI agF i).1,.v (.string (lL agI agF i).2)]):=by
 refine pm (bI.Zj (C:=C1) (λd=>k9.wd d) (λn=>k9.at) func143 rfl rfl (by kernel_rfl) rfl ?_);have ag:i<=1000:=oT;have J:(agI.take i).length<=1000:=by rw[aM];omega
 have C:∀x∈agI.take i,x.ok:=λx q=>R x (cQ q);refine uO<|tQ rfl<|a6<|c4 0 rfl rfl<|c4 1 rfl rfl<|rE 2<|XO<|uO<|uO<|tQ rfl<|a6<|oR 1 rfl<|rW (vB (decide (i<0))) rfl (ar (b2 _ _))<|oR 1 rfl<|gN rfl<|gN rfl<|a' rfl id (cD ak agI)<|a' rfl cj (ar (kx _ _))<|bO rfl rfl rfl (by simp)<|oR 1 rfl<|gN rfl<|gN rfl ?_;let⟨e,j⟩:=d7 agI i;have b:=R e (aB j);refine DK (ak e) (x:=.dp 17 0 (ak e)) (g:= !(cE (decide (i<0)) true (decide (i>=agI.length)))) rfl rfl rfl rfl cj rfl rfl (λP=>⟨aG _,iH j⟩) rfl<|gS rfl id<|gS rfl id<|jQ (x:=vN (am e.i.op)) (g:= !(cE (decide (i<0)) true (decide (i>=agI.length)))) rfl rfl rfl rfl (λh=>h) rfl rfl rfl (.inl rfl) rfl (λP=>pS e.i)<|a' rfl id (ar (ee _ _))<|bO rfl rfl rfl (by simp)<|rE 19<|VT (v:=cE (cE (decide (i<0)) true (decide (i>=agI.length))) true ((am e.i.op) != 3)) rfl (λK=>?_) (λK=>?_)
 ·have c: ¬am e.i.op=3:=by have z:=K;simp[af]at z;grind
  refine uO<|tQ rfl<|a6<|a4 rfl<|a4 rfl<|rE 21<|tQ rfl<|FQ ?_;have m:=UZ (agF:=agF) j c;rw[m];exact fT rfl rfl
 have c:am e.i.op=3:=by have z:=K;simp[af]at z;grind
 refine tQ rfl<|mF<|uO<|uO<|tQ rfl<|a6<|oR 2 rfl<|nW (.X 17 ((agI.take i).map ak) (g&&false)) rfl (yB (vY ak agI i)) gj<|rW (vN i) rfl (vW ak (agI.take i) ad)<|oR 1 rfl<|rE 24<|Ja<|x1<|jR (κ:=Nat) (λk=>⟨be [(0,.X 17 (agI.map ak) g),(1,.X 2 (agF.map av) a),(2,vN i),(6,.ptr 0 0),(7,.ptr 1 0),(30,vB (cE (cE (decide (i<0)) true (decide (i>=agI.length))) true ((am e.i.op) != 3))),(33,.X 17 ((agI.take i).map ak) (g&&false)),(34,vN i),(35,vN k)],ao [(0,.box [vI 0]),(1,.box [.v (.string (⟨#[]⟩:ByteArray))])],24⟩) (λk=>k<=i∧∀y,y∈(agI.take i).take k->Aw y=false) (λk=>i-k) 0 (λs=>s) (au (λs=>s) wT wH rfl) (⟨aE _,nofun⟩) ?_;intro k Q;have ai:k<=i:=Q.1;refine bk<|rW (vB (decide (k<i))) rfl (ar (b2 _ _))<|rE 25<|uR<|aV rfl (λL=>?_) (λL=>?_)
 ·have U:=a7 L;refine mF<|uR<|kO<|bk ?_;let⟨x,q⟩:=d7 (agI.take i) k;have al:=(zD R) x (aB q);refine h6 (ak x) (.dp 17 0 (ak x)) rfl rfl (iH q) rfl<|oR 1 rfl<|c4 27 rfl rfl<|a4 rfl<|rE 29<|bk<|oR 2 rfl<|ba rfl (pS x.i)<|rW (vB ((am x.i.op)==4)) rfl (ar (b8 _ _))<|oR 1 rfl<|gN rfl<|gS rfl id<|gS rfl id<|gS rfl id<|gN rfl<|gS rfl id<|a' rfl id rfl<|pB (x:=vB (cE (!x.known) true (x.halt != 0))) (g:=(am x.i.op)==4) rfl rfl rfl rfl (λh=>h) rfl rfl (λP Z=>by first|(rw[P,Z];rfl)|simp_all)<|bO rfl rfl rfl (λh=>h)<|rE 43<|aV rfl (λM=>?_) (λM=>?_)
  ·have T:Aw x=true:=by have z:=M;unfold Aw fm;simp[af,qA]at z⊢;grind
   refine bk<|a4 rfl<|a4 rfl<|rE 45<|FQ ?_;have m:=RW (agF:=agF) j c q T;rw[m];exact fT rfl rfl
  have T:Aw x=false:=by have z:=M;unfold Aw fm;simp[af,qA]at z⊢;grind
  refine mF<|a6 ?_;have X:k+1<=1000001:=aD oT (aC 1);refine rW (vN (k+1)) rfl (ax (bH X rfl))<|oR 1 rfl<|rE 45 ?_;refine⟨k+1,λs=>s,au _ wT wH rfl,⟨oT,UY Q.2 q T⟩,c7⟩
 have U:=aF L;have r:=Q.2;have t:(agI.take i).length<=k:=by rw[aM];omega
 refine Bh<|uO<|tQ rfl<|a6<|oR 2 rfl<|h6 (ak e) (.dp 17 0 (ak e)) rfl rfl (iH j) rfl<|oR 4 rfl<|h6 (ak e) (.dp 17 0 (ak e)) rfl rfl (iH j) rfl<|oR 2 rfl<|ba rfl (Gd e.i)<|c4 36 rfl rfl<|c4 37 rfl rfl<|a4 rfl<|a4 rfl<|rE 40<|uO<|tQ rfl<|Gh<|uO<|uO<|tQ rfl<|a6<|oR 2 rfl<|nW (.X 17 ((agI.take i).map ak) (g&&false)) rfl (yB (vY ak agI i)) gj<|oR 1 rfl<|ba rfl (RV (agI.take i) agF (g&&false) a J C H v)<|rE 45<|Ja<|Md (.mk _ (.refl _) ⟨⟨be [(6,.ptr 0 0),(7,.ptr 1 0),(10,.ptr 2 0),(11,.ptr 3 0),(69,.F 161 [] [.dp 1 0 ([.X 17 ((agI.take i).map ak) (g&&false)]),.dp 1 0 ([.X 2 (agF.map av) a])])],ao [(0,.box [vI 0]),(1,.box [.v (.string (⟨#[]⟩:ByteArray))]),(2,.box [vU e.V]),(3,.box [vN (bP e.i.op)])],4⟩,λs=>match s with|2=>36|3=>37|s=>s,au _ wT wH rfl,rfl,?_⟩);refine .mk Std 161 [.dp 1 0 ([.X 17 ((agI.take i).map ak) (g&&false)]),.dp 1 0 ([.X 2 (agF.map av) a])] (λs:Std=>[.agg (vo s)]) ud (FW (agI.take i) agF) (λs:Std=>hF s.V s.size e.V (bP e.i.op)=false) 4 (λ_=>ao [(0,.box [vI 0]),(1,.box [.v (.string (⟨#[]⟩:ByteArray))]),(2,.box [vU e.V]),(3,.box [vN (bP e.i.op)])]) (λ_=>4) rfl rfl ⟨_,func161,rfl,rfl⟩ (RU (agI.take i) agF (g&&false) a J C H v) (λx S w β=>BL (show Ju [.agg (vo x)]=some _ from rfl)) (λ_=>rfl) rfl rfl (λ_=>rfl) (au (hp:=[]) (λs=>s) wT trivial rfl) ?_ ?_
 ·intro ab s u E;have G:=UX C v W (u.subset (List.mem_append_right _ (uJ.2 rfl)));have I:s.size<=1000:=oT;have F:bP e.i.op<=1000:=aL (lQ e.i.op) dT;refine a6<|c4 4 rfl rfl<|a4 rfl<|rE 6 ?_;refine⟨rfl,?_⟩;refine kO<|uR<|bk<|oR 6 rfl<|ba rfl (B5 s.V s.size e.V (bP e.i.op) G.1 I b.V F)<|oR 1 rfl<|rE 14<|aV rfl (λN=>?_) (λN=>?_)
  ·have p:hF s.V s.size e.V (bP e.i.op)=false:=sU N;exact Bh<|⟨p,.mk _ (.refl _) ⟨λs=>s,rfl,au (l:=[]) (hp:=[(0,.box [vI 0]),(1,.box [.v (.string (⟨#[]⟩:ByteArray))]),(2,.box [vU e.V]),(3,.box [vN (bP e.i.op)])]) (λs=>s) trivial wH rfl⟩⟩
  have p:hF s.V s.size e.V (bP e.i.op)=true:=sU N;refine mF<|uR<|bk<|oR 6 rfl<|ba rfl (XV s.V s.size e.V (bP e.i.op) G.1 I b.V F)<|oR 2 rfl<|gN rfl<|gS rfl id<|gS rfl id<|bO rfl rfl rfl (by simp)<|rE 27<|aV rfl (λO=>?_) (λO=>?_)
  ·have o:Fh s.V s.size e.V (bP e.i.op)=false∨s.there=false:=by have z:=O;simp[af]at z;grind
   refine bk<|a4 rfl<|a4 rfl<|rE 29<|FQ<|.mk _ (.refl _) ⟨ao [(0,.box [vI 0]),(1,.box [.v (.string (⟨#[]⟩:ByteArray))]),(2,.box [vU e.V]),(3,.box [vN (bP e.i.op)])],4,λs=>s,rfl,rfl,au (l:=[]) (hp:=[(0,.box [vI 0]),(1,.box [.v (.string (⟨#[]⟩:ByteArray))]),(2,.box [vU e.V]),(3,.box [vN (bP e.i.op)])]) (λs=>s) trivial wH rfl,?_⟩;intro D;have m:=(RX (agF:=agF) j c r t).trans ((Dh u E p).trans (aa o));rw[m];exact fT rfl rfl
  have o: ¬(Fh s.V s.size e.V (bP e.i.op)=false∨s.there=false):=by have z:=O;simp[af]at z;grind
  have V:s.V<=e.V∧e.V+bP e.i.op<=s.V+s.size:=by have z:=o;simp[not_or,Bool.not_eq_false]at z;have y:=z.1;unfold Fh at y;simp[aP,aY]at y;omega
  refine mF<|bk<|oR 3 rfl<|rW (vU (e.V-s.V)) rfl (ax (I_ V.1 b.V))<|rW (vN (e.V-s.V)) rfl (ax (bH (aL (jT _ _) b.V) rfl))<|oR 1 rfl<|rE 33<|uR<|pO rfl rfl<|oR 5 rfl ?_;have an:(e.V-s.V)+(bP e.i.op)<=4294967299:=aD (aL (jT _ _) b.V) (lQ e.i.op);refine rW (vN ((e.V-s.V)+(bP e.i.op))) rfl (ax (bH (aD (aL (jT _ _) b.V) (lQ e.i.op)) rfl))<|nW (.v (.string (s.data.extract (e.V-s.V) ((e.V-s.V)+(bP e.i.op))))) rfl rfl (by refine⟨?_,?_,?_⟩<;>(first|exact aG _|decide|(apply FG.2;exact ad)))<|a4 rfl<|a4 rfl<|rE 42<|And.intro (by kernel_rfl)<|FQ<|.mk _ (.refl _) ⟨ao [(0,.box [vI 1]),(1,.box [.v (.string (s.data.extract (e.V-s.V) ((e.V-s.V)+(bP e.i.op))))]),(2,.box [vU e.V]),(3,.box [vN (bP e.i.op)])],4,λs=>s,rfl,rfl,au (l:=[]) (hp:=[(0,.box [vI 1]),(1,.box [.v (.string (s.data.extract (e.V-s.V) ((e.V-s.V)+(bP e.i.op))))]),(2,.box [vU e.V]),(3,.box [vN (bP e.i.op)])]) (λs=>s) trivial wH rfl,?_⟩;intro D;have m:=(RX (agF:=agF) j c r t).trans ((Dh u E p).trans (dZ o));rw[m];exact fT rfl rfl
 intro Y D;refine uO<|tQ rfl<|a6<|a4 rfl<|a4 rfl<|rE 6<|tQ rfl<|FQ ?_;rw[(RX (agF:=agF) j c r t).trans (DE Y)];exact fT rfl rfl
section
variable {α:Type}{f:α->List AV}{A l B:List α}{lo:Nat}
def jK{x}{i}(a:A.length=lo)(b:l[i]?=some x):(A++l++B)[lo+i]?=some x:=by
 rw[eD,bM ad, <-a,Nat.add_sub_cancel_left,cF ((Em.1 b).1),b]
def tV{n}(a:A.length=lo)(b:l.length=n):List.take n (List.drop lo ((A++l++B).map f))=l.map f:=by
 subst a b;rw[<-kM, <-eO];congr 1;rw[eD,List.drop_left,List.take_left]
def Xa{x}{i}(a:A.length=lo)(b:i<l.length):(A++l++B).set (lo+i) x=A++l.set i x++B:=by
 subst a;rw[eD,iN _ _ ad,Nat.add_sub_cancel_left,List.set_append_left _ _ b,eD]
def uL{x}{i}{h:AH}{b rs}(a:A.length=lo)(c:i<l.length):some (an h b (some (.arr (((A++l++B).map f).set (lo+i) (f x)) rs)))=some (an h b (some (.arr ((A++l.set i x++B).map f) rs))):=by
 rw[<-List.map_set,Xa a c]
end
def MT(a)(s):hW a s<=4294967295:=by
 unfold hW;split
 ·rename_i h;have:=Fo s (oH (lQ a));split
  ·exact aI (Ia _ _ ad)
  split
  ·exact aI (Ia _ _ ad)
  omega
 exact aE _
def QG{e}(c:e.ok){a b}(h:a<=4294967295)(i:b<=4294967295):(rJ e a b).ok:=by
 have g:uE e a b<=4294967295:=by
  unfold uE;split
  ·exact aE _
  exact aI (Rp _ _ _ _ _ (CI c.k) (CI h) (CI i))
 have d:bz e.K<=4294967295:=by unfold bz;omega
 unfold rJ
 repeat' split
 all_goals first|exact c|exact⟨c.K,c.k,c.M,g,d,c.V⟩|exact⟨c.K,c.k,c.M,g,aI (Ed _ _ _ _ _),c.V⟩|exact⟨c.K,c.k,c.M,aE _,d,c.V⟩
def QH{e}(a:e.ok):(a0 e).ok:=by
 unfold a0;repeat' split
 all_goals first|exact a|exact⟨a.K,a.k,a.M,a.value,a.next,a.V⟩
def Ik{e}(b:e.ok)(size)(a):(yC e size a).ok:=by
 have c:(a+e.i.k)%4294967296<=4294967295:=oT;unfold yC;repeat' split
 all_goals first|exact b|exact⟨b.K,b.k,b.M,b.value,b.next,c⟩
def Il{e}(a:e.ok)(s):(uM e s).ok:=by
 have b:hW e.i.op s<=4294967295:=MT e.i.op s;unfold uM;split
 ·exact a
 refine⟨a.K,a.k,a.M,?_,a.next,a.V⟩;show(if wr e.i=0 then 0 else hW e.i.op s)<=_;split<;>omega
def Kj(agI)(agF)(i):(lL agI agF i).2.size<=100:=by
 have b:∀(l:List Std) (a n:Nat),n<=4->(xK a n l).2.size<=100:=by
  intro l a n c
  induction l with
  |nil=>exact aE _
  | cons s l ih=>
   unfold xK;split
   ·exact ih
   ·split
    ·exact aE _
    ·show(s.data.extract _ _).size<=100;rw[dA];omega
 unfold lL;split
 ·exact aE _
 ·split
  ·exact aE _
  ·split
   ·exact aE _
   ·exact b _ _ _ (lQ _)
def GN{c}(h:c.mem.size<=256)(e):(oL c e).size<=1000:=by
 unfold oL Cv;split
 ·rw[dA];have:=MU c.W c.data c.Y c.mem;unfold Xr;omega
 exact aE _
def Kk(q)(agY)(k):Mi q agY [k]=bf q agY k:=by unfold Mi bf;congr 1;funext x;simp
def Ix(c)(y)(b:c.E y)(i)(G:i<c.Z.length)(A B)(lo n)(m s o t)(u v)(a:A.length=lo)(j:c.Z.length=n)(hA:A.length+n+B.length<=1000):pM C0.P C0.G 112 [.ptr 0 0,vN i] (ao [(0,.box (aw c (.S 1 lo n m) (.X 2 u s) (.X 2 (c.W.map av) o) (.X 9 v t))),(1,.arr ((A++(c).Z++B).map ak) 17)]) 2 (λx h'=>x=.A []∧h'=ao [(0,.box (aw (oE c i) (.S 1 lo n m) (.X 2 u s) (.X 2 (c.W.map av) o) (.X 9 v t))),(1,.arr ((A++((oE c i)).Z++B).map ak) 17)]):=by
 refine hZ 2 func112 rfl<|nW (.x 1 (lo+i) 0) rfl rfl en ?_;let⟨x,d⟩:=d7 c.Z i;have g:=b.ok.Z7 x (aB d);refine zX (ak x) (.agg (ak x)) rfl (iH (jK a d))<|zB rfl (λr=>?_) (λr=>?_)
 ·have e:oE c i=c:=by unfold oE;rw[d];dsimp only;rw[aa (FV r)];try rfl
  rw[e];exact cT
 refine zR<|zL (x:=.A [vI ((lL c.Z c.W i).1),.v (.string ((lL c.Z c.W i).2))]) rfl (.inr ⟨rfl,⟨(by show lo+n<=((A++c.Z++B).map ak).length;exact ad),trivial,trivial,trivial⟩⟩) ((show bI C0 143 [.X 17 (List.take n (List.drop lo ((A++c.Z++B).map ak))) m,.X 2 (c.W.map av) o,vN i] _ from by rw[tV (l:=c.Z) a (by first|exact j|(rw[cC];exact j)|(simp[cC];exact j))];exact XX c.Z c.W m o i b.Z b.ok.Z7 b.Z9 b.ok.Z1 b.ZK G))<|zC (tN x.V g.V)<|zV (vB (((lL c.Z c.W i).1)==1))<|aV rfl (λD=>?_) (λD=>?_)
 ·have k:=mT D;refine a6<|oR 8 rfl<|ba rfl (RR x ((lL c.Z c.W i).2) g (bL (Kj c.Z c.W i) dT))<|nW (.x 1 (lo+i) 0) rfl rfl en ?_;refine nM (ak x) (h':=an _ 1 (some (.arr ((A++(c.Z.set i (uM x ((lL c.Z c.W i).2)))++B).map ak) 17))) rfl rfl rfl (⟨aG _,iH ((jK a d))⟩) (uL (f:=ak) (x:=(uM x ((lL c.Z c.W i).2))) (l:=c.Z) (i:=i) a ad)<|rE 50 ?_;have e:oE c i=bt c i (uM x ((lL c.Z c.W i).2)):=by unfold oE;rw[d];dsimp only;rw[dZ (sI r),aa k];try rfl
  rw[e];exact cm 0 rfl<|cT
 have k:=nA D;refine qC 0 rfl<|cq (((lL c.Z c.W i).1) != 2) (λE=>?_) (λE=>?_)
 ·have p:=wM E;have e:oE c i=c:=by unfold oE;rw[d];dsimp only;rw[dZ (sI r),dZ k,aa p];try rfl
  rw[e];exact cT
 have p:=wN E;apply zH (args:=[.ptr 0 0,vU (ab x.V)]) rfl (pM.Zs (C:=C0) (show bI C0 144 [.dp 64 0 (aw c (.X 17 (List.take n (List.drop lo ((A++c.Z++B).map ak))) m) (.X 2 u s) (.X 2 (c.W.map av) o) (.X 9 v t)),vU (ab x.V)] _ from by rw[tV (l:=c.Z) a (by first|exact j|(rw[cC];exact j)|(simp[cC];exact j))];exact Xb c y b (.X 2 u s) (.X 2 (c.W.map av) o) (.X 9 v t) m (ab x.V) (dV g.V)) (by rfl) (by exact⟨⟨rfl,(r4 (r4 (r4 (r4 (r4 (r4 (r4 (r4 (r4 (r4 (r4 (r4 ⟨(by show lo+n<=((A++c.Z++B).map ak).length;simp[aH,aU,cC];omega),f_⟩))))))))))))⟩,trivial,trivial⟩) (by rfl));rintro _ _ ⟨rfl,rfl⟩;refine aV rfl (λw=>?_) (λw=>?_)
 ·refine a6<|oR 9 rfl<|fd rfl (.inr ⟨rfl,⟨trivial,f_,trivial⟩⟩) (MV c y b .any (.X 2 u s) (.X 9 v t) o x g)<|ba rfl (RR x (oL c x) g (by have:=GN (c:=c) (oH b.mem) x;omega))<|nW (.x 1 (lo+i) 0) rfl rfl en ?_;refine nM (ak x) (h':=an _ 1 (some (.arr ((A++(c.Z.set i (uM x (oL c x)))++B).map ak) 17))) rfl rfl rfl (⟨aG _,iH ((jK a d))⟩) (uL (f:=ak) (x:=(uM x (oL c x))) (l:=c.Z) (i:=i) a ad)<|rE 59 ?_;have e:oE c i=bt c i (uM x (oL c x)):=by unfold oE;rw[d];dsimp only;rw[dZ (sI r),dZ k,dZ (λq=>q p),aa w];try rfl
  rw[e];exact cm 0 rfl<|cT
 refine qC 0 rfl<|rV (.X 1 ([[vI 1]]) true) rfl<|zC (x:=vB (bf c.Y (ab x.V) 1)) ((show bI C0 _ [_,_,.X 1 ([(1:Int)].map a_) true] _ from by rw[<-Kk];exact RQ c.Y (ab x.V) [1] false true (oH b.Y) (λx d=>(b.ok.Z_ x d).R) (dV g.V) dT))<|zB rfl (λC=>?_) (λC=>?_)
 ·apply zM (.x 1 (lo+i) 0) rfl en;apply nM (ak x) (h':=an _ 1 (some (.arr ((A++(c.Z.set i (⟨x.no,x.K,⟨x.i.op,x.i.rd,x.i.j,x.i.o,x.i.k⟩,x.M,2,x.left,x.value,x.next,x.V,x.halt,x.ZX,x.known,x.Z3⟩:ai))++B).map ak) 17))) rfl rfl rfl (⟨aG _,iH ((jK a d))⟩) (uL (f:=ak) (x:=(⟨x.no,x.K,⟨x.i.op,x.i.rd,x.i.j,x.i.o,x.i.k⟩,x.M,2,x.left,x.value,x.next,x.V,x.halt,x.ZX,x.known,x.Z3⟩:ai)) (l:=c.Z) (i:=i) a ad);have e:oE c i=bt c i (⟨x.no,x.K,⟨x.i.op,x.i.rd,x.i.j,x.i.o,x.i.k⟩,x.M,2,x.left,x.value,x.next,x.V,x.halt,x.ZX,x.known,x.Z3⟩:ai):=by unfold oE;rw[d];dsimp only;rw[dZ (sI r),dZ k,dZ (λq=>q p),dZ (by rw[w];decide),aa C];try rfl
  rw[e];exact cd 0 rfl<|cT
 refine fd (x:=vB (vC c.Z i)) rfl (.inr ⟨rfl,⟨(by show lo+n<=((A++c.Z++B).map ak).length;exact ad),trivial,trivial⟩⟩) ((show bI C0 142 [.X 17 (List.take n (List.drop lo ((A++c.Z++B).map ak))) m,vN i] _ from by rw[tV (l:=c.Z) a (by first|exact j|(rw[cC];exact j)|(simp[cC];exact j))];exact MX c.Z m i b.Z b.ok.Z7 (oH b.Z)))<|zH (args:=[.ptr 0 0,vB (vC c.Z i)]) rfl (pM.Zs (C:=C0) (show bI C0 75 [.dp 64 0 (aw c (.X 17 (List.take n (List.drop lo ((A++c.Z++B).map ak))) m) (.X 2 u s) (.X 2 (c.W.map av) o) (.X 9 v t)),vB (vC c.Z i)] _ from by rw[tV (l:=c.Z) a (by first|exact j|(rw[cC];exact j)|(simp[cC];exact j))];exact Ua c y b (.X 17 (c.Z.map ak) m) (.X 2 u s) (.X 2 (c.W.map av) o) (.X 9 v t) (vC c.Z i)) (by rfl) (by exact⟨⟨rfl,(r4 (r4 (r4 (r4 (r4 (r4 (r4 (r4 (r4 (r4 (r4 (r4 ⟨(by show lo+n<=((A++c.Z++B).map ak).length;simp[aH,aU,cC];omega),f_⟩))))))))))))⟩,trivial,trivial⟩) (by rfl)) ?_;rintro _ _ ⟨rfl,rfl⟩;refine gS rfl id<|gS rfl id<|gS rfl id<|zG rfl id<|gB rfl rfl<|jQ (args:=[.X 4 (c.Y.map b3) false,vU (ab x.V),.X 1 ([[vI 3]]) true]) (x:=vB (bf c.Y (ab x.V) 3)) (g:=tA c (vC c.Z i)) rfl rfl rfl rfl cj rfl rfl rfl (.inl rfl) rfl (λH=>(show bI C0 _ [_,_,.X 1 ([(3:Int)].map a_) true] _ from by rw[<-Kk];exact RQ c.Y (ab x.V) [3] false true (oH b.Y) (λx d=>(b.ok.Z_ x d).R) (dV g.V) dT))<|gS rfl id<|zN rfl (λh=>h)<|aV rfl (λF=>?_) (λF=>?_)
 ·refine qC 0 rfl<|zH (args:=[.ptr 0 0,vI 1,vU (ab x.V),.v (.string (⟨#[]⟩:ByteArray))]) rfl ((C4 c y b 1 (ab x.V) (⟨#[]⟩:ByteArray) (dV g.V) lo n m ((A++c.Z++B).map ak) s u o (c.W.map av) t v).fB (λz=>z)) ?_;rintro _ _ ⟨rfl,rfl⟩;apply zM (.x 1 (lo+i) 0) rfl en;apply nM (ak x) (h':=an _ 1 (some (.arr ((A++(c.Z.set i (⟨x.no,x.K,⟨x.i.op,x.i.rd,x.i.j,x.i.o,x.i.k⟩,x.M,2,x.left,x.value,x.next,x.V,x.halt,x.ZX,x.known,x.Z3⟩:ai))++B).map ak) 17))) rfl rfl rfl (⟨aG _,iH ((jK a d))⟩) (uL (f:=ak) (x:=(⟨x.no,x.K,⟨x.i.op,x.i.rd,x.i.j,x.i.o,x.i.k⟩,x.M,2,x.left,x.value,x.next,x.V,x.halt,x.ZX,x.known,x.Z3⟩:ai)) (l:=c.Z) (i:=i) a ad);have e:oE c i=bt (jE c 1 (ab x.V) (⟨#[]⟩:ByteArray)) i (⟨x.no,x.K,⟨x.i.op,x.i.rd,x.i.j,x.i.o,x.i.k⟩,x.M,2,x.left,x.value,x.next,x.V,x.halt,x.ZX,x.known,x.Z3⟩:ai):=by unfold oE;rw[d];dsimp only;rw[dZ (sI r),dZ k,dZ (λq=>q p),dZ (by rw[w];decide),dZ (by rw[C];decide),aa (by have z:=F;simp[qA]at z;simpa using z)];try rfl
  rw[e];exact cd 0 rfl<|cT
 skip
 have e:oE c i=c:=by unfold oE;rw[d];dsimp only;rw[dZ (sI r),dZ k,dZ (λq=>q p),dZ (by rw[w];decide),dZ (by rw[C];decide),dZ (by have z:=F;simp[qA]at z;simpa using z)];try rfl
 rw[e];exact hM 0 rfl<|cT
theorem pM.Y1{P}{G}{f}{args}{k m g h}{L}{s}{r}(H:pM P G f args (ao ((0,k)::(1,m)::L)) s (λx h'=>x=r∧h'=ao ((0,g)::(1,h)::L)))(a)(K)(ap)(d:gn (ao ((0,k)::(1,m)::L)) s=true)(n:ib a K s ap ((0,k)::(1,m)::L))(D:UQ a s=true)(C:mS s args=true)(E:eP r=true)(q:qM s g=true)(t:qM s h=true):
  pM P G f (Bg a args) K ap (λx h'=>x=r∧h'=an (an K (a 0) (some (DI a g))) (a 1) (some (DI a h))):=by
 have J:1<s:=aJ n.2.1.2.1;refine H.ZC a K ap d n D C _ λM h' z=>?_;obtain⟨rfl,rfl⟩:=z;refine⟨_,⟨nf _ _ E,rfl⟩,λy blk b=>?_⟩;by_cases i:y=a 1
 ·subst i;rw[dB]at b;injection b with b;exact .inl ⟨1,h,rfl,(rL a ad).symm,by rw[<-b,yL a s ap h t]⟩
 rw[cI _ _ i]at b;by_cases p:y=a 0
 ·subst p;rw[dB]at b;injection b with b;exact .inl ⟨0,g,rfl,(rL a ad).symm,by rw[<-b,yL a s ap g q]⟩
 rw[cI _ _ p]at b;by_cases v:∃x,x<s∧a x=y
 ·obtain⟨x,j,rfl⟩:=v;have w:x≠1:=λe=>i (by rw[e]);let⟨c,o⟩:=DQ.1 (uH d x j);have u:=n.get x c o;rw[u.2.2.2]at b;injection b with b;refine .inl ⟨x,c,?_,(rL a ad).symm,?_⟩
  ·have F:Nat.beq 0 x=false:=by rw[<-eJ];exact λe=>(λe=>p (by rw[e])) (aO e).symm
   have I:Nat.beq 1 x=false:=by rw[<-eJ];exact λe=>w (aO e).symm
   simp[ao,F,I]at o⊢;exact o
  rw[<-b];exact(yL a s ap c u.2.2.1).symm
 exact .inr ⟨b,λx j e=>v ⟨x,j,e⟩⟩
theorem pM.Y3{P}{G}{f}{args}{c d e g}{L}{s}{r}(H:pM P G f args (ao ((0,c)::(1,d)::L)) s (λx h'=>x=r∧h'=ao ((0,e)::(1,g)::L)))(a){K}{ap}(b:gn (ao ((0,c)::(1,d)::L)) s=true:=by rfl)(j:ib a K s ap ((0,c)::(1,d)::L):=by repeat (first|exact trivial|refine⟨d8,?_⟩))(m:UQ a s=true:=by rfl)(k:mS s args=true:=by rfl)(n:eP r=true:=by rfl)(h:qM s e=true:=by rfl)(i:qM s g=true:=by rfl):
  pM P G f (Bg a args) K ap (λx h'=>x=r∧h'=an (an K (a 0) (some (DI a e))) (a 1) (some (DI a g))):=H.Y1 a K ap b j m k n h i
def xA{c}{n}(h:c.E n)(i){e}(b:e.ok):(bt c i e).E n:=by
 have a:(c.Z.set i e).length=c.Z.length:=cC ..;exact⟨⟨h.ok.U,h.ok.prog,h.ok.Z4,h.ok.r,h.ok.Yr,h.ok.Z5,h.ok.ZS,by show(c.Z.set i e).length<=_;rw[a];exact h.ok.Z,jy h.ok.Z7 b,h.ok.Z9,h.ok.Z1,h.ok.data,h.ok.y,h.ok.Y,h.ok.Z_,h.ok.asked,h.ok.ZY,h.ok.mem,h.ok.M,h.ok.ret,h.ok.ZT⟩,h.nb,h.cf,h.data,h.y,h.M,by show(c.Z.set i e).length<=_;rw[a];exact h.Z,h.Z5,h.Z9,h.prog,h.mem,h.ZK⟩
def Cj{agI}{r}(a:∀x∈agI,x.ok)(b:∀k,r k<=4294967295)(i):(mI agI r i).1<=4294967295∧(mI agI r i).2.1<=4294967295:=by
 unfold mI;split
 ·exact⟨Ck a b _ _,Ck a b _ _⟩
 exact⟨aE _,aE _⟩
def VJ(c)(v)(a:c.E v)(i)(w:i<c.Z.length)(A B)(lo n)(j p q r)(s t)(b:A.length=lo)(k:c.Z.length=n)(hA:A.length+n+B.length<=1000):pM C0.P C0.G 71 [.ptr 0 0,vN i] (ao [(0,.box (aw c (.S 1 lo n j) (.X 2 s p) (.X 2 (c.W.map av) q) (.X 9 t r))),(1,.arr ((A++(c).Z++B).map ak) 17)]) 2 (λx h'=>x=.A []∧h'=ao [(0,.box (aw (iS c i) (.S 1 lo n j) (.X 2 s p) (.X 2 (c.W.map av) q) (.X 9 t r))),(1,.arr ((A++((iS c i)).Z++B).map ak) 17)]):=by
 refine hZ 2 func71 rfl<|nW (.x 1 (lo+i) 0) rfl rfl en ?_;let⟨x,d⟩:=d7 c.Z i;have h:=a.ok.Z7 x (aB d);refine zX (ak x) (.agg (ak x)) rfl (iH (jK b d))<|zR<|zL (x:=.A [vU ((mI c.Z c.r i).1),vU ((mI c.Z c.r i).2.1),vB ((mI c.Z c.r i).2.2)]) rfl (.inr ⟨rfl,⟨(by show lo+n<=((A++c.Z++B).map ak).length;exact ad),f_,trivial,trivial⟩⟩) ((show bI C0 109 [.X 17 (List.take n (List.drop lo ((A++c.Z++B).map ak))) j,.agg (Ks c.r),vN i] _ from by rw[tV (l:=c.Z) b (by first|exact k|(rw[cC];exact k)|(simp[cC];exact k))];exact VK c.Z c.r j i a.Z a.ok.Z7 a.ok.r (oH a.Z)))<|zC (pS x.i)<|zW _ (ar (b8 _ _))<|aV rfl (λm=>?_) (λm=>?_)
 ·have g:=mT m;refine a6<|oR 12 rfl<|rV (vN c.mem.size) rfl<|oR 1 rfl<|ba rfl (VV x ((c.mem.size:Nat):Int) ((mI c.Z c.r i).1) h (oH a.mem) (Cj a.ok.Z7 a.ok.r i).1)<|nW (.x 1 (lo+i) 0) rfl rfl en ?_;refine nM (ak x) rfl rfl rfl (⟨aG _,iH ((jK b d))⟩) (uL b ad)<|rE 53 ?_;have e:iS c i=bt c i (yC x ((c.mem.size:Nat):Int) ((mI c.Z c.r i).1)):=by unfold iS;rw[d];dsimp only;rw[aa g]
  rw[e];exact cm 0 rfl<|cT
 have g:=nA m;refine qC 0 rfl<|zW _ (ar (b8 _ _))<|aV rfl (λo=>?_) (λo=>?_)
 ·have u:=mT o;refine j2 0 rfl<|a6<|oR 12 rfl<|rV (vN c.mem.size) rfl<|oR 1 rfl<|ba rfl (VV x ((c.mem.size:Nat):Int) ((mI c.Z c.r i).1) h (oH a.mem) (Cj a.ok.Z7 a.ok.r i).1)<|nW (.x 1 (lo+i) 0) rfl rfl en ?_;refine nM (ak x) rfl rfl rfl (⟨aG _,iH ((jK b d))⟩) (uL b ad)<|rE 55<|qX 0 rfl<|fU _ rfl rfl rfl ((Ix (bt c i (yC x ((c.mem.size:Nat):Int) ((mI c.Z c.r i).1))) v (xA a i (Ik h _ _)) i (by show i<(c.Z.set i _).length;rw[cC];exact w) A B lo n j p q r s t b (by show(c.Z.set i _).length=n;rw[cC];exact k) hA).Y3 (λz=>z)) ?_;rintro _ _ ⟨rfl,rfl⟩;have e:iS c i=oE (bt c i (yC x (c.mem.size:Int) (mI c.Z c.r i).1)) i:=by unfold iS;rw[d];dsimp only;rw[dZ g,aa u]
  rw[e];exact cd 0 rfl<|cT
 refine a6<|oR 9 rfl<|ba rfl (XS x ((mI c.Z c.r i).1) ((mI c.Z c.r i).2.1) h (Cj a.ok.Z7 a.ok.r i).1 (Cj a.ok.Z7 a.ok.r i).2)<|nW (.x 1 (lo+i) 0) rfl rfl en ?_;refine nM (ak x) rfl rfl rfl (⟨aG _,iH ((jK b d))⟩) (uL b ad)<|rE 50 ?_;have e:iS c i=bt c i (rJ x ((mI c.Z c.r i).1) ((mI c.Z c.r i).2.1)):=by unfold iS;rw[d];dsimp only;rw[dZ g,dZ (nA o)]
 rw[e];exact cm 0 rfl<|cT
structure se(n k:Nat)(w:Wy):Prop where
 R:ab w.R=w.R
 set:w.R/16%n=k
 data:w.data.size=0∨w.data.size=16
 le:w.R<=4294967295
structure jf(n:Nat)(ways:Int)(k:Nat)(s:List Wy):Prop where
 len:(s.length:Int)<=ways
 ZJ:∀w∈s,se n k w
 one:(s.map (·.R)).Nodup
structure bT(c:Ca):Prop where
 Q:c.Q.length=1∨c.Q.length=2∨c.Q.length=4
 ways:c.ways=1∨c.ways=2
 set:∀k s,c.Q[k]?=some s->jf c.Q.length c.ways k s
theorem QC:∀{s:List Wy} {agY:Nat},jY s agY=none↔∀w∈s,w.R≠agY
 |[],_=>by simp[jY]
 |w::l,agY=>by
  unfold jY;by_cases h:w.R=agY
  ·rw[aa h];simp[h]
  ·rw[dZ h,Option.map_eq_none_iff,QC];simp[h]
def WZ:∀{s:List Wy},(∀i x,s[i]?=some x->jY (s.take i) x.R=none)↔(s.map (·.R)).Nodup:=by
 intro s;rw[List.nodup_iff_pairwise_ne,List.pairwise_map,List.pairwise_iff_getElem];constructor
 ·intro h i j a b c e;exact QC.1 (h j s[j] (aA b)) s[i] (aB (by rw[cU,aa c,aA a])) e
 intro h j x g;obtain⟨b,rfl⟩:=Em.1 g;refine QC.2 λw d=>?_;obtain⟨i,a,rfl⟩:=fY d;rw[aM]at a;rw[List.getElem_take];exact h i j ad b ad
def gl{c}:bT c↔gG c=true∧c.ok:=by
 constructor
 ·intro h;refine⟨(jL c).2 ⟨⟨h.Q,h.ways⟩,λk s a=>(jX c k s).2 ?_⟩,⟨oH h.Q,λs a=>?_⟩⟩
  ·have g:=h.set k s a;refine⟨g.len,λi x b=>?_⟩;have d:=g.ZJ x (aB b);exact⟨d.R,d.set,d.data,WZ.2 g.one i x b⟩
  obtain⟨k,r,rfl⟩:=fY a;have g:=h.set k _ (aA r);refine⟨by have:=g.len;have:=h.ways;omega,λx b=>⟨(g.ZJ x b).le⟩⟩
 rintro⟨h,ok⟩;let⟨⟨n,o⟩,p⟩:=(jL c).1 h;refine⟨n,o,λk s a=>?_⟩;let⟨m,e⟩:=(jX c k s).1 (p k s a);refine⟨m,λw j=>?_,WZ.1 λi x b=>(e i x b).2.2.2⟩;obtain⟨i,q,rfl⟩:=fY j;have g:=e i _ (aA q);exact⟨g.1,g.2.1,g.2.2.1,((ok.set s (aB a)).2 _ j).R⟩
theorem bT.Zd{c}(h:bT c){k}{s}(d:jf c.Q.length c.ways k s):bT (rK c k s):=by
 have b:(c.Q.set k s).length=c.Q.length:=cC ..;refine⟨by show(c.Q.set k s).length=1∨(c.Q.set k s).length=2∨(c.Q.set k s).length=4;rw[b];exact h.Q,h.ways,λj t a=>?_⟩;show jf (c.Q.set k s).length c.ways j t;rw[b];rw[show(rK c k s).Q=c.Q.set k s from rfl,mV]at a;split at a
 ·rename_i e;subst e;split at a
  ·injection a with a;subst a;exact d
  cases a
 exact h.set j t a
def EV{α}{l:List α}{k}(h:k<l.length):(eY l k).Perm l:=by
 unfold eY;rw[aA h,List.singleton_append,nV];apply(List.perm_middle.symm).trans;rw[<-bF h,js]
theorem jf.perm{n}{ways}{k}{s t}(h:jf n ways k s)(p:t.Perm s):jf n ways k t:=
 ⟨by rw[p.length_eq];exact h.len,λw a=>h.ZJ w (p.mem_iff.1 a),(p.map _).nodup_iff.2 h.one⟩
theorem jf.modHd{n:Nat}{ways:Int}{k:Nat}{s:List Wy}(h:jf n ways k s){f:Wy->Wy}(b:∀w∈s,(f w).R=w.R∧((f w).data.size=0∨(f w).data.size=16)):jf n ways k (jp f s):=by
 cases s with
 |nil=>exact h
 | cons x l=>
  have a:=b x (b1 ..);have g:=h.ZJ x (b1 ..);refine⟨h.len,λw hw=>?_,?_⟩
  ·rcases dh.1 hw with rfl|hw
   ·exact⟨by rw[a.1];exact g.R,by rw[a.1];exact g.set,a.2,by rw[a.1];exact g.le⟩
   ·exact h.ZJ w (bY _ hw)
  ·show((f x).R::l.map (·.R)).Nodup;rw[a.1];exact h.one
theorem bT.at{c}(h:bT c){k}(a:k<c.Q.length):jf c.Q.length c.ways k (pF c k):=by
 rw[vA (aA a)];exact h.set k _ (aA a)
theorem bT.Zh{c}(h:bT c)(agY):bT (tO c agY):=by
 by_cases a:(bK c agY).2.isSome=true
 ·rw[Dw a];have ff:=pR a;exact h.Zd ((h.at ff.2.2.1).perm (EV ff.2.2.2))
 rw[Dx (sU a)];exact h
def QD(d):(dC d).size=0∨(dC d).size=16:=by
 unfold dC;split
 ·right;assumption
 left;rfl
theorem bT.put{c}(h:bT c){agY}(o:agY<=4294967295)(d)(b):bT (qZ c agY d b).1:=by
 have j:=(gl.1 h).1;by_cases i:(bK c agY).2.isSome=true
 ·rw[Cn i];have ff:=pR i;have g:=(h.at ff.2.2.1).perm (EV ff.2.2.2);refine h.Zd (g.modHd λw hw=>⟨rfl,?_⟩);split
  ·exact(g.ZJ w hw).data
  exact QD d
 have a:(bK c agY).2.isSome=false:=sU i;rw[AR j a];have e:=rI (agY:=agY) j;have n:(bK c agY).1<c.Q.length:=by rw[e];exact AP (kJ j).1 _
 have m:jY (pF c (bK c agY).1) (ab agY)=none:=by rw[e]at a ⊢;simpa using a
 have g:=h.at n;split
 all_goals
  rename_i hw;refine h.Zd ⟨?_,λw hw=>?_,?_⟩
  ·first|(have:=h.ways;rw[bN,oA])|(have:=g.len;rw[bN];push_cast)
   omega
  ·rcases dh.1 hw with rfl|hw
   ·exact (⟨by show ab (ab agY)=ab agY;unfold ab;omega,by rw[e];rfl,QD d,dV o⟩)
   first|exact g.ZJ w (oC _ hw)|exact g.ZJ w hw
  rw[jC,List.nodup_cons]
  first|refine⟨λk=>?_,g.one.sublist ((List.dropLast_sublist _).map _)⟩|refine⟨λk=>?_,g.one⟩
  let⟨w,hw,e⟩:=pG.1 k
  first|exact QC.1 m w (oC _ hw) e|exact QC.1 m w hw e
def OK{d b}{a}(h:b.size+a<=d.size):(Fk d a b).size=d.size:=by
 unfold Fk;simp[kH,dA];omega
theorem bT.write{c}(h:bT c)(a)(b):bT (xL c a b).1:=by
 by_cases i:(bK c a).2.isSome=true
 ·have ff:=pR i;rw[At b i rfl (aA ff.2.2.2)];split
  ·exact h
  rename_i k;have g:=(h.at ff.2.2.1).perm (EV ff.2.2.2);have j:=((h.at ff.2.2.1).ZJ _ (jO ff.2.2.2)).data;have e:eY (pF c (bK c a).1) ((bK c a).2.getD 0)=(pF c (bK c a).1)[(bK c a).2.getD 0]::((pF c (bK c a).1).take ((bK c a).2.getD 0)++(pF c (bK c a).1).drop ((bK c a).2.getD 0+1)):=by
   unfold eY;rw[aA ff.2.2.2];rfl
  apply h.Zd;rw[e]at g⊢;have d:=g.ZJ _ (b1 ..);refine⟨g.len,λw hw=>?_,g.one⟩;rcases dh.1 hw with rfl|hw
  ·refine⟨d.R,d.set,.inr ?_,d.le⟩;rw[OK ad];omega
  exact g.ZJ w (bY _ hw)
 rw[GV b (sU i)];exact h
theorem bT.Y4{c}(h:bT c)(agY):bT (wB c agY):=by
 by_cases b:(bK c agY).2.isSome=true
 ·rw[Dy b rfl];have g:=h.at (pR b).2.2.1;have e:(((pF c (bK c agY).1).modify ((bK c agY).2.getD 0) λw=>{w with Z':=false}).map (·.R))=(pF c (bK c agY).1).map (·.R):=by
   apply dD;intro i;simp[aX,oD];split<;>simp[Option.map_map,Function.comp_def]
  refine h.Zd ⟨by rw[List.length_modify];exact g.len,λw k=>?_,by rw[e];exact g.one⟩;let⟨i,d⟩:=List.getElem?_of_mem k;rw[oD]at d;obtain⟨v,j,rfl⟩:=Gi.1 d;have a:=g.ZJ v (aB j);split
  ·exact⟨a.R,a.set,a.data,a.le⟩
  exact a
 rw[Dz (sU b)];exact h
theorem bT.Z'{c}(h:bT c){w}(a:cR c=some w):w.R<=4294967295:=by
 unfold cR at a;split at a
 ·have:=List.mem_of_find?_eq_some a;let⟨s,d,a⟩:=List.mem_flatten.1 this;obtain⟨k,b,rfl⟩:=fY d;exact((h.set k _ (aA b)).ZJ w a).le
 cases a
def MS{q}(h:∀x∈q,x.ok){a}{agY}{left}{d}(b:agY<=4294967295):∀x∈Bi q a agY left d,x.ok:=by
 intro x hx;unfold Bi at hx;rcases cp.1 hx with hx|hx
 ·exact h x hx
 rw[uJ.1 hx];exact⟨b⟩
def Ki(q)(a)(agY)(left)(d):(Bi q a agY left d).length=q.length+1:=by unfold Bi;simp
theorem Co.E.gd{c:Co}{n}(h:c.E n):bT c.data:=gl.2 ⟨h.data,h.ok.data⟩
theorem Co.E.gw{c:Co}{n}(h:c.E n):bT c.y:=gl.2 ⟨h.y,h.ok.y⟩
theorem Co.E.mono{c:Co}{n m}(h:c.E n)(a:n<=m)(b:m<=890000):c.E m:=
 ⟨⟨h.ok.U,h.ok.prog,h.ok.Z4,h.ok.r,h.ok.Yr,h.ok.Z5,h.ok.ZS,h.ok.Z,h.ok.Z7,h.ok.Z9,h.ok.Z1,h.ok.data,h.ok.y,aL h.ok.Y a,h.ok.Z_,h.ok.asked,h.ok.ZY,h.ok.mem,h.ok.M,aL h.ok.ret a,h.ok.ZT⟩,b,h.cf,h.data,h.y,h.M,h.Z,h.Z5,h.Z9,h.prog,h.mem,h.ZK⟩
def EW(z):wrap64 z<=9223372036854775807:=by unfold wrap64;omega
theorem Co.E.Zg{c:Co}{n}(h:c.E n){q}{d}{a}(j:q.length<=n+1)(e:∀x∈q,x.ok)(b:bT d)(g:a<=9223372036854775807)(i:n+1<=890000):Co.E {c with Y:=q,data:=d,asked:=a} (n+1):=
 ⟨⟨h.ok.U,h.ok.prog,h.ok.Z4,h.ok.r,h.ok.Yr,h.ok.Z5,h.ok.ZS,h.ok.Z,h.ok.Z7,h.ok.Z9,h.ok.Z1,(gl.1 b).2,h.ok.y,j,e,g,h.ok.ZY,h.ok.mem,h.ok.M,qJ h.ok.ret,h.ok.ZT⟩,i,h.cf,(gl.1 b).1,h.y,h.M,h.Z,h.Z5,h.Z9,h.prog,h.mem,h.ZK⟩
def sH{c:Co}{n:Nat}(h:c.E n)(b:n+1<=890000)(a:Int){agY:Nat}(e:agY<=4294967295)(d:ByteArray):(jE c a agY d).E (n+1):=
 h.Zg (by rw[Ki];have:=h.ok.Y;omega) (MS h.ok.Z_ e) h.gd (EW _) b
def QE{d}{q}{m}{agY}{left}(a:bT d)(b:∀x∈q,x.ok)(h:agY<=4294967295):bT (iQ d q m agY left).1∧(iQ d q m agY left).2.1.length<=q.length+1∧∀x∈(iQ d q m agY left).2.1,x.ok:=by
 unfold iQ;split
 ·exact⟨a,fF _,b⟩
 split
 ·exact⟨a.Zh _,fF _,b⟩
 have hp:=a.put (dV h) (Ga (jZ q m) (ab agY)) false;have c:=GR (gl.1 a).2 (ab agY) (Ga (jZ q m) (ab agY)) false;generalize qZ d (ab agY) (Ga (jZ q m) (ab agY)) false=t at hp c;let⟨e,g,i⟩:=t;dsimp only at hp c⊢;split
 ·exact⟨hp,by rw[Ki];exact aC _,MS b c⟩
 exact⟨hp,fF _,b⟩
def EX{c}{n}(h:c.E n)(e:n+1<=890000){agY}(g:agY<=4294967295):(oK c agY).E (n+1):=by
 have b:=QE (m:=c.mem) (left:=lX c.U c.asked) h.gd h.ok.Z_ g;unfold oK;generalize iQ c.data c.Y c.mem agY _=t at b;let⟨d,q,a⟩:=t;dsimp only at b⊢;refine h.Zg (oH h.ok.Y) b.2.2 b.1 ?_ e;split
 ·exact EW _
 exact h.ok.asked
def QF{l}{c}(a:bT c):bT (sL l c).2.1∧(sL l c).1.length<=l.length∧∀x∈(sL l c).1,x∈l:=by
 unfold sL
 cases l with
 |nil=>exact⟨a,aC _,λx h=>h⟩
 |cons p l=>
  dsimp only;split
  ·exact⟨a.write _ _,fF _,λx h=>bY _ h⟩
  ·exact⟨a,aC _,λx h=>h⟩
def eR{c}{n}(h:c.E n):(aW c).E n:=by
 have a:=QF (l:=c.W) h.gd;exact⟨⟨h.ok.U,h.ok.prog,h.ok.Z4,h.ok.r,h.ok.Yr,h.ok.Z5,h.ok.ZS,h.ok.Z,h.ok.Z7,aL a.2.1 h.ok.Z9,λx b=>h.ok.Z1 x (a.2.2 x b),(gl.1 a.1).2,h.ok.y,h.ok.Y,h.ok.Z_,h.ok.asked,h.ok.ZY,h.ok.mem,h.ok.M,h.ok.ret,h.ok.ZT⟩,h.nb,h.cf,(gl.1 a.1).1,h.y,h.M,h.Z,h.Z5,aL a.2.1 h.Z9,h.prog,h.mem,λx b=>h.ZK x (a.2.2 x b)⟩
def mO(c):tY c=nP (if(sL c.W c.data).2.2=false∧(aW c).W≠[]then tW (aW c)else aW c):=by
 unfold tY aW
 cases d:c.W with
 |nil=>simp[sL]
 | cons p l=>
  dsimp only
  cases a:(sL _ c.data).2.2 with
  |true=>simp
  | false=>
   have:(sL (p::l) c.data).1=p::l:=by
    unfold sL at a⊢;dsimp only at a⊢;by_cases b:(xL c.data p.V p.data).2=true
    ·rw[aa b]at a;cases a
    ·rw[dZ b]
   simp[this]
def gy{a b}:cE a b false=(a&&b):=by cases a<;>rfl
def ep{a b}:cE a true b=(a||b):=by cases a<;>rfl
def tK{d}{p}(hp:d.W[0]?=some p):tW d=if bf d.Y (ab p.V) 3=false∧tA d true=true then jE d 3 (ab p.V) oZ else d:=by
 unfold tW
 cases a:d.W with
 |nil=>rw[a]at hp;simp at hp
 |cons y l=>rw[a]at hp;simp at hp;subst hp;rfl
def uZ{d}(h:(cR d.data).isSome=true∧((cR d.data).getD qE).data.size≠0):pE d={jE d 4 ((cR d.data).getD qE).R ((cR d.data).getD qE).data with data:=wB d.data ((cR d.data).getD qE).R}:=by
 unfold pE
 cases a:cR d.data with
 |none=>rw[a]at h;simp at h
 |some w=>rw[a]at h;exact aa h.2
def wZ{d}(h: ¬((cR d.data).isSome=true∧((cR d.data).getD qE).data.size≠0)):pE d=d:=by
 unfold pE
 cases a:cR d.data with
 |none=>rfl
 |some w=>rw[a]at h;exact dZ λe=>h ⟨rfl,e⟩
theorem bT.ZL{c}(h:bT c):((cR c).getD qE).R<=4294967295:=by
 cases a:cR c with
 |none=>exact aE _
 |some w=>exact h.Z' a
def WY(c)(n)(a:c.E n)(H:n+2<=890000)(k)(q)(j)(o)(m)(r):pM C0.P C0.G 34 [.ptr 0 0] (ao [(0,.box (aw c (.X 17 q k) (.X 2 o j) (.X 2 (c.W.map av) false) (.X 9 r m)))]) 1 (λx h'=>x=.A []∧h'=ao [(0,.box (aw (tY c) (.X 17 q k) (.X 2 o j) (.X 2 ((tY c).W.map av) false) (.X 9 r m)))]):=by
 refine hZ 1 func34 rfl<|zR<|zC (D8 c.W c.data a.ok.data (oH a.Z9) a.ok.Z1)<|pO rfl rfl<|oR 7 rfl<|a4 rfl<|oR 3 rfl<|a4 rfl<|rE 32<|And.intro (by kernel_rfl)<|qX 0 rfl<|gS rfl id<|gS rfl id<|gS rfl id<|gS rfl id<|a' rfl id (cD av ((aW c).W))<|a' rfl id (ar (gQ _ _))<|zN rfl (λh=>h)<|zB rfl (λt=>?_) (λt=>?_)
 ·have d:((sL c.W c.data).2.2=false∧(aW c).W≠[]):=by have z:=t;simpa [gy,fC]using z
  have F:0<(aW c).W.length:=fC.2 d.2;let⟨p,hp⟩:=d7 ((aW c).W) 0;have g:=(eR a).ok.Z1 p (aB hp);refine FO (av p) (x:=.dp 2 0 (av p)) rfl rfl rfl (⟨dT,iH hp⟩) rfl<|qR 0 rfl<|zC (tN p.V g.V)<|rV (.X 1 ([[vI 3]]) true) rfl<|zC (x:=vB (bf c.Y (ab p.V) 3)) ((show bI C0 _ [_,_,.X 1 ([(3:Int)].map a_) true] _ from by rw[<-Kk];exact RQ c.Y (ab p.V) [3] false true (oH a.Y) (λx G=>(a.ok.Z_ x G).R) (dV g.V) dT))<|jQ (x:=vB (tA (aW c) true)) (g:= !(bf c.Y (ab p.V) 3)) rfl rfl rfl rfl (λh=>h) rfl rfl rfl (.inr ⟨rfl,⟨trivial,trivial,trivial⟩⟩) rfl (λI=>Ua (aW c) n (eR a) (.X 17 q k) (.X 2 o j) (.X 2 (((aW c).W).map av) false) (.X 9 r m) true)<|zN rfl (λh=>h)<|zB rfl (λu=>?_) (λu=>?_)
  ·have i:(bf (aW c).Y (ab p.V) 3=false∧tA (aW c) true=true):=by have z:=u;show(bf c.Y _ _=false∧_);simpa [gy]using z
   apply zH rfl ((l6 (aW c) n (eR a) 3 (ab p.V) (⟨#[]⟩:ByteArray) (dV g.V) k q j o false ((aW c).W.map av) m r).fB (λz=>z));rintro _ _ ⟨rfl,rfl⟩;refine rW (vN (((aW c).W).length)) rfl (cD av ((aW c).W))<|zW (vB (decide ((((aW c).W).length)>0))) (ar (gQ _ _))<|gS rfl id<|gS rfl id<|gS rfl id<|gS rfl id<|a' rfl id rfl<|zN rfl (by simp)<|zB rfl (λv=>?_) (λv=>?_)
   ·have b:((aW c).W≠[]∨(jE (aW c) 3 (ab p.V) (⟨#[]⟩:ByteArray)).halt=0):=by have z:=v;simpa [ep,fC]using z
    rw[mO,aa d,tK hp,aa i,show nP (jE (aW c) 3 (ab p.V) oZ)=(jE (aW c) 3 (ab p.V) oZ)from aa b];exact cT
   have b: ¬((aW c).W≠[]∨(jE (aW c) 3 (ab p.V) (⟨#[]⟩:ByteArray)).halt=0):=by have z:=v;simpa [ep,fC]using z
   refine zC (rb (jE (aW c) 3 (ab p.V) (⟨#[]⟩:ByteArray)).data (sH (eR a) ad 3 (dV g.V) oZ).ok.data)<|gS rfl id<|a' rfl id rfl<|zN rfl (λh=>h)<|aV rfl (λw=>?_) (λw=>?_)
   ·have e:((cR (jE (aW c) 3 (ab p.V) (⟨#[]⟩:ByteArray)).data).isSome=true∧((cR (jE (aW c) 3 (ab p.V) (⟨#[]⟩:ByteArray)).data).getD qE).data.size≠0):=by have z:=w;rw[iw]at z;simpa [qA]using z
    have s:Ca.ok (jE (aW c) 3 (ab p.V) (⟨#[]⟩:ByteArray)).data:=(sH (eR a) ad 3 (dV g.V) oZ).ok.data;refine qC 0 rfl<|zH rfl ((l6 (jE (aW c) 3 (ab p.V) (⟨#[]⟩:ByteArray)) (n+1) (sH (eR a) ad 3 (dV g.V) oZ) 4 (((cR (jE (aW c) 3 (ab p.V) (⟨#[]⟩:ByteArray)).data).getD qE).R) (((cR (jE (aW c) 3 (ab p.V) (⟨#[]⟩:ByteArray)).data).getD qE).data) ((sH (eR a) ad 3 (dV g.V) oZ).gd.ZL) k q j o false ((aW c).W.map av) m r).fB (λz=>z)) ?_;rintro _ _ ⟨rfl,rfl⟩;refine a6<|oR 8 rfl<|ba rfl (Iu ((jE (jE (aW c) 3 (ab p.V) (⟨#[]⟩:ByteArray)) 4 (((cR (jE (aW c) 3 (ab p.V) (⟨#[]⟩:ByteArray)).data).getD qE).R) (((cR (jE (aW c) 3 (ab p.V) (⟨#[]⟩:ByteArray)).data).getD qE).data)).data) (((cR (jE (aW c) 3 (ab p.V) (⟨#[]⟩:ByteArray)).data).getD qE).R) s ((sH (eR a) ad 3 (dV g.V) oZ).gd.ZL))<|oR 3 rfl<|a4 rfl<|rE 121 ?_;rw[mO,aa d,tK hp,aa i,show nP (jE (aW c) 3 (ab p.V) oZ)=pE (jE (aW c) 3 (ab p.V) oZ)from dZ b,uZ (d:=(jE (aW c) 3 (ab p.V) oZ)) e];exact cm 0 rfl<|cT
   have e: ¬((cR (jE (aW c) 3 (ab p.V) (⟨#[]⟩:ByteArray)).data).isSome=true∧((cR (jE (aW c) 3 (ab p.V) (⟨#[]⟩:ByteArray)).data).getD qE).data.size≠0):=by have z:=w;rw[iw]at z;simpa [qA]using z
   rw[mO,aa d,tK hp,aa i,show nP (jE (aW c) 3 (ab p.V) oZ)=pE (jE (aW c) 3 (ab p.V) oZ)from dZ b,wZ (d:=(jE (aW c) 3 (ab p.V) oZ)) e];exact hM 0 rfl<|cT
  have i: ¬(bf (aW c).Y (ab p.V) 3=false∧tA (aW c) true=true):=by have z:=u;show ¬(bf c.Y _ _=false∧_);simpa [gy]using z
  refine rW (vN (((aW c).W).length)) rfl (cD av ((aW c).W))<|zW (vB (decide ((((aW c).W).length)>0))) (ar (gQ _ _))<|gS rfl id<|gS rfl id<|gS rfl id<|gS rfl id<|a' rfl id rfl<|zN rfl (by simp)<|zB rfl (λy=>?_) (λy=>?_)
  ·have b:((aW c).W≠[]∨c.halt=0):=by have z:=y;simpa [ep,fC]using z
   rw[mO,aa d,tK hp,dZ i,show nP (aW c)=(aW c)from aa b];exact cT
  have b: ¬((aW c).W≠[]∨c.halt=0):=by have z:=y;simpa [ep,fC]using z
  refine zC (rb (aW c).data (eR a).ok.data)<|gS rfl id<|a' rfl id rfl<|zN rfl (λh=>h)<|aV rfl (λC=>?_) (λC=>?_)
  ·have e:((cR (aW c).data).isSome=true∧((cR (aW c).data).getD qE).data.size≠0):=by have z:=C;rw[iw]at z;simpa [qA]using z
   have s:Ca.ok (aW c).data:=(eR a).ok.data;refine qC 0 rfl<|zH rfl ((l6 (aW c) n (eR a) 4 (((cR (aW c).data).getD qE).R) (((cR (aW c).data).getD qE).data) ((eR a).gd.ZL) k q j o false ((aW c).W.map av) m r).fB (λz=>z)) ?_;rintro _ _ ⟨rfl,rfl⟩;refine a6<|oR 8 rfl<|ba rfl (Iu ((jE (aW c) 4 (((cR (aW c).data).getD qE).R) (((cR (aW c).data).getD qE).data)).data) (((cR (aW c).data).getD qE).R) s ((eR a).gd.ZL))<|oR 3 rfl<|a4 rfl<|rE 118 ?_;rw[mO,aa d,tK hp,dZ i,show nP (aW c)=pE (aW c)from dZ b,uZ e];exact cm 0 rfl<|cT
  have e: ¬((cR (aW c).data).isSome=true∧((cR (aW c).data).getD qE).data.size≠0):=by have z:=C;rw[iw]at z;simpa [qA]using z
  rw[mO,aa d,tK hp,dZ i,show nP (aW c)=pE (aW c)from dZ b,wZ e];exact hM 0 rfl<|cT
 have d: ¬((sL c.W c.data).2.2=false∧(aW c).W≠[]):=by have z:=t;simpa [gy,fC]using z
 refine rW (vN (((aW c).W).length)) rfl (cD av ((aW c).W))<|zW (vB (decide ((((aW c).W).length)>0))) (ar (gQ _ _))<|gS rfl id<|gS rfl id<|gS rfl id<|gS rfl id<|a' rfl id rfl<|zN rfl (by simp)<|zB rfl (λD=>?_) (λD=>?_)
 ·have b:((aW c).W≠[]∨c.halt=0):=by have z:=D;simpa [ep,fC]using z
  rw[mO,dZ d,show nP (aW c)=(aW c)from aa b];exact cT
 have b: ¬((aW c).W≠[]∨c.halt=0):=by have z:=D;simpa [ep,fC]using z
 refine zC (rb (aW c).data (eR a).ok.data)<|gS rfl id<|a' rfl id rfl<|zN rfl (λh=>h)<|aV rfl (λE=>?_) (λE=>?_)
 ·have e:((cR (aW c).data).isSome=true∧((cR (aW c).data).getD qE).data.size≠0):=by have z:=E;rw[iw]at z;simpa [qA]using z
  refine qC 0 rfl<|zH rfl ((l6 (aW c) n (eR a) 4 (((cR (aW c).data).getD qE).R) (((cR (aW c).data).getD qE).data) ((eR a).gd.ZL) k q j o false ((aW c).W.map av) m r).fB (λz=>z)) ?_;rintro _ _ ⟨rfl,rfl⟩;refine a6<|oR 8 rfl<|ba rfl (Iu ((jE (aW c) 4 (((cR (aW c).data).getD qE).R) (((cR (aW c).data).getD qE).data)).data) (((cR (aW c).data).getD qE).R) ((eR a).ok.data) ((eR a).gd.ZL))<|oR 3 rfl<|a4 rfl<|rE 95 ?_;rw[mO,dZ d,show nP (aW c)=pE (aW c)from dZ b,uZ e];exact cm 0 rfl<|cT
 have e: ¬((cR (aW c).data).isSome=true∧((cR (aW c).data).getD qE).data.size≠0):=by have z:=E;rw[iw]at z;simpa [qA]using z
 rw[mO,dZ d,show nP (aW c)=pE (aW c)from dZ b,wZ e];exact hM 0 rfl<|cT
def XZ(a:Addr)(k:Nat)(w:World):Calls Tryz.prog 48 #[.slice (some a) 0 k] w λe w'=>∃v,e=.returned v∧Below w.heap.size w w'∧∃A c,v=.slice A 0 c∧c<=maxLen:=by
 obtain⟨i0,z0,hi, -⟩:=(fw.ty 84 _ rfl).ZO
 go_enter func48,ntmps48
 have hb:Sem.run Tryz.prog (binOp .eql 39 (.slice (some a) 0 k) (.slice none 0 0)) w=.ok (.bool false) w:=by
  have e1:(Op.equal 39 (.slice (some a) 0 k) (.slice none 0 0)).run Tryz.prog w=.ok (some a).isNone w:=Bx Tryz.prog w 9999 _ 84 (fw.ty 39 _ rfl).kd _ _ _;simp only[binOp,Sem.run_bind,e1,Result.andThen_ok];rfl
 go_wp2_with (first|(rw[hb];simp only[Result.andThen_ok,Oper.upon])|(at_builtin;refine yE rfl (.tmp 5) (.tmp 6) 39 rfl 84 i0 (fw.ty 39 _ rfl).kd hi _ _ _ _ rfl rfl ?_))
 go_ret
 exact⟨_,rfl,(Below.refl _ _).alloc (aC _) _,_,_,rfl,aE _⟩
def NQ(k):bI C0 48 [.v (.slice none 0 k)] (.X 0 [] true):=by
 exact bx func48 rfl<|rV _ rfl<|cd 1 rfl<|fT rfl rfl
def Va(m):bI C0 48 [.X 17 [] m] (.X 17 [] false):=by
 refine⟨(NQ 0).1,λS w x t s d=>?_⟩
 match x,d with
 |[],d=>simp[bs]at d
 |_::_::_,d=>simp[bs]at d
 | [v],d=>
  have n:=d.2 0 _ v rfl rfl
  cases n with
  | X _ _ _ A c b o u C D y z hA E g h'=>
   cases A with
   |none=>exact((NQ c).sub (oM 17 false)).2 S w _ t s (bs.cons (.v _) (bs.nil _ _ _))
   |some a=>
    exact(XZ a c w).mono λe F ⟨v,g,p,A,k,q,r⟩=>⟨v,g,p,q ▸ .X 17 [] false A k 0 0 (λ_ _=>.bool false) (aE _) r nofun nofun (λh=>absurd h (iI 0)) (λi row j a h=>by simp at h) (λ_ _=>rfl) λi row j a h=>by simp at h⟩
def Vb{p}{H}{s}(e)(l):bv.fx p (.S s 0 (([]:List (List AV)).length+((e::l).map ak).length) false) (an H s (some (.arr (([]:List (List AV))++(e::l).map ak) 17)))=.fx p (.S s 0 (l.length+1) false) (an H s (some (.arr ((e::l).map ak) 17))):=by
 rw[iA,aH,bN,cX,bJ]
def Ya(e)(l)(a)(b:l.length<=1000):pM C0.P C0.G 48 [.X 17 ((e::l).map ak) a] (ao []) 0 (λx h'=>x=.S 0 0 (l.length+1) false∧h'=ao [(0,.arr ((e::l).map ak) 17)]):=by
 exact HCall.intro fw.at func48 rfl rfl (by kernel_rfl) rfl rfl<|qS 0 rfl<|rV _ rfl<|qR 1 rfl<|zV (.X 17 ([]) true)<|zF (Vb e l) (⟨by simp[aH,bN,cX,jH];omega,by simp,trivial,trivial⟩)<|BH rfl a9 rfl (ah (λ_=>5) rfl rfl wH rfl)
def VW(l:List Ft)(a)(b:l.length<=1000000):bI C0 49 [.X 2 (l.map a5) a] (.X 2 (l.map a5) true):=by
 refine bx func49 rfl<|zW _ (cD a5 l)<|rW _ rfl (cD a5 l)<|zM _ (yB (vY a5 l l.length)) (by refine⟨?_,?_,?_,?_⟩;all_goals (first|exact aG _|decide|(apply FG.2;exact ad)|(show(_:Int)=(_:Int);congr 1;omega)|rfl))<|fT rfl ?_;show AV.X 2 _ true=_;rw[cH]
def VX(l:List Pt)(a)(b:l.length<=1000000):bI C0 50 [.X 2 (l.map av) a] (.X 2 (l.map av) true):=by
 refine bx func50 rfl<|zW _ (cD av l)<|rW _ rfl (cD av l)<|zM _ (yB (vY av l l.length)) (by refine⟨?_,?_,?_,?_⟩;all_goals (first|exact aG _|decide|(apply FG.2;exact ad)|(show(_:Int)=(_:Int);congr 1;omega)|rfl))<|fT rfl ?_;show AV.X 2 _ true=_;rw[cH]
def VY(l:List a2)(a)(b:l.length<=1000000):bI C0 51 [.X 4 (l.map b3) a] (.X 4 (l.map b3) true):=by
 refine bx func51 rfl<|zW _ (cD b3 l)<|rW _ rfl (cD b3 l)<|zM _ (yB (vY b3 l l.length)) (by refine⟨?_,?_,?_,?_⟩;all_goals (first|exact aG _|decide|(apply FG.2;exact ad)|(show(_:Int)=(_:Int);congr 1;omega)|rfl))<|fT rfl ?_;show AV.X 4 _ true=_;rw[cH]
def VZ(l:List Sp)(a)(b:l.length<=1000000):bI C0 52 [.X 9 (l.map a3) a] (.X 9 (l.map a3) true):=by
 refine bx func52 rfl<|zW _ (cD a3 l)<|rW _ rfl (cD a3 l)<|zM _ (yB (vY a3 l l.length)) (by refine⟨?_,?_,?_,?_⟩;all_goals (first|exact aG _|decide|(apply FG.2;exact ad)|(show(_:Int)=(_:Int);congr 1;omega)|rfl))<|fT rfl ?_;show AV.X 9 _ true=_;rw[cH]
def qQ{c:Co}{a:Fz}{R d F b S e T g:AV}(i:eu a R d)(h:eu a F b)(j:eu a S e)(k:eu a T g):kt a (aw c R F S T) (aw c d b e g):=
 ⟨.refl _,.refl _,.refl _,.refl _,.refl _,.refl _,.refl _,.refl _,.refl _,.refl _,.refl _,.refl _,.refl _,.refl _,.refl _,.refl _,.refl _,.refl _,.refl _,.refl _,.refl _,.refl _,.refl _,.refl _,.refl _,.refl _,.refl _,.refl _,.refl _,.refl _,.refl _,.refl _,.refl _,.refl _,.refl _,.refl _,.refl _,.refl _,.refl _,.refl _,.refl _,.refl _,.refl _,.refl _,.refl _,.refl _,.refl _,h,i,.refl _,j,.refl _,.refl _,.refl _,.refl _,.refl _,.refl _,.refl _,.refl _,.refl _,.refl _,.refl _,.refl _,k,trivial⟩
def SY{C:az}{c:Func}{bm:AV->AH->Prop}{s:Nat}{b a:ay}{rs:List AV}(d:gq C b c.results.toList=some rs)(h:jj ⟨Ge (Dp rs),b.h,b.n⟩ a){r:AV}{h':AH}{σ:Nat->Nat}(e:bm r h')(i:dj s σ (s+1)=true)(g:cu a ⟨Ge r,h',s+1⟩ σ):
  ∃rs,gq C b c.results.toList=some rs∧gm ⟨Ge (Dp rs),b.h,b.n⟩ (λa=>∃r h' σ,bm r h'∧dj s σ (s+1)=true∧cu a ⟨Ge r,h',s+1⟩ σ):=
 ⟨rs,d,.mk _ h ⟨r,h',σ,e,i,g⟩⟩
def qT{x r}{h}{a}{hp}{n}(σ)(e:x=uW σ r)(b:mR n r=true)(c:WH ⟨be [(0,x)],h,a⟩ n σ hp)(d:En ((hp.map (·.1)).map σ)=true):cu ⟨be [(0,x)],h,a⟩ ⟨Ge r,ao hp,n⟩ σ:=by
 have W:=au (l:=[(0,r)]) σ ⟨⟨e,b⟩,trivial⟩ c d;refine⟨λi=>?_,W.h,W.inj⟩;have:=W.t i
 cases i with
 |zero=>exact this
 |succ i=>exact .inl rfl
theorem jj.snoc{a b c}{d}(h:jj a b)(k:j' b c d):jj a c:=by
 induction h with
 |refl=>exact .step d k (.refl _)
 |step f g _ ih=>exact .step f g (ih k)
abbrev we (a:Fz) (i:Nat):Prop:=match a with|some (b,_,_)=>Nat.beq i b=false|none=>True
abbrev Ea (a:Fz) (h:AH):Prop:=match a with|some (x,rs,rows)=>h x=some (.arr rows rs)|none=>True
def hQ{c:ay}{a:Fz}{i:Nat}{d e:List AV}{l:List (Nat×bj)}(h:c.h i=some (.box d))(g:kt a d e)(j:GH c a l)(k:we a i:=by first|exact trivial|rfl):GH c a ((i,.box e)::l):=⟨⟨by rcases a with _|⟨b,r,q⟩<;>exact k,_,h,.ZR g⟩,j⟩
def kT{c:ay}{a:Fz}{i:Nat}{b:bj}{l:List (Nat×bj)}(d:c.h i=some b)(e:GH c a l)(g:we a i:=by first|exact trivial|rfl):GH c a ((i,b)::l):=⟨⟨by rcases a with _|⟨b,r,q⟩<;>exact g,_,d,.refl _⟩,e⟩
def Jg{C:az}{e:Func}{bm:AV->AH->Prop}{s:Nat}{c a:ay}{hp:List (Nat×bj)}(m:jj ⟨Ge (.A []),c.h,c.n⟩ a)(d:Fz)(j:bm (.A []) (ao hp))(i:GH a d hp)(h:gq C c e.results.toList=some []:=by rfl)(k:Ea d a.h:=by first|exact trivial|rfl)(t:eu d (a.t 0) (.A []):=by exact .refl _)(p:dj s (λz=>z) (s+1)=true:=by rfl)(n:WH ⟨be [(0,.A [])],ao hp,a.n⟩ (s+1) (λz=>z) hp:=by exact wH)(o:En ((hp.map (·.1)).map (λz=>z))=true:=by rfl):
  ∃rs,gq C c e.results.toList=some rs∧gm ⟨Ge (Dp rs),c.h,c.n⟩ (λg=>∃r h' σ,bm r h'∧dj s σ (s+1)=true∧cu g ⟨Ge r,h',s+1⟩ σ):=
 SY h (m.snoc (ec (l:=[(0,.A [])]) (by rcases d with _|⟨b,r,q⟩<;>exact k) ⟨t,trivial⟩ i)) j p (qT (λz=>z) rfl rfl n o)
def w0(c)(h)(a:c.E h)(d b e g):pM C0.P C0.G 27 [.ptr 0 0] (ao [(0,.box (aw c (.X 17 [] d) (.X 2 (c.O.map a5) b) (.X 2 (c.W.map av) e) (.X 9 (c.N.map a3) g)))]) 1 (λx h'=>x=.A []∧h'=ao [(0,.box (aw c (.X 17 [] false) (.X 2 (c.O.map a5) true) (.X 2 (c.W.map av) true) (.X 9 (c.N.map a3) true)))]):=by
 exact HCall.intro (C:=C0) fw.at func27 rfl rfl (by kernel_rfl) rfl rfl<|qS 0 rfl<|ba rfl (Va d)<|de 0 rfl<|a4 rfl<|qR 0 rfl<|ba rfl (VW c.O b (oH a.Z5))<|de 0 rfl<|a4 rfl<|qR 0 rfl<|ba rfl (VX c.W e (oH a.Z9))<|de 0 rfl<|a4 rfl<|qR 0 rfl<|zC (VY c.Y false (oH a.Y))<|zC (VZ c.N g (oH a.ret))<|SY rfl (.step none (ec (l:=[(0,.A [])]) (hp:=[(0,.box (aw c (.X 17 [] false) (.X 2 (c.O.map a5) true) (.X 2 (c.W.map av) true) (.X 9 (c.N.map a3) true)))]) trivial ⟨.refl _,trivial⟩ ⟨⟨trivial,_,rfl,eh.ZR ⟨.refl _,.refl _,.refl _,.refl _,.refl _,.refl _,.refl _,.refl _,.refl _,.refl _,.refl _,.refl _,.refl _,.refl _,.refl _,.refl _,.refl _,.refl _,.refl _,.refl _,.refl _,.refl _,.refl _,.refl _,.refl _,.refl _,.refl _,.refl _,.refl _,.refl _,.refl _,.refl _,.refl _,.refl _,.refl _,.refl _,.refl _,.refl _,.refl _,.refl _,.refl _,.refl _,.refl _,.refl _,.refl _,.refl _,.refl _,.refl _,.refl _,.refl _,.refl _,.refl _,.refl _,.refl _,.refl _,.clip _ _,.refl _,.refl _,.refl _,.refl _,.refl _,.refl _,.refl _,.refl _,trivial⟩⟩,trivial⟩) (.refl _)) (σ:=λz=>z) a9 rfl (qT (λz=>z) rfl rfl wH rfl)
def w8(c)(k)(a:c.E k)(e)(l)(b:(e::l).length<=1000)(g d h i):pM C0.P C0.G 27 [.ptr 0 0] (ao [(0,.box (aw c (.X 17 ((e::l).map ak) g) (.X 2 (c.O.map a5) d) (.X 2 (c.W.map av) h) (.X 9 (c.N.map a3) i)))]) 1 (λx h'=>x=.A []∧h'=ao [(0,.box (aw c (.S 1 0 (l.length+1) false) (.X 2 (c.O.map a5) true) (.X 2 (c.W.map av) true) (.X 9 (c.N.map a3) true))),(1,.arr ((e::l).map ak) 17)]):=by
 apply HCall.intro (C:=C0) fw.at func27 rfl rfl (by kernel_rfl) rfl rfl;have j:l.length+1<=1000:=b;refine qS 0 rfl<|fU _ rfl rfl rfl ((Ya e l g ad).Zk _ _ rfl) ?_;rintro _ _ ⟨rfl,rfl⟩;exact de 0 rfl<|a4 rfl<|qR 0 rfl<|ba rfl (VW c.O d (oH a.Z5))<|de 0 rfl<|a4 rfl<|qR 0 rfl<|ba rfl (VX c.W h (oH a.Z9))<|de 0 rfl<|a4 rfl<|qR 0 rfl<|zC (VY c.Y false (oH a.Y))<|zC (VZ c.N i (oH a.ret))<|SY rfl (.step none (ec (l:=[(0,.A [])]) (hp:=[(0,.box (aw c (.S 7 0 (l.length+1) false) (.X 2 (c.O.map a5) true) (.X 2 (c.W.map av) true) (.X 9 (c.N.map a3) true))),(7,.arr ((e::l).map ak) 17)]) trivial ⟨.refl _,trivial⟩ ⟨⟨trivial,_,rfl,eh.ZR ⟨.refl _,.refl _,.refl _,.refl _,.refl _,.refl _,.refl _,.refl _,.refl _,.refl _,.refl _,.refl _,.refl _,.refl _,.refl _,.refl _,.refl _,.refl _,.refl _,.refl _,.refl _,.refl _,.refl _,.refl _,.refl _,.refl _,.refl _,.refl _,.refl _,.refl _,.refl _,.refl _,.refl _,.refl _,.refl _,.refl _,.refl _,.refl _,.refl _,.refl _,.refl _,.refl _,.refl _,.refl _,.refl _,.refl _,.refl _,.refl _,.refl _,.refl _,.refl _,.refl _,.refl _,.refl _,.refl _,.clip _ _,.refl _,.refl _,.refl _,.refl _,.refl _,.refl _,.refl _,.refl _,trivial⟩⟩,⟨trivial,_,rfl,.refl _⟩,trivial⟩) (.refl _)) (σ:=λz=>match z with|1=>7|z=>z) ⟨rfl,rfl⟩ rfl (qT (λz=>match z with|1=>7|z=>z) rfl rfl wH rfl)
def Qz{g}(h:g.ok)(pc)(i):xC g pc i<=4294967295:=by
 unfold xC;split
 ·split
  ·cases a:g.I.getLast? with
   |none=>exact aE _
   |some x=>exact h.ro x (List.mem_of_getLast? a)
  ·cases b:g.C[gO g pc]? with
   |none=>exact uT _
   |some s=>
    dsimp only;split
    ·exact(h.so s (aB b)).next
    ·exact uT _
 ·exact uT _
def QA{c}(h:∀x∈c.tape,x<=4294967295)(k)(pc):yG c k pc<=4294967295:=by
 have hp:=Iq h;unfold yG;generalize (bZ c).tape=l at hp
 cases l with
 |nil=>exact uT _
 |cons y l=>
  show(y::l).getD _ _<=_;rw[aR]
  cases a:(y::l)[(max k 0).toNat%(y::l).length]? with
  |none=>exact aE _
  |some x=>exact hp x (aB a)
def QB{c}{n}(h:c.E n)(w):(dM c w).2<=4294967295:=by
 unfold dM;split
 ·exact uT _
 split
 ·exact Qz h.ok.M _ _
 exact QA h.U.tp _ _
def Bn(c)(w):(dM c w).1.O=c.O:=by
 unfold dM;split
 ·rfl
 split<;>rfl
def lJ(d:Co):Co:={d with y:=tO d.y (ab d.Yr)}
def AM{c}{n}(h:c.E n):(lJ c).E n:=by
 have g:=gl.1 (h.gw.Zh (ab c.Yr));exact⟨⟨h.ok.U,h.ok.prog,h.ok.Z4,h.ok.r,h.ok.Yr,h.ok.Z5,h.ok.ZS,h.ok.Z,h.ok.Z7,h.ok.Z9,h.ok.Z1,h.ok.data,g.2,h.ok.Y,h.ok.Z_,h.ok.asked,h.ok.ZY,h.ok.mem,h.ok.M,h.ok.ret,h.ok.ZT⟩,h.nb,h.cf,h.data,g.1,h.M,h.Z,h.Z5,h.Z9,h.prog,h.mem,h.ZK⟩
def OJ{c}{n}(h:c.E n)(w):(dM c w).1.E n:=by
 unfold dM;split
 ·exact h
 split
 ·exact h
 exact⟨⟨h.ok.U,h.ok.prog,h.ok.Z4,h.ok.r,h.ok.Yr,h.ok.Z5,h.ok.ZS,h.ok.Z,h.ok.Z7,h.ok.Z9,h.ok.Z1,h.ok.data,h.ok.y,h.ok.Y,h.ok.Z_,h.ok.asked,EW _,h.ok.mem,h.ok.M,h.ok.ret,h.ok.ZT⟩,h.nb,h.cf,h.data,h.y,h.M,h.Z,h.Z5,h.Z9,h.prog,h.mem,h.ZK⟩
def LL{c}{n}(h:c.E n)(d:c.O.length<=999){x}(b:x<=4294967295):(LU c x).E n:=by
 have a:(c.O++[(⟨c.Yr,x⟩:Ft)]).length<=1000:=by simp;omega
 exact⟨⟨h.ok.U,h.ok.prog,h.ok.Z4,h.ok.r,b,aL a dT,sJ h.ok.ZS (sK ⟨h.ok.Yr,b⟩),h.ok.Z,h.ok.Z7,h.ok.Z9,h.ok.Z1,h.ok.data,h.ok.y,h.ok.Y,h.ok.Z_,h.ok.asked,h.ok.ZY,h.ok.mem,h.ok.M,h.ok.ret,h.ok.ZT⟩,h.nb,h.cf,h.data,h.y,h.M,h.Z,a,h.Z9,h.prog,h.mem,h.ZK⟩
def zP(d:Co):Co:=LU (dM (lJ d) (bg d.prog d.Yr)).1 (dM (lJ d) (bg d.prog d.Yr)).2
def tU(d):(zP d).O=d.O++[⟨(dM (lJ d) (bg d.prog d.Yr)).1.Yr,(dM (lJ d) (bg d.prog d.Yr)).2⟩]:=by
 show(dM (lJ d) _).1.O++_=_;rw[Bn];rfl
def CW{c:Co}{n:Nat}(h:c.E n)(a:c.O.length<=999):(zP c).E n:=
 LL (OJ (AM h) _) (by rw[Bn];exact a) (QB (AM h) _)
def yZ{d}{n}(h:d.stop=true∨(d.O.length:Int)>=d.U.queue):eL n d=d:=by
 cases n with
 |zero=>rfl
 |succ n=>exact aa h
def Aq{d}{n}(b:0<n)(h: ¬(d.stop=true∨(d.O.length:Int)>=d.U.queue))(a:(ez d.prog d.Yr).isSome=false):eL n d={d with O:=d.O++[⟨d.Yr,bz d.Yr⟩],stop:=true}:=by
 cases n with
 |zero=>cases b
 |succ n=>exact(dZ h).trans (aa a)
def uD{d}{n}(b:0<n)(h: ¬(d.stop=true∨(d.O.length:Int)>=d.U.queue))(a: ¬(ez d.prog d.Yr).isSome=false)(c:(bK d.y (ab d.Yr)).2.isSome=false):eL n d=if bf d.Y (ab d.Yr) 2=false∧tA d false=true then jE d 2 (ab d.Yr) oZ else d:=by
 cases n with
 |zero=>cases b
 |succ n=>exact((dZ h).trans (dZ a)).trans (aa c)
def BC{d}{n k}(c:k<n)(h: ¬(d.stop=true∨(d.O.length:Int)>=d.U.queue))(a: ¬(ez d.prog d.Yr).isSome=false)(b: ¬(bK d.y (ab d.Yr)).2.isSome=false):eL (n-(k+1)) (zP d)=eL (n-k) d:=by
 rw[(oT:n-k=(n-(k+1))+1)];exact(((dZ h).trans (dZ a)).trans (dZ b)).symm
def WX(c)(s)(b:c.E s)(w)(r:w<=4294967295)(j)(o)(i)(n)(k)(p)(m)(q):pM C0.P C0.G 78 [.ptr 0 0,vU w] (ao [(0,.box (aw c (.X 17 o j) (.X 2 n i) (.X 2 p k) (.X 9 q m)))]) 1 (λx h'=>x=vU (dM c w).2∧h'=ao [(0,.box (aw (dM c w).1 (.X 17 o j) (.X 2 n i) (.X 2 p k) (.X 9 q m)))]):=by
 refine hZ 1 func78 rfl<|zC (IV w (CI r))<|zW _ (ar (ee _ _))<|jQ (x:=vN (am (bi w).op)) (g:= !((ij w) != 0)) rfl rfl rfl rfl (λh=>h) rfl rfl rfl (.inl rfl) rfl (λu=>pS (bi w))<|a' rfl id (ar (ee _ _))<|zN rfl (by simp)<|zB rfl (λd=>?_) (λd=>?_)
 ·have a:(e4 w=0∨am (bi w).op≠5):=by have z:=d;have e:=Cl w;simp[ep,dE,dP,pX,iC,ne_eq]at z;grind
  have t:(c.Yr+4)%4294967296<=4294967295:=aI (aQ _ dT);apply zV (vU ((c.Yr+4)%4294967296));rw[show dM c w=(c,bz c.Yr)from aa a];exact BH rfl a9 rfl (ah (λz=>z) rfl rfl wH rfl)
 have a: ¬(e4 w=0∨am (bi w).op≠5):=by have z:=d;have e:=Cl w;simp[ep,dE,dP,pX,iC,ne_eq]at z;grind
 refine zB rfl (λg=>?_) (λg=>?_)
 ·refine zR<|zC (RJ c.M c.Yr (bi w) b.ok.M b.ok.Yr (aI (IU w))) ?_;rw[show dM c w=(c,xC c.M c.Yr (bi w))from(dZ a).trans (aa g)];exact BH (rs:=[vU (xC c.M c.Yr (bi w))]) rfl (r:=vU (xC c.M c.Yr (bi w))) (σ:=λz=>z) a9 rfl (ah (λz=>z) rfl rfl wH rfl)
 refine zR<|zC (QV c.U c.ZY c.Yr b.U b.ok.ZY b.ok.Yr)<|rW _ rfl (ax (ae _))<|de 0 rfl<|a4 rfl<|cd 0 rfl ?_;rw[show dM c w=({c with ZY:=wrap64 (c.ZY+1)},yG c.U c.ZY c.Yr)from(dZ a).trans (dZ (by rw[g];decide))];exact BH rfl a9 rfl (ah (λz=>z) rfl rfl wH rfl)
def TY(c)(t)(b:c.E t)(w)(s:w<=4294967295)(j)(p)(n o)(i)(rF)(k)(q)(m)(r):pM C0.P C0.G 78 [.ptr 0 0,vU w] (ao [(0,.box (aw c (.X 17 p j) (.S 1 n o i) (.X 2 q k) (.X 9 r m))),(1,.arr rF 2)]) 2 (λx h'=>x=vU (dM c w).2∧h'=ao [(0,.box (aw (dM c w).1 (.X 17 p j) (.S 1 n o i) (.X 2 q k) (.X 9 r m))),(1,.arr rF 2)]):=by
 refine hZ 2 func78 rfl<|zC (IV w (CI s))<|zW _ (ar (ee _ _))<|jQ (x:=vN (am (bi w).op)) (g:= !((ij w) != 0)) rfl rfl rfl rfl (λh=>h) rfl rfl rfl (.inl rfl) rfl (λv=>pS (bi w))<|a' rfl id (ar (ee _ _))<|zN rfl (by simp)<|zB rfl (λd=>?_) (λd=>?_)
 ·have a:(e4 w=0∨am (bi w).op≠5):=by have z:=d;have e:=Cl w;simp[ep,dE,dP,pX,iC,ne_eq]at z;grind
  have u:(c.Yr+4)%4294967296<=4294967295:=aI (aQ _ dT);apply zV (vU ((c.Yr+4)%4294967296));rw[show dM c w=(c,bz c.Yr)from aa a];exact BH rfl a9 rfl (ah (λz=>z) rfl rfl wH rfl)
 have a: ¬(e4 w=0∨am (bi w).op≠5):=by have z:=d;have e:=Cl w;simp[ep,dE,dP,pX,iC,ne_eq]at z;grind
 refine zB rfl (λg=>?_) (λg=>?_)
 ·refine zR<|zC (RJ c.M c.Yr (bi w) b.ok.M b.ok.Yr (aI (IU w))) ?_;rw[show dM c w=(c,xC c.M c.Yr (bi w))from(dZ a).trans (aa g)];exact BH (rs:=[vU (xC c.M c.Yr (bi w))]) rfl (r:=vU (xC c.M c.Yr (bi w))) (σ:=λz=>z) a9 rfl (ah (λz=>z) rfl rfl wH rfl)
 refine zR<|zC (QV c.U c.ZY c.Yr b.U b.ok.ZY b.ok.Yr)<|rW _ rfl (ax (ae _))<|de 0 rfl<|a4 rfl<|cd 0 rfl ?_;rw[show dM c w=({c with ZY:=wrap64 (c.ZY+1)},yG c.U c.ZY c.Yr)from(dZ a).trans (dZ (by rw[g];decide))];exact BH rfl a9 rfl (ah (λz=>z) rfl rfl wH rfl)
def TZ(c)(t)(K:c.E t)(b)(m)(g)(n)(j)(o):pM C0.P C0.G 33 [.ptr 0 0] (ao [(0,.box (aw c (.X 17 m b) (.X 2 (c.O.map a5) true) (.X 2 n g) (.X 9 o j)))]) 1 (λx h'=>x=.A []∧h'=ao [(0,.box (aw (eN c) (.X 17 m b) (.X 2 ((eN c).O.map a5) false) (.X 2 n g) (.X 9 o j)))]):=by
 apply hZ 1 func33 rfl;let⟨W,E,Q⟩:∃W:Nat,c.U.u=(W:Int)∧W<=2:=⟨c.U.u.toNat,oH (pD K.cf),oH (pD K.cf)⟩;refine cq (c.halt != 0) (λF=>?_) (λF=>?_)
 ·have p:=wM F;have e:eN c=c:=aa p;rw[e];exact Jg (.refl _) none a9 (hQ rfl (qQ (.refl _) (.clip _ _) (.refl _) (.refl _)) trivial)
 ·have p:=wN F;apply sX (λv=>match v with|(k,d,false)=>⟨be [(0,.ptr 0 0),(14,vB (c.halt != 0)),(20,vI c.U.u),(21,vN k)],ao [(0,.box (aw d (.X 17 m b) (.X 2 (d.O.map a5) true) (.X 2 n g) (.X 9 o j)))],15⟩|(k,d,true)=>⟨be [(0,.ptr 0 0),(14,vB (c.halt != 0)),(20,vI c.U.u),(21,vN k)],ao [(0,.box (aw d (.X 17 m b) (.S 14 0 d.O.length false) (.X 2 n g) (.X 9 o j))),(14,.arr (d.O.map a5) 2)],15⟩) (λv=>match v with|(k,d,_)=>k<=W∧d.E t∧eL (W-k) d=eL W c) (λv=>W-v.1) (0,c,false) (λs=>s) (au (λs=>s) wT wH rfl) rfl (⟨aE _,K,rfl⟩);intro v J;let⟨k,d,N⟩:=v;cases N
  all_goals
   have S:k<=W:=J.1;have a:d.E t:=J.2.1;have w:eL (W-k) d=eL W c:=J.2.2;refine qS 0 rfl<|cq (decide ((k:Int)<c.U.u)) (λG=>?_) (λG=>?_)
   ·have L:=a7 G;refine zR<|zG rfl id<|zG rfl id<|zG rfl id<|zG rfl id ?_
    first|refine gc rfl id (cD a5 d.O) ?_|refine gc rfl id rfl ?_
    refine zG rfl id<|zG rfl id<|zG rfl id<|zG rfl id<|zG rfl id ?_
    first|refine gc rfl cj rfl ?_|refine gc rfl cj rfl ?_
    refine zN rfl (by simp)<|zB rfl (λH=>?_) (λH=>?_)
    ·have r:(d.stop=true∨(d.O.length:Int)>=d.U.queue):=by have z:=H;simpa [ep]using z
     apply cm 0 rfl;have u:eN c=eL W c:=by show(if c.halt≠0 then c else eL c.U.u.toNat c)=_;rw[dZ (λq=>q p),E];rfl
     have e:eN c=d:=by rw[u, <-w];exact yZ r
     rw[e]
     first|exact Jg (.refl _) none a9 (hQ rfl (qQ (.refl _) (.clip _ _) (.refl _) (.refl _)) trivial)|exact Jg (.refl _) (some (14,2,d.O.map a5)) a9 (hQ rfl (qQ (.refl _) (nB (by exact ad)) (.refl _) (.refl _)) trivial)
    ·have r: ¬(d.stop=true∨(d.O.length:Int)>=d.U.queue):=by have z:=H;simpa [ep]using z
     have R:d.O.length<=3:=oH (pD a.cf);refine zR<|zC (ND d.prog d.Yr false a.ok.Z4 (oH a.prog) a.ok.Yr)<|zB rfl (λy=>?_) (λy=>?_)
     ·refine a6<|oR 16 rfl ?_;have T:(d.Yr+4)%4294967296<=4294967295:=aI (aQ _ dT);refine rV (vU ((d.Yr+4)%4294967296)) rfl<|rV (.agg [vU d.Yr,vU ((d.Yr+4)%4294967296)]) rfl<|rV (.X 2 ([[vU d.Yr,vU ((d.Yr+4)%4294967296)]]) true) rfl ?_
      first|refine eg rfl rfl (Au a5 d.O ([(⟨d.Yr,(d.Yr+4)%4294967296⟩:Ft)]) ad) (⟨by exact ad,by exact ad,trivial,trivial⟩) ?_|refine eg (h':=an (an _ 14 none) 73 (some (.arr ((d.O++([(⟨d.Yr,(d.Yr+4)%4294967296⟩:Ft)])).map a5) 2))) rfl rfl (iP a5 d.O ([(⟨d.Yr,(d.Yr+4)%4294967296⟩:Ft)]) ad ad) (⟨by exact ad,by exact ad,trivial⟩) ?_
      refine oR 3 rfl<|c_ 0 (aw d (.X 17 m b) (.S 73 0 (d.O.length+1) false) (.X 2 n g) (.X 9 o j)) rfl rfl rfl<|rE 78<|lR 0 rfl<|c_ 0 (aw ({d with stop:=true}:Co) (.X 17 m b) (.S 73 0 (d.O.length+1) false) (.X 2 n g) (.X 9 o j)) rfl rfl rfl<|cd 0 rfl<|cm 0 rfl ?_;have u:eN c=eL W c:=by show(if c.halt≠0 then c else eL c.U.u.toNat c)=_;rw[dZ (λq=>q p),E];rfl
      have e:eN c={d with O:=d.O++[⟨d.Yr,bz d.Yr⟩],stop:=true}:=by rw[u, <-w];exact Aq ad r (FV y)
      rw[e];exact Jg (.refl _) (some (73,2,(d.O++([(⟨d.Yr,(d.Yr+4)%4294967296⟩:Ft)])).map a5)) a9 (hQ rfl (qQ (.refl _) (nB (by exact ad)) (.refl _) (.refl _)) trivial)
     ·refine zC (tN d.Yr a.ok.Yr)<|zC (As d.y (ab d.Yr) a.ok.y (dV a.ok.Yr))<|zB rfl (λD=>?_) (λD=>?_)
      ·refine rV (.X 1 ([[vI 2]]) true) rfl<|zC (x:=vB (bf d.Y (ab d.Yr) 2)) ((show bI C0 _ [_,_,.X 1 ([(2:Int)].map a_) true] _ from by rw[<-Kk];exact RQ d.Y (ab d.Yr) [2] false true (oH a.Y) (λx P=>(a.ok.Z_ x P).R) (dV a.ok.Yr) dT)) ?_
       first|refine jQ (x:=vB (tA d false)) (g:= !(bf d.Y (ab d.Yr) 2)) rfl rfl rfl rfl (λh=>h) rfl rfl rfl (.inr ⟨rfl,⟨trivial,trivial,trivial⟩⟩) rfl (λO=>Ua d t a (.X 17 m b) (.X 2 (d.O.map a5) true) (.X 2 n g) (.X 9 o j) false) ?_|refine jQ (x:=vB (tA d false)) (g:= !(bf d.Y (ab d.Yr) 2)) rfl rfl rfl rfl (λh=>h) rfl rfl rfl (.inr ⟨rfl,⟨trivial,trivial,trivial⟩⟩) rfl (λO=>Ua d t a (.X 17 m b) .any (.X 2 n g) (.X 9 o j) false) ?_
       refine zN rfl (λh=>h)<|zB rfl (λI=>?_) (λI=>?_)
       all_goals
        first
         |have C:(bf d.Y (ab d.Yr) 2=false∧tA d false=true):=by have z:=I;simpa [gy]using z
          first|refine zH rfl ((l6 d t a 2 (ab d.Yr) oZ (dV a.ok.Yr) b m true (d.O.map a5) g n j o).Zw (λz=>z) _ _ rfl ⟨d8,trivial⟩ rfl rfl rfl rfl) ?_|refine zH rfl ((KX d t a 2 (ab d.Yr) oZ (dV a.ok.Yr) b m 0 d.O.length false (d.O.map a5) g n j o).Zw (λz=>match z with|1=>14|z=>z) _ _ rfl ⟨d8,d8,trivial⟩ rfl rfl rfl rfl) ?_
          rintro _ _ ⟨rfl,rfl⟩
         |have C: ¬(bf d.Y (ab d.Yr) 2=false∧tA d false=true):=by have z:=I;simpa [gy]using z
        apply cm 0 rfl;have u:eN c=eL W c:=by show(if c.halt≠0 then c else eL c.U.u.toNat c)=_;rw[dZ (λq=>q p),E];rfl
        first|(have e:eN c=jE d 2 (ab d.Yr) oZ:=by rw[u, <-w];exact(uD ad r (sI y) (FV D)).trans (aa C))|(have e:eN c=d:=by rw[u, <-w];exact(uD ad r (sI y) (FV D)).trans (dZ C))
        rw[e]
        first|exact Jg (.refl _) none ⟨rfl,rfl⟩ (hQ rfl (qQ (.refl _) (.clip _ _) (.refl _) (.refl _)) trivial)|exact Jg (.refl _) (some (14,2,d.O.map a5)) ⟨rfl,rfl⟩ (hQ rfl (qQ (.refl _) (nB (by exact ad)) (.refl _) (.refl _)) trivial)
      ·refine ba rfl (It d.y (ab d.Yr) a.ok.y (dV a.ok.Yr))<|de 0 rfl<|c_ 0 (aw ({d with y:=(tO d.y (ab d.Yr))}:Co) (.X 17 m b) _ (.X 2 n g) (.X 9 o j)) rfl rfl rfl ?_;apply qR 0 rfl
       first|refine zH rfl ((WX (lJ d) t (AM a) (bg d.prog d.Yr) (LN a.ok.Z4 d.Yr) b m true (d.O.map a5) g n j o).Zw (λz=>z) _ _ rfl ⟨d8,trivial⟩ rfl rfl rfl rfl) ?_|refine zH rfl ((TY (lJ d) t (AM a) (bg d.prog d.Yr) (LN a.ok.Z4 d.Yr) b m 0 d.O.length false (d.O.map a5) g n j o).Zw (λz=>match z with|1=>14|z=>z) _ _ rfl ⟨d8,d8,trivial⟩ rfl rfl rfl rfl) ?_
       rintro _ _ ⟨rfl,rfl⟩;refine a6<|oR 12 rfl<|rV (.agg [vU ((dM (lJ d) (bg d.prog d.Yr)).1.Yr),vU ((dM (lJ d) (bg d.prog d.Yr)).2)]) rfl<|rV (.X 2 ([[vU ((dM (lJ d) (bg d.prog d.Yr)).1.Yr),vU ((dM (lJ d) (bg d.prog d.Yr)).2)]]) true) rfl ?_
       first|refine eg rfl rfl (Au a5 d.O ([(⟨(dM (lJ d) (bg d.prog d.Yr)).1.Yr,(dM (lJ d) (bg d.prog d.Yr)).2⟩:Ft)]) ad) (⟨by exact ad,by exact ad,trivial,trivial⟩) ?_|refine eg rfl rfl (iP a5 d.O ([(⟨(dM (lJ d) (bg d.prog d.Yr)).1.Yr,(dM (lJ d) (bg d.prog d.Yr)).2⟩:Ft)]) ad ad) (⟨by exact ad,by exact ad,trivial⟩) ?_
       refine oR 3 rfl<|c_ 0 (aw ((dM (lJ d) (bg d.prog d.Yr)).1) (.X 17 m b) (.S 107 0 (d.O.length+1) false) (.X 2 n g) (.X 9 o j)) rfl rfl rfl<|rE 112<|lR 0 rfl<|c_ 0 (aw ({ (dM (lJ d) (bg d.prog d.Yr)).1 with Yr:=(dM (lJ d) (bg d.prog d.Yr)).2}:Co) (.X 17 m b) (.S 107 0 (d.O.length+1) false) (.X 2 n g) (.X 9 o j)) rfl rfl rfl ?_;have M:k+1<=3:=aD oT (aC 1);refine qR 0 rfl<|zW _ (ax (bH M rfl))<|.mk _ (.refl _) ⟨(k+1,zP d,true),λi=>match i with|14=>107|i=>i,au _ wT ⟨⟨rfl,(a1 (λz:Nat=>some (bj.box (aw (zP d) (.X 17 m b) (.S 107 0 z false) (.X 2 n g) (.X 9 o j)))) (show d.O.length+1=(zP d).O.length from by rw[tU];simp)),rfl⟩,⟨rfl,(a1 (λz:List Ft=>some (bj.arr (z.map a5) 2)) (tU d).symm),rfl⟩,trivial⟩ rfl,rfl,⟨oT,CW a ad,(BC ad r (sI y) (sI D)).trans w⟩,c7⟩
   ·have L:=aF G;have u:eN c=eL W c:=by show(if c.halt≠0 then c else eL c.U.u.toNat c)=_;rw[dZ (λq=>q p),E];rfl
    have e:eN c=d:=by rw[u, <-w];rw[(oT:W-k=0)];rfl
    rw[e];apply cm 0 rfl
    first|exact SY rfl (.step none (ec (l:=[(0,.A [])]) (hp:=[(0,.box (aw (d) (.X 17 m b) (.X 2 (d.O.map a5) false) (.X 2 n g) (.X 9 o j)))]) trivial ⟨.refl _,trivial⟩ ⟨⟨trivial,_,rfl,eh.ZR (qQ (.refl _) (.clip _ _) (.refl _) (.refl _))⟩,trivial⟩) (.refl _)) (r:=.A []) (σ:=λz=>z) a9 rfl (qT (λz=>z) rfl rfl wH rfl)|exact SY (rs:=[]) rfl (.step (some (14,2,d.O.map a5)) (ec (l:=[(0,.A [])]) (hp:=[(0,.box (aw (d) (.X 17 m b) (.X 2 (d.O.map a5) false) (.X 2 n g) (.X 9 o j)))]) rfl ⟨.refl _,trivial⟩ ⟨⟨rfl,_,rfl,eh.ZR (qQ (.refl _) (nB (by exact ad)) (.refl _) (.refl _))⟩,trivial⟩) (.refl _)) (σ:=λz=>z) a9 rfl (qT (λz=>z) rfl rfl wH rfl)
end Go.Proofs.YtmbhlpgmfafmbaaGreatDoor
