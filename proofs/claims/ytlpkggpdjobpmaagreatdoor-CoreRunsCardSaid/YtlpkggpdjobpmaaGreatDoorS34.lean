/- Lemmas. -/
import Derived.Test.YtlpkggpdjobpmaaGreatDoorS1
import Derived.Test.YtlpkggpdjobpmaaGreatDoorS30
import Derived.Test.YtlpkggpdjobpmaaGreatDoorS31
import Derived.Test.YtlpkggpdjobpmaaGreatDoorS33
set_option linter.all false
namespace Go.Proofs.YtlpkggpdjobpmaaGreatDoor
open Go.Proofs.Tryz
set_option maxRecDepth 100000
set_option maxHeartbeats 4000000
open Go.RowKit
structure Co.okM(c:Co)(n:Nat):Prop where
 ok:c.ok n
 nb:n<=890000
 cf:wA c.agL=true
 data:gG c.data=true
 agO:gG c.agO=true
 agK:sM c.agK=true
 agI:c.agI.length<=1000
 fet:c.agH.length<=1000
 sto:c.agF.length<=1000
 prog:c.prog.length<=1000
 mem:c.mem.size<=256
 std:∀x∈c.agF,x.data.size<=4
theorem Co.okM.agS{c:Co}{n}(h:c.okM n):c.agS.length<=890000:=aL h.ok.agS h.nb
theorem Co.okM.ret{c:Co}{n}(h:c.okM n):c.agG.length<=890000:=aL h.ok.ret h.nb
def pD{c}(h:wA c=true):c.agW.length<=64∧c.tape.length<=64∧1<=c.agN∧c.agN<=2∧c.agI<=8∧2<=c.agI∧c.queue<=4∧1<=c.queue∧c.agF<=4∧1<=c.agF∧c.agP<=6∧2<=c.agP∧0<=c.mode∧c.mode<=2:=by
 unfold wA inI at h;simp only[aP,aY]at h;omega
theorem Co.okM.agL{c:Co}{n}(h:c.okM n):c.agL.ok:=⟨oH ((pD h.cf).1),oH ((pD h.cf).2.1),h.ok.agL.tp⟩
theorem Co.okM.d4{c:Co}{n}(h:c.okM n):c.data.agJ.length<=4:=(kJ h.data).2.1
theorem Co.okM.d2{c:Co}{n}(h:c.okM n):∀s∈c.data.agJ,s.length<=2:=λs hs=>by have:=kJ h.data;have:=this.2.2.2.2 s hs;omega
def MU(agF)(c)(q)(m):(ZS agF c q m).size=m.size:=by unfold ZS Ct jZ;rw[iY,iY,iY]
def Ua(c)(n)(hm:c.okM n)(R F S T)(first):bI C0 80 [.dp 64 0 (mcX c R F S T),vB first] (vB (tA c first)):=by
 refine dIZ func80 rfl<|zC (XR c.agS false (oH hm.agS) (λx hx=>(hm.ok.buso x hx).agY))<|zB rfl (λh1=>?_) (λh1=>?_)
 ·refine zV (vB (decide (((yH c.agS:Nat):Int)<c.agL.agP))) ?_;exact fT rfl (dR (by unfold tA;rw[af1 h1]))
 refine rW _ rfl (okI (wrap_i64 (oH (pD hm.cf)) (oH (pD hm.cf))))<|zV (vB (decide (((yH c.agS:Nat):Int)<(c.agL.agP-1)))) ?_;exact fT rfl (dR (by unfold tA;rw[dZ (by rw[h1];decide)]))
def QI{m agZ n:Nat}(h:kZ (m:Int) agZ (n:Int)=true):agZ+n<=m:=by
 unfold kZ at h;simp only[aP,aY]at h;omega
def Zr(m)(agZ n)(hm:m.size<=1000)(ha:agZ<=4294967295)(hn:n<=4):bI C0 106 [.v (.string m),vU agZ,vN n] (.tup [.v (.string (if kZ (m.size:Int) agZ (n:Int)=true then Cv m agZ n else oZ)),vI (if kZ (m.size:Int) agZ (n:Int)=true then 0 else 1)]):=by
 refine dIZ func106 rfl<|zV (vN m.size)<|zC (GY (m.size:Int) agZ (n:Int) omT (CI ha))<|zB rfl (λh1=>?_) (λh1=>?_)
 ·have hR: ¬kZ (m.size:Int) agZ (n:Int)=true:=sU h1;exact fT rfl (by rw[dZ hR,dZ hR];rfl)
 have hle:=QI (sU h1:kZ (m.size:Int) agZ (n:Int)=true);refine zW _ (okI (bH ha rfl)) ?_;have b1:agZ+n<=4294967299:=aD ha hn;refine rW _ rfl (okI (bH b1 rfl))<|zM (.v (.string (m.extract agZ (agZ+n)))) rfl (by refine⟨?_,?_,?_⟩<;>(first|exact aG _|decide|(apply FG.2;exact omT))) ?_;have hR:kZ (m.size:Int) agZ (n:Int)=true:=sU h1;exact fT rfl (by rw[af1 hR,af1 hR];rfl)
def MV(c)(n)(hm:c.okM n)(R F T)(ck)(e)(he:e.ok):bI C0 58 [.dp 64 0 (mcX c R F (.sl 2 (c.agF.map ptL) ck) T),.agg (enL e)] (.v (.string (oL c e))):=by
 refine dIZ func58 rfl<|zR<|zC (acF c.agF c.data c.agS c.mem false ck hm.ok.data hm.d4 hm.d2 (oH hm.mem) (oH hm.agS) hm.ok.buso (oH hm.sto) hm.ok.stoo)<|zC (Gd e.i)<|zC (Zr (ZS c.agF c.data c.agS c.mem) e.agZ (sizeOf' e.i.op) (by rw[MU];have:=hm.mem;omega) he.agZ (lQ e.i.op)) ?_;exact fT rfl rfl
def Xb(c)(n)(hm:c.okM n)(F S T)(ck)(agY)(hline:agY<=4294967295):bI C0 160 [.dp 64 0 (mcX c (.sl 17 (c.agI.map enL) ck) F S T),vU agY] (vB (Kt c agY)):=by
 refine dJZ func160 rfl<|zC (As c.data agY hm.ok.data hline)<|zB rfl (λh1=>?_) (λh1=>?_)
 ·exact fT rfl (dR (by unfold Kt;rw[h1];rfl))
 refine zW _ (cD enL c.agI)<|zLo (λk=>⟨slotsF [(1,vU agY),(21,vB ((bK c.data agY).2.isSome)),(26,.sl 17 (c.agI.map enL) ck),(27,vN c.agI.length),(28,vN k)],heapF [],23⟩) (λk=>k<=c.agI.length∧(c.agI.take k).any (λe:Ent=>e.agU&&decide (lineOf e.agZ=agY))=false) (λk=>c.agI.length-k) 0 (λs=>s) (wOL (λs=>s) wT trivial rfl) (⟨aE _,rfl⟩) ?_;intro k hk;have hkn:k<=c.agI.length:=hk.1;have hkB:k<=1000:=oH hm.agI;refine zWB (okB (ltN _ _)) (λh2=>?_) (λh2=>?_)
 ·have h2p:=af0 h2;obtain⟨x,hx⟩:∃y_,c.agI[k]?=some y_:=⟨_,aA omT⟩;have hxo:=hm.ok.agX x (aB hx);refine zX (enL x) (.dp 17 0 (enL x)) rfl (iH hx)<|gS rfl id<|zQ rfl (λh=>h) rfl (.inl rfl) (λhg=>tN x.agZ hxo.agZ)<|gBS rfl hsT (okB (eqN _ _))<|zN rfl (λh=>h)<|zB rfl (λh3=>?_) (λh3=>?_)
  ·have z:=h3;exact fT rfl (dR (by unfold Kt;rw[Jf hx (by simpa [qA]using z)];simp))
  skip
  have b1:k+1<=1001:=aD hkB (aC 1);refine zW _ (okI (bH b1 rfl)) ?_;refine⟨k+1,λs=>s,wOL _ wT trivial rfl,⟨oT,Je hx (by have z:=h3;simpa [qA]using z) hk.2⟩,by show c.agI.length-(k+1)<c.agI.length-k;omega⟩
 have h2p:=aF h2;exact fT rfl (dR (by unfold Kt;rw[h1,Mj omT hk.2];rfl))
def Zs(c)(n)(hm:c.okM n)(F S T)(ck)(i)(hi:i<c.agI.length):bI C0 73 [.dp 64 0 (mcX c (.sl 17 (c.agI.map enL) ck) F S T),vN i] (vB (DN c i)):=by
 refine dJZ func73 rfl ?_;obtain⟨x,hx⟩:∃y_,c.agI[i]?=some y_:=⟨_,aA omT⟩;have hxo:=hm.ok.agX x (aB hx);refine zX (enL x) (.dp 17 0 (enL x)) rfl (iH hx)<|zVB (x.is != 0) (λh1=>?_) (λh1=>?_)
 ·have h1p:=wM h1;exact fT rfl (dR (by unfold DN;rw[hx];dsimp only;rw[af1 h1p]))
 have h1p:=wN h1;refine zR<|zC (aeC c.agL.mode c.agI ck i hm.agI hm.ok.agX (oH hm.agI))<|zC (Fs x.i)<|zR<|zC (Kl c.agI c.r ck i (x.i.ag0) hm.agI hm.ok.agX hm.ok.r (oH hm.agI))<|zC (pS x.i)<|zWB (okB (eqN _ _)) (λh2=>?_) (λh2=>?_)
 ·have h2p:=mT h2;refine zG rfl id<|pB rfl rfl rfl rfl (λh=>h) rfl rfl (λhg hc=>by first|(rw[hg,hc];rfl)|simp_all)<|zN rfl (by simp) ?_;exact fT rfl (dR (by unfold DN;rw[hx];dsimp only;rw[dZ omT,af1 h2p];simp only[qA,cOr,lG]))
 have h2p:=nA h2;refine zWB (okB (eqN _ _)) (λh3=>?_) (λh3=>?_)
 ·have h3p:=mT h3;refine zN rfl (λh=>h)<|zN rfl (λh=>h) ?_;exact fT rfl (dR (by unfold DN;rw[hx];dsimp only;rw[dZ omT,dZ h2p,af1 h3p];simp only[qA,cOr,lG]))
 have h3p:=nA h3;refine zR<|zC (VK c.agI c.r ck i hm.agI hm.ok.agX hm.ok.r (oH hm.agI))<|zN rfl (λh=>h) ?_;exact fT rfl (dR (by unfold DN;rw[hx];dsimp only;rw[dZ omT,dZ h2p,dZ h3p];simp only[qA,cOr,lG]))
theorem pM.frameB{P}{G}{f}{args}{b0 b1}{L}{s}{r}(H:pM P G f args (heapF ((0,b0)::L)) s (λx h'=>x=r∧h'=heapF ((0,b1)::L)))(ρ)(K)(s2)(hfull:fullB (heapF ((0,b0)::L)) s=true)(hL:FrL ρ K s s2 ((0,b0)::L))(hi:UQ ρ s=true)(ha:mS s args=true)(hr:eP r=true)(hb:qM s b1=true):
  pM P G f (Bg ρ args) K s2 (λx h'=>x=r∧h'=upd K (ρ 0) (some (DI ρ b1))):=by
 have hs:0<s:=aJ hL.1.2.1;refine H.frameL ρ K s2 hfull hL hi ha _ λr' h' hP=>?_;obtain⟨rfl,rfl⟩:=hP;refine⟨_,⟨afK _ _ hr,rfl⟩,λy blk hy=>?_⟩;by_cases he:y=ρ 0
 ·subst he;rw[dB]at hy;injection hy with hy;exact .inl ⟨0,b1,rfl,(rL ρ omT).symm,by rw[<-hy,yL ρ s s2 b1 hb]⟩
 rw[cI _ _ he]at hy;by_cases hx:∃x,x<s∧ρ x=y
 ·obtain⟨x,hxs,rfl⟩:=hx;have hx0:x≠0:=λe=>he (by rw[e]);obtain⟨blk0,hb0⟩:=DQ.1 (uH hfull x hxs);have hk:=hL.get x blk0 hb0;rw[hk.2.2.2]at hy;injection hy with hy;refine .inl ⟨x,blk0,?_,(rL ρ omT).symm,?_⟩
  ·have:Nat.beq 0 x=false:=by rw[<-eJ];exact λe=>hx0 (aO e).symm
   simp only[heapF,this]at hb0⊢;exact hb0
  rw[<-hy];exact(yL ρ s s2 blk0 hk.2.2.1).symm
 exact .inr ⟨hy,λx hxs e=>hx ⟨x,hxs,e⟩⟩
theorem pM.fB{P}{G}{f}{args}{b0 b1}{L}{s}{r}(H:pM P G f args (heapF ((0,b0)::L)) s (λx h'=>x=r∧h'=heapF ((0,b1)::L)))(ρ){K}{s2}(hfull:fullB (heapF ((0,b0)::L)) s=true:=by rfl)(hL:FrL ρ K s s2 ((0,b0)::L):=by repeat (first|exact trivial|refine⟨⟨rfl,rfl,rfl,rfl⟩,?_⟩))(hi:UQ ρ s=true:=by rfl)(ha:mS s args=true:=by rfl)(hr:eP r=true:=by rfl)(hb:qM s b1=true:=by rfl):
  pM P G f (Bg ρ args) K s2 (λx h'=>x=r∧h'=upd K (ρ 0) (some (DI ρ b1))):=H.frameB ρ K s2 hfull hL hi ha hr hb
def zA{c}{agY}(h:(iQ c.data c.agS c.mem agY (lX c.agL c.asked)).2.2=true):oK c agY={c with data:=(iQ c.data c.agS c.mem agY (lX c.agL c.asked)).1,agS:=(iQ c.data c.agS c.mem agY (lX c.agL c.asked)).2.1,asked:=wrap64 (c.asked+1)}:=by unfold oK;generalize iQ c.data c.agS c.mem agY _=t at h⊢;obtain⟨d,q,a⟩:=t;dsimp only at h;subst h;rfl
def AN{c}{agY}(h:(iQ c.data c.agS c.mem agY (lX c.agL c.asked)).2.2=false):oK c agY={c with data:=(iQ c.data c.agS c.mem agY (lX c.agL c.asked)).1,agS:=(iQ c.data c.agS c.mem agY (lX c.agL c.asked)).2.1}:=by unfold oK;generalize iQ c.data c.agS c.mem agY _=t at h⊢;obtain⟨d,q,a⟩:=t;dsimp only at h;subst h;rfl
def Zt(c)(n)(hm:c.okM n)(kind)(agY)(data)(hline:agY<=4294967295)(kR)(xR)(kF)(xF)(kS)(xS)(kT)(xT):pM C0.P C0.G 81 [.ptr 0 0,vI kind,vU agY,.v (.string data)] (heapF [(0,.box (mcX c (.sl 17 xR kR) (.sl 2 xF kF) (.sl 2 xS kS) (.sl 9 xT kT)))]) 1 (λx h'=>x=.tup []∧h'=heapF [(0,.box (mcX (jE c kind agY data) (.sl 17 xR kR) (.sl 2 xF kF) (.sl 2 xS kS) (.sl 9 xT kT)))]):=by
 refine hZ 1 func81 rfl ?_;refine cRg<|oR 18 rfl<|rCi rfl (Fa c.agL c.asked hm.agL hm.ok.asked)<|oR 1 rfl<|rCi rfl (Ng c.agS kind agY (lX c.agL c.asked) data false (oH hm.agS) hm.ok.buso hline)<|oR 3 rfl<|rSt rfl<|rE 26<|qX 0 rfl<|rW _ rfl (okI (w64 _))<|qRN 0 rfl<|rSt rfl ?_;exact qRF 0 rfl<|fHu
def ab9(c)(n)(hm:c.okM n)(kind)(agY)(data)(hline:agY<=4294967295)(lR nR)(kR)(rR)(kF)(xF)(kS)(xS)(kT)(xT):pM C0.P C0.G 81 [.ptr 0 0,vI kind,vU agY,.v (.string data)] (heapF [(0,.box (mcX c (.osl 1 lR nR kR) (.sl 2 xF kF) (.sl 2 xS kS) (.sl 9 xT kT))),(1,.arr rR 17)]) 2 (λx h'=>x=.tup []∧h'=heapF [(0,.box (mcX (jE c kind agY data) (.osl 1 lR nR kR) (.sl 2 xF kF) (.sl 2 xS kS) (.sl 9 xT kT))),(1,.arr rR 17)]):=by
 refine hZ 2 func81 rfl ?_;refine cRg<|oR 18 rfl<|rCi rfl (Fa c.agL c.asked hm.agL hm.ok.asked)<|oR 1 rfl<|rCi rfl (Ng c.agS kind agY (lX c.agL c.asked) data false (oH hm.agS) hm.ok.buso hline)<|oR 3 rfl<|rSt rfl<|rE 27<|qX 0 rfl<|rW _ rfl (okI (w64 _))<|qRN 0 rfl<|rSt rfl ?_;exact qRF 0 rfl<|fHu
def acA(c)(n)(hm:c.okM n)(kind)(agY)(data)(hline:agY<=4294967295)(kR)(xR)(lF nF)(kF)(rF)(kS)(xS)(kT)(xT):pM C0.P C0.G 81 [.ptr 0 0,vI kind,vU agY,.v (.string data)] (heapF [(0,.box (mcX c (.sl 17 xR kR) (.osl 1 lF nF kF) (.sl 2 xS kS) (.sl 9 xT kT))),(1,.arr rF 2)]) 2 (λx h'=>x=.tup []∧h'=heapF [(0,.box (mcX (jE c kind agY data) (.sl 17 xR kR) (.osl 1 lF nF kF) (.sl 2 xS kS) (.sl 9 xT kT))),(1,.arr rF 2)]):=by
 refine hZ 2 func81 rfl ?_;refine cRg<|oR 18 rfl<|rCi rfl (Fa c.agL c.asked hm.agL hm.ok.asked)<|oR 1 rfl<|rCi rfl (Ng c.agS kind agY (lX c.agL c.asked) data false (oH hm.agS) hm.ok.buso hline)<|oR 3 rfl<|rSt rfl<|rE 27<|qX 0 rfl<|rW _ rfl (okI (w64 _))<|qRN 0 rfl<|rSt rfl ?_;exact qRF 0 rfl<|fHu
def aeB(c)(n)(hm:c.okM n)(agY)(hline:agY<=4294967295)(kR)(xR)(kF)(xF)(kS)(xS)(kT)(xT):pM C0.P C0.G 60 [.ptr 0 0,vU agY] (heapF [(0,.box (mcX c (.sl 17 xR kR) (.sl 2 xF kF) (.sl 2 xS kS) (.sl 9 xT kT)))]) 1 (λx h'=>x=.tup []∧h'=heapF [(0,.box (mcX (oK c agY) (.sl 17 xR kR) (.sl 2 xF kF) (.sl 2 xS kS) (.sl 9 xT kT)))]):=by
 refine hZ 1 func60 rfl<|cRg<|oR 28 rfl<|rCi rfl (Fa c.agL c.asked hm.agL hm.ok.asked)<|rCi rfl (Nb c.data c.agS c.mem agY (lX c.agL c.asked) hm.ok.data (oH hm.agS) hm.ok.buso (oH hm.mem) hline)<|oR 7 rfl<|rSt rfl<|oR 3 rfl<|rSt rfl<|oR 1 rfl<|rE 45<|qXC 0 rfl<|aV rfl (λh1=>?_) (λh1=>?_)
 ·refine qC 0 rfl<|rW _ rfl (okI (w64 _))<|qRN 0 rfl<|rSt rfl ?_;rw[zA h1];exact qRF 0 rfl<|fHu
 skip
 rw[AN h1];exact qCF 0 rfl<|fHu
def acB(c)(n)(hm:c.okM n)(agY)(hline:agY<=4294967295)(lR nR)(kR)(rR)(kF)(xF)(kS)(xS)(kT)(xT):pM C0.P C0.G 60 [.ptr 0 0,vU agY] (heapF [(0,.box (mcX c (.osl 1 lR nR kR) (.sl 2 xF kF) (.sl 2 xS kS) (.sl 9 xT kT))),(1,.arr rR 17)]) 2 (λx h'=>x=.tup []∧h'=heapF [(0,.box (mcX (oK c agY) (.osl 1 lR nR kR) (.sl 2 xF kF) (.sl 2 xS kS) (.sl 9 xT kT))),(1,.arr rR 17)]):=by
 refine hZ 2 func60 rfl<|cRg<|oR 28 rfl<|rCi rfl (Fa c.agL c.asked hm.agL hm.ok.asked)<|rCi rfl (Nb c.data c.agS c.mem agY (lX c.agL c.asked) hm.ok.data (oH hm.agS) hm.ok.buso (oH hm.mem) hline)<|oR 7 rfl<|rSt rfl<|oR 3 rfl<|rSt rfl<|oR 1 rfl<|rE 46<|qXC 0 rfl<|aV rfl (λh1=>?_) (λh1=>?_)
 ·refine qC 0 rfl<|rW _ rfl (okI (w64 _))<|qRN 0 rfl<|rSt rfl ?_;rw[zA h1];exact qRF 0 rfl<|fHu
 skip
 rw[AN h1];exact qCF 0 rfl<|fHu
def Zu(c)(n)(hm:c.okM n)(agY)(hline:agY<=4294967295)(lR nR)(kR)(rR)(kF)(xF)(kS)(xS)(lT nT)(kT)(rT):pM C0.P C0.G 60 [.ptr 0 0,vU agY] (heapF [(0,.box (mcX c (.osl 1 lR nR kR) (.sl 2 xF kF) (.sl 2 xS kS) (.osl 2 lT nT kT))),(1,.arr rR 17),(2,.arr rT 9)]) 3 (λx h'=>x=.tup []∧h'=heapF [(0,.box (mcX (oK c agY) (.osl 1 lR nR kR) (.sl 2 xF kF) (.sl 2 xS kS) (.osl 2 lT nT kT))),(1,.arr rR 17),(2,.arr rT 9)]):=by
 refine hZ 3 func60 rfl<|cRg<|oR 28 rfl<|rCi rfl (Fa c.agL c.asked hm.agL hm.ok.asked)<|rCi rfl (Nb c.data c.agS c.mem agY (lX c.agL c.asked) hm.ok.data (oH hm.agS) hm.ok.buso (oH hm.mem) hline)<|oR 7 rfl<|rSt rfl<|oR 3 rfl<|rSt rfl<|oR 1 rfl<|rE 47<|qXC 0 rfl<|aV rfl (λh1=>?_) (λh1=>?_)
 ·refine qC 0 rfl<|rW _ rfl (okI (w64 _))<|qRN 0 rfl<|rSt rfl ?_;rw[zA h1];exact qRF 0 rfl<|fHu
 skip
 rw[AN h1];exact qCF 0 rfl<|fHu
def Xc(c)(n)(hm:c.okM n)(agY)(hline:agY<=4294967295)(lR nR)(kR)(rR)(kF)(xF)(lS nS)(kS)(rS)(lT nT)(kT)(rT):pM C0.P C0.G 60 [.ptr 0 0,vU agY] (heapF [(0,.box (mcX c (.osl 1 lR nR kR) (.sl 2 xF kF) (.osl 2 lS nS kS) (.osl 3 lT nT kT))),(1,.arr rR 17),(2,.arr rS 2),(3,.arr rT 9)]) 4 (λx h'=>x=.tup []∧h'=heapF [(0,.box (mcX (oK c agY) (.osl 1 lR nR kR) (.sl 2 xF kF) (.osl 2 lS nS kS) (.osl 3 lT nT kT))),(1,.arr rR 17),(2,.arr rS 2),(3,.arr rT 9)]):=by
 refine hZ 4 func60 rfl<|cRg<|oR 28 rfl<|rCi rfl (Fa c.agL c.asked hm.agL hm.ok.asked)<|rCi rfl (Nb c.data c.agS c.mem agY (lX c.agL c.asked) hm.ok.data (oH hm.agS) hm.ok.buso (oH hm.mem) hline)<|oR 7 rfl<|rSt rfl<|oR 3 rfl<|rSt rfl<|oR 1 rfl<|rE 48<|qXC 0 rfl<|aV rfl (λh1=>?_) (λh1=>?_)
 ·refine qC 0 rfl<|rW _ rfl (okI (w64 _))<|qRN 0 rfl<|rSt rfl ?_;rw[zA h1];exact qRF 0 rfl<|fHu
 skip
 rw[AN h1];exact qCF 0 rfl<|fHu
def adQ(e)(he:e.ok):bI C0 62 [.agg (enL e)] (.agg (enL (goE e))):=by
 refine dIZ func62 rfl<|zVB (e.is != 1) (λh1=>?_) (λh1=>?_)
 ·replace h1:=sP h1;refine dK rfl rcT rfl (oW ?_);simp[w64,goE,h1]<;>(intros;simp_all)
 refine zV (vI (IntKind.wrap .i64 (e.left-1)))<|zVB (decide ((IntKind.wrap .i64 (e.left-1))<=0)) (λh2=>?_) (λh2=>?_)
 ·refine rCi rfl (pS e.i)<|zW _ (okB (eqN _ _))<|gS rfl id<|gBS rfl id rfl<|zN rfl (λh=>h)<|zB rfl (λh3=>?_) (λh3=>?_)
  all_goals
   replace h1:=sP h1;replace h2:=sP h2;replace h3:=sP h3
   first|refine dK rfl rcT rfl (oW (e:=(⟨e.no,e.pc,⟨e.i.op,e.i.rd,e.i.ag0,e.i.ag1,e.i.agR⟩,e.agK,3,0,e.value,e.next,e.agZ,e.halt,e.agV,true,e.agU⟩:Ent)) ?_)|refine dK rfl rcT rfl (oW (e:=(⟨e.no,e.pc,⟨e.i.op,e.i.rd,e.i.ag0,e.i.ag1,e.i.agR⟩,e.agK,3,0,e.value,e.next,e.agZ,e.halt,e.agV,e.known,e.agU⟩:Ent)) ?_)
   simp[w64,goE,h1,h2,h3]<;>(intros;simp_all)
 replace h1:=sP h1;replace h2:=sP h2;refine dK rfl rcT rfl (oW (e:=(⟨e.no,e.pc,⟨e.i.op,e.i.rd,e.i.ag0,e.i.ag1,e.i.agR⟩,e.agK,e.is,IntKind.wrap .i64 (e.left-1),e.value,e.next,e.agZ,e.halt,e.agV,e.known,e.agU⟩:Ent)) ?_);simp[w64,goE,h1,h2]<;>(intros;simp_all)
def XS(e)(a b)(he:e.ok)(ha:a<=4294967295)(hb:b<=4294967295):bI C0 124 [.agg (enL e),vU a,vU b] (.agg (enL (rJ e a b))):=by
 refine dIZ func124 rfl<|zC (pS e.i)<|zV (vB (e.is != 0))<|gBS rfl id (okB (eqN _ _))<|zN rfl (by simp)<|gBS rfl id (okB (eqN _ _))<|zN rfl (by simp)<|zB rfl (λh1=>?_) (λh1=>?_)
 ·replace h1:=sP h1;refine dK rfl rcT rfl (oW ?_);simp[w64,rJ,uE,up4,h1]<;>(intros;simp_all)
 refine rCi rfl (Da e.i)<|zVB ((wr e.i) != 0) (λh2=>?_) (λh2=>?_)
 all_goals
  first|refine zC (Nu e.i e.pc a b (CI he.agR) (CI he.pc) (CI ha) (CI hb)) ?_|skip
  refine zV (vU ((e.pc+4)%4294967296))<|zWB (okB (eqN _ _)) (λh3=>?_) (λh3=>?_)
  ·replace h1:=sP h1;replace h2:=sP h2;replace h3:=sP h3
   first|refine dK rfl rcT rfl (oW (e:=(⟨e.no,e.pc,⟨e.i.op,e.i.rd,e.i.ag0,e.i.ag1,e.i.agR⟩,e.agK,1,3,BF e.i.op e.i.agR e.pc a b,(e.pc+4)%4294967296,e.agZ,e.halt,e.agV,e.known,e.agU⟩:Ent)) ?_)|refine dK rfl rcT rfl (oW (e:=(⟨e.no,e.pc,⟨e.i.op,e.i.rd,e.i.ag0,e.i.ag1,e.i.agR⟩,e.agK,1,3,0,(e.pc+4)%4294967296,e.agZ,e.halt,e.agV,e.known,e.agU⟩:Ent)) ?_)
   simp[w64,rJ,uE,up4,h1,h2,h3]<;>(intros;simp_all)
  refine zWB (okB (eqN _ _)) (λh4=>?_) (λh4=>?_)
  ·refine zC (Xz e.i.op a b (CI ha) (CI hb)) ?_;replace h1:=sP h1;replace h2:=sP h2;replace h3:=sP h3;replace h4:=sP h4
   first|refine dK rfl rcT rfl (oW (e:=(⟨e.no,e.pc,⟨e.i.op,e.i.rd,e.i.ag0,e.i.ag1,e.i.agR⟩,e.agK,1,(tookP e.i.op a b:Int),BF e.i.op e.i.agR e.pc a b,(e.pc+4)%4294967296,e.agZ,e.halt,(tookP e.i.op a b:Int),e.known,e.agU⟩:Ent)) ?_)|refine dK rfl rcT rfl (oW (e:=(⟨e.no,e.pc,⟨e.i.op,e.i.rd,e.i.ag0,e.i.ag1,e.i.agR⟩,e.agK,1,(tookP e.i.op a b:Int),0,(e.pc+4)%4294967296,e.agZ,e.halt,(tookP e.i.op a b:Int),e.known,e.agU⟩:Ent)) ?_)
   simp[w64,rJ,uE,up4,h1,h2,h3,h4]<;>(intros;simp_all)
  refine zWB (okB (eqN _ _)) (λh5=>?_) (λh5=>?_)
  ·refine zC (LW e.i e.pc a b (CI he.agR) (CI he.pc) (CI ha) (CI hb))<|zB rfl (λh6=>?_) (λh6=>?_)
   all_goals
    replace h1:=sP h1;replace h2:=sP h2;replace h3:=sP h3;replace h4:=sP h4;replace h5:=sP h5;replace h6:=sP h6
    first|refine dK rfl rcT rfl (oW (e:=(⟨e.no,e.pc,⟨e.i.op,e.i.rd,e.i.ag0,e.i.ag1,e.i.agR⟩,e.agK,1,1,BF e.i.op e.i.agR e.pc a b,qP e.i.op e.i.agR e.pc a b,e.agZ,e.halt,e.agV,e.known,e.agU⟩:Ent)) ?_)|refine dK rfl rcT rfl (oW (e:=(⟨e.no,e.pc,⟨e.i.op,e.i.rd,e.i.ag0,e.i.ag1,e.i.agR⟩,e.agK,1,1,0,qP e.i.op e.i.agR e.pc a b,e.agZ,e.halt,e.agV,e.known,e.agU⟩:Ent)) ?_)|refine dK rfl rcT rfl (oW (e:=(⟨e.no,e.pc,⟨e.i.op,e.i.rd,e.i.ag0,e.i.ag1,e.i.agR⟩,e.agK,1,1,0,(e.pc+4)%4294967296,e.agZ,3,e.agV,e.known,e.agU⟩:Ent)) ?_)
    simp[w64,rJ,uE,up4,h1,h2,h3,h4,h5,h6]<;>(intros;simp_all)
  replace h1:=sP h1;replace h2:=sP h2;replace h3:=sP h3;replace h4:=sP h4;replace h5:=sP h5
  first|refine dK rfl rcT rfl (oW (e:=(⟨e.no,e.pc,⟨e.i.op,e.i.rd,e.i.ag0,e.i.ag1,e.i.agR⟩,e.agK,1,1,BF e.i.op e.i.agR e.pc a b,(e.pc+4)%4294967296,e.agZ,e.halt,e.agV,e.known,e.agU⟩:Ent)) ?_)|refine dK rfl rcT rfl (oW (e:=(⟨e.no,e.pc,⟨e.i.op,e.i.rd,e.i.ag0,e.i.ag1,e.i.agR⟩,e.agK,1,1,0,(e.pc+4)%4294967296,e.agZ,e.halt,e.agV,e.known,e.agU⟩:Ent)) ?_)
  simp[w64,rJ,uE,up4,h1,h2,h3,h4,h5]<;>(intros;simp_all)
def VV(e)(size)(a)(he:e.ok)(hs:size<9223372036854775808)(ha:a<=4294967295):bI C0 122 [.agg (enL e),vI size,vU a] (.agg (enL (yC e size a))):=by
 refine dIZ func122 rfl<|zC (pS e.i)<|zW _ (okB (neN _ _))<|gBS rfl id (okB (neN _ _))<|zN rfl (λh=>h)<|gS rfl id<|gBS rfl id rfl<|zN rfl (by simp)<|gS rfl id<|zN rfl (by simp)<|zB rfl (λh1=>?_) (λh1=>?_)
 ·replace h1:=sP h1;refine dK rfl rcT rfl (oW ?_);simp[w64,yC,h1]<;>(intros;simp_all)
 skip;refine zV (vU ((a+e.i.agR)%4294967296))<|zR<|zC (Gd e.i)<|zC (GY size ((a+e.i.agR)%4294967296) (sizeOf' e.i.op:Nat) hs (aQ _ dT))<|zB rfl (λh2=>?_) (λh2=>?_)
 ·replace h1:=sP h1;replace h2:=sP h2;refine dK rfl rcT rfl (oW (e:=(⟨e.no,e.pc,⟨e.i.op,e.i.rd,e.i.ag0,e.i.ag1,e.i.agR⟩,e.agK,e.is,e.left,e.value,e.next,(a+e.i.agR)%4294967296,e.halt,e.agV,true,e.agU⟩:Ent)) ?_);simp[w64,yC,h1,h2]<;>(intros;simp_all)
 refine zWB (okB (eqN _ _)) (λh3=>?_) (λh3=>?_)
 all_goals
  replace h1:=sP h1;replace h2:=sP h2;replace h3:=sP h3
  first|refine dK rfl rcT rfl (oW (e:=(⟨e.no,e.pc,⟨e.i.op,e.i.rd,e.i.ag0,e.i.ag1,e.i.agR⟩,e.agK,3,e.left,e.value,e.next,(a+e.i.agR)%4294967296,5,e.agV,e.known,e.agU⟩:Ent)) ?_)|refine dK rfl rcT rfl (oW (e:=(⟨e.no,e.pc,⟨e.i.op,e.i.rd,e.i.ag0,e.i.ag1,e.i.agR⟩,e.agK,3,e.left,e.value,e.next,(a+e.i.agR)%4294967296,4,e.agV,e.known,e.agU⟩:Ent)) ?_)
  simp[w64,yC,h1,h2,h3]<;>(intros;simp_all)
def RR(e)(s)(he:e.ok)(hs:s.size<9223372036854775808):bI C0 57 [.agg (enL e),.v (.string s)] (.agg (enL (uM e s))):=by
 refine dIZ func57 rfl<|rCi rfl (pS e.i)<|zW _ (okB (neN _ _))<|gS rfl id<|gS rfl id<|zN rfl (by simp)<|gS rfl id<|gBS rfl id rfl<|zG rfl id<|gS rfl id<|gBS rfl id rfl<|pB rfl rfl rfl rfl (λh=>h) rfl rfl (λhg hc=>by first|(rw[hg,hc];rfl)|simp_all)<|zN rfl (by simp)<|zB rfl (λh1=>?_) (λh1=>?_)
 ·replace h1:=sP h1;refine dK rfl rcT rfl (oW ?_);simp[w64,uM,h1]<;>(intros;simp_all)
 skip
 refine rCi rfl (Da e.i)<|zVB _ (λh2=>?_) (λh2=>?_)
 ·refine zC (ZW e.i.op s hs) ?_;replace h1:=sP h1;replace h2:=sP h2;refine dK rfl rcT rfl (oW (e:=(⟨e.no,e.pc,⟨e.i.op,e.i.rd,e.i.ag0,e.i.ag1,e.i.agR⟩,e.agK,1,1,loadP e.i.op s,e.next,e.agZ,e.halt,e.agV,e.known,e.agU⟩:Ent)) ?_);simp[w64,uM,h1,h2]<;>(intros;simp_all)
 replace h1:=sP h1;replace h2:=sP h2;refine dK rfl rcT rfl (oW (e:=(⟨e.no,e.pc,⟨e.i.op,e.i.rd,e.i.ag0,e.i.ag1,e.i.agR⟩,e.agK,1,1,0,e.next,e.agZ,e.halt,e.agV,e.known,e.agU⟩:Ent)) ?_);simp[w64,uM,h1,h2]<;>(intros;simp_all)
def XT(x n:Nat)(hx:x<4294967296)(hn:n<=4):bI C0 114 [.v (.int .u32 (x:Int)),.v (.int .i64 (n:Int))] (.v (.int .u32 ((valB x n:Nat):Int))):=by
 refine dIZ func114 rfl<|zC (Nv x n hx hn)<|zC (ZV (oF x n) (by rw[mP];exact hn)) ?_;exact fT rfl rfl
def RS(e)(b)(he:e.ok)(hb:b<=4294967295):bI C0 66 [.agg (enL e),vU b] (.agg (enL (uF e b))):=by
 refine dIZ func66 rfl<|rCi rfl (pS e.i)<|zW _ (okB (neN _ _))<|gS rfl id<|gS rfl id<|zN rfl (by simp)<|gS rfl id<|gBS rfl id rfl<|zN rfl (by simp)<|zB rfl (λh1=>?_) (λh1=>?_)
 ·replace h1:=sP h1;refine dK rfl rcT rfl (oW ?_);simp[w64,uF,h1]<;>(intros;simp_all)
 refine rCi rfl (Gd e.i)<|zC (XT b (sizeOf' e.i.op) (CI hb) (lQ e.i.op)) ?_;replace h1:=sP h1;refine dK rfl rcT rfl (oW (e:=(⟨e.no,e.pc,⟨e.i.op,e.i.rd,e.i.ag0,e.i.ag1,e.i.agR⟩,e.agK,3,e.left,valB b (sizeOf' e.i.op),e.next,e.agZ,e.halt,e.agV,e.known,e.agU⟩:Ent)) ?_);simp[w64,uF,h1]<;>(intros;simp_all)
def RT(e)(he:e.ok):bI C0 69 [.agg (enL e)] (.agg (spL (cA e))):=by
 refine dIZ func69 rfl<|zVB (e.halt != 0) (λh1=>?_) (λh1=>?_)
 ·refine zV (.agg [vU e.pc,vU e.pc,vI 0,.v (.int .u32 0),.v (.int .u32 0),vI 0,vB false,vI e.halt,vI 0])<|zV (vB (e.halt==4))<|gS rfl id<|gBS rfl id rfl<|zN rfl (by simp)<|zB rfl (λh2=>?_) (λh2=>?_)
  ·replace h1:=sP h1;replace h2:=sP h2;refine dK rfl rcT rfl (DL (e:=⟨e.pc,e.pc,0,0,e.agZ,0,false,e.halt,0⟩) ?_);simp[cA,up4,h1,h2]<;>(intros;simp_all)
  replace h1:=sP h1;replace h2:=sP h2;refine dK rfl rcT rfl (DL (e:=⟨e.pc,e.pc,0,0,0,0,false,e.halt,0⟩) ?_);simp[cA,up4,h1,h2]<;>(intros;simp_all)
 refine zR ?_;refine zV (vU ((e.pc+4)%4294967296))<|zC (Da e.i)<|zV (.agg [vU e.pc,vU ((e.pc+4)%4294967296),vI (wr e.i),.v (.int .u32 0),.v (.int .u32 0),vI 0,vB false,vI 0,vI 0])<|zVB ((wr e.i) != 0) (λh3=>?_) (λh3=>?_)
 all_goals
  refine zC (pS e.i)<|zWB (okB (eqN _ _)) (λh4=>?_) (λh4=>?_)
  ·skip;refine zC (Gd e.i) ?_;replace h1:=sP h1;replace h3:=sP h3;replace h4:=sP h4;refine dK rfl rcT rfl (DL (e:=⟨e.pc,(e.pc+4)%4294967296,wr e.i,e.value,e.agZ,sizeOf' e.i.op,true,0,0⟩) ?_);simp[cA,up4,h1,h3,h4]<;>(intros;simp_all)
  refine zWB (okB (eqN _ _)) (λh5=>?_) (λh5=>?_)
  ·refine zC (Gd e.i) ?_;replace h1:=sP h1;replace h3:=sP h3;replace h4:=sP h4;replace h5:=sP h5
   first|refine dK rfl rcT rfl (DL (e:=⟨e.pc,(e.pc+4)%4294967296,wr e.i,e.value,e.agZ,sizeOf' e.i.op,false,0,0⟩) ?_)|refine dK rfl rcT rfl (DL (e:=⟨e.pc,(e.pc+4)%4294967296,wr e.i,0,e.agZ,sizeOf' e.i.op,false,0,0⟩) ?_)
   simp[cA,up4,h1,h3,h4,h5]<;>(intros;simp_all)
  refine zWB (okB (eqN _ _)) (λh6=>?_) (λh6=>?_)
  ·replace h1:=sP h1;replace h3:=sP h3;replace h4:=sP h4;replace h5:=sP h5;replace h6:=sP h6
   first|refine dK rfl rcT rfl (DL (e:=⟨e.pc,(e.pc+4)%4294967296,wr e.i,e.value,0,0,false,0,e.agV⟩) ?_)|refine dK rfl rcT rfl (DL (e:=⟨e.pc,(e.pc+4)%4294967296,wr e.i,0,0,0,false,0,e.agV⟩) ?_)
   simp[cA,up4,h1,h3,h4,h5,h6]<;>(intros;simp_all)
  refine zWB (okB (eqN _ _)) (λh7=>?_) (λh7=>?_)
  all_goals
   replace h1:=sP h1;replace h3:=sP h3;replace h4:=sP h4;replace h5:=sP h5;replace h6:=sP h6;replace h7:=sP h7
   first|refine dK rfl rcT rfl (DL (e:=⟨e.pc,e.next,wr e.i,e.value,0,0,false,0,0⟩) ?_)|refine dK rfl rcT rfl (DL (e:=⟨e.pc,e.next,wr e.i,0,0,0,false,0,0⟩) ?_)|refine dK rfl rcT rfl (DL (e:=⟨e.pc,(e.pc+4)%4294967296,wr e.i,e.value,0,0,false,0,0⟩) ?_)|refine dK rfl rcT rfl (DL (e:=⟨e.pc,(e.pc+4)%4294967296,wr e.i,0,0,0,false,0,0⟩) ?_)
   simp[cA,up4,h1,h3,h4,h5,h6,h7]<;>(intros;simp_all)
def aeP(n:Nat):(if(0:Int)>(n:Int)then(0:Int)else(n:Int))=(n:Int):=dZ omT
def aaM{n:Nat}(h:n<=1000):IntKind.wrap .i64 ((n:Int)-1)=(n:Int)-1:=wrap_i64 omT omT
def XU{k:Nat}(h0:0<k)(h:k<=1000):IntKind.wrap .i64 (((k:Int)-1)-1)=((k-1:Nat):Int)-1:=by rw[wrap_i64 omT omT];omega
def acP{a b:Nat}(h:b<=a)(ha:a<=4294967295):IntKind.wrap .u32 ((a:Int)-(b:Int))=((a-b:Nat):Int):=by
 rw[(oT:((a:Int)-(b:Int))=((a-b:Nat):Int))];exact nJ (by omega:a-b<=4294967295) rfl
def US(a n)(ha:a<=4294967295)(hn:n<=1000):bI C0 189 [vU a,vN n] (.v (.int .u64 ((a+n:Nat):Int))):=by
 refine dIZ func189 rfl ?_;refine zW _ (okI (nJ ha rfl))<|rW _ rfl (okI (aeP n))<|rW _ rfl (okI (nJ hn rfl)) ?_;have b1:a+n<=4294968295:=aD ha hn;refine zW _ (okI (nJ b1 rfl)) ?_;exact fT rfl rfl
def aaN(a n b m)(ha:a<=4294967295)(hn:n<=1000)(hb:b<=4294967295)(hm:m<=1000):bI C0 174 [vU a,vN n,vU b,vN m] (vB (lapsP a n b m)):=by
 refine dIZ func174 rfl<|zW _ (okB (leN _ _))<|gBS rfl id (okB (leN _ _))<|zN rfl (by simp)<|zB rfl (λh1=>?_) (λh1=>?_)
 ·exact fT rfl (dR (by have z:=h1;simp only[cOr,qA,lapsP]at z⊢ <;>grind))
 refine zW _ (okI (nJ ha rfl))<|rCi rfl (US b m hb hm)<|zW _ (okB (ltN _ _))<|zAS rfl id (okI (nJ hb rfl))<|jQ rfl rfl rfl rfl hsT rfl rfl rfl (.inl rfl) rfl (λhg=>US a n ha hn)<|gBS rfl hsT (okB (ltN _ _))<|zN rfl (λh=>h) ?_;exact fT rfl (dR (by have z:=h1;simp only[cOr,qA,lapsP]at z⊢ <;>grind))
def XV(a n b m)(ha:a<=4294967295)(hn:n<=1000)(hb:b<=4294967295)(hm:m<=1000):bI C0 175 [vU a,vN n,vU b,vN m] (vB (Fh a n b m)):=by
 refine dIZ func175 rfl<|zW _ (okB (gtN _ _))<|gBS rfl hsT (okB (leN _ _))<|zN rfl (λh=>h)<|zQ rfl hsT rfl (.inl rfl) (λhg=>US b m hb hm)<|jQ rfl rfl rfl rfl hsT rfl rfl rfl (.inl rfl) rfl (λhg=>US a n ha hn)<|gBS rfl hsT (okB (leN _ _))<|zN rfl (λh=>h) ?_;exact fT rfl (dR (by simp only[cOr,qA,Fh]<;>grind))
def aeQ(s:Std):Value:=.agg #[.int .u32 (s.agZ:Int),.int .i64 (s.size:Int),.string s.data,.bool s.there]
def aaO(s:Std):Array Value:= #[aeQ s]
abbrev sdL(s:Std):List AV:=[vU s.agZ,vN s.size,.v (.string s.data),vB s.there]
def NN(R:List Ent)(k:Nat):List Std:=(((R.drop k).filter λe=>isK e 4).map Fg).reverse
def UT(R:List Ent)(S:List Pt)(k:Nat):List Std:=NN R 0++((S.drop k).map CY).reverse
def NO(R:List Ent)(S:List Pt):FW R S=NN R 0++(S.map CY).reverse:=rfl
def FA{α}{l:List α}{k}{x}(h0:0<k)(h:l[k-1]?=some x):l.drop (k-1)=x::l.drop k:=by
 obtain⟨hl,rfl⟩:=Em.1 h;rw[bF hl,(oT:k-1+1=k)]
def NP{R}{k}{x}(h0:0<k)(h:R[k-1]?=some x)(hk:isK x 4=true):NN R (k-1)=NN R k++[Fg x]:=by
 unfold NN;rw[FA h0 h,List.filter_cons_of_pos (sU hk)];simp
def XW{R}{k}{x}(h0:0<k)(h:R[k-1]?=some x)(hk:isK x 4=false):NN R k=NN R (k-1):=by
 unfold NN;rw[FA h0 h,List.filter_cons_of_neg (sU hk)]
def UU(R)(S)(k):NN R k <+: FW R S:=by
 rw[NO];refine List.IsPrefix.trans ?_ (List.prefix_append _ _);refine⟨(((R.take k).filter λe=>isK e 4).map Fg).reverse,?_⟩;unfold NN;rw[<-List.reverse_append, <-dH, <-mL,afF,bS]
def Ph(R):NN R R.length=[]:=by unfold NN;rw[List.drop_length];rfl
def KV{R}{S}{k}{x}(h0:0<k)(h:S[k-1]?=some x):UT R S (k-1)=UT R S k++[CY x]:=by
 unfold UT;rw[FA h0 h];simp
def UV(R)(S)(k):UT R S k <+: FW R S:=by
 rw[NO];unfold UT;rw[List.prefix_append_right_inj];refine⟨((S.take k).map CY).reverse,?_⟩;rw[<-List.reverse_append, <-dH,afF]
def Pi(R)(S):UT R S S.length=NN R 0:=by unfold UT;rw[List.drop_length];simp
def UW(R:List Ent)(S:List Pt):UT R S 0=FW R S:=rfl
def UX{R}{S}(ho:∀x∈R,x.ok)(hso:∀x∈S,x.ok)(hss:∀x∈S,x.data.size<=4){s}(h:s∈FW R S):s.agZ<=4294967295∧s.size<=4∧s.data.size=s.size:=by
 unfold FW at h;rcases al_List_mem_append.1 h with h|h
 ·obtain⟨e,he,rfl⟩:=pG.1 (List.mem_reverse.1 h);exact⟨(ho e (List.mem_filter.1 he).1).agZ,lQ _,mP _ _⟩
 obtain⟨p,hp,rfl⟩:=pG.1 (List.mem_reverse.1 h);exact⟨(hso p hp).agZ,hss p hp,rfl⟩
theorem DE{at_ n:Nat}:∀{l:List Std},(∀s,s∈l->lapsP s.agZ s.size at_ n=false)->xK at_ n l=(2,oZ)
 |[],_=>rfl
 |s::l,h=>by
  simp only[xK];rw[af1 (h s al_List_mem_cons_self)];exact DE λy hy=>h y (bY _ hy)
theorem Dh{at_ n:Nat}{s:Std}:∀{pre l:List Std},pre++[s] <+: l->(∀y,y∈pre->lapsP y.agZ y.size at_ n=false)->lapsP s.agZ s.size at_ n=true->
  xK at_ n l=if Fh s.agZ s.size at_ n=false∨s.there=false then(0,oZ)else(1,s.data.extract (at_-s.agZ) (at_-s.agZ+n))
 |[],[],h,_,_=>by have:=h.length_le;simp at this
 |[],y::l,h,_,hs=>by
  obtain⟨t,ht⟩:=h;obtain⟨rfl, -⟩:=List.cons.inj ht
  simp only[xK];rw[dZ (by simp[hs])]
 |y::pre,[],h,_,_=>by have:=h.length_le;simp at this
 |y::pre,z::l,h,hN,hs=>by
  obtain⟨t,ht⟩:=h;obtain⟨h3,h4⟩:=List.cons.inj ht;subst h3;simp only[xK];rw[af1 (hN y al_List_mem_cons_self)];exact Dh ⟨t,h4⟩ (λy hy=>hN y (bY _ hy)) hs
def RU(R)(S)(ck ck2)(hl:R.length<=1000)(ho:∀x∈R,x.ok)(hst:S.length<=1000)(hso:∀x∈S,x.ok):RN C0 188 [.dp 1 0 ([.sl 17 (R.map enL) ck]),.dp 1 0 ([.sl 2 (S.map ptL) ck2])] aaO (FW R S):=by
 refine RN.intro c0Ok func188 rfl rfl (by kernel_rfl) rfl ?_;intro y;refine rQ<|rQ<|nU rfl<|cRg<|oR 1 rfl<|rW _ rfl (cD enL R)<|rW _ rfl (okI (aaM hl))<|oR 1 rfl<|rE 4<|AA<|NH (κ:=Nat) (λk=>⟨slotsF [(0,.v y),(1,.dp 1 0 ([.sl 17 (R.map enL) ck])),(2,.dp 1 0 ([.sl 2 (S.map ptL) ck2])),(4,vI ((k:Int)-1))],heapF [],4⟩) (λk=>NN R k) (λk=>k<=R.length) (λk=>k) R.length (λs=>s) (wOL (λs=>s) wT trivial rfl) rfl (Ph R) (aC _) ?_;intro k hk;have hkB:k<=1000:=by have:k<=R.length:=hk;omega
 refine rQ<|rQ<|nU rfl<|cRg<|oR 1 rfl<|rV (vB (decide (((k:Int)-1)>=0))) rfl<|rE 6<|Cz rfl (λh1=>?_) (λh1=>?_)
 ·have h1p:=af0 h1;have hk0:0<k:=oT;refine nU rfl<|mF<|rQ<|AA<|rQ<|nU rfl<|cRg<|oR 2 rfl ?_;obtain⟨x,hx⟩:∃y_,R[k-1]?=some y_:=⟨_,aA omT⟩;have hxo:=ho x (aB hx);refine FO (enL x) rfl rfl rfl (⟨oT,by rw[(oT:((k:Int)-1).toNat=k-1)];exact iH hx⟩) rfl<|oR 1 rfl<|rAl 10 rfl rfl<|rSt rfl<|rE 12<|rQ<|rQ<|nU rfl<|cRg<|oR 2 rfl<|rCi rfl (pS x.i)<|rW _ rfl (okB (neN _ _))<|rE 16<|Cz rfl (λh2=>?_) (λh2=>?_)
  ·have h2p:=wM h2;have hkf:isK x 4=false:=by unfold isK;simpa using h2p
   refine nU rfl<|Bh<|nU rfl<|cRg<|oR 1 rfl<|rW _ rfl (okI (XU hk0 hkB))<|oR 1 rfl<|rE 19 ?_;refine⟨rfl,k-1,λs=>s,wOL _ wT trivial rfl,rfl,(XW hk0 hx hkf).symm,(by show k-1<=R.length;omega),(by show k-1<k;omega)⟩
  have h2p:=wN h2;have hkt:isK x 4=true:=by unfold isK;simpa using h2p
  refine nU rfl<|mF<|rQ<|nU rfl<|cRg<|oR 2 rfl<|rCi rfl (Gd x.i)<|oR 1 rfl<|rE 20<|rQ<|nU rfl<|cRg<|oR 3 rfl<|rCi rfl (Nv x.value (sizeOf' x.i.op) (CI hxo.value) (lQ x.i.op))<|oR 5 rfl<|rE 29<|rQ<|NI rfl 9 rfl rfl rfl<|oR 7 rfl<|rV (vB (x.is==3)) rfl<|rV (.agg [vU x.agZ,vN (sizeOf' x.i.op),.v (.string (oF x.value (sizeOf' x.i.op))),vB (x.is==3)]) rfl<|rE 38 ?_;refine⟨Fg x,_,⟨slotsF [(0,.v y),(1,.dp 1 0 ([.sl 17 (R.map enL) ck])),(2,.dp 1 0 ([.sl 2 (S.map ptL) ck2])),(4,vI ((k:Int)-1)),(36,.v y),(44,.agg [vU x.agZ,vN (sizeOf' x.i.op),.v (.string (oF x.value (sizeOf' x.i.op))),vB (x.is==3)])],heapF [],0⟩,λs=>s,wOL _ wT trivial rfl,rfl,rfl,rfl,rfl,rfl,rfl,(by rw[<-NP hk0 hx hkt];exact UU R S _),λyb1=>?_⟩;refine oR 1 rfl<|rE 40<|Cz rfl (λh3=>?_) (λh3=>?_)
  ·refine nU rfl<|FQ ?_;intro hs;rw[h3]at hs;cases hs
  refine nU rfl<|mF<|nU rfl<|cRg<|oR 1 rfl<|rW _ rfl (okI (XU hk0 hkB))<|oR 1 rfl<|rE 43 ?_;refine⟨h3,k-1,λs=>s,wOL _ wT trivial rfl,rfl,(NP hk0 hx hkt),(by show k-1<=R.length;omega),(by show k-1<k;omega)⟩
 have h1p:=aF h1;refine nU rfl<|Bh<|rQ<|nU rfl<|cRg<|oR 1 rfl<|rW _ rfl (cD ptL S)<|rW _ rfl (okI (aaM hst))<|oR 1 rfl<|rE 10<|AA ?_;obtain hk_:k=0:=oT;subst hk_;refine NH (κ:=Nat) (λj=>⟨slotsF [(0,.v y),(1,.dp 1 0 ([.sl 17 (R.map enL) ck])),(2,.dp 1 0 ([.sl 2 (S.map ptL) ck2])),(9,vI ((j:Int)-1))],heapF [],10⟩) (λj=>UT R S j) (λj=>j<=S.length) (λj=>j) S.length (λs=>s) (wOL (λs=>s) wT trivial rfl) rfl (Pi R S) (aC _) ?_;intro j hj;have hjB:j<=1000:=by have:j<=S.length:=hj;omega
 refine rQ<|rQ<|nU rfl<|cRg<|oR 1 rfl<|rV (vB (decide (((j:Int)-1)>=0))) rfl<|rE 12<|Cz rfl (λh4=>?_) (λh4=>?_)
 ·have h4p:=af0 h4;have hj0:0<j:=oT;refine nU rfl<|mF<|rQ<|AA<|rQ<|nU rfl<|cRg<|oR 2 rfl ?_;obtain⟨p,hp⟩:∃y_,S[j-1]?=some y_:=⟨_,aA omT⟩;have hpo:=hso p (aB hp);refine FO (ptL p) rfl rfl rfl (⟨oT,by rw[(oT:((j:Int)-1).toNat=j-1)];exact iH hp⟩) rfl<|oR 1 rfl<|rAl 16 rfl rfl<|rSt rfl<|rE 18<|rQ<|NI rfl 9 rfl rfl rfl<|oR 5 rfl<|rV (vN p.data.size) rfl<|oR 2 rfl<|rV (.agg [vU p.agZ,vN p.data.size,.v (.string p.data),vB true]) rfl<|rE 27 ?_;refine⟨CY p,_,⟨slotsF [(0,.v y),(1,.dp 1 0 ([.sl 17 (R.map enL) ck])),(2,.dp 1 0 ([.sl 2 (S.map ptL) ck2])),(9,vI ((j:Int)-1)),(58,.v y),(66,.agg [vU p.agZ,vN p.data.size,.v (.string p.data),vB true])],heapF [],0⟩,λs=>s,wOL _ wT trivial rfl,rfl,rfl,rfl,rfl,rfl,rfl,(by rw[<-KV hj0 hp];exact UV R S _),λyb2=>?_⟩;refine oR 1 rfl<|rE 29<|Cz rfl (λh5=>?_) (λh5=>?_)
  ·refine nU rfl<|FQ ?_;intro hs;rw[h5]at hs;cases hs
  refine nU rfl<|mF<|nU rfl<|cRg<|oR 1 rfl<|rW _ rfl (okI (XU hj0 hjB))<|oR 1 rfl<|rE 32 ?_;refine⟨h5,j-1,λs=>s,wOL _ wT trivial rfl,rfl,(KV hj0 hp),(by show j-1<=S.length;omega),(by show j-1<j;omega)⟩
 have h4p:=aF h4;refine nU rfl<|Bh ?_;intro _;obtain hj_:j=0:=oT;subst hj_;exact UW R S
def RV(R:List Ent)(S:List Pt)(ck ck2)(hl:R.length<=1000)(ho:∀x∈R,x.ok)(hst:S.length<=1000)(hso:∀x∈S,x.ok):bI C0 173 [.sl 17 (R.map enL) ck,.sl 2 (S.map ptL) ck2] (.clo 188 [] [.dp 1 0 [.sl 17 (R.map enL) ck],.dp 1 0 [.sl 2 (S.map ptL) ck2]]):=by
 refine dIZ func173 rfl ?_;refine zV _ ?_;exact dK rfl tvT rfl rfl
def UY{l:List Ent}{k}{x}(h:∀y,y∈l.take k->Aw y=false)(hx:l[k]?=some x)(hv:Aw x=false):∀y,y∈l.take (k+1)->Aw y=false:=by
 intro y hy;rw[bW,hx]at hy;rcases al_List_mem_append.1 hy with hy|hy
 ·exact h y hy
 have:y=x:=sU hy;rw[this];exact hv
def UZ{agI}{agF}{i}{e}(he:agI[i]?=some e)(hk: ¬kindOf e.i.op=3):lL agI agF i=(0,oZ):=by
 unfold lL;rw[he];exact af1 hk
def RW{agI}{agF}{i k:Nat}{e x}(he:agI[i]?=some e)(hk:kindOf e.i.op=3)(hx:(agI.take i)[k]?=some x)(hv:Aw x=true):lL agI agF i=(0,oZ):=by
 unfold lL;rw[he];exact(dZ (λh=>h hk)).trans (af1 (Mv.2 ⟨x,aB hx,hv⟩))
def RX{agI}{agF}{i k}{e}(he:agI[i]?=some e)(hk:kindOf e.i.op=3)(hN:∀y,y∈(agI.take i).take k->Aw y=false)(hle:(agI.take i).length<=k):lL agI agF i=xK e.agZ (sizeOf' e.i.op) (FW (agI.take i) agF):=by
 unfold lL;rw[he];refine(dZ (λh=>h hk)).trans (dZ λh=>?_);obtain⟨x,hx,hv⟩:=Mv.1 h;rw[aN hle]at hN;rw[hN x hx]at hv;cases hv
def XX(agI)(agF)(ck ck2)(i)(hl:agI.length<=1000)(ho:∀x∈agI,x.ok)(hst:agF.length<=1000)(hso:∀x∈agF,x.ok)(hss:∀x∈agF,x.data.size<=4)(hi:i<agI.length):bI C0 159 [.sl 17 (agI.map enL) ck,.sl 2 (agF.map ptL) ck2,vN i] (.tup [vI (lL agI agF i).1,.v (.string (lL agI agF i).2)]):=by
 refine dc1 (bI.introR (C:=C1) (λd=>c1Ok.wd d) (λn=>c1Ok.at) func159 rfl rfl (by kernel_rfl) rfl ?_);have hiB:i<=1000:=oT;have htl:(agI.take i).length<=1000:=by rw[aM];omega
 have hto:∀x∈agI.take i,x.ok:=λx hx=>ho x (cQ hx);refine uO<|tQ rfl<|cRg<|rAl 0 rfl rfl<|rAl 1 rfl rfl<|rE 2<|XO<|uO<|uO<|tQ rfl<|cRg<|oR 1 rfl<|rW (vB (decide (i<0))) rfl (okB (ltN _ _))<|oR 1 rfl<|gN rfl<|gN rfl<|gBS rfl id (cD enL agI)<|gBS rfl hsT (okB (geN _ _))<|bO rfl rfl rfl (by simp)<|oR 1 rfl<|gN rfl<|gN rfl ?_;obtain⟨e,he⟩:∃y_,agI[i]?=some y_:=⟨_,aA omT⟩;have heo:=ho e (aB he);refine DK (enL e) (x:=.dp 17 0 (enL e)) (g:= !(cE (decide (i<0)) true (decide (i>=agI.length)))) rfl rfl rfl rfl hsT rfl rfl (λhg=>⟨aG _,iH he⟩) rfl<|gS rfl id<|gS rfl id<|jQ (x:=vN (kindOf e.i.op)) (g:= !(cE (decide (i<0)) true (decide (i>=agI.length)))) rfl rfl rfl rfl (λh=>h) rfl rfl rfl (.inl rfl) rfl (λhg=>pS e.i)<|gBS rfl id (okB (neN _ _))<|bO rfl rfl rfl (by simp)<|rE 19<|VT (v:=cE (cE (decide (i<0)) true (decide (i>=agI.length))) true ((kindOf e.i.op) != 3)) rfl (λh1=>?_) (λh1=>?_)
 ·have hk3: ¬kindOf e.i.op=3:=by have z:=h1;simp only[cOr]at z;grind
  refine uO<|tQ rfl<|cRg<|rSt rfl<|rSt rfl<|rE 21<|tQ rfl<|FQ ?_;have e1:=UZ (agF:=agF) he hk3;rw[e1];exact fT rfl rfl
 have hk3:kindOf e.i.op=3:=by have z:=h1;simp only[cOr]at z;grind
 refine tQ rfl<|mF<|uO<|uO<|tQ rfl<|cRg<|oR 2 rfl<|nW (.sl 17 ((agI.take i).map enL) (ck&&false)) rfl (yB (vY enL agI i)) slT<|rW (vN i) rfl (vW enL (agI.take i) omT)<|oR 1 rfl<|rE 24<|Ja<|aaH<|jR (κ:=Nat) (λk=>⟨slotsF [(0,.sl 17 (agI.map enL) ck),(1,.sl 2 (agF.map ptL) ck2),(2,vN i),(6,.ptr 0 0),(7,.ptr 1 0),(30,vB (cE (cE (decide (i<0)) true (decide (i>=agI.length))) true ((kindOf e.i.op) != 3))),(33,.sl 17 ((agI.take i).map enL) (ck&&false)),(34,vN i),(35,vN k)],heapF [(0,.box [vI 0]),(1,.box [.v (.string (⟨#[]⟩:ByteArray))])],24⟩) (λk=>k<=i∧∀y,y∈(agI.take i).take k->Aw y=false) (λk=>i-k) 0 (λs=>s) (wOL (λs=>s) wT wH rfl) (⟨aE _,(λy hy=>by cases hy)⟩) ?_;intro k hk;have hkn:k<=i:=hk.1;have hkB:k<=1000000:=oT;refine cSR<|rW (vB (decide (k<i))) rfl (okB (ltN _ _))<|rE 25<|uR<|aV rfl (λh2=>?_) (λh2=>?_)
 ·have h2p:=af0 h2;refine mF<|uR<|kO<|cSR ?_;obtain⟨x,hx⟩:∃y_,(agI.take i)[k]?=some y_:=⟨_,aA omT⟩;have hxo:=(zD ho) x (aB hx);refine rIx (enL x) (.dp 17 0 (enL x)) rfl rfl (iH hx) rfl<|oR 1 rfl<|rAl 27 rfl rfl<|rSt rfl<|rE 29<|cSR<|oR 2 rfl<|rCi rfl (pS x.i)<|rW (vB ((kindOf x.i.op)==4)) rfl (okB (eqN _ _))<|oR 1 rfl<|gN rfl<|gS rfl id<|gS rfl id<|gS rfl id<|gN rfl<|gS rfl id<|gBS rfl id rfl<|pB (x:=vB (cE (!x.known) true (x.halt != 0))) (g:=(kindOf x.i.op)==4) rfl rfl rfl rfl (λh=>h) rfl rfl (λhg hc=>by first|(rw[hg,hc];rfl)|simp_all)<|bO rfl rfl rfl (λh=>h)<|rE 43<|aV rfl (λh3=>?_) (λh3=>?_)
  ·have hv:Aw x=true:=by have z:=h3;unfold Aw isK;simp only[cOr,qA]at z⊢;grind
   refine cSR<|rSt rfl<|rSt rfl<|rE 45<|FQ ?_;have e1:=RW (agF:=agF) he hk3 hx hv;rw[e1];exact fT rfl rfl
  have hv:Aw x=false:=by have z:=h3;unfold Aw isK;simp only[cOr,qA]at z⊢;grind
  refine mF<|cRg ?_;have b1:k+1<=1000001:=aD hkB (aC 1);refine rW (vN (k+1)) rfl (okI (bH b1 rfl))<|oR 1 rfl<|rE 45 ?_;refine⟨k+1,λs=>s,wOL _ wT wH rfl,⟨oT,UY hk.2 hx hv⟩,by show i-(k+1)<i-k;omega⟩
 have h2p:=aF h2;have hN0:=hk.2;have hk0:(agI.take i).length<=k:=by rw[aM];omega
 refine Bh<|uO<|tQ rfl<|cRg<|oR 2 rfl<|rIx (enL e) (.dp 17 0 (enL e)) rfl rfl (iH he) rfl<|oR 4 rfl<|rIx (enL e) (.dp 17 0 (enL e)) rfl rfl (iH he) rfl<|oR 2 rfl<|rCi rfl (Gd e.i)<|rAl 36 rfl rfl<|rAl 37 rfl rfl<|rSt rfl<|rSt rfl<|rE 40<|uO<|tQ rfl<|aaI<|uO<|uO<|tQ rfl<|cRg<|oR 2 rfl<|nW (.sl 17 ((agI.take i).map enL) (ck&&false)) rfl (yB (vY enL agI i)) slT<|oR 1 rfl<|rCi rfl (RV (agI.take i) agF (ck&&false) ck2 htl hto hst hso)<|rE 45<|Ja<|Md (.mk _ (.refl _) ⟨⟨slotsF [(6,.ptr 0 0),(7,.ptr 1 0),(10,.ptr 2 0),(11,.ptr 3 0),(69,.clo 188 [] [.dp 1 0 ([.sl 17 ((agI.take i).map enL) (ck&&false)]),.dp 1 0 ([.sl 2 (agF.map ptL) ck2])])],heapF [(0,.box [vI 0]),(1,.box [.v (.string (⟨#[]⟩:ByteArray))]),(2,.box [vU e.agZ]),(3,.box [vN (sizeOf' e.i.op)])],4⟩,λs=>match s with|2=>36|3=>37|s=>s,wOL _ wT wH rfl,rfl,?_⟩);refine .mk Std 188 [.dp 1 0 ([.sl 17 ((agI.take i).map enL) (ck&&false)]),.dp 1 0 ([.sl 2 (agF.map ptL) ck2])] (λs:Std=>[.agg (sdL s)]) aaO (FW (agI.take i) agF) (λs:Std=>lapsP s.agZ s.size e.agZ (sizeOf' e.i.op)=false) 4 (λ_=>heapF [(0,.box [vI 0]),(1,.box [.v (.string (⟨#[]⟩:ByteArray))]),(2,.box [vU e.agZ]),(3,.box [vN (sizeOf' e.i.op)])]) (λ_=>4) rfl rfl ⟨_,func188,rfl,rfl⟩ (RU (agI.take i) agF (ck&&false) ck2 htl hto hst hso) (λx S w β=>BL (show Ju [.agg (sdL x)]=some _ from rfl)) (λ_=>rfl) rfl rfl (λ_=>rfl) (wOL (hp:=[]) (λs=>s) wT trivial rfl) ?_ ?_
 ·intro pre_ s hp_ hN_;have hsk:=UX hto hso hss (hp_.subset (List.mem_append_right _ (uJ.2 rfl)));have hsz:s.size<=1000:=oT;have hne:sizeOf' e.i.op<=1000:=aL (lQ e.i.op) dT;refine cRg<|rAl 4 rfl rfl<|rSt rfl<|rE 6 ?_;refine⟨rfl,?_⟩;refine kO<|uR<|cSR<|oR 6 rfl<|rCi rfl (aaN s.agZ s.size e.agZ (sizeOf' e.i.op) hsk.1 hsz heo.agZ hne)<|oR 1 rfl<|rE 14<|aV rfl (λh4=>?_) (λh4=>?_)
  ·have hlp:lapsP s.agZ s.size e.agZ (sizeOf' e.i.op)=false:=sU h4;refine Bh ?_;exact⟨hlp,.mk _ (.refl _) ⟨λs=>s,rfl,wOL (l:=[]) (hp:=[(0,.box [vI 0]),(1,.box [.v (.string (⟨#[]⟩:ByteArray))]),(2,.box [vU e.agZ]),(3,.box [vN (sizeOf' e.i.op)])]) (λs=>s) trivial wH rfl⟩⟩
  have hlp:lapsP s.agZ s.size e.agZ (sizeOf' e.i.op)=true:=sU h4;refine mF<|uR<|cSR<|oR 6 rfl<|rCi rfl (XV s.agZ s.size e.agZ (sizeOf' e.i.op) hsk.1 hsz heo.agZ hne)<|oR 2 rfl<|gN rfl<|gS rfl id<|gS rfl id<|bO rfl rfl rfl (by simp)<|rE 27<|aV rfl (λh5=>?_) (λh5=>?_)
  ·have hhd:Fh s.agZ s.size e.agZ (sizeOf' e.i.op)=false∨s.there=false:=by have z:=h5;simp only[cOr]at z;grind
   refine cSR<|rSt rfl<|rSt rfl<|rE 29<|FQ<|.mk _ (.refl _) ⟨heapF [(0,.box [vI 0]),(1,.box [.v (.string (⟨#[]⟩:ByteArray))]),(2,.box [vU e.agZ]),(3,.box [vN (sizeOf' e.i.op)])],4,λs=>s,rfl,rfl,wOL (l:=[]) (hp:=[(0,.box [vI 0]),(1,.box [.v (.string (⟨#[]⟩:ByteArray))]),(2,.box [vU e.agZ]),(3,.box [vN (sizeOf' e.i.op)])]) (λs=>s) trivial wH rfl,?_⟩;intro D;have e1:=(RX (agF:=agF) he hk3 hN0 hk0).trans ((Dh hp_ hN_ hlp).trans (af1 hhd));rw[e1];exact fT rfl rfl
  have hhd: ¬(Fh s.agZ s.size e.agZ (sizeOf' e.i.op)=false∨s.there=false):=by have z:=h5;simp only[cOr]at z;grind
  have hlh:s.agZ<=e.agZ∧e.agZ+sizeOf' e.i.op<=s.agZ+s.size:=by have z:=hhd;simp only[not_or,Bool.not_eq_false]at z;have y:=z.1;unfold Fh at y;simp only[aP,aY]at y;omega
  refine mF<|cSR<|oR 3 rfl<|rW (vU (e.agZ-s.agZ)) rfl (okI (acP hlh.1 heo.agZ))<|rW (vN (e.agZ-s.agZ)) rfl (okI (bH (aL (jT _ _) heo.agZ) rfl))<|oR 1 rfl<|rE 33<|uR<|pO rfl rfl<|oR 5 rfl ?_;have b2:(e.agZ-s.agZ)+(sizeOf' e.i.op)<=4294967299:=aD (aL (jT _ _) heo.agZ) (lQ e.i.op);refine rW (vN ((e.agZ-s.agZ)+(sizeOf' e.i.op))) rfl (okI (bH b2 rfl))<|nW (.v (.string (s.data.extract (e.agZ-s.agZ) ((e.agZ-s.agZ)+(sizeOf' e.i.op))))) rfl rfl (by refine⟨?_,?_,?_⟩<;>(first|exact aG _|decide|(apply FG.2;exact omT)))<|rSt rfl<|rSt rfl<|rE 42<|And.intro (by kernel_rfl)<|FQ<|.mk _ (.refl _) ⟨heapF [(0,.box [vI 1]),(1,.box [.v (.string (s.data.extract (e.agZ-s.agZ) ((e.agZ-s.agZ)+(sizeOf' e.i.op))))]),(2,.box [vU e.agZ]),(3,.box [vN (sizeOf' e.i.op)])],4,λs=>s,rfl,rfl,wOL (l:=[]) (hp:=[(0,.box [vI 1]),(1,.box [.v (.string (s.data.extract (e.agZ-s.agZ) ((e.agZ-s.agZ)+(sizeOf' e.i.op))))]),(2,.box [vU e.agZ]),(3,.box [vN (sizeOf' e.i.op)])]) (λs=>s) trivial wH rfl,?_⟩;intro D;have e1:=(RX (agF:=agF) he hk3 hN0 hk0).trans ((Dh hp_ hN_ hlp).trans (dZ hhd));rw[e1];exact fT rfl rfl
 intro hN D;refine uO<|tQ rfl<|cRg<|rSt rfl<|rSt rfl<|rE 6<|tQ rfl<|FQ ?_;have e1:=(RX (agF:=agF) he hk3 hN0 hk0).trans (DE hN);rw[e1];exact fT rfl rfl
section
variable {α:Type}{f:α->List AV}{A l B:List α}{lo:Nat}
def jK{x}{i}(hlo:A.length=lo)(hx:l[i]?=some x):(A++l++B)[lo+i]?=some x:=by
 have hi:=(Em.1 hx).1;rw[eD,bM omT, <-hlo,Nat.add_sub_cancel_left,cF hi,hx]
def tV{n}(hlo:A.length=lo)(hn:l.length=n):List.take n (List.drop lo ((A++l++B).map f))=l.map f:=by
 subst hlo;subst hn;rw[<-kM, <-eO];congr 1;rw[eD,List.drop_left,List.take_left]
def Xa{x}{i}(hlo:A.length=lo)(hi:i<l.length):(A++l++B).set (lo+i) x=A++l.set i x++B:=by
 subst hlo;rw[eD,iN _ _ omT,Nat.add_sub_cancel_left,List.set_append_left _ _ hi,eD]
def uL{x}{i}{h:AH}{b rs}(hlo:A.length=lo)(hi:i<l.length):some (upd h b (some (.arr (((A++l++B).map f).set (lo+i) (f x)) rs)))=some (upd h b (some (.arr ((A++l.set i x++B).map f) rs))):=by
 rw[<-List.map_set,Xa hlo hi]
end
def MT(op)(s):loadP op s<=4294967295:=by
 unfold loadP;split
 ·rename_i h;have h4:s.size<=4:=oH (lQ op);have:=Fo s h4;split
  ·exact aI (Ia _ _ omT)
  split
  ·exact aI (Ia _ _ omT)
  omega
 exact aE _
def QG{e}(he:e.ok){a b}(ha:a<=4294967295)(hb:b<=4294967295):(rJ e a b).ok:=by
 have hv:uE e a b<=4294967295:=by
  unfold uE;split
  ·exact aE _
  exact aI (Rp _ _ _ _ _ (CI he.agR) (CI ha) (CI hb))
 have hu:up4 e.pc<=4294967295:=by unfold up4;omega
 have hx:qP e.i.op e.i.agR e.pc a b<=4294967295:=aI (Ed _ _ _ _ _);unfold rJ
 repeat' split
 all_goals first|exact he|exact⟨he.pc,he.agR,he.agK,hv,hu,he.agZ⟩|exact⟨he.pc,he.agR,he.agK,hv,hx,he.agZ⟩|exact⟨he.pc,he.agR,he.agK,aE _,hu,he.agZ⟩
def QH{e}(he:e.ok):(goE e).ok:=by
 unfold goE;repeat' split
 all_goals first|exact he|exact⟨he.pc,he.agR,he.agK,he.value,he.next,he.agZ⟩
def Ik{e}(he:e.ok)(size)(a):(yC e size a).ok:=by
 have hx:(a+e.i.agR)%4294967296<=4294967295:=oT;unfold yC;repeat' split
 all_goals first|exact he|exact⟨he.pc,he.agR,he.agK,he.value,he.next,hx⟩
def Il{e}(he:e.ok)(s):(uM e s).ok:=by
 have hl:loadP e.i.op s<=4294967295:=MT e.i.op s;unfold uM;split
 ·exact he
 refine⟨he.pc,he.agR,he.agK,?_,he.next,he.agZ⟩;show(if wr e.i=0 then 0 else loadP e.i.op s)<=_;split<;>omega
def Kj(agI)(agF)(i):(lL agI agF i).2.size<=100:=by
 have hs:∀(l:List Std) (a n:Nat),n<=4->(xK a n l).2.size<=100:=by
  intro l a n hn
  induction l with
  |nil=>exact aE _
  | cons s l ih=>
   unfold xK;split
   ·exact ih
   ·split
    ·exact aE _
    ·show(s.data.extract _ _).size<=100;rw[dA];omega
 unfold lL;split
 ·exact aE _
 ·split
  ·exact aE _
  ·split
   ·exact aE _
   ·exact hs _ _ _ (lQ _)
def GN{c}(h:c.mem.size<=256)(e):(oL c e).size<=1000:=by
 unfold oL Cv;split
 ·rw[dA];have:=MU c.agF c.data c.agS c.mem;unfold Xr;omega
 exact aE _
def Kk(q)(agY)(k):Mi q agY [k]=Ec q agY k:=by unfold Mi Ec;congr 1;funext x;simp
def ab8(c)(nb)(hm:c.okM nb)(i)(hi:i<c.agI.length)(A B)(lo n)(kR kF kS kT)(xF xT)(hlo:A.length=lo)(hn:c.agI.length=n)(hA:A.length+n+B.length<=1000):pM C0.P C0.G 123 [.ptr 0 0,vN i] (heapF [(0,.box (mcX c (.osl 1 lo n kR) (.sl 2 xF kF) (.sl 2 (c.agF.map ptL) kS) (.sl 9 xT kT))),(1,.arr ((A++(c).agI++B).map enL) 17)]) 2 (λx h'=>x=.tup []∧h'=heapF [(0,.box (mcX (oE c i) (.osl 1 lo n kR) (.sl 2 xF kF) (.sl 2 (c.agF.map ptL) kS) (.sl 9 xT kT))),(1,.arr ((A++((oE c i)).agI++B).map enL) 17)]):=by
 refine hZ 2 func123 rfl<|nW (.ptr2 1 (lo+i) 0) rfl rfl ixT ?_;obtain⟨x,hx⟩:∃y_,c.agI[i]?=some y_:=⟨_,aA omT⟩;have hxo:=hm.ok.agX x (aB hx);refine zX (enL x) (.agg (enL x)) rfl (iH (jK hlo hx))<|zB rfl (λh1=>?_) (λh1=>?_)
 ·have e:oE c i=c:=by unfold oE;rw[hx];dsimp only;rw[af1 (FV h1)];try rfl
  rw[e];exact fHu
 refine zR<|zL (x:=.tup [vI ((lL c.agI c.agF i).1),.v (.string ((lL c.agI c.agF i).2))]) rfl (.inr ⟨rfl,⟨(by show lo+n<=((A++c.agI++B).map enL).length;exact omT),trivial,trivial,trivial⟩⟩) ((show bI C0 159 [.sl 17 (List.take n (List.drop lo ((A++c.agI++B).map enL))) kR,.sl 2 (c.agF.map ptL) kS,vN i] _ from by rw[tV (l:=c.agI) hlo (by first|exact hn|(rw[cC];exact hn)|(simp only[cC];exact hn))];exact XX c.agI c.agF kR kS i hm.agI hm.ok.agX hm.sto hm.ok.stoo hm.std hi))<|zC (tN x.agZ hxo.agZ)<|zV (vB (((lL c.agI c.agF i).1)==1))<|aV rfl (λh2=>?_) (λh2=>?_)
 ·have h2p:=mT h2;refine cRg<|oR 8 rfl<|rCi rfl (RR x ((lL c.agI c.agF i).2) hxo (bL (Kj c.agI c.agF i) dT))<|nW (.ptr2 1 (lo+i) 0) rfl rfl ixT ?_;refine nM (enL x) (h':=upd _ 1 (some (.arr ((A++(c.agI.set i (uM x ((lL c.agI c.agF i).2)))++B).map enL) 17))) rfl rfl rfl (⟨aG _,iH ((jK hlo hx))⟩) (uL (f:=enL) (x:=(uM x ((lL c.agI c.agF i).2))) (l:=c.agI) (i:=i) hlo omT)<|rE 50 ?_;have e:oE c i=setE c i (uM x ((lL c.agI c.agF i).2)):=by unfold oE;rw[hx];dsimp only;rw[dZ (sI h1),af1 h2p];try rfl
  rw[e];exact qXF 0 rfl<|fHu
 have h2p:=nA h2;refine qC 0 rfl<|zVB (((lL c.agI c.agF i).1) != 2) (λh3=>?_) (λh3=>?_)
 ·have h3p:=wM h3;have e:oE c i=c:=by unfold oE;rw[hx];dsimp only;rw[dZ (sI h1),dZ h2p,af1 h3p];try rfl
  rw[e];exact fHu
 have h3p:=wN h3;refine zH (args:=[.ptr 0 0,vU (lineOf x.agZ)]) rfl (pM.of_dcall (C:=C0) (show bI C0 160 [.dp 64 0 (mcX c (.sl 17 (List.take n (List.drop lo ((A++c.agI++B).map enL))) kR) (.sl 2 xF kF) (.sl 2 (c.agF.map ptL) kS) (.sl 9 xT kT)),vU (lineOf x.agZ)] _ from by rw[tV (l:=c.agI) hlo (by first|exact hn|(rw[cC];exact hn)|(simp only[cC];exact hn))];exact Xb c nb hm (.sl 2 xF kF) (.sl 2 (c.agF.map ptL) kS) (.sl 9 xT kT) kR (lineOf x.agZ) (dV hxo.agZ)) (by rfl) (by exact⟨⟨rfl,(r4 (r4 (r4 (r4 (r4 (r4 (r4 (r4 (r4 (r4 (r4 (r4 ⟨(by show lo+n<=((A++c.agI++B).map enL).length;simp only[aH,aU,cC];omega),tvT⟩))))))))))))⟩,trivial,trivial⟩) (by rfl)) ?_;rintro _ _ ⟨rfl,rfl⟩;refine aV rfl (λh4=>?_) (λh4=>?_)
 ·refine cRg<|oR 9 rfl<|rCl rfl (.inr ⟨rfl,⟨trivial,tvT,trivial⟩⟩) (MV c nb hm .any (.sl 2 xF kF) (.sl 9 xT kT) kS x hxo)<|rCi rfl (RR x (oL c x) hxo (by have:=GN (c:=c) (oH hm.mem) x;omega))<|nW (.ptr2 1 (lo+i) 0) rfl rfl ixT ?_;refine nM (enL x) (h':=upd _ 1 (some (.arr ((A++(c.agI.set i (uM x (oL c x)))++B).map enL) 17))) rfl rfl rfl (⟨aG _,iH ((jK hlo hx))⟩) (uL (f:=enL) (x:=(uM x (oL c x))) (l:=c.agI) (i:=i) hlo omT)<|rE 59 ?_;have e:oE c i=setE c i (uM x (oL c x)):=by unfold oE;rw[hx];dsimp only;rw[dZ (sI h1),dZ h2p,dZ (λq=>q h3p),af1 h4];try rfl
  rw[e];exact qXF 0 rfl<|fHu
 refine qC 0 rfl<|rV (.sl 1 ([[vI 1]]) true) rfl<|zC (x:=vB (Ec c.agS (lineOf x.agZ) 1)) ((show bI C0 _ [_,_,.sl 1 ([(1:Int)].map ae4) true] _ from by rw[<-Kk];exact RQ c.agS (lineOf x.agZ) [1] false true (oH hm.agS) (λx hx=>(hm.ok.buso x hx).agY) (dV hxo.agZ) dT))<|zB rfl (λh5=>?_) (λh5=>?_)
 ·refine zM (.ptr2 1 (lo+i) 0) rfl ixT ?_;refine nM (enL x) (h':=upd _ 1 (some (.arr ((A++(c.agI.set i (⟨x.no,x.pc,⟨x.i.op,x.i.rd,x.i.ag0,x.i.ag1,x.i.agR⟩,x.agK,2,x.left,x.value,x.next,x.agZ,x.halt,x.agV,x.known,x.agU⟩:Ent))++B).map enL) 17))) rfl rfl rfl (⟨aG _,iH ((jK hlo hx))⟩) (uL (f:=enL) (x:=(⟨x.no,x.pc,⟨x.i.op,x.i.rd,x.i.ag0,x.i.ag1,x.i.agR⟩,x.agK,2,x.left,x.value,x.next,x.agZ,x.halt,x.agV,x.known,x.agU⟩:Ent)) (l:=c.agI) (i:=i) hlo omT) ?_;have e:oE c i=setE c i (⟨x.no,x.pc,⟨x.i.op,x.i.rd,x.i.ag0,x.i.ag1,x.i.agR⟩,x.agK,2,x.left,x.value,x.next,x.agZ,x.halt,x.agV,x.known,x.agU⟩:Ent):=by unfold oE;rw[hx];dsimp only;rw[dZ (sI h1),dZ h2p,dZ (λq=>q h3p),dZ (by rw[h4];decide),af1 h5];try rfl
  rw[e];exact qRF 0 rfl<|fHu
 refine rCl (x:=vB (vC c.agI i)) rfl (.inr ⟨rfl,⟨(by show lo+n<=((A++c.agI++B).map enL).length;exact omT),trivial,trivial⟩⟩) ((show bI C0 158 [.sl 17 (List.take n (List.drop lo ((A++c.agI++B).map enL))) kR,vN i] _ from by rw[tV (l:=c.agI) hlo (by first|exact hn|(rw[cC];exact hn)|(simp only[cC];exact hn))];exact MX c.agI kR i hm.agI hm.ok.agX (oH hm.agI)))<|zH (args:=[.ptr 0 0,vB (vC c.agI i)]) rfl (pM.of_dcall (C:=C0) (show bI C0 80 [.dp 64 0 (mcX c (.sl 17 (List.take n (List.drop lo ((A++c.agI++B).map enL))) kR) (.sl 2 xF kF) (.sl 2 (c.agF.map ptL) kS) (.sl 9 xT kT)),vB (vC c.agI i)] _ from by rw[tV (l:=c.agI) hlo (by first|exact hn|(rw[cC];exact hn)|(simp only[cC];exact hn))];exact Ua c nb hm (.sl 17 (c.agI.map enL) kR) (.sl 2 xF kF) (.sl 2 (c.agF.map ptL) kS) (.sl 9 xT kT) (vC c.agI i)) (by rfl) (by exact⟨⟨rfl,(r4 (r4 (r4 (r4 (r4 (r4 (r4 (r4 (r4 (r4 (r4 (r4 ⟨(by show lo+n<=((A++c.agI++B).map enL).length;simp only[aH,aU,cC];omega),tvT⟩))))))))))))⟩,trivial,trivial⟩) (by rfl)) ?_;rintro _ _ ⟨rfl,rfl⟩;refine gS rfl id<|gS rfl id<|gS rfl id<|zG rfl id<|gB rfl rfl<|jQ (args:=[.sl 4 (c.agS.map rqL) false,vU (lineOf x.agZ),.sl 1 ([[vI 3]]) true]) (x:=vB (Ec c.agS (lineOf x.agZ) 3)) (g:=tA c (vC c.agI i)) rfl rfl rfl rfl hsT rfl rfl rfl (.inl rfl) rfl (λhg=>(show bI C0 _ [_,_,.sl 1 ([(3:Int)].map ae4) true] _ from by rw[<-Kk];exact RQ c.agS (lineOf x.agZ) [3] false true (oH hm.agS) (λx hx=>(hm.ok.buso x hx).agY) (dV hxo.agZ) dT))<|gS rfl id<|zN rfl (λh=>h)<|aV rfl (λh6=>?_) (λh6=>?_)
 ·refine qC 0 rfl<|zH (args:=[.ptr 0 0,vI 1,vU (lineOf x.agZ),.v (.string (⟨#[]⟩:ByteArray))]) rfl ((ab9 c nb hm 1 (lineOf x.agZ) (⟨#[]⟩:ByteArray) (dV hxo.agZ) lo n kR ((A++c.agI++B).map enL) kF xF kS (c.agF.map ptL) kT xT).fB (λz=>z)) ?_;rintro _ _ ⟨rfl,rfl⟩;refine zM (.ptr2 1 (lo+i) 0) rfl ixT ?_;refine nM (enL x) (h':=upd _ 1 (some (.arr ((A++(c.agI.set i (⟨x.no,x.pc,⟨x.i.op,x.i.rd,x.i.ag0,x.i.ag1,x.i.agR⟩,x.agK,2,x.left,x.value,x.next,x.agZ,x.halt,x.agV,x.known,x.agU⟩:Ent))++B).map enL) 17))) rfl rfl rfl (⟨aG _,iH ((jK hlo hx))⟩) (uL (f:=enL) (x:=(⟨x.no,x.pc,⟨x.i.op,x.i.rd,x.i.ag0,x.i.ag1,x.i.agR⟩,x.agK,2,x.left,x.value,x.next,x.agZ,x.halt,x.agV,x.known,x.agU⟩:Ent)) (l:=c.agI) (i:=i) hlo omT) ?_;have e:oE c i=setE (jE c 1 (lineOf x.agZ) (⟨#[]⟩:ByteArray)) i (⟨x.no,x.pc,⟨x.i.op,x.i.rd,x.i.ag0,x.i.ag1,x.i.agR⟩,x.agK,2,x.left,x.value,x.next,x.agZ,x.halt,x.agV,x.known,x.agU⟩:Ent):=by unfold oE;rw[hx];dsimp only;rw[dZ (sI h1),dZ h2p,dZ (λq=>q h3p),dZ (by rw[h4];decide),dZ (by rw[h5];decide),af1 (by have z:=h6;simp only[qA]at z;simpa using z)];try rfl
  rw[e];exact qRF 0 rfl<|fHu
 skip
 have e:oE c i=c:=by unfold oE;rw[hx];dsimp only;rw[dZ (sI h1),dZ h2p,dZ (λq=>q h3p),dZ (by rw[h4];decide),dZ (by rw[h5];decide),dZ (by have z:=h6;simp only[qA]at z;simpa using z)];try rfl
 rw[e];exact qCF 0 rfl<|fHu
theorem pM.frameB2{P}{G}{f}{args}{b0 b1 c0 c1}{L}{s}{r}(H:pM P G f args (heapF ((0,b0)::(1,b1)::L)) s (λx h'=>x=r∧h'=heapF ((0,c0)::(1,c1)::L)))(ρ)(K)(s2)(hfull:fullB (heapF ((0,b0)::(1,b1)::L)) s=true)(hL:FrL ρ K s s2 ((0,b0)::(1,b1)::L))(hi:UQ ρ s=true)(ha:mS s args=true)(hr:eP r=true)(hb0:qM s c0=true)(hb1:qM s c1=true):
  pM P G f (Bg ρ args) K s2 (λx h'=>x=r∧h'=upd (upd K (ρ 0) (some (DI ρ c0))) (ρ 1) (some (DI ρ c1))):=by
 have hs:1<s:=aJ hL.2.1.2.1;refine H.frameL ρ K s2 hfull hL hi ha _ λr' h' hP=>?_;obtain⟨rfl,rfl⟩:=hP;refine⟨_,⟨afK _ _ hr,rfl⟩,λy blk hy=>?_⟩;by_cases he1:y=ρ 1
 ·subst he1;rw[dB]at hy;injection hy with hy;exact .inl ⟨1,c1,rfl,(rL ρ omT).symm,by rw[<-hy,yL ρ s s2 c1 hb1]⟩
 rw[cI _ _ he1]at hy;by_cases he:y=ρ 0
 ·subst he;rw[dB]at hy;injection hy with hy;exact .inl ⟨0,c0,rfl,(rL ρ omT).symm,by rw[<-hy,yL ρ s s2 c0 hb0]⟩
 rw[cI _ _ he]at hy;by_cases hx:∃x,x<s∧ρ x=y
 ·obtain⟨x,hxs,rfl⟩:=hx;have hx0:x≠0:=λe=>he (by rw[e]);have hx1:x≠1:=λe=>he1 (by rw[e]);obtain⟨blk0,hb⟩:=DQ.1 (uH hfull x hxs);have hk:=hL.get x blk0 hb;rw[hk.2.2.2]at hy;injection hy with hy;refine .inl ⟨x,blk0,?_,(rL ρ omT).symm,?_⟩
  ·have q0:Nat.beq 0 x=false:=by rw[<-eJ];exact λe=>hx0 (aO e).symm
   have q1:Nat.beq 1 x=false:=by rw[<-eJ];exact λe=>hx1 (aO e).symm
   simp only[heapF,q0,q1]at hb⊢;exact hb
  rw[<-hy];exact(yL ρ s s2 blk0 hk.2.2.1).symm
 exact .inr ⟨hy,λx hxs e=>hx ⟨x,hxs,e⟩⟩
theorem pM.fB2{P}{G}{f}{args}{b0 b1 c0 c1}{L}{s}{r}(H:pM P G f args (heapF ((0,b0)::(1,b1)::L)) s (λx h'=>x=r∧h'=heapF ((0,c0)::(1,c1)::L)))(ρ){K}{s2}(hfull:fullB (heapF ((0,b0)::(1,b1)::L)) s=true:=by rfl)(hL:FrL ρ K s s2 ((0,b0)::(1,b1)::L):=by repeat (first|exact trivial|refine⟨⟨rfl,rfl,rfl,rfl⟩,?_⟩))(hi:UQ ρ s=true:=by rfl)(ha:mS s args=true:=by rfl)(hr:eP r=true:=by rfl)(hb0:qM s c0=true:=by rfl)(hb1:qM s c1=true:=by rfl):
  pM P G f (Bg ρ args) K s2 (λx h'=>x=r∧h'=upd (upd K (ρ 0) (some (DI ρ c0))) (ρ 1) (some (DI ρ c1))):=H.frameB2 ρ K s2 hfull hL hi ha hr hb0 hb1
def xA{c}{n}(h:c.okM n)(i){e}(he:e.ok):(setE c i e).okM n:=by
 have hl:(c.agI.set i e).length=c.agI.length:=cC ..;exact⟨⟨h.ok.agL,h.ok.prog,h.ok.progo,h.ok.r,h.ok.agM,h.ok.fet,h.ok.feto,by show(c.agI.set i e).length<=_;rw[hl];exact h.ok.agI,mem_set h.ok.agX he,h.ok.sto,h.ok.stoo,h.ok.data,h.ok.agO,h.ok.agS,h.ok.buso,h.ok.asked,h.ok.agT,h.ok.mem,h.ok.agK,h.ok.ret,h.ok.reto⟩,h.nb,h.cf,h.data,h.agO,h.agK,by show(c.agI.set i e).length<=_;rw[hl];exact h.agI,h.fet,h.sto,h.prog,h.mem,h.std⟩
def Cj{agI}{r}(ho:∀x∈agI,x.ok)(hr:∀k,r k<=4294967295)(i):(mI agI r i).1<=4294967295∧(mI agI r i).2.1<=4294967295:=by
 unfold mI;split
 ·exact⟨Ck ho hr _ _,Ck ho hr _ _⟩
 exact⟨aE _,aE _⟩
def VJ(c)(nb)(hm:c.okM nb)(i)(hi:i<c.agI.length)(A B)(lo n)(kR kF kS kT)(xF xT)(hlo:A.length=lo)(hn:c.agI.length=n)(hA:A.length+n+B.length<=1000):pM C0.P C0.G 75 [.ptr 0 0,vN i] (heapF [(0,.box (mcX c (.osl 1 lo n kR) (.sl 2 xF kF) (.sl 2 (c.agF.map ptL) kS) (.sl 9 xT kT))),(1,.arr ((A++(c).agI++B).map enL) 17)]) 2 (λx h'=>x=.tup []∧h'=heapF [(0,.box (mcX (iS c i) (.osl 1 lo n kR) (.sl 2 xF kF) (.sl 2 (c.agF.map ptL) kS) (.sl 9 xT kT))),(1,.arr ((A++((iS c i)).agI++B).map enL) 17)]):=by
 refine hZ 2 func75 rfl<|nW (.ptr2 1 (lo+i) 0) rfl rfl ixT ?_;obtain⟨x,hx⟩:∃y_,c.agI[i]?=some y_:=⟨_,aA omT⟩;have hxo:=hm.ok.agX x (aB hx);refine zX (enL x) (.agg (enL x)) rfl (iH (jK hlo hx))<|zR<|zL (x:=.tup [vU ((mI c.agI c.r i).1),vU ((mI c.agI c.r i).2.1),vB ((mI c.agI c.r i).2.2)]) rfl (.inr ⟨rfl,⟨(by show lo+n<=((A++c.agI++B).map enL).length;exact omT),tvT,trivial,trivial⟩⟩) ((show bI C0 120 [.sl 17 (List.take n (List.drop lo ((A++c.agI++B).map enL))) kR,.agg (Ks c.r),vN i] _ from by rw[tV (l:=c.agI) hlo (by first|exact hn|(rw[cC];exact hn)|(simp only[cC];exact hn))];exact VK c.agI c.r kR i hm.agI hm.ok.agX hm.ok.r (oH hm.agI)))<|zC (pS x.i)<|zW _ (okB (eqN _ _))<|aV rfl (λh1=>?_) (λh1=>?_)
 ·have h1p:=mT h1;refine cRg<|oR 12 rfl<|rV (vN c.mem.size) rfl<|oR 1 rfl<|rCi rfl (VV x ((c.mem.size:Nat):Int) ((mI c.agI c.r i).1) hxo (oH hm.mem) (Cj hm.ok.agX hm.ok.r i).1)<|nW (.ptr2 1 (lo+i) 0) rfl rfl ixT ?_;refine nM (enL x) rfl rfl rfl (⟨aG _,iH ((jK hlo hx))⟩) (uL hlo omT)<|rE 53 ?_;have e:iS c i=setE c i (yC x ((c.mem.size:Nat):Int) ((mI c.agI c.r i).1)):=by unfold iS;rw[hx];dsimp only;rw[af1 h1p]
  rw[e];exact qXF 0 rfl<|fHu
 have h1p:=nA h1;refine qC 0 rfl<|zW _ (okB (eqN _ _))<|aV rfl (λh2=>?_) (λh2=>?_)
 ·have h2p:=mT h2;refine qCC 0 rfl<|cRg<|oR 12 rfl<|rV (vN c.mem.size) rfl<|oR 1 rfl<|rCi rfl (VV x ((c.mem.size:Nat):Int) ((mI c.agI c.r i).1) hxo (oH hm.mem) (Cj hm.ok.agX hm.ok.r i).1)<|nW (.ptr2 1 (lo+i) 0) rfl rfl ixT ?_;refine nM (enL x) rfl rfl rfl (⟨aG _,iH ((jK hlo hx))⟩) (uL hlo omT)<|rE 55<|qX 0 rfl<|fU _ rfl rfl rfl ((ab8 (setE c i (yC x ((c.mem.size:Nat):Int) ((mI c.agI c.r i).1))) nb (xA hm i (Ik hxo _ _)) i (by show i<(c.agI.set i _).length;rw[cC];exact hi) A B lo n kR kF kS kT xF xT hlo (by show(c.agI.set i _).length=n;rw[cC];exact hn) hA).fB2 (λz=>z)) ?_;rintro _ _ ⟨rfl,rfl⟩;have e:iS c i=oE (setE c i (yC x (c.mem.size:Int) (mI c.agI c.r i).1)) i:=by unfold iS;rw[hx];dsimp only;rw[dZ h1p,af1 h2p]
  rw[e];exact qRF 0 rfl<|fHu
 have h2p:=nA h2;refine cRg<|oR 9 rfl<|rCi rfl (XS x ((mI c.agI c.r i).1) ((mI c.agI c.r i).2.1) hxo (Cj hm.ok.agX hm.ok.r i).1 (Cj hm.ok.agX hm.ok.r i).2)<|nW (.ptr2 1 (lo+i) 0) rfl rfl ixT ?_;refine nM (enL x) rfl rfl rfl (⟨aG _,iH ((jK hlo hx))⟩) (uL hlo omT)<|rE 50 ?_;have e:iS c i=setE c i (rJ x ((mI c.agI c.r i).1) ((mI c.agI c.r i).2.1)):=by unfold iS;rw[hx];dsimp only;rw[dZ h1p,dZ h2p]
 rw[e];exact qXF 0 rfl<|fHu
structure WyG(n k:Nat)(w:Wy):Prop where
 agY:lineOf w.agY=w.agY
 set:w.agY/16%n=k
 data:w.data.size=0∨w.data.size=16
 le:w.agY<=4294967295
structure SetG(n:Nat)(ways:Int)(k:Nat)(s:List Wy):Prop where
 len:(s.length:Int)<=ways
 way:∀w∈s,WyG n k w
 one:(s.map (·.agY)).Nodup
structure CaG(c:Ca):Prop where
 agJ:c.agJ.length=1∨c.agJ.length=2∨c.agJ.length=4
 ways:c.ways=1∨c.ways=2
 set:∀k s,c.agJ[k]?=some s->SetG c.agJ.length c.ways k s
theorem QC:∀{s:List Wy} {agY:Nat},jY s agY=none↔∀w∈s,w.agY≠agY
 |[],_=>by simp[jY]
 |w::l,agY=>by
  unfold jY;by_cases h:w.agY=agY
  ·rw[af1 h];simp[h]
  ·rw[dZ h,Option.map_eq_none_iff,QC];simp[h]
def WZ:∀{s:List Wy},(∀i x,s[i]?=some x->jY (s.take i) x.agY=none)↔(s.map (·.agY)).Nodup:=by
 intro s;rw[List.nodup_iff_pairwise_ne,List.pairwise_map,List.pairwise_iff_getElem];constructor
 ·intro h i j hi hj hij e;exact QC.1 (h j s[j] (aA hj)) s[i] (aB (by rw[cU,af1 hij,aA hi])) e
 intro h j x hx;obtain⟨hj,rfl⟩:=Em.1 hx;refine QC.2 λw hw=>?_;obtain⟨i,hi,rfl⟩:=fY hw;rw[aM]at hi;rw[List.getElem_take];exact h i j omT hj omT
def ab7{c}:CaG c↔gG c=true∧c.ok:=by
 constructor
 ·intro h;refine⟨(jL c).2 ⟨⟨h.agJ,h.ways⟩,λk s hs=>(jX c k s).2 ?_⟩,⟨oH h.agJ,λs hs=>?_⟩⟩
  ·have g:=h.set k s hs;refine⟨g.len,λi x hx=>?_⟩;have gw:=g.way x (aB hx);exact⟨gw.agY,gw.set,gw.data,WZ.2 g.one i x hx⟩
  obtain⟨k,hk,rfl⟩:=fY hs;have g:=h.set k _ (aA hk);refine⟨by have:=g.len;have:=h.ways;omega,λx hx=>⟨(g.way x hx).le⟩⟩
 rintro⟨h,ok⟩;obtain⟨⟨h1,h2⟩,h3⟩:=(jL c).1 h;refine⟨h1,h2,λk s hs=>?_⟩;obtain⟨g1,g2⟩:=(jX c k s).1 (h3 k s hs);refine⟨g1,λw hw=>?_,WZ.1 λi x hx=>(g2 i x hx).2.2.2⟩;obtain⟨i,hi,rfl⟩:=fY hw;have g:=g2 i _ (aA hi);exact⟨g.1,g.2.1,g.2.2.1,((ok.set s (aB hs)).2 _ hw).agY⟩
theorem CaG.with{c}(h:CaG c){k}{s}(hs:SetG c.agJ.length c.ways k s):CaG (rK c k s):=by
 have hl:(c.agJ.set k s).length=c.agJ.length:=cC ..;refine⟨by show(c.agJ.set k s).length=1∨(c.agJ.set k s).length=2∨(c.agJ.set k s).length=4;rw[hl];exact h.agJ,h.ways,λj t ht=>?_⟩;show SetG (c.agJ.set k s).length c.ways j t;rw[hl];rw[show(rK c k s).agJ=c.agJ.set k s from rfl,mV]at ht;split at ht
 ·rename_i e;subst e;split at ht
  ·injection ht with ht;subst ht;exact hs
  cases ht
 exact h.set j t ht
def EV{α}{l:List α}{k}(h:k<l.length):(eY l k).Perm l:=by
 unfold eY;rw[aA h];rw[List.singleton_append,nV];refine(List.perm_middle.symm).trans ?_;rw[<-bF h,afF]
theorem SetG.perm{n}{ways}{k}{s t}(h:SetG n ways k s)(p:t.Perm s):SetG n ways k t:=
 ⟨by rw[p.length_eq];exact h.len,λw hw=>h.way w (p.mem_iff.1 hw),(p.map _).nodup_iff.2 h.one⟩
theorem SetG.modHd{n:Nat}{ways:Int}{k:Nat}{s:List Wy}(h:SetG n ways k s){f:Wy->Wy}(hf:∀w∈s,(f w).agY=w.agY∧((f w).data.size=0∨(f w).data.size=16)):SetG n ways k (modHd f s):=by
 cases s with
 |nil=>exact h
 | cons x l=>
  have hx:=hf x (al_List_mem_cons_self ..);have g:=h.way x (al_List_mem_cons_self ..);refine⟨h.len,λw hw=>?_,?_⟩
  ·rcases al_List_mem_cons.1 hw with rfl|hw
   ·exact⟨by rw[hx.1];exact g.agY,by rw[hx.1];exact g.set,hx.2,by rw[hx.1];exact g.le⟩
   ·exact h.way w (bY _ hw)
  ·show((f x).agY::l.map (·.agY)).Nodup;rw[hx.1];exact h.one
theorem CaG.at{c}(h:CaG c){k}(hk:k<c.agJ.length):SetG c.agJ.length c.ways k (pF c k):=by
 rw[vA (aA hk)];exact h.set k _ (aA hk)
theorem CaG.touch{c}(h:CaG c)(agY):CaG (tO c agY):=by
 by_cases hF:(bK c agY).2.isSome=true
 ·rw[Dw hF];have ff:=pR hF;exact h.with ((h.at ff.2.2.1).perm (EV ff.2.2.2))
 rw[Dx (sU hF)];exact h
def QD(d):(dC d).size=0∨(dC d).size=16:=by
 unfold dC;split
 ·right;assumption
 left;rfl
theorem CaG.put{c}(h:CaG c){agY}(hl:agY<=4294967295)(d)(b):CaG (qZ c agY d b).1:=by
 have hR:=(ab7.1 h).1;by_cases hF:(bK c agY).2.isSome=true
 ·rw[Cn hF];have ff:=pR hF;have g:=(h.at ff.2.2.1).perm (EV ff.2.2.2);refine h.with (g.modHd λw hw=>⟨rfl,?_⟩);split
  ·exact(g.way w hw).data
  exact QD d
 have hF':(bK c agY).2.isSome=false:=sU hF;rw[AR hR hF'];have e:=rI (agY:=agY) hR;have hk:(bK c agY).1<c.agJ.length:=by rw[e];exact AP (kJ hR).1 _
 have hn:jY (pF c (bK c agY).1) (lineOf agY)=none:=by rw[e]at hF' ⊢;simpa using hF'
 have g:=h.at hk;have gw:WyG c.agJ.length (bK c agY).1 ⟨lineOf agY,b,dC d⟩:=⟨by show lineOf (lineOf agY)=lineOf agY;unfold lineOf;omega,by rw[e];rfl,QD d,dV hl⟩;split
 all_goals
  rename_i hw;refine h.with ⟨?_,λw hw=>?_,?_⟩
  ·first|(have:=h.ways;rw[bN,oA])|(have:=g.len;rw[bN];push_cast)
   omega
  ·rcases al_List_mem_cons.1 hw with rfl|hw
   ·exact gw
   first|exact g.way w (oC _ hw)|exact g.way w hw
  rw[jC,List.nodup_cons]
  first|refine⟨λhm=>?_,g.one.sublist ((List.dropLast_sublist _).map _)⟩|refine⟨λhm=>?_,g.one⟩
  obtain⟨w,hw,e⟩:=pG.1 hm
  first|exact QC.1 hn w (oC _ hw) e|exact QC.1 hn w hw e
def OK{d b}{a}(h:b.size+a<=d.size):(Fk d a b).size=d.size:=by
 unfold Fk;simp only[kH,dA];omega
theorem CaG.write{c}(h:CaG c)(a)(b):CaG (xL c a b).1:=by
 by_cases hF:(bK c a).2.isSome=true
 ·have ff:=pR hF;rw[At b hF rfl (aA ff.2.2.2)];split
  ·exact h
  rename_i hq;have g:=(h.at ff.2.2.1).perm (EV ff.2.2.2);have hd:=(h.at ff.2.2.1).way _ (jO ff.2.2.2);have hd2:=hd.data;have e:eY (pF c (bK c a).1) ((bK c a).2.getD 0)=(pF c (bK c a).1)[(bK c a).2.getD 0]::((pF c (bK c a).1).take ((bK c a).2.getD 0)++(pF c (bK c a).1).drop ((bK c a).2.getD 0+1)):=by
   unfold eY;rw[aA ff.2.2.2];rfl
  refine h.with ?_;rw[e]at g⊢;have g1:=g.way _ (al_List_mem_cons_self ..);refine⟨g.len,λw hw=>?_,g.one⟩;rcases al_List_mem_cons.1 hw with rfl|hw
  ·refine⟨g1.agY,g1.set,.inr ?_,g1.le⟩;rw[OK omT];omega
  exact g.way w (bY _ hw)
 rw[GV b (sU hF)];exact h
theorem CaG.clean{c}(h:CaG c)(agY):CaG (wB c agY):=by
 by_cases hF:(bK c agY).2.isSome=true
 ·have ff:=pR hF;rw[Dy hF rfl];have g:=h.at ff.2.2.1;have hm:(((pF c (bK c agY).1).modify ((bK c agY).2.getD 0) λw=>{w with agQ:=false}).map (·.agY))=(pF c (bK c agY).1).map (·.agY):=by
   apply dD;intro i;simp only[aX,oD];split<;>simp[Option.map_map,Function.comp_def]
  refine h.with ⟨by rw[List.length_modify];exact g.len,λw hw=>?_,by rw[hm];exact g.one⟩;obtain⟨i,hi⟩:=List.getElem?_of_mem hw;rw[oD]at hi;obtain⟨v,hv,rfl⟩:=Gi.1 hi;have gv:=g.way v (aB hv);split
  ·exact⟨gv.agY,gv.set,gv.data,gv.le⟩
  exact gv
 rw[Dz (sU hF)];exact h
theorem CaG.agQ{c}(h:CaG c){w}(hw:cR c=some w):w.agY<=4294967295:=by
 unfold cR at hw;split at hw
 ·have:=List.mem_of_find?_eq_some hw;obtain⟨s,hs,hw⟩:=List.mem_flatten.1 this;obtain⟨k,hk,rfl⟩:=fY hs;exact((h.set k _ (aA hk)).way w hw).le
 cases hw
def MS{q}(h:∀x∈q,x.ok){kind}{agY}{left}{d}(hl:agY<=4294967295):∀x∈Bi q kind agY left d,x.ok:=by
 intro x hx;unfold Bi at hx;rcases al_List_mem_append.1 hx with hx|hx
 ·exact h x hx
 rw[uJ.1 hx];exact⟨hl⟩
def Ki(q)(kind)(agY)(left)(d):(Bi q kind agY left d).length=q.length+1:=by unfold Bi;simp
theorem Co.okM.gd{c:Co}{n}(h:c.okM n):CaG c.data:=ab7.2 ⟨h.data,h.ok.data⟩
theorem Co.okM.gw{c:Co}{n}(h:c.okM n):CaG c.agO:=ab7.2 ⟨h.agO,h.ok.agO⟩
theorem Co.okM.mono{c:Co}{n m}(h:c.okM n)(hm:n<=m)(hb:m<=890000):c.okM m:=
 ⟨⟨h.ok.agL,h.ok.prog,h.ok.progo,h.ok.r,h.ok.agM,h.ok.fet,h.ok.feto,h.ok.agI,h.ok.agX,h.ok.sto,h.ok.stoo,h.ok.data,h.ok.agO,aL h.ok.agS hm,h.ok.buso,h.ok.asked,h.ok.agT,h.ok.mem,h.ok.agK,aL h.ok.ret hm,h.ok.reto⟩,hb,h.cf,h.data,h.agO,h.agK,h.agI,h.fet,h.sto,h.prog,h.mem,h.std⟩
def EW(z):wrap64 z<=9223372036854775807:=by unfold wrap64;omega
theorem Co.okM.busData{c:Co}{n}(h:c.okM n){q}{d}{a}(hq:q.length<=n+1)(hqo:∀x∈q,x.ok)(hd:CaG d)(ha:a<=9223372036854775807)(hb:n+1<=890000):Co.okM {c with agS:=q,data:=d,asked:=a} (n+1):=
 ⟨⟨h.ok.agL,h.ok.prog,h.ok.progo,h.ok.r,h.ok.agM,h.ok.fet,h.ok.feto,h.ok.agI,h.ok.agX,h.ok.sto,h.ok.stoo,(ab7.1 hd).2,h.ok.agO,hq,hqo,ha,h.ok.agT,h.ok.mem,h.ok.agK,qJ h.ok.ret,h.ok.reto⟩,hb,h.cf,(ab7.1 hd).1,h.agO,h.agK,h.agI,h.fet,h.sto,h.prog,h.mem,h.std⟩
def sH{c:Co}{n:Nat}(h:c.okM n)(hb:n+1<=890000)(kind:Int){agY:Nat}(hl:agY<=4294967295)(d:ByteArray):(jE c kind agY d).okM (n+1):=
 h.busData (by rw[Ki];have:=h.ok.agS;omega) (MS h.ok.buso hl) h.gd (EW _) hb
def QE{d}{q}{m}{agY}{left}(hd:CaG d)(hq:∀x∈q,x.ok)(hl:agY<=4294967295):CaG (iQ d q m agY left).1∧(iQ d q m agY left).2.1.length<=q.length+1∧∀x∈(iQ d q m agY left).2.1,x.ok:=by
 unfold iQ;split
 ·exact⟨hd,fF _,hq⟩
 split
 ·exact⟨hd.touch _,fF _,hq⟩
 have hp:=hd.put (dV hl) (Ga (jZ q m) (lineOf agY)) false;have hg:=GR (ab7.1 hd).2 (lineOf agY) (Ga (jZ q m) (lineOf agY)) false;generalize qZ d (lineOf agY) (Ga (jZ q m) (lineOf agY)) false=t at hp hg;obtain⟨e,gone,went⟩:=t;dsimp only at hp hg⊢;split
 ·exact⟨hp,by rw[Ki];exact aC _,MS hq hg⟩
 exact⟨hp,fF _,hq⟩
def EX{c}{n}(h:c.okM n)(hb:n+1<=890000){agY}(hl:agY<=4294967295):(oK c agY).okM (n+1):=by
 have hk:=QE (m:=c.mem) (left:=lX c.agL c.asked) h.gd h.ok.buso hl;unfold oK;generalize iQ c.data c.agS c.mem agY _=t at hk;obtain⟨d,q,a⟩:=t;dsimp only at hk⊢;refine h.busData (oH h.ok.agS) hk.2.2 hk.1 ?_ hb;split
 ·exact EW _
 exact h.ok.asked
def QF{l}{c}(hc:CaG c):CaG (sL l c).2.1∧(sL l c).1.length<=l.length∧∀x∈(sL l c).1,x∈l:=by
 unfold sL
 cases l with
 |nil=>exact⟨hc,aC _,λx h=>h⟩
 |cons p l=>
  dsimp only;split
  ·exact⟨hc.write _ _,fF _,λx h=>bY _ h⟩
  ·exact⟨hc,aC _,λx h=>h⟩
def eR{c}{n}(h:c.okM n):(aW c).okM n:=by
 have hk:=QF (l:=c.agF) h.gd;exact⟨⟨h.ok.agL,h.ok.prog,h.ok.progo,h.ok.r,h.ok.agM,h.ok.fet,h.ok.feto,h.ok.agI,h.ok.agX,aL hk.2.1 h.ok.sto,λx hx=>h.ok.stoo x (hk.2.2 x hx),(ab7.1 hk.1).2,h.ok.agO,h.ok.agS,h.ok.buso,h.ok.asked,h.ok.agT,h.ok.mem,h.ok.agK,h.ok.ret,h.ok.reto⟩,h.nb,h.cf,(ab7.1 hk.1).1,h.agO,h.agK,h.agI,h.fet,aL hk.2.1 h.sto,h.prog,h.mem,λx hx=>h.std x (hk.2.2 x hx)⟩
def mO(c):tY c=nP (if(sL c.agF c.data).2.2=false∧(aW c).agF≠[]then tW (aW c)else aW c):=by
 unfold tY aW
 cases hs:c.agF with
 |nil=>simp[sL]
 | cons p l=>
  dsimp only
  cases hq:(sL _ c.data).2.2 with
  |true=>simp
  | false=>
   have:(sL (p::l) c.data).1=p::l:=by
    unfold sL at hq⊢;dsimp only at hq⊢;by_cases hw:(xL c.data p.agZ p.data).2=true
    ·rw[af1 hw]at hq;cases hq
    ·rw[dZ hw]
   simp[this]
def c2a{a b}:cE a b false=(a&&b):=by cases a<;>rfl
def c2o{a b}:cE a true b=(a||b):=by cases a<;>rfl
def tK{d}{p}(hp:d.agF[0]?=some p):tW d=if Ec d.agS (lineOf p.agZ) 3=false∧tA d true=true then jE d 3 (lineOf p.agZ) oZ else d:=by
 unfold tW
 cases hs:d.agF with
 |nil=>rw[hs]at hp;simp at hp
 |cons y l=>rw[hs]at hp;simp at hp;subst hp;rfl
def uZ{d}(h:(cR d.data).isSome=true∧((cR d.data).getD qE).data.size≠0):pE d={jE d 4 ((cR d.data).getD qE).agY ((cR d.data).getD qE).data with data:=wB d.data ((cR d.data).getD qE).agY}:=by
 unfold pE
 cases hd:cR d.data with
 |none=>rw[hd]at h;simp at h
 |some w=>rw[hd]at h;exact af1 h.2
def wZ{d}(h: ¬((cR d.data).isSome=true∧((cR d.data).getD qE).data.size≠0)):pE d=d:=by
 unfold pE
 cases hd:cR d.data with
 |none=>rfl
 |some w=>rw[hd]at h;exact dZ λe=>h ⟨rfl,e⟩
theorem CaG.dirtyLe{c}(h:CaG c):((cR c).getD qE).agY<=4294967295:=by
 cases hd:cR c with
 |none=>exact aE _
 |some w=>exact h.agQ hd
def WY(c)(nb)(hm:c.okM nb)(hb:nb+2<=890000)(kR)(xR)(kF)(xF)(kT)(xT):pM C0.P C0.G 24 [.ptr 0 0] (heapF [(0,.box (mcX c (.sl 17 xR kR) (.sl 2 xF kF) (.sl 2 (c.agF.map ptL) false) (.sl 9 xT kT)))]) 1 (λx h'=>x=.tup []∧h'=heapF [(0,.box (mcX (tY c) (.sl 17 xR kR) (.sl 2 xF kF) (.sl 2 ((tY c).agF.map ptL) false) (.sl 9 xT kT)))]):=by
 refine hZ 1 func24 rfl<|zR<|zC (ZD c.agF c.data hm.ok.data (oH hm.sto) hm.ok.stoo)<|pO rfl rfl<|oR 7 rfl<|rSt rfl<|oR 3 rfl<|rSt rfl<|rE 32<|And.intro (by kernel_rfl)<|qX 0 rfl<|gS rfl id<|gS rfl id<|gS rfl id<|gS rfl id<|gBS rfl id (cD ptL ((aW c).agF))<|gBS rfl id (okB (gtN _ _))<|zN rfl (λh=>h)<|zB rfl (λh1=>?_) (λh1=>?_)
 ·have hns:((sL c.agF c.data).2.2=false∧(aW c).agF≠[]):=by have z:=h1;simpa [c2a,fC]using z
  have hpos:0<(aW c).agF.length:=fC.2 hns.2;obtain⟨p,hp⟩:∃y_,((aW c).agF)[0]?=some y_:=⟨_,aA omT⟩;have hpo:=(eR hm).ok.stoo p (aB hp);refine FO (ptL p) (x:=.dp 2 0 (ptL p)) rfl rfl rfl (⟨dT,iH hp⟩) rfl<|qR 0 rfl<|zC (tN p.agZ hpo.agZ)<|rV (.sl 1 ([[vI 3]]) true) rfl<|zC (x:=vB (Ec c.agS (lineOf p.agZ) 3)) ((show bI C0 _ [_,_,.sl 1 ([(3:Int)].map ae4) true] _ from by rw[<-Kk];exact RQ c.agS (lineOf p.agZ) [3] false true (oH hm.agS) (λx hx=>(hm.ok.buso x hx).agY) (dV hpo.agZ) dT))<|jQ (x:=vB (tA (aW c) true)) (g:= !(Ec c.agS (lineOf p.agZ) 3)) rfl rfl rfl rfl (λh=>h) rfl rfl rfl (.inr ⟨rfl,⟨trivial,trivial,trivial⟩⟩) rfl (λhg=>Ua (aW c) nb (eR hm) (.sl 17 xR kR) (.sl 2 xF kF) (.sl 2 (((aW c).agF).map ptL) false) (.sl 9 xT kT) true)<|zN rfl (λh=>h)<|zB rfl (λh2=>?_) (λh2=>?_)
  ·have hra:(Ec (aW c).agS (lineOf p.agZ) 3=false∧tA (aW c) true=true):=by have z:=h2;show(Ec c.agS _ _=false∧_);simpa [c2a]using z
   refine zH rfl ((Zt (aW c) nb (eR hm) 3 (lineOf p.agZ) (⟨#[]⟩:ByteArray) (dV hpo.agZ) kR xR kF xF false ((aW c).agF.map ptL) kT xT).fB (λz=>z)) ?_;rintro _ _ ⟨rfl,rfl⟩;refine rW (vN (((aW c).agF).length)) rfl (cD ptL ((aW c).agF))<|zW (vB (decide ((((aW c).agF).length)>0))) (okB (gtN _ _))<|gS rfl id<|gS rfl id<|gS rfl id<|gS rfl id<|gBS rfl id rfl<|zN rfl (by simp)<|zB rfl (λh3=>?_) (λh3=>?_)
   ·have hlt:((aW c).agF≠[]∨(jE (aW c) 3 (lineOf p.agZ) (⟨#[]⟩:ByteArray)).halt=0):=by have z:=h3;simpa [c2o,fC]using z
    rw[mO,af1 hns,tK hp,af1 hra];rw[show nP (jE (aW c) 3 (lineOf p.agZ) oZ)=(jE (aW c) 3 (lineOf p.agZ) oZ)from af1 hlt];exact fHu
   have hlt: ¬((aW c).agF≠[]∨(jE (aW c) 3 (lineOf p.agZ) (⟨#[]⟩:ByteArray)).halt=0):=by have z:=h3;simpa [c2o,fC]using z
   refine zC (ao8 (jE (aW c) 3 (lineOf p.agZ) (⟨#[]⟩:ByteArray)).data (sH (eR hm) omT 3 (dV hpo.agZ) oZ).ok.data)<|gS rfl id<|gBS rfl id rfl<|zN rfl (λh=>h)<|aV rfl (λh4=>?_) (λh4=>?_)
   ·have hq4:((cR (jE (aW c) 3 (lineOf p.agZ) (⟨#[]⟩:ByteArray)).data).isSome=true∧((cR (jE (aW c) 3 (lineOf p.agZ) (⟨#[]⟩:ByteArray)).data).getD qE).data.size≠0):=by have z:=h4;rw[afR]at z;simpa [qA]using z
    have hcd:Ca.ok (jE (aW c) 3 (lineOf p.agZ) (⟨#[]⟩:ByteArray)).data:=(sH (eR hm) omT 3 (dV hpo.agZ) oZ).ok.data;refine qC 0 rfl<|zH rfl ((Zt (jE (aW c) 3 (lineOf p.agZ) (⟨#[]⟩:ByteArray)) (nb+1) (sH (eR hm) omT 3 (dV hpo.agZ) oZ) 4 (((cR (jE (aW c) 3 (lineOf p.agZ) (⟨#[]⟩:ByteArray)).data).getD qE).agY) (((cR (jE (aW c) 3 (lineOf p.agZ) (⟨#[]⟩:ByteArray)).data).getD qE).data) ((sH (eR hm) omT 3 (dV hpo.agZ) oZ).gd.dirtyLe) kR xR kF xF false ((aW c).agF.map ptL) kT xT).fB (λz=>z)) ?_;rintro _ _ ⟨rfl,rfl⟩;refine cRg<|oR 8 rfl<|rCi rfl (Iu ((jE (jE (aW c) 3 (lineOf p.agZ) (⟨#[]⟩:ByteArray)) 4 (((cR (jE (aW c) 3 (lineOf p.agZ) (⟨#[]⟩:ByteArray)).data).getD qE).agY) (((cR (jE (aW c) 3 (lineOf p.agZ) (⟨#[]⟩:ByteArray)).data).getD qE).data)).data) (((cR (jE (aW c) 3 (lineOf p.agZ) (⟨#[]⟩:ByteArray)).data).getD qE).agY) hcd ((sH (eR hm) omT 3 (dV hpo.agZ) oZ).gd.dirtyLe))<|oR 3 rfl<|rSt rfl<|rE 121 ?_;rw[mO,af1 hns,tK hp,af1 hra];rw[show nP (jE (aW c) 3 (lineOf p.agZ) oZ)=pE (jE (aW c) 3 (lineOf p.agZ) oZ)from dZ hlt,uZ (d:=(jE (aW c) 3 (lineOf p.agZ) oZ)) hq4];exact qXF 0 rfl<|fHu
   have hq4: ¬((cR (jE (aW c) 3 (lineOf p.agZ) (⟨#[]⟩:ByteArray)).data).isSome=true∧((cR (jE (aW c) 3 (lineOf p.agZ) (⟨#[]⟩:ByteArray)).data).getD qE).data.size≠0):=by have z:=h4;rw[afR]at z;simpa [qA]using z
   rw[mO,af1 hns,tK hp,af1 hra];rw[show nP (jE (aW c) 3 (lineOf p.agZ) oZ)=pE (jE (aW c) 3 (lineOf p.agZ) oZ)from dZ hlt,wZ (d:=(jE (aW c) 3 (lineOf p.agZ) oZ)) hq4];exact qCF 0 rfl<|fHu
  have hra: ¬(Ec (aW c).agS (lineOf p.agZ) 3=false∧tA (aW c) true=true):=by have z:=h2;show ¬(Ec c.agS _ _=false∧_);simpa [c2a]using z
  refine rW (vN (((aW c).agF).length)) rfl (cD ptL ((aW c).agF))<|zW (vB (decide ((((aW c).agF).length)>0))) (okB (gtN _ _))<|gS rfl id<|gS rfl id<|gS rfl id<|gS rfl id<|gBS rfl id rfl<|zN rfl (by simp)<|zB rfl (λh5=>?_) (λh5=>?_)
  ·have hlt:((aW c).agF≠[]∨c.halt=0):=by have z:=h5;simpa [c2o,fC]using z
   rw[mO,af1 hns,tK hp,dZ hra];rw[show nP (aW c)=(aW c)from af1 hlt];exact fHu
  have hlt: ¬((aW c).agF≠[]∨c.halt=0):=by have z:=h5;simpa [c2o,fC]using z
  refine zC (ao8 (aW c).data (eR hm).ok.data)<|gS rfl id<|gBS rfl id rfl<|zN rfl (λh=>h)<|aV rfl (λh6=>?_) (λh6=>?_)
  ·have hq4:((cR (aW c).data).isSome=true∧((cR (aW c).data).getD qE).data.size≠0):=by have z:=h6;rw[afR]at z;simpa [qA]using z
   have hcd:Ca.ok (aW c).data:=(eR hm).ok.data;refine qC 0 rfl<|zH rfl ((Zt (aW c) nb (eR hm) 4 (((cR (aW c).data).getD qE).agY) (((cR (aW c).data).getD qE).data) ((eR hm).gd.dirtyLe) kR xR kF xF false ((aW c).agF.map ptL) kT xT).fB (λz=>z)) ?_;rintro _ _ ⟨rfl,rfl⟩;refine cRg<|oR 8 rfl<|rCi rfl (Iu ((jE (aW c) 4 (((cR (aW c).data).getD qE).agY) (((cR (aW c).data).getD qE).data)).data) (((cR (aW c).data).getD qE).agY) hcd ((eR hm).gd.dirtyLe))<|oR 3 rfl<|rSt rfl<|rE 118 ?_;rw[mO,af1 hns,tK hp,dZ hra];rw[show nP (aW c)=pE (aW c)from dZ hlt,uZ hq4];exact qXF 0 rfl<|fHu
  have hq4: ¬((cR (aW c).data).isSome=true∧((cR (aW c).data).getD qE).data.size≠0):=by have z:=h6;rw[afR]at z;simpa [qA]using z
  rw[mO,af1 hns,tK hp,dZ hra];rw[show nP (aW c)=pE (aW c)from dZ hlt,wZ hq4];exact qCF 0 rfl<|fHu
 have hns: ¬((sL c.agF c.data).2.2=false∧(aW c).agF≠[]):=by have z:=h1;simpa [c2a,fC]using z
 refine rW (vN (((aW c).agF).length)) rfl (cD ptL ((aW c).agF))<|zW (vB (decide ((((aW c).agF).length)>0))) (okB (gtN _ _))<|gS rfl id<|gS rfl id<|gS rfl id<|gS rfl id<|gBS rfl id rfl<|zN rfl (by simp)<|zB rfl (λh7=>?_) (λh7=>?_)
 ·have hlt:((aW c).agF≠[]∨c.halt=0):=by have z:=h7;simpa [c2o,fC]using z
  rw[mO,dZ hns];rw[show nP (aW c)=(aW c)from af1 hlt];exact fHu
 have hlt: ¬((aW c).agF≠[]∨c.halt=0):=by have z:=h7;simpa [c2o,fC]using z
 refine zC (ao8 (aW c).data (eR hm).ok.data)<|gS rfl id<|gBS rfl id rfl<|zN rfl (λh=>h)<|aV rfl (λh8=>?_) (λh8=>?_)
 ·have hq4:((cR (aW c).data).isSome=true∧((cR (aW c).data).getD qE).data.size≠0):=by have z:=h8;rw[afR]at z;simpa [qA]using z
  have hcd:Ca.ok (aW c).data:=(eR hm).ok.data;refine qC 0 rfl<|zH rfl ((Zt (aW c) nb (eR hm) 4 (((cR (aW c).data).getD qE).agY) (((cR (aW c).data).getD qE).data) ((eR hm).gd.dirtyLe) kR xR kF xF false ((aW c).agF.map ptL) kT xT).fB (λz=>z)) ?_;rintro _ _ ⟨rfl,rfl⟩;refine cRg<|oR 8 rfl<|rCi rfl (Iu ((jE (aW c) 4 (((cR (aW c).data).getD qE).agY) (((cR (aW c).data).getD qE).data)).data) (((cR (aW c).data).getD qE).agY) hcd ((eR hm).gd.dirtyLe))<|oR 3 rfl<|rSt rfl<|rE 95 ?_;rw[mO,dZ hns];rw[show nP (aW c)=pE (aW c)from dZ hlt,uZ hq4];exact qXF 0 rfl<|fHu
 have hq4: ¬((cR (aW c).data).isSome=true∧((cR (aW c).data).getD qE).data.size≠0):=by have z:=h8;rw[afR]at z;simpa [qA]using z
 rw[mO,dZ hns];rw[show nP (aW c)=pE (aW c)from dZ hlt,wZ hq4];exact qCF 0 rfl<|fHu
def XZ(a)(k)(w):Calls Tryz.prog 50 #[.slice (some a) 0 k] w λe w'=>∃v,e=.returned v∧Below w.heap.size w w'∧∃A c,v=.slice A 0 c∧c<=maxLen:=by
 obtain⟨i0,z0,hi, -⟩:=(c0Ok.ty 92 _ rfl).info
 go_enter func50,ntmps50
 have hb:Sem.run Tryz.prog (binOp .eql 31 (.slice (some a) 0 k) (.slice none 0 0)) w=.ok (.bool false) w:=by
  have e1:(Op.equal 31 (.slice (some a) 0 k) (.slice none 0 0)).run Tryz.prog w=.ok (some a).isNone w:=Bx Tryz.prog w 9999 _ 92 (c0Ok.ty 31 _ rfl).kd _ _ _;simp only[binOp,Sem.run_bind,e1,Result.andThen_ok];rfl
 go_wp2_with (first|(rw[hb];simp only[Result.andThen_ok,Oper.upon])|(at_builtin;refine yE rfl (.tmp 5) (.tmp 6) 31 rfl 92 i0 (c0Ok.ty 31 _ rfl).kd hi _ _ _ _ rfl rfl ?_))
 go_ret
 exact⟨_,rfl,(Below.refl _ _).alloc (aC _) _,_,_,rfl,aE _⟩
def NQ(k):bI C0 50 [.v (.slice none 0 k)] (.sl 0 [] true):=by
 refine dIZ func50 rfl<|rV _ rfl<|qRF 1 rfl ?_;exact fT rfl rfl
def Va(ck):bI C0 50 [.sl 17 [] ck] (.sl 17 [] false):=by
 refine⟨(NQ 0).1,λS w vs hS hG hr=>?_⟩
 match vs,hr with
 |[],hr=>simp[RepL]at hr
 |_::_::_,hr=>simp[RepL]at hr
 | [v],hr=>
  have h0:=hr.2 0 _ v rfl rfl
  cases h0 with
  | sl _ _ _ A c b o u hc hm hcl hrs hA hw h1 h'=>
   cases A with
   |none=>exact((NQ c).sub (oM 17 false)).2 S w _ hS hG (RepL.cons (.v _) (RepL.nil _ _ _))
   |some a=>
    exact(XZ a c w).mono λe w' ⟨v,h1,h2,A,c',h3,h4⟩=>⟨v,h1,h2,h3 ▸ .sl 17 [] false A c' 0 0 (λ_ _=>.bool false) (aE _) h4 (λh=>by cases h) (λ_ h=>by cases h) (λh=>absurd h (iI 0)) (λi row j a h=>by simp at h) (λ_ _=>rfl) λi row j a h=>by simp at h⟩
def Vb{p}{H}{s}(e)(l):Res.fx p (.osl s 0 (([]:List (List AV)).length+((e::l).map enL).length) false) (upd H s (some (.arr (([]:List (List AV))++(e::l).map enL) 17)))=.fx p (.osl s 0 (l.length+1) false) (upd H s (some (.arr ((e::l).map enL) 17))):=by
 rw[iA,aH,bN,cX,bJ]
def Ya(e)(l)(ck)(hl:l.length<=1000):pM C0.P C0.G 50 [.sl 17 ((e::l).map enL) ck] (heapF []) 0 (λx h'=>x=.osl 0 0 (l.length+1) false∧h'=heapF [(0,.arr ((e::l).map enL) 17)]):=by
 refine HCall.intro c0Ok.at func50 rfl rfl (by kernel_rfl) rfl rfl<|qS 0 rfl<|rV _ rfl<|qR 1 rfl<|zV (.sl 17 ([]) true)<|zF (Vb e l) (⟨by simp only[aH,bN,cX,jH];omega,by simp,trivial,trivial⟩) ?_;exact BH rfl ⟨rfl,rfl⟩ rfl (af8 (λ_=>5) rfl rfl wH rfl)
def VW(l:List Ft)(ck)(hl:l.length<=1000000):bI C0 51 [.sl 2 (l.map ftL) ck] (.sl 2 (l.map ftL) true):=by
 refine dIZ func51 rfl<|zW _ (cD ftL l)<|rW _ rfl (cD ftL l)<|zM _ (yB (vY ftL l l.length)) (by refine⟨?_,?_,?_,?_⟩;all_goals (first|exact aG _|decide|(apply FG.2;exact omT)|(show(_:Int)=(_:Int);congr 1;omega)|rfl))<|fT rfl ?_;show AV.sl 2 _ true=_;rw[cH]
def VX(l:List Pt)(ck)(hl:l.length<=1000000):bI C0 52 [.sl 2 (l.map ptL) ck] (.sl 2 (l.map ptL) true):=by
 refine dIZ func52 rfl<|zW _ (cD ptL l)<|rW _ rfl (cD ptL l)<|zM _ (yB (vY ptL l l.length)) (by refine⟨?_,?_,?_,?_⟩;all_goals (first|exact aG _|decide|(apply FG.2;exact omT)|(show(_:Int)=(_:Int);congr 1;omega)|rfl))<|fT rfl ?_;show AV.sl 2 _ true=_;rw[cH]
def VY(l:List Req)(ck)(hl:l.length<=1000000):bI C0 53 [.sl 4 (l.map rqL) ck] (.sl 4 (l.map rqL) true):=by
 refine dIZ func53 rfl<|zW _ (cD rqL l)<|rW _ rfl (cD rqL l)<|zM _ (yB (vY rqL l l.length)) (by refine⟨?_,?_,?_,?_⟩;all_goals (first|exact aG _|decide|(apply FG.2;exact omT)|(show(_:Int)=(_:Int);congr 1;omega)|rfl))<|fT rfl ?_;show AV.sl 4 _ true=_;rw[cH]
def VZ(l:List Sp)(ck)(hl:l.length<=1000000):bI C0 54 [.sl 9 (l.map spL) ck] (.sl 9 (l.map spL) true):=by
 refine dIZ func54 rfl<|zW _ (cD spL l)<|rW _ rfl (cD spL l)<|zM _ (yB (vY spL l l.length)) (by refine⟨?_,?_,?_,?_⟩;all_goals (first|exact aG _|decide|(apply FG.2;exact omT)|(show(_:Int)=(_:Int);congr 1;omega)|rfl))<|fT rfl ?_;show AV.sl 9 _ true=_;rw[cH]
def qQ{c:Co}{fz:Fz}{R R' F F' S S' T T':AV}(hR:LeZ fz R R')(hF:LeZ fz F F')(hS:LeZ fz S S')(hT:LeZ fz T T'):LeL fz (mcX c R F S T) (mcX c R' F' S' T'):=
 ⟨.refl _,.refl _,.refl _,.refl _,.refl _,.refl _,.refl _,.refl _,.refl _,.refl _,.refl _,.refl _,.refl _,.refl _,.refl _,.refl _,.refl _,.refl _,.refl _,.refl _,.refl _,.refl _,.refl _,.refl _,.refl _,.refl _,.refl _,.refl _,.refl _,.refl _,.refl _,.refl _,.refl _,.refl _,.refl _,.refl _,.refl _,.refl _,.refl _,.refl _,.refl _,.refl _,.refl _,.refl _,.refl _,.refl _,.refl _,hF,hR,.refl _,hS,.refl _,.refl _,.refl _,.refl _,.refl _,.refl _,.refl _,.refl _,.refl _,.refl _,.refl _,.refl _,hT,trivial⟩
def SY{C:Ctx}{fn:Func}{Post:AV->AH->Prop}{s:Nat}{st stg:ASt}{rs:List AV}(h1:resA C st fn.results.toList=some rs)(hg:Ghosts ⟨Ge (Dp rs),st.h,st.n⟩ stg){r:AV}{h':AH}{σ:Nat->Nat}(hP:Post r h')(hk:keepB s σ (s+1)=true)(hW:Weak stg ⟨Ge r,h',s+1⟩ σ):
  ∃rs,resA C st fn.results.toList=some rs∧GhostN ⟨Ge (Dp rs),st.h,st.n⟩ (λstg=>∃r h' σ,Post r h'∧keepB s σ (s+1)=true∧Weak stg ⟨Ge r,h',s+1⟩ σ):=
 ⟨rs,h1,.mk _ hg ⟨r,h',σ,hP,hk,hW⟩⟩
def qT{x r}{h}{n0}{hp}{n}(σ)(hx:x=uW σ r)(hb:mR n r=true)(hh:WH ⟨slotsF [(0,x)],h,n0⟩ n σ hp)(hi:En ((hp.map (·.1)).map σ)=true):Weak ⟨slotsF [(0,x)],h,n0⟩ ⟨Ge r,heapF hp,n⟩ σ:=by
 have W:=wOL (l:=[(0,r)]) σ ⟨⟨hx,hb⟩,trivial⟩ hh hi;refine⟨λi=>?_,W.h,W.inj⟩;have:=W.t i
 cases i with
 |zero=>exact this
 |succ i=>exact .inl rfl
theorem Ghosts.snoc{a b c}{fz}(h:Ghosts a b)(k:Ghost b c fz):Ghosts a c:=by
 induction h with
 |refl=>exact .step fz k (.refl _)
 |step f g _ ih=>exact .step f g (ih k)
abbrev fzB (fz:Fz) (i:Nat):Prop:=match fz with|some (b,_,_)=>Nat.beq i b=false|none=>True
abbrev fzH (fz:Fz) (h:AH):Prop:=match fz with|some (x,rs,rows)=>h x=some (.arr rows rs)|none=>True
def ghX{st:ASt}{fz:Fz}{i:Nat}{cs ds:List AV}{l:List (Nat×Blk)}(h0:st.h i=some (.box cs))(hle:LeL fz cs ds)(hl:GH st fz l)(hz:fzB fz i:=by first|exact trivial|rfl):GH st fz ((i,.box ds)::l):=⟨⟨by rcases fz with _|⟨b,r,q⟩<;>exact hz,_,h0,.boxL hle⟩,hl⟩
def ghA{st:ASt}{fz:Fz}{i:Nat}{b:Blk}{l:List (Nat×Blk)}(h0:st.h i=some b)(hl:GH st fz l)(hz:fzB fz i:=by first|exact trivial|rfl):GH st fz ((i,b)::l):=⟨⟨by rcases fz with _|⟨b,r,q⟩<;>exact hz,_,h0,.refl _⟩,hl⟩
def Jg{C:Ctx}{fn:Func}{Post:AV->AH->Prop}{s:Nat}{st a:ASt}{hp:List (Nat×Blk)}(hg:Ghosts ⟨Ge (.tup []),st.h,st.n⟩ a)(fz:Fz)(hP:Post (.tup []) (heapF hp))(hG:GH a fz hp)(h1:resA C st fn.results.toList=some []:=by rfl)(hb:fzH fz a.h:=by first|exact trivial|rfl)(ht:LeZ fz (a.t 0) (.tup []):=by exact .refl _)(hk:keepB s (λz=>z) (s+1)=true:=by rfl)(hh:WH ⟨slotsF [(0,.tup [])],heapF hp,a.n⟩ (s+1) (λz=>z) hp:=by exact wH)(hi:En ((hp.map (·.1)).map (λz=>z))=true:=by rfl):
  ∃rs,resA C st fn.results.toList=some rs∧GhostN ⟨Ge (Dp rs),st.h,st.n⟩ (λstg=>∃r h' σ,Post r h'∧keepB s σ (s+1)=true∧Weak stg ⟨Ge r,h',s+1⟩ σ):=
 SY h1 (hg.snoc (gOL (l:=[(0,.tup [])]) (by rcases fz with _|⟨b,r,q⟩<;>exact hb) ⟨ht,trivial⟩ hG)) hP hk (qT (λz=>z) rfl rfl hh hi)
def acQ(c)(nb)(hm:c.okM nb)(kR kF kS kT):pM C0.P C0.G 17 [.ptr 0 0] (heapF [(0,.box (mcX c (.sl 17 [] kR) (.sl 2 (c.agH.map ftL) kF) (.sl 2 (c.agF.map ptL) kS) (.sl 9 (c.agG.map spL) kT)))]) 1 (λx h'=>x=.tup []∧h'=heapF [(0,.box (mcX c (.sl 17 [] false) (.sl 2 (c.agH.map ftL) true) (.sl 2 (c.agF.map ptL) true) (.sl 9 (c.agG.map spL) true)))]):=by
 refine HCall.intro (C:=C0) c0Ok.at func17 rfl rfl (by kernel_rfl) rfl rfl<|qS 0 rfl<|rCi rfl (Va kR)<|qRN 0 rfl<|rSt rfl<|qR 0 rfl<|rCi rfl (VW c.agH kF (oH hm.fet))<|qRN 0 rfl<|rSt rfl<|qR 0 rfl<|rCi rfl (VX c.agF kS (oH hm.sto))<|qRN 0 rfl<|rSt rfl<|qR 0 rfl<|zC (VY c.agS false (oH hm.agS))<|zC (VZ c.agG kT (oH hm.ret)) ?_;exact SY rfl (.step none (gOL (l:=[(0,.tup [])]) (hp:=[(0,.box (mcX c (.sl 17 [] false) (.sl 2 (c.agH.map ftL) true) (.sl 2 (c.agF.map ptL) true) (.sl 9 (c.agG.map spL) true)))]) trivial ⟨.refl _,trivial⟩ ⟨⟨trivial,_,rfl,LeB.boxL ⟨.refl _,.refl _,.refl _,.refl _,.refl _,.refl _,.refl _,.refl _,.refl _,.refl _,.refl _,.refl _,.refl _,.refl _,.refl _,.refl _,.refl _,.refl _,.refl _,.refl _,.refl _,.refl _,.refl _,.refl _,.refl _,.refl _,.refl _,.refl _,.refl _,.refl _,.refl _,.refl _,.refl _,.refl _,.refl _,.refl _,.refl _,.refl _,.refl _,.refl _,.refl _,.refl _,.refl _,.refl _,.refl _,.refl _,.refl _,.refl _,.refl _,.refl _,.refl _,.refl _,.refl _,.refl _,.refl _,.clip _ _,.refl _,.refl _,.refl _,.refl _,.refl _,.refl _,.refl _,.refl _,trivial⟩⟩,trivial⟩) (.refl _)) (σ:=λz=>z) ⟨rfl,rfl⟩ rfl (qT (λz=>z) rfl rfl wH rfl)
def acR(c)(nb)(hm:c.okM nb)(e)(l)(hel:(e::l).length<=1000)(kR kF kS kT):pM C0.P C0.G 17 [.ptr 0 0] (heapF [(0,.box (mcX c (.sl 17 ((e::l).map enL) kR) (.sl 2 (c.agH.map ftL) kF) (.sl 2 (c.agF.map ptL) kS) (.sl 9 (c.agG.map spL) kT)))]) 1 (λx h'=>x=.tup []∧h'=heapF [(0,.box (mcX c (.osl 1 0 (l.length+1) false) (.sl 2 (c.agH.map ftL) true) (.sl 2 (c.agF.map ptL) true) (.sl 9 (c.agG.map spL) true))),(1,.arr ((e::l).map enL) 17)]):=by
 refine HCall.intro (C:=C0) c0Ok.at func17 rfl rfl (by kernel_rfl) rfl rfl ?_;have hel2:l.length+1<=1000:=hel;refine qS 0 rfl<|fU _ rfl rfl rfl ((Ya e l kR omT).frame0 _ _ rfl) ?_;rintro _ _ ⟨rfl,rfl⟩;refine qRN 0 rfl<|rSt rfl<|qR 0 rfl<|rCi rfl (VW c.agH kF (oH hm.fet))<|qRN 0 rfl<|rSt rfl<|qR 0 rfl<|rCi rfl (VX c.agF kS (oH hm.sto))<|qRN 0 rfl<|rSt rfl<|qR 0 rfl<|zC (VY c.agS false (oH hm.agS))<|zC (VZ c.agG kT (oH hm.ret)) ?_;exact SY rfl (.step none (gOL (l:=[(0,.tup [])]) (hp:=[(0,.box (mcX c (.osl 7 0 (l.length+1) false) (.sl 2 (c.agH.map ftL) true) (.sl 2 (c.agF.map ptL) true) (.sl 9 (c.agG.map spL) true))),(7,.arr ((e::l).map enL) 17)]) trivial ⟨.refl _,trivial⟩ ⟨⟨trivial,_,rfl,LeB.boxL ⟨.refl _,.refl _,.refl _,.refl _,.refl _,.refl _,.refl _,.refl _,.refl _,.refl _,.refl _,.refl _,.refl _,.refl _,.refl _,.refl _,.refl _,.refl _,.refl _,.refl _,.refl _,.refl _,.refl _,.refl _,.refl _,.refl _,.refl _,.refl _,.refl _,.refl _,.refl _,.refl _,.refl _,.refl _,.refl _,.refl _,.refl _,.refl _,.refl _,.refl _,.refl _,.refl _,.refl _,.refl _,.refl _,.refl _,.refl _,.refl _,.refl _,.refl _,.refl _,.refl _,.refl _,.refl _,.refl _,.clip _ _,.refl _,.refl _,.refl _,.refl _,.refl _,.refl _,.refl _,.refl _,trivial⟩⟩,⟨trivial,_,rfl,.refl _⟩,trivial⟩) (.refl _)) (σ:=λz=>match z with|1=>7|z=>z) ⟨rfl,rfl⟩ rfl (qT (λz=>match z with|1=>7|z=>z) rfl rfl wH rfl)
def Qz{g}(h:g.ok)(pc)(i):xC g pc i<=4294967295:=by
 unfold xC;split
 ·split
  ·cases hl:g.rets.getLast? with
   |none=>exact aE _
   |some x=>exact h.ro x (List.mem_of_getLast? hl)
  ·cases hs:g.agP[gO g pc]? with
   |none=>exact uT _
   |some s=>
    dsimp only;split
    ·exact(h.so s (aB hs)).next
    ·exact uT _
 ·exact uT _
def QA{c}(h:∀x∈c.tape,x<=4294967295)(k)(pc):yG c k pc<=4294967295:=by
 have hp:=Iq h;unfold yG;generalize (bZ c).tape=l at hp
 cases l with
 |nil=>exact uT _
 |cons y l=>
  show(y::l).getD _ _<=_;rw[aR]
  cases hq:(y::l)[(max k 0).toNat%(y::l).length]? with
  |none=>exact aE _
  |some x=>exact hp x (aB hq)
def QB{c}{n}(h:c.okM n)(w):(dM c w).2<=4294967295:=by
 unfold dM;split
 ·exact uT _
 split
 ·exact Qz h.ok.agK _ _
 exact QA h.agL.tp _ _
def Bn(c)(w):(dM c w).1.agH=c.agH:=by
 unfold dM;split
 ·rfl
 split<;>rfl
def lJ(d:Co):Co:={d with agO:=tO d.agO (lineOf d.agM)}
def AM{c}{n}(h:c.okM n):(lJ c).okM n:=by
 have g:=ab7.1 (h.gw.touch (lineOf c.agM));exact⟨⟨h.ok.agL,h.ok.prog,h.ok.progo,h.ok.r,h.ok.agM,h.ok.fet,h.ok.feto,h.ok.agI,h.ok.agX,h.ok.sto,h.ok.stoo,h.ok.data,g.2,h.ok.agS,h.ok.buso,h.ok.asked,h.ok.agT,h.ok.mem,h.ok.agK,h.ok.ret,h.ok.reto⟩,h.nb,h.cf,h.data,g.1,h.agK,h.agI,h.fet,h.sto,h.prog,h.mem,h.std⟩
def OJ{c}{n}(h:c.okM n)(w):(dM c w).1.okM n:=by
 unfold dM;split
 ·exact h
 split
 ·exact h
 exact⟨⟨h.ok.agL,h.ok.prog,h.ok.progo,h.ok.r,h.ok.agM,h.ok.fet,h.ok.feto,h.ok.agI,h.ok.agX,h.ok.sto,h.ok.stoo,h.ok.data,h.ok.agO,h.ok.agS,h.ok.buso,h.ok.asked,EW _,h.ok.mem,h.ok.agK,h.ok.ret,h.ok.reto⟩,h.nb,h.cf,h.data,h.agO,h.agK,h.agI,h.fet,h.sto,h.prog,h.mem,h.std⟩
def LL{c}{n}(h:c.okM n)(hf:c.agH.length<=999){x}(hx:x<=4294967295):(LU c x).okM n:=by
 have hl:(c.agH++[(⟨c.agM,x⟩:Ft)]).length<=1000:=by simp;omega
 exact⟨⟨h.ok.agL,h.ok.prog,h.ok.progo,h.ok.r,hx,aL hl dT,sJ h.ok.feto (sK ⟨h.ok.agM,hx⟩),h.ok.agI,h.ok.agX,h.ok.sto,h.ok.stoo,h.ok.data,h.ok.agO,h.ok.agS,h.ok.buso,h.ok.asked,h.ok.agT,h.ok.mem,h.ok.agK,h.ok.ret,h.ok.reto⟩,h.nb,h.cf,h.data,h.agO,h.agK,h.agI,hl,h.sto,h.prog,h.mem,h.std⟩
def zP(d:Co):Co:=LU (dM (lJ d) (fetchW d.prog d.agM)).1 (dM (lJ d) (fetchW d.prog d.agM)).2
def tU(d):(zP d).agH=d.agH++[⟨(dM (lJ d) (fetchW d.prog d.agM)).1.agM,(dM (lJ d) (fetchW d.prog d.agM)).2⟩]:=by
 show(dM (lJ d) _).1.agH++_=_;rw[Bn];rfl
def CW{c:Co}{n:Nat}(h:c.okM n)(hf:c.agH.length<=999):(zP c).okM n:=
 LL (OJ (AM h) _) (by rw[Bn];exact hf) (QB (AM h) _)
def yZ{d}{n}(h:d.stop=true∨(d.agH.length:Int)>=d.agL.queue):eL n d=d:=by
 cases n with
 |zero=>rfl
 |succ n=>exact af1 h
def Aq{d}{n}(hn:0<n)(h: ¬(d.stop=true∨(d.agH.length:Int)>=d.agL.queue))(hf:(fetchP d.prog d.agM).isSome=false):eL n d={d with agH:=d.agH++[⟨d.agM,up4 d.agM⟩],stop:=true}:=by
 cases n with
 |zero=>cases hn
 |succ n=>exact(dZ h).trans (af1 hf)
def uD{d}{n}(hn:0<n)(h: ¬(d.stop=true∨(d.agH.length:Int)>=d.agL.queue))(hf: ¬(fetchP d.prog d.agM).isSome=false)(hw:(bK d.agO (lineOf d.agM)).2.isSome=false):eL n d=if Ec d.agS (lineOf d.agM) 2=false∧tA d false=true then jE d 2 (lineOf d.agM) oZ else d:=by
 cases n with
 |zero=>cases hn
 |succ n=>exact((dZ h).trans (dZ hf)).trans (af1 hw)
def BC{d}{n k}(hn:k<n)(h: ¬(d.stop=true∨(d.agH.length:Int)>=d.agL.queue))(hf: ¬(fetchP d.prog d.agM).isSome=false)(hw: ¬(bK d.agO (lineOf d.agM)).2.isSome=false):eL (n-(k+1)) (zP d)=eL (n-k) d:=by
 rw[(oT:n-k=(n-(k+1))+1)];exact(((dZ h).trans (dZ hf)).trans (dZ hw)).symm
def WX(c)(nb)(hm:c.okM nb)(w)(hw:w<=4294967295)(kR)(xR)(kF)(xF)(kS)(xS)(kT)(xT):pM C0.P C0.G 83 [.ptr 0 0,vU w] (heapF [(0,.box (mcX c (.sl 17 xR kR) (.sl 2 xF kF) (.sl 2 xS kS) (.sl 9 xT kT)))]) 1 (λx h'=>x=vU (dM c w).2∧h'=heapF [(0,.box (mcX (dM c w).1 (.sl 17 xR kR) (.sl 2 xF kF) (.sl 2 xS kS) (.sl 9 xT kT)))]):=by
 refine hZ 1 func83 rfl<|zC (IV w (CI hw))<|zW _ (okB (neN _ _))<|jQ rfl rfl rfl rfl (λh=>h) rfl rfl rfl (.inl rfl) rfl (λhg=>pS (decN w))<|gBS rfl id (okB (neN _ _))<|zN rfl (by simp)<|zB rfl (λh1=>?_) (λh1=>?_)
 ·have hk1:(opOf w=0∨kindOf (decN w).op≠5):=by have z:=h1;have e:=Cl w;simp only[c2o,dE,dP,pX,iC,ne_eq]at z;grind
  have b1:(c.agM+4)%4294967296<=4294967295:=aI (aQ _ dT);refine zV (vU ((c.agM+4)%4294967296)) ?_;rw[show dM c w=(c,up4 c.agM)from af1 hk1];exact BH rfl ⟨rfl,rfl⟩ rfl (af8 (λz=>z) rfl rfl wH rfl)
 have hk1: ¬(opOf w=0∨kindOf (decN w).op≠5):=by have z:=h1;have e:=Cl w;simp only[c2o,dE,dP,pX,iC,ne_eq]at z;grind
 refine zB rfl (λh2=>?_) (λh2=>?_)
 ·refine zR<|zC (RJ c.agK c.agM (decN w) hm.ok.agK hm.ok.agM (aI (IU w))) ?_;rw[show dM c w=(c,xC c.agK c.agM (decN w))from(dZ hk1).trans (af1 h2)];exact BH rfl ⟨rfl,rfl⟩ rfl (af8 (λz=>z) rfl rfl wH rfl)
 refine zR<|zC (QV c.agL c.agT c.agM hm.agL hm.ok.agT hm.ok.agM)<|rW _ rfl (okI (w64 _))<|qRN 0 rfl<|rSt rfl<|qRF 0 rfl ?_;rw[show dM c w=({c with agT:=wrap64 (c.agT+1)},yG c.agL c.agT c.agM)from(dZ hk1).trans (dZ (by rw[h2];decide))];exact BH rfl ⟨rfl,rfl⟩ rfl (af8 (λz=>z) rfl rfl wH rfl)
def TY(c)(nb)(hm:c.okM nb)(w)(hw:w<=4294967295)(kR)(xR)(lF nF)(kF)(rF)(kS)(xS)(kT)(xT):pM C0.P C0.G 83 [.ptr 0 0,vU w] (heapF [(0,.box (mcX c (.sl 17 xR kR) (.osl 1 lF nF kF) (.sl 2 xS kS) (.sl 9 xT kT))),(1,.arr rF 2)]) 2 (λx h'=>x=vU (dM c w).2∧h'=heapF [(0,.box (mcX (dM c w).1 (.sl 17 xR kR) (.osl 1 lF nF kF) (.sl 2 xS kS) (.sl 9 xT kT))),(1,.arr rF 2)]):=by
 refine hZ 2 func83 rfl<|zC (IV w (CI hw))<|zW _ (okB (neN _ _))<|jQ rfl rfl rfl rfl (λh=>h) rfl rfl rfl (.inl rfl) rfl (λhg=>pS (decN w))<|gBS rfl id (okB (neN _ _))<|zN rfl (by simp)<|zB rfl (λh1=>?_) (λh1=>?_)
 ·have hk1:(opOf w=0∨kindOf (decN w).op≠5):=by have z:=h1;have e:=Cl w;simp only[c2o,dE,dP,pX,iC,ne_eq]at z;grind
  have b1:(c.agM+4)%4294967296<=4294967295:=aI (aQ _ dT);refine zV (vU ((c.agM+4)%4294967296)) ?_;rw[show dM c w=(c,up4 c.agM)from af1 hk1];exact BH rfl ⟨rfl,rfl⟩ rfl (af8 (λz=>z) rfl rfl wH rfl)
 have hk1: ¬(opOf w=0∨kindOf (decN w).op≠5):=by have z:=h1;have e:=Cl w;simp only[c2o,dE,dP,pX,iC,ne_eq]at z;grind
 refine zB rfl (λh2=>?_) (λh2=>?_)
 ·refine zR<|zC (RJ c.agK c.agM (decN w) hm.ok.agK hm.ok.agM (aI (IU w))) ?_;rw[show dM c w=(c,xC c.agK c.agM (decN w))from(dZ hk1).trans (af1 h2)];exact BH rfl ⟨rfl,rfl⟩ rfl (af8 (λz=>z) rfl rfl wH rfl)
 refine zR<|zC (QV c.agL c.agT c.agM hm.agL hm.ok.agT hm.ok.agM)<|rW _ rfl (okI (w64 _))<|qRN 0 rfl<|rSt rfl<|qRF 0 rfl ?_;rw[show dM c w=({c with agT:=wrap64 (c.agT+1)},yG c.agL c.agT c.agM)from(dZ hk1).trans (dZ (by rw[h2];decide))];exact BH rfl ⟨rfl,rfl⟩ rfl (af8 (λz=>z) rfl rfl wH rfl)
def TZ(c)(nb)(hm:c.okM nb)(kR)(xR)(kS)(xS)(kT)(xT):pM C0.P C0.G 23 [.ptr 0 0] (heapF [(0,.box (mcX c (.sl 17 xR kR) (.sl 2 (c.agH.map ftL) true) (.sl 2 xS kS) (.sl 9 xT kT)))]) 1 (λx h'=>x=.tup []∧h'=heapF [(0,.box (mcX (eN c) (.sl 17 xR kR) (.sl 2 ((eN c).agH.map ftL) false) (.sl 2 xS kS) (.sl 9 xT kT)))]):=by
 refine hZ 1 func23 rfl ?_;obtain⟨W,hW,hW2⟩:∃W:Nat,c.agL.agN=(W:Int)∧W<=2:=⟨c.agL.agN.toNat,oH (pD hm.cf),oH (pD hm.cf)⟩;refine zVB (c.halt != 0) (λh1=>?_) (λh1=>?_)
 ·have h1p:=wM h1;have e:eN c=c:=af1 h1p;rw[e];exact Jg (.refl _) none ⟨rfl,rfl⟩ (ghX rfl (qQ (.refl _) (.clip _ _) (.refl _) (.refl _)) trivial)
 ·have h1p:=wN h1;refine sX (λz_=>match z_ with|(k,d,false)=>⟨slotsF [(0,.ptr 0 0),(14,vB (c.halt != 0)),(20,vI c.agL.agN),(21,vN k)],heapF [(0,.box (mcX d (.sl 17 xR kR) (.sl 2 (d.agH.map ftL) true) (.sl 2 xS kS) (.sl 9 xT kT)))],15⟩|(k,d,true)=>⟨slotsF [(0,.ptr 0 0),(14,vB (c.halt != 0)),(20,vI c.agL.agN),(21,vN k)],heapF [(0,.box (mcX d (.sl 17 xR kR) (.osl 14 0 d.agH.length false) (.sl 2 xS kS) (.sl 9 xT kT))),(14,.arr (d.agH.map ftL) 2)],15⟩) (λz_=>match z_ with|(k,d,_)=>k<=W∧d.okM nb∧eL (W-k) d=eL W c) (λz_=>W-z_.1) (0,c,false) (λs=>s) (wOL (λs=>s) wT wH rfl) rfl (⟨aE _,hm,rfl⟩) ?_;intro z_ hk;obtain⟨k,d,b_⟩:=z_;cases b_
  all_goals
   have hkn:k<=W:=hk.1;have hkB:k<=2:=oT;have hd:d.okM nb:=hk.2.1;have hG:eL (W-k) d=eL W c:=hk.2.2;refine qS 0 rfl<|zVB (decide ((k:Int)<c.agL.agN)) (λh2=>?_) (λh2=>?_)
   ·have h2p:=af0 h2;refine zR<|zG rfl id<|zG rfl id<|zG rfl id<|zG rfl id ?_
    first|refine zAS rfl id (cD ftL d.agH) ?_|refine zAS rfl id rfl ?_
    refine zG rfl id<|zG rfl id<|zG rfl id<|zG rfl id<|zG rfl id ?_
    first|refine zAS rfl hsT rfl ?_|refine zAS rfl hsT rfl ?_
    refine zN rfl (by simp)<|zB rfl (λh3=>?_) (λh3=>?_)
    ·have hst:(d.stop=true∨(d.agH.length:Int)>=d.agL.queue):=by have z:=h3;simpa [c2o]using z
     refine qXF 0 rfl ?_;have e0:eN c=eL W c:=by show(if c.halt≠0 then c else eL c.agL.agN.toNat c)=_;rw[dZ (λq=>q h1p),hW];rfl
     have e:eN c=d:=by rw[e0, <-hG];exact yZ hst
     rw[e]
     first|exact Jg (.refl _) none ⟨rfl,rfl⟩ (ghX rfl (qQ (.refl _) (.clip _ _) (.refl _) (.refl _)) trivial)|exact Jg (.refl _) (some (14,2,d.agH.map ftL)) ⟨rfl,rfl⟩ (ghX rfl (qQ (.refl _) (nB (by exact omT)) (.refl _) (.refl _)) trivial)
    ·have hst: ¬(d.stop=true∨(d.agH.length:Int)>=d.agL.queue):=by have z:=h3;simpa [c2o]using z
     have hfl:d.agH.length<=3:=oH (pD hd.cf);refine zR<|zC (ND d.prog d.agM false hd.ok.progo (oH hd.prog) hd.ok.agM)<|zB rfl (λh4=>?_) (λh4=>?_)
     ·refine cRg<|oR 16 rfl ?_;have b1:(d.agM+4)%4294967296<=4294967295:=aI (aQ _ dT);refine rV (vU ((d.agM+4)%4294967296)) rfl<|rV (.agg [vU d.agM,vU ((d.agM+4)%4294967296)]) rfl<|rV (.sl 2 ([[vU d.agM,vU ((d.agM+4)%4294967296)]]) true) rfl ?_
      first|refine rFx rfl rfl (Au ftL d.agH ([(⟨d.agM,(d.agM+4)%4294967296⟩:Ft)]) omT) (⟨by exact omT,by exact omT,trivial,trivial⟩) ?_|refine rFx (h':=upd (upd _ 14 none) 73 (some (.arr ((d.agH++([(⟨d.agM,(d.agM+4)%4294967296⟩:Ft)])).map ftL) 2))) rfl rfl (iP ftL d.agH ([(⟨d.agM,(d.agM+4)%4294967296⟩:Ft)]) omT omT) (⟨by exact omT,by exact omT,trivial⟩) ?_
      refine oR 3 rfl<|rSx 0 (mcX d (.sl 17 xR kR) (.osl 73 0 (d.agH.length+1) false) (.sl 2 xS kS) (.sl 9 xT kT)) rfl rfl rfl<|rE 78<|qXN 0 rfl<|rSx 0 (mcX ({d with stop:=true}:Co) (.sl 17 xR kR) (.osl 73 0 (d.agH.length+1) false) (.sl 2 xS kS) (.sl 9 xT kT)) rfl rfl rfl<|qRF 0 rfl<|qXF 0 rfl ?_;have e0:eN c=eL W c:=by show(if c.halt≠0 then c else eL c.agL.agN.toNat c)=_;rw[dZ (λq=>q h1p),hW];rfl
      have e:eN c={d with agH:=d.agH++[⟨d.agM,up4 d.agM⟩],stop:=true}:=by rw[e0, <-hG];exact Aq omT hst (FV h4)
      rw[e];exact Jg (.refl _) (some (73,2,(d.agH++([(⟨d.agM,(d.agM+4)%4294967296⟩:Ft)])).map ftL)) ⟨rfl,rfl⟩ (ghX rfl (qQ (.refl _) (nB (by exact omT)) (.refl _) (.refl _)) trivial)
     ·refine zC (tN d.agM hd.ok.agM)<|zC (As d.agO (lineOf d.agM) hd.ok.agO (dV hd.ok.agM))<|zB rfl (λh5=>?_) (λh5=>?_)
      ·refine rV (.sl 1 ([[vI 2]]) true) rfl<|zC (x:=vB (Ec d.agS (lineOf d.agM) 2)) ((show bI C0 _ [_,_,.sl 1 ([(2:Int)].map ae4) true] _ from by rw[<-Kk];exact RQ d.agS (lineOf d.agM) [2] false true (oH hd.agS) (λx hx=>(hd.ok.buso x hx).agY) (dV hd.ok.agM) dT)) ?_
       first|refine jQ rfl rfl rfl rfl (λh=>h) rfl rfl rfl (.inr ⟨rfl,⟨trivial,trivial,trivial⟩⟩) rfl (λhg=>Ua d nb hd (.sl 17 xR kR) (.sl 2 (d.agH.map ftL) true) (.sl 2 xS kS) (.sl 9 xT kT) false) ?_|refine jQ rfl rfl rfl rfl (λh=>h) rfl rfl rfl (.inr ⟨rfl,⟨trivial,trivial,trivial⟩⟩) rfl (λhg=>Ua d nb hd (.sl 17 xR kR) .any (.sl 2 xS kS) (.sl 9 xT kT) false) ?_
       refine zN rfl (λh=>h)<|zB rfl (λh6=>?_) (λh6=>?_)
       all_goals
        first
         |have hra:(Ec d.agS (lineOf d.agM) 2=false∧tA d false=true):=by have z:=h6;simpa [c2a]using z
          first|refine zH rfl ((Zt d nb hd 2 (lineOf d.agM) oZ (dV hd.ok.agM) kR xR true (d.agH.map ftL) kS xS kT xT).frameB (λz=>z) _ _ rfl ⟨⟨rfl,rfl,rfl,rfl⟩,trivial⟩ rfl rfl rfl rfl) ?_|refine zH rfl ((acA d nb hd 2 (lineOf d.agM) oZ (dV hd.ok.agM) kR xR 0 d.agH.length false (d.agH.map ftL) kS xS kT xT).frameB (λz=>match z with|1=>14|z=>z) _ _ rfl ⟨⟨rfl,rfl,rfl,rfl⟩,⟨rfl,rfl,rfl,rfl⟩,trivial⟩ rfl rfl rfl rfl) ?_
          rintro _ _ ⟨rfl,rfl⟩
         |have hra: ¬(Ec d.agS (lineOf d.agM) 2=false∧tA d false=true):=by have z:=h6;simpa [c2a]using z
        refine qXF 0 rfl ?_;have e0:eN c=eL W c:=by show(if c.halt≠0 then c else eL c.agL.agN.toNat c)=_;rw[dZ (λq=>q h1p),hW];rfl
        first|(have e:eN c=jE d 2 (lineOf d.agM) oZ:=by rw[e0, <-hG];exact(uD omT hst (sI h4) (FV h5)).trans (af1 hra))|(have e:eN c=d:=by rw[e0, <-hG];exact(uD omT hst (sI h4) (FV h5)).trans (dZ hra))
        rw[e]
        first|exact Jg (.refl _) none ⟨rfl,rfl⟩ (ghX rfl (qQ (.refl _) (.clip _ _) (.refl _) (.refl _)) trivial)|exact Jg (.refl _) (some (14,2,d.agH.map ftL)) ⟨rfl,rfl⟩ (ghX rfl (qQ (.refl _) (nB (by exact omT)) (.refl _) (.refl _)) trivial)
      ·refine rCi rfl (It d.agO (lineOf d.agM) hd.ok.agO (dV hd.ok.agM))<|qRN 0 rfl<|rSx 0 (mcX ({d with agO:=(tO d.agO (lineOf d.agM))}:Co) (.sl 17 xR kR) _ (.sl 2 xS kS) (.sl 9 xT kT)) rfl rfl rfl ?_;refine qR 0 rfl ?_
       first|refine zH rfl ((WX (lJ d) nb (AM hd) (fetchW d.prog d.agM) (LN hd.ok.progo d.agM) kR xR true (d.agH.map ftL) kS xS kT xT).frameB (λz=>z) _ _ rfl ⟨⟨rfl,rfl,rfl,rfl⟩,trivial⟩ rfl rfl rfl rfl) ?_|refine zH rfl ((TY (lJ d) nb (AM hd) (fetchW d.prog d.agM) (LN hd.ok.progo d.agM) kR xR 0 d.agH.length false (d.agH.map ftL) kS xS kT xT).frameB (λz=>match z with|1=>14|z=>z) _ _ rfl ⟨⟨rfl,rfl,rfl,rfl⟩,⟨rfl,rfl,rfl,rfl⟩,trivial⟩ rfl rfl rfl rfl) ?_
       rintro _ _ ⟨rfl,rfl⟩;refine cRg<|oR 12 rfl<|rV (.agg [vU ((dM (lJ d) (fetchW d.prog d.agM)).1.agM),vU ((dM (lJ d) (fetchW d.prog d.agM)).2)]) rfl<|rV (.sl 2 ([[vU ((dM (lJ d) (fetchW d.prog d.agM)).1.agM),vU ((dM (lJ d) (fetchW d.prog d.agM)).2)]]) true) rfl ?_
       first|refine rFx rfl rfl (Au ftL d.agH ([(⟨(dM (lJ d) (fetchW d.prog d.agM)).1.agM,(dM (lJ d) (fetchW d.prog d.agM)).2⟩:Ft)]) omT) (⟨by exact omT,by exact omT,trivial,trivial⟩) ?_|refine rFx rfl rfl (iP ftL d.agH ([(⟨(dM (lJ d) (fetchW d.prog d.agM)).1.agM,(dM (lJ d) (fetchW d.prog d.agM)).2⟩:Ft)]) omT omT) (⟨by exact omT,by exact omT,trivial⟩) ?_
       refine oR 3 rfl<|rSx 0 (mcX ((dM (lJ d) (fetchW d.prog d.agM)).1) (.sl 17 xR kR) (.osl 107 0 (d.agH.length+1) false) (.sl 2 xS kS) (.sl 9 xT kT)) rfl rfl rfl<|rE 112<|qXN 0 rfl<|rSx 0 (mcX ({ (dM (lJ d) (fetchW d.prog d.agM)).1 with agM:=(dM (lJ d) (fetchW d.prog d.agM)).2}:Co) (.sl 17 xR kR) (.osl 107 0 (d.agH.length+1) false) (.sl 2 xS kS) (.sl 9 xT kT)) rfl rfl rfl ?_;have b2:k+1<=3:=aD hkB (aC 1);refine qR 0 rfl<|zW _ (okI (bH b2 rfl))<|.mk _ (.refl _) ⟨(k+1,zP d,true),λi=>match i with|14=>107|i=>i,wOL _ wT ⟨⟨rfl,(af2 (λz:Nat=>some (Blk.box (mcX (zP d) (.sl 17 xR kR) (.osl 107 0 z false) (.sl 2 xS kS) (.sl 9 xT kT)))) (show d.agH.length+1=(zP d).agH.length from by rw[tU];simp)),rfl⟩,⟨rfl,(af2 (λz:List Ft=>some (Blk.arr (z.map ftL) 2)) (tU d).symm),rfl⟩,trivial⟩ rfl,rfl,⟨oT,CW hd omT,(BC omT hst (sI h4) (sI h5)).trans hG⟩,by show W-(k+1)<W-k;omega⟩
   ·have h2p:=aF h2;have e0:eN c=eL W c:=by show(if c.halt≠0 then c else eL c.agL.agN.toNat c)=_;rw[dZ (λq=>q h1p),hW];rfl
    have e:eN c=d:=by rw[e0, <-hG];rw[(oT:W-k=0)];rfl
    rw[e];refine qXF 0 rfl ?_
    first|exact SY rfl (.step none (gOL (l:=[(0,.tup [])]) (hp:=[(0,.box (mcX (d) (.sl 17 xR kR) (.sl 2 (d.agH.map ftL) false) (.sl 2 xS kS) (.sl 9 xT kT)))]) trivial ⟨.refl _,trivial⟩ ⟨⟨trivial,_,rfl,LeB.boxL (qQ (.refl _) (.clip _ _) (.refl _) (.refl _))⟩,trivial⟩) (.refl _)) (r:=.tup []) (σ:=λz=>z) ⟨rfl,rfl⟩ rfl (qT (λz=>z) rfl rfl wH rfl)|exact SY (rs:=[]) rfl (.step (some (14,2,d.agH.map ftL)) (gOL (l:=[(0,.tup [])]) (hp:=[(0,.box (mcX (d) (.sl 17 xR kR) (.sl 2 (d.agH.map ftL) false) (.sl 2 xS kS) (.sl 9 xT kT)))]) rfl ⟨.refl _,trivial⟩ ⟨⟨rfl,_,rfl,LeB.boxL (qQ (.refl _) (nB (by exact omT)) (.refl _) (.refl _))⟩,trivial⟩) (.refl _)) (σ:=λz=>z) ⟨rfl,rfl⟩ rfl (qT (λz=>z) rfl rfl wH rfl)
end Go.Proofs.YtlpkggpdjobpmaaGreatDoor
