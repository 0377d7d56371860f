/- Joined texts. -/
import Derived.Test.YtlhofpglndhfaaaGreatDoorS801
import Derived.Test.YtlhofpglndhfaaaGreatDoorS828
import Derived.Test.YtlhofpglndhfaaaGreatDoorS830
import Derived.Test.YtlhofpglndhfaaaGreatDoorS832
set_option linter.unusedVariables false
set_option linter.unusedSimpArgs false
namespace Go.Proofs.YtlhofpglndhfaaaGreatDoor
set_option maxRecDepth 100000
set_option maxHeartbeats 4000000
open Go.RowKit
structure Co.okM(c:Co)(n:Nat):Prop where
 ok:c.ok n
 nb:n≤890000
 cf:tK c.conf=true
 data:fI c.data=true
 words:fI c.words=true
 guess:sK c.guess=true
 rob:c.rob.length≤1000
 fet:c.fetched.length≤1000
 sto:c.stores.length≤1000
 prog:c.prog.length≤1000
 mem:c.mem.size≤256
 std:∀ x∈c.stores,x.data.size≤4
theorem Co.okM.bus{c:Co}{n:Nat}(h:c.okM n):c.bus.length≤890000:=aN h.ok.bus h.nb
theorem Co.okM.ret{c:Co}{n:Nat}(h:c.okM n):c.retired.length≤890000:=aN h.ok.ret h.nb
theorem nE{c:Cf}(h:tK c=true):c.lat.length≤64∧c.tape.length≤64∧1≤c.width∧c.width≤2∧c.rob≤8∧2≤c.rob∧c.queue≤4∧1≤c.queue∧c.stores≤4∧1≤c.stores∧c.slots≤6∧2≤c.slots∧0≤c.mode∧c.mode≤2:=by
 unfold tK inI at h;simp only[aK,aZ]at h;omega
theorem Co.okM.conf{c:Co}{n:Nat}(h:c.okM n):c.conf.ok:=⟨by have:=(nE h.cf).1;omega,by have:=(nE h.cf).2.1;omega,h.ok.conf.tp⟩
theorem Co.okM.d4{c:Co}{n:Nat}(h:c.okM n):c.data.sets.length≤4:=(kH h.data).2.1
theorem Co.okM.d2{c:Co}{n:Nat}(h:c.okM n):∀ s∈c.data.sets,s.length≤2:=λ s hs=>by have:=kH h.data;have:=this.2.2.2.2 s hs;omega
theorem Mn(stores:List Pt)(c:Ca)(q:List Req)(m:ByteArray):(Yy stores c q m).size=m.size:=by unfold Yy Ch jQ;rw[iB,iB,iB]
theorem ST(c:Co)(n:Nat)(hm:c.okM n)(R F S T:AV)(first:Bool):bV C0 116 [.dp 64 0 (mcX c R F S T),vB first] (vB (qV c first)):=by
 refine bV.intro c0Ok Tryz.func116 rfl rfl (by kernel_rfl) rfl<|cSR<|oR 1 rfl<|rE 1<|cSR<|oR 5 rfl<|rCi rfl (WU c.bus false (by have:=hm.bus;omega) (λ x hx=>(hm.ok.buso x hx).line))<|oR 1 rfl<|rE 8<|bI<|cSR<|oR 1 rfl<|rE 9 ?_;refine aQ rfl (λ h1=>?_) (λ h1=>?_)
 ·refine cSR<|oR 7 rfl<|rV (vB (decide (((nI c.bus:Nat):Int)<c.conf.slots))) rfl<|oR 1 rfl<|rE 18<|cM ?_;exact fT rfl (dH (by unfold qV;rw[if_pos h1]))
 ·refine aY<|cSR<|oR 7 rfl<|rW (vI (c.conf.slots - 1)) rfl (okI (wrap_i64 (by have:=nE hm.cf;omega) (by have:=nE hm.cf;omega)))<|rV (vB (decide (((nI c.bus:Nat):Int)<(c.conf.slots - 1)))) rfl<|oR 1 rfl<|rE 19<|cM ?_;exact fT rfl (dH (by unfold qV;rw[if_neg (by rw[h1];decide)]))
theorem PP{m addr n:Nat}(h:nX (m:Int) addr (n:Int)=true):addr+n≤m:=by
 unfold nX at h;simp only[aK,aZ]at h;omega
theorem Yd(m:ByteArray)(addr n:Nat)(hm:m.size≤1000)(ha:addr≤4294967295)(hn:n≤4):bV C0 150 [.v (.string m),vU addr,vN n] (.tup [.v (.string (if nX (m.size:Int) addr (n:Int)=true then Wz m addr n else mR)),vI (if nX (m.size:Int) addr (n:Int)=true then 0 else 1)]):=by
 refine bV.intro c0Ok Tryz.func150 rfl rfl (by kernel_rfl) rfl<|cSR<|oR 2 rfl<|rE 2<|bI<|cSR<|oR 1 rfl<|rV (vN m.size) rfl<|oR 2 rfl<|rCi rfl (Qu (m.size:Int) addr (n:Int) omT (BX ha))<|oR 1 rfl<|rE 8 ?_;refine aQ rfl (λ h1=>?_) (λ h1=>?_)
 ·refine cSR<|oR 2 rfl<|rE 10<|cM ?_;have hR: ¬ nX (m.size:Int) addr (n:Int)=true:=by simpa using h1
  exact fT rfl (by rw[if_neg hR,if_neg hR];rfl)
 ·have hle:=PP (show nX (m.size:Int) addr (n:Int)=true by simpa using h1);refine aY<|cSR<|oR 1 rfl<|rW (vN addr) rfl (okI (bL ha rfl))<|oR 1 rfl<|rE 11<|cSR<|oR 4 rfl ?_;have b1:addr+n≤4294967299:=aF ha hn;refine rW (vN (addr+n)) rfl (okI (bL b1 rfl)) ?_;refine nW (.v (.string (m.extract addr (addr+n)))) rfl rfl (by refine⟨?_,?_,?_⟩<;>(first|exact aG _|decide|(apply Fg.2;exact omT))) ?_;refine oR 2 rfl<|rE 19<|cM ?_;have hR:nX (m.size:Int) addr (n:Int)=true:=by simpa using h1
  exact fT rfl (by rw[if_pos hR,if_pos hR];rfl)
theorem Mo(c:Co)(n:Nat)(hm:c.okM n)(R F T:AV)(ck:Bool)(e:Ent)(he:e.ok):bV C0 94 [.dp 64 0 (mcX c R F (.sl 2 (c.stores.map ptL) ck) T),.agg (enL e)] (.v (.string (oS c e))):=by
 refine bV.intro c0Ok Tryz.func94 rfl rfl (by kernel_rfl) rfl<|cSR<|rAl 0 rfl rfl<|oR 1 rfl<|rE 2<|cSR<|oR 20 rfl<|rCi rfl (ZN c.stores c.data c.bus c.mem false ck hm.ok.data hm.d4 hm.d2 (by have:=hm.mem;omega) (by have:=hm.bus;omega) hm.ok.buso (by have:=hm.sto;omega) hm.ok.stoo)<|oR 4 rfl<|rCi rfl (Ic e.i)<|rCi rfl (Yd (Yy c.stores c.data c.bus c.mem) e.addr (dE e.i.op) (by rw[Mn];have:=hm.mem;omega) he.addr (tS e.i.op))<|oR 5 rfl<|rE 34<|bI ?_;refine cRg<|oR 2 rfl<|rE 36<|cM ?_;exact fT rfl rfl
theorem VZ(c:Co)(n:Nat)(hm:c.okM n)(F S T:AV)(ck:Bool)(line:Nat)(hline:line≤4294967295):bV C0 208 [.dp 64 0 (mcX c (.sl 17 (c.rob.map enL) ck) F S T),vU line] (vB (JF c line)):=by
 refine dc1 (bV.intro c1Ok Tryz.func208 rfl rfl (by kernel_rfl) rfl ?_);refine cSR<|oR 1 rfl<|rE 1<|bI<|cSR<|oR 6 rfl<|rCi rfl (yL c.data line hm.ok.data hline)<|oR 7 rfl<|rE 15<|cSR<|oR 1 rfl<|rE 16 ?_;refine aQ rfl (λ h1=>?_) (λ h1=>?_)
 ·refine cSR<|oR 1 rfl<|rE 17<|cM ?_;exact fT rfl (dH (by unfold JF;rw[h1];rfl))
 ·refine aY<|bI<|cSR<|oR 5 rfl<|rW (vN c.rob.length) rfl (bJ enL c.rob)<|oR 1 rfl<|rE 23<|bE<|jG (κ:=Nat) (λ k=>⟨slotsF [(1,vU line),(21,vB ((bF c.data line).2.isSome)),(26,.sl 17 (c.rob.map enL) ck),(27,vN c.rob.length),(28,vN k)],heapF [],23⟩) (λ k=>k≤c.rob.length∧(c.rob.take k).any (λ e:Ent=>e.filled&&decide (lineOf e.addr=line))=false) (λ k=>c.rob.length - k) 0 (λ s=>s) (Weak.of_lists (λ s=>s) wT trivial rfl) (⟨aE _,rfl⟩) ?_;intro k hk;have hkn:k≤c.rob.length:=hk.1;have hkB:k≤1000:=by have:=hm.rob;omega
  refine cSR<|rW (vB (decide (k<c.rob.length))) rfl (okB (ltN _ _))<|rE 24<|bI ?_;refine aQ rfl (λ h2=>?_) (λ h2=>?_)
  ·have h2p:=of_decide_eq_true h2;refine aY<|bI<|bE<|cSR ?_;obtain⟨x,hx⟩:∃ y_,c.rob[k]?=some y_:=⟨_,aA omT⟩;have hxo:=hm.ok.robo x (aB hx);refine rIx (enL x) (.dp 17 0 (enL x)) rfl rfl (fM hx) rfl<|oR 1 rfl<|rAl 26 rfl rfl<|rSt rfl<|rE 28<|cSR<|oR 3 rfl<|gN rfl<|gS rfl id<|gT (args:=[vU x.addr]) (x:=vU (lineOf x.addr)) (g:=x.filled) rfl rfl rfl rfl (λ h=>h) rfl rfl rfl (.inl rfl) rfl (λ hg=>qZ x.addr hxo.addr)<|gN rfl<|gBS (x:=vB ((lineOf x.addr)==line)) rfl hsT (okB (eqN _ _))<|cL rfl rfl rfl (λ h=>h)<|rE 37 ?_;refine aQ rfl (λ h3=>?_) (λ h3=>?_)
   ·refine cSR<|oR 1 rfl<|rE 38<|cM ?_;have z:=h3;exact fT rfl (dH (by unfold JF;rw[Is (f:=(λ e:Ent=>e.filled&&decide (lineOf e.addr=line))) hx (by simpa [qI]using z)];simp))
   ·refine aY<|cRg ?_;have b1:k+1≤1001:=aF hkB (aC 1);refine rW (vN (k+1)) rfl (okI (bL b1 rfl))<|oR 1 rfl<|rE 39 ?_;refine⟨k+1,λ s=>s,Weak.of_lists _ wT trivial rfl,⟨by omega,Ir (f:=(λ e:Ent=>e.filled&&decide (lineOf e.addr=line))) hx (by have z:=h3;simpa [qI]using z) hk.2⟩,by show c.rob.length - (k+1)<c.rob.length - k;omega⟩
  ·have h2p:=aD h2;refine dR<|cSR<|oR 1 rfl<|rE 25<|cM ?_;exact fT rfl (dH (by unfold JF;rw[h1,LB (f:=(λ e:Ent=>e.filled&&decide (lineOf e.addr=line))) omT hk.2];rfl))
theorem Ye(c:Co)(n:Nat)(hm:c.okM n)(F S T:AV)(ck:Bool)(i:Nat)(hi:i<c.rob.length):bV C0 109 [.dp 64 0 (mcX c (.sl 17 (c.rob.map enL) ck) F S T),vN i] (vB (Cd c i)):=by
 refine dc1 (bV.intro c1Ok Tryz.func109 rfl rfl (by kernel_rfl) rfl ?_);refine cSR<|oR 1 rfl<|rE 1<|cSR<|oR 6 rfl ?_;obtain⟨x,hx⟩:∃ y_,c.rob[i]?=some y_:=⟨_,aA omT⟩;have hxo:=hm.ok.robo x (aB hx);refine rIx (enL x) (.dp 17 0 (enL x)) rfl rfl (fM hx) rfl<|oR 1 rfl<|rAl 9 rfl rfl<|rSt rfl<|rE 11<|bI<|cSR<|oR 2 rfl<|rV (vB (x.is != 0)) rfl<|rE 14 ?_;refine aQ rfl (λ h1=>?_) (λ h1=>?_)
 ·have h1p:=wX h1;refine cSR<|oR 1 rfl<|rE 15<|cM ?_;exact fT rfl (dH (by unfold Cd;rw[hx];dsimp only;rw[if_pos h1p]))
 ·have h1p:=wY h1;refine aY<|cSR<|oR 12 rfl<|rCi rfl (abG c.conf.mode c.rob ck i hm.rob hm.ok.robo (by have:=hm.rob;omega))<|oR 1 rfl<|rE 28<|cSR<|oR 2 rfl<|rCi rfl (Gy x.i)<|oR 5 rfl<|rE 36<|cSR<|oR 12 rfl ?_;refine rCi rfl (Jw c.rob c.r ck i (x.i.rs1) hm.rob hm.ok.robo hm.ok.r (by have:=hm.rob;omega))<|oR 5 rfl<|rE 54<|bI<|cSR<|oR 2 rfl<|rCi rfl (rA x.i)<|rE 57<|bE<|cSR<|rW (vB ((kindOf x.i.op)==3)) rfl (okB (eqN _ _))<|oR 1 rfl<|rE 59 ?_;refine aQ rfl (λ h2=>?_) (λ h2=>?_)
  ·have h2p:=mO h2;refine cSR<|oR 3 rfl<|gN rfl<|gS rfl id<|gN rfl<|tW (x:=vB (cJ ((lG c.rob c.r i x.i.rs1).isSome) (OA c.conf.mode c.rob i) false)) (g:= !x.known) rfl rfl rfl rfl (λ h=>h) rfl rfl (λ hg hc=>by first|(rw[hg,hc];rfl)|simp_all)<|cL rfl rfl rfl (by simp)<|oR 1 rfl<|rE 68<|cM ?_;exact fT rfl (dH (by unfold Cd;rw[hx];dsimp only;rw[if_neg omT,if_pos h2p];simp only[qI,cOr,nK]))
  ·have h2p:=mP h2;refine cSR<|rW (vB ((kindOf x.i.op)==4)) rfl (okB (eqN _ _))<|oR 1 rfl<|rE 61 ?_;refine aQ rfl (λ h3=>?_) (λ h3=>?_)
   ·have h3p:=mO h3;refine cSR<|oR 4 rfl<|gN rfl<|cL rfl rfl rfl (λ h=>h)<|oR 1 rfl<|gN rfl<|cL rfl rfl rfl (λ h=>h)<|oR 1 rfl<|rE 71<|cM ?_;exact fT rfl (dH (by unfold Cd;rw[hx];dsimp only;rw[if_neg omT,if_neg h2p,if_pos h3p];simp only[qI,cOr,nK]))
   ·have h3p:=mP h3;refine aY<|cSR<|oR 11 rfl<|rCi rfl (UO c.rob c.r ck i hm.rob hm.ok.robo hm.ok.r (by have:=hm.rob;omega))<|oR 7 rfl<|rE 80<|cSR<|oR 2 rfl<|gN rfl<|cL rfl rfl rfl (λ h=>h)<|oR 1 rfl<|rE 85<|cM ?_;exact fT rfl (dH (by unfold Cd;rw[hx];dsimp only;rw[if_neg omT,if_neg h2p,if_neg h3p];simp only[qI,cOr,nK]))
theorem qF.frameB{P:Program}{G:Nat→Option (List AV)}{f:FuncId}{args:List AV}{b0 b1:Blk}{L:List (Nat×Blk)}{s:Nat}{r:AV}(H:qF P G f args (heapF ((0,b0)::L)) s (λ x h'=>x=r∧h'=heapF ((0,b1)::L)))(ρ:Nat→Nat)(K:AH)(s2:Nat)(hfull:Dr (heapF ((0,b0)::L)) s=true)(hL:FrL ρ K s s2 ((0,b0)::L))(hi:TJ ρ s=true)(ha:mU s args=true)(hr:eS r=true)(hb:qR s b1=true):
  qF P G f (AG ρ args) K s2 (λ x h'=>x=r∧h'=upd K (ρ 0) (some (Dj ρ b1))):=by
 have hs:0<s:=aO hL.1.2.1;refine H.frameL ρ K s2 hfull hL hi ha _ λ r' h' hP=>?_;obtain⟨rfl,rfl⟩:=hP;refine⟨_,⟨yO _ _ hr,rfl⟩,λ y blk hy=>?_⟩;by_cases he:y=ρ 0
 ·subst he;rw[dC]at hy;injection hy with hy;exact .inl ⟨0,b1,rfl,(rM ρ omT).symm,by rw[←hy,xW ρ s s2 b1 hb]⟩
 ·rw[cG _ _ he]at hy;by_cases hx:∃ x,x<s∧ρ x=y
  ·obtain⟨x,hxs,rfl⟩:=hx;have hx0:x≠0:=λ e=>he (by rw[e]);obtain⟨blk0,hb0⟩:=Dv.1 (uB hfull x hxs);have hk:=hL.get x blk0 hb0;rw[hk.2.2.2]at hy;injection hy with hy;refine .inl ⟨x,blk0,?_,(rM ρ omT).symm,?_⟩
   ·have:Nat.beq 0 x=false:=by rw[←eP];exact λ e=>hx0 (aM e).symm
    simp only[heapF,this]at hb0⊢;exact hb0
   ·rw[←hy];exact (xW ρ s s2 blk0 hk.2.2.1).symm
  ·exact .inr ⟨hy,λ x hxs e=>hx ⟨x,hxs,e⟩⟩
theorem yJ{c:Co}{line:Nat}(h:(iA c.data c.bus c.mem line (lJ c.conf c.asked)).2.2=true):eI c line={c with data:=(iA c.data c.bus c.mem line (lJ c.conf c.asked)).1,bus:=(iA c.data c.bus c.mem line (lJ c.conf c.asked)).2.1,asked:=wrap64 (c.asked+1)}:=by unfold eI;generalize iA c.data c.bus c.mem line (lJ c.conf c.asked)=t at h⊢;obtain⟨d,q,a⟩:=t;dsimp only at h;subst h;rfl
theorem Au{c:Co}{line:Nat}(h:(iA c.data c.bus c.mem line (lJ c.conf c.asked)).2.2=false):eI c line={c with data:=(iA c.data c.bus c.mem line (lJ c.conf c.asked)).1,bus:=(iA c.data c.bus c.mem line (lJ c.conf c.asked)).2.1}:=by unfold eI;generalize iA c.data c.bus c.mem line (lJ c.conf c.asked)=t at h⊢;obtain⟨d,q,a⟩:=t;dsimp only at h;subst h;rfl
theorem Yf(c:Co)(n:Nat)(hm:c.okM n)(kind:Int)(line:Nat)(data:ByteArray)(hline:line≤4294967295)(kR:Bool)(xR:List (List AV))(kF:Bool)(xF:List (List AV))(kS:Bool)(xS:List (List AV))(kT:Bool)(xT:List (List AV)):qF C0.P C0.G 117 [.ptr 0 0,vI kind,vU line,.v (.string data)] (heapF [(0,.box (mcX c (.sl 17 xR kR) (.sl 2 xF kF) (.sl 2 xS kS) (.sl 9 xT kT)))]) 1 (λ x h'=>x=.tup []∧h'=heapF [(0,.box (mcX (iT c kind line data) (.sl 17 xR kR) (.sl 2 xF kF) (.sl 2 xS kS) (.sl 9 xT kT)))]):=by
 refine HCall.intro (C:=C1) (s:=1) c1Ok.at Tryz.func117 rfl rfl (by kernel_rfl) rfl rfl<|cSR<|oR 18 rfl<|rCi rfl (EA c.conf c.asked hm.conf hm.ok.asked)<|oR 1 rfl<|rCi rfl (Mx c.bus kind line (lJ c.conf c.asked) data false (by have:=hm.bus;omega) hm.ok.buso hline)<|oR 3 rfl<|rSt rfl<|rE 26<|cRg<|oR 5 rfl<|rW (vI (wrap64 (c.asked+1))) rfl (okI (w64 _))<|oR 3 rfl<|rSx 0 (mcX ({c with bus:=zG c.bus kind line (lJ c.conf c.asked) data,asked:=wrap64 (c.asked+1)}:Co) (.sl 17 xR kR) (.sl 2 xF kF) (.sl 2 xS kS) (.sl 9 xT kT)) rfl rfl rfl<|rE 36 ?_;exact pP (rs:=[]) rfl (σ:=λ z=>z) ⟨rfl,rfl⟩ rfl (cH (λ z=>z) rfl rfl wH rfl)
theorem ZH(c:Co)(n:Nat)(hm:c.okM n)(kind:Int)(line:Nat)(data:ByteArray)(hline:line≤4294967295)(lR nR:Nat)(kR:Bool)(rR:List (List AV))(kF:Bool)(xF:List (List AV))(kS:Bool)(xS:List (List AV))(kT:Bool)(xT:List (List AV)):qF C0.P C0.G 117 [.ptr 0 0,vI kind,vU line,.v (.string data)] (heapF [(0,.box (mcX c (.osl 1 lR nR kR) (.sl 2 xF kF) (.sl 2 xS kS) (.sl 9 xT kT))),(1,.arr rR 17)]) 2 (λ x h'=>x=.tup []∧h'=heapF [(0,.box (mcX (iT c kind line data) (.osl 1 lR nR kR) (.sl 2 xF kF) (.sl 2 xS kS) (.sl 9 xT kT))),(1,.arr rR 17)]):=by
 refine HCall.intro (C:=C1) (s:=2) c1Ok.at Tryz.func117 rfl rfl (by kernel_rfl) rfl rfl<|cSR<|oR 18 rfl<|rCi rfl (EA c.conf c.asked hm.conf hm.ok.asked)<|oR 1 rfl<|rCi rfl (Mx c.bus kind line (lJ c.conf c.asked) data false (by have:=hm.bus;omega) hm.ok.buso hline)<|oR 3 rfl<|rSt rfl<|rE 27<|cRg<|oR 5 rfl<|rW (vI (wrap64 (c.asked+1))) rfl (okI (w64 _))<|oR 3 rfl<|rSx 0 (mcX ({c with bus:=zG c.bus kind line (lJ c.conf c.asked) data,asked:=wrap64 (c.asked+1)}:Co) (.osl 1 lR nR kR) (.sl 2 xF kF) (.sl 2 xS kS) (.sl 9 xT kT)) rfl rfl rfl<|rE 37 ?_;exact pP (rs:=[]) rfl (σ:=λ z=>z) ⟨rfl,rfl⟩ rfl (cH (λ z=>z) rfl rfl wH rfl)
theorem ZI(c:Co)(n:Nat)(hm:c.okM n)(kind:Int)(line:Nat)(data:ByteArray)(hline:line≤4294967295)(kR:Bool)(xR:List (List AV))(lF nF:Nat)(kF:Bool)(rF:List (List AV))(kS:Bool)(xS:List (List AV))(kT:Bool)(xT:List (List AV)):qF C0.P C0.G 117 [.ptr 0 0,vI kind,vU line,.v (.string data)] (heapF [(0,.box (mcX c (.sl 17 xR kR) (.osl 1 lF nF kF) (.sl 2 xS kS) (.sl 9 xT kT))),(1,.arr rF 2)]) 2 (λ x h'=>x=.tup []∧h'=heapF [(0,.box (mcX (iT c kind line data) (.sl 17 xR kR) (.osl 1 lF nF kF) (.sl 2 xS kS) (.sl 9 xT kT))),(1,.arr rF 2)]):=by
 refine HCall.intro (C:=C1) (s:=2) c1Ok.at Tryz.func117 rfl rfl (by kernel_rfl) rfl rfl<|cSR<|oR 18 rfl<|rCi rfl (EA c.conf c.asked hm.conf hm.ok.asked)<|oR 1 rfl<|rCi rfl (Mx c.bus kind line (lJ c.conf c.asked) data false (by have:=hm.bus;omega) hm.ok.buso hline)<|oR 3 rfl<|rSt rfl<|rE 27<|cRg<|oR 5 rfl<|rW (vI (wrap64 (c.asked+1))) rfl (okI (w64 _))<|oR 3 rfl<|rSx 0 (mcX ({c with bus:=zG c.bus kind line (lJ c.conf c.asked) data,asked:=wrap64 (c.asked+1)}:Co) (.sl 17 xR kR) (.osl 1 lF nF kF) (.sl 2 xS kS) (.sl 9 xT kT)) rfl rfl rfl<|rE 37 ?_;exact pP (rs:=[]) rfl (σ:=λ z=>z) ⟨rfl,rfl⟩ rfl (cH (λ z=>z) rfl rfl wH rfl)
theorem abF(c:Co)(n:Nat)(hm:c.okM n)(line:Nat)(hline:line≤4294967295)(kR:Bool)(xR:List (List AV))(kF:Bool)(xF:List (List AV))(kS:Bool)(xS:List (List AV))(kT:Bool)(xT:List (List AV)):qF C0.P C0.G 96 [.ptr 0 0,vU line] (heapF [(0,.box (mcX c (.sl 17 xR kR) (.sl 2 xF kF) (.sl 2 xS kS) (.sl 9 xT kT)))]) 1 (λ x h'=>x=.tup []∧h'=heapF [(0,.box (mcX (eI c line) (.sl 17 xR kR) (.sl 2 xF kF) (.sl 2 xS kS) (.sl 9 xT kT)))]):=by
 refine HCall.intro (C:=C1) (s:=1) c1Ok.at Tryz.func96 rfl rfl (by kernel_rfl) rfl rfl<|cSR<|oR 1 rfl<|rE 2<|cSR<|oR 28 rfl<|rCi rfl (EA c.conf c.asked hm.conf hm.ok.asked)<|rCi rfl (Mt c.data c.bus c.mem line (lJ c.conf c.asked) hm.ok.data (by have:=hm.bus;omega) hm.ok.buso (by have:=hm.mem;omega) hline)<|oR 7 rfl<|rSt rfl<|oR 3 rfl<|rSx 0 (mcX ({c with data:=(iA c.data c.bus c.mem line (lJ c.conf c.asked)).1,bus:=(iA c.data c.bus c.mem line (lJ c.conf c.asked)).2.1}:Co) (.sl 17 xR kR) (.sl 2 xF kF) (.sl 2 xS kS) (.sl 9 xT kT)) rfl rfl rfl<|oR 1 rfl<|rE 45 ?_;refine cSR<|oR 1 rfl<|rE 46 ?_;refine aQ rfl (λ h1=>?_) (λ h1=>?_)
 ·refine cRg<|oR 5 rfl<|rW (vI (wrap64 (c.asked+1))) rfl (okI (w64 _))<|oR 3 rfl<|rSx 0 (mcX ({c with data:=(iA c.data c.bus c.mem line (lJ c.conf c.asked)).1,bus:=(iA c.data c.bus c.mem line (lJ c.conf c.asked)).2.1,asked:=wrap64 (c.asked+1)}:Co) (.sl 17 xR kR) (.sl 2 xF kF) (.sl 2 xS kS) (.sl 9 xT kT)) rfl rfl rfl<|rE 56 ?_;rw[yJ h1];exact pP (rs:=[]) rfl (σ:=λ z=>z) ⟨rfl,rfl⟩ rfl (cH (λ z=>z) rfl rfl wH rfl)
 ·refine aY ?_;rw[Au h1];exact pP (rs:=[]) rfl (σ:=λ z=>z) ⟨rfl,rfl⟩ rfl (cH (λ z=>z) rfl rfl wH rfl)
theorem ZJ(c:Co)(n:Nat)(hm:c.okM n)(line:Nat)(hline:line≤4294967295)(lR nR:Nat)(kR:Bool)(rR:List (List AV))(kF:Bool)(xF:List (List AV))(kS:Bool)(xS:List (List AV))(kT:Bool)(xT:List (List AV)):qF C0.P C0.G 96 [.ptr 0 0,vU line] (heapF [(0,.box (mcX c (.osl 1 lR nR kR) (.sl 2 xF kF) (.sl 2 xS kS) (.sl 9 xT kT))),(1,.arr rR 17)]) 2 (λ x h'=>x=.tup []∧h'=heapF [(0,.box (mcX (eI c line) (.osl 1 lR nR kR) (.sl 2 xF kF) (.sl 2 xS kS) (.sl 9 xT kT))),(1,.arr rR 17)]):=by
 refine HCall.intro (C:=C1) (s:=2) c1Ok.at Tryz.func96 rfl rfl (by kernel_rfl) rfl rfl<|cSR<|oR 1 rfl<|rE 3<|cSR<|oR 28 rfl<|rCi rfl (EA c.conf c.asked hm.conf hm.ok.asked)<|rCi rfl (Mt c.data c.bus c.mem line (lJ c.conf c.asked) hm.ok.data (by have:=hm.bus;omega) hm.ok.buso (by have:=hm.mem;omega) hline)<|oR 7 rfl<|rSt rfl<|oR 3 rfl<|rSx 0 (mcX ({c with data:=(iA c.data c.bus c.mem line (lJ c.conf c.asked)).1,bus:=(iA c.data c.bus c.mem line (lJ c.conf c.asked)).2.1}:Co) (.osl 1 lR nR kR) (.sl 2 xF kF) (.sl 2 xS kS) (.sl 9 xT kT)) rfl rfl rfl<|oR 1 rfl<|rE 46 ?_;refine cSR<|oR 1 rfl<|rE 47 ?_;refine aQ rfl (λ h1=>?_) (λ h1=>?_)
 ·refine cRg<|oR 5 rfl<|rW (vI (wrap64 (c.asked+1))) rfl (okI (w64 _))<|oR 3 rfl<|rSx 0 (mcX ({c with data:=(iA c.data c.bus c.mem line (lJ c.conf c.asked)).1,bus:=(iA c.data c.bus c.mem line (lJ c.conf c.asked)).2.1,asked:=wrap64 (c.asked+1)}:Co) (.osl 1 lR nR kR) (.sl 2 xF kF) (.sl 2 xS kS) (.sl 9 xT kT)) rfl rfl rfl<|rE 57 ?_;rw[yJ h1];exact pP (rs:=[]) rfl (σ:=λ z=>z) ⟨rfl,rfl⟩ rfl (cH (λ z=>z) rfl rfl wH rfl)
 ·refine aY ?_;rw[Au h1];exact pP (rs:=[]) rfl (σ:=λ z=>z) ⟨rfl,rfl⟩ rfl (cH (λ z=>z) rfl rfl wH rfl)
theorem Yg(c:Co)(n:Nat)(hm:c.okM n)(line:Nat)(hline:line≤4294967295)(lR nR:Nat)(kR:Bool)(rR:List (List AV))(kF:Bool)(xF:List (List AV))(kS:Bool)(xS:List (List AV))(lT nT:Nat)(kT:Bool)(rT:List (List AV)):qF C0.P C0.G 96 [.ptr 0 0,vU line] (heapF [(0,.box (mcX c (.osl 1 lR nR kR) (.sl 2 xF kF) (.sl 2 xS kS) (.osl 2 lT nT kT))),(1,.arr rR 17),(2,.arr rT 9)]) 3 (λ x h'=>x=.tup []∧h'=heapF [(0,.box (mcX (eI c line) (.osl 1 lR nR kR) (.sl 2 xF kF) (.sl 2 xS kS) (.osl 2 lT nT kT))),(1,.arr rR 17),(2,.arr rT 9)]):=by
 refine HCall.intro (C:=C1) (s:=3) c1Ok.at Tryz.func96 rfl rfl (by kernel_rfl) rfl rfl<|cSR<|oR 1 rfl<|rE 4<|cSR<|oR 28 rfl<|rCi rfl (EA c.conf c.asked hm.conf hm.ok.asked)<|rCi rfl (Mt c.data c.bus c.mem line (lJ c.conf c.asked) hm.ok.data (by have:=hm.bus;omega) hm.ok.buso (by have:=hm.mem;omega) hline)<|oR 7 rfl<|rSt rfl<|oR 3 rfl<|rSx 0 (mcX ({c with data:=(iA c.data c.bus c.mem line (lJ c.conf c.asked)).1,bus:=(iA c.data c.bus c.mem line (lJ c.conf c.asked)).2.1}:Co) (.osl 1 lR nR kR) (.sl 2 xF kF) (.sl 2 xS kS) (.osl 2 lT nT kT)) rfl rfl rfl<|oR 1 rfl<|rE 47 ?_;refine cSR<|oR 1 rfl<|rE 48 ?_;refine aQ rfl (λ h1=>?_) (λ h1=>?_)
 ·refine cRg<|oR 5 rfl<|rW (vI (wrap64 (c.asked+1))) rfl (okI (w64 _))<|oR 3 rfl<|rSx 0 (mcX ({c with data:=(iA c.data c.bus c.mem line (lJ c.conf c.asked)).1,bus:=(iA c.data c.bus c.mem line (lJ c.conf c.asked)).2.1,asked:=wrap64 (c.asked+1)}:Co) (.osl 1 lR nR kR) (.sl 2 xF kF) (.sl 2 xS kS) (.osl 2 lT nT kT)) rfl rfl rfl<|rE 58 ?_;rw[yJ h1];exact pP (rs:=[]) rfl (σ:=λ z=>z) ⟨rfl,rfl⟩ rfl (cH (λ z=>z) rfl rfl wH rfl)
 ·refine aY ?_;rw[Au h1];exact pP (rs:=[]) rfl (σ:=λ z=>z) ⟨rfl,rfl⟩ rfl (cH (λ z=>z) rfl rfl wH rfl)
theorem Wa(c:Co)(n:Nat)(hm:c.okM n)(line:Nat)(hline:line≤4294967295)(lR nR:Nat)(kR:Bool)(rR:List (List AV))(kF:Bool)(xF:List (List AV))(lS nS:Nat)(kS:Bool)(rS:List (List AV))(lT nT:Nat)(kT:Bool)(rT:List (List AV)):qF C0.P C0.G 96 [.ptr 0 0,vU line] (heapF [(0,.box (mcX c (.osl 1 lR nR kR) (.sl 2 xF kF) (.osl 2 lS nS kS) (.osl 3 lT nT kT))),(1,.arr rR 17),(2,.arr rS 2),(3,.arr rT 9)]) 4 (λ x h'=>x=.tup []∧h'=heapF [(0,.box (mcX (eI c line) (.osl 1 lR nR kR) (.sl 2 xF kF) (.osl 2 lS nS kS) (.osl 3 lT nT kT))),(1,.arr rR 17),(2,.arr rS 2),(3,.arr rT 9)]):=by
 refine HCall.intro (C:=C1) (s:=4) c1Ok.at Tryz.func96 rfl rfl (by kernel_rfl) rfl rfl<|cSR<|oR 1 rfl<|rE 5<|cSR<|oR 28 rfl<|rCi rfl (EA c.conf c.asked hm.conf hm.ok.asked)<|rCi rfl (Mt c.data c.bus c.mem line (lJ c.conf c.asked) hm.ok.data (by have:=hm.bus;omega) hm.ok.buso (by have:=hm.mem;omega) hline)<|oR 7 rfl<|rSt rfl<|oR 3 rfl<|rSx 0 (mcX ({c with data:=(iA c.data c.bus c.mem line (lJ c.conf c.asked)).1,bus:=(iA c.data c.bus c.mem line (lJ c.conf c.asked)).2.1}:Co) (.osl 1 lR nR kR) (.sl 2 xF kF) (.osl 2 lS nS kS) (.osl 3 lT nT kT)) rfl rfl rfl<|oR 1 rfl<|rE 48 ?_;refine cSR<|oR 1 rfl<|rE 49 ?_;refine aQ rfl (λ h1=>?_) (λ h1=>?_)
 ·refine cRg<|oR 5 rfl<|rW (vI (wrap64 (c.asked+1))) rfl (okI (w64 _))<|oR 3 rfl<|rSx 0 (mcX ({c with data:=(iA c.data c.bus c.mem line (lJ c.conf c.asked)).1,bus:=(iA c.data c.bus c.mem line (lJ c.conf c.asked)).2.1,asked:=wrap64 (c.asked+1)}:Co) (.osl 1 lR nR kR) (.sl 2 xF kF) (.osl 2 lS nS kS) (.osl 3 lT nT kT)) rfl rfl rfl<|rE 59 ?_;rw[yJ h1];exact pP (rs:=[]) rfl (σ:=λ z=>z) ⟨rfl,rfl⟩ rfl (cH (λ z=>z) rfl rfl wH rfl)
 ·refine aY ?_;rw[Au h1];exact pP (rs:=[]) rfl (σ:=λ z=>z) ⟨rfl,rfl⟩ rfl (cH (λ z=>z) rfl rfl wH rfl)
theorem aa9(e:Ent)(he:e.ok):bV C0 98 [.agg (enL e)] (.agg (enL (goE e))):=by
 refine bV.intro c0Ok Tryz.func98 rfl rfl (by kernel_rfl) rfl<|cSR<|rAl 0 rfl rfl<|rAl 1 rfl rfl<|rE 2<|bI<|cSR<|oR 2 rfl<|rV (vB (e.is != 1)) rfl<|rE 5 ?_;refine aQ rfl (λ h1=>?_) (λ h1=>?_)
 ·refine cSR<|oR 1 rfl<|rSt rfl<|rE 7<|cM ?_;replace h1:=sP h1;refine eW rfl rcT rfl (pC (e:=(⟨e.no,e.pc,⟨e.i.op,e.i.rd,e.i.rs1,e.i.rs2,e.i.imm⟩,e.guess,e.is,e.left,e.value,e.next,e.addr,e.halt,e.took,e.known,e.filled⟩:Ent)) ?_);simp[w64,goE,h1]<;>(intros;simp_all)
 ·refine aY<|cSR<|oR 2 rfl<|rV (vI (IntKind.wrap .i64 (e.left - 1))) rfl<|oR 1 rfl<|rSt rfl<|rE 10<|bI<|cSR<|oR 2 rfl<|rV (vB (decide ((IntKind.wrap .i64 (e.left - 1))≤0))) rfl<|rE 13 ?_;refine aQ rfl (λ h2=>?_) (λ h2=>?_)
  ·refine cSR<|oR 1 rfl<|rSt rfl<|rE 15<|cSR<|oR 1 rfl<|rSt rfl<|rE 17<|cSR<|oR 2 rfl<|rCi rfl (rA e.i)<|rW (vB ((kindOf e.i.op)==5)) rfl (okB (eqN _ _))<|oR 1 rfl ?_;refine gN rfl<|gS rfl id<|gBS (x:=vB (e.halt==0)) rfl id rfl<|cL rfl rfl rfl (λ h=>h)<|rE 26 ?_;refine aQ rfl (λ h3=>?_) (λ h3=>?_)
   ·refine cRg<|oR 1 rfl<|rSt rfl<|rE 28<|cSR<|oR 1 rfl<|rSt rfl<|rE 30<|cM ?_;replace h1:=sP h1;replace h2:=sP h2;replace h3:=sP h3;refine eW rfl rcT rfl (pC (e:=(⟨e.no,e.pc,⟨e.i.op,e.i.rd,e.i.rs1,e.i.rs2,e.i.imm⟩,e.guess,3,0,e.value,e.next,e.addr,e.halt,e.took,true,e.filled⟩:Ent)) ?_);simp[w64,goE,h1,h2,h3]<;>(intros;simp_all)
   ·refine aY<|cSR<|oR 1 rfl<|rSt rfl<|rE 28<|cM ?_;replace h1:=sP h1;replace h2:=sP h2;replace h3:=sP h3;refine eW rfl rcT rfl (pC (e:=(⟨e.no,e.pc,⟨e.i.op,e.i.rd,e.i.rs1,e.i.rs2,e.i.imm⟩,e.guess,3,0,e.value,e.next,e.addr,e.halt,e.took,e.known,e.filled⟩:Ent)) ?_);simp[w64,goE,h1,h2,h3]<;>(intros;simp_all)
  ·refine aY<|cSR<|oR 1 rfl<|rSt rfl<|rE 15<|cM ?_;replace h1:=sP h1;replace h2:=sP h2;refine eW rfl rcT rfl (pC (e:=(⟨e.no,e.pc,⟨e.i.op,e.i.rd,e.i.rs1,e.i.rs2,e.i.imm⟩,e.guess,e.is,IntKind.wrap .i64 (e.left - 1),e.value,e.next,e.addr,e.halt,e.took,e.known,e.filled⟩:Ent)) ?_);simp[w64,goE,h1,h2]<;>(intros;simp_all)
theorem WV(e:Ent)(a b:Nat)(he:e.ok)(ha:a≤4294967295)(hb:b≤4294967295):bV C0 168 [.agg (enL e),vU a,vU b] (.agg (enL (pD e a b))):=by
 refine bV.intro c0Ok Tryz.func168 rfl rfl (by kernel_rfl) rfl<|cSR<|rAl 0 rfl rfl<|rAl 1 rfl rfl<|rE 2<|cSR<|oR 2 rfl<|rCi rfl (rA e.i)<|oR 1 rfl<|rE 6<|bI<|cSR<|oR 2 rfl ?_;refine rV (vB (e.is != 0)) rfl<|oR 1 rfl<|gN rfl<|gBS (x:=vB ((kindOf e.i.op)==3)) rfl id (okB (eqN _ _))<|cL rfl rfl rfl (by simp)<|oR 1 rfl<|gN rfl<|gBS (x:=vB ((kindOf e.i.op)==4)) rfl id (okB (eqN _ _))<|cL rfl rfl rfl (by simp)<|rE 17 ?_;refine aQ rfl (λ h1=>?_) (λ h1=>?_)
 ·refine cSR<|oR 1 rfl<|rSt rfl<|rE 19<|cM ?_;replace h1:=sP h1;refine eW rfl rcT rfl (pC (e:=(⟨e.no,e.pc,⟨e.i.op,e.i.rd,e.i.rs1,e.i.rs2,e.i.imm⟩,e.guess,e.is,e.left,e.value,e.next,e.addr,e.halt,e.took,e.known,e.filled⟩:Ent)) ?_);simp[w64,pD,tZ,up4,h1]<;>(intros;simp_all)
 ·refine aY<|cSR<|oR 1 rfl<|rSt rfl<|rE 19<|cSR<|oR 1 rfl<|rSt rfl<|rE 21<|bI<|cSR<|oR 2 rfl<|rCi rfl (Id e.i) ?_;refine rV (vB ((wr e.i) != 0)) rfl<|rE 25 ?_;refine aQ rfl (λ h2=>?_) (λ h2=>?_)
  ·refine cRg<|oR 6 rfl<|rCi rfl (Yz e.i e.pc a b (BX he.imm) (BX he.pc) (BX ha) (BX hb))<|oR 1 rfl<|rSt rfl<|rE 34<|cSR<|oR 2 rfl ?_;have b1:(e.pc+4) % 4294967296≤4294967295:=aT (bG _ (by decide));refine rV (vU ((e.pc+4) % 4294967296)) rfl<|oR 1 rfl<|rSt rfl<|rE 39<|cSR<|oR 1 rfl<|rSt rfl<|rE 41<|bI<|cSR<|oR 1 rfl<|rE 42<|bE<|bI ?_;refine cRg<|rW (vB ((kindOf e.i.op)==1)) rfl (okB (eqN _ _))<|oR 1 rfl<|rE 44 ?_;refine aQ rfl (λ h3=>?_) (λ h3=>?_)
   ·refine cRg<|oR 1 rfl<|rSt rfl<|rE 46<|cSR<|oR 1 rfl<|rSt rfl<|rE 48<|cM ?_;replace h1:=sP h1;replace h2:=sP h2;replace h3:=sP h3;refine eW rfl rcT rfl (pC (e:=(⟨e.no,e.pc,⟨e.i.op,e.i.rd,e.i.rs1,e.i.rs2,e.i.imm⟩,e.guess,1,3,Qw e.i.op e.i.imm e.pc a b,(e.pc+4) % 4294967296,e.addr,e.halt,e.took,e.known,e.filled⟩:Ent)) ?_);simp[w64,pD,tZ,up4,h1,h2,h3]<;>(intros;simp_all)
   ·refine cSR<|rW (vB ((kindOf e.i.op)==2)) rfl (okB (eqN _ _))<|oR 1 rfl<|rE 46 ?_;refine aQ rfl (λ h4=>?_) (λ h4=>?_)
    ·refine cSR<|oR 5 rfl<|rCi rfl (YA e.i.op a b (BX ha) (BX hb))<|oR 1 rfl<|rSt rfl<|rE 54<|cRg<|oR 3 rfl<|rSt rfl<|rE 58<|cSR<|oR 1 rfl<|rSt rfl<|rE 60 ?_;refine cM ?_;replace h1:=sP h1;replace h2:=sP h2;replace h3:=sP h3;replace h4:=sP h4;refine eW rfl rcT rfl (pC (e:=(⟨e.no,e.pc,⟨e.i.op,e.i.rd,e.i.rs1,e.i.rs2,e.i.imm⟩,e.guess,1,(zH e.i.op a b:Int),Qw e.i.op e.i.imm e.pc a b,(e.pc+4) % 4294967296,e.addr,e.halt,(zH e.i.op a b:Int),e.known,e.filled⟩:Ent)) ?_);simp[w64,pD,tZ,up4,h1,h2,h3,h4]<;>(intros;simp_all)
    ·refine cSR<|rW (vB ((kindOf e.i.op)==5)) rfl (okB (eqN _ _))<|oR 1 rfl<|rE 48 ?_;refine aQ rfl (λ h5=>?_) (λ h5=>?_)
     ·refine cSR<|oR 6 rfl<|rCi rfl (Qt e.i e.pc a b (BX he.imm) (BX he.pc) (BX ha) (BX hb))<|oR 5 rfl<|rE 60<|cSR<|oR 1 rfl<|rE 61 ?_;refine aQ rfl (λ h6=>?_) (λ h6=>?_)
      ·refine cRg<|oR 2 rfl<|rSt rfl<|rE 64<|cSR<|oR 1 rfl<|rSt rfl<|rE 66<|cM ?_;replace h1:=sP h1;replace h2:=sP h2;replace h3:=sP h3;replace h4:=sP h4;replace h5:=sP h5;replace h6:=sP h6;refine eW rfl rcT rfl (pC (e:=(⟨e.no,e.pc,⟨e.i.op,e.i.rd,e.i.rs1,e.i.rs2,e.i.imm⟩,e.guess,1,1,Qw e.i.op e.i.imm e.pc a b,xA e.i.op e.i.imm e.pc a b,e.addr,e.halt,e.took,e.known,e.filled⟩:Ent)) ?_);simp[w64,pD,tZ,up4,h1,h2,h3,h4,h5,h6]<;>(intros;simp_all)
      ·refine cSR<|oR 1 rfl<|rSt rfl<|rE 63<|cRg<|oR 1 rfl<|rSt rfl<|rE 65<|cSR<|oR 1 rfl<|rSt rfl<|rE 67<|cM ?_;replace h1:=sP h1;replace h2:=sP h2;replace h3:=sP h3;replace h4:=sP h4;replace h5:=sP h5;replace h6:=sP h6;refine eW rfl rcT rfl (pC (e:=(⟨e.no,e.pc,⟨e.i.op,e.i.rd,e.i.rs1,e.i.rs2,e.i.imm⟩,e.guess,1,1,0,(e.pc+4) % 4294967296,e.addr,3,e.took,e.known,e.filled⟩:Ent)) ?_);simp[w64,pD,tZ,up4,h1,h2,h3,h4,h5,h6]<;>(intros;simp_all)
     ·refine aY<|cSR<|oR 1 rfl<|rSt rfl<|rE 50<|cM ?_;replace h1:=sP h1;replace h2:=sP h2;replace h3:=sP h3;replace h4:=sP h4;replace h5:=sP h5;refine eW rfl rcT rfl (pC (e:=(⟨e.no,e.pc,⟨e.i.op,e.i.rd,e.i.rs1,e.i.rs2,e.i.imm⟩,e.guess,1,1,Qw e.i.op e.i.imm e.pc a b,(e.pc+4) % 4294967296,e.addr,e.halt,e.took,e.known,e.filled⟩:Ent)) ?_);simp[w64,pD,tZ,up4,h1,h2,h3,h4,h5]<;>(intros;simp_all)
  ·refine aY<|cSR<|oR 2 rfl ?_;have b2:(e.pc+4) % 4294967296≤4294967295:=aT (bG _ (by decide));refine rV (vU ((e.pc+4) % 4294967296)) rfl<|oR 1 rfl<|rSt rfl<|rE 30<|cSR<|oR 1 rfl<|rSt rfl<|rE 32<|bI<|cSR<|oR 1 rfl<|rE 33<|bE<|bI ?_;refine cRg<|rW (vB ((kindOf e.i.op)==1)) rfl (okB (eqN _ _))<|oR 1 rfl<|rE 35 ?_;refine aQ rfl (λ h7=>?_) (λ h7=>?_)
   ·refine cRg<|oR 1 rfl<|rSt rfl<|rE 37<|cSR<|oR 1 rfl<|rSt rfl<|rE 39<|cM ?_;replace h1:=sP h1;replace h2:=sP h2;replace h7:=sP h7;refine eW rfl rcT rfl (pC (e:=(⟨e.no,e.pc,⟨e.i.op,e.i.rd,e.i.rs1,e.i.rs2,e.i.imm⟩,e.guess,1,3,0,(e.pc+4) % 4294967296,e.addr,e.halt,e.took,e.known,e.filled⟩:Ent)) ?_);simp[w64,pD,tZ,up4,h1,h2,h7]<;>(intros;simp_all)
   ·refine cSR<|rW (vB ((kindOf e.i.op)==2)) rfl (okB (eqN _ _))<|oR 1 rfl<|rE 37 ?_;refine aQ rfl (λ h8=>?_) (λ h8=>?_)
    ·refine cSR<|oR 5 rfl<|rCi rfl (YA e.i.op a b (BX ha) (BX hb))<|oR 1 rfl<|rSt rfl<|rE 45<|cRg<|oR 3 rfl<|rSt rfl<|rE 49<|cSR<|oR 1 rfl<|rSt rfl<|rE 51 ?_;refine cM ?_;replace h1:=sP h1;replace h2:=sP h2;replace h7:=sP h7;replace h8:=sP h8;refine eW rfl rcT rfl (pC (e:=(⟨e.no,e.pc,⟨e.i.op,e.i.rd,e.i.rs1,e.i.rs2,e.i.imm⟩,e.guess,1,(zH e.i.op a b:Int),0,(e.pc+4) % 4294967296,e.addr,e.halt,(zH e.i.op a b:Int),e.known,e.filled⟩:Ent)) ?_);simp[w64,pD,tZ,up4,h1,h2,h7,h8]<;>(intros;simp_all)
    ·refine cSR<|rW (vB ((kindOf e.i.op)==5)) rfl (okB (eqN _ _))<|oR 1 rfl<|rE 39 ?_;refine aQ rfl (λ h9=>?_) (λ h9=>?_)
     ·refine cSR<|oR 6 rfl<|rCi rfl (Qt e.i e.pc a b (BX he.imm) (BX he.pc) (BX ha) (BX hb))<|oR 5 rfl<|rE 51<|cSR<|oR 1 rfl<|rE 52 ?_;refine aQ rfl (λ h10=>?_) (λ h10=>?_)
      ·refine cRg<|oR 2 rfl<|rSt rfl<|rE 55<|cSR<|oR 1 rfl<|rSt rfl<|rE 57<|cM ?_;replace h1:=sP h1;replace h2:=sP h2;replace h7:=sP h7;replace h8:=sP h8;replace h9:=sP h9;replace h10:=sP h10;refine eW rfl rcT rfl (pC (e:=(⟨e.no,e.pc,⟨e.i.op,e.i.rd,e.i.rs1,e.i.rs2,e.i.imm⟩,e.guess,1,1,0,xA e.i.op e.i.imm e.pc a b,e.addr,e.halt,e.took,e.known,e.filled⟩:Ent)) ?_);simp[w64,pD,tZ,up4,h1,h2,h7,h8,h9,h10]<;>(intros;simp_all)
      ·refine cSR<|oR 1 rfl<|rSt rfl<|rE 54<|cRg<|oR 1 rfl<|rSt rfl<|rE 56<|cSR<|oR 1 rfl<|rSt rfl<|rE 58<|cM ?_;replace h1:=sP h1;replace h2:=sP h2;replace h7:=sP h7;replace h8:=sP h8;replace h9:=sP h9;replace h10:=sP h10;refine eW rfl rcT rfl (pC (e:=(⟨e.no,e.pc,⟨e.i.op,e.i.rd,e.i.rs1,e.i.rs2,e.i.imm⟩,e.guess,1,1,0,(e.pc+4) % 4294967296,e.addr,3,e.took,e.known,e.filled⟩:Ent)) ?_);simp[w64,pD,tZ,up4,h1,h2,h7,h8,h9,h10]<;>(intros;simp_all)
     ·refine aY<|cSR<|oR 1 rfl<|rSt rfl<|rE 41<|cM ?_;replace h1:=sP h1;replace h2:=sP h2;replace h7:=sP h7;replace h8:=sP h8;replace h9:=sP h9;refine eW rfl rcT rfl (pC (e:=(⟨e.no,e.pc,⟨e.i.op,e.i.rd,e.i.rs1,e.i.rs2,e.i.imm⟩,e.guess,1,1,0,(e.pc+4) % 4294967296,e.addr,e.halt,e.took,e.known,e.filled⟩:Ent)) ?_);simp[w64,pD,tZ,up4,h1,h2,h7,h8,h9]<;>(intros;simp_all)
theorem UZ(e:Ent)(size:Int)(a:Nat)(he:e.ok)(hs:size<9223372036854775808)(ha:a≤4294967295):bV C0 166 [.agg (enL e),vI size,vU a] (.agg (enL (qY e size a))):=by
 refine bV.intro c0Ok Tryz.func166 rfl rfl (by kernel_rfl) rfl<|cSR<|rAl 0 rfl rfl<|rAl 1 rfl rfl<|rE 2<|cSR<|oR 2 rfl<|rCi rfl (rA e.i)<|oR 1 rfl<|rE 6<|bI<|cSR<|oR 1 rfl ?_;refine rW (vB ((kindOf e.i.op) != 3)) rfl (okB (neN _ _))<|oR 1 rfl<|gN rfl<|gBS (x:=vB ((kindOf e.i.op) != 4)) rfl id (okB (neN _ _))<|cL rfl rfl rfl (λ h=>h)<|oR 1 rfl<|gN rfl<|gS rfl id<|gBS (x:=vB (e.is != 0)) rfl id rfl<|cL rfl rfl rfl (by simp)<|oR 1 rfl<|gN rfl<|gS rfl id<|cL rfl rfl rfl (by simp)<|rE 21 ?_;refine aQ rfl (λ h1=>?_) (λ h1=>?_)
 ·refine cSR<|oR 1 rfl<|rSt rfl<|rE 23<|cM ?_;replace h1:=sP h1;refine eW rfl rcT rfl (pC (e:=(⟨e.no,e.pc,⟨e.i.op,e.i.rd,e.i.rs1,e.i.rs2,e.i.imm⟩,e.guess,e.is,e.left,e.value,e.next,e.addr,e.halt,e.took,e.known,e.filled⟩:Ent)) ?_);simp[w64,qY,h1]<;>(intros;simp_all)
 ·refine aY<|cSR<|oR 4 rfl ?_;have b1:(a+e.i.imm) % 4294967296≤4294967295:=aT (bG _ (by decide));refine rV (vU ((a+e.i.imm) % 4294967296)) rfl<|oR 1 rfl<|rSt rfl<|rE 28<|bI<|cSR<|oR 5 rfl<|rCi rfl (Ic e.i)<|rCi rfl (Qu size ((a+e.i.imm) % 4294967296) (dE e.i.op:Nat) hs (bG _ (by decide)))<|rE 35 ?_;refine aQ rfl (λ h2=>?_) (λ h2=>?_)
  ·refine cSR<|oR 1 rfl<|rSt rfl<|rE 37<|cSR<|oR 1 rfl<|rSt rfl<|rE 39<|cM ?_;replace h1:=sP h1;replace h2:=sP h2;refine eW rfl rcT rfl (pC (e:=(⟨e.no,e.pc,⟨e.i.op,e.i.rd,e.i.rs1,e.i.rs2,e.i.imm⟩,e.guess,e.is,e.left,e.value,e.next,(a+e.i.imm) % 4294967296,e.halt,e.took,true,e.filled⟩:Ent)) ?_);simp[w64,qY,h1,h2]<;>(intros;simp_all)
  ·refine aY<|cSR<|oR 1 rfl<|rSt rfl<|rE 37<|bI<|cSR<|oR 1 rfl<|rW (vB ((kindOf e.i.op)==4)) rfl (okB (eqN _ _))<|rE 39 ?_;refine aQ rfl (λ h3=>?_) (λ h3=>?_)
   ·refine cRg<|oR 1 rfl<|rSt rfl<|rE 41<|cSR<|oR 1 rfl<|rSt rfl<|rE 43<|cSR<|oR 1 rfl<|rSt rfl<|rE 45<|cM ?_;replace h1:=sP h1;replace h2:=sP h2;replace h3:=sP h3;refine eW rfl rcT rfl (pC (e:=(⟨e.no,e.pc,⟨e.i.op,e.i.rd,e.i.rs1,e.i.rs2,e.i.imm⟩,e.guess,3,e.left,e.value,e.next,(a+e.i.imm) % 4294967296,5,e.took,e.known,e.filled⟩:Ent)) ?_);simp[w64,qY,h1,h2,h3]<;>(intros;simp_all)
   ·refine aY<|cSR<|oR 1 rfl<|rSt rfl<|rE 41<|cSR<|oR 1 rfl<|rSt rfl<|rE 43<|cM ?_;replace h1:=sP h1;replace h2:=sP h2;replace h3:=sP h3;refine eW rfl rcT rfl (pC (e:=(⟨e.no,e.pc,⟨e.i.op,e.i.rd,e.i.rs1,e.i.rs2,e.i.imm⟩,e.guess,3,e.left,e.value,e.next,(a+e.i.imm) % 4294967296,4,e.took,e.known,e.filled⟩:Ent)) ?_);simp[w64,qY,h1,h2,h3]<;>(intros;simp_all)
theorem Rb(e:Ent)(s:ByteArray)(he:e.ok)(hs:s.size<9223372036854775808):bV C0 93 [.agg (enL e),.v (.string s)] (.agg (enL (sJ e s))):=by
 refine bV.intro c0Ok Tryz.func93 rfl rfl (by kernel_rfl) rfl<|cSR<|rAl 0 rfl rfl<|rAl 1 rfl rfl<|rE 2<|bI<|cSR<|oR 2 rfl<|rCi rfl (rA e.i)<|rW (vB ((kindOf e.i.op) != 3)) rfl (okB (neN _ _))<|oR 1 rfl<|gN rfl<|gS rfl id<|gS rfl id ?_;refine cL rfl rfl rfl (by simp)<|oR 1 rfl<|gN rfl<|gS rfl id<|gBS (x:=vB (e.is != 0)) rfl id rfl<|gS rfl id<|gN rfl<|gS rfl id<|gBS (x:=vB (e.is != 2)) rfl id rfl<|tW (x:=vB (cJ (e.is != 0) (e.is != 2) false)) (g:= !(cJ ((kindOf e.i.op) != 3) true (!e.known))) rfl rfl rfl rfl (λ h=>h) rfl rfl (λ hg hc=>by first|(rw[hg,hc];rfl)|simp_all)<|cL rfl rfl rfl (by simp)<|rE 21 ?_;refine aQ rfl (λ h1=>?_) (λ h1=>?_)
 ·refine cSR<|oR 1 rfl<|rSt rfl<|rE 23<|cM ?_;replace h1:=sP h1;refine eW rfl rcT rfl (pC (e:=(⟨e.no,e.pc,⟨e.i.op,e.i.rd,e.i.rs1,e.i.rs2,e.i.imm⟩,e.guess,e.is,e.left,e.value,e.next,e.addr,e.halt,e.took,e.known,e.filled⟩:Ent)) ?_);simp[w64,sJ,h1]<;>(intros;simp_all)
 ·refine aY<|cSR<|oR 1 rfl<|rSt rfl<|rE 23<|cSR<|oR 1 rfl<|rSt rfl<|rE 25<|cSR<|oR 1 rfl<|rSt rfl<|rE 27 ?_;refine bI<|cSR<|oR 2 rfl<|rCi rfl (Id e.i)<|rV (vB ((wr e.i) != 0)) rfl<|rE 31 ?_;refine aQ rfl (λ h2=>?_) (λ h2=>?_)
  ·refine cRg<|oR 4 rfl<|rCi rfl (ZT e.i.op s hs)<|oR 1 rfl<|rSt rfl<|rE 38<|cSR<|oR 1 rfl<|rSt rfl<|rE 40<|cM ?_;replace h1:=sP h1;replace h2:=sP h2;refine eW rfl rcT rfl (pC (e:=(⟨e.no,e.pc,⟨e.i.op,e.i.rd,e.i.rs1,e.i.rs2,e.i.imm⟩,e.guess,1,1,loadP e.i.op s,e.next,e.addr,e.halt,e.took,e.known,e.filled⟩:Ent)) ?_);simp[w64,sJ,h1,h2]<;>(intros;simp_all)
  ·refine aY<|cSR<|oR 1 rfl<|rSt rfl<|rE 33<|cM ?_;replace h1:=sP h1;replace h2:=sP h2;refine eW rfl rcT rfl (pC (e:=(⟨e.no,e.pc,⟨e.i.op,e.i.rd,e.i.rs1,e.i.rs2,e.i.imm⟩,e.guess,1,1,0,e.next,e.addr,e.halt,e.took,e.known,e.filled⟩:Ent)) ?_);simp[w64,sJ,h1,h2]<;>(intros;simp_all)
theorem WW(x n:Nat)(hx:x<4294967296)(hn:n≤4):bV C0 158 [.v (.int .u32 (x:Int)),.v (.int .i64 (n:Int))] (.v (.int .u32 ((valB x n:Nat):Int))):=by
 refine bV.intro c0Ok Tryz.func158 rfl rfl (by kernel_rfl) rfl<|cSR<|oR 1 rfl<|rE 1<|cSR<|oR 2 rfl<|rCi rfl (Qv x n hx hn)<|oR 5 rfl<|rE 9<|cSR<|oR 1 rfl<|rCi rfl (ZS (sL x n) (by rw[yT];exact hn))<|oR 5 rfl ?_;refine rE 16<|cSR<|oR 2 rfl<|rE 18<|cM ?_;exact fT rfl rfl
theorem Rd(e:Ent)(b:Nat)(he:e.ok)(hb:b≤4294967295):bV C0 102 [.agg (enL e),vU b] (.agg (enL (qS e b))):=by
 refine bV.intro c0Ok Tryz.func102 rfl rfl (by kernel_rfl) rfl<|cSR<|rAl 0 rfl rfl<|rAl 1 rfl rfl<|rE 2<|bI<|cSR<|oR 2 rfl<|rCi rfl (rA e.i)<|rW (vB ((kindOf e.i.op) != 4)) rfl (okB (neN _ _))<|oR 1 rfl<|gN rfl<|gS rfl id<|gS rfl id ?_;refine cL rfl rfl rfl (by simp)<|oR 1 rfl<|gN rfl<|gS rfl id<|gBS (x:=vB (e.is != 0)) rfl id rfl<|cL rfl rfl rfl (by simp)<|rE 16 ?_;refine aQ rfl (λ h1=>?_) (λ h1=>?_)
 ·refine cSR<|oR 1 rfl<|rSt rfl<|rE 18<|cM ?_;replace h1:=sP h1;refine eW rfl rcT rfl (pC (e:=(⟨e.no,e.pc,⟨e.i.op,e.i.rd,e.i.rs1,e.i.rs2,e.i.imm⟩,e.guess,e.is,e.left,e.value,e.next,e.addr,e.halt,e.took,e.known,e.filled⟩:Ent)) ?_);simp[w64,qS,h1]<;>(intros;simp_all)
 ·refine aY<|cSR<|oR 1 rfl<|rSt rfl<|rE 18<|cSR<|oR 3 rfl<|rCi rfl (Ic e.i)<|rCi rfl (WW b (dE e.i.op) (BX hb) (tS e.i.op))<|oR 1 rfl<|rSt rfl<|rE 25<|cSR ?_;refine oR 1 rfl<|rSt rfl<|rE 27<|cM ?_;replace h1:=sP h1;refine eW rfl rcT rfl (pC (e:=(⟨e.no,e.pc,⟨e.i.op,e.i.rd,e.i.rs1,e.i.rs2,e.i.imm⟩,e.guess,3,e.left,valB b (dE e.i.op),e.next,e.addr,e.halt,e.took,e.known,e.filled⟩:Ent)) ?_);simp[w64,qS,h1]<;>(intros;simp_all)
theorem Re(e:Ent)(he:e.ok):bV C0 105 [.agg (enL e)] (.agg (spL (bH e))):=by
 refine bV.intro c0Ok Tryz.func105 rfl rfl (by kernel_rfl) rfl<|cSR<|rAl 0 rfl rfl<|rAl 1 rfl rfl<|rE 2<|bI<|cSR<|oR 2 rfl<|rV (vB (e.halt != 0)) rfl<|rE 5 ?_;refine aQ rfl (λ h1=>?_) (λ h1=>?_)
 ·refine cSR<|oR 6 rfl<|rV (.agg [vU e.pc,vU e.pc,vI 0,.v (.int .u32 0),.v (.int .u32 0),vI 0,vB false,vI e.halt,vI 0]) rfl<|rAl 12 rfl rfl<|rSt rfl<|rE 14<|bI<|cSR<|oR 2 rfl<|rV (vB (e.halt==4)) rfl<|oR 1 rfl<|gN rfl<|gS rfl id<|gBS (x:=vB (e.halt==5)) rfl id rfl ?_;refine cL rfl rfl rfl (by simp)<|rE 22 ?_;refine aQ rfl (λ h2=>?_) (λ h2=>?_)
  ·refine cRg<|oR 3 rfl<|rSt rfl<|rE 26<|cSR<|oR 1 rfl<|rSt rfl<|rE 28<|cM ?_;replace h1:=sP h1;replace h2:=sP h2;refine eW rfl rcT rfl (Dn (e:=⟨e.pc,e.pc,0,0,e.addr,0,false,e.halt,0⟩) ?_);simp[bH,up4,h1,h2]<;>(intros;simp_all)
  ·refine aY<|cSR<|oR 1 rfl<|rSt rfl<|rE 24<|cM ?_;replace h1:=sP h1;replace h2:=sP h2;refine eW rfl rcT rfl (Dn (e:=⟨e.pc,e.pc,0,0,0,0,false,e.halt,0⟩) ?_);simp[bH,up4,h1,h2]<;>(intros;simp_all)
 ·refine aY<|cSR<|oR 4 rfl ?_;have b1:(e.pc+4) % 4294967296≤4294967295:=aT (bG _ (by decide));refine rV (vU ((e.pc+4) % 4294967296)) rfl<|oR 2 rfl<|rCi rfl (Id e.i)<|rV (.agg [vU e.pc,vU ((e.pc+4) % 4294967296),vI (wr e.i),.v (.int .u32 0),.v (.int .u32 0),vI 0,vB false,vI 0,vI 0]) rfl<|rAl 14 rfl rfl<|rSt rfl<|rE 16<|bI<|cSR<|oR 2 rfl<|rV (vB ((wr e.i) != 0)) rfl<|rE 19 ?_;refine aQ rfl (λ h3=>?_) (λ h3=>?_)
  ·refine cRg<|oR 3 rfl<|rSt rfl<|rE 23<|bI<|cSR<|oR 2 rfl<|rCi rfl (rA e.i)<|rE 26<|bE<|bI<|bE<|bI<|bE<|bI ?_;refine bE<|bI<|bE<|bI<|bI<|cSR<|rW (vB ((kindOf e.i.op)==4)) rfl (okB (eqN _ _))<|oR 1 rfl<|rE 28 ?_;refine aQ rfl (λ h4=>?_) (λ h4=>?_)
   ·refine dR<|cSR<|oR 1 rfl<|rSt rfl<|rE 30<|cRg<|oR 3 rfl<|rSt rfl<|rE 34<|bI<|cSR<|oR 3 rfl<|rSt rfl<|rE 38 ?_;refine cRg<|oR 2 rfl<|rCi rfl (Ic e.i)<|oR 1 rfl<|rSt rfl<|rE 43<|dR<|cSR<|oR 1 rfl<|rSt rfl<|rE 45<|cM ?_;replace h1:=sP h1;replace h3:=sP h3;replace h4:=sP h4;refine eW rfl rcT rfl (Dn (e:=⟨e.pc,(e.pc+4) % 4294967296,wr e.i,e.value,e.addr,dE e.i.op,true,0,0⟩) ?_);simp[bH,up4,h1,h3,h4]<;>(intros;simp_all)
   ·refine aY<|bI<|cSR<|rW (vB ((kindOf e.i.op)==3)) rfl (okB (eqN _ _))<|oR 1 rfl<|rE 30 ?_;refine aQ rfl (λ h5=>?_) (λ h5=>?_)
    ·refine dR<|bI<|cSR<|oR 3 rfl<|rSt rfl<|rE 34<|cRg<|oR 2 rfl<|rCi rfl (Ic e.i)<|oR 1 rfl<|rSt rfl<|rE 39<|dR<|cSR ?_;refine oR 1 rfl<|rSt rfl<|rE 41<|cM ?_;replace h1:=sP h1;replace h3:=sP h3;replace h4:=sP h4;replace h5:=sP h5;refine eW rfl rcT rfl (Dn (e:=⟨e.pc,(e.pc+4) % 4294967296,wr e.i,e.value,e.addr,dE e.i.op,false,0,0⟩) ?_);simp[bH,up4,h1,h3,h4,h5]<;>(intros;simp_all)
    ·refine aY<|bI<|cSR<|rW (vB ((kindOf e.i.op)==2)) rfl (okB (eqN _ _))<|oR 1 rfl<|rE 32 ?_;refine aQ rfl (λ h6=>?_) (λ h6=>?_)
     ·refine dR<|cSR<|oR 3 rfl<|rSt rfl<|rE 36<|dR<|cSR<|oR 1 rfl<|rSt rfl<|rE 38<|cM ?_;replace h1:=sP h1;replace h3:=sP h3;replace h4:=sP h4;replace h5:=sP h5;replace h6:=sP h6;refine eW rfl rcT rfl (Dn (e:=⟨e.pc,(e.pc+4) % 4294967296,wr e.i,e.value,0,0,false,0,e.took⟩) ?_);simp[bH,up4,h1,h3,h4,h5,h6]<;>(intros;simp_all)
     ·refine aY<|cSR<|rW (vB ((kindOf e.i.op)==5)) rfl (okB (eqN _ _))<|oR 1 rfl<|rE 34 ?_;refine aQ rfl (λ h7=>?_) (λ h7=>?_)
      ·refine dR<|cSR<|oR 3 rfl<|rSt rfl<|rE 38<|dR<|cSR<|oR 1 rfl<|rSt rfl<|rE 40<|cM ?_;replace h1:=sP h1;replace h3:=sP h3;replace h4:=sP h4;replace h5:=sP h5;replace h6:=sP h6;replace h7:=sP h7;refine eW rfl rcT rfl (Dn (e:=⟨e.pc,e.next,wr e.i,e.value,0,0,false,0,0⟩) ?_);simp[bH,up4,h1,h3,h4,h5,h6,h7]<;>(intros;simp_all)
      ·refine aY<|dR<|cSR<|oR 1 rfl<|rSt rfl<|rE 36<|cM ?_;replace h1:=sP h1;replace h3:=sP h3;replace h4:=sP h4;replace h5:=sP h5;replace h6:=sP h6;replace h7:=sP h7;refine eW rfl rcT rfl (Dn (e:=⟨e.pc,(e.pc+4) % 4294967296,wr e.i,e.value,0,0,false,0,0⟩) ?_);simp[bH,up4,h1,h3,h4,h5,h6,h7]<;>(intros;simp_all)
  ·refine aY<|bI<|cSR<|oR 2 rfl<|rCi rfl (rA e.i)<|rE 22<|bE<|bI<|bE<|bI<|bE<|bI<|bE<|bI<|bE ?_;refine bI<|bI<|cSR<|rW (vB ((kindOf e.i.op)==4)) rfl (okB (eqN _ _))<|oR 1 rfl<|rE 24 ?_;refine aQ rfl (λ h8=>?_) (λ h8=>?_)
   ·refine dR<|cSR<|oR 1 rfl<|rSt rfl<|rE 26<|cRg<|oR 3 rfl<|rSt rfl<|rE 30<|bI<|cSR<|oR 3 rfl<|rSt rfl<|rE 34 ?_;refine cRg<|oR 2 rfl<|rCi rfl (Ic e.i)<|oR 1 rfl<|rSt rfl<|rE 39<|dR<|cSR<|oR 1 rfl<|rSt rfl<|rE 41<|cM ?_;replace h1:=sP h1;replace h3:=sP h3;replace h8:=sP h8;refine eW rfl rcT rfl (Dn (e:=⟨e.pc,(e.pc+4) % 4294967296,wr e.i,e.value,e.addr,dE e.i.op,true,0,0⟩) ?_);simp[bH,up4,h1,h3,h8]<;>(intros;simp_all)
   ·refine aY<|bI<|cSR<|rW (vB ((kindOf e.i.op)==3)) rfl (okB (eqN _ _))<|oR 1 rfl<|rE 26 ?_;refine aQ rfl (λ h9=>?_) (λ h9=>?_)
    ·refine dR<|bI<|cSR<|oR 3 rfl<|rSt rfl<|rE 30<|cRg<|oR 2 rfl<|rCi rfl (Ic e.i)<|oR 1 rfl<|rSt rfl<|rE 35<|dR<|cSR ?_;refine oR 1 rfl<|rSt rfl<|rE 37<|cM ?_;replace h1:=sP h1;replace h3:=sP h3;replace h8:=sP h8;replace h9:=sP h9;refine eW rfl rcT rfl (Dn (e:=⟨e.pc,(e.pc+4) % 4294967296,wr e.i,0,e.addr,dE e.i.op,false,0,0⟩) ?_);simp[bH,up4,h1,h3,h8,h9]<;>(intros;simp_all)
    ·refine aY<|bI<|cSR<|rW (vB ((kindOf e.i.op)==2)) rfl (okB (eqN _ _))<|oR 1 rfl<|rE 28 ?_;refine aQ rfl (λ h10=>?_) (λ h10=>?_)
     ·refine dR<|cSR<|oR 3 rfl<|rSt rfl<|rE 32<|dR<|cSR<|oR 1 rfl<|rSt rfl<|rE 34<|cM ?_;replace h1:=sP h1;replace h3:=sP h3;replace h8:=sP h8;replace h9:=sP h9;replace h10:=sP h10;refine eW rfl rcT rfl (Dn (e:=⟨e.pc,(e.pc+4) % 4294967296,wr e.i,0,0,0,false,0,e.took⟩) ?_);simp[bH,up4,h1,h3,h8,h9,h10]<;>(intros;simp_all)
     ·refine aY<|cSR<|rW (vB ((kindOf e.i.op)==5)) rfl (okB (eqN _ _))<|oR 1 rfl<|rE 30 ?_;refine aQ rfl (λ h11=>?_) (λ h11=>?_)
      ·refine dR<|cSR<|oR 3 rfl<|rSt rfl<|rE 34<|dR<|cSR<|oR 1 rfl<|rSt rfl<|rE 36<|cM ?_;replace h1:=sP h1;replace h3:=sP h3;replace h8:=sP h8;replace h9:=sP h9;replace h10:=sP h10;replace h11:=sP h11;refine eW rfl rcT rfl (Dn (e:=⟨e.pc,e.next,wr e.i,0,0,0,false,0,0⟩) ?_);simp[bH,up4,h1,h3,h8,h9,h10,h11]<;>(intros;simp_all)
      ·refine aY<|dR<|cSR<|oR 1 rfl<|rSt rfl<|rE 32<|cM ?_;replace h1:=sP h1;replace h3:=sP h3;replace h8:=sP h8;replace h9:=sP h9;replace h10:=sP h10;replace h11:=sP h11;refine eW rfl rcT rfl (Dn (e:=⟨e.pc,(e.pc+4) % 4294967296,wr e.i,0,0,0,false,0,0⟩) ?_);simp[bH,up4,h1,h3,h8,h9,h10,h11]<;>(intros;simp_all)
theorem abZ(n:Nat):(if (0:Int)>(n:Int)then (0:Int)else (n:Int))=(n:Int):=if_neg omT
theorem YQ{n:Nat}(h:n≤1000):IntKind.wrap .i64 ((n:Int) - 1)=(n:Int) - 1:=wrap_i64 omT omT
theorem WX{k:Nat}(h0:0<k)(h:k≤1000):IntKind.wrap .i64 (((k:Int) - 1) - 1)=((k - 1:Nat):Int) - 1:=by rw[wrap_i64 omT omT];omega
theorem aaM{a b:Nat}(h:b≤a)(ha:a≤4294967295):IntKind.wrap .u32 ((a:Int) - (b:Int))=((a - b:Nat):Int):=by
 rw[show ((a:Int) - (b:Int))=((a - b:Nat):Int) by omega];exact IG (by omega:a - b≤4294967295) rfl
theorem TM(a n:Nat)(ha:a≤4294967295)(hn:n≤1000):bV C0 233 [vU a,vN n] (.v (.int .u64 ((a+n:Nat):Int))):=by
 refine bV.intro c0Ok Tryz.func233 rfl rfl (by kernel_rfl) rfl<|cSR<|oR 1 rfl<|rE 1<|cSR<|oR 1 rfl<|rW (.v (.int .u64 (a:Int))) rfl (okI (IG ha rfl))<|oR 1 rfl<|rW (vN n) rfl (okI (abZ n))<|rW (.v (.int .u64 (n:Int))) rfl (okI (IG hn rfl)) ?_;have b1:a+n≤4294968295:=aF ha hn;refine rW (.v (.int .u64 ((a+n:Nat):Int))) rfl (okI (IG b1 rfl))<|oR 1 rfl<|rE 8<|cM ?_;exact fT rfl rfl
theorem YR(a n b m:Nat)(ha:a≤4294967295)(hn:n≤1000)(hb:b≤4294967295)(hm:m≤1000):bV C0 221 [vU a,vN n,vU b,vN m] (vB (Fx a n b m)):=by
 refine bV.intro c0Ok Tryz.func221 rfl rfl (by kernel_rfl) rfl<|cSR<|oR 1 rfl<|rE 1<|bI<|cSR<|oR 1 rfl<|rW (vB (decide (n≤0))) rfl (okB (leN _ _))<|oR 1 rfl<|gN rfl<|gBS (x:=vB (decide (m≤0))) rfl id (okB (leN _ _))<|cL rfl rfl rfl (by simp)<|rE 7 ?_;refine aQ rfl (λ h1=>?_) (λ h1=>?_)
 ·refine cSR<|oR 1 rfl<|rE 8<|cM ?_;exact fT rfl (dH (by have z:=h1;simp only[cOr,qI,Fx]at z⊢ <;>grind))
 ·refine aY<|cSR<|oR 1 rfl<|rW (.v (.int .u64 (a:Int))) rfl (okI (IG ha rfl))<|oR 2 rfl<|rCi rfl (TM b m hb hm)<|rW (vB (decide (a<(b+m)))) rfl (okB (ltN _ _))<|oR 1 rfl<|gN rfl<|gBS (x:=.v (.int .u64 (b:Int))) rfl id (okI (IG hb rfl))<|gN rfl<|gN rfl<|gT (args:=[vU a,vN n]) (x:=.v (.int .u64 ((a+n:Nat):Int))) (g:=decide (a<(b+m))) rfl rfl rfl rfl hsT rfl rfl rfl (.inl rfl) rfl (λ hg=>TM a n ha hn)<|gBS (x:=vB (decide (b<(a+n)))) rfl hsT (okB (ltN _ _))<|cL rfl rfl rfl (λ h=>h) ?_;refine oR 1 rfl<|rE 22<|cM ?_;exact fT rfl (dH (by have z:=h1;simp only[cOr,qI,Fx]at z⊢ <;>grind))
theorem WY(a n b m:Nat)(ha:a≤4294967295)(hn:n≤1000)(hb:b≤4294967295)(hm:m≤1000):bV C0 222 [vU a,vN n,vU b,vN m] (vB (EH a n b m)):=by
 refine bV.intro c0Ok Tryz.func222 rfl rfl (by kernel_rfl) rfl<|cSR<|oR 1 rfl<|rE 1<|cSR<|oR 1 rfl<|rW (vB (decide (m>0))) rfl (okB (gtN _ _))<|oR 1 rfl<|gN rfl<|gN rfl<|gBS (x:=vB (decide (a≤b))) rfl hsT (okB (leN _ _))<|cL rfl rfl rfl (λ h=>h)<|oR 1 rfl<|gN rfl ?_;refine gN rfl<|gT (args:=[vU b,vN m]) (x:=.v (.int .u64 ((b+m:Nat):Int))) (g:=cJ (decide (m>0)) (decide (a≤b)) false) rfl rfl rfl rfl hsT rfl rfl rfl (.inl rfl) rfl (λ hg=>TM b m hb hm)<|gN rfl<|gN rfl<|gT (args:=[vU a,vN n]) (x:=.v (.int .u64 ((a+n:Nat):Int))) (g:=cJ (decide (m>0)) (decide (a≤b)) false) rfl rfl rfl rfl hsT rfl rfl rfl (.inl rfl) rfl (λ hg=>TM a n ha hn)<|gBS (x:=vB (decide ((b+m)≤(a+n)))) rfl hsT (okB (leN _ _))<|cL rfl rfl rfl (λ h=>h)<|oR 1 rfl<|rE 18<|cM ?_;exact fT rfl (dH (by simp only[cOr,qI,EH]<;>grind))
def ab0(s:Std):Value:=.agg #[.int .u32 (s.addr:Int),.int .i64 (s.size:Int),.string s.data,.bool s.there]
def YS(s:Std):Array Value:= #[ab0 s]
abbrev sdL(s:Std):List AV:=[vU s.addr,vN s.size,.v (.string s.data),vB s.there]
def MZ(R:List Ent)(k:Nat):List Std:=(((R.drop k).filter λ e=>isK e 4).map EG).reverse
def TN(R:List Ent)(S:List Pt)(k:Nat):List Std:=MZ R 0++((S.drop k).map CD).reverse
theorem Na(R:List Ent)(S:List Pt):Fw R S=MZ R 0++(S.map CD).reverse:=rfl
theorem EV{α:Type}{l:List α}{k:Nat}{x:α}(h0:0<k)(h:l[k - 1]?=some x):l.drop (k - 1)=x::l.drop k:=by
 obtain⟨hl,rfl⟩:=DN.1 h;rw[bU hl,show k - 1+1=k by omega]
theorem Nb{R:List Ent}{k:Nat}{x:Ent}(h0:0<k)(h:R[k - 1]?=some x)(hk:isK x 4=true):MZ R (k - 1)=MZ R k++[EG x]:=by
 unfold MZ;rw[EV h0 h,List.filter_cons_of_pos (by simpa using hk)];simp
theorem WZ{R:List Ent}{k:Nat}{x:Ent}(h0:0<k)(h:R[k - 1]?=some x)(hk:isK x 4=false):MZ R k=MZ R (k - 1):=by
 unfold MZ;rw[EV h0 h,List.filter_cons_of_neg (by simpa using hk)]
theorem TO(R:List Ent)(S:List Pt)(k:Nat):MZ R k <+: Fw R S:=by
 rw[Na];refine List.IsPrefix.trans ?_ (List.prefix_append _ _);refine⟨(((R.take k).filter λ e=>isK e 4).map EG).reverse,?_⟩;unfold MZ;rw[←List.reverse_append, ←eZ, ←jY,gF,cB]
theorem Oj(R:List Ent):MZ R R.length=[]:=by unfold MZ;rw[List.drop_length];rfl
theorem Kf{R:List Ent}{S:List Pt}{k:Nat}{x:Pt}(h0:0<k)(h:S[k - 1]?=some x):TN R S (k - 1)=TN R S k++[CD x]:=by
 unfold TN;rw[EV h0 h];simp
theorem TP(R:List Ent)(S:List Pt)(k:Nat):TN R S k <+: Fw R S:=by
 rw[Na];unfold TN;rw[List.prefix_append_right_inj];refine⟨((S.take k).map CD).reverse,?_⟩;rw[←List.reverse_append, ←eZ,gF]
theorem Ok(R:List Ent)(S:List Pt):TN R S S.length=MZ R 0:=by unfold TN;rw[List.drop_length];simp
theorem TQ(R:List Ent)(S:List Pt):TN R S 0=Fw R S:=rfl
theorem TR{R:List Ent}{S:List Pt}(ho:∀ x∈R,x.ok)(hso:∀ x∈S,x.ok)(hss:∀ x∈S,x.data.size≤4){s:Std}(h:s∈Fw R S):s.addr≤4294967295∧s.size≤4∧s.data.size=s.size:=by
 unfold Fw at h;rcases al_List_mem_append.1 h with h|h
 ·obtain⟨e,he,rfl⟩:=sS.1 (List.mem_reverse.1 h);exact⟨(ho e (List.mem_filter.1 he).1).addr,tS _,yT _ _⟩
 ·obtain⟨p,hp,rfl⟩:=sS.1 (List.mem_reverse.1 h);exact⟨(hso p hp).addr,hss p hp,rfl⟩
theorem Dg{at_ n:Nat}:∀ {l:List Std},(∀ s,s∈l→Fx s.addr s.size at_ n=false)→wZ at_ n l=(2,mR)
 |[],_=>rfl
 |s::l,h=>by
  simp only[wZ];rw[if_pos (h s bQ)];exact Dg λ y hy=>h y (bX _ hy)
theorem CM{at_ n:Nat}{s:Std}:∀ {pre l:List Std},pre++[s] <+: l→(∀ y,y∈pre→Fx y.addr y.size at_ n=false)→Fx s.addr s.size at_ n=true→
  wZ at_ n l=if EH s.addr s.size at_ n=false∨s.there=false then (0,mR)else (1,s.data.extract (at_ - s.addr) (at_ - s.addr+n))
 |[],[],h,_,_=>by have:=h.length_le;simp at this
 |[],y::l,h,_,hs=>by
  obtain⟨t,ht⟩:=h;obtain⟨rfl, -⟩:=List.cons.inj ht
  simp only[wZ];rw[if_neg (by simp[hs])]
 |y::pre,[],h,_,_=>by have:=h.length_le;simp at this
 |y::pre,z::l,h,hN,hs=>by
  obtain⟨t,ht⟩:=h;obtain⟨h3,h4⟩:=List.cons.inj ht;subst h3;simp only[wZ];rw[if_pos (hN y bQ)];exact CM ⟨t,h4⟩ (λ y hy=>hN y (bX _ hy)) hs
theorem Rf(R:List Ent)(S:List Pt)(ck ck2:Bool)(hl:R.length≤1000)(ho:∀ x∈R,x.ok)(hst:S.length≤1000)(hso:∀ x∈S,x.ok):TK C0 232 [.dp 1 0 ([.sl 17 (R.map enL) ck]),.dp 1 0 ([.sl 2 (S.map ptL) ck2])] YS (Fw R S):=by
 refine TK.intro c0Ok Tryz.func232 rfl rfl (by kernel_rfl) rfl ?_;intro y;refine wA<|wA<|sN rfl<|cRg<|oR 1 rfl<|rW (vN R.length) rfl (bJ enL R)<|rW (vI (((R.length:Nat):Int) - 1)) rfl (okI (YQ hl))<|oR 1 rfl<|rE 4<|CL<|QV (κ:=Nat) (λ k=>⟨slotsF [(0,.v y),(1,.dp 1 0 ([.sl 17 (R.map enL) ck])),(2,.dp 1 0 ([.sl 2 (S.map ptL) ck2])),(4,vI ((k:Int) - 1))],heapF [],4⟩) (λ k=>MZ R k) (λ k=>k≤R.length) (λ k=>k) R.length (λ s=>s) (Weak.of_lists (λ s=>s) wT trivial rfl) rfl (Oj R) (aC _) ?_;intro k hk;have hkB:k≤1000:=by have:k≤R.length:=hk;omega
 refine wA<|wA<|sN rfl<|cRg<|oR 1 rfl<|rV (vB (decide (((k:Int) - 1)≥0))) rfl<|rE 6 ?_;refine ES (v:=decide (((k:Int) - 1)≥0)) rfl (λ h1=>?_) (λ h1=>?_)
 ·have h1p:=of_decide_eq_true h1;have hk0:0<k:=by omega
  refine sN rfl<|aY<|wA<|CL<|wA<|sN rfl<|cRg<|oR 2 rfl ?_;obtain⟨x,hx⟩:∃ y_,R[k - 1]?=some y_:=⟨_,aA omT⟩;have hxo:=ho x (aB hx);refine Fi (enL x) (x:=.dp 17 0 (enL x)) rfl rfl rfl (⟨by omega,by rw[show ((k:Int) - 1).toNat=k - 1 by omega];exact fM hx⟩) rfl<|oR 1 rfl<|rAl 10 rfl rfl<|rSt rfl<|rE 12<|wA<|wA<|sN rfl<|cRg<|oR 2 rfl<|rCi rfl (rA x.i)<|rW (vB ((kindOf x.i.op) != 4)) rfl (okB (neN _ _))<|rE 16 ?_;refine ES (v:=(kindOf x.i.op) != 4) rfl (λ h2=>?_) (λ h2=>?_)
  ·have h2p:=wX h2;have hkf:isK x 4=false:=by unfold isK;simpa using h2p
   refine sN rfl<|dR<|sN rfl<|cRg<|oR 1 rfl<|rW (vI (((k - 1:Nat):Int) - 1)) rfl (okI (WX hk0 hkB))<|oR 1 rfl<|rE 19 ?_;refine⟨rfl,k - 1,λ s=>s,Weak.of_lists _ wT trivial rfl,rfl,(WZ hk0 hx hkf).symm,(by show k - 1≤R.length;omega),(by show k - 1<k;omega)⟩
  ·have h2p:=wY h2;have hkt:isK x 4=true:=by unfold isK;simpa using h2p
   refine sN rfl<|aY<|wA<|sN rfl<|cRg<|oR 2 rfl<|rCi rfl (Ic x.i)<|oR 1 rfl<|rE 20<|wA<|sN rfl<|cRg<|oR 3 rfl<|rCi rfl (Qv x.value (dE x.i.op) (BX hxo.value) (tS x.i.op))<|oR 5 rfl<|rE 29 ?_;refine wA<|QW rfl 9 rfl rfl rfl<|oR 7 rfl<|rV (vB (x.is==3)) rfl<|rV (.agg [vU x.addr,vN (dE x.i.op),.v (.string (sL x.value (dE x.i.op))),vB (x.is==3)]) rfl<|rE 38 ?_;refine⟨EG x,_,⟨slotsF [(0,.v y),(1,.dp 1 0 ([.sl 17 (R.map enL) ck])),(2,.dp 1 0 ([.sl 2 (S.map ptL) ck2])),(4,vI ((k:Int) - 1)),(36,.v y),(44,.agg [vU x.addr,vN (dE x.i.op),.v (.string (sL x.value (dE x.i.op))),vB (x.is==3)])],heapF [],0⟩,λ s=>s,Weak.of_lists _ wT trivial rfl,rfl,rfl,rfl,rfl,rfl,rfl,(by rw[←Nb hk0 hx hkt];exact TO R S _),λ yb1=>?_⟩;refine oR 1 rfl<|rE 40 ?_;refine ES (v:= !yb1) rfl (λ h3=>?_) (λ h3=>?_)
   ·refine sN rfl<|cM ?_;intro hs;rw[h3]at hs;cases hs
   ·refine sN rfl<|aY<|sN rfl<|cRg<|oR 1 rfl<|rW (vI (((k - 1:Nat):Int) - 1)) rfl (okI (WX hk0 hkB))<|oR 1 rfl<|rE 43 ?_;refine⟨h3,k - 1,λ s=>s,Weak.of_lists _ wT trivial rfl,rfl,(Nb hk0 hx hkt),(by show k - 1≤R.length;omega),(by show k - 1<k;omega)⟩
 ·have h1p:=aD h1;refine sN rfl<|dR<|wA<|sN rfl<|cRg<|oR 1 rfl<|rW (vN S.length) rfl (bJ ptL S)<|rW (vI (((S.length:Nat):Int) - 1)) rfl (okI (YQ hst))<|oR 1 rfl<|rE 10<|CL ?_;obtain hk_:k=0:=by omega
  subst hk_;refine QV (κ:=Nat) (λ j=>⟨slotsF [(0,.v y),(1,.dp 1 0 ([.sl 17 (R.map enL) ck])),(2,.dp 1 0 ([.sl 2 (S.map ptL) ck2])),(9,vI ((j:Int) - 1))],heapF [],10⟩) (λ j=>TN R S j) (λ j=>j≤S.length) (λ j=>j) S.length (λ s=>s) (Weak.of_lists (λ s=>s) wT trivial rfl) rfl (Ok R S) (aC _) ?_;intro j hj;have hjB:j≤1000:=by have:j≤S.length:=hj;omega
  refine wA<|wA<|sN rfl<|cRg<|oR 1 rfl<|rV (vB (decide (((j:Int) - 1)≥0))) rfl<|rE 12 ?_;refine ES (v:=decide (((j:Int) - 1)≥0)) rfl (λ h4=>?_) (λ h4=>?_)
  ·have h4p:=of_decide_eq_true h4;have hj0:0<j:=by omega
   refine sN rfl<|aY<|wA<|CL<|wA<|sN rfl<|cRg<|oR 2 rfl ?_;obtain⟨p,hp⟩:∃ y_,S[j - 1]?=some y_:=⟨_,aA omT⟩;have hpo:=hso p (aB hp);refine Fi (ptL p) (x:=.dp 2 0 (ptL p)) rfl rfl rfl (⟨by omega,by rw[show ((j:Int) - 1).toNat=j - 1 by omega];exact fM hp⟩) rfl<|oR 1 rfl<|rAl 16 rfl rfl<|rSt rfl<|rE 18<|wA<|QW rfl 9 rfl rfl rfl<|oR 5 rfl<|rV (vN p.data.size) rfl<|oR 2 rfl<|rV (.agg [vU p.addr,vN p.data.size,.v (.string p.data),vB true]) rfl<|rE 27 ?_;refine⟨CD p,_,⟨slotsF [(0,.v y),(1,.dp 1 0 ([.sl 17 (R.map enL) ck])),(2,.dp 1 0 ([.sl 2 (S.map ptL) ck2])),(9,vI ((j:Int) - 1)),(58,.v y),(66,.agg [vU p.addr,vN p.data.size,.v (.string p.data),vB true])],heapF [],0⟩,λ s=>s,Weak.of_lists _ wT trivial rfl,rfl,rfl,rfl,rfl,rfl,rfl,(by rw[←Kf hj0 hp];exact TP R S _),λ yb2=>?_⟩;refine oR 1 rfl<|rE 29 ?_;refine ES (v:= !yb2) rfl (λ h5=>?_) (λ h5=>?_)
   ·refine sN rfl<|cM ?_;intro hs;rw[h5]at hs;cases hs
   ·refine sN rfl<|aY<|sN rfl<|cRg<|oR 1 rfl<|rW (vI (((j - 1:Nat):Int) - 1)) rfl (okI (WX hj0 hjB))<|oR 1 rfl<|rE 32 ?_;refine⟨h5,j - 1,λ s=>s,Weak.of_lists _ wT trivial rfl,rfl,(Kf hj0 hp),(by show j - 1≤S.length;omega),(by show j - 1<j;omega)⟩
  ·have h4p:=aD h4;refine sN rfl<|dR ?_;intro _;obtain hj_:j=0:=by omega
   subst hj_;exact TQ R S
theorem Rg(R:List Ent)(S:List Pt)(ck ck2:Bool)(hl:R.length≤1000)(ho:∀ x∈R,x.ok)(hst:S.length≤1000)(hso:∀ x∈S,x.ok):bV C0 220 [.sl 17 (R.map enL) ck,.sl 2 (S.map ptL) ck2] (.clo 232 [] [.dp 1 0 [.sl 17 (R.map enL) ck],.dp 1 0 [.sl 2 (S.map ptL) ck2]]):=by
 refine bV.intro c0Ok Tryz.func220 rfl rfl (by kernel_rfl) rfl<|cSR<|rAl 0 rfl rfl<|rAl 1 rfl rfl<|oR 1 rfl<|rE 3<|cSR<|rV (.clo 232 [] [.ptr 0 0,.ptr 1 0]) rfl<|oR 1 rfl<|rE 5<|cM ?_;exact eW rfl tvT rfl rfl
theorem TS{l:List Ent}{k:Nat}{x:Ent}(h:∀ y,y∈l.take k→Ae y=false)(hx:l[k]?=some x)(hv:Ae x=false):∀ y,y∈l.take (k+1)→Ae y=false:=by
 intro y hy;rw[bS,hx]at hy;rcases al_List_mem_append.1 hy with hy|hy
 ·exact h y hy
 ·have:y=x:=by simpa using hy
  rw[this];exact hv
theorem TU{rob:List Ent}{stores:List Pt}{i:Nat}{e:Ent}(he:rob[i]?=some e)(hk: ¬ kindOf e.i.op=3):lH rob stores i=(0,mR):=by
 unfold lH;rw[he];exact if_pos hk
theorem Rh{rob:List Ent}{stores:List Pt}{i k:Nat}{e x:Ent}(he:rob[i]?=some e)(hk:kindOf e.i.op=3)(hx:(rob.take i)[k]?=some x)(hv:Ae x=true):lH rob stores i=(0,mR):=by
 unfold lH;rw[he];exact (if_neg (λ h=>h hk)).trans (if_pos (LO.2 ⟨x,aB hx,hv⟩))
theorem Ri{rob:List Ent}{stores:List Pt}{i k:Nat}{e:Ent}(he:rob[i]?=some e)(hk:kindOf e.i.op=3)(hN:∀ y,y∈(rob.take i).take k→Ae y=false)(hle:(rob.take i).length≤k):lH rob stores i=wZ e.addr (dE e.i.op) (Fw (rob.take i) stores):=by
 unfold lH;rw[he];refine (if_neg (λ h=>h hk)).trans (if_neg λ h=>?_);obtain⟨x,hx,hv⟩:=LO.1 h;rw[aI hle]at hN;rw[hN x hx]at hv;cases hv
theorem Xa(rob:List Ent)(stores:List Pt)(ck ck2:Bool)(i:Nat)(hl:rob.length≤1000)(ho:∀ x∈rob,x.ok)(hst:stores.length≤1000)(hso:∀ x∈stores,x.ok)(hss:∀ x∈stores,x.data.size≤4)(hi:i<rob.length):bV C0 207 [.sl 17 (rob.map enL) ck,.sl 2 (stores.map ptL) ck2,vN i] (.tup [vI (lH rob stores i).1,.v (.string (lH rob stores i).2)]):=by
 refine dc1 (bV.introR (C:=C1) (λ d=>c1Ok.wd d) (λ n=>c1Ok.at) Tryz.func207 rfl rfl (by kernel_rfl) rfl ?_);have hiB:i≤1000:=by omega
 have htl:(rob.take i).length≤1000:=by rw[aL];omega
 have hto:∀ x∈rob.take i,x.ok:=λ x hx=>ho x (cS hx);refine zI<|yW rfl<|cRg<|rAl 0 rfl rfl<|rAl 1 rfl rfl<|rE 2<|WQ<|zI<|zI<|yW rfl<|cRg<|oR 1 rfl<|rW (vB (decide (i<0))) rfl (okB (ltN _ _))<|oR 1 rfl<|gN rfl<|gN rfl ?_;refine gBS (x:=vN rob.length) rfl id (bJ enL rob)<|gBS (x:=vB (decide (i≥rob.length))) rfl hsT (okB (geN _ _))<|cL rfl rfl rfl (by simp)<|oR 1 rfl<|gN rfl<|gN rfl ?_;obtain⟨e,he⟩:∃ y_,rob[i]?=some y_:=⟨_,aA omT⟩;have heo:=ho e (aB he);refine Ed (enL e) (x:=.dp 17 0 (enL e)) (g:= !(cJ (decide (i<0)) true (decide (i≥rob.length)))) rfl rfl rfl rfl hsT rfl rfl (λ hg=>⟨aG _,fM he⟩) rfl<|gS rfl id<|gS rfl id<|gT (args:=[.agg [vI e.i.op,vI e.i.rd,vI e.i.rs1,vI e.i.rs2,vU e.i.imm]]) (x:=vN (kindOf e.i.op)) (g:= !(cJ (decide (i<0)) true (decide (i≥rob.length)))) rfl rfl rfl rfl (λ h=>h) rfl rfl rfl (.inl rfl) rfl (λ hg=>rA e.i)<|gBS (x:=vB ((kindOf e.i.op) != 3)) rfl id (okB (neN _ _))<|cL rfl rfl rfl (by simp)<|rE 19 ?_;refine UX (v:=cJ (cJ (decide (i<0)) true (decide (i≥rob.length))) true ((kindOf e.i.op) != 3)) rfl (λ h1=>?_) (λ h1=>?_)
 ·have hk3: ¬ kindOf e.i.op=3:=by have z:=h1;simp only[cOr]at z;grind
  refine zI<|yW rfl<|cRg<|rSt rfl<|rSt rfl<|rE 21<|yW rfl<|cM ?_;have e1:=TU (stores:=stores) he hk3;rw[e1];exact fT rfl rfl
 ·have hk3:kindOf e.i.op=3:=by have z:=h1;simp only[cOr]at z;grind
  refine yW rfl<|aY<|zI<|zI<|yW rfl<|cRg<|oR 2 rfl ?_;refine nW (.sl 17 ((rob.take i).map enL) (ck&&false)) rfl (uI (rL enL rob i)) slT ?_;refine rW (vN i) rfl (qM enL (rob.take i) omT)<|oR 1 rfl<|rE 24<|Lv<|YL<|jG (κ:=Nat) (λ k=>⟨slotsF [(0,.sl 17 (rob.map enL) ck),(1,.sl 2 (stores.map ptL) ck2),(2,vN i),(6,.ptr 0 0),(7,.ptr 1 0),(30,vB (cJ (cJ (decide (i<0)) true (decide (i≥rob.length))) true ((kindOf e.i.op) != 3))),(33,.sl 17 ((rob.take i).map enL) (ck&&false)),(34,vN i),(35,vN k)],heapF [(0,.box [vI 0]),(1,.box [.v (.string (⟨#[]⟩:ByteArray))])],24⟩) (λ k=>k≤i∧∀ y,y∈(rob.take i).take k→Ae y=false) (λ k=>i - k) 0 (λ s=>s) (Weak.of_lists (λ s=>s) wT wH rfl) (⟨aE _,(λ y hy=>by cases hy)⟩) ?_;intro k hk;have hkn:k≤i:=hk.1;have hkB:k≤1000000:=by omega
  refine cSR<|rW (vB (decide (k<i))) rfl (okB (ltN _ _))<|rE 25<|bI ?_;refine aQ rfl (λ h2=>?_) (λ h2=>?_)
  ·have h2p:=of_decide_eq_true h2;refine aY<|bI<|bE<|cSR ?_;obtain⟨x,hx⟩:∃ y_,(rob.take i)[k]?=some y_:=⟨_,aA omT⟩;have hxo:=(pW ho) x (aB hx);refine rIx (enL x) (.dp 17 0 (enL x)) rfl rfl (fM hx) rfl<|oR 1 rfl<|rAl 27 rfl rfl<|rSt rfl<|rE 29<|cSR<|oR 2 rfl<|rCi rfl (rA x.i)<|rW (vB ((kindOf x.i.op)==4)) rfl (okB (eqN _ _))<|oR 1 rfl<|gN rfl<|gS rfl id<|gS rfl id<|gS rfl id<|gN rfl ?_;refine gS rfl id<|gBS (x:=vB (x.halt != 0)) rfl id rfl<|tW (x:=vB (cJ (!x.known) true (x.halt != 0))) (g:=(kindOf x.i.op)==4) rfl rfl rfl rfl (λ h=>h) rfl rfl (λ hg hc=>by first|(rw[hg,hc];rfl)|simp_all)<|cL rfl rfl rfl (λ h=>h)<|rE 43 ?_;refine aQ rfl (λ h3=>?_) (λ h3=>?_)
   ·have hv:Ae x=true:=by have z:=h3;unfold Ae isK;simp only[cOr,qI]at z⊢;grind
    refine cSR<|rSt rfl<|rSt rfl<|rE 45<|cM ?_;have e1:=Rh (stores:=stores) he hk3 hx hv;rw[e1];exact fT rfl rfl
   ·have hv:Ae x=false:=by have z:=h3;unfold Ae isK;simp only[cOr,qI]at z⊢;grind
    refine aY<|cRg ?_;have b1:k+1≤1000001:=aF hkB (aC 1);refine rW (vN (k+1)) rfl (okI (bL b1 rfl))<|oR 1 rfl<|rE 45 ?_;refine⟨k+1,λ s=>s,Weak.of_lists _ wT wH rfl,⟨by omega,TS hk.2 hx hv⟩,by show i - (k+1)<i - k;omega⟩
  ·have h2p:=aD h2;have hN0:=hk.2;have hk0:(rob.take i).length≤k:=by rw[aL];omega
   refine dR<|zI<|yW rfl<|cRg<|oR 2 rfl<|rIx (enL e) (.dp 17 0 (enL e)) rfl rfl (fM he) rfl<|oR 4 rfl<|rIx (enL e) (.dp 17 0 (enL e)) rfl rfl (fM he) rfl<|oR 2 rfl<|rCi rfl (Ic e.i)<|rAl 36 rfl rfl<|rAl 37 rfl rfl<|rSt rfl<|rSt rfl<|rE 40<|zI ?_;refine yW rfl<|YM<|zI<|zI<|yW rfl<|cRg<|oR 2 rfl ?_;refine nW (.sl 17 ((rob.take i).map enL) (ck&&false)) rfl (uI (rL enL rob i)) slT ?_;refine oR 1 rfl<|rCi rfl (Rg (rob.take i) stores (ck&&false) ck2 htl hto hst hso)<|rE 45<|Lv ?_;refine QU (.mk _ (.refl _) ⟨⟨slotsF [(6,.ptr 0 0),(7,.ptr 1 0),(10,.ptr 2 0),(11,.ptr 3 0),(69,.clo 232 [] [.dp 1 0 ([.sl 17 ((rob.take i).map enL) (ck&&false)]),.dp 1 0 ([.sl 2 (stores.map ptL) ck2])])],heapF [(0,.box [vI 0]),(1,.box [.v (.string (⟨#[]⟩:ByteArray))]),(2,.box [vU e.addr]),(3,.box [vN (dE e.i.op)])],4⟩,λ s=>match s with|2=>36|3=>37|s=>s,Weak.of_lists _ wT wH rfl,rfl,?_⟩);refine .mk Std 232 [.dp 1 0 ([.sl 17 ((rob.take i).map enL) (ck&&false)]),.dp 1 0 ([.sl 2 (stores.map ptL) ck2])] (λ s:Std=>[.agg (sdL s)]) YS (Fw (rob.take i) stores) (λ s:Std=>Fx s.addr s.size e.addr (dE e.i.op)=false) rfl rfl ⟨_,Tryz.func232,rfl,rfl⟩ (Rf (rob.take i) stores (ck&&false) ck2 htl hto hst hso) (λ x S w β=>Dw (show IF [.agg (sdL x)]=some _ from rfl)) (λ _=>rfl) rfl ?_ ?_
   ·intro pre_ s hp_ hN_;have hsk:=TR hto hso hss (hp_.subset (List.mem_append_right _ (uD.2 rfl)));have hsz:s.size≤1000:=by omega
    have hne:dE e.i.op≤1000:=aN (tS e.i.op) (by decide);refine cRg<|rAl 4 rfl rfl<|rSt rfl<|rE 6 ?_;refine⟨rfl,?_⟩;refine bE<|bI<|cSR<|oR 6 rfl<|rCi rfl (YR s.addr s.size e.addr (dE e.i.op) hsk.1 hsz heo.addr hne)<|oR 1 rfl<|rE 14 ?_;refine aQ rfl (λ h4=>?_) (λ h4=>?_)
    ·have hlp:Fx s.addr s.size e.addr (dE e.i.op)=false:=by simpa using h4
     refine dR ?_;exact⟨hlp,.mk _ (.refl _) ⟨λ s=>s,rfl,Weak.of_lists (l:=[]) (hp:=[(0,.box [vI 0]),(1,.box [.v (.string (⟨#[]⟩:ByteArray))]),(2,.box [vU e.addr]),(3,.box [vN (dE e.i.op)])]) (λ s=>s) trivial wH rfl⟩⟩
    ·have hlp:Fx s.addr s.size e.addr (dE e.i.op)=true:=by simpa using h4
     refine aY<|bI<|cSR<|oR 6 rfl<|rCi rfl (WY s.addr s.size e.addr (dE e.i.op) hsk.1 hsz heo.addr hne)<|oR 2 rfl<|gN rfl<|gS rfl id<|gS rfl id<|cL rfl rfl rfl (by simp)<|rE 27 ?_;refine aQ rfl (λ h5=>?_) (λ h5=>?_)
     ·have hhd:EH s.addr s.size e.addr (dE e.i.op)=false∨s.there=false:=by have z:=h5;simp only[cOr]at z;grind
      refine cSR<|rSt rfl<|rSt rfl<|rE 29<|cM ?_;refine .mk _ (.refl _) ⟨heapF [(0,.box [vI 0]),(1,.box [.v (.string (⟨#[]⟩:ByteArray))]),(2,.box [vU e.addr]),(3,.box [vN (dE e.i.op)])],λ s=>s,rfl,Weak.of_lists (l:=[]) (hp:=[(0,.box [vI 0]),(1,.box [.v (.string (⟨#[]⟩:ByteArray))]),(2,.box [vU e.addr]),(3,.box [vN (dE e.i.op)])]) (λ s=>s) trivial wH rfl,?_⟩;intro D;have e1:=(Ri (stores:=stores) he hk3 hN0 hk0).trans ((CM hp_ hN_ hlp).trans (if_pos hhd));rw[e1];exact fT rfl rfl
     ·have hhd: ¬ (EH s.addr s.size e.addr (dE e.i.op)=false∨s.there=false):=by have z:=h5;simp only[cOr]at z;grind
      have hlh:s.addr≤e.addr∧e.addr+dE e.i.op≤s.addr+s.size:=by have z:=hhd;simp only[not_or,Bool.not_eq_false]at z;have y:=z.1;unfold EH at y;simp only[aK,aZ]at y;omega
      refine aY<|cSR<|oR 3 rfl<|rW (vU (e.addr - s.addr)) rfl (okI (aaM hlh.1 heo.addr))<|rW (vN (e.addr - s.addr)) rfl (okI (bL (aN (jA _ _) heo.addr) rfl))<|oR 1 rfl<|rE 33<|bI<|AW rfl rfl<|oR 5 rfl ?_;have b2:(e.addr - s.addr)+(dE e.i.op)≤4294967299:=aF (aN (jA _ _) heo.addr) (tS e.i.op);refine rW (vN ((e.addr - s.addr)+(dE e.i.op))) rfl (okI (bL b2 rfl)) ?_;refine nW (.v (.string (s.data.extract (e.addr - s.addr) ((e.addr - s.addr)+(dE e.i.op))))) rfl rfl (by refine⟨?_,?_,?_⟩<;>(first|exact aG _|decide|(apply Fg.2;exact omT))) ?_;refine rSt rfl<|rSt rfl<|rE 42<|And.intro (by kernel_rfl)<|cM ?_;refine .mk _ (.refl _) ⟨heapF [(0,.box [vI 1]),(1,.box [.v (.string (s.data.extract (e.addr - s.addr) ((e.addr - s.addr)+(dE e.i.op))))]),(2,.box [vU e.addr]),(3,.box [vN (dE e.i.op)])],λ s=>s,rfl,Weak.of_lists (l:=[]) (hp:=[(0,.box [vI 1]),(1,.box [.v (.string (s.data.extract (e.addr - s.addr) ((e.addr - s.addr)+(dE e.i.op))))]),(2,.box [vU e.addr]),(3,.box [vN (dE e.i.op)])]) (λ s=>s) trivial wH rfl,?_⟩;intro D;have e1:=(Ri (stores:=stores) he hk3 hN0 hk0).trans ((CM hp_ hN_ hlp).trans (if_neg hhd));rw[e1];exact fT rfl rfl
   ·intro hN D;refine zI<|yW rfl<|cRg<|rSt rfl<|rSt rfl<|rE 6<|yW rfl<|cM ?_;have e1:=(Ri (stores:=stores) he hk3 hN0 hk0).trans (Dg hN);rw[e1];exact fT rfl rfl
section
variable {α:Type}{f:α→List AV}{A l B:List α}{lo:Nat}
theorem jK{x:α}{i:Nat}(hlo:A.length=lo)(hx:l[i]?=some x):(A++l++B)[lo+i]?=some x:=by
 have hi:=(DN.1 hx).1;rw[fG,bW omT, ←hlo,Nat.add_sub_cancel_left,cN hi,hx]
theorem tR{n:Nat}(hlo:A.length=lo)(hn:l.length=n):List.take n (List.drop lo ((A++l++B).map f))=l.map f:=by
 subst hlo;subst hn;rw[←mD, ←fZ];congr 1;rw[fG,List.drop_left,List.take_left]
theorem VY{x:α}{i:Nat}(hlo:A.length=lo)(hi:i<l.length):(A++l++B).set (lo+i) x=A++l.set i x++B:=by
 subst hlo;rw[fG,iO _ _ omT,Nat.add_sub_cancel_left,List.set_append_left _ _ hi,fG]
theorem uH{x:α}{i:Nat}{h:AH}{b rs:Nat}(hlo:A.length=lo)(hi:i<l.length):some (upd h b (some (.arr (((A++l++B).map f).set (lo+i) (f x)) rs)))=some (upd h b (some (.arr ((A++l.set i x++B).map f) rs))):=by
 rw[←List.map_set,VY hlo hi]
end
theorem SS(op:Int)(s:ByteArray):loadP op s≤4294967295:=by
 unfold loadP;split
 ·rename_i h;have h4:s.size≤4:=by have:=tS op;omega
  have:=EN s h4;split
  ·exact aT (KS _ _ omT)
  ·split
   ·exact aT (KS _ _ omT)
   ·omega
 ·exact aE _
theorem PN{e:Ent}(he:e.ok){a b:Nat}(ha:a≤4294967295)(hb:b≤4294967295):(pD e a b).ok:=by
 have hv:tZ e a b≤4294967295:=by
  unfold tZ;split
  ·exact aE _
  ·exact aT (WB _ _ _ _ _ (BX he.imm) (BX ha) (BX hb))
 have hu:up4 e.pc≤4294967295:=by unfold up4;omega
 have hx:xA e.i.op e.i.imm e.pc a b≤4294967295:=aT (ML _ _ _ _ _);unfold pD
 repeat' split
 all_goals first|exact he|exact⟨he.pc,he.imm,he.guess,hv,hu,he.addr⟩|exact⟨he.pc,he.imm,he.guess,hv,hx,he.addr⟩|exact⟨he.pc,he.imm,he.guess,aE _,hu,he.addr⟩
theorem PO{e:Ent}(he:e.ok):(goE e).ok:=by
 unfold goE;repeat' split
 all_goals first|exact he|exact⟨he.pc,he.imm,he.guess,he.value,he.next,he.addr⟩
theorem Hv{e:Ent}(he:e.ok)(size:Int)(a:Nat):(qY e size a).ok:=by
 have hx:(a+e.i.imm) % 4294967296≤4294967295:=by omega
 unfold qY;repeat' split
 all_goals first|exact he|exact⟨he.pc,he.imm,he.guess,he.value,he.next,hx⟩
theorem Hw{e:Ent}(he:e.ok)(s:ByteArray):(sJ e s).ok:=by
 have hl:loadP e.i.op s≤4294967295:=SS e.i.op s;unfold sJ;split
 ·exact he
 ·refine⟨he.pc,he.imm,he.guess,?_,he.next,he.addr⟩;show (if wr e.i=0 then 0 else loadP e.i.op s)≤_;split<;>omega
theorem Ju(rob:List Ent)(stores:List Pt)(i:Nat):(lH rob stores i).2.size≤100:=by
 have hs:∀ (l:List Std) (a n:Nat),n≤4→(wZ a n l).2.size≤100:=by
  intro l a n hn
  induction l with
  |nil=>exact aE _
  | cons s l ih=>
   unfold wZ;split
   ·exact ih
   ·split
    ·exact aE _
    ·show (s.data.extract _ _).size≤100;rw[dK];omega
 unfold lH;split
 ·exact aE _
 ·split
  ·exact aE _
  ·split
   ·exact aE _
   ·exact hs _ _ _ (tS _)
theorem Gh{c:Co}(h:c.mem.size≤256)(e:Ent):(oS c e).size≤1000:=by
 unfold oS Wz;split
 ·rw[dK];have:=Mn c.stores c.data c.bus c.mem;unfold Wp;omega
 ·exact aE _
theorem Jv(q:List Req)(line:Nat)(k:Int):LA q line [k]=DI q line k:=by unfold LA DI;congr 1;funext x;simp
theorem ZG(c:Co)(nb:Nat)(hm:c.okM nb)(i:Nat)(hi:i<c.rob.length)(A B:List Ent)(lo n:Nat)(kR kF kS kT:Bool)(xF xT:List (List AV))(hlo:A.length=lo)(hn:c.rob.length=n)(hA:A.length+n+B.length≤1000):qF C0.P C0.G 167 [.ptr 0 0,vN i] (heapF [(0,.box (mcX c (.osl 1 lo n kR) (.sl 2 xF kF) (.sl 2 (c.stores.map ptL) kS) (.sl 9 xT kT))),(1,.arr ((A++(c).rob++B).map enL) 17)]) 2 (λ x h'=>x=.tup []∧h'=heapF [(0,.box (mcX (kL c i) (.osl 1 lo n kR) (.sl 2 xF kF) (.sl 2 (c.stores.map ptL) kS) (.sl 9 xT kT))),(1,.arr ((A++((kL c i)).rob++B).map enL) 17)]):=by
 refine HCall.intro (C:=C1) (s:=2) c1Ok.at Tryz.func167 rfl rfl (by kernel_rfl) rfl rfl<|cSR<|oR 6 rfl<|nW (.ptr2 1 (lo+i) 0) rfl rfl ixT ?_;obtain⟨x,hx⟩:∃ y_,c.rob[i]?=some y_:=⟨_,aA omT⟩;have hxo:=hm.ok.robo x (aB hx);refine rIx (enL x) (.agg (enL x)) rfl rfl (fM (jK hlo hx)) rfl<|rAl 10 rfl rfl<|rSt rfl<|rE 12<|bI<|cSR<|oR 3 rfl<|rE 15 ?_;refine aQ rfl (λ h1=>?_) (λ h1=>?_)
 ·refine cM ?_;have e:kL c i=c:=by unfold kL;rw[hx];dsimp only;rw[if_pos (Fv h1)];try rfl
  rw[e];exact pP (rs:=[]) rfl (σ:=λ z=>z) ⟨rfl,rfl⟩ rfl (cH (λ z=>z) rfl rfl wH rfl)
 ·refine aY<|cSR<|oR 11 rfl<|rCl (x:=.tup [vI ((lH c.rob c.stores i).1),.v (.string ((lH c.rob c.stores i).2))]) rfl (.inr ⟨rfl,⟨(by show lo+n≤((A++c.rob++B).map enL).length;exact omT),trivial,trivial,trivial⟩⟩) ((show bV C0 207 [.sl 17 (List.take n (List.drop lo ((A++c.rob++B).map enL))) kR,.sl 2 (c.stores.map ptL) kS,vN i] _ from by rw[tR (l:=c.rob) hlo (by first|exact hn|(rw[bZ];exact hn)|(simp only[bZ];exact hn))];exact Xa c.rob c.stores kR kS i hm.rob hm.ok.robo hm.sto hm.ok.stoo hm.std hi))<|oR 5 rfl<|rE 32<|cSR<|oR 2 rfl<|rCi rfl (qZ x.addr hxo.addr)<|oR 1 rfl<|rE 36<|bE<|cSR ?_;refine oR 1 rfl<|rV (vB (((lH c.rob c.stores i).1)==1)) rfl<|oR 1 rfl<|rE 39 ?_;refine aQ rfl (λ h2=>?_) (λ h2=>?_)
  ·have h2p:=mO h2;refine cRg<|oR 8 rfl<|rCi rfl (Rb x ((lH c.rob c.stores i).2) hxo (bP (Ju c.rob c.stores i) (by decide)))<|nW (.ptr2 1 (lo+i) 0) rfl rfl ixT ?_;have hx1:(c.rob.set i (sJ x ((lH c.rob c.stores i).2)))[i]?=some (sJ x ((lH c.rob c.stores i).2)):=aR omT;refine nP (enL x) (h':=upd _ 1 (some (.arr ((A++(c.rob.set i (sJ x ((lH c.rob c.stores i).2)))++B).map enL) 17))) rfl rfl rfl (⟨aG _,fM ((jK hlo hx))⟩) (uH (f:=enL) (x:=(sJ x ((lH c.rob c.stores i).2))) (l:=c.rob) (i:=i) hlo omT)<|rE 50 ?_;have e:kL c i=setE c i (sJ x ((lH c.rob c.stores i).2)):=by unfold kL;rw[hx];dsimp only;rw[if_neg (sH h1),if_pos h2p];try rfl
   rw[e];exact pP (rs:=[]) rfl (σ:=λ z=>z) ⟨rfl,rfl⟩ rfl (cH (λ z=>z) rfl rfl wH rfl)
  ·have h2p:=mP h2;refine cSR<|oR 1 rfl<|rV (vB (((lH c.rob c.stores i).1) != 2)) rfl<|oR 1 rfl<|rE 42 ?_;refine aQ rfl (λ h3=>?_) (λ h3=>?_)
   ·have h3p:=wX h3;refine cM ?_;have e:kL c i=c:=by unfold kL;rw[hx];dsimp only;rw[if_neg (sH h1),if_neg h2p,if_pos h3p];try rfl
    rw[e];exact pP (rs:=[]) rfl (σ:=λ z=>z) ⟨rfl,rfl⟩ rfl (cH (λ z=>z) rfl rfl wH rfl)
   ·have h3p:=wY h3;refine cSR<|oR 2 rfl<|fX (args:=[.ptr 0 0,vU (lineOf x.addr)]) (d:=56) _ rfl rfl rfl (qF.of_dcall (C:=C0) (show bV C0 208 [.dp 64 0 (mcX c (.sl 17 (List.take n (List.drop lo ((A++c.rob++B).map enL))) kR) (.sl 2 xF kF) (.sl 2 (c.stores.map ptL) kS) (.sl 9 xT kT)),vU (lineOf x.addr)] _ from by rw[tR (l:=c.rob) hlo (by first|exact hn|(rw[bZ];exact hn)|(simp only[bZ];exact hn))];exact VZ c nb hm (.sl 2 xF kF) (.sl 2 (c.stores.map ptL) kS) (.sl 9 xT kT) kR (lineOf x.addr) (dJ hxo.addr)) (by rfl) (by exact⟨⟨rfl,(r4 (r4 (r4 (r4 (r4 (r4 (r4 (r4 (r4 (r4 (r4 (r4 ⟨(by show lo+n≤((A++c.rob++B).map enL).length;simp only[aH,aW,bZ];omega),tvT⟩))))))))))))⟩,trivial,trivial⟩) (by rfl)) ?_;rintro _ _ ⟨rfl,rfl⟩;refine oR 1 rfl<|rE 46 ?_;refine aQ rfl (λ h4=>?_) (λ h4=>?_)
    ·refine cRg<|oR 9 rfl<|rCl rfl (.inr ⟨rfl,⟨trivial,tvT,trivial⟩⟩) (Mo c nb hm .any (.sl 2 xF kF) (.sl 9 xT kT) kS x hxo)<|rCi rfl (Rb x (oS c x) hxo (by have:=Gh (c:=c) (by have:=hm.mem;omega) x;omega))<|nW (.ptr2 1 (lo+i) 0) rfl rfl ixT ?_;have hx2:(c.rob.set i (sJ x (oS c x)))[i]?=some (sJ x (oS c x)):=aR omT;refine nP (enL x) (h':=upd _ 1 (some (.arr ((A++(c.rob.set i (sJ x (oS c x)))++B).map enL) 17))) rfl rfl rfl (⟨aG _,fM ((jK hlo hx))⟩) (uH (f:=enL) (x:=(sJ x (oS c x))) (l:=c.rob) (i:=i) hlo omT)<|rE 59 ?_;have e:kL c i=setE c i (sJ x (oS c x)):=by unfold kL;rw[hx];dsimp only;rw[if_neg (sH h1),if_neg h2p,if_neg (λ q=>q h3p),if_pos h4];try rfl
     rw[e];exact pP (rs:=[]) rfl (σ:=λ z=>z) ⟨rfl,rfl⟩ rfl (cH (λ z=>z) rfl rfl wH rfl)
    ·refine cSR<|oR 6 rfl<|rV (.sl 1 ([[vI 1]]) true) rfl<|rCl (x:=vB (DI c.bus (lineOf x.addr) 1)) rfl (.inl rfl) ((show bV C0 _ [_,_,.sl 1 ([(1:Int)].map fD) true] _ from by rw[←Jv];exact QZ c.bus (lineOf x.addr) [1] false true (by have:=hm.bus;omega) (λ x hx=>(hm.ok.buso x hx).line) (dJ hxo.addr) (by decide)))<|oR 1 rfl<|rE 55 ?_;refine aQ rfl (λ h5=>?_) (λ h5=>?_)
     ·refine cRg<|oR 6 rfl<|nW (.ptr2 1 (lo+i) 0) rfl rfl ixT<|oR 1 rfl ?_;have hx3:(c.rob.set i (⟨x.no,x.pc,⟨x.i.op,x.i.rd,x.i.rs1,x.i.rs2,x.i.imm⟩,x.guess,2,x.left,x.value,x.next,x.addr,x.halt,x.took,x.known,x.filled⟩:Ent))[i]?=some (⟨x.no,x.pc,⟨x.i.op,x.i.rd,x.i.rs1,x.i.rs2,x.i.imm⟩,x.guess,2,x.left,x.value,x.next,x.addr,x.halt,x.took,x.known,x.filled⟩:Ent):=aR omT;refine nP (enL x) (h':=upd _ 1 (some (.arr ((A++(c.rob.set i (⟨x.no,x.pc,⟨x.i.op,x.i.rd,x.i.rs1,x.i.rs2,x.i.imm⟩,x.guess,2,x.left,x.value,x.next,x.addr,x.halt,x.took,x.known,x.filled⟩:Ent))++B).map enL) 17))) rfl rfl rfl (⟨aG _,fM ((jK hlo hx))⟩) (uH (f:=enL) (x:=(⟨x.no,x.pc,⟨x.i.op,x.i.rd,x.i.rs1,x.i.rs2,x.i.imm⟩,x.guess,2,x.left,x.value,x.next,x.addr,x.halt,x.took,x.known,x.filled⟩:Ent)) (l:=c.rob) (i:=i) hlo omT)<|rE 64 ?_;have e:kL c i=setE c i (⟨x.no,x.pc,⟨x.i.op,x.i.rd,x.i.rs1,x.i.rs2,x.i.imm⟩,x.guess,2,x.left,x.value,x.next,x.addr,x.halt,x.took,x.known,x.filled⟩:Ent):=by unfold kL;rw[hx];dsimp only;rw[if_neg (sH h1),if_neg h2p,if_neg (λ q=>q h3p),if_neg (by rw[h4];decide),if_pos h5];try rfl
      rw[e];exact pP (rs:=[]) rfl (σ:=λ z=>z) ⟨rfl,rfl⟩ rfl (cH (λ z=>z) rfl rfl wH rfl)
     ·refine cSR<|oR 7 rfl<|rCl (x:=vB (uQ c.rob i)) rfl (.inr ⟨rfl,⟨(by show lo+n≤((A++c.rob++B).map enL).length;exact omT),trivial,trivial⟩⟩) ((show bV C0 206 [.sl 17 (List.take n (List.drop lo ((A++c.rob++B).map enL))) kR,vN i] _ from by rw[tR (l:=c.rob) hlo (by first|exact hn|(rw[bZ];exact hn)|(simp only[bZ];exact hn))];exact Mq c.rob kR i hm.rob hm.ok.robo (by have:=hm.rob;omega)))<|fX (args:=[.ptr 0 0,vB (uQ c.rob i)]) (d:=95) _ rfl rfl rfl (qF.of_dcall (C:=C0) (show bV C0 116 [.dp 64 0 (mcX c (.sl 17 (List.take n (List.drop lo ((A++c.rob++B).map enL))) kR) (.sl 2 xF kF) (.sl 2 (c.stores.map ptL) kS) (.sl 9 xT kT)),vB (uQ c.rob i)] _ from by rw[tR (l:=c.rob) hlo (by first|exact hn|(rw[bZ];exact hn)|(simp only[bZ];exact hn))];exact ST c nb hm (.sl 17 (c.rob.map enL) kR) (.sl 2 xF kF) (.sl 2 (c.stores.map ptL) kS) (.sl 9 xT kT) (uQ c.rob i)) (by rfl) (by exact⟨⟨rfl,(r4 (r4 (r4 (r4 (r4 (r4 (r4 (r4 (r4 (r4 (r4 (r4 ⟨(by show lo+n≤((A++c.rob++B).map enL).length;simp only[aH,aW,bZ];omega),tvT⟩))))))))))))⟩,trivial,trivial⟩) (by rfl)) ?_;rintro _ _ ⟨rfl,rfl⟩;refine oR 1 rfl<|gN rfl<|gS rfl id<|gS rfl id<|gS rfl id<|gS rfl id<|gN rfl<|gB (x:=.sl 1 ([[vI 3]]) true) rfl rfl<|gT (args:=[.sl 4 (c.bus.map rqL) false,vU (lineOf x.addr),.sl 1 ([[vI 3]]) true]) (x:=vB (DI c.bus (lineOf x.addr) 3)) (g:=qV c (uQ c.rob i)) rfl rfl rfl rfl hsT rfl rfl rfl (.inl rfl) rfl (λ hg=>(show bV C0 _ [_,_,.sl 1 ([(3:Int)].map fD) true] _ from by rw[←Jv];exact QZ c.bus (lineOf x.addr) [3] false true (by have:=hm.bus;omega) (λ x hx=>(hm.ok.buso x hx).line) (dJ hxo.addr) (by decide)))<|gS rfl id<|cL rfl rfl rfl (λ h=>h)<|oR 1 rfl<|rE 76 ?_;refine aQ rfl (λ h6=>?_) (λ h6=>?_)
      ·refine cSR<|oR 2 rfl<|fX (args:=[.ptr 0 0,vI 1,vU (lineOf x.addr),.v (.string (⟨#[]⟩:ByteArray))]) (d:=109) _ rfl rfl rfl ((ZH c nb hm 1 (lineOf x.addr) (⟨#[]⟩:ByteArray) (dJ hxo.addr) lo n kR ((A++c.rob++B).map enL) kF xF kS (c.stores.map ptL) kT xT).frameB (λ z=>z) _ _ rfl ⟨⟨rfl,rfl,rfl,rfl⟩,⟨rfl,rfl,rfl,rfl⟩,trivial⟩ rfl rfl rfl rfl) ?_;rintro _ _ ⟨rfl,rfl⟩;refine rE 79<|cRg<|oR 6 rfl<|nW (.ptr2 1 (lo+i) 0) rfl rfl ixT<|oR 1 rfl ?_;have hx4:(c.rob.set i (⟨x.no,x.pc,⟨x.i.op,x.i.rd,x.i.rs1,x.i.rs2,x.i.imm⟩,x.guess,2,x.left,x.value,x.next,x.addr,x.halt,x.took,x.known,x.filled⟩:Ent))[i]?=some (⟨x.no,x.pc,⟨x.i.op,x.i.rd,x.i.rs1,x.i.rs2,x.i.imm⟩,x.guess,2,x.left,x.value,x.next,x.addr,x.halt,x.took,x.known,x.filled⟩:Ent):=aR omT;refine nP (enL x) (h':=upd _ 1 (some (.arr ((A++(c.rob.set i (⟨x.no,x.pc,⟨x.i.op,x.i.rd,x.i.rs1,x.i.rs2,x.i.imm⟩,x.guess,2,x.left,x.value,x.next,x.addr,x.halt,x.took,x.known,x.filled⟩:Ent))++B).map enL) 17))) rfl rfl rfl (⟨aG _,fM ((jK hlo hx))⟩) (uH (f:=enL) (x:=(⟨x.no,x.pc,⟨x.i.op,x.i.rd,x.i.rs1,x.i.rs2,x.i.imm⟩,x.guess,2,x.left,x.value,x.next,x.addr,x.halt,x.took,x.known,x.filled⟩:Ent)) (l:=c.rob) (i:=i) hlo omT)<|rE 88 ?_;have e:kL c i=setE (iT c 1 (lineOf x.addr) (⟨#[]⟩:ByteArray)) i (⟨x.no,x.pc,⟨x.i.op,x.i.rd,x.i.rs1,x.i.rs2,x.i.imm⟩,x.guess,2,x.left,x.value,x.next,x.addr,x.halt,x.took,x.known,x.filled⟩:Ent):=by unfold kL;rw[hx];dsimp only;rw[if_neg (sH h1),if_neg h2p,if_neg (λ q=>q h3p),if_neg (by rw[h4];decide),if_neg (by rw[h5];decide),if_pos (by have z:=h6;simp only[qI]at z;simpa using z)];try rfl
       rw[e];exact pP (rs:=[]) rfl (σ:=λ z=>z) ⟨rfl,rfl⟩ rfl (cH (λ z=>z) rfl rfl wH rfl)
      ·refine aY ?_;have e:kL c i=c:=by unfold kL;rw[hx];dsimp only;rw[if_neg (sH h1),if_neg h2p,if_neg (λ q=>q h3p),if_neg (by rw[h4];decide),if_neg (by rw[h5];decide),if_neg (by have z:=h6;simp only[qI]at z;simpa using z)];try rfl
       rw[e];exact pP (rs:=[]) rfl (σ:=λ z=>z) ⟨rfl,rfl⟩ rfl (cH (λ z=>z) rfl rfl wH rfl)
theorem qF.frameB2{P:Program}{G:Nat→Option (List AV)}{f:FuncId}{args:List AV}{b0 b1 c0 c1:Blk}{L:List (Nat×Blk)}{s:Nat}{r:AV}(H:qF P G f args (heapF ((0,b0)::(1,b1)::L)) s (λ x h'=>x=r∧h'=heapF ((0,c0)::(1,c1)::L)))(ρ:Nat→Nat)(K:AH)(s2:Nat)(hfull:Dr (heapF ((0,b0)::(1,b1)::L)) s=true)(hL:FrL ρ K s s2 ((0,b0)::(1,b1)::L))(hi:TJ ρ s=true)(ha:mU s args=true)(hr:eS r=true)(hb0:qR s c0=true)(hb1:qR s c1=true):
  qF P G f (AG ρ args) K s2 (λ x h'=>x=r∧h'=upd (upd K (ρ 0) (some (Dj ρ c0))) (ρ 1) (some (Dj ρ c1))):=by
 have hs:1<s:=aO hL.2.1.2.1;refine H.frameL ρ K s2 hfull hL hi ha _ λ r' h' hP=>?_;obtain⟨rfl,rfl⟩:=hP;refine⟨_,⟨yO _ _ hr,rfl⟩,λ y blk hy=>?_⟩;by_cases he1:y=ρ 1
 ·subst he1;rw[dC]at hy;injection hy with hy;exact .inl ⟨1,c1,rfl,(rM ρ omT).symm,by rw[←hy,xW ρ s s2 c1 hb1]⟩
 rw[cG _ _ he1]at hy;by_cases he:y=ρ 0
 ·subst he;rw[dC]at hy;injection hy with hy;exact .inl ⟨0,c0,rfl,(rM ρ omT).symm,by rw[←hy,xW ρ s s2 c0 hb0]⟩
 ·rw[cG _ _ he]at hy;by_cases hx:∃ x,x<s∧ρ x=y
  ·obtain⟨x,hxs,rfl⟩:=hx;have hx0:x≠0:=λ e=>he (by rw[e]);have hx1:x≠1:=λ e=>he1 (by rw[e]);obtain⟨blk0,hb⟩:=Dv.1 (uB hfull x hxs);have hk:=hL.get x blk0 hb;rw[hk.2.2.2]at hy;injection hy with hy;refine .inl ⟨x,blk0,?_,(rM ρ omT).symm,?_⟩
   ·have q0:Nat.beq 0 x=false:=by rw[←eP];exact λ e=>hx0 (aM e).symm
    have q1:Nat.beq 1 x=false:=by rw[←eP];exact λ e=>hx1 (aM e).symm
    simp only[heapF,q0,q1]at hb⊢;exact hb
   ·rw[←hy];exact (xW ρ s s2 blk0 hk.2.2.1).symm
  ·exact .inr ⟨hy,λ x hxs e=>hx ⟨x,hxs,e⟩⟩
theorem wK{c:Co}{n:Nat}(h:c.okM n)(i:Nat){e:Ent}(he:e.ok):(setE c i e).okM n:=by
 have hl:(c.rob.set i e).length=c.rob.length:=bZ ..;exact⟨⟨h.ok.conf,h.ok.prog,h.ok.progo,h.ok.r,h.ok.fetch,h.ok.fet,h.ok.feto,by show (c.rob.set i e).length≤_;rw[hl];exact h.ok.rob,yN (P:=Ent.ok) h.ok.robo he,h.ok.sto,h.ok.stoo,h.ok.data,h.ok.words,h.ok.bus,h.ok.buso,h.ok.asked,h.ok.guessed,h.ok.mem,h.ok.guess,h.ok.ret,h.ok.reto⟩,h.nb,h.cf,h.data,h.words,h.guess,by show (c.rob.set i e).length≤_;rw[hl];exact h.rob,h.fet,h.sto,h.prog,h.mem,h.std⟩
theorem At{rob:List Ent}{r:Nat→Nat}(ho:∀ x∈rob,x.ok)(hr:∀ k,r k≤4294967295)(i:Nat):(lQ rob r i).1≤4294967295∧(lQ rob r i).2.1≤4294967295:=by
 unfold lQ;split
 ·exact⟨BR ho hr _ _,BR ho hr _ _⟩
 ·exact⟨aE _,aE _⟩
theorem UN(c:Co)(nb:Nat)(hm:c.okM nb)(i:Nat)(hi:i<c.rob.length)(A B:List Ent)(lo n:Nat)(kR kF kS kT:Bool)(xF xT:List (List AV))(hlo:A.length=lo)(hn:c.rob.length=n)(hA:A.length+n+B.length≤1000):qF C0.P C0.G 111 [.ptr 0 0,vN i] (heapF [(0,.box (mcX c (.osl 1 lo n kR) (.sl 2 xF kF) (.sl 2 (c.stores.map ptL) kS) (.sl 9 xT kT))),(1,.arr ((A++(c).rob++B).map enL) 17)]) 2 (λ x h'=>x=.tup []∧h'=heapF [(0,.box (mcX (fH c i) (.osl 1 lo n kR) (.sl 2 xF kF) (.sl 2 (c.stores.map ptL) kS) (.sl 9 xT kT))),(1,.arr ((A++((fH c i)).rob++B).map enL) 17)]):=by
 refine HCall.intro (C:=C1) (s:=2) c1Ok.at Tryz.func111 rfl rfl (by kernel_rfl) rfl rfl<|cSR<|oR 6 rfl<|nW (.ptr2 1 (lo+i) 0) rfl rfl ixT ?_;obtain⟨x,hx⟩:∃ y_,c.rob[i]?=some y_:=⟨_,aA omT⟩;have hxo:=hm.ok.robo x (aB hx);refine rIx (enL x) (.agg (enL x)) rfl rfl (fM (jK hlo hx)) rfl<|rAl 10 rfl rfl<|rSt rfl<|rE 12<|cSR<|oR 11 rfl<|rCl (x:=.tup [vU ((lQ c.rob c.r i).1),vU ((lQ c.rob c.r i).2.1),vB ((lQ c.rob c.r i).2.2)]) rfl (.inr ⟨rfl,⟨(by show lo+n≤((A++c.rob++B).map enL).length;exact omT),tvT,trivial,trivial⟩⟩) ((show bV C0 164 [.sl 17 (List.take n (List.drop lo ((A++c.rob++B).map enL))) kR,.agg (JE c.r),vN i] _ from by rw[tR (l:=c.rob) hlo (by first|exact hn|(rw[bZ];exact hn)|(simp only[bZ];exact hn))];exact UO c.rob c.r kR i hm.rob hm.ok.robo hm.ok.r (by have:=hm.rob;omega)))<|oR 7 rfl<|rE 31<|cSR<|oR 2 rfl<|rCi rfl (rA x.i)<|rE 34<|bE ?_;refine cSR<|rW (vB ((kindOf x.i.op)==4)) rfl (okB (eqN _ _))<|oR 1 rfl<|rE 36 ?_;refine aQ rfl (λ h1=>?_) (λ h1=>?_)
 ·have h1p:=mO h1;refine cRg<|oR 12 rfl<|rV (vN c.mem.size) rfl<|oR 1 rfl<|rCi rfl (UZ x ((c.mem.size:Nat):Int) ((lQ c.rob c.r i).1) hxo (by have:=hm.mem;omega) (At hm.ok.robo hm.ok.r i).1)<|nW (.ptr2 1 (lo+i) 0) rfl rfl ixT ?_;have hx1:(c.rob.set i (qY x ((c.mem.size:Nat):Int) ((lQ c.rob c.r i).1)))[i]?=some (qY x ((c.mem.size:Nat):Int) ((lQ c.rob c.r i).1)):=aR omT;refine nP (enL x) (h':=upd _ 1 (some (.arr ((A++(c.rob.set i (qY x ((c.mem.size:Nat):Int) ((lQ c.rob c.r i).1)))++B).map enL) 17))) rfl rfl rfl (⟨aG _,fM ((jK hlo hx))⟩) (uH (f:=enL) (x:=(qY x ((c.mem.size:Nat):Int) ((lQ c.rob c.r i).1))) (l:=c.rob) (i:=i) hlo omT)<|rE 53 ?_;have e:fH c i=setE c i (qY x ((c.mem.size:Nat):Int) ((lQ c.rob c.r i).1)):=by unfold fH;rw[hx];dsimp only;rw[if_pos h1p]
  rw[e];exact pP (rs:=[]) rfl (σ:=λ z=>z) ⟨rfl,rfl⟩ rfl (cH (λ z=>z) rfl rfl wH rfl)
 ·have h1p:=mP h1;refine cSR<|rW (vB ((kindOf x.i.op)==3)) rfl (okB (eqN _ _))<|oR 1 rfl<|rE 38 ?_;refine aQ rfl (λ h2=>?_) (λ h2=>?_)
  ·have h2p:=mO h2;refine cSR<|oR 12 rfl<|rV (vN c.mem.size) rfl<|oR 1 rfl<|rCi rfl (UZ x ((c.mem.size:Nat):Int) ((lQ c.rob c.r i).1) hxo (by have:=hm.mem;omega) (At hm.ok.robo hm.ok.r i).1)<|nW (.ptr2 1 (lo+i) 0) rfl rfl ixT ?_;have hx2:(c.rob.set i (qY x ((c.mem.size:Nat):Int) ((lQ c.rob c.r i).1)))[i]?=some (qY x ((c.mem.size:Nat):Int) ((lQ c.rob c.r i).1)):=aR omT;refine nP (enL x) (h':=upd _ 1 (some (.arr ((A++(c.rob.set i (qY x ((c.mem.size:Nat):Int) ((lQ c.rob c.r i).1)))++B).map enL) 17))) rfl rfl rfl (⟨aG _,fM ((jK hlo hx))⟩) (uH (f:=enL) (x:=(qY x ((c.mem.size:Nat):Int) ((lQ c.rob c.r i).1))) (l:=c.rob) (i:=i) hlo omT)<|rE 55<|cRg<|oR 2 rfl<|fX (args:=[.ptr 0 0,vN i]) (d:=84) _ rfl rfl rfl ((ZG (setE c i (qY x ((c.mem.size:Nat):Int) ((lQ c.rob c.r i).1))) nb (wK hm i (Hv hxo _ _)) i (by show i<(c.rob.set i _).length;rw[bZ];exact hi) A B lo n kR kF kS kT xF xT hlo (by show (c.rob.set i _).length=n;rw[bZ];exact hn) hA).frameB2 (λ z=>z) _ _ rfl ⟨⟨rfl,rfl,rfl,rfl⟩,⟨rfl,rfl,rfl,rfl⟩,trivial⟩ rfl rfl rfl rfl rfl) ?_;rintro _ _ ⟨rfl,rfl⟩;refine rE 58 ?_;have e:fH c i=kL (setE c i (qY x (c.mem.size:Int) (lQ c.rob c.r i).1)) i:=by unfold fH;rw[hx];dsimp only;rw[if_neg h1p,if_pos h2p]
   rw[e];exact pP (rs:=[]) rfl (σ:=λ z=>z) ⟨rfl,rfl⟩ rfl (cH (λ z=>z) rfl rfl wH rfl)
  ·have h2p:=mP h2;refine cRg<|oR 9 rfl<|rCi rfl (WV x ((lQ c.rob c.r i).1) ((lQ c.rob c.r i).2.1) hxo (At hm.ok.robo hm.ok.r i).1 (At hm.ok.robo hm.ok.r i).2)<|nW (.ptr2 1 (lo+i) 0) rfl rfl ixT ?_;have hx3:(c.rob.set i (pD x ((lQ c.rob c.r i).1) ((lQ c.rob c.r i).2.1)))[i]?=some (pD x ((lQ c.rob c.r i).1) ((lQ c.rob c.r i).2.1)):=aR omT;refine nP (enL x) (h':=upd _ 1 (some (.arr ((A++(c.rob.set i (pD x ((lQ c.rob c.r i).1) ((lQ c.rob c.r i).2.1)))++B).map enL) 17))) rfl rfl rfl (⟨aG _,fM ((jK hlo hx))⟩) (uH (f:=enL) (x:=(pD x ((lQ c.rob c.r i).1) ((lQ c.rob c.r i).2.1))) (l:=c.rob) (i:=i) hlo omT)<|rE 50 ?_;have e:fH c i=setE c i (pD x ((lQ c.rob c.r i).1) ((lQ c.rob c.r i).2.1)):=by unfold fH;rw[hx];dsimp only;rw[if_neg h1p,if_neg h2p]
   rw[e];exact pP (rs:=[]) rfl (σ:=λ z=>z) ⟨rfl,rfl⟩ rfl (cH (λ z=>z) rfl rfl wH rfl)
structure WyG(n k:Nat)(w:Wy):Prop where
 line:lineOf w.line=w.line
 set:w.line / 16 % n=k
 data:w.data.size=0∨w.data.size=16
 le:w.line≤4294967295
structure SetG(n:Nat)(ways:Int)(k:Nat)(s:List Wy):Prop where
 len:(s.length:Int)≤ways
 way:∀ w∈s,WyG n k w
 one:(s.map (·.line)).Nodup
structure CaG(c:Ca):Prop where
 sets:c.sets.length=1∨c.sets.length=2∨c.sets.length=4
 ways:c.ways=1∨c.ways=2
 set:∀ k s,c.sets[k]?=some s→SetG c.sets.length c.ways k s
theorem PJ:∀ {s:List Wy} {line:Nat},jW s line=none↔∀ w∈s,w.line≠line
 |[],_=>by simp[jW]
 |w::l,line=>by
  unfold jW;by_cases h:w.line=line
  ·rw[if_pos h];simp[h]
  ·rw[if_neg h,Option.map_eq_none_iff,PJ];simp[h]
theorem VX:∀ {s:List Wy},(∀ i x,s[i]?=some x→jW (s.take i) x.line=none)↔(s.map (·.line)).Nodup:=by
 intro s;rw[List.nodup_iff_pairwise_ne,List.pairwise_map,List.pairwise_iff_getElem];constructor
 ·intro h i j hi hj hij e;exact PJ.1 (h j s[j] (aA hj)) s[i] (aB (i:=i) (by rw[cW,if_pos hij,aA hi])) e
 ·intro h j x hx;obtain⟨hj,rfl⟩:=DN.1 hx;refine PJ.2 λ w hw=>?_;obtain⟨i,hi,rfl⟩:=gC hw;rw[aL]at hi;rw[List.getElem_take];exact h i j omT hj omT
theorem ZF{c:Ca}:CaG c↔fI c=true∧c.ok:=by
 constructor
 ·intro h;refine⟨(jO c).2 ⟨⟨h.sets,h.ways⟩,λ k s hs=>(jV c k s).2 ?_⟩,⟨by have:=h.sets;omega,λ s hs=>?_⟩⟩
  ·have g:=h.set k s hs;refine⟨g.len,λ i x hx=>?_⟩;have gw:=g.way x (aB hx);exact⟨gw.line,gw.set,gw.data,VX.2 g.one i x hx⟩
  ·obtain⟨k,hk,rfl⟩:=gC hs;have g:=h.set k _ (aA hk);refine⟨by have:=g.len;have:=h.ways;omega,λ x hx=>⟨(g.way x hx).le⟩⟩
 ·rintro ⟨h,ok⟩;obtain⟨⟨h1,h2⟩,h3⟩:=(jO c).1 h;refine⟨h1,h2,λ k s hs=>?_⟩;obtain⟨g1,g2⟩:=(jV c k s).1 (h3 k s hs);refine⟨g1,λ w hw=>?_,VX.1 λ i x hx=>(g2 i x hx).2.2.2⟩;obtain⟨i,hi,rfl⟩:=gC hw;have g:=g2 i _ (aA hi);exact⟨g.1,g.2.1,g.2.2.1,((ok.set s (aB hs)).2 _ hw).line⟩
theorem CaG.with{c:Ca}(h:CaG c){k:Nat}{s:List Wy}(hs:SetG c.sets.length c.ways k s):CaG (nV c k s):=by
 have hl:(c.sets.set k s).length=c.sets.length:=bZ ..;refine⟨by show (c.sets.set k s).length=1∨(c.sets.set k s).length=2∨(c.sets.set k s).length=4;rw[hl];exact h.sets,h.ways,λ j t ht=>?_⟩;show SetG (c.sets.set k s).length c.ways j t;rw[hl];rw[show (nV c k s).sets=c.sets.set k s from rfl,mX]at ht;split at ht
 ·rename_i e;subst e;split at ht
  ·injection ht with ht;subst ht;exact hs
  ·cases ht
 ·exact h.set j t ht
theorem Ev{α:Type}{l:List α}{k:Nat}(h:k<l.length):(eO l k).Perm l:=by
 unfold eO;rw[aA h];show ([l[k]]++l.take k++l.drop (k+1)).Perm l;rw[List.singleton_append,oD];refine (List.perm_middle.symm).trans ?_;rw[←bU h,gF]
theorem SetG.perm{n:Nat}{ways:Int}{k:Nat}{s t:List Wy}(h:SetG n ways k s)(p:t.Perm s):SetG n ways k t:=
 ⟨by rw[p.length_eq];exact h.len,λ w hw=>h.way w (p.mem_iff.1 hw),(p.map _).nodup_iff.2 h.one⟩
theorem SetG.modHd{n:Nat}{ways:Int}{k:Nat}{s:List Wy}(h:SetG n ways k s){f:Wy→Wy}(hf:∀ w∈s,(f w).line=w.line∧((f w).data.size=0∨(f w).data.size=16)):SetG n ways k (modHd f s):=by
 cases s with
 |nil=>exact h
 | cons x l=>
  have hx:=hf x (bQ ..);have g:=h.way x (bQ ..);refine⟨h.len,λ w hw=>?_,?_⟩
  ·rcases al_List_mem_cons.1 hw with rfl|hw
   ·exact⟨by rw[hx.1];exact g.line,by rw[hx.1];exact g.set,hx.2,by rw[hx.1];exact g.le⟩
   ·exact h.way w (bX _ hw)
  ·show ((f x).line::l.map (·.line)).Nodup;rw[hx.1];exact h.one
theorem CaG.at{c:Ca}(h:CaG c){k:Nat}(hk:k<c.sets.length):SetG c.sets.length c.ways k (pM c k):=by
 rw[sI (aA hk)];exact h.set k _ (aA hk)
theorem CaG.touch{c:Ca}(h:CaG c)(line:Nat):CaG (oT c line):=by
 by_cases hF:(bF c line).2.isSome=true
 ·rw[Da hF];have ff:=oO hF;exact h.with ((h.at ff.2.2.1).perm (Ev ff.2.2.2))
 ·rw[Db (by simpa using hF)];exact h
theorem PK(d:ByteArray):(lX d).size=0∨(lX d).size=16:=by
 unfold lX;split
 ·right;assumption
 ·left;rfl
theorem CaG.put{c:Ca}(h:CaG c){line:Nat}(hl:line≤4294967295)(d:ByteArray)(b:Bool):CaG (pH c line d b).1:=by
 have hR:=(ZF.1 h).1;by_cases hF:(bF c line).2.isSome=true
 ·rw[BU hF];have ff:=oO hF;have g:=(h.at ff.2.2.1).perm (Ev ff.2.2.2);refine h.with (g.modHd λ w hw=>⟨rfl,?_⟩);show (if (lX d).size=0 then w.data else lX d).size=0∨_;split
  ·exact (g.way w hw).data
  ·exact PK d
 ·have hF':(bF c line).2.isSome=false:=by simpa using hF
  rw[uW hR hF'];have e:=rK (line:=line) hR;have hk:(bF c line).1<c.sets.length:=by rw[e];exact Aw (kH hR).1 _
  have hn:jW (pM c (bF c line).1) (lineOf line)=none:=by rw[e]at hF' ⊢;simpa using hF'
  have g:=h.at hk;have gw:WyG c.sets.length (bF c line).1 ⟨lineOf line,b,lX d⟩:=⟨by show lineOf (lineOf line)=lineOf line;unfold lineOf;omega,by rw[e];rfl,PK d,dJ hl⟩;split
  ·rename_i hw;refine h.with ⟨?_,λ w hw=>?_,?_⟩
   ·have:=h.ways;rw[bR,oJ];omega
   ·rcases al_List_mem_cons.1 hw with rfl|hw
    ·exact gw
    ·exact g.way w (oK _ hw)
   ·rw[jF,List.nodup_cons];refine⟨λ hm=>?_,g.one.sublist ((List.dropLast_sublist _).map _)⟩;obtain⟨w,hw,e⟩:=sS.1 hm;exact PJ.1 hn w (oK _ hw) e
  ·rename_i hw;refine h.with ⟨?_,λ w hw=>?_,?_⟩
   ·have:=g.len;rw[bR];push_cast;omega
   ·rcases al_List_mem_cons.1 hw with rfl|hw
    ·exact gw
    ·exact g.way w hw
   ·rw[jF,List.nodup_cons];refine⟨λ hm=>?_,g.one⟩;obtain⟨w,hw,e⟩:=sS.1 hm;exact PJ.1 hn w hw e
theorem NP{d b:ByteArray}{a:Nat}(h:b.size+a≤d.size):(EJ d a b).size=d.size:=by
 unfold EJ;simp only[kE,dK];omega
theorem CaG.write{c:Ca}(h:CaG c)(a:Nat)(b:ByteArray):CaG (tL c a b).1:=by
 by_cases hF:(bF c a).2.isSome=true
 ·have ff:=oO hF;rw[Aa b hF rfl (aA ff.2.2.2)];split
  ·exact h
  ·rename_i hq;have g:=(h.at ff.2.2.1).perm (Ev ff.2.2.2);have hd:=(h.at ff.2.2.1).way _ (lM ff.2.2.2);have hd2:=hd.data;have e:eO (pM c (bF c a).1) ((bF c a).2.getD 0)=(pM c (bF c a).1)[(bF c a).2.getD 0]::((pM c (bF c a).1).take ((bF c a).2.getD 0)++(pM c (bF c a).1).drop ((bF c a).2.getD 0+1)):=by
    unfold eO;rw[aA ff.2.2.2];rfl
   refine h.with ?_;rw[e]at g⊢;have g1:=g.way _ (bQ ..);refine⟨g.len,λ w hw=>?_,g.one⟩;rcases al_List_mem_cons.1 hw with rfl|hw
   ·refine⟨g1.line,g1.set,.inr ?_,g1.le⟩;show (EJ _ _ _).size=16;rw[NP omT];omega
   ·exact g.way w (bX _ hw)
 ·rw[Gn b (by simpa using hF)];exact h
theorem CaG.clean{c:Ca}(h:CaG c)(line:Nat):CaG (qN c line):=by
 by_cases hF:(bF c line).2.isSome=true
 ·have ff:=oO hF;rw[Dc hF rfl];have g:=h.at ff.2.2.1;have hm:(((pM c (bF c line).1).modify ((bF c line).2.getD 0) λ w=>{w with dirty:=false}).map (·.line))=(pM c (bF c line).1).map (·.line):=by
   apply dF;intro i;simp only[bD,oL];split<;>simp[Option.map_map,Function.comp_def]
  refine h.with ⟨by rw[List.length_modify];exact g.len,λ w hw=>?_,by rw[hm];exact g.one⟩;obtain⟨i,hi⟩:=List.getElem?_of_mem hw;rw[oL]at hi;obtain⟨v,hv,rfl⟩:=FH.1 hi;have gv:=g.way v (aB hv);split
  ·exact⟨gv.line,gv.set,gv.data,gv.le⟩
  ·exact gv
 ·rw[Dd (by simpa using hF)];exact h
theorem CaG.dirty{c:Ca}(h:CaG c){w:Wy}(hw:cV c=some w):w.line≤4294967295:=by
 unfold cV at hw;split at hw
 ·have:=List.mem_of_find?_eq_some hw;obtain⟨s,hs,hw⟩:=List.mem_flatten.1 this;obtain⟨k,hk,rfl⟩:=gC hs;exact ((h.set k _ (aA hk)).way w hw).le
 ·cases hw
theorem Mm{q:List Req}(h:∀ x∈q,x.ok){kind:Int}{line:Nat}{left:Int}{d:ByteArray}(hl:line≤4294967295):∀ x∈zG q kind line left d,x.ok:=by
 intro x hx;unfold zG at hx;rcases al_List_mem_append.1 hx with hx|hx
 ·exact h x hx
 ·rw[uD.1 hx];exact⟨hl⟩
theorem Jt(q:List Req)(kind:Int)(line:Nat)(left:Int)(d:ByteArray):(zG q kind line left d).length=q.length+1:=by unfold zG;simp
theorem Co.okM.gd{c:Co}{n:Nat}(h:c.okM n):CaG c.data:=ZF.2 ⟨h.data,h.ok.data⟩
theorem Co.okM.gw{c:Co}{n:Nat}(h:c.okM n):CaG c.words:=ZF.2 ⟨h.words,h.ok.words⟩
theorem Co.okM.mono{c:Co}{n m:Nat}(h:c.okM n)(hm:n≤m)(hb:m≤890000):c.okM m:=
 ⟨⟨h.ok.conf,h.ok.prog,h.ok.progo,h.ok.r,h.ok.fetch,h.ok.fet,h.ok.feto,h.ok.rob,h.ok.robo,h.ok.sto,h.ok.stoo,h.ok.data,h.ok.words,aN h.ok.bus hm,h.ok.buso,h.ok.asked,h.ok.guessed,h.ok.mem,h.ok.guess,aN h.ok.ret hm,h.ok.reto⟩,hb,h.cf,h.data,h.words,h.guess,h.rob,h.fet,h.sto,h.prog,h.mem,h.std⟩
theorem Ew(z:Int):wrap64 z≤9223372036854775807:=by unfold wrap64;omega
theorem Co.okM.busData{c:Co}{n:Nat}(h:c.okM n){q:List Req}{d:Ca}{a:Int}(hq:q.length≤n+1)(hqo:∀ x∈q,x.ok)(hd:CaG d)(ha:a≤9223372036854775807)(hb:n+1≤890000):Co.okM {c with bus:=q,data:=d,asked:=a} (n+1):=
 ⟨⟨h.ok.conf,h.ok.prog,h.ok.progo,h.ok.r,h.ok.fetch,h.ok.fet,h.ok.feto,h.ok.rob,h.ok.robo,h.ok.sto,h.ok.stoo,(ZF.1 hd).2,h.ok.words,hq,hqo,ha,h.ok.guessed,h.ok.mem,h.ok.guess,qQ h.ok.ret,h.ok.reto⟩,hb,h.cf,(ZF.1 hd).1,h.words,h.guess,h.rob,h.fet,h.sto,h.prog,h.mem,h.std⟩
theorem sF{c:Co}{n:Nat}(h:c.okM n)(hb:n+1≤890000)(kind:Int){line:Nat}(hl:line≤4294967295)(d:ByteArray):(iT c kind line d).okM (n+1):=
 h.busData (by rw[Jt];have:=h.ok.bus;omega) (Mm h.ok.buso hl) h.gd (Ew _) hb
theorem PL{d:Ca}{q:List Req}{m:ByteArray}{line:Nat}{left:Int}(hd:CaG d)(hq:∀ x∈q,x.ok)(hl:line≤4294967295):CaG (iA d q m line left).1∧(iA d q m line left).2.1.length≤q.length+1∧∀ x∈(iA d q m line left).2.1,x.ok:=by
 unfold iA;split
 ·exact⟨hd,fO _,hq⟩
 ·split
  ·exact⟨hd.touch _,fO _,hq⟩
  ·have hp:=hd.put (dJ hl) (Fj (jQ q m) (lineOf line)) false;have hg:=Gl (ZF.1 hd).2 (lineOf line) (Fj (jQ q m) (lineOf line)) false;generalize pH d (lineOf line) (Fj (jQ q m) (lineOf line)) false=t at hp hg;obtain⟨e,gone,went⟩:=t;dsimp only at hp hg⊢;split
   ·exact⟨hp,by rw[Jt];exact aC _,Mm hq hg⟩
   ·exact⟨hp,fO _,hq⟩
theorem Ex{c:Co}{n:Nat}(h:c.okM n)(hb:n+1≤890000){line:Nat}(hl:line≤4294967295):(eI c line).okM (n+1):=by
 have hk:=PL (m:=c.mem) (left:=lJ c.conf c.asked) h.gd h.ok.buso hl;unfold eI;generalize iA c.data c.bus c.mem line (lJ c.conf c.asked)=t at hk;obtain⟨d,q,a⟩:=t;dsimp only at hk⊢;refine h.busData (by have:=h.ok.bus;omega) hk.2.2 hk.1 ?_ hb;split
 ·exact Ew _
 ·exact h.ok.asked
theorem PM{l:List Pt}{c:Ca}(hc:CaG c):CaG (nU l c).2.1∧(nU l c).1.length≤l.length∧∀ x∈(nU l c).1,x∈l:=by
 unfold nU
 cases l with
 |nil=>exact⟨hc,aC _,λ x h=>h⟩
 |cons p l=>
  dsimp only;split
  ·exact⟨hc.write _ _,fO _,λ x h=>bX _ h⟩
  ·exact⟨hc,aC _,λ x h=>h⟩
theorem eU{c:Co}{n:Nat}(h:c.okM n):(aU c).okM n:=by
 have hk:=PM (l:=c.stores) h.gd;exact⟨⟨h.ok.conf,h.ok.prog,h.ok.progo,h.ok.r,h.ok.fetch,h.ok.fet,h.ok.feto,h.ok.rob,h.ok.robo,aN hk.2.1 h.ok.sto,λ x hx=>h.ok.stoo x (hk.2.2 x hx),(ZF.1 hk.1).2,h.ok.words,h.ok.bus,h.ok.buso,h.ok.asked,h.ok.guessed,h.ok.mem,h.ok.guess,h.ok.ret,h.ok.reto⟩,h.nb,h.cf,(ZF.1 hk.1).1,h.words,h.guess,h.rob,h.fet,aN hk.2.1 h.sto,h.prog,h.mem,λ x hx=>h.std x (hk.2.2 x hx)⟩
theorem jJ(c:Co):pX c=kJ (if (nU c.stores c.data).2.2=false∧(aU c).stores≠[]then mV (aU c)else aU c):=by
 unfold pX aU
 cases hs:c.stores with
 |nil=>simp[nU]
 | cons p l=>
  dsimp only
  cases hq:(nU (p::l) c.data).2.2 with
  |true=>simp
  | false=>
   have:(nU (p::l) c.data).1=p::l:=by
    unfold nU at hq⊢;dsimp only at hq⊢;by_cases hw:(tL c.data p.addr p.data).2=true
    ·rw[if_pos hw]at hq;cases hq
    ·rw[if_neg hw]
   simp[this]
theorem c2a{a b:Bool}:cJ a b false=(a&&b):=by cases a<;>rfl
theorem c2o{a b:Bool}:cJ a true b=(a||b):=by cases a<;>rfl
theorem tH{d:Co}{p:Pt}(hp:d.stores[0]?=some p):mV d=if DI d.bus (lineOf p.addr) 3=false∧qV d true=true then iT d 3 (lineOf p.addr) mR else d:=by
 unfold mV
 cases hs:d.stores with
 |nil=>rw[hs]at hp;simp at hp
 |cons y l=>rw[hs]at hp;simp at hp;subst hp;rfl
theorem uP{d:Co}(h:(cV d.data).isSome=true∧((cV d.data).getD pY).data.size≠0):mI d={iT d 4 ((cV d.data).getD pY).line ((cV d.data).getD pY).data with data:=qN d.data ((cV d.data).getD pY).line}:=by
 unfold mI
 cases hd:cV d.data with
 |none=>rw[hd]at h;simp at h
 |some w=>rw[hd]at h;exact if_pos h.2
theorem wJ{d:Co}(h: ¬ ((cV d.data).isSome=true∧((cV d.data).getD pY).data.size≠0)):mI d=d:=by
 unfold mI
 cases hd:cV d.data with
 |none=>rfl
 |some w=>rw[hd]at h;exact if_neg λ e=>h ⟨rfl,e⟩
theorem CaG.dirtyLe{c:Ca}(h:CaG c):((cV c).getD pY).line≤4294967295:=by
 cases hd:cV c with
 |none=>exact aE _
 |some w=>exact h.dirty hd
theorem VW(c:Co)(nb:Nat)(hm:c.okM nb)(hb:nb+2≤890000)(kR:Bool)(xR:List (List AV))(kF:Bool)(xF:List (List AV))(kT:Bool)(xT:List (List AV)):qF C0.P C0.G 58 [.ptr 0 0] (heapF [(0,.box (mcX c (.sl 17 xR kR) (.sl 2 xF kF) (.sl 2 (c.stores.map ptL) false) (.sl 9 xT kT)))]) 1 (λ x h'=>x=.tup []∧h'=heapF [(0,.box (mcX (pX c) (.sl 17 xR kR) (.sl 2 xF kF) (.sl 2 ((pX c).stores.map ptL) false) (.sl 9 xT kT)))]):=by
 refine HCall.intro (C:=C1) (s:=1) c1Ok.at Tryz.func58 rfl rfl (by kernel_rfl) rfl rfl<|cSR<|oR 10 rfl<|rCi rfl (Yp c.stores c.data hm.ok.data (by have:=hm.sto;omega) hm.ok.stoo)<|oR 4 rfl<|rAl 16 rfl rfl<|oR 1 rfl<|rSt rfl<|oR 1 rfl<|rE 20<|bI<|AW rfl rfl<|oR 7 rfl<|rSt rfl<|oR 3 rfl ?_;refine rSx 0 (mcX ({c with data:=(aU c).data}:Co) (.sl 17 xR kR) (.sl 2 xF kF) (.sl 2 (((aU c).stores).map ptL) false) (.sl 9 xT kT)) rfl rfl rfl<|rE 32<|And.intro (by kernel_rfl)<|bI<|cSR<|oR 3 rfl<|gN rfl<|gS rfl id<|gS rfl id<|gS rfl id<|gS rfl id<|gBS (x:=vN (((aU c).stores).length)) rfl id (bJ ptL ((aU c).stores))<|gBS (x:=vB (decide ((((aU c).stores).length)>0))) rfl id (okB (gtN _ _))<|cL rfl rfl rfl (λ h=>h)<|rE 43 ?_;refine aQ rfl (λ h1=>?_) (λ h1=>?_)
 ·have hns:((nU c.stores c.data).2.2=false∧(aU c).stores≠[]):=by have z:=h1;simpa [c2a,fE]using z
  have hpos:0<(aU c).stores.length:=fE.2 hns.2;refine cSR<|oR 5 rfl ?_;obtain⟨p,hp⟩:∃ y_,((aU c).stores)[0]?=some y_:=⟨_,aA omT⟩;have hpo:=(eU hm).ok.stoo p (aB hp);refine Fi (ptL p) (x:=.dp 2 0 (ptL p)) rfl rfl rfl (⟨by decide,fM hp⟩) rfl<|oR 2 rfl<|rCi rfl (qZ p.addr hpo.addr)<|oR 1 rfl<|rE 53<|cSR<|oR 6 rfl<|rV (.sl 1 ([[vI 3]]) true) rfl<|rCl (x:=vB (DI c.bus (lineOf p.addr) 3)) rfl (.inl rfl) ((show bV C0 _ [_,_,.sl 1 ([(3:Int)].map fD) true] _ from by rw[←Jv];exact QZ c.bus (lineOf p.addr) [3] false true (by have:=hm.bus;omega) (λ x hx=>(hm.ok.buso x hx).line) (dJ hpo.addr) (by decide)))<|oR 2 rfl<|gN rfl<|gT (args:=[.ptr 0 0,vB true]) (x:=vB (qV (aU c) true)) (g:= !(DI c.bus (lineOf p.addr) 3)) rfl rfl rfl rfl (λ h=>h) rfl rfl rfl (.inr ⟨rfl,⟨trivial,trivial,trivial⟩⟩) rfl (λ hg=>ST (aU c) nb (eU hm) (.sl 17 xR kR) (.sl 2 xF kF) (.sl 2 (((aU c).stores).map ptL) false) (.sl 9 xT kT) true)<|cL rfl rfl rfl (λ h=>h)<|rE 66 ?_;refine aQ rfl (λ h2=>?_) (λ h2=>?_)
  ·have hra:(DI (aU c).bus (lineOf p.addr) 3=false∧qV (aU c) true=true):=by have z:=h2;show (DI c.bus _ _=false∧_);simpa [c2a]using z
   refine cRg<|oR 2 rfl<|fX (args:=[.ptr 0 0,vI 3,vU (lineOf p.addr),.v (.string (⟨#[]⟩:ByteArray))]) (d:=68) _ rfl rfl rfl ((Yf (aU c) nb (eU hm) 3 (lineOf p.addr) (⟨#[]⟩:ByteArray) (dJ hpo.addr) kR xR kF xF false ((aU c).stores.map ptL) kT xT).frameB (λ z=>z) _ _ rfl ⟨⟨rfl,rfl,rfl,rfl⟩,trivial⟩ rfl rfl rfl rfl) ?_;rintro _ _ ⟨rfl,rfl⟩;refine rE 69<|bI<|cSR<|oR 5 rfl<|rW (vN (((aU c).stores).length)) rfl (bJ ptL ((aU c).stores))<|rW (vB (decide ((((aU c).stores).length)>0))) rfl (okB (gtN _ _))<|oR 1 rfl<|gN rfl<|gS rfl id<|gS rfl id<|gS rfl id<|gS rfl id<|gBS (x:=vB (((iT (aU c) 3 (lineOf p.addr) (⟨#[]⟩:ByteArray)).halt)==0)) rfl id rfl<|cL rfl rfl rfl (by simp)<|rE 84 ?_;refine aQ rfl (λ h3=>?_) (λ h3=>?_)
   ·have hlt:((aU c).stores≠[]∨(iT (aU c) 3 (lineOf p.addr) (⟨#[]⟩:ByteArray)).halt=0):=by have z:=h3;simpa [c2o,fE]using z
    refine cM ?_;rw[jJ,if_pos hns,tH hp,if_pos hra];rw[show kJ (iT (aU c) 3 (lineOf p.addr) mR)=(iT (aU c) 3 (lineOf p.addr) mR)from if_pos hlt];exact pP (rs:=[]) rfl (σ:=λ z=>z) ⟨rfl,rfl⟩ rfl (cH (λ z=>z) rfl rfl wH rfl)
   ·have hlt: ¬ ((aU c).stores≠[]∨(iT (aU c) 3 (lineOf p.addr) (⟨#[]⟩:ByteArray)).halt=0):=by have z:=h3;simpa [c2o,fE]using z
    refine aY<|cSR<|oR 5 rfl<|rCi rfl (HI (iT (aU c) 3 (lineOf p.addr) (⟨#[]⟩:ByteArray)).data (sF (eU hm) omT 3 (dJ hpo.addr) mR).ok.data)<|oR 3 rfl<|rAl 93 rfl rfl<|rSt rfl<|oR 1 rfl<|rE 96<|cSR<|oR 2 rfl<|gN rfl<|gS rfl id<|gBS (x:=vB (!((((cV (iT (aU c) 3 (lineOf p.addr) (⟨#[]⟩:ByteArray)).data).getD pY).data).toList==(⟨#[]⟩:ByteArray).toList))) rfl id rfl ?_;refine cL rfl rfl rfl (λ h=>h)<|rE 102 ?_;refine aQ rfl (λ h4=>?_) (λ h4=>?_)
    ·have hq4:((cV (iT (aU c) 3 (lineOf p.addr) (⟨#[]⟩:ByteArray)).data).isSome=true∧((cV (iT (aU c) 3 (lineOf p.addr) (⟨#[]⟩:ByteArray)).data).getD pY).data.size≠0):=by have z:=h4;rw[AK]at z;simpa [qI]using z
     have hcd:Ca.ok (iT (aU c) 3 (lineOf p.addr) (⟨#[]⟩:ByteArray)).data:=(sF (eU hm) omT 3 (dJ hpo.addr) mR).ok.data;refine cSR<|oR 5 rfl<|fX (args:=[.ptr 0 0,vI 4,vU (((cV (iT (aU c) 3 (lineOf p.addr) (⟨#[]⟩:ByteArray)).data).getD pY).line),.v (.string (((cV (iT (aU c) 3 (lineOf p.addr) (⟨#[]⟩:ByteArray)).data).getD pY).data))]) (d:=104) _ rfl rfl rfl ((Yf (iT (aU c) 3 (lineOf p.addr) (⟨#[]⟩:ByteArray)) (nb+1) (sF (eU hm) omT 3 (dJ hpo.addr) mR) 4 (((cV (iT (aU c) 3 (lineOf p.addr) (⟨#[]⟩:ByteArray)).data).getD pY).line) (((cV (iT (aU c) 3 (lineOf p.addr) (⟨#[]⟩:ByteArray)).data).getD pY).data) ((sF (eU hm) omT 3 (dJ hpo.addr) mR).gd.dirtyLe) kR xR kF xF false ((aU c).stores.map ptL) kT xT).frameB (λ z=>z) _ _ rfl ⟨⟨rfl,rfl,rfl,rfl⟩,trivial⟩ rfl rfl rfl rfl) ?_;rintro _ _ ⟨rfl,rfl⟩;refine rE 108<|cRg<|oR 8 rfl<|rCi rfl (HH ((iT (iT (aU c) 3 (lineOf p.addr) (⟨#[]⟩:ByteArray)) 4 (((cV (iT (aU c) 3 (lineOf p.addr) (⟨#[]⟩:ByteArray)).data).getD pY).line) (((cV (iT (aU c) 3 (lineOf p.addr) (⟨#[]⟩:ByteArray)).data).getD pY).data)).data) (((cV (iT (aU c) 3 (lineOf p.addr) (⟨#[]⟩:ByteArray)).data).getD pY).line) hcd ((sF (eU hm) omT 3 (dJ hpo.addr) mR).gd.dirtyLe))<|oR 3 rfl<|rSx 0 (mcX ({iT (iT (aU c) 3 (lineOf p.addr) (⟨#[]⟩:ByteArray)) 4 (((cV (iT (aU c) 3 (lineOf p.addr) (⟨#[]⟩:ByteArray)).data).getD pY).line) (((cV (iT (aU c) 3 (lineOf p.addr) (⟨#[]⟩:ByteArray)).data).getD pY).data)with data:=(qN ((iT (iT (aU c) 3 (lineOf p.addr) (⟨#[]⟩:ByteArray)) 4 (((cV (iT (aU c) 3 (lineOf p.addr) (⟨#[]⟩:ByteArray)).data).getD pY).line) (((cV (iT (aU c) 3 (lineOf p.addr) (⟨#[]⟩:ByteArray)).data).getD pY).data)).data) (((cV (iT (aU c) 3 (lineOf p.addr) (⟨#[]⟩:ByteArray)).data).getD pY).line))}:Co) (.sl 17 xR kR) (.sl 2 xF kF) (.sl 2 (((aU c).stores).map ptL) false) (.sl 9 xT kT)) rfl rfl rfl<|rE 121 ?_;rw[jJ,if_pos hns,tH hp,if_pos hra];rw[show kJ (iT (aU c) 3 (lineOf p.addr) mR)=mI (iT (aU c) 3 (lineOf p.addr) mR)from if_neg hlt,uP (d:=(iT (aU c) 3 (lineOf p.addr) mR)) hq4];exact pP (rs:=[]) rfl (σ:=λ z=>z) ⟨rfl,rfl⟩ rfl (cH (λ z=>z) rfl rfl wH rfl)
    ·have hq4: ¬ ((cV (iT (aU c) 3 (lineOf p.addr) (⟨#[]⟩:ByteArray)).data).isSome=true∧((cV (iT (aU c) 3 (lineOf p.addr) (⟨#[]⟩:ByteArray)).data).getD pY).data.size≠0):=by have z:=h4;rw[AK]at z;simpa [qI]using z
     refine aY ?_;rw[jJ,if_pos hns,tH hp,if_pos hra];rw[show kJ (iT (aU c) 3 (lineOf p.addr) mR)=mI (iT (aU c) 3 (lineOf p.addr) mR)from if_neg hlt,wJ (d:=(iT (aU c) 3 (lineOf p.addr) mR)) hq4];exact pP (rs:=[]) rfl (σ:=λ z=>z) ⟨rfl,rfl⟩ rfl (cH (λ z=>z) rfl rfl wH rfl)
  ·have hra: ¬ (DI (aU c).bus (lineOf p.addr) 3=false∧qV (aU c) true=true):=by have z:=h2;show ¬ (DI c.bus _ _=false∧_);simpa [c2a]using z
   refine aY<|bI<|cSR<|oR 5 rfl<|rW (vN (((aU c).stores).length)) rfl (bJ ptL ((aU c).stores))<|rW (vB (decide ((((aU c).stores).length)>0))) rfl (okB (gtN _ _))<|oR 1 rfl<|gN rfl<|gS rfl id<|gS rfl id<|gS rfl id<|gS rfl id<|gBS (x:=vB (c.halt==0)) rfl id rfl<|cL rfl rfl rfl (by simp)<|rE 81 ?_;refine aQ rfl (λ h5=>?_) (λ h5=>?_)
   ·have hlt:((aU c).stores≠[]∨c.halt=0):=by have z:=h5;simpa [c2o,fE]using z
    refine cM ?_;rw[jJ,if_pos hns,tH hp,if_neg hra];rw[show kJ (aU c)=(aU c)from if_pos hlt];exact pP (rs:=[]) rfl (σ:=λ z=>z) ⟨rfl,rfl⟩ rfl (cH (λ z=>z) rfl rfl wH rfl)
   ·have hlt: ¬ ((aU c).stores≠[]∨c.halt=0):=by have z:=h5;simpa [c2o,fE]using z
    refine aY<|cSR<|oR 5 rfl<|rCi rfl (HI (aU c).data (eU hm).ok.data)<|oR 3 rfl<|rAl 90 rfl rfl<|rSt rfl<|oR 1 rfl<|rE 93<|cSR<|oR 2 rfl<|gN rfl<|gS rfl id<|gBS (x:=vB (!((((cV (aU c).data).getD pY).data).toList==(⟨#[]⟩:ByteArray).toList))) rfl id rfl ?_;refine cL rfl rfl rfl (λ h=>h)<|rE 99 ?_;refine aQ rfl (λ h6=>?_) (λ h6=>?_)
    ·have hq4:((cV (aU c).data).isSome=true∧((cV (aU c).data).getD pY).data.size≠0):=by have z:=h6;rw[AK]at z;simpa [qI]using z
     have hcd:Ca.ok (aU c).data:=(eU hm).ok.data;refine cSR<|oR 5 rfl<|fX (args:=[.ptr 0 0,vI 4,vU (((cV (aU c).data).getD pY).line),.v (.string (((cV (aU c).data).getD pY).data))]) (d:=104) _ rfl rfl rfl ((Yf (aU c) nb (eU hm) 4 (((cV (aU c).data).getD pY).line) (((cV (aU c).data).getD pY).data) ((eU hm).gd.dirtyLe) kR xR kF xF false ((aU c).stores.map ptL) kT xT).frameB (λ z=>z) _ _ rfl ⟨⟨rfl,rfl,rfl,rfl⟩,trivial⟩ rfl rfl rfl rfl) ?_;rintro _ _ ⟨rfl,rfl⟩;refine rE 105<|cRg<|oR 8 rfl<|rCi rfl (HH ((iT (aU c) 4 (((cV (aU c).data).getD pY).line) (((cV (aU c).data).getD pY).data)).data) (((cV (aU c).data).getD pY).line) hcd ((eU hm).gd.dirtyLe))<|oR 3 rfl<|rSx 0 (mcX ({iT (aU c) 4 (((cV (aU c).data).getD pY).line) (((cV (aU c).data).getD pY).data)with data:=(qN ((iT (aU c) 4 (((cV (aU c).data).getD pY).line) (((cV (aU c).data).getD pY).data)).data) (((cV (aU c).data).getD pY).line))}:Co) (.sl 17 xR kR) (.sl 2 xF kF) (.sl 2 (((aU c).stores).map ptL) false) (.sl 9 xT kT)) rfl rfl rfl<|rE 118 ?_;rw[jJ,if_pos hns,tH hp,if_neg hra];rw[show kJ (aU c)=mI (aU c)from if_neg hlt,uP (d:=(aU c)) hq4];exact pP (rs:=[]) rfl (σ:=λ z=>z) ⟨rfl,rfl⟩ rfl (cH (λ z=>z) rfl rfl wH rfl)
    ·have hq4: ¬ ((cV (aU c).data).isSome=true∧((cV (aU c).data).getD pY).data.size≠0):=by have z:=h6;rw[AK]at z;simpa [qI]using z
     refine aY ?_;rw[jJ,if_pos hns,tH hp,if_neg hra];rw[show kJ (aU c)=mI (aU c)from if_neg hlt,wJ (d:=(aU c)) hq4];exact pP (rs:=[]) rfl (σ:=λ z=>z) ⟨rfl,rfl⟩ rfl (cH (λ z=>z) rfl rfl wH rfl)
 ·have hns: ¬ ((nU c.stores c.data).2.2=false∧(aU c).stores≠[]):=by have z:=h1;simpa [c2a,fE]using z
  refine aY<|bI<|cSR<|oR 5 rfl<|rW (vN (((aU c).stores).length)) rfl (bJ ptL ((aU c).stores))<|rW (vB (decide ((((aU c).stores).length)>0))) rfl (okB (gtN _ _))<|oR 1 rfl<|gN rfl<|gS rfl id<|gS rfl id<|gS rfl id<|gS rfl id<|gBS (x:=vB (c.halt==0)) rfl id rfl<|cL rfl rfl rfl (by simp)<|rE 58 ?_;refine aQ rfl (λ h7=>?_) (λ h7=>?_)
  ·have hlt:((aU c).stores≠[]∨c.halt=0):=by have z:=h7;simpa [c2o,fE]using z
   refine cM ?_;rw[jJ,if_neg hns];rw[show kJ (aU c)=(aU c)from if_pos hlt];exact pP (rs:=[]) rfl (σ:=λ z=>z) ⟨rfl,rfl⟩ rfl (cH (λ z=>z) rfl rfl wH rfl)
  ·have hlt: ¬ ((aU c).stores≠[]∨c.halt=0):=by have z:=h7;simpa [c2o,fE]using z
   refine aY<|cSR<|oR 5 rfl<|rCi rfl (HI (aU c).data (eU hm).ok.data)<|oR 3 rfl<|rAl 67 rfl rfl<|rSt rfl<|oR 1 rfl<|rE 70<|cSR<|oR 2 rfl<|gN rfl<|gS rfl id<|gBS (x:=vB (!((((cV (aU c).data).getD pY).data).toList==(⟨#[]⟩:ByteArray).toList))) rfl id rfl ?_;refine cL rfl rfl rfl (λ h=>h)<|rE 76 ?_;refine aQ rfl (λ h8=>?_) (λ h8=>?_)
   ·have hq4:((cV (aU c).data).isSome=true∧((cV (aU c).data).getD pY).data.size≠0):=by have z:=h8;rw[AK]at z;simpa [qI]using z
    have hcd:Ca.ok (aU c).data:=(eU hm).ok.data;refine cSR<|oR 5 rfl<|fX (args:=[.ptr 0 0,vI 4,vU (((cV (aU c).data).getD pY).line),.v (.string (((cV (aU c).data).getD pY).data))]) (d:=104) _ rfl rfl rfl ((Yf (aU c) nb (eU hm) 4 (((cV (aU c).data).getD pY).line) (((cV (aU c).data).getD pY).data) ((eU hm).gd.dirtyLe) kR xR kF xF false ((aU c).stores.map ptL) kT xT).frameB (λ z=>z) _ _ rfl ⟨⟨rfl,rfl,rfl,rfl⟩,trivial⟩ rfl rfl rfl rfl) ?_;rintro _ _ ⟨rfl,rfl⟩;refine rE 82<|cRg<|oR 8 rfl<|rCi rfl (HH ((iT (aU c) 4 (((cV (aU c).data).getD pY).line) (((cV (aU c).data).getD pY).data)).data) (((cV (aU c).data).getD pY).line) hcd ((eU hm).gd.dirtyLe))<|oR 3 rfl<|rSx 0 (mcX ({iT (aU c) 4 (((cV (aU c).data).getD pY).line) (((cV (aU c).data).getD pY).data)with data:=(qN ((iT (aU c) 4 (((cV (aU c).data).getD pY).line) (((cV (aU c).data).getD pY).data)).data) (((cV (aU c).data).getD pY).line))}:Co) (.sl 17 xR kR) (.sl 2 xF kF) (.sl 2 (((aU c).stores).map ptL) false) (.sl 9 xT kT)) rfl rfl rfl<|rE 95 ?_;rw[jJ,if_neg hns];rw[show kJ (aU c)=mI (aU c)from if_neg hlt,uP (d:=(aU c)) hq4];exact pP (rs:=[]) rfl (σ:=λ z=>z) ⟨rfl,rfl⟩ rfl (cH (λ z=>z) rfl rfl wH rfl)
   ·have hq4: ¬ ((cV (aU c).data).isSome=true∧((cV (aU c).data).getD pY).data.size≠0):=by have z:=h8;rw[AK]at z;simpa [qI]using z
    refine aY ?_;rw[jJ,if_neg hns];rw[show kJ (aU c)=mI (aU c)from if_neg hlt,wJ (d:=(aU c)) hq4];exact pP (rs:=[]) rfl (σ:=λ z=>z) ⟨rfl,rfl⟩ rfl (cH (λ z=>z) rfl rfl wH rfl)
end Go.Proofs.YtlhofpglndhfaaaGreatDoor
