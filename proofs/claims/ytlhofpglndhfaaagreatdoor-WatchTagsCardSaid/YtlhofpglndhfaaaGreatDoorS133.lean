/- Joined texts. -/
import Derived.Test.YtlhofpglndhfaaaGreatDoorS101
import Derived.Test.YtlhofpglndhfaaaGreatDoorS128
import Derived.Test.YtlhofpglndhfaaaGreatDoorS130
import Derived.Test.YtlhofpglndhfaaaGreatDoorS132
set_option linter.unusedVariables false
set_option linter.unusedSimpArgs false
namespace Go.Proofs.YtlhofpglndhfaaaGreatDoor
set_option maxRecDepth 100000
set_option maxHeartbeats 4000000
open Go.RowKit
structure Co.okM(c:Co)(n:Nat):Prop where
 ok:c.ok n
 nb:n≤890000
 cf:sW c.conf=true
 data:fR c.data=true
 words:fR c.words=true
 guess:rM c.guess=true
 rob:c.rob.length≤1000
 fet:c.fetched.length≤1000
 sto:c.stores.length≤1000
 prog:c.prog.length≤1000
 mem:c.mem.size≤256
 std:∀ x∈c.stores,x.data.size≤4
theorem Co.okM.bus{c:Co}{n:Nat}(h:c.okM n):c.bus.length≤890000:=aM h.ok.bus h.nb
theorem Co.okM.ret{c:Co}{n:Nat}(h:c.okM n):c.retired.length≤890000:=aM h.ok.ret h.nb
theorem mT{c:Cf}(h:sW c=true):c.lat.length≤64∧c.tape.length≤64∧1≤c.width∧c.width≤2∧c.rob≤8∧2≤c.rob∧c.queue≤4∧1≤c.queue∧c.stores≤4∧1≤c.stores∧c.slots≤6∧2≤c.slots∧0≤c.mode∧c.mode≤2:=by
 unfold sW inI at h;simp only[aI,aP]at h;omega
theorem Co.okM.conf{c:Co}{n:Nat}(h:c.okM n):c.conf.ok:=⟨by have:=(mT h.cf).1;omega,by have:=(mT h.cf).2.1;omega,h.ok.conf.tp⟩
theorem Co.okM.d4{c:Co}{n:Nat}(h:c.okM n):c.data.sets.length≤4:=(kE h.data).2.1
theorem Co.okM.d2{c:Co}{n:Nat}(h:c.okM n):∀ s∈c.data.sets,s.length≤2:=λ s hs=>by have:=kE h.data;have:=this.2.2.2.2 s hs;omega
theorem LJ(stores:List Pt)(c:Ca)(q:List Req)(m:ByteArray):(XW stores c q m).size=m.size:=by unfold XW BJ jI;rw[gY,gY,gY]
theorem Sj(c:Co)(n:Nat)(hm:c.okM n)(R F S T:AV)(first:Bool):bX C0 116 [.dp 64 0 (mcX c R F S T),vB first] (vB (qJ c first)):=by
 refine bX.intro c0Ok Tryz.func116 rfl rfl (by kernel_rfl) rfl<|cSR<|oR 1 rfl<|rE 1<|cSR<|oR 5 rfl<|rCi rfl (Wl c.bus false (by have:=hm.bus;omega) (λ x hx=>(hm.ok.buso x hx).line))<|oR 1 rfl<|rE 8<|bW<|cSR<|oR 1 rfl<|rE 9<|aW rfl (λ h1=>?_) (λ h1=>?_)
 ·refine cSR<|oR 7 rfl<|rV (vB (decide (((jP c.bus:Nat):Int)<c.conf.slots))) rfl<|oR 1 rfl<|rE 18<|cO ?_;exact fT rfl (dL (by unfold qJ;rw[if_pos h1]))
 ·refine bB<|cSR<|oR 7 rfl<|rW (vI (c.conf.slots - 1)) rfl (okI (wrap_i64 (by have:=mT hm.cf;omega) (by have:=mT hm.cf;omega)))<|rV (vB (decide (((jP c.bus:Nat):Int)<(c.conf.slots - 1)))) rfl<|oR 1 rfl<|rE 19<|cO ?_;exact fT rfl (dL (by unfold qJ;rw[if_neg (by rw[h1];decide)]))
theorem Pg{m addr n:Nat}(h:nK (m:Int) addr (n:Int)=true):addr+n≤m:=by
 unfold nK at h;simp only[aI,aP]at h;omega
theorem Xy(m:ByteArray)(addr n:Nat)(hm:m.size≤1000)(ha:addr≤4294967295)(hn:n≤4):bX C0 150 [.v (.string m),vU addr,vN n] (.tup [.v (.string (if nK (m.size:Int) addr (n:Int)=true then VS m addr n else oC)),vI (if nK (m.size:Int) addr (n:Int)=true then 0 else 1)]):=by
 refine bX.intro c0Ok Tryz.func150 rfl rfl (by kernel_rfl) rfl<|cSR<|oR 2 rfl<|rE 2<|bW<|cSR<|oR 1 rfl<|rV (vN m.size) rfl<|oR 2 rfl<|rCi rfl (PO (m.size:Int) addr (n:Int) omT (BA ha))<|oR 1 rfl<|rE 8<|aW rfl (λ h1=>?_) (λ h1=>?_)
 ·refine cSR<|oR 2 rfl<|rE 10<|cO ?_;have hR: ¬ nK (m.size:Int) addr (n:Int)=true:=by simpa using h1
  exact fT rfl (by rw[if_neg hR,if_neg hR];rfl)
 ·have hle:=Pg (show nK (m.size:Int) addr (n:Int)=true by simpa using h1);refine bB<|cSR<|oR 1 rfl<|rW (vN addr) rfl (okI (bV ha rfl))<|oR 1 rfl<|rE 11<|cSR<|oR 4 rfl ?_;have b1:addr+n≤4294967299:=aH ha hn;refine rW (vN (addr+n)) rfl (okI (bV b1 rfl))<|nW (.v (.string (m.extract addr (addr+n)))) rfl rfl (by refine⟨?_,?_,?_⟩<;>(first|exact aG _|decide|(apply EJ.2;exact omT)))<|oR 2 rfl<|rE 19<|cO ?_;have hR:nK (m.size:Int) addr (n:Int)=true:=by simpa using h1
  exact fT rfl (by rw[if_pos hR,if_pos hR];rfl)
theorem LK(c:Co)(n:Nat)(hm:c.okM n)(R F T:AV)(ck:Bool)(e:Ent)(he:e.ok):bX C0 94 [.dp 64 0 (mcX c R F (.sl 2 (c.stores.map ptL) ck) T),.agg (enL e)] (.v (.string (oF c e))):=by
 refine bX.intro c0Ok Tryz.func94 rfl rfl (by kernel_rfl) rfl<|cSR<|rAl 0 rfl rfl<|oR 1 rfl<|rE 2<|cSR<|oR 20 rfl<|rCi rfl (Zj c.stores c.data c.bus c.mem false ck hm.ok.data hm.d4 hm.d2 (by have:=hm.mem;omega) (by have:=hm.bus;omega) hm.ok.buso (by have:=hm.sto;omega) hm.ok.stoo)<|oR 4 rfl<|rCi rfl (HA e.i)<|rCi rfl (Xy (XW c.stores c.data c.bus c.mem) e.addr (dC e.i.op) (by rw[LJ];have:=hm.mem;omega) he.addr (tC e.i.op))<|oR 5 rfl<|rE 34<|bW<|cRg<|oR 2 rfl<|rE 36<|cO ?_;exact fT rfl rfl
theorem Vs(c:Co)(n:Nat)(hm:c.okM n)(F S T:AV)(ck:Bool)(line:Nat)(hline:line≤4294967295):bX C0 208 [.dp 64 0 (mcX c (.sl 17 (c.rob.map enL) ck) F S T),vU line] (vB (Jm c line)):=by
 refine dc1 (bX.intro c1Ok Tryz.func208 rfl rfl (by kernel_rfl) rfl ?_);refine cSR<|oR 1 rfl<|rE 1<|bW<|cSR<|oR 6 rfl<|rCi rfl (zJ c.data line hm.ok.data hline)<|oR 7 rfl<|rE 15<|cSR<|oR 1 rfl<|rE 16<|aW rfl (λ h1=>?_) (λ h1=>?_)
 ·refine cSR<|oR 1 rfl<|rE 17<|cO ?_;exact fT rfl (dL (by unfold Jm;rw[h1];rfl))
 ·refine bB<|bW<|cSR<|oR 5 rfl<|rW (vN c.rob.length) rfl (bY enL c.rob)<|oR 1 rfl<|rE 23<|bK<|mL (κ:=Nat) (λ k=>⟨slotsF [(1,vU line),(21,vB ((bE c.data line).2.isSome)),(26,.sl 17 (c.rob.map enL) ck),(27,vN c.rob.length),(28,vN k)],heapF [],23⟩) (λ k=>k≤c.rob.length∧(c.rob.take k).any (λ e:Ent=>e.filled&&decide (lineOf e.addr=line))=false) (λ k=>c.rob.length - k) 0 (λ s=>s) (Weak.of_lists (λ s=>s) wT trivial rfl) (⟨aE _,rfl⟩) ?_;intro k hk;have hkn:k≤c.rob.length:=hk.1;have hkB:k≤1000:=by have:=hm.rob;omega
  refine cSR<|rW (vB (decide (k<c.rob.length))) rfl (okB (ltN _ _))<|rE 24<|bW<|aW rfl (λ h2=>?_) (λ h2=>?_)
  ·have h2p:=of_decide_eq_true h2;refine bB<|bW<|bK<|cSR ?_;obtain⟨x,hx⟩:∃ y_,c.rob[k]?=some y_:=⟨_,aA omT⟩;have hxo:=hm.ok.robo x (aB hx);refine rIx (enL x) (.dp 17 0 (enL x)) rfl rfl (iB hx) rfl<|oR 1 rfl<|rAl 26 rfl rfl<|rSt rfl<|rE 28<|cSR<|oR 3 rfl<|gN rfl<|gS rfl id<|kM (x:=vU (lineOf x.addr)) (g:=x.filled) rfl rfl rfl rfl (λ h=>h) rfl rfl rfl (.inl rfl) rfl (λ hg=>sU x.addr hxo.addr)<|gN rfl<|gBS (x:=vB ((lineOf x.addr)==line)) rfl hsT (okB (eqN _ _))<|cV rfl rfl rfl (λ h=>h)<|rE 37<|aW rfl (λ h3=>?_) (λ h3=>?_)
   ·refine cSR<|oR 1 rfl<|rE 38<|cO ?_;have z:=h3;exact fT rfl (dL (by unfold Jm;rw[Ia (f:=(λ e:Ent=>e.filled&&decide (lineOf e.addr=line))) hx (by simpa [pY]using z)];simp))
   ·refine bB<|cRg ?_;have b1:k+1≤1001:=aH hkB (aC 1);refine rW (vN (k+1)) rfl (okI (bV b1 rfl))<|oR 1 rfl<|rE 39 ?_;refine⟨k+1,λ s=>s,Weak.of_lists _ wT trivial rfl,⟨by omega,HZ (f:=(λ e:Ent=>e.filled&&decide (lineOf e.addr=line))) hx (by have z:=h3;simpa [pY]using z) hk.2⟩,by show c.rob.length - (k+1)<c.rob.length - k;omega⟩
  ·have h2p:=aD h2;refine eE<|cSR<|oR 1 rfl<|rE 25<|cO ?_;exact fT rfl (dL (by unfold Jm;rw[h1,Lc (f:=(λ e:Ent=>e.filled&&decide (lineOf e.addr=line))) omT hk.2];rfl))
theorem Xz(c:Co)(n:Nat)(hm:c.okM n)(F S T:AV)(ck:Bool)(i:Nat)(hi:i<c.rob.length):bX C0 109 [.dp 64 0 (mcX c (.sl 17 (c.rob.map enL) ck) F S T),vN i] (vB (BE c i)):=by
 refine dc1 (bX.intro c1Ok Tryz.func109 rfl rfl (by kernel_rfl) rfl ?_);refine cSR<|oR 1 rfl<|rE 1<|cSR<|oR 6 rfl ?_;obtain⟨x,hx⟩:∃ y_,c.rob[i]?=some y_:=⟨_,aA omT⟩;have hxo:=hm.ok.robo x (aB hx);refine rIx (enL x) (.dp 17 0 (enL x)) rfl rfl (iB hx) rfl<|oR 1 rfl<|rAl 9 rfl rfl<|rSt rfl<|rE 11<|bW<|cSR<|oR 2 rfl<|rV (vB (x.is != 0)) rfl<|rE 14<|aW rfl (λ h1=>?_) (λ h1=>?_)
 ·have h1p:=vH h1;refine cSR<|oR 1 rfl<|rE 15<|cO ?_;exact fT rfl (dL (by unfold BE;rw[hx];dsimp only;rw[if_pos h1p]))
 ·have h1p:=vJ h1;refine bB<|cSR<|oR 12 rfl<|rCi rfl (aaL c.conf.mode c.rob ck i hm.rob hm.ok.robo (by have:=hm.rob;omega))<|oR 1 rfl<|rE 28<|cSR<|oR 2 rfl<|rCi rfl (FZ x.i)<|oR 5 rfl<|rE 36<|cSR<|oR 12 rfl<|rCi rfl (Jf c.rob c.r ck i (x.i.rs1) hm.rob hm.ok.robo hm.ok.r (by have:=hm.rob;omega))<|oR 5 rfl<|rE 54<|bW<|cSR<|oR 2 rfl<|rCi rfl (qN x.i)<|rE 57<|bK<|cSR<|rW (vB ((kindOf x.i.op)==3)) rfl (okB (eqN _ _))<|oR 1 rfl<|rE 59<|aW rfl (λ h2=>?_) (λ h2=>?_)
  ·have h2p:=mU h2;refine cSR<|oR 3 rfl<|gN rfl<|gS rfl id<|gN rfl<|sB (x:=vB (cZ ((kY c.rob c.r i x.i.rs1).isSome) (NN c.conf.mode c.rob i) false)) (g:= !x.known) rfl rfl rfl rfl (λ h=>h) rfl rfl (λ hg hc=>by first|(rw[hg,hc];rfl)|simp_all)<|cV rfl rfl rfl (by simp)<|oR 1 rfl<|rE 68<|cO ?_;exact fT rfl (dL (by unfold BE;rw[hx];dsimp only;rw[if_neg omT,if_pos h2p];simp only[pY,cOr,mY]))
  ·have h2p:=mV h2;refine cSR<|rW (vB ((kindOf x.i.op)==4)) rfl (okB (eqN _ _))<|oR 1 rfl<|rE 61<|aW rfl (λ h3=>?_) (λ h3=>?_)
   ·have h3p:=mU h3;refine cSR<|oR 4 rfl<|gN rfl<|cV rfl rfl rfl (λ h=>h)<|oR 1 rfl<|gN rfl<|cV rfl rfl rfl (λ h=>h)<|oR 1 rfl<|rE 71<|cO ?_;exact fT rfl (dL (by unfold BE;rw[hx];dsimp only;rw[if_neg omT,if_neg h2p,if_pos h3p];simp only[pY,cOr,mY]))
   ·have h3p:=mV h3;refine bB<|cSR<|oR 11 rfl<|rCi rfl (Ue c.rob c.r ck i hm.rob hm.ok.robo hm.ok.r (by have:=hm.rob;omega))<|oR 7 rfl<|rE 80<|cSR<|oR 2 rfl<|gN rfl<|cV rfl rfl rfl (λ h=>h)<|oR 1 rfl<|rE 85<|cO ?_;exact fT rfl (dL (by unfold BE;rw[hx];dsimp only;rw[if_neg omT,if_neg h2p,if_neg h3p];simp only[pY,cOr,mY]))
theorem pV.frameB{P:Program}{G:Nat→Option (List AV)}{f:FuncId}{args:List AV}{b0 b1:Blk}{L:List (Nat×Blk)}{s:Nat}{r:AV}(H:pV P G f args (heapF ((0,b0)::L)) s (λ x h'=>x=r∧h'=heapF ((0,b1)::L)))(ρ:Nat→Nat)(K:AH)(s2:Nat)(hfull:CV (heapF ((0,b0)::L)) s=true)(hL:FrL ρ K s s2 ((0,b0)::L))(hi:Tc ρ s=true)(ha:mJ s args=true)(hr:eL r=true)(hb:qF s b1=true):
  pV P G f (Au ρ args) K s2 (λ x h'=>x=r∧h'=upd K (ρ 0) (some (CO ρ b1))):=by
 have hs:0<s:=aO hL.1.2.1;refine H.frameL ρ K s2 hfull hL hi ha _ λ r' h' hP=>?_;obtain⟨rfl,rfl⟩:=hP;refine⟨_,⟨xX _ _ hr,rfl⟩,λ y blk hy=>?_⟩;by_cases he:y=ρ 0
 ·subst he;rw[cY]at hy;injection hy with hy;exact .inl ⟨0,b1,rfl,(qW ρ omT).symm,by rw[←hy,xC ρ s s2 b1 hb]⟩
 ·rw[cD _ _ he]at hy;by_cases hx:∃ x,x<s∧ρ x=y
  ·obtain⟨x,hxs,rfl⟩:=hx;have hx0:x≠0:=λ e=>he (by rw[e]);obtain⟨blk0,hb0⟩:=Da.1 (tN hfull x hxs);have hk:=hL.get x blk0 hb0;rw[hk.2.2.2]at hy;injection hy with hy;refine .inl ⟨x,blk0,?_,(qW ρ omT).symm,?_⟩
   ·have:Nat.beq 0 x=false:=by rw[←eJ];exact λ e=>hx0 (aK e).symm
    simp only[heapF,this]at hb0⊢;exact hb0
   ·rw[←hy];exact (xC ρ s s2 blk0 hk.2.2.1).symm
  ·exact .inr ⟨hy,λ x hxs e=>hx ⟨x,hxs,e⟩⟩
theorem xP{c:Co}{line:Nat}(h:(gC c.data c.bus c.mem line (kQ c.conf c.asked)).2.2=true):eO c line={c with data:=(gC c.data c.bus c.mem line (kQ c.conf c.asked)).1,bus:=(gC c.data c.bus c.mem line (kQ c.conf c.asked)).2.1,asked:=wrap64 (c.asked+1)}:=by unfold eO;generalize gC c.data c.bus c.mem line (kQ c.conf c.asked)=t at h⊢;obtain⟨d,q,a⟩:=t;dsimp only at h;subst h;rfl
theorem Af{c:Co}{line:Nat}(h:(gC c.data c.bus c.mem line (kQ c.conf c.asked)).2.2=false):eO c line={c with data:=(gC c.data c.bus c.mem line (kQ c.conf c.asked)).1,bus:=(gC c.data c.bus c.mem line (kQ c.conf c.asked)).2.1}:=by unfold eO;generalize gC c.data c.bus c.mem line (kQ c.conf c.asked)=t at h⊢;obtain⟨d,q,a⟩:=t;dsimp only at h;subst h;rfl
theorem XB(c:Co)(n:Nat)(hm:c.okM n)(kind:Int)(line:Nat)(data:ByteArray)(hline:line≤4294967295)(kR:Bool)(xR:List (List AV))(kF:Bool)(xF:List (List AV))(kS:Bool)(xS:List (List AV))(kT:Bool)(xT:List (List AV)):pV C0.P C0.G 117 [.ptr 0 0,vI kind,vU line,.v (.string data)] (heapF [(0,.box (mcX c (.sl 17 xR kR) (.sl 2 xF kF) (.sl 2 xS kS) (.sl 9 xT kT)))]) 1 (λ x h'=>x=.tup []∧h'=heapF [(0,.box (mcX (iO c kind line data) (.sl 17 xR kR) (.sl 2 xF kF) (.sl 2 xS kS) (.sl 9 xT kT)))]):=by
 refine HCall.intro (C:=C1) (s:=1) c1Ok.at Tryz.func117 rfl rfl (by kernel_rfl) rfl rfl<|cSR<|oR 18 rfl<|rCi rfl (Eb c.conf c.asked hm.conf hm.ok.asked)<|oR 1 rfl<|rCi rfl (LT c.bus kind line (kQ c.conf c.asked) data false (by have:=hm.bus;omega) hm.ok.buso hline)<|oR 3 rfl<|rSt rfl<|rE 26<|cRg<|oR 5 rfl<|rW (vI (wrap64 (c.asked+1))) rfl (okI (w64 _))<|oR 3 rfl<|rSx 0 (mcX ({c with bus:=xZ c.bus kind line (kQ c.conf c.asked) data,asked:=wrap64 (c.asked+1)}:Co) (.sl 17 xR kR) (.sl 2 xF kF) (.sl 2 xS kS) (.sl 9 xT kT)) rfl rfl rfl<|rE 36 ?_;exact pG (rs:=[]) rfl (σ:=λ z=>z) ⟨rfl,rfl⟩ rfl (cE (λ z=>z) rfl rfl wH rfl)
theorem Zd(c:Co)(n:Nat)(hm:c.okM n)(kind:Int)(line:Nat)(data:ByteArray)(hline:line≤4294967295)(lR nR:Nat)(kR:Bool)(rR:List (List AV))(kF:Bool)(xF:List (List AV))(kS:Bool)(xS:List (List AV))(kT:Bool)(xT:List (List AV)):pV C0.P C0.G 117 [.ptr 0 0,vI kind,vU line,.v (.string data)] (heapF [(0,.box (mcX c (.osl 1 lR nR kR) (.sl 2 xF kF) (.sl 2 xS kS) (.sl 9 xT kT))),(1,.arr rR 17)]) 2 (λ x h'=>x=.tup []∧h'=heapF [(0,.box (mcX (iO c kind line data) (.osl 1 lR nR kR) (.sl 2 xF kF) (.sl 2 xS kS) (.sl 9 xT kT))),(1,.arr rR 17)]):=by
 refine HCall.intro (C:=C1) (s:=2) c1Ok.at Tryz.func117 rfl rfl (by kernel_rfl) rfl rfl<|cSR<|oR 18 rfl<|rCi rfl (Eb c.conf c.asked hm.conf hm.ok.asked)<|oR 1 rfl<|rCi rfl (LT c.bus kind line (kQ c.conf c.asked) data false (by have:=hm.bus;omega) hm.ok.buso hline)<|oR 3 rfl<|rSt rfl<|rE 27<|cRg<|oR 5 rfl<|rW (vI (wrap64 (c.asked+1))) rfl (okI (w64 _))<|oR 3 rfl<|rSx 0 (mcX ({c with bus:=xZ c.bus kind line (kQ c.conf c.asked) data,asked:=wrap64 (c.asked+1)}:Co) (.osl 1 lR nR kR) (.sl 2 xF kF) (.sl 2 xS kS) (.sl 9 xT kT)) rfl rfl rfl<|rE 37 ?_;exact pG (rs:=[]) rfl (σ:=λ z=>z) ⟨rfl,rfl⟩ rfl (cE (λ z=>z) rfl rfl wH rfl)
theorem Ze(c:Co)(n:Nat)(hm:c.okM n)(kind:Int)(line:Nat)(data:ByteArray)(hline:line≤4294967295)(kR:Bool)(xR:List (List AV))(lF nF:Nat)(kF:Bool)(rF:List (List AV))(kS:Bool)(xS:List (List AV))(kT:Bool)(xT:List (List AV)):pV C0.P C0.G 117 [.ptr 0 0,vI kind,vU line,.v (.string data)] (heapF [(0,.box (mcX c (.sl 17 xR kR) (.osl 1 lF nF kF) (.sl 2 xS kS) (.sl 9 xT kT))),(1,.arr rF 2)]) 2 (λ x h'=>x=.tup []∧h'=heapF [(0,.box (mcX (iO c kind line data) (.sl 17 xR kR) (.osl 1 lF nF kF) (.sl 2 xS kS) (.sl 9 xT kT))),(1,.arr rF 2)]):=by
 refine HCall.intro (C:=C1) (s:=2) c1Ok.at Tryz.func117 rfl rfl (by kernel_rfl) rfl rfl<|cSR<|oR 18 rfl<|rCi rfl (Eb c.conf c.asked hm.conf hm.ok.asked)<|oR 1 rfl<|rCi rfl (LT c.bus kind line (kQ c.conf c.asked) data false (by have:=hm.bus;omega) hm.ok.buso hline)<|oR 3 rfl<|rSt rfl<|rE 27<|cRg<|oR 5 rfl<|rW (vI (wrap64 (c.asked+1))) rfl (okI (w64 _))<|oR 3 rfl<|rSx 0 (mcX ({c with bus:=xZ c.bus kind line (kQ c.conf c.asked) data,asked:=wrap64 (c.asked+1)}:Co) (.sl 17 xR kR) (.osl 1 lF nF kF) (.sl 2 xS kS) (.sl 9 xT kT)) rfl rfl rfl<|rE 37 ?_;exact pG (rs:=[]) rfl (σ:=λ z=>z) ⟨rfl,rfl⟩ rfl (cE (λ z=>z) rfl rfl wH rfl)
theorem aaK(c:Co)(n:Nat)(hm:c.okM n)(line:Nat)(hline:line≤4294967295)(kR:Bool)(xR:List (List AV))(kF:Bool)(xF:List (List AV))(kS:Bool)(xS:List (List AV))(kT:Bool)(xT:List (List AV)):pV C0.P C0.G 96 [.ptr 0 0,vU line] (heapF [(0,.box (mcX c (.sl 17 xR kR) (.sl 2 xF kF) (.sl 2 xS kS) (.sl 9 xT kT)))]) 1 (λ x h'=>x=.tup []∧h'=heapF [(0,.box (mcX (eO c line) (.sl 17 xR kR) (.sl 2 xF kF) (.sl 2 xS kS) (.sl 9 xT kT)))]):=by
 refine HCall.intro (C:=C1) (s:=1) c1Ok.at Tryz.func96 rfl rfl (by kernel_rfl) rfl rfl<|cSR<|oR 1 rfl<|rE 2<|cSR<|oR 28 rfl<|rCi rfl (Eb c.conf c.asked hm.conf hm.ok.asked)<|rCi rfl (LP c.data c.bus c.mem line (kQ c.conf c.asked) hm.ok.data (by have:=hm.bus;omega) hm.ok.buso (by have:=hm.mem;omega) hline)<|oR 7 rfl<|rSt rfl<|oR 3 rfl<|rSx 0 (mcX ({c with data:=(gC c.data c.bus c.mem line (kQ c.conf c.asked)).1,bus:=(gC c.data c.bus c.mem line (kQ c.conf c.asked)).2.1}:Co) (.sl 17 xR kR) (.sl 2 xF kF) (.sl 2 xS kS) (.sl 9 xT kT)) rfl rfl rfl<|oR 1 rfl<|rE 45 ?_;refine cSR<|oR 1 rfl<|rE 46 ?_;refine aW rfl (λ h1=>?_) (λ h1=>?_)
 ·refine cRg<|oR 5 rfl<|rW (vI (wrap64 (c.asked+1))) rfl (okI (w64 _))<|oR 3 rfl<|rSx 0 (mcX ({c with data:=(gC c.data c.bus c.mem line (kQ c.conf c.asked)).1,bus:=(gC c.data c.bus c.mem line (kQ c.conf c.asked)).2.1,asked:=wrap64 (c.asked+1)}:Co) (.sl 17 xR kR) (.sl 2 xF kF) (.sl 2 xS kS) (.sl 9 xT kT)) rfl rfl rfl<|rE 56 ?_;rw[xP h1];exact pG (rs:=[]) rfl (σ:=λ z=>z) ⟨rfl,rfl⟩ rfl (cE (λ z=>z) rfl rfl wH rfl)
 ·refine bB ?_;rw[Af h1];exact pG (rs:=[]) rfl (σ:=λ z=>z) ⟨rfl,rfl⟩ rfl (cE (λ z=>z) rfl rfl wH rfl)
theorem Zf(c:Co)(n:Nat)(hm:c.okM n)(line:Nat)(hline:line≤4294967295)(lR nR:Nat)(kR:Bool)(rR:List (List AV))(kF:Bool)(xF:List (List AV))(kS:Bool)(xS:List (List AV))(kT:Bool)(xT:List (List AV)):pV C0.P C0.G 96 [.ptr 0 0,vU line] (heapF [(0,.box (mcX c (.osl 1 lR nR kR) (.sl 2 xF kF) (.sl 2 xS kS) (.sl 9 xT kT))),(1,.arr rR 17)]) 2 (λ x h'=>x=.tup []∧h'=heapF [(0,.box (mcX (eO c line) (.osl 1 lR nR kR) (.sl 2 xF kF) (.sl 2 xS kS) (.sl 9 xT kT))),(1,.arr rR 17)]):=by
 refine HCall.intro (C:=C1) (s:=2) c1Ok.at Tryz.func96 rfl rfl (by kernel_rfl) rfl rfl<|cSR<|oR 1 rfl<|rE 3<|cSR<|oR 28 rfl<|rCi rfl (Eb c.conf c.asked hm.conf hm.ok.asked)<|rCi rfl (LP c.data c.bus c.mem line (kQ c.conf c.asked) hm.ok.data (by have:=hm.bus;omega) hm.ok.buso (by have:=hm.mem;omega) hline)<|oR 7 rfl<|rSt rfl<|oR 3 rfl<|rSx 0 (mcX ({c with data:=(gC c.data c.bus c.mem line (kQ c.conf c.asked)).1,bus:=(gC c.data c.bus c.mem line (kQ c.conf c.asked)).2.1}:Co) (.osl 1 lR nR kR) (.sl 2 xF kF) (.sl 2 xS kS) (.sl 9 xT kT)) rfl rfl rfl<|oR 1 rfl<|rE 46 ?_;refine cSR<|oR 1 rfl<|rE 47 ?_;refine aW rfl (λ h1=>?_) (λ h1=>?_)
 ·refine cRg<|oR 5 rfl<|rW (vI (wrap64 (c.asked+1))) rfl (okI (w64 _))<|oR 3 rfl<|rSx 0 (mcX ({c with data:=(gC c.data c.bus c.mem line (kQ c.conf c.asked)).1,bus:=(gC c.data c.bus c.mem line (kQ c.conf c.asked)).2.1,asked:=wrap64 (c.asked+1)}:Co) (.osl 1 lR nR kR) (.sl 2 xF kF) (.sl 2 xS kS) (.sl 9 xT kT)) rfl rfl rfl<|rE 57 ?_;rw[xP h1];exact pG (rs:=[]) rfl (σ:=λ z=>z) ⟨rfl,rfl⟩ rfl (cE (λ z=>z) rfl rfl wH rfl)
 ·refine bB ?_;rw[Af h1];exact pG (rs:=[]) rfl (σ:=λ z=>z) ⟨rfl,rfl⟩ rfl (cE (λ z=>z) rfl rfl wH rfl)
theorem XC(c:Co)(n:Nat)(hm:c.okM n)(line:Nat)(hline:line≤4294967295)(lR nR:Nat)(kR:Bool)(rR:List (List AV))(kF:Bool)(xF:List (List AV))(kS:Bool)(xS:List (List AV))(lT nT:Nat)(kT:Bool)(rT:List (List AV)):pV C0.P C0.G 96 [.ptr 0 0,vU line] (heapF [(0,.box (mcX c (.osl 1 lR nR kR) (.sl 2 xF kF) (.sl 2 xS kS) (.osl 2 lT nT kT))),(1,.arr rR 17),(2,.arr rT 9)]) 3 (λ x h'=>x=.tup []∧h'=heapF [(0,.box (mcX (eO c line) (.osl 1 lR nR kR) (.sl 2 xF kF) (.sl 2 xS kS) (.osl 2 lT nT kT))),(1,.arr rR 17),(2,.arr rT 9)]):=by
 refine HCall.intro (C:=C1) (s:=3) c1Ok.at Tryz.func96 rfl rfl (by kernel_rfl) rfl rfl<|cSR<|oR 1 rfl<|rE 4<|cSR<|oR 28 rfl<|rCi rfl (Eb c.conf c.asked hm.conf hm.ok.asked)<|rCi rfl (LP c.data c.bus c.mem line (kQ c.conf c.asked) hm.ok.data (by have:=hm.bus;omega) hm.ok.buso (by have:=hm.mem;omega) hline)<|oR 7 rfl<|rSt rfl<|oR 3 rfl<|rSx 0 (mcX ({c with data:=(gC c.data c.bus c.mem line (kQ c.conf c.asked)).1,bus:=(gC c.data c.bus c.mem line (kQ c.conf c.asked)).2.1}:Co) (.osl 1 lR nR kR) (.sl 2 xF kF) (.sl 2 xS kS) (.osl 2 lT nT kT)) rfl rfl rfl<|oR 1 rfl<|rE 47 ?_;refine cSR<|oR 1 rfl<|rE 48 ?_;refine aW rfl (λ h1=>?_) (λ h1=>?_)
 ·refine cRg<|oR 5 rfl<|rW (vI (wrap64 (c.asked+1))) rfl (okI (w64 _))<|oR 3 rfl<|rSx 0 (mcX ({c with data:=(gC c.data c.bus c.mem line (kQ c.conf c.asked)).1,bus:=(gC c.data c.bus c.mem line (kQ c.conf c.asked)).2.1,asked:=wrap64 (c.asked+1)}:Co) (.osl 1 lR nR kR) (.sl 2 xF kF) (.sl 2 xS kS) (.osl 2 lT nT kT)) rfl rfl rfl<|rE 58 ?_;rw[xP h1];exact pG (rs:=[]) rfl (σ:=λ z=>z) ⟨rfl,rfl⟩ rfl (cE (λ z=>z) rfl rfl wH rfl)
 ·refine bB ?_;rw[Af h1];exact pG (rs:=[]) rfl (σ:=λ z=>z) ⟨rfl,rfl⟩ rfl (cE (λ z=>z) rfl rfl wH rfl)
theorem Vt(c:Co)(n:Nat)(hm:c.okM n)(line:Nat)(hline:line≤4294967295)(lR nR:Nat)(kR:Bool)(rR:List (List AV))(kF:Bool)(xF:List (List AV))(lS nS:Nat)(kS:Bool)(rS:List (List AV))(lT nT:Nat)(kT:Bool)(rT:List (List AV)):pV C0.P C0.G 96 [.ptr 0 0,vU line] (heapF [(0,.box (mcX c (.osl 1 lR nR kR) (.sl 2 xF kF) (.osl 2 lS nS kS) (.osl 3 lT nT kT))),(1,.arr rR 17),(2,.arr rS 2),(3,.arr rT 9)]) 4 (λ x h'=>x=.tup []∧h'=heapF [(0,.box (mcX (eO c line) (.osl 1 lR nR kR) (.sl 2 xF kF) (.osl 2 lS nS kS) (.osl 3 lT nT kT))),(1,.arr rR 17),(2,.arr rS 2),(3,.arr rT 9)]):=by
 refine HCall.intro (C:=C1) (s:=4) c1Ok.at Tryz.func96 rfl rfl (by kernel_rfl) rfl rfl<|cSR<|oR 1 rfl<|rE 5<|cSR<|oR 28 rfl<|rCi rfl (Eb c.conf c.asked hm.conf hm.ok.asked)<|rCi rfl (LP c.data c.bus c.mem line (kQ c.conf c.asked) hm.ok.data (by have:=hm.bus;omega) hm.ok.buso (by have:=hm.mem;omega) hline)<|oR 7 rfl<|rSt rfl<|oR 3 rfl<|rSx 0 (mcX ({c with data:=(gC c.data c.bus c.mem line (kQ c.conf c.asked)).1,bus:=(gC c.data c.bus c.mem line (kQ c.conf c.asked)).2.1}:Co) (.osl 1 lR nR kR) (.sl 2 xF kF) (.osl 2 lS nS kS) (.osl 3 lT nT kT)) rfl rfl rfl<|oR 1 rfl<|rE 48 ?_;refine cSR<|oR 1 rfl<|rE 49 ?_;refine aW rfl (λ h1=>?_) (λ h1=>?_)
 ·refine cRg<|oR 5 rfl<|rW (vI (wrap64 (c.asked+1))) rfl (okI (w64 _))<|oR 3 rfl<|rSx 0 (mcX ({c with data:=(gC c.data c.bus c.mem line (kQ c.conf c.asked)).1,bus:=(gC c.data c.bus c.mem line (kQ c.conf c.asked)).2.1,asked:=wrap64 (c.asked+1)}:Co) (.osl 1 lR nR kR) (.sl 2 xF kF) (.osl 2 lS nS kS) (.osl 3 lT nT kT)) rfl rfl rfl<|rE 59 ?_;rw[xP h1];exact pG (rs:=[]) rfl (σ:=λ z=>z) ⟨rfl,rfl⟩ rfl (cE (λ z=>z) rfl rfl wH rfl)
 ·refine bB ?_;rw[Af h1];exact pG (rs:=[]) rfl (σ:=λ z=>z) ⟨rfl,rfl⟩ rfl (cE (λ z=>z) rfl rfl wH rfl)
theorem aaE(e:Ent)(he:e.ok):bX C0 98 [.agg (enL e)] (.agg (enL (goE e))):=by
 refine bX.intro c0Ok Tryz.func98 rfl rfl (by kernel_rfl) rfl<|cSR<|rAl 0 rfl rfl<|rAl 1 rfl rfl<|rE 2<|bW<|cSR<|oR 2 rfl<|rV (vB (e.is != 1)) rfl<|rE 5<|aW rfl (λ h1=>?_) (λ h1=>?_)
 ·refine cSR<|oR 1 rfl<|rSt rfl<|rE 7<|cO ?_;replace h1:=sP h1;refine fG rfl rcT rfl (oT (e:=(⟨e.no,e.pc,⟨e.i.op,e.i.rd,e.i.rs1,e.i.rs2,e.i.imm⟩,e.guess,e.is,e.left,e.value,e.next,e.addr,e.halt,e.took,e.known,e.filled⟩:Ent)) ?_);simp[w64,goE,h1]<;>(intros;simp_all)
 ·refine bB<|cSR<|oR 2 rfl<|rV (vI (IntKind.wrap .i64 (e.left - 1))) rfl<|oR 1 rfl<|rSt rfl<|rE 10<|bW<|cSR<|oR 2 rfl<|rV (vB (decide ((IntKind.wrap .i64 (e.left - 1))≤0))) rfl<|rE 13<|aW rfl (λ h2=>?_) (λ h2=>?_)
  ·refine cSR<|oR 1 rfl<|rSt rfl<|rE 15<|cSR<|oR 1 rfl<|rSt rfl<|rE 17<|cSR<|oR 2 rfl<|rCi rfl (qN e.i)<|rW (vB ((kindOf e.i.op)==5)) rfl (okB (eqN _ _))<|oR 1 rfl<|gN rfl<|gS rfl id<|gBS (x:=vB (e.halt==0)) rfl id rfl<|cV rfl rfl rfl (λ h=>h)<|rE 26<|aW rfl (λ h3=>?_) (λ h3=>?_)
   ·refine cRg<|oR 1 rfl<|rSt rfl<|rE 28<|cSR<|oR 1 rfl<|rSt rfl<|rE 30<|cO ?_;replace h1:=sP h1;replace h2:=sP h2;replace h3:=sP h3;refine fG rfl rcT rfl (oT (e:=(⟨e.no,e.pc,⟨e.i.op,e.i.rd,e.i.rs1,e.i.rs2,e.i.imm⟩,e.guess,3,0,e.value,e.next,e.addr,e.halt,e.took,true,e.filled⟩:Ent)) ?_);simp[w64,goE,h1,h2,h3]<;>(intros;simp_all)
   ·refine bB<|cSR<|oR 1 rfl<|rSt rfl<|rE 28<|cO ?_;replace h1:=sP h1;replace h2:=sP h2;replace h3:=sP h3;refine fG rfl rcT rfl (oT (e:=(⟨e.no,e.pc,⟨e.i.op,e.i.rd,e.i.rs1,e.i.rs2,e.i.imm⟩,e.guess,3,0,e.value,e.next,e.addr,e.halt,e.took,e.known,e.filled⟩:Ent)) ?_);simp[w64,goE,h1,h2,h3]<;>(intros;simp_all)
  ·refine bB<|cSR<|oR 1 rfl<|rSt rfl<|rE 15<|cO ?_;replace h1:=sP h1;replace h2:=sP h2;refine fG rfl rcT rfl (oT (e:=(⟨e.no,e.pc,⟨e.i.op,e.i.rd,e.i.rs1,e.i.rs2,e.i.imm⟩,e.guess,e.is,IntKind.wrap .i64 (e.left - 1),e.value,e.next,e.addr,e.halt,e.took,e.known,e.filled⟩:Ent)) ?_);simp[w64,goE,h1,h2]<;>(intros;simp_all)
theorem Wm(e:Ent)(a b:Nat)(he:e.ok)(ha:a≤4294967295)(hb:b≤4294967295):bX C0 168 [.agg (enL e),vU a,vU b] (.agg (enL (oU e a b))):=by
 refine bX.intro c0Ok Tryz.func168 rfl rfl (by kernel_rfl) rfl<|cSR<|rAl 0 rfl rfl<|rAl 1 rfl rfl<|rE 2<|cSR<|oR 2 rfl<|rCi rfl (qN e.i)<|oR 1 rfl<|rE 6<|bW<|cSR<|oR 2 rfl<|rV (vB (e.is != 0)) rfl<|oR 1 rfl<|gN rfl<|gBS (x:=vB ((kindOf e.i.op)==3)) rfl id (okB (eqN _ _))<|cV rfl rfl rfl (by simp)<|oR 1 rfl<|gN rfl<|gBS (x:=vB ((kindOf e.i.op)==4)) rfl id (okB (eqN _ _))<|cV rfl rfl rfl (by simp)<|rE 17<|aW rfl (λ h1=>?_) (λ h1=>?_)
 ·refine cSR<|oR 1 rfl<|rSt rfl<|rE 19<|cO ?_;replace h1:=sP h1;refine fG rfl rcT rfl (oT (e:=(⟨e.no,e.pc,⟨e.i.op,e.i.rd,e.i.rs1,e.i.rs2,e.i.imm⟩,e.guess,e.is,e.left,e.value,e.next,e.addr,e.halt,e.took,e.known,e.filled⟩:Ent)) ?_);simp[w64,oU,tJ,up4,h1]<;>(intros;simp_all)
 ·refine bB<|cSR<|oR 1 rfl<|rSt rfl<|rE 19<|cSR<|oR 1 rfl<|rSt rfl<|rE 21<|bW<|cSR<|oR 2 rfl<|rCi rfl (HC e.i)<|rV (vB ((wr e.i) != 0)) rfl<|rE 25<|aW rfl (λ h2=>?_) (λ h2=>?_)
  ·refine cRg<|oR 6 rfl<|rCi rfl (XZ e.i e.pc a b (BA he.imm) (BA he.pc) (BA ha) (BA hb))<|oR 1 rfl<|rSt rfl<|rE 34<|cSR<|oR 2 rfl ?_;refine rV (vU ((e.pc+4) % 4294967296)) rfl<|oR 1 rfl<|rSt rfl<|rE 39<|cSR<|oR 1 rfl<|rSt rfl<|rE 41<|bW<|cSR<|oR 1 rfl<|rE 42<|bK<|bW<|cRg<|rW (vB ((kindOf e.i.op)==1)) rfl (okB (eqN _ _))<|oR 1 rfl<|rE 44<|aW rfl (λ h3=>?_) (λ h3=>?_)
   ·refine cRg<|oR 1 rfl<|rSt rfl<|rE 46<|cSR<|oR 1 rfl<|rSt rfl<|rE 48<|cO ?_;replace h1:=sP h1;replace h2:=sP h2;replace h3:=sP h3;refine fG rfl rcT rfl (oT (e:=(⟨e.no,e.pc,⟨e.i.op,e.i.rd,e.i.rs1,e.i.rs2,e.i.imm⟩,e.guess,1,3,PQ e.i.op e.i.imm e.pc a b,(e.pc+4) % 4294967296,e.addr,e.halt,e.took,e.known,e.filled⟩:Ent)) ?_);simp[w64,oU,tJ,up4,h1,h2,h3]<;>(intros;simp_all)
   ·refine cSR<|rW (vB ((kindOf e.i.op)==2)) rfl (okB (eqN _ _))<|oR 1 rfl<|rE 46<|aW rfl (λ h4=>?_) (λ h4=>?_)
    ·refine cSR<|oR 5 rfl<|rCi rfl (Ya e.i.op a b (BA ha) (BA hb))<|oR 1 rfl<|rSt rfl<|rE 54<|cRg<|oR 3 rfl<|rSt rfl<|rE 58<|cSR<|oR 1 rfl<|rSt rfl<|rE 60<|cO ?_;replace h1:=sP h1;replace h2:=sP h2;replace h3:=sP h3;replace h4:=sP h4;refine fG rfl rcT rfl (oT (e:=(⟨e.no,e.pc,⟨e.i.op,e.i.rd,e.i.rs1,e.i.rs2,e.i.imm⟩,e.guess,1,(yO e.i.op a b:Int),PQ e.i.op e.i.imm e.pc a b,(e.pc+4) % 4294967296,e.addr,e.halt,(yO e.i.op a b:Int),e.known,e.filled⟩:Ent)) ?_);simp[w64,oU,tJ,up4,h1,h2,h3,h4]<;>(intros;simp_all)
    ·refine cSR<|rW (vB ((kindOf e.i.op)==5)) rfl (okB (eqN _ _))<|oR 1 rfl<|rE 48<|aW rfl (λ h5=>?_) (λ h5=>?_)
     ·refine cSR<|oR 6 rfl<|rCi rfl (PN e.i e.pc a b (BA he.imm) (BA he.pc) (BA ha) (BA hb))<|oR 5 rfl<|rE 60<|cSR<|oR 1 rfl<|rE 61<|aW rfl (λ h6=>?_) (λ h6=>?_)
      ·refine cRg<|oR 2 rfl<|rSt rfl<|rE 64<|cSR<|oR 1 rfl<|rSt rfl<|rE 66<|cO ?_;replace h1:=sP h1;replace h2:=sP h2;replace h3:=sP h3;replace h4:=sP h4;replace h5:=sP h5;replace h6:=sP h6;refine fG rfl rcT rfl (oT (e:=(⟨e.no,e.pc,⟨e.i.op,e.i.rd,e.i.rs1,e.i.rs2,e.i.imm⟩,e.guess,1,1,PQ e.i.op e.i.imm e.pc a b,wF e.i.op e.i.imm e.pc a b,e.addr,e.halt,e.took,e.known,e.filled⟩:Ent)) ?_);simp[w64,oU,tJ,up4,h1,h2,h3,h4,h5,h6]<;>(intros;simp_all)
      ·refine cSR<|oR 1 rfl<|rSt rfl<|rE 63<|cRg<|oR 1 rfl<|rSt rfl<|rE 65<|cSR<|oR 1 rfl<|rSt rfl<|rE 67<|cO ?_;replace h1:=sP h1;replace h2:=sP h2;replace h3:=sP h3;replace h4:=sP h4;replace h5:=sP h5;replace h6:=sP h6;refine fG rfl rcT rfl (oT (e:=(⟨e.no,e.pc,⟨e.i.op,e.i.rd,e.i.rs1,e.i.rs2,e.i.imm⟩,e.guess,1,1,0,(e.pc+4) % 4294967296,e.addr,3,e.took,e.known,e.filled⟩:Ent)) ?_);simp[w64,oU,tJ,up4,h1,h2,h3,h4,h5,h6]<;>(intros;simp_all)
     ·refine bB<|cSR<|oR 1 rfl<|rSt rfl<|rE 50<|cO ?_;replace h1:=sP h1;replace h2:=sP h2;replace h3:=sP h3;replace h4:=sP h4;replace h5:=sP h5;refine fG rfl rcT rfl (oT (e:=(⟨e.no,e.pc,⟨e.i.op,e.i.rd,e.i.rs1,e.i.rs2,e.i.imm⟩,e.guess,1,1,PQ e.i.op e.i.imm e.pc a b,(e.pc+4) % 4294967296,e.addr,e.halt,e.took,e.known,e.filled⟩:Ent)) ?_);simp[w64,oU,tJ,up4,h1,h2,h3,h4,h5]<;>(intros;simp_all)
  ·refine bB<|cSR<|oR 2 rfl ?_;refine rV (vU ((e.pc+4) % 4294967296)) rfl<|oR 1 rfl<|rSt rfl<|rE 30<|cSR<|oR 1 rfl<|rSt rfl<|rE 32<|bW<|cSR<|oR 1 rfl<|rE 33<|bK<|bW<|cRg<|rW (vB ((kindOf e.i.op)==1)) rfl (okB (eqN _ _))<|oR 1 rfl<|rE 35<|aW rfl (λ h7=>?_) (λ h7=>?_)
   ·refine cRg<|oR 1 rfl<|rSt rfl<|rE 37<|cSR<|oR 1 rfl<|rSt rfl<|rE 39<|cO ?_;replace h1:=sP h1;replace h2:=sP h2;replace h7:=sP h7;refine fG rfl rcT rfl (oT (e:=(⟨e.no,e.pc,⟨e.i.op,e.i.rd,e.i.rs1,e.i.rs2,e.i.imm⟩,e.guess,1,3,0,(e.pc+4) % 4294967296,e.addr,e.halt,e.took,e.known,e.filled⟩:Ent)) ?_);simp[w64,oU,tJ,up4,h1,h2,h7]<;>(intros;simp_all)
   ·refine cSR<|rW (vB ((kindOf e.i.op)==2)) rfl (okB (eqN _ _))<|oR 1 rfl<|rE 37<|aW rfl (λ h8=>?_) (λ h8=>?_)
    ·refine cSR<|oR 5 rfl<|rCi rfl (Ya e.i.op a b (BA ha) (BA hb))<|oR 1 rfl<|rSt rfl<|rE 45<|cRg<|oR 3 rfl<|rSt rfl<|rE 49<|cSR<|oR 1 rfl<|rSt rfl<|rE 51<|cO ?_;replace h1:=sP h1;replace h2:=sP h2;replace h7:=sP h7;replace h8:=sP h8;refine fG rfl rcT rfl (oT (e:=(⟨e.no,e.pc,⟨e.i.op,e.i.rd,e.i.rs1,e.i.rs2,e.i.imm⟩,e.guess,1,(yO e.i.op a b:Int),0,(e.pc+4) % 4294967296,e.addr,e.halt,(yO e.i.op a b:Int),e.known,e.filled⟩:Ent)) ?_);simp[w64,oU,tJ,up4,h1,h2,h7,h8]<;>(intros;simp_all)
    ·refine cSR<|rW (vB ((kindOf e.i.op)==5)) rfl (okB (eqN _ _))<|oR 1 rfl<|rE 39<|aW rfl (λ h9=>?_) (λ h9=>?_)
     ·refine cSR<|oR 6 rfl<|rCi rfl (PN e.i e.pc a b (BA he.imm) (BA he.pc) (BA ha) (BA hb))<|oR 5 rfl<|rE 51<|cSR<|oR 1 rfl<|rE 52<|aW rfl (λ h10=>?_) (λ h10=>?_)
      ·refine cRg<|oR 2 rfl<|rSt rfl<|rE 55<|cSR<|oR 1 rfl<|rSt rfl<|rE 57<|cO ?_;replace h1:=sP h1;replace h2:=sP h2;replace h7:=sP h7;replace h8:=sP h8;replace h9:=sP h9;replace h10:=sP h10;refine fG rfl rcT rfl (oT (e:=(⟨e.no,e.pc,⟨e.i.op,e.i.rd,e.i.rs1,e.i.rs2,e.i.imm⟩,e.guess,1,1,0,wF e.i.op e.i.imm e.pc a b,e.addr,e.halt,e.took,e.known,e.filled⟩:Ent)) ?_);simp[w64,oU,tJ,up4,h1,h2,h7,h8,h9,h10]<;>(intros;simp_all)
      ·refine cSR<|oR 1 rfl<|rSt rfl<|rE 54<|cRg<|oR 1 rfl<|rSt rfl<|rE 56<|cSR<|oR 1 rfl<|rSt rfl<|rE 58<|cO ?_;replace h1:=sP h1;replace h2:=sP h2;replace h7:=sP h7;replace h8:=sP h8;replace h9:=sP h9;replace h10:=sP h10;refine fG rfl rcT rfl (oT (e:=(⟨e.no,e.pc,⟨e.i.op,e.i.rd,e.i.rs1,e.i.rs2,e.i.imm⟩,e.guess,1,1,0,(e.pc+4) % 4294967296,e.addr,3,e.took,e.known,e.filled⟩:Ent)) ?_);simp[w64,oU,tJ,up4,h1,h2,h7,h8,h9,h10]<;>(intros;simp_all)
     ·refine bB<|cSR<|oR 1 rfl<|rSt rfl<|rE 41<|cO ?_;replace h1:=sP h1;replace h2:=sP h2;replace h7:=sP h7;replace h8:=sP h8;replace h9:=sP h9;refine fG rfl rcT rfl (oT (e:=(⟨e.no,e.pc,⟨e.i.op,e.i.rd,e.i.rs1,e.i.rs2,e.i.imm⟩,e.guess,1,1,0,(e.pc+4) % 4294967296,e.addr,e.halt,e.took,e.known,e.filled⟩:Ent)) ?_);simp[w64,oU,tJ,up4,h1,h2,h7,h8,h9]<;>(intros;simp_all)
theorem Us(e:Ent)(size:Int)(a:Nat)(he:e.ok)(hs:size<9223372036854775808)(ha:a≤4294967295):bX C0 166 [.agg (enL e),vI size,vU a] (.agg (enL (qL e size a))):=by
 refine bX.intro c0Ok Tryz.func166 rfl rfl (by kernel_rfl) rfl<|cSR<|rAl 0 rfl rfl<|rAl 1 rfl rfl<|rE 2<|cSR<|oR 2 rfl<|rCi rfl (qN e.i)<|oR 1 rfl<|rE 6<|bW<|cSR<|oR 1 rfl<|rW (vB ((kindOf e.i.op) != 3)) rfl (okB (neN _ _))<|oR 1 rfl<|gN rfl<|gBS (x:=vB ((kindOf e.i.op) != 4)) rfl id (okB (neN _ _))<|cV rfl rfl rfl (λ h=>h)<|oR 1 rfl<|gN rfl<|gS rfl id<|gBS (x:=vB (e.is != 0)) rfl id rfl<|cV rfl rfl rfl (by simp)<|oR 1 rfl<|gN rfl<|gS rfl id<|cV rfl rfl rfl (by simp)<|rE 21<|aW rfl (λ h1=>?_) (λ h1=>?_)
 ·refine cSR<|oR 1 rfl<|rSt rfl<|rE 23<|cO ?_;replace h1:=sP h1;refine fG rfl rcT rfl (oT (e:=(⟨e.no,e.pc,⟨e.i.op,e.i.rd,e.i.rs1,e.i.rs2,e.i.imm⟩,e.guess,e.is,e.left,e.value,e.next,e.addr,e.halt,e.took,e.known,e.filled⟩:Ent)) ?_);simp[w64,qL,h1]<;>(intros;simp_all)
 ·refine bB<|cSR<|oR 4 rfl ?_;refine rV (vU ((a+e.i.imm) % 4294967296)) rfl<|oR 1 rfl<|rSt rfl<|rE 28<|bW<|cSR<|oR 5 rfl<|rCi rfl (HA e.i)<|rCi rfl (PO size ((a+e.i.imm) % 4294967296) (dC e.i.op:Nat) hs (bA _ (by decide)))<|rE 35<|aW rfl (λ h2=>?_) (λ h2=>?_)
  ·refine cSR<|oR 1 rfl<|rSt rfl<|rE 37<|cSR<|oR 1 rfl<|rSt rfl<|rE 39<|cO ?_;replace h1:=sP h1;replace h2:=sP h2;refine fG rfl rcT rfl (oT (e:=(⟨e.no,e.pc,⟨e.i.op,e.i.rd,e.i.rs1,e.i.rs2,e.i.imm⟩,e.guess,e.is,e.left,e.value,e.next,(a+e.i.imm) % 4294967296,e.halt,e.took,true,e.filled⟩:Ent)) ?_);simp[w64,qL,h1,h2]<;>(intros;simp_all)
  ·refine bB<|cSR<|oR 1 rfl<|rSt rfl<|rE 37<|bW<|cSR<|oR 1 rfl<|rW (vB ((kindOf e.i.op)==4)) rfl (okB (eqN _ _))<|rE 39<|aW rfl (λ h3=>?_) (λ h3=>?_)
   ·refine cRg<|oR 1 rfl<|rSt rfl<|rE 41<|cSR<|oR 1 rfl<|rSt rfl<|rE 43<|cSR<|oR 1 rfl<|rSt rfl<|rE 45<|cO ?_;replace h1:=sP h1;replace h2:=sP h2;replace h3:=sP h3;refine fG rfl rcT rfl (oT (e:=(⟨e.no,e.pc,⟨e.i.op,e.i.rd,e.i.rs1,e.i.rs2,e.i.imm⟩,e.guess,3,e.left,e.value,e.next,(a+e.i.imm) % 4294967296,5,e.took,e.known,e.filled⟩:Ent)) ?_);simp[w64,qL,h1,h2,h3]<;>(intros;simp_all)
   ·refine bB<|cSR<|oR 1 rfl<|rSt rfl<|rE 41<|cSR<|oR 1 rfl<|rSt rfl<|rE 43<|cO ?_;replace h1:=sP h1;replace h2:=sP h2;replace h3:=sP h3;refine fG rfl rcT rfl (oT (e:=(⟨e.no,e.pc,⟨e.i.op,e.i.rd,e.i.rs1,e.i.rs2,e.i.imm⟩,e.guess,3,e.left,e.value,e.next,(a+e.i.imm) % 4294967296,4,e.took,e.known,e.filled⟩:Ent)) ?_);simp[w64,qL,h1,h2,h3]<;>(intros;simp_all)
theorem Qu(e:Ent)(s:ByteArray)(he:e.ok)(hs:s.size<9223372036854775808):bX C0 93 [.agg (enL e),.v (.string s)] (.agg (enL (rL e s))):=by
 refine bX.intro c0Ok Tryz.func93 rfl rfl (by kernel_rfl) rfl<|cSR<|rAl 0 rfl rfl<|rAl 1 rfl rfl<|rE 2<|bW<|cSR<|oR 2 rfl<|rCi rfl (qN e.i)<|rW (vB ((kindOf e.i.op) != 3)) rfl (okB (neN _ _))<|oR 1 rfl<|gN rfl<|gS rfl id<|gS rfl id<|cV rfl rfl rfl (by simp)<|oR 1 rfl<|gN rfl<|gS rfl id<|gBS (x:=vB (e.is != 0)) rfl id rfl<|gS rfl id<|gN rfl<|gS rfl id<|gBS (x:=vB (e.is != 2)) rfl id rfl<|sB (x:=vB (cZ (e.is != 0) (e.is != 2) false)) (g:= !(cZ ((kindOf e.i.op) != 3) true (!e.known))) rfl rfl rfl rfl (λ h=>h) rfl rfl (λ hg hc=>by first|(rw[hg,hc];rfl)|simp_all)<|cV rfl rfl rfl (by simp)<|rE 21<|aW rfl (λ h1=>?_) (λ h1=>?_)
 ·refine cSR<|oR 1 rfl<|rSt rfl<|rE 23<|cO ?_;replace h1:=sP h1;refine fG rfl rcT rfl (oT (e:=(⟨e.no,e.pc,⟨e.i.op,e.i.rd,e.i.rs1,e.i.rs2,e.i.imm⟩,e.guess,e.is,e.left,e.value,e.next,e.addr,e.halt,e.took,e.known,e.filled⟩:Ent)) ?_);simp[w64,rL,h1]<;>(intros;simp_all)
 ·refine bB<|cSR<|oR 1 rfl<|rSt rfl<|rE 23<|cSR<|oR 1 rfl<|rSt rfl<|rE 25<|cSR<|oR 1 rfl<|rSt rfl<|rE 27<|bW<|cSR<|oR 2 rfl<|rCi rfl (HC e.i)<|rV (vB ((wr e.i) != 0)) rfl<|rE 31<|aW rfl (λ h2=>?_) (λ h2=>?_)
  ·refine cRg<|oR 4 rfl<|rCi rfl (Zp e.i.op s hs)<|oR 1 rfl<|rSt rfl<|rE 38<|cSR<|oR 1 rfl<|rSt rfl<|rE 40<|cO ?_;replace h1:=sP h1;replace h2:=sP h2;refine fG rfl rcT rfl (oT (e:=(⟨e.no,e.pc,⟨e.i.op,e.i.rd,e.i.rs1,e.i.rs2,e.i.imm⟩,e.guess,1,1,loadP e.i.op s,e.next,e.addr,e.halt,e.took,e.known,e.filled⟩:Ent)) ?_);simp[w64,rL,h1,h2]<;>(intros;simp_all)
  ·refine bB<|cSR<|oR 1 rfl<|rSt rfl<|rE 33<|cO ?_;replace h1:=sP h1;replace h2:=sP h2;refine fG rfl rcT rfl (oT (e:=(⟨e.no,e.pc,⟨e.i.op,e.i.rd,e.i.rs1,e.i.rs2,e.i.imm⟩,e.guess,1,1,0,e.next,e.addr,e.halt,e.took,e.known,e.filled⟩:Ent)) ?_);simp[w64,rL,h1,h2]<;>(intros;simp_all)
theorem Wn(x n:Nat)(hx:x<4294967296)(hn:n≤4):bX C0 158 [.v (.int .u32 (x:Int)),.v (.int .i64 (n:Int))] (.v (.int .u32 ((valB x n:Nat):Int))):=by
 refine bX.intro c0Ok Tryz.func158 rfl rfl (by kernel_rfl) rfl<|cSR<|oR 1 rfl<|rE 1<|cSR<|oR 2 rfl<|rCi rfl (PP x n hx hn)<|oR 5 rfl<|rE 9<|cSR<|oR 1 rfl<|rCi rfl (Zo (rN x n) (by rw[yC];exact hn))<|oR 5 rfl<|rE 16<|cSR<|oR 2 rfl<|rE 18<|cO ?_;exact fT rfl rfl
theorem Qv(e:Ent)(b:Nat)(he:e.ok)(hb:b≤4294967295):bX C0 102 [.agg (enL e),vU b] (.agg (enL (qH e b))):=by
 refine bX.intro c0Ok Tryz.func102 rfl rfl (by kernel_rfl) rfl<|cSR<|rAl 0 rfl rfl<|rAl 1 rfl rfl<|rE 2<|bW<|cSR<|oR 2 rfl<|rCi rfl (qN e.i)<|rW (vB ((kindOf e.i.op) != 4)) rfl (okB (neN _ _))<|oR 1 rfl<|gN rfl<|gS rfl id<|gS rfl id<|cV rfl rfl rfl (by simp)<|oR 1 rfl<|gN rfl<|gS rfl id<|gBS (x:=vB (e.is != 0)) rfl id rfl<|cV rfl rfl rfl (by simp)<|rE 16<|aW rfl (λ h1=>?_) (λ h1=>?_)
 ·refine cSR<|oR 1 rfl<|rSt rfl<|rE 18<|cO ?_;replace h1:=sP h1;refine fG rfl rcT rfl (oT (e:=(⟨e.no,e.pc,⟨e.i.op,e.i.rd,e.i.rs1,e.i.rs2,e.i.imm⟩,e.guess,e.is,e.left,e.value,e.next,e.addr,e.halt,e.took,e.known,e.filled⟩:Ent)) ?_);simp[w64,qH,h1]<;>(intros;simp_all)
 ·refine bB<|cSR<|oR 1 rfl<|rSt rfl<|rE 18<|cSR<|oR 3 rfl<|rCi rfl (HA e.i)<|rCi rfl (Wn b (dC e.i.op) (BA hb) (tC e.i.op))<|oR 1 rfl<|rSt rfl<|rE 25<|cSR<|oR 1 rfl<|rSt rfl<|rE 27<|cO ?_;replace h1:=sP h1;refine fG rfl rcT rfl (oT (e:=(⟨e.no,e.pc,⟨e.i.op,e.i.rd,e.i.rs1,e.i.rs2,e.i.imm⟩,e.guess,3,e.left,valB b (dC e.i.op),e.next,e.addr,e.halt,e.took,e.known,e.filled⟩:Ent)) ?_);simp[w64,qH,h1]<;>(intros;simp_all)
theorem Qw(e:Ent)(he:e.ok):bX C0 105 [.agg (enL e)] (.agg (spL (bZ e))):=by
 refine bX.intro c0Ok Tryz.func105 rfl rfl (by kernel_rfl) rfl<|cSR<|rAl 0 rfl rfl<|rAl 1 rfl rfl<|rE 2<|bW<|cSR<|oR 2 rfl<|rV (vB (e.halt != 0)) rfl<|rE 5<|aW rfl (λ h1=>?_) (λ h1=>?_)
 ·refine cSR<|oR 6 rfl<|rV (.agg [vU e.pc,vU e.pc,vI 0,.v (.int .u32 0),.v (.int .u32 0),vI 0,vB false,vI e.halt,vI 0]) rfl<|rAl 12 rfl rfl<|rSt rfl<|rE 14<|bW<|cSR<|oR 2 rfl<|rV (vB (e.halt==4)) rfl<|oR 1 rfl<|gN rfl<|gS rfl id<|gBS (x:=vB (e.halt==5)) rfl id rfl<|cV rfl rfl rfl (by simp)<|rE 22<|aW rfl (λ h2=>?_) (λ h2=>?_)
  ·refine cRg<|oR 3 rfl<|rSt rfl<|rE 26<|cSR<|oR 1 rfl<|rSt rfl<|rE 28<|cO ?_;replace h1:=sP h1;replace h2:=sP h2;refine fG rfl rcT rfl (CR (e:=⟨e.pc,e.pc,0,0,e.addr,0,false,e.halt,0⟩) ?_);simp[bZ,up4,h1,h2]<;>(intros;simp_all)
  ·refine bB<|cSR<|oR 1 rfl<|rSt rfl<|rE 24<|cO ?_;replace h1:=sP h1;replace h2:=sP h2;refine fG rfl rcT rfl (CR (e:=⟨e.pc,e.pc,0,0,0,0,false,e.halt,0⟩) ?_);simp[bZ,up4,h1,h2]<;>(intros;simp_all)
 ·refine bB<|cSR<|oR 4 rfl ?_;refine rV (vU ((e.pc+4) % 4294967296)) rfl<|oR 2 rfl<|rCi rfl (HC e.i)<|rV (.agg [vU e.pc,vU ((e.pc+4) % 4294967296),vI (wr e.i),.v (.int .u32 0),.v (.int .u32 0),vI 0,vB false,vI 0,vI 0]) rfl<|rAl 14 rfl rfl<|rSt rfl<|rE 16<|bW<|cSR<|oR 2 rfl<|rV (vB ((wr e.i) != 0)) rfl<|rE 19<|aW rfl (λ h3=>?_) (λ h3=>?_)
  ·refine cRg<|oR 3 rfl<|rSt rfl<|rE 23<|bW<|cSR<|oR 2 rfl<|rCi rfl (qN e.i)<|rE 26<|bK<|bW<|bK<|bW<|bK<|bW<|bK<|bW<|bK<|bW<|bW<|cSR<|rW (vB ((kindOf e.i.op)==4)) rfl (okB (eqN _ _))<|oR 1 rfl<|rE 28<|aW rfl (λ h4=>?_) (λ h4=>?_)
   ·refine eE<|cSR<|oR 1 rfl<|rSt rfl<|rE 30<|cRg<|oR 3 rfl<|rSt rfl<|rE 34<|bW<|cSR<|oR 3 rfl<|rSt rfl<|rE 38<|cRg<|oR 2 rfl<|rCi rfl (HA e.i)<|oR 1 rfl<|rSt rfl<|rE 43<|eE<|cSR<|oR 1 rfl<|rSt rfl<|rE 45<|cO ?_;replace h1:=sP h1;replace h3:=sP h3;replace h4:=sP h4;refine fG rfl rcT rfl (CR (e:=⟨e.pc,(e.pc+4) % 4294967296,wr e.i,e.value,e.addr,dC e.i.op,true,0,0⟩) ?_);simp[bZ,up4,h1,h3,h4]<;>(intros;simp_all)
   ·refine bB<|bW<|cSR<|rW (vB ((kindOf e.i.op)==3)) rfl (okB (eqN _ _))<|oR 1 rfl<|rE 30<|aW rfl (λ h5=>?_) (λ h5=>?_)
    ·refine eE<|bW<|cSR<|oR 3 rfl<|rSt rfl<|rE 34<|cRg<|oR 2 rfl<|rCi rfl (HA e.i)<|oR 1 rfl<|rSt rfl<|rE 39<|eE<|cSR<|oR 1 rfl<|rSt rfl<|rE 41<|cO ?_;replace h1:=sP h1;replace h3:=sP h3;replace h4:=sP h4;replace h5:=sP h5;refine fG rfl rcT rfl (CR (e:=⟨e.pc,(e.pc+4) % 4294967296,wr e.i,e.value,e.addr,dC e.i.op,false,0,0⟩) ?_);simp[bZ,up4,h1,h3,h4,h5]<;>(intros;simp_all)
    ·refine bB<|bW<|cSR<|rW (vB ((kindOf e.i.op)==2)) rfl (okB (eqN _ _))<|oR 1 rfl<|rE 32<|aW rfl (λ h6=>?_) (λ h6=>?_)
     ·refine eE<|cSR<|oR 3 rfl<|rSt rfl<|rE 36<|eE<|cSR<|oR 1 rfl<|rSt rfl<|rE 38<|cO ?_;replace h1:=sP h1;replace h3:=sP h3;replace h4:=sP h4;replace h5:=sP h5;replace h6:=sP h6;refine fG rfl rcT rfl (CR (e:=⟨e.pc,(e.pc+4) % 4294967296,wr e.i,e.value,0,0,false,0,e.took⟩) ?_);simp[bZ,up4,h1,h3,h4,h5,h6]<;>(intros;simp_all)
     ·refine bB<|cSR<|rW (vB ((kindOf e.i.op)==5)) rfl (okB (eqN _ _))<|oR 1 rfl<|rE 34<|aW rfl (λ h7=>?_) (λ h7=>?_)
      ·refine eE<|cSR<|oR 3 rfl<|rSt rfl<|rE 38<|eE<|cSR<|oR 1 rfl<|rSt rfl<|rE 40<|cO ?_;replace h1:=sP h1;replace h3:=sP h3;replace h4:=sP h4;replace h5:=sP h5;replace h6:=sP h6;replace h7:=sP h7;refine fG rfl rcT rfl (CR (e:=⟨e.pc,e.next,wr e.i,e.value,0,0,false,0,0⟩) ?_);simp[bZ,up4,h1,h3,h4,h5,h6,h7]<;>(intros;simp_all)
      ·refine bB<|eE<|cSR<|oR 1 rfl<|rSt rfl<|rE 36<|cO ?_;replace h1:=sP h1;replace h3:=sP h3;replace h4:=sP h4;replace h5:=sP h5;replace h6:=sP h6;replace h7:=sP h7;refine fG rfl rcT rfl (CR (e:=⟨e.pc,(e.pc+4) % 4294967296,wr e.i,e.value,0,0,false,0,0⟩) ?_);simp[bZ,up4,h1,h3,h4,h5,h6,h7]<;>(intros;simp_all)
  ·refine bB<|bW<|cSR<|oR 2 rfl<|rCi rfl (qN e.i)<|rE 22<|bK<|bW<|bK<|bW<|bK<|bW<|bK<|bW<|bK<|bW<|bW<|cSR<|rW (vB ((kindOf e.i.op)==4)) rfl (okB (eqN _ _))<|oR 1 rfl<|rE 24<|aW rfl (λ h8=>?_) (λ h8=>?_)
   ·refine eE<|cSR<|oR 1 rfl<|rSt rfl<|rE 26<|cRg<|oR 3 rfl<|rSt rfl<|rE 30<|bW<|cSR<|oR 3 rfl<|rSt rfl<|rE 34<|cRg<|oR 2 rfl<|rCi rfl (HA e.i)<|oR 1 rfl<|rSt rfl<|rE 39<|eE<|cSR<|oR 1 rfl<|rSt rfl<|rE 41<|cO ?_;replace h1:=sP h1;replace h3:=sP h3;replace h8:=sP h8;refine fG rfl rcT rfl (CR (e:=⟨e.pc,(e.pc+4) % 4294967296,wr e.i,e.value,e.addr,dC e.i.op,true,0,0⟩) ?_);simp[bZ,up4,h1,h3,h8]<;>(intros;simp_all)
   ·refine bB<|bW<|cSR<|rW (vB ((kindOf e.i.op)==3)) rfl (okB (eqN _ _))<|oR 1 rfl<|rE 26<|aW rfl (λ h9=>?_) (λ h9=>?_)
    ·refine eE<|bW<|cSR<|oR 3 rfl<|rSt rfl<|rE 30<|cRg<|oR 2 rfl<|rCi rfl (HA e.i)<|oR 1 rfl<|rSt rfl<|rE 35<|eE<|cSR<|oR 1 rfl<|rSt rfl<|rE 37<|cO ?_;replace h1:=sP h1;replace h3:=sP h3;replace h8:=sP h8;replace h9:=sP h9;refine fG rfl rcT rfl (CR (e:=⟨e.pc,(e.pc+4) % 4294967296,wr e.i,0,e.addr,dC e.i.op,false,0,0⟩) ?_);simp[bZ,up4,h1,h3,h8,h9]<;>(intros;simp_all)
    ·refine bB<|bW<|cSR<|rW (vB ((kindOf e.i.op)==2)) rfl (okB (eqN _ _))<|oR 1 rfl<|rE 28<|aW rfl (λ h10=>?_) (λ h10=>?_)
     ·refine eE<|cSR<|oR 3 rfl<|rSt rfl<|rE 32<|eE<|cSR<|oR 1 rfl<|rSt rfl<|rE 34<|cO ?_;replace h1:=sP h1;replace h3:=sP h3;replace h8:=sP h8;replace h9:=sP h9;replace h10:=sP h10;refine fG rfl rcT rfl (CR (e:=⟨e.pc,(e.pc+4) % 4294967296,wr e.i,0,0,0,false,0,e.took⟩) ?_);simp[bZ,up4,h1,h3,h8,h9,h10]<;>(intros;simp_all)
     ·refine bB<|cSR<|rW (vB ((kindOf e.i.op)==5)) rfl (okB (eqN _ _))<|oR 1 rfl<|rE 30<|aW rfl (λ h11=>?_) (λ h11=>?_)
      ·refine eE<|cSR<|oR 3 rfl<|rSt rfl<|rE 34<|eE<|cSR<|oR 1 rfl<|rSt rfl<|rE 36<|cO ?_;replace h1:=sP h1;replace h3:=sP h3;replace h8:=sP h8;replace h9:=sP h9;replace h10:=sP h10;replace h11:=sP h11;refine fG rfl rcT rfl (CR (e:=⟨e.pc,e.next,wr e.i,0,0,0,false,0,0⟩) ?_);simp[bZ,up4,h1,h3,h8,h9,h10,h11]<;>(intros;simp_all)
      ·refine bB<|eE<|cSR<|oR 1 rfl<|rSt rfl<|rE 32<|cO ?_;replace h1:=sP h1;replace h3:=sP h3;replace h8:=sP h8;replace h9:=sP h9;replace h10:=sP h10;replace h11:=sP h11;refine fG rfl rcT rfl (CR (e:=⟨e.pc,(e.pc+4) % 4294967296,wr e.i,0,0,0,false,0,0⟩) ?_);simp[bZ,up4,h1,h3,h8,h9,h10,h11]<;>(intros;simp_all)
theorem aa4(n:Nat):(if (0:Int)>(n:Int)then (0:Int)else (n:Int))=(n:Int):=if_neg omT
theorem Yq{n:Nat}(h:n≤1000):IntKind.wrap .i64 ((n:Int) - 1)=(n:Int) - 1:=wrap_i64 omT omT
theorem Wo{k:Nat}(h0:0<k)(h:k≤1000):IntKind.wrap .i64 (((k:Int) - 1) - 1)=((k - 1:Nat):Int) - 1:=by rw[wrap_i64 omT omT];omega
theorem ZI{a b:Nat}(h:b≤a)(ha:a≤4294967295):IntKind.wrap .u32 ((a:Int) - (b:Int))=((a - b:Nat):Int):=by
 rw[show ((a:Int) - (b:Int))=((a - b:Nat):Int) by omega];exact Ig (by omega:a - b≤4294967295) rfl
theorem Te(a n:Nat)(ha:a≤4294967295)(hn:n≤1000):bX C0 233 [vU a,vN n] (.v (.int .u64 ((a+n:Nat):Int))):=by
 refine bX.intro c0Ok Tryz.func233 rfl rfl (by kernel_rfl) rfl<|cSR<|oR 1 rfl<|rE 1<|cSR<|oR 1 rfl<|rW (.v (.int .u64 (a:Int))) rfl (okI (Ig ha rfl))<|oR 1 rfl<|rW (vN n) rfl (okI (aa4 n))<|rW (.v (.int .u64 (n:Int))) rfl (okI (Ig hn rfl)) ?_;have b1:a+n≤4294968295:=aH ha hn;refine rW (.v (.int .u64 ((a+n:Nat):Int))) rfl (okI (Ig b1 rfl))<|oR 1 rfl<|rE 8<|cO ?_;exact fT rfl rfl
theorem Yr(a n b m:Nat)(ha:a≤4294967295)(hn:n≤1000)(hb:b≤4294967295)(hm:m≤1000):bX C0 221 [vU a,vN n,vU b,vN m] (vB (EZ a n b m)):=by
 refine bX.intro c0Ok Tryz.func221 rfl rfl (by kernel_rfl) rfl<|cSR<|oR 1 rfl<|rE 1<|bW<|cSR<|oR 1 rfl<|rW (vB (decide (n≤0))) rfl (okB (leN _ _))<|oR 1 rfl<|gN rfl<|gBS (x:=vB (decide (m≤0))) rfl id (okB (leN _ _))<|cV rfl rfl rfl (by simp)<|rE 7<|aW rfl (λ h1=>?_) (λ h1=>?_)
 ·refine cSR<|oR 1 rfl<|rE 8<|cO ?_;exact fT rfl (dL (by have z:=h1;simp only[cOr,pY,EZ]at z⊢ <;>grind))
 ·refine bB<|cSR<|oR 1 rfl<|rW (.v (.int .u64 (a:Int))) rfl (okI (Ig ha rfl))<|oR 2 rfl<|rCi rfl (Te b m hb hm)<|rW (vB (decide (a<(b+m)))) rfl (okB (ltN _ _))<|oR 1 rfl<|gN rfl<|gBS (x:=.v (.int .u64 (b:Int))) rfl id (okI (Ig hb rfl))<|gN rfl<|gN rfl<|kM (x:=.v (.int .u64 ((a+n:Nat):Int))) (g:=decide (a<(b+m))) rfl rfl rfl rfl hsT rfl rfl rfl (.inl rfl) rfl (λ hg=>Te a n ha hn)<|gBS (x:=vB (decide (b<(a+n)))) rfl hsT (okB (ltN _ _))<|cV rfl rfl rfl (λ h=>h)<|oR 1 rfl<|rE 22<|cO ?_;exact fT rfl (dL (by have z:=h1;simp only[cOr,pY,EZ]at z⊢ <;>grind))
theorem Wp(a n b m:Nat)(ha:a≤4294967295)(hn:n≤1000)(hb:b≤4294967295)(hm:m≤1000):bX C0 222 [vU a,vN n,vU b,vN m] (vB (Ei a n b m)):=by
 refine bX.intro c0Ok Tryz.func222 rfl rfl (by kernel_rfl) rfl<|cSR<|oR 1 rfl<|rE 1<|cSR<|oR 1 rfl<|rW (vB (decide (m>0))) rfl (okB (gtN _ _))<|oR 1 rfl<|gN rfl<|gN rfl<|gBS (x:=vB (decide (a≤b))) rfl hsT (okB (leN _ _))<|cV rfl rfl rfl (λ h=>h)<|oR 1 rfl<|gN rfl<|gN rfl<|kM (x:=.v (.int .u64 ((b+m:Nat):Int))) (g:=cZ (decide (m>0)) (decide (a≤b)) false) rfl rfl rfl rfl hsT rfl rfl rfl (.inl rfl) rfl (λ hg=>Te b m hb hm)<|gN rfl<|gN rfl<|kM (x:=.v (.int .u64 ((a+n:Nat):Int))) (g:=cZ (decide (m>0)) (decide (a≤b)) false) rfl rfl rfl rfl hsT rfl rfl rfl (.inl rfl) rfl (λ hg=>Te a n ha hn)<|gBS (x:=vB (decide ((b+m)≤(a+n)))) rfl hsT (okB (leN _ _))<|cV rfl rfl rfl (λ h=>h)<|oR 1 rfl<|rE 18<|cO ?_;exact fT rfl (dL (by simp only[cOr,pY,Ei]<;>grind))
def aa5(s:Std):Value:=.agg #[.int .u32 (s.addr:Int),.int .i64 (s.size:Int),.string s.data,.bool s.there]
def Ys(s:Std):Array Value:= #[aa5 s]
abbrev sdL(s:Std):List AV:=[vU s.addr,vN s.size,.v (.string s.data),vB s.there]
def Mu(R:List Ent)(k:Nat):List Std:=(((R.drop k).filter λ e=>isK e 4).map Eh).reverse
def Tf(R:List Ent)(S:List Pt)(k:Nat):List Std:=Mu R 0++((S.drop k).map Ch).reverse
theorem Mv(R:List Ent)(S:List Pt):EY R S=Mu R 0++(S.map Ch).reverse:=rfl
theorem Ez{α:Type}{l:List α}{k:Nat}{x:α}(h0:0<k)(h:l[k - 1]?=some x):l.drop (k - 1)=x::l.drop k:=by
 obtain⟨hl,rfl⟩:=Dq.1 h;rw[cQ hl,show k - 1+1=k by omega]
theorem Mw{R:List Ent}{k:Nat}{x:Ent}(h0:0<k)(h:R[k - 1]?=some x)(hk:isK x 4=true):Mu R (k - 1)=Mu R k++[Eh x]:=by
 unfold Mu;rw[Ez h0 h,List.filter_cons_of_pos (by simpa using hk)];simp
theorem Wq{R:List Ent}{k:Nat}{x:Ent}(h0:0<k)(h:R[k - 1]?=some x)(hk:isK x 4=false):Mu R k=Mu R (k - 1):=by
 unfold Mu;rw[Ez h0 h,List.filter_cons_of_neg (by simpa using hk)]
theorem Tg(R:List Ent)(S:List Pt)(k:Nat):Mu R k <+: EY R S:=by
 rw[Mv];refine List.IsPrefix.trans ?_ (List.prefix_append _ _);refine⟨(((R.take k).filter λ e=>isK e 4).map Eh).reverse,?_⟩;unfold Mu;rw[←List.reverse_append, ←eU, ←jW,fZ,cA]
theorem Ny(R:List Ent):Mu R R.length=[]:=by unfold Mu;rw[List.drop_length];rfl
theorem JL{R:List Ent}{S:List Pt}{k:Nat}{x:Pt}(h0:0<k)(h:S[k - 1]?=some x):Tf R S (k - 1)=Tf R S k++[Ch x]:=by
 unfold Tf;rw[Ez h0 h];simp
theorem Th(R:List Ent)(S:List Pt)(k:Nat):Tf R S k <+: EY R S:=by
 rw[Mv];unfold Tf;rw[List.prefix_append_right_inj];refine⟨((S.take k).map Ch).reverse,?_⟩;rw[←List.reverse_append, ←eU,fZ]
theorem Nz(R:List Ent)(S:List Pt):Tf R S S.length=Mu R 0:=by unfold Tf;rw[List.drop_length];simp
theorem Ti(R:List Ent)(S:List Pt):Tf R S 0=EY R S:=rfl
theorem Tj{R:List Ent}{S:List Pt}(ho:∀ x∈R,x.ok)(hso:∀ x∈S,x.ok)(hss:∀ x∈S,x.data.size≤4){s:Std}(h:s∈EY R S):s.addr≤4294967295∧s.size≤4∧s.data.size=s.size:=by
 unfold EY at h;rcases al_List_mem_append.1 h with h|h
 ·obtain⟨e,he,rfl⟩:=rQ.1 (List.mem_reverse.1 h);exact⟨(ho e (List.mem_filter.1 he).1).addr,tC _,yC _ _⟩
 ·obtain⟨p,hp,rfl⟩:=rQ.1 (List.mem_reverse.1 h);exact⟨(hso p hp).addr,hss p hp,rfl⟩
theorem CJ{at_ n:Nat}:∀ {l:List Std},(∀ s,s∈l→EZ s.addr s.size at_ n=false)→wE at_ n l=(2,oC)
 |[],_=>rfl
 |s::l,h=>by
  simp only[wE];rw[if_pos (h s bD)];exact CJ λ y hy=>h y (bF _ hy)
theorem Cp{at_ n:Nat}{s:Std}:∀ {pre l:List Std},pre++[s] <+: l→(∀ y,y∈pre→EZ y.addr y.size at_ n=false)→EZ s.addr s.size at_ n=true→
  wE at_ n l=if Ei s.addr s.size at_ n=false∨s.there=false then (0,oC)else (1,s.data.extract (at_ - s.addr) (at_ - s.addr+n))
 |[],[],h,_,_=>by have:=h.length_le;simp at this
 |[],y::l,h,_,hs=>by
  obtain⟨t,ht⟩:=h;obtain⟨rfl, -⟩:=List.cons.inj ht
  simp only[wE];rw[if_neg (by simp[hs])]
 |y::pre,[],h,_,_=>by have:=h.length_le;simp at this
 |y::pre,z::l,h,hN,hs=>by
  obtain⟨t,ht⟩:=h;obtain⟨h3,h4⟩:=List.cons.inj ht;subst h3;simp only[wE];rw[if_pos (hN y bD)];exact Cp ⟨t,h4⟩ (λ y hy=>hN y (bF _ hy)) hs
theorem Qx(R:List Ent)(S:List Pt)(ck ck2:Bool)(hl:R.length≤1000)(ho:∀ x∈R,x.ok)(hst:S.length≤1000)(hso:∀ x∈S,x.ok):Td C0 232 [.dp 1 0 ([.sl 17 (R.map enL) ck]),.dp 1 0 ([.sl 2 (S.map ptL) ck2])] Ys (EY R S):=by
 refine Td.intro c0Ok Tryz.func232 rfl rfl (by kernel_rfl) rfl ?_;intro y;refine vK<|vK<|rO rfl<|cRg<|oR 1 rfl<|rW (vN R.length) rfl (bY enL R)<|rW (vI (((R.length:Nat):Int) - 1)) rfl (okI (Yq hl))<|oR 1 rfl<|rE 4<|Cn<|Qp (κ:=Nat) (λ k=>⟨slotsF [(0,.v y),(1,.dp 1 0 ([.sl 17 (R.map enL) ck])),(2,.dp 1 0 ([.sl 2 (S.map ptL) ck2])),(4,vI ((k:Int) - 1))],heapF [],4⟩) (λ k=>Mu R k) (λ k=>k≤R.length) (λ k=>k) R.length (λ s=>s) (Weak.of_lists (λ s=>s) wT trivial rfl) rfl (Ny R) (aC _) ?_;intro k hk;have hkB:k≤1000:=by have:k≤R.length:=hk;omega
 refine vK<|vK<|rO rfl<|cRg<|oR 1 rfl<|rV (vB (decide (((k:Int) - 1)≥0))) rfl<|rE 6<|Ew (v:=decide (((k:Int) - 1)≥0)) rfl (λ h1=>?_) (λ h1=>?_)
 ·have h1p:=of_decide_eq_true h1;have hk0:0<k:=by omega
  refine rO rfl<|bB<|vK<|Cn<|vK<|rO rfl<|cRg<|oR 2 rfl ?_;obtain⟨x,hx⟩:∃ y_,R[k - 1]?=some y_:=⟨_,aA omT⟩;have hxo:=ho x (aB hx);refine Ih (enL x) (x:=.dp 17 0 (enL x)) rfl rfl rfl (⟨by omega,by rw[show ((k:Int) - 1).toNat=k - 1 by omega];exact iB hx⟩) rfl<|oR 1 rfl<|rAl 10 rfl rfl<|rSt rfl<|rE 12<|vK<|vK<|rO rfl<|cRg<|oR 2 rfl<|rCi rfl (qN x.i)<|rW (vB ((kindOf x.i.op) != 4)) rfl (okB (neN _ _))<|rE 16<|Ew (v:=(kindOf x.i.op) != 4) rfl (λ h2=>?_) (λ h2=>?_)
  ·have h2p:=vH h2;have hkf:isK x 4=false:=by unfold isK;simpa using h2p
   refine rO rfl<|eE<|rO rfl<|cRg<|oR 1 rfl<|rW (vI (((k - 1:Nat):Int) - 1)) rfl (okI (Wo hk0 hkB))<|oR 1 rfl<|rE 19 ?_;refine⟨rfl,k - 1,λ s=>s,Weak.of_lists _ wT trivial rfl,rfl,(Wq hk0 hx hkf).symm,(by show k - 1≤R.length;omega),(by show k - 1<k;omega)⟩
  ·have h2p:=vJ h2;have hkt:isK x 4=true:=by unfold isK;simpa using h2p
   refine rO rfl<|bB<|vK<|rO rfl<|cRg<|oR 2 rfl<|rCi rfl (HA x.i)<|oR 1 rfl<|rE 20<|vK<|rO rfl<|cRg<|oR 3 rfl<|rCi rfl (PP x.value (dC x.i.op) (BA hxo.value) (tC x.i.op))<|oR 5 rfl<|rE 29<|vK<|Qq rfl 9 rfl rfl rfl<|oR 7 rfl<|rV (vB (x.is==3)) rfl<|rV (.agg [vU x.addr,vN (dC x.i.op),.v (.string (rN x.value (dC x.i.op))),vB (x.is==3)]) rfl<|rE 38 ?_;refine⟨Eh x,_,⟨slotsF [(0,.v y),(1,.dp 1 0 ([.sl 17 (R.map enL) ck])),(2,.dp 1 0 ([.sl 2 (S.map ptL) ck2])),(4,vI ((k:Int) - 1)),(36,.v y),(44,.agg [vU x.addr,vN (dC x.i.op),.v (.string (rN x.value (dC x.i.op))),vB (x.is==3)])],heapF [],0⟩,λ s=>s,Weak.of_lists _ wT trivial rfl,rfl,rfl,rfl,rfl,rfl,rfl,(by rw[←Mw hk0 hx hkt];exact Tg R S _),λ yb1=>?_⟩;refine oR 1 rfl<|rE 40<|Ew (v:= !yb1) rfl (λ h3=>?_) (λ h3=>?_)
   ·refine rO rfl<|cO ?_;intro hs;rw[h3]at hs;cases hs
   ·refine rO rfl<|bB<|rO rfl<|cRg<|oR 1 rfl<|rW (vI (((k - 1:Nat):Int) - 1)) rfl (okI (Wo hk0 hkB))<|oR 1 rfl<|rE 43 ?_;refine⟨h3,k - 1,λ s=>s,Weak.of_lists _ wT trivial rfl,rfl,(Mw hk0 hx hkt),(by show k - 1≤R.length;omega),(by show k - 1<k;omega)⟩
 ·have h1p:=aD h1;refine rO rfl<|eE<|vK<|rO rfl<|cRg<|oR 1 rfl<|rW (vN S.length) rfl (bY ptL S)<|rW (vI (((S.length:Nat):Int) - 1)) rfl (okI (Yq hst))<|oR 1 rfl<|rE 10<|Cn ?_;obtain hk_:k=0:=by omega
  subst hk_;refine Qp (κ:=Nat) (λ j=>⟨slotsF [(0,.v y),(1,.dp 1 0 ([.sl 17 (R.map enL) ck])),(2,.dp 1 0 ([.sl 2 (S.map ptL) ck2])),(9,vI ((j:Int) - 1))],heapF [],10⟩) (λ j=>Tf R S j) (λ j=>j≤S.length) (λ j=>j) S.length (λ s=>s) (Weak.of_lists (λ s=>s) wT trivial rfl) rfl (Nz R S) (aC _) ?_;intro j hj;have hjB:j≤1000:=by have:j≤S.length:=hj;omega
  refine vK<|vK<|rO rfl<|cRg<|oR 1 rfl<|rV (vB (decide (((j:Int) - 1)≥0))) rfl<|rE 12<|Ew (v:=decide (((j:Int) - 1)≥0)) rfl (λ h4=>?_) (λ h4=>?_)
  ·have h4p:=of_decide_eq_true h4;have hj0:0<j:=by omega
   refine rO rfl<|bB<|vK<|Cn<|vK<|rO rfl<|cRg<|oR 2 rfl ?_;obtain⟨p,hp⟩:∃ y_,S[j - 1]?=some y_:=⟨_,aA omT⟩;have hpo:=hso p (aB hp);refine Ih (ptL p) (x:=.dp 2 0 (ptL p)) rfl rfl rfl (⟨by omega,by rw[show ((j:Int) - 1).toNat=j - 1 by omega];exact iB hp⟩) rfl<|oR 1 rfl<|rAl 16 rfl rfl<|rSt rfl<|rE 18<|vK<|Qq rfl 9 rfl rfl rfl<|oR 5 rfl<|rV (vN p.data.size) rfl<|oR 2 rfl<|rV (.agg [vU p.addr,vN p.data.size,.v (.string p.data),vB true]) rfl<|rE 27 ?_;refine⟨Ch p,_,⟨slotsF [(0,.v y),(1,.dp 1 0 ([.sl 17 (R.map enL) ck])),(2,.dp 1 0 ([.sl 2 (S.map ptL) ck2])),(9,vI ((j:Int) - 1)),(58,.v y),(66,.agg [vU p.addr,vN p.data.size,.v (.string p.data),vB true])],heapF [],0⟩,λ s=>s,Weak.of_lists _ wT trivial rfl,rfl,rfl,rfl,rfl,rfl,rfl,(by rw[←JL hj0 hp];exact Th R S _),λ yb2=>?_⟩;refine oR 1 rfl<|rE 29<|Ew (v:= !yb2) rfl (λ h5=>?_) (λ h5=>?_)
   ·refine rO rfl<|cO ?_;intro hs;rw[h5]at hs;cases hs
   ·refine rO rfl<|bB<|rO rfl<|cRg<|oR 1 rfl<|rW (vI (((j - 1:Nat):Int) - 1)) rfl (okI (Wo hj0 hjB))<|oR 1 rfl<|rE 32 ?_;refine⟨h5,j - 1,λ s=>s,Weak.of_lists _ wT trivial rfl,rfl,(JL hj0 hp),(by show j - 1≤S.length;omega),(by show j - 1<j;omega)⟩
  ·have h4p:=aD h4;refine rO rfl<|eE ?_;intro _;obtain hj_:j=0:=by omega
   subst hj_;exact Ti R S
theorem Qy(R:List Ent)(S:List Pt)(ck ck2:Bool)(hl:R.length≤1000)(ho:∀ x∈R,x.ok)(hst:S.length≤1000)(hso:∀ x∈S,x.ok):bX C0 220 [.sl 17 (R.map enL) ck,.sl 2 (S.map ptL) ck2] (.clo 232 [] [.dp 1 0 [.sl 17 (R.map enL) ck],.dp 1 0 [.sl 2 (S.map ptL) ck2]]):=by
 refine bX.intro c0Ok Tryz.func220 rfl rfl (by kernel_rfl) rfl<|cSR<|rAl 0 rfl rfl<|rAl 1 rfl rfl<|oR 1 rfl<|rE 3<|cSR<|rV (.clo 232 [] [.ptr 0 0,.ptr 1 0]) rfl<|oR 1 rfl<|rE 5<|cO ?_;exact fG rfl tvT rfl rfl
theorem Tk{l:List Ent}{k:Nat}{x:Ent}(h:∀ y,y∈l.take k→zN y=false)(hx:l[k]?=some x)(hv:zN x=false):∀ y,y∈l.take (k+1)→zN y=false:=by
 intro y hy;rw[bR,hx]at hy;rcases al_List_mem_append.1 hy with hy|hy
 ·exact h y hy
 ·have:y=x:=by simpa using hy
  rw[this];exact hv
theorem Tl{rob:List Ent}{stores:List Pt}{i:Nat}{e:Ent}(he:rob[i]?=some e)(hk: ¬ kindOf e.i.op=3):kZ rob stores i=(0,oC):=by
 unfold kZ;rw[he];exact if_pos hk
theorem Qz{rob:List Ent}{stores:List Pt}{i k:Nat}{e x:Ent}(he:rob[i]?=some e)(hk:kindOf e.i.op=3)(hx:(rob.take i)[k]?=some x)(hv:zN x=true):kZ rob stores i=(0,oC):=by
 unfold kZ;rw[he];exact (if_neg (λ h=>h hk)).trans (if_pos (Lm.2 ⟨x,aB hx,hv⟩))
theorem QA{rob:List Ent}{stores:List Pt}{i k:Nat}{e:Ent}(he:rob[i]?=some e)(hk:kindOf e.i.op=3)(hN:∀ y,y∈(rob.take i).take k→zN y=false)(hle:(rob.take i).length≤k):kZ rob stores i=wE e.addr (dC e.i.op) (EY (rob.take i) stores):=by
 unfold kZ;rw[he];refine (if_neg (λ h=>h hk)).trans (if_neg λ h=>?_);obtain⟨x,hx,hv⟩:=Lm.1 h;rw[aL hle]at hN;rw[hN x hx]at hv;cases hv
theorem Wr(rob:List Ent)(stores:List Pt)(ck ck2:Bool)(i:Nat)(hl:rob.length≤1000)(ho:∀ x∈rob,x.ok)(hst:stores.length≤1000)(hso:∀ x∈stores,x.ok)(hss:∀ x∈stores,x.data.size≤4)(hi:i<rob.length):bX C0 207 [.sl 17 (rob.map enL) ck,.sl 2 (stores.map ptL) ck2,vN i] (.tup [vI (kZ rob stores i).1,.v (.string (kZ rob stores i).2)]):=by
 refine dc1 (bX.introR (C:=C1) (λ d=>c1Ok.wd d) (λ n=>c1Ok.at) Tryz.func207 rfl rfl (by kernel_rfl) rfl ?_);have hiB:i≤1000:=by omega
 have htl:(rob.take i).length≤1000:=by rw[aN];omega
 have hto:∀ x∈rob.take i,x.ok:=λ x hx=>ho x (cL hx);refine yP<|yG rfl<|cRg<|rAl 0 rfl rfl<|rAl 1 rfl rfl<|rE 2<|Wi<|yP<|yP<|yG rfl<|cRg<|oR 1 rfl<|rW (vB (decide (i<0))) rfl (okB (ltN _ _))<|oR 1 rfl<|gN rfl<|gN rfl<|gBS (x:=vN rob.length) rfl id (bY enL rob)<|gBS (x:=vB (decide (i≥rob.length))) rfl hsT (okB (geN _ _))<|cV rfl rfl rfl (by simp)<|oR 1 rfl<|gN rfl<|gN rfl ?_;obtain⟨e,he⟩:∃ y_,rob[i]?=some y_:=⟨_,aA omT⟩;have heo:=ho e (aB he);refine IG (enL e) (x:=.dp 17 0 (enL e)) (g:= !(cZ (decide (i<0)) true (decide (i≥rob.length)))) rfl rfl rfl rfl hsT rfl rfl (λ hg=>⟨aG _,iB he⟩) rfl<|gS rfl id<|gS rfl id<|kM (x:=vN (kindOf e.i.op)) (g:= !(cZ (decide (i<0)) true (decide (i≥rob.length)))) rfl rfl rfl rfl (λ h=>h) rfl rfl rfl (.inl rfl) rfl (λ hg=>qN e.i)<|gBS (x:=vB ((kindOf e.i.op) != 3)) rfl id (okB (neN _ _))<|cV rfl rfl rfl (by simp)<|rE 19<|Uq (v:=cZ (cZ (decide (i<0)) true (decide (i≥rob.length))) true ((kindOf e.i.op) != 3)) rfl (λ h1=>?_) (λ h1=>?_)
 ·have hk3: ¬ kindOf e.i.op=3:=by have z:=h1;simp only[cOr]at z;grind
  refine yP<|yG rfl<|cRg<|rSt rfl<|rSt rfl<|rE 21<|yG rfl<|cO ?_;have e1:=Tl (stores:=stores) he hk3;rw[e1];exact fT rfl rfl
 ·have hk3:kindOf e.i.op=3:=by have z:=h1;simp only[cOr]at z;grind
  refine yG rfl<|bB<|yP<|yP<|yG rfl<|cRg<|oR 2 rfl<|nW (.sl 17 ((rob.take i).map enL) (ck&&false)) rfl (wU (uX enL rob i)) slT<|rW (vN i) rfl (uV enL (rob.take i) omT)<|oR 1 rfl<|rE 24<|KW<|Yl<|mL (κ:=Nat) (λ k=>⟨slotsF [(0,.sl 17 (rob.map enL) ck),(1,.sl 2 (stores.map ptL) ck2),(2,vN i),(6,.ptr 0 0),(7,.ptr 1 0),(30,vB (cZ (cZ (decide (i<0)) true (decide (i≥rob.length))) true ((kindOf e.i.op) != 3))),(33,.sl 17 ((rob.take i).map enL) (ck&&false)),(34,vN i),(35,vN k)],heapF [(0,.box [vI 0]),(1,.box [.v (.string (⟨#[]⟩:ByteArray))])],24⟩) (λ k=>k≤i∧∀ y,y∈(rob.take i).take k→zN y=false) (λ k=>i - k) 0 (λ s=>s) (Weak.of_lists (λ s=>s) wT wH rfl) (⟨aE _,(λ y hy=>by cases hy)⟩) ?_;intro k hk;have hkn:k≤i:=hk.1;have hkB:k≤1000000:=by omega
  refine cSR<|rW (vB (decide (k<i))) rfl (okB (ltN _ _))<|rE 25<|bW<|aW rfl (λ h2=>?_) (λ h2=>?_)
  ·have h2p:=of_decide_eq_true h2;refine bB<|bW<|bK<|cSR ?_;obtain⟨x,hx⟩:∃ y_,(rob.take i)[k]?=some y_:=⟨_,aA omT⟩;have hxo:=(xV ho) x (aB hx);refine rIx (enL x) (.dp 17 0 (enL x)) rfl rfl (iB hx) rfl<|oR 1 rfl<|rAl 27 rfl rfl<|rSt rfl<|rE 29<|cSR<|oR 2 rfl<|rCi rfl (qN x.i)<|rW (vB ((kindOf x.i.op)==4)) rfl (okB (eqN _ _))<|oR 1 rfl<|gN rfl<|gS rfl id<|gS rfl id<|gS rfl id<|gN rfl<|gS rfl id<|gBS (x:=vB (x.halt != 0)) rfl id rfl<|sB (x:=vB (cZ (!x.known) true (x.halt != 0))) (g:=(kindOf x.i.op)==4) rfl rfl rfl rfl (λ h=>h) rfl rfl (λ hg hc=>by first|(rw[hg,hc];rfl)|simp_all)<|cV rfl rfl rfl (λ h=>h)<|rE 43<|aW rfl (λ h3=>?_) (λ h3=>?_)
   ·have hv:zN x=true:=by have z:=h3;unfold zN isK;simp only[cOr,pY]at z⊢;grind
    refine cSR<|rSt rfl<|rSt rfl<|rE 45<|cO ?_;have e1:=Qz (stores:=stores) he hk3 hx hv;rw[e1];exact fT rfl rfl
   ·have hv:zN x=false:=by have z:=h3;unfold zN isK;simp only[cOr,pY]at z⊢;grind
    refine bB<|cRg ?_;have b1:k+1≤1000001:=aH hkB (aC 1);refine rW (vN (k+1)) rfl (okI (bV b1 rfl))<|oR 1 rfl<|rE 45 ?_;refine⟨k+1,λ s=>s,Weak.of_lists _ wT wH rfl,⟨by omega,Tk hk.2 hx hv⟩,by show i - (k+1)<i - k;omega⟩
  ·have h2p:=aD h2;have hN0:=hk.2;have hk0:(rob.take i).length≤k:=by rw[aN];omega
   refine eE<|yP<|yG rfl<|cRg<|oR 2 rfl<|rIx (enL e) (.dp 17 0 (enL e)) rfl rfl (iB he) rfl<|oR 4 rfl<|rIx (enL e) (.dp 17 0 (enL e)) rfl rfl (iB he) rfl<|oR 2 rfl<|rCi rfl (HA e.i)<|rAl 36 rfl rfl<|rAl 37 rfl rfl<|rSt rfl<|rSt rfl<|rE 40<|yP<|yG rfl<|Ym<|yP<|yP<|yG rfl<|cRg<|oR 2 rfl<|nW (.sl 17 ((rob.take i).map enL) (ck&&false)) rfl (wU (uX enL rob i)) slT<|oR 1 rfl<|rCi rfl (Qy (rob.take i) stores (ck&&false) ck2 htl hto hst hso)<|rE 45<|KW<|Qo (.mk _ (.refl _) ⟨⟨slotsF [(6,.ptr 0 0),(7,.ptr 1 0),(10,.ptr 2 0),(11,.ptr 3 0),(69,.clo 232 [] [.dp 1 0 ([.sl 17 ((rob.take i).map enL) (ck&&false)]),.dp 1 0 ([.sl 2 (stores.map ptL) ck2])])],heapF [(0,.box [vI 0]),(1,.box [.v (.string (⟨#[]⟩:ByteArray))]),(2,.box [vU e.addr]),(3,.box [vN (dC e.i.op)])],4⟩,λ s=>match s with|2=>36|3=>37|s=>s,Weak.of_lists _ wT wH rfl,rfl,?_⟩);refine .mk Std 232 [.dp 1 0 ([.sl 17 ((rob.take i).map enL) (ck&&false)]),.dp 1 0 ([.sl 2 (stores.map ptL) ck2])] (λ s:Std=>[.agg (sdL s)]) Ys (EY (rob.take i) stores) (λ s:Std=>EZ s.addr s.size e.addr (dC e.i.op)=false) rfl rfl ⟨_,Tryz.func232,rfl,rfl⟩ (Qx (rob.take i) stores (ck&&false) ck2 htl hto hst hso) (λ x S w β=>Db (show Io [.agg (sdL x)]=some _ from rfl)) (λ _=>rfl) rfl ?_ ?_
   ·intro pre_ s hp_ hN_;have hsk:=Tj hto hso hss (hp_.subset (List.mem_append_right _ (tO.2 rfl)));have hsz:s.size≤1000:=by omega
    have hne:dC e.i.op≤1000:=aM (tC e.i.op) (by decide);refine cRg<|rAl 4 rfl rfl<|rSt rfl<|rE 6 ?_;refine⟨rfl,?_⟩;refine bK<|bW<|cSR<|oR 6 rfl<|rCi rfl (Yr s.addr s.size e.addr (dC e.i.op) hsk.1 hsz heo.addr hne)<|oR 1 rfl<|rE 14<|aW rfl (λ h4=>?_) (λ h4=>?_)
    ·have hlp:EZ s.addr s.size e.addr (dC e.i.op)=false:=by simpa using h4
     refine eE ?_;exact⟨hlp,.mk _ (.refl _) ⟨λ s=>s,rfl,Weak.of_lists (l:=[]) (hp:=[(0,.box [vI 0]),(1,.box [.v (.string (⟨#[]⟩:ByteArray))]),(2,.box [vU e.addr]),(3,.box [vN (dC e.i.op)])]) (λ s=>s) trivial wH rfl⟩⟩
    ·have hlp:EZ s.addr s.size e.addr (dC e.i.op)=true:=by simpa using h4
     refine bB<|bW<|cSR<|oR 6 rfl<|rCi rfl (Wp s.addr s.size e.addr (dC e.i.op) hsk.1 hsz heo.addr hne)<|oR 2 rfl<|gN rfl<|gS rfl id<|gS rfl id<|cV rfl rfl rfl (by simp)<|rE 27<|aW rfl (λ h5=>?_) (λ h5=>?_)
     ·have hhd:Ei s.addr s.size e.addr (dC e.i.op)=false∨s.there=false:=by have z:=h5;simp only[cOr]at z;grind
      refine cSR<|rSt rfl<|rSt rfl<|rE 29<|cO<|.mk _ (.refl _) ⟨heapF [(0,.box [vI 0]),(1,.box [.v (.string (⟨#[]⟩:ByteArray))]),(2,.box [vU e.addr]),(3,.box [vN (dC e.i.op)])],λ s=>s,rfl,Weak.of_lists (l:=[]) (hp:=[(0,.box [vI 0]),(1,.box [.v (.string (⟨#[]⟩:ByteArray))]),(2,.box [vU e.addr]),(3,.box [vN (dC e.i.op)])]) (λ s=>s) trivial wH rfl,?_⟩;intro D;have e1:=(QA (stores:=stores) he hk3 hN0 hk0).trans ((Cp hp_ hN_ hlp).trans (if_pos hhd));rw[e1];exact fT rfl rfl
     ·have hhd: ¬ (Ei s.addr s.size e.addr (dC e.i.op)=false∨s.there=false):=by have z:=h5;simp only[cOr]at z;grind
      have hlh:s.addr≤e.addr∧e.addr+dC e.i.op≤s.addr+s.size:=by have z:=hhd;simp only[not_or,Bool.not_eq_false]at z;have y:=z.1;unfold Ei at y;simp only[aI,aP]at y;omega
      refine bB<|cSR<|oR 3 rfl<|rW (vU (e.addr - s.addr)) rfl (okI (ZI hlh.1 heo.addr))<|rW (vN (e.addr - s.addr)) rfl (okI (bV (aM (jQ _ _) heo.addr) rfl))<|oR 1 rfl<|rE 33<|bW<|ES rfl rfl<|oR 5 rfl ?_;have b2:(e.addr - s.addr)+(dC e.i.op)≤4294967299:=aH (aM (jQ _ _) heo.addr) (tC e.i.op);refine rW (vN ((e.addr - s.addr)+(dC e.i.op))) rfl (okI (bV b2 rfl))<|nW (.v (.string (s.data.extract (e.addr - s.addr) ((e.addr - s.addr)+(dC e.i.op))))) rfl rfl (by refine⟨?_,?_,?_⟩<;>(first|exact aG _|decide|(apply EJ.2;exact omT)))<|rSt rfl<|rSt rfl<|rE 42<|And.intro (by kernel_rfl)<|cO<|.mk _ (.refl _) ⟨heapF [(0,.box [vI 1]),(1,.box [.v (.string (s.data.extract (e.addr - s.addr) ((e.addr - s.addr)+(dC e.i.op))))]),(2,.box [vU e.addr]),(3,.box [vN (dC e.i.op)])],λ s=>s,rfl,Weak.of_lists (l:=[]) (hp:=[(0,.box [vI 1]),(1,.box [.v (.string (s.data.extract (e.addr - s.addr) ((e.addr - s.addr)+(dC e.i.op))))]),(2,.box [vU e.addr]),(3,.box [vN (dC e.i.op)])]) (λ s=>s) trivial wH rfl,?_⟩;intro D;have e1:=(QA (stores:=stores) he hk3 hN0 hk0).trans ((Cp hp_ hN_ hlp).trans (if_neg hhd));rw[e1];exact fT rfl rfl
   ·intro hN D;refine yP<|yG rfl<|cRg<|rSt rfl<|rSt rfl<|rE 6<|yG rfl<|cO ?_;have e1:=(QA (stores:=stores) he hk3 hN0 hk0).trans (CJ hN);rw[e1];exact fT rfl rfl
section
variable {α:Type}{f:α→List AV}{A l B:List α}{lo:Nat}
theorem jK{x:α}{i:Nat}(hlo:A.length=lo)(hx:l[i]?=some x):(A++l++B)[lo+i]?=some x:=by
 have hi:=(Dq.1 hx).1;rw[fC,bQ omT, ←hlo,Nat.add_sub_cancel_left,cI hi,hx]
theorem tB{n:Nat}(hlo:A.length=lo)(hn:l.length=n):List.take n (List.drop lo ((A++l++B).map f))=l.map f:=by
 subst hlo;subst hn;rw[←lX, ←fV];congr 1;rw[fC,List.drop_left,List.take_left]
theorem Vr{x:α}{i:Nat}(hlo:A.length=lo)(hi:i<l.length):(A++l++B).set (lo+i) x=A++l.set i x++B:=by
 subst hlo;rw[fC,iK _ _ omT,Nat.add_sub_cancel_left,List.set_append_left _ _ hi,fC]
theorem tT{x:α}{i:Nat}{h:AH}{b rs:Nat}(hlo:A.length=lo)(hi:i<l.length):some (upd h b (some (.arr (((A++l++B).map f).set (lo+i) (f x)) rs)))=some (upd h b (some (.arr ((A++l.set i x++B).map f) rs))):=by
 rw[←List.map_set,Vr hlo hi]
end
theorem Si(op:Int)(s:ByteArray):loadP op s≤4294967295:=by
 unfold loadP;split
 ·rename_i h;have h4:s.size≤4:=by have:=tC op;omega
  have:=Ep s h4;split
  ·exact aR (Kr _ _ omT)
  ·split
   ·exact aR (Kr _ _ omT)
   ·omega
 ·exact aE _
theorem Pe{e:Ent}(he:e.ok){a b:Nat}(ha:a≤4294967295)(hb:b≤4294967295):(oU e a b).ok:=by
 have hv:tJ e a b≤4294967295:=by
  unfold tJ;split
  ·exact aE _
  ·exact aR (VU _ _ _ _ _ (BA he.imm) (BA ha) (BA hb))
 have hu:up4 e.pc≤4294967295:=by unfold up4;omega
 have hx:wF e.i.op e.i.imm e.pc a b≤4294967295:=aR (Mf _ _ _ _ _);unfold oU
 repeat' split
 all_goals first|exact he|exact⟨he.pc,he.imm,he.guess,hv,hu,he.addr⟩|exact⟨he.pc,he.imm,he.guess,hv,hx,he.addr⟩|exact⟨he.pc,he.imm,he.guess,aE _,hu,he.addr⟩
theorem Pf{e:Ent}(he:e.ok):(goE e).ok:=by
 unfold goE;repeat' split
 all_goals first|exact he|exact⟨he.pc,he.imm,he.guess,he.value,he.next,he.addr⟩
theorem Hf{e:Ent}(he:e.ok)(size:Int)(a:Nat):(qL e size a).ok:=by
 have hx:(a+e.i.imm) % 4294967296≤4294967295:=by omega
 unfold qL;repeat' split
 all_goals first|exact he|exact⟨he.pc,he.imm,he.guess,he.value,he.next,hx⟩
theorem Hg{e:Ent}(he:e.ok)(s:ByteArray):(rL e s).ok:=by
 have hl:loadP e.i.op s≤4294967295:=Si e.i.op s;unfold rL;split
 ·exact he
 ·refine⟨he.pc,he.imm,he.guess,?_,he.next,he.addr⟩;show (if wr e.i=0 then 0 else loadP e.i.op s)≤_;split<;>omega
theorem Jd(rob:List Ent)(stores:List Pt)(i:Nat):(kZ rob stores i).2.size≤100:=by
 have hs:∀ (l:List Std) (a n:Nat),n≤4→(wE a n l).2.size≤100:=by
  intro l a n hn
  induction l with
  |nil=>exact aE _
  | cons s l ih=>
   unfold wE;split
   ·exact ih
   ·split
    ·exact aE _
    ·show (s.data.extract _ _).size≤100;rw[eF];omega
 unfold kZ;split
 ·exact aE _
 ·split
  ·exact aE _
  ·split
   ·exact aE _
   ·exact hs _ _ _ (tC _)
theorem FJ{c:Co}(h:c.mem.size≤256)(e:Ent):(oF c e).size≤1000:=by
 unfold oF VS;split
 ·rw[eF];have:=LJ c.stores c.data c.bus c.mem;unfold VJ;omega
 ·exact aE _
theorem Je(q:List Req)(line:Nat)(k:Int):Lb q line [k]=Dl q line k:=by unfold Lb Dl;congr 1;funext x;simp
theorem Zc(c:Co)(nb:Nat)(hm:c.okM nb)(i:Nat)(hi:i<c.rob.length)(A B:List Ent)(lo n:Nat)(kR kF kS kT:Bool)(xF xT:List (List AV))(hlo:A.length=lo)(hn:c.rob.length=n)(hA:A.length+n+B.length≤1000):pV C0.P C0.G 167 [.ptr 0 0,vN i] (heapF [(0,.box (mcX c (.osl 1 lo n kR) (.sl 2 xF kF) (.sl 2 (c.stores.map ptL) kS) (.sl 9 xT kT))),(1,.arr ((A++(c).rob++B).map enL) 17)]) 2 (λ x h'=>x=.tup []∧h'=heapF [(0,.box (mcX (jT c i) (.osl 1 lo n kR) (.sl 2 xF kF) (.sl 2 (c.stores.map ptL) kS) (.sl 9 xT kT))),(1,.arr ((A++((jT c i)).rob++B).map enL) 17)]):=by
 refine HCall.intro (C:=C1) (s:=2) c1Ok.at Tryz.func167 rfl rfl (by kernel_rfl) rfl rfl<|cSR<|oR 6 rfl<|nW (.ptr2 1 (lo+i) 0) rfl rfl ixT ?_;obtain⟨x,hx⟩:∃ y_,c.rob[i]?=some y_:=⟨_,aA omT⟩;have hxo:=hm.ok.robo x (aB hx);refine rIx (enL x) (.agg (enL x)) rfl rfl (iB (jK hlo hx)) rfl<|rAl 10 rfl rfl<|rSt rfl<|rE 12<|bW<|cSR<|oR 3 rfl<|rE 15<|aW rfl (λ h1=>?_) (λ h1=>?_)
 ·refine cO ?_;have e:jT c i=c:=by unfold jT;rw[hx];dsimp only;rw[if_pos (EX h1)];try rfl
  rw[e];exact pG (rs:=[]) rfl (σ:=λ z=>z) ⟨rfl,rfl⟩ rfl (cE (λ z=>z) rfl rfl wH rfl)
 ·refine bB<|cSR<|oR 11 rfl<|rCl (x:=.tup [vI ((kZ c.rob c.stores i).1),.v (.string ((kZ c.rob c.stores i).2))]) rfl (.inr ⟨rfl,⟨(by show lo+n≤((A++c.rob++B).map enL).length;exact omT),trivial,trivial,trivial⟩⟩) ((show bX C0 207 [.sl 17 (List.take n (List.drop lo ((A++c.rob++B).map enL))) kR,.sl 2 (c.stores.map ptL) kS,vN i] _ from by rw[tB (l:=c.rob) hlo (by first|exact hn|(rw[bT];exact hn)|(simp only[bT];exact hn))];exact Wr c.rob c.stores kR kS i hm.rob hm.ok.robo hm.sto hm.ok.stoo hm.std hi))<|oR 5 rfl<|rE 32<|cSR<|oR 2 rfl<|rCi rfl (sU x.addr hxo.addr)<|oR 1 rfl<|rE 36<|bK<|cSR<|oR 1 rfl<|rV (vB (((kZ c.rob c.stores i).1)==1)) rfl<|oR 1 rfl<|rE 39<|aW rfl (λ h2=>?_) (λ h2=>?_)
  ·have h2p:=mU h2;refine cRg<|oR 8 rfl<|rCi rfl (Qu x ((kZ c.rob c.stores i).2) hxo (bM (Jd c.rob c.stores i) (by decide)))<|nW (.ptr2 1 (lo+i) 0) rfl rfl ixT ?_;refine nI (enL x) (h':=upd _ 1 (some (.arr ((A++(c.rob.set i (rL x ((kZ c.rob c.stores i).2)))++B).map enL) 17))) rfl rfl rfl (⟨aG _,iB ((jK hlo hx))⟩) (tT (f:=enL) (x:=(rL x ((kZ c.rob c.stores i).2))) (l:=c.rob) (i:=i) hlo omT)<|rE 50 ?_;have e:jT c i=setE c i (rL x ((kZ c.rob c.stores i).2)):=by unfold jT;rw[hx];dsimp only;rw[if_neg (rI h1),if_pos h2p];try rfl
   rw[e];exact pG (rs:=[]) rfl (σ:=λ z=>z) ⟨rfl,rfl⟩ rfl (cE (λ z=>z) rfl rfl wH rfl)
  ·have h2p:=mV h2;refine cSR<|oR 1 rfl<|rV (vB (((kZ c.rob c.stores i).1) != 2)) rfl<|oR 1 rfl<|rE 42<|aW rfl (λ h3=>?_) (λ h3=>?_)
   ·have h3p:=vH h3;refine cO ?_;have e:jT c i=c:=by unfold jT;rw[hx];dsimp only;rw[if_neg (rI h1),if_neg h2p,if_pos h3p];try rfl
    rw[e];exact pG (rs:=[]) rfl (σ:=λ z=>z) ⟨rfl,rfl⟩ rfl (cE (λ z=>z) rfl rfl wH rfl)
   ·have h3p:=vJ h3;refine cSR<|oR 2 rfl<|fW (args:=[.ptr 0 0,vU (lineOf x.addr)]) (d:=56) _ rfl rfl rfl (pV.of_dcall (C:=C0) (show bX C0 208 [.dp 64 0 (mcX c (.sl 17 (List.take n (List.drop lo ((A++c.rob++B).map enL))) kR) (.sl 2 xF kF) (.sl 2 (c.stores.map ptL) kS) (.sl 9 xT kT)),vU (lineOf x.addr)] _ from by rw[tB (l:=c.rob) hlo (by first|exact hn|(rw[bT];exact hn)|(simp only[bT];exact hn))];exact Vs c nb hm (.sl 2 xF kF) (.sl 2 (c.stores.map ptL) kS) (.sl 9 xT kT) kR (lineOf x.addr) (dR hxo.addr)) (by rfl) (by exact⟨⟨rfl,(r4 (r4 (r4 (r4 (r4 (r4 (r4 (r4 (r4 (r4 (r4 (r4 ⟨(by show lo+n≤((A++c.rob++B).map enL).length;simp only[aF,aV,bT];omega),tvT⟩))))))))))))⟩,trivial,trivial⟩) (by rfl)) ?_;rintro _ _ ⟨rfl,rfl⟩;refine oR 1 rfl<|rE 46<|aW rfl (λ h4=>?_) (λ h4=>?_)
    ·refine cRg<|oR 9 rfl<|rCl rfl (.inr ⟨rfl,⟨trivial,tvT,trivial⟩⟩) (LK c nb hm .any (.sl 2 xF kF) (.sl 9 xT kT) kS x hxo)<|rCi rfl (Qu x (oF c x) hxo (by have:=FJ (c:=c) (by have:=hm.mem;omega) x;omega))<|nW (.ptr2 1 (lo+i) 0) rfl rfl ixT ?_;refine nI (enL x) (h':=upd _ 1 (some (.arr ((A++(c.rob.set i (rL x (oF c x)))++B).map enL) 17))) rfl rfl rfl (⟨aG _,iB ((jK hlo hx))⟩) (tT (f:=enL) (x:=(rL x (oF c x))) (l:=c.rob) (i:=i) hlo omT)<|rE 59 ?_;have e:jT c i=setE c i (rL x (oF c x)):=by unfold jT;rw[hx];dsimp only;rw[if_neg (rI h1),if_neg h2p,if_neg (λ q=>q h3p),if_pos h4];try rfl
     rw[e];exact pG (rs:=[]) rfl (σ:=λ z=>z) ⟨rfl,rfl⟩ rfl (cE (λ z=>z) rfl rfl wH rfl)
    ·refine cSR<|oR 6 rfl<|rV (.sl 1 ([[vI 1]]) true) rfl<|rCl (x:=vB (Dl c.bus (lineOf x.addr) 1)) rfl (.inl rfl) ((show bX C0 _ [_,_,.sl 1 ([(1:Int)].map iL) true] _ from by rw[←Je];exact Qt c.bus (lineOf x.addr) [1] false true (by have:=hm.bus;omega) (λ x hx=>(hm.ok.buso x hx).line) (dR hxo.addr) (by decide)))<|oR 1 rfl<|rE 55<|aW rfl (λ h5=>?_) (λ h5=>?_)
     ·refine cRg<|oR 6 rfl<|nW (.ptr2 1 (lo+i) 0) rfl rfl ixT<|oR 1 rfl ?_;refine nI (enL x) (h':=upd _ 1 (some (.arr ((A++(c.rob.set i (⟨x.no,x.pc,⟨x.i.op,x.i.rd,x.i.rs1,x.i.rs2,x.i.imm⟩,x.guess,2,x.left,x.value,x.next,x.addr,x.halt,x.took,x.known,x.filled⟩:Ent))++B).map enL) 17))) rfl rfl rfl (⟨aG _,iB ((jK hlo hx))⟩) (tT (f:=enL) (x:=(⟨x.no,x.pc,⟨x.i.op,x.i.rd,x.i.rs1,x.i.rs2,x.i.imm⟩,x.guess,2,x.left,x.value,x.next,x.addr,x.halt,x.took,x.known,x.filled⟩:Ent)) (l:=c.rob) (i:=i) hlo omT)<|rE 64 ?_;have e:jT c i=setE c i (⟨x.no,x.pc,⟨x.i.op,x.i.rd,x.i.rs1,x.i.rs2,x.i.imm⟩,x.guess,2,x.left,x.value,x.next,x.addr,x.halt,x.took,x.known,x.filled⟩:Ent):=by unfold jT;rw[hx];dsimp only;rw[if_neg (rI h1),if_neg h2p,if_neg (λ q=>q h3p),if_neg (by rw[h4];decide),if_pos h5];try rfl
      rw[e];exact pG (rs:=[]) rfl (σ:=λ z=>z) ⟨rfl,rfl⟩ rfl (cE (λ z=>z) rfl rfl wH rfl)
     ·refine cSR<|oR 7 rfl<|rCl (x:=vB (uC c.rob i)) rfl (.inr ⟨rfl,⟨(by show lo+n≤((A++c.rob++B).map enL).length;exact omT),trivial,trivial⟩⟩) ((show bX C0 206 [.sl 17 (List.take n (List.drop lo ((A++c.rob++B).map enL))) kR,vN i] _ from by rw[tB (l:=c.rob) hlo (by first|exact hn|(rw[bT];exact hn)|(simp only[bT];exact hn))];exact LM c.rob kR i hm.rob hm.ok.robo (by have:=hm.rob;omega)))<|fW (args:=[.ptr 0 0,vB (uC c.rob i)]) (d:=95) _ rfl rfl rfl (pV.of_dcall (C:=C0) (show bX C0 116 [.dp 64 0 (mcX c (.sl 17 (List.take n (List.drop lo ((A++c.rob++B).map enL))) kR) (.sl 2 xF kF) (.sl 2 (c.stores.map ptL) kS) (.sl 9 xT kT)),vB (uC c.rob i)] _ from by rw[tB (l:=c.rob) hlo (by first|exact hn|(rw[bT];exact hn)|(simp only[bT];exact hn))];exact Sj c nb hm (.sl 17 (c.rob.map enL) kR) (.sl 2 xF kF) (.sl 2 (c.stores.map ptL) kS) (.sl 9 xT kT) (uC c.rob i)) (by rfl) (by exact⟨⟨rfl,(r4 (r4 (r4 (r4 (r4 (r4 (r4 (r4 (r4 (r4 (r4 (r4 ⟨(by show lo+n≤((A++c.rob++B).map enL).length;simp only[aF,aV,bT];omega),tvT⟩))))))))))))⟩,trivial,trivial⟩) (by rfl)) ?_;rintro _ _ ⟨rfl,rfl⟩;refine oR 1 rfl<|gN rfl<|gS rfl id<|gS rfl id<|gS rfl id<|gS rfl id<|gN rfl<|gB (x:=.sl 1 ([[vI 3]]) true) rfl rfl<|kM (args:=[.sl 4 (c.bus.map rqL) false,vU (lineOf x.addr),.sl 1 ([[vI 3]]) true]) (x:=vB (Dl c.bus (lineOf x.addr) 3)) (g:=qJ c (uC c.rob i)) rfl rfl rfl rfl hsT rfl rfl rfl (.inl rfl) rfl (λ hg=>(show bX C0 _ [_,_,.sl 1 ([(3:Int)].map iL) true] _ from by rw[←Je];exact Qt c.bus (lineOf x.addr) [3] false true (by have:=hm.bus;omega) (λ x hx=>(hm.ok.buso x hx).line) (dR hxo.addr) (by decide)))<|gS rfl id<|cV rfl rfl rfl (λ h=>h)<|oR 1 rfl<|rE 76<|aW rfl (λ h6=>?_) (λ h6=>?_)
      ·refine cSR<|oR 2 rfl<|fW (args:=[.ptr 0 0,vI 1,vU (lineOf x.addr),.v (.string (⟨#[]⟩:ByteArray))]) (d:=109) _ rfl rfl rfl ((Zd c nb hm 1 (lineOf x.addr) (⟨#[]⟩:ByteArray) (dR hxo.addr) lo n kR ((A++c.rob++B).map enL) kF xF kS (c.stores.map ptL) kT xT).frameB (λ z=>z) _ _ rfl ⟨⟨rfl,rfl,rfl,rfl⟩,⟨rfl,rfl,rfl,rfl⟩,trivial⟩ rfl rfl rfl rfl) ?_;rintro _ _ ⟨rfl,rfl⟩;refine rE 79<|cRg<|oR 6 rfl<|nW (.ptr2 1 (lo+i) 0) rfl rfl ixT<|oR 1 rfl ?_;refine nI (enL x) (h':=upd _ 1 (some (.arr ((A++(c.rob.set i (⟨x.no,x.pc,⟨x.i.op,x.i.rd,x.i.rs1,x.i.rs2,x.i.imm⟩,x.guess,2,x.left,x.value,x.next,x.addr,x.halt,x.took,x.known,x.filled⟩:Ent))++B).map enL) 17))) rfl rfl rfl (⟨aG _,iB ((jK hlo hx))⟩) (tT (f:=enL) (x:=(⟨x.no,x.pc,⟨x.i.op,x.i.rd,x.i.rs1,x.i.rs2,x.i.imm⟩,x.guess,2,x.left,x.value,x.next,x.addr,x.halt,x.took,x.known,x.filled⟩:Ent)) (l:=c.rob) (i:=i) hlo omT)<|rE 88 ?_;have e:jT c i=setE (iO c 1 (lineOf x.addr) (⟨#[]⟩:ByteArray)) i (⟨x.no,x.pc,⟨x.i.op,x.i.rd,x.i.rs1,x.i.rs2,x.i.imm⟩,x.guess,2,x.left,x.value,x.next,x.addr,x.halt,x.took,x.known,x.filled⟩:Ent):=by unfold jT;rw[hx];dsimp only;rw[if_neg (rI h1),if_neg h2p,if_neg (λ q=>q h3p),if_neg (by rw[h4];decide),if_neg (by rw[h5];decide),if_pos (by have z:=h6;simp only[pY]at z;simpa using z)];try rfl
       rw[e];exact pG (rs:=[]) rfl (σ:=λ z=>z) ⟨rfl,rfl⟩ rfl (cE (λ z=>z) rfl rfl wH rfl)
      ·refine bB ?_;have e:jT c i=c:=by unfold jT;rw[hx];dsimp only;rw[if_neg (rI h1),if_neg h2p,if_neg (λ q=>q h3p),if_neg (by rw[h4];decide),if_neg (by rw[h5];decide),if_neg (by have z:=h6;simp only[pY]at z;simpa using z)];try rfl
       rw[e];exact pG (rs:=[]) rfl (σ:=λ z=>z) ⟨rfl,rfl⟩ rfl (cE (λ z=>z) rfl rfl wH rfl)
theorem pV.frameB2{P:Program}{G:Nat→Option (List AV)}{f:FuncId}{args:List AV}{b0 b1 c0 c1:Blk}{L:List (Nat×Blk)}{s:Nat}{r:AV}(H:pV P G f args (heapF ((0,b0)::(1,b1)::L)) s (λ x h'=>x=r∧h'=heapF ((0,c0)::(1,c1)::L)))(ρ:Nat→Nat)(K:AH)(s2:Nat)(hfull:CV (heapF ((0,b0)::(1,b1)::L)) s=true)(hL:FrL ρ K s s2 ((0,b0)::(1,b1)::L))(hi:Tc ρ s=true)(ha:mJ s args=true)(hr:eL r=true)(hb0:qF s c0=true)(hb1:qF s c1=true):
  pV P G f (Au ρ args) K s2 (λ x h'=>x=r∧h'=upd (upd K (ρ 0) (some (CO ρ c0))) (ρ 1) (some (CO ρ c1))):=by
 have hs:1<s:=aO hL.2.1.2.1;refine H.frameL ρ K s2 hfull hL hi ha _ λ r' h' hP=>?_;obtain⟨rfl,rfl⟩:=hP;refine⟨_,⟨xX _ _ hr,rfl⟩,λ y blk hy=>?_⟩;by_cases he1:y=ρ 1
 ·subst he1;rw[cY]at hy;injection hy with hy;exact .inl ⟨1,c1,rfl,(qW ρ omT).symm,by rw[←hy,xC ρ s s2 c1 hb1]⟩
 rw[cD _ _ he1]at hy;by_cases he:y=ρ 0
 ·subst he;rw[cY]at hy;injection hy with hy;exact .inl ⟨0,c0,rfl,(qW ρ omT).symm,by rw[←hy,xC ρ s s2 c0 hb0]⟩
 ·rw[cD _ _ he]at hy;by_cases hx:∃ x,x<s∧ρ x=y
  ·obtain⟨x,hxs,rfl⟩:=hx;have hx0:x≠0:=λ e=>he (by rw[e]);have hx1:x≠1:=λ e=>he1 (by rw[e]);obtain⟨blk0,hb⟩:=Da.1 (tN hfull x hxs);have hk:=hL.get x blk0 hb;rw[hk.2.2.2]at hy;injection hy with hy;refine .inl ⟨x,blk0,?_,(qW ρ omT).symm,?_⟩
   ·have q0:Nat.beq 0 x=false:=by rw[←eJ];exact λ e=>hx0 (aK e).symm
    have q1:Nat.beq 1 x=false:=by rw[←eJ];exact λ e=>hx1 (aK e).symm
    simp only[heapF,q0,q1]at hb⊢;exact hb
   ·rw[←hy];exact (xC ρ s s2 blk0 hk.2.2.1).symm
  ·exact .inr ⟨hy,λ x hxs e=>hx ⟨x,hxs,e⟩⟩
theorem vW{c:Co}{n:Nat}(h:c.okM n)(i:Nat){e:Ent}(he:e.ok):(setE c i e).okM n:=by
 have hl:(c.rob.set i e).length=c.rob.length:=bT ..;exact⟨⟨h.ok.conf,h.ok.prog,h.ok.progo,h.ok.r,h.ok.fetch,h.ok.fet,h.ok.feto,by show (c.rob.set i e).length≤_;rw[hl];exact h.ok.rob,xW (P:=Ent.ok) h.ok.robo he,h.ok.sto,h.ok.stoo,h.ok.data,h.ok.words,h.ok.bus,h.ok.buso,h.ok.asked,h.ok.guessed,h.ok.mem,h.ok.guess,h.ok.ret,h.ok.reto⟩,h.nb,h.cf,h.data,h.words,h.guess,by show (c.rob.set i e).length≤_;rw[hl];exact h.rob,h.fet,h.sto,h.prog,h.mem,h.std⟩
theorem Ae{rob:List Ent}{r:Nat→Nat}(ho:∀ x∈rob,x.ok)(hr:∀ k,r k≤4294967295)(i:Nat):(lL rob r i).1≤4294967295∧(lL rob r i).2.1≤4294967295:=by
 unfold lL;split
 ·exact⟨Bv ho hr _ _,Bv ho hr _ _⟩
 ·exact⟨aE _,aE _⟩
theorem Ud(c:Co)(nb:Nat)(hm:c.okM nb)(i:Nat)(hi:i<c.rob.length)(A B:List Ent)(lo n:Nat)(kR kF kS kT:Bool)(xF xT:List (List AV))(hlo:A.length=lo)(hn:c.rob.length=n)(hA:A.length+n+B.length≤1000):pV C0.P C0.G 111 [.ptr 0 0,vN i] (heapF [(0,.box (mcX c (.osl 1 lo n kR) (.sl 2 xF kF) (.sl 2 (c.stores.map ptL) kS) (.sl 9 xT kT))),(1,.arr ((A++(c).rob++B).map enL) 17)]) 2 (λ x h'=>x=.tup []∧h'=heapF [(0,.box (mcX (eP c i) (.osl 1 lo n kR) (.sl 2 xF kF) (.sl 2 (c.stores.map ptL) kS) (.sl 9 xT kT))),(1,.arr ((A++((eP c i)).rob++B).map enL) 17)]):=by
 refine HCall.intro (C:=C1) (s:=2) c1Ok.at Tryz.func111 rfl rfl (by kernel_rfl) rfl rfl<|cSR<|oR 6 rfl<|nW (.ptr2 1 (lo+i) 0) rfl rfl ixT ?_;obtain⟨x,hx⟩:∃ y_,c.rob[i]?=some y_:=⟨_,aA omT⟩;have hxo:=hm.ok.robo x (aB hx);refine rIx (enL x) (.agg (enL x)) rfl rfl (iB (jK hlo hx)) rfl<|rAl 10 rfl rfl<|rSt rfl<|rE 12<|cSR<|oR 11 rfl<|rCl (x:=.tup [vU ((lL c.rob c.r i).1),vU ((lL c.rob c.r i).2.1),vB ((lL c.rob c.r i).2.2)]) rfl (.inr ⟨rfl,⟨(by show lo+n≤((A++c.rob++B).map enL).length;exact omT),tvT,trivial,trivial⟩⟩) ((show bX C0 164 [.sl 17 (List.take n (List.drop lo ((A++c.rob++B).map enL))) kR,.agg (Jl c.r),vN i] _ from by rw[tB (l:=c.rob) hlo (by first|exact hn|(rw[bT];exact hn)|(simp only[bT];exact hn))];exact Ue c.rob c.r kR i hm.rob hm.ok.robo hm.ok.r (by have:=hm.rob;omega)))<|oR 7 rfl<|rE 31<|cSR<|oR 2 rfl<|rCi rfl (qN x.i)<|rE 34<|bK<|cSR<|rW (vB ((kindOf x.i.op)==4)) rfl (okB (eqN _ _))<|oR 1 rfl<|rE 36<|aW rfl (λ h1=>?_) (λ h1=>?_)
 ·have h1p:=mU h1;refine cRg<|oR 12 rfl<|rV (vN c.mem.size) rfl<|oR 1 rfl<|rCi rfl (Us x ((c.mem.size:Nat):Int) ((lL c.rob c.r i).1) hxo (by have:=hm.mem;omega) (Ae hm.ok.robo hm.ok.r i).1)<|nW (.ptr2 1 (lo+i) 0) rfl rfl ixT ?_;refine nI (enL x) (h':=upd _ 1 (some (.arr ((A++(c.rob.set i (qL x ((c.mem.size:Nat):Int) ((lL c.rob c.r i).1)))++B).map enL) 17))) rfl rfl rfl (⟨aG _,iB ((jK hlo hx))⟩) (tT (f:=enL) (x:=(qL x ((c.mem.size:Nat):Int) ((lL c.rob c.r i).1))) (l:=c.rob) (i:=i) hlo omT)<|rE 53 ?_;have e:eP c i=setE c i (qL x ((c.mem.size:Nat):Int) ((lL c.rob c.r i).1)):=by unfold eP;rw[hx];dsimp only;rw[if_pos h1p]
  rw[e];exact pG (rs:=[]) rfl (σ:=λ z=>z) ⟨rfl,rfl⟩ rfl (cE (λ z=>z) rfl rfl wH rfl)
 ·have h1p:=mV h1;refine cSR<|rW (vB ((kindOf x.i.op)==3)) rfl (okB (eqN _ _))<|oR 1 rfl<|rE 38<|aW rfl (λ h2=>?_) (λ h2=>?_)
  ·have h2p:=mU h2;refine cSR<|oR 12 rfl<|rV (vN c.mem.size) rfl<|oR 1 rfl<|rCi rfl (Us x ((c.mem.size:Nat):Int) ((lL c.rob c.r i).1) hxo (by have:=hm.mem;omega) (Ae hm.ok.robo hm.ok.r i).1)<|nW (.ptr2 1 (lo+i) 0) rfl rfl ixT ?_;refine nI (enL x) (h':=upd _ 1 (some (.arr ((A++(c.rob.set i (qL x ((c.mem.size:Nat):Int) ((lL c.rob c.r i).1)))++B).map enL) 17))) rfl rfl rfl (⟨aG _,iB ((jK hlo hx))⟩) (tT (f:=enL) (x:=(qL x ((c.mem.size:Nat):Int) ((lL c.rob c.r i).1))) (l:=c.rob) (i:=i) hlo omT)<|rE 55<|cRg<|oR 2 rfl<|fW _ rfl rfl rfl ((Zc (setE c i (qL x ((c.mem.size:Nat):Int) ((lL c.rob c.r i).1))) nb (vW hm i (Hf hxo _ _)) i (by show i<(c.rob.set i _).length;rw[bT];exact hi) A B lo n kR kF kS kT xF xT hlo (by show (c.rob.set i _).length=n;rw[bT];exact hn) hA).frameB2 (λ z=>z) _ _ rfl ⟨⟨rfl,rfl,rfl,rfl⟩,⟨rfl,rfl,rfl,rfl⟩,trivial⟩ rfl rfl rfl rfl rfl) ?_;rintro _ _ ⟨rfl,rfl⟩;refine rE 58 ?_;have e:eP c i=jT (setE c i (qL x (c.mem.size:Int) (lL c.rob c.r i).1)) i:=by unfold eP;rw[hx];dsimp only;rw[if_neg h1p,if_pos h2p]
   rw[e];exact pG (rs:=[]) rfl (σ:=λ z=>z) ⟨rfl,rfl⟩ rfl (cE (λ z=>z) rfl rfl wH rfl)
  ·have h2p:=mV h2;refine cRg<|oR 9 rfl<|rCi rfl (Wm x ((lL c.rob c.r i).1) ((lL c.rob c.r i).2.1) hxo (Ae hm.ok.robo hm.ok.r i).1 (Ae hm.ok.robo hm.ok.r i).2)<|nW (.ptr2 1 (lo+i) 0) rfl rfl ixT ?_;refine nI (enL x) (h':=upd _ 1 (some (.arr ((A++(c.rob.set i (oU x ((lL c.rob c.r i).1) ((lL c.rob c.r i).2.1)))++B).map enL) 17))) rfl rfl rfl (⟨aG _,iB ((jK hlo hx))⟩) (tT (f:=enL) (x:=(oU x ((lL c.rob c.r i).1) ((lL c.rob c.r i).2.1))) (l:=c.rob) (i:=i) hlo omT)<|rE 50 ?_;have e:eP c i=setE c i (oU x ((lL c.rob c.r i).1) ((lL c.rob c.r i).2.1)):=by unfold eP;rw[hx];dsimp only;rw[if_neg h1p,if_neg h2p]
   rw[e];exact pG (rs:=[]) rfl (σ:=λ z=>z) ⟨rfl,rfl⟩ rfl (cE (λ z=>z) rfl rfl wH rfl)
structure WyG(n k:Nat)(w:Wy):Prop where
 line:lineOf w.line=w.line
 set:w.line / 16 % n=k
 data:w.data.size=0∨w.data.size=16
 le:w.line≤4294967295
structure SetG(n:Nat)(ways:Int)(k:Nat)(s:List Wy):Prop where
 len:(s.length:Int)≤ways
 way:∀ w∈s,WyG n k w
 one:(s.map (·.line)).Nodup
structure CaG(c:Ca):Prop where
 sets:c.sets.length=1∨c.sets.length=2∨c.sets.length=4
 ways:c.ways=1∨c.ways=2
 set:∀ k s,c.sets[k]?=some s→SetG c.sets.length c.ways k s
theorem Pa:∀ {s:List Wy} {line:Nat},jV s line=none↔∀ w∈s,w.line≠line
 |[],_=>by simp[jV]
 |w::l,line=>by
  unfold jV;by_cases h:w.line=line
  ·rw[if_pos h];simp[h]
  ·rw[if_neg h,Option.map_eq_none_iff,Pa];simp[h]
theorem Vq:∀ {s:List Wy},(∀ i x,s[i]?=some x→jV (s.take i) x.line=none)↔(s.map (·.line)).Nodup:=by
 intro s;rw[List.nodup_iff_pairwise_ne,List.pairwise_map,List.pairwise_iff_getElem];constructor
 ·intro h i j hi hj hij e;exact Pa.1 (h j s[j] (aA hj)) s[i] (aB (i:=i) (by rw[cP,if_pos hij,aA hi])) e
 ·intro h j x hx;obtain⟨hj,rfl⟩:=Dq.1 hx;refine Pa.2 λ w hw=>?_;obtain⟨i,hi,rfl⟩:=eA hw;rw[aN]at hi;rw[List.getElem_take];exact h i j omT hj omT
theorem Zb{c:Ca}:CaG c↔fR c=true∧c.ok:=by
 constructor
 ·intro h;refine⟨(jN c).2 ⟨⟨h.sets,h.ways⟩,λ k s hs=>(jU c k s).2 ?_⟩,⟨by have:=h.sets;omega,λ s hs=>?_⟩⟩
  ·have g:=h.set k s hs;refine⟨g.len,λ i x hx=>?_⟩;have gw:=g.way x (aB hx);exact⟨gw.line,gw.set,gw.data,Vq.2 g.one i x hx⟩
  ·obtain⟨k,hk,rfl⟩:=eA hs;have g:=h.set k _ (aA hk);refine⟨by have:=g.len;have:=h.ways;omega,λ x hx=>⟨(g.way x hx).le⟩⟩
 ·rintro ⟨h,ok⟩;obtain⟨⟨h1,h2⟩,h3⟩:=(jN c).1 h;refine⟨h1,h2,λ k s hs=>?_⟩;obtain⟨g1,g2⟩:=(jU c k s).1 (h3 k s hs);refine⟨g1,λ w hw=>?_,Vq.1 λ i x hx=>(g2 i x hx).2.2.2⟩;obtain⟨i,hi,rfl⟩:=eA hw;have g:=g2 i _ (aA hi);exact⟨g.1,g.2.1,g.2.2.1,((ok.set s (aB hs)).2 _ hw).line⟩
theorem CaG.with{c:Ca}(h:CaG c){k:Nat}{s:List Wy}(hs:SetG c.sets.length c.ways k s):CaG (oW c k s):=by
 have hl:(c.sets.set k s).length=c.sets.length:=bT ..;refine⟨by show (c.sets.set k s).length=1∨(c.sets.set k s).length=2∨(c.sets.set k s).length=4;rw[hl];exact h.sets,h.ways,λ j t ht=>?_⟩;show SetG (c.sets.set k s).length c.ways j t;rw[hl];rw[show (oW c k s).sets=c.sets.set k s from rfl,mN]at ht;split at ht
 ·rename_i e;subst e;split at ht
  ·injection ht with ht;subst ht;exact hs
  ·cases ht
 ·exact h.set j t ht
theorem DW{α:Type}{l:List α}{k:Nat}(h:k<l.length):(eY l k).Perm l:=by
 unfold eY;rw[aA h];show ([l[k]]++l.take k++l.drop (k+1)).Perm l;rw[List.singleton_append,nQ];refine (List.perm_middle.symm).trans ?_;rw[←cQ h,fZ]
theorem SetG.perm{n:Nat}{ways:Int}{k:Nat}{s t:List Wy}(h:SetG n ways k s)(p:t.Perm s):SetG n ways k t:=
 ⟨by rw[p.length_eq];exact h.len,λ w hw=>h.way w (p.mem_iff.1 hw),(p.map _).nodup_iff.2 h.one⟩
theorem SetG.modHd{n:Nat}{ways:Int}{k:Nat}{s:List Wy}(h:SetG n ways k s){f:Wy→Wy}(hf:∀ w∈s,(f w).line=w.line∧((f w).data.size=0∨(f w).data.size=16)):SetG n ways k (modHd f s):=by
 cases s with
 |nil=>exact h
 | cons x l=>
  have hx:=hf x (bD ..);have g:=h.way x (bD ..);refine⟨h.len,λ w hw=>?_,?_⟩
  ·rcases al_List_mem_cons.1 hw with rfl|hw
   ·exact⟨by rw[hx.1];exact g.line,by rw[hx.1];exact g.set,hx.2,by rw[hx.1];exact g.le⟩
   ·exact h.way w (bF _ hw)
  ·show ((f x).line::l.map (·.line)).Nodup;rw[hx.1];exact h.one
theorem CaG.at{c:Ca}(h:CaG c){k:Nat}(hk:k<c.sets.length):SetG c.sets.length c.ways k (oD c k):=by
 rw[uB (aA hk)];exact h.set k _ (aA hk)
theorem CaG.touch{c:Ca}(h:CaG c)(line:Nat):CaG (mG c line):=by
 by_cases hF:(bE c line).2.isSome=true
 ·rw[CB hF];have ff:=pN hF;exact h.with ((h.at ff.2.2.1).perm (DW ff.2.2.2))
 ·rw[CD (by simpa using hF)];exact h
theorem Pb(d:ByteArray):(dB d).size=0∨(dB d).size=16:=by
 unfold dB;split
 ·right;assumption
 ·left;rfl
theorem CaG.put{c:Ca}(h:CaG c){line:Nat}(hl:line≤4294967295)(d:ByteArray)(b:Bool):CaG (nP c line d b).1:=by
 have hR:=(Zb.1 h).1;by_cases hF:(bE c line).2.isSome=true
 ·rw[Bx hF];have ff:=pN hF;have g:=(h.at ff.2.2.1).perm (DW ff.2.2.2);refine h.with (g.modHd λ w hw=>⟨rfl,?_⟩);show (if (dB d).size=0 then w.data else dB d).size=0∨_;split
  ·exact (g.way w hw).data
  ·exact Pb d
 ·have hF':(bE c line).2.isSome=false:=by simpa using hF
  rw[Aj hR hF'];have e:=qV (line:=line) hR;have hk:(bE c line).1<c.sets.length:=by rw[e];exact Ah (kE hR).1 _
  have hn:jV (oD c (bE c line).1) (lineOf line)=none:=by rw[e]at hF' ⊢;simpa using hF'
  have g:=h.at hk;have gw:WyG c.sets.length (bE c line).1 ⟨lineOf line,b,dB d⟩:=⟨by show lineOf (lineOf line)=lineOf line;unfold lineOf;omega,by rw[e];rfl,Pb d,dR hl⟩;split
  ·rename_i hw;refine h.with ⟨?_,λ w hw=>?_,?_⟩
   ·have:=h.ways;rw[bN,nY];omega
   ·rcases al_List_mem_cons.1 hw with rfl|hw
    ·exact gw
    ·exact g.way w (nZ _ hw)
   ·rw[jF,List.nodup_cons];refine⟨λ hm=>?_,g.one.sublist ((List.dropLast_sublist _).map _)⟩;obtain⟨w,hw,e⟩:=rQ.1 hm;exact Pa.1 hn w (nZ _ hw) e
  ·rename_i hw;refine h.with ⟨?_,λ w hw=>?_,?_⟩
   ·have:=g.len;rw[bN];push_cast;omega
   ·rcases al_List_mem_cons.1 hw with rfl|hw
    ·exact gw
    ·exact g.way w hw
   ·rw[jF,List.nodup_cons];refine⟨λ hm=>?_,g.one⟩;obtain⟨w,hw,e⟩:=rQ.1 hm;exact Pa.1 hn w hw e
theorem Nc{d b:ByteArray}{a:Nat}(h:b.size+a≤d.size):(Ek d a b).size=d.size:=by
 unfold Ek;simp only[kB,eF];omega
theorem CaG.write{c:Ca}(h:CaG c)(a:Nat)(b:ByteArray):CaG (qM c a b).1:=by
 by_cases hF:(bE c a).2.isSome=true
 ·have ff:=pN hF;rw[zK b hF rfl (aA ff.2.2.2)];split
  ·exact h
  ·rename_i hq;have g:=(h.at ff.2.2.1).perm (DW ff.2.2.2);have hd:=(h.at ff.2.2.1).way _ (lG ff.2.2.2);have hd2:=hd.data;have e:eY (oD c (bE c a).1) ((bE c a).2.getD 0)=(oD c (bE c a).1)[(bE c a).2.getD 0]::((oD c (bE c a).1).take ((bE c a).2.getD 0)++(oD c (bE c a).1).drop ((bE c a).2.getD 0+1)):=by
    unfold eY;rw[aA ff.2.2.2];rfl
   refine h.with ?_;rw[e]at g⊢;have g1:=g.way _ (bD ..);refine⟨g.len,λ w hw=>?_,g.one⟩;rcases al_List_mem_cons.1 hw with rfl|hw
   ·refine⟨g1.line,g1.set,.inr ?_,g1.le⟩;show (Ek _ _ _).size=16;rw[Nc omT];omega
   ·exact g.way w (bF _ hw)
 ·rw[FQ b (by simpa using hF)];exact h
theorem CaG.clean{c:Ca}(h:CaG c)(line:Nat):CaG (oH c line):=by
 by_cases hF:(bE c line).2.isSome=true
 ·have ff:=pN hF;rw[CE hF rfl];have g:=h.at ff.2.2.1;have hm:(((oD c (bE c line).1).modify ((bE c line).2.getD 0) λ w=>{w with dirty:=false}).map (·.line))=(oD c (bE c line).1).map (·.line):=by
   apply dD;intro i;simp only[aZ,oA];split<;>simp[Option.map_map,Function.comp_def]
  refine h.with ⟨by rw[List.length_modify];exact g.len,λ w hw=>?_,by rw[hm];exact g.one⟩;obtain⟨i,hi⟩:=List.getElem?_of_mem hw;rw[oA]at hi;obtain⟨v,hv,rfl⟩:=Fg.1 hi;have gv:=g.way v (aB hv);split
  ·exact⟨gv.line,gv.set,gv.data,gv.le⟩
  ·exact gv
 ·rw[CF (by simpa using hF)];exact h
theorem CaG.dirty{c:Ca}(h:CaG c){w:Wy}(hw:cM c=some w):w.line≤4294967295:=by
 unfold cM at hw;split at hw
 ·have:=List.mem_of_find?_eq_some hw;obtain⟨s,hs,hw⟩:=List.mem_flatten.1 this;obtain⟨k,hk,rfl⟩:=eA hs;exact ((h.set k _ (aA hk)).way w hw).le
 ·cases hw
theorem LI{q:List Req}(h:∀ x∈q,x.ok){kind:Int}{line:Nat}{left:Int}{d:ByteArray}(hl:line≤4294967295):∀ x∈xZ q kind line left d,x.ok:=by
 intro x hx;unfold xZ at hx;rcases al_List_mem_append.1 hx with hx|hx
 ·exact h x hx
 ·rw[tO.1 hx];exact⟨hl⟩
theorem Jc(q:List Req)(kind:Int)(line:Nat)(left:Int)(d:ByteArray):(xZ q kind line left d).length=q.length+1:=by unfold xZ;simp
theorem Co.okM.gd{c:Co}{n:Nat}(h:c.okM n):CaG c.data:=Zb.2 ⟨h.data,h.ok.data⟩
theorem Co.okM.gw{c:Co}{n:Nat}(h:c.okM n):CaG c.words:=Zb.2 ⟨h.words,h.ok.words⟩
theorem Co.okM.mono{c:Co}{n m:Nat}(h:c.okM n)(hm:n≤m)(hb:m≤890000):c.okM m:=
 ⟨⟨h.ok.conf,h.ok.prog,h.ok.progo,h.ok.r,h.ok.fetch,h.ok.fet,h.ok.feto,h.ok.rob,h.ok.robo,h.ok.sto,h.ok.stoo,h.ok.data,h.ok.words,aM h.ok.bus hm,h.ok.buso,h.ok.asked,h.ok.guessed,h.ok.mem,h.ok.guess,aM h.ok.ret hm,h.ok.reto⟩,hb,h.cf,h.data,h.words,h.guess,h.rob,h.fet,h.sto,h.prog,h.mem,h.std⟩
theorem DX(z:Int):wrap64 z≤9223372036854775807:=by unfold wrap64;omega
theorem Co.okM.busData{c:Co}{n:Nat}(h:c.okM n){q:List Req}{d:Ca}{a:Int}(hq:q.length≤n+1)(hqo:∀ x∈q,x.ok)(hd:CaG d)(ha:a≤9223372036854775807)(hb:n+1≤890000):Co.okM {c with bus:=q,data:=d,asked:=a} (n+1):=
 ⟨⟨h.ok.conf,h.ok.prog,h.ok.progo,h.ok.r,h.ok.fetch,h.ok.fet,h.ok.feto,h.ok.rob,h.ok.robo,h.ok.sto,h.ok.stoo,(Zb.1 hd).2,h.ok.words,hq,hqo,ha,h.ok.guessed,h.ok.mem,h.ok.guess,qE h.ok.ret,h.ok.reto⟩,hb,h.cf,(Zb.1 hd).1,h.words,h.guess,h.rob,h.fet,h.sto,h.prog,h.mem,h.std⟩
theorem rH{c:Co}{n:Nat}(h:c.okM n)(hb:n+1≤890000)(kind:Int){line:Nat}(hl:line≤4294967295)(d:ByteArray):(iO c kind line d).okM (n+1):=
 h.busData (by rw[Jc];have:=h.ok.bus;omega) (LI h.ok.buso hl) h.gd (DX _) hb
theorem Pc{d:Ca}{q:List Req}{m:ByteArray}{line:Nat}{left:Int}(hd:CaG d)(hq:∀ x∈q,x.ok)(hl:line≤4294967295):CaG (gC d q m line left).1∧(gC d q m line left).2.1.length≤q.length+1∧∀ x∈(gC d q m line left).2.1,x.ok:=by
 unfold gC;split
 ·exact⟨hd,fJ _,hq⟩
 ·split
  ·exact⟨hd.touch _,fJ _,hq⟩
  ·have hp:=hd.put (dR hl) (El (jI q m) (lineOf line)) false;have hg:=FN (Zb.1 hd).2 (lineOf line) (El (jI q m) (lineOf line)) false;generalize nP d (lineOf line) (El (jI q m) (lineOf line)) false=t at hp hg;obtain⟨e,gone,went⟩:=t;dsimp only at hp hg⊢;split
   ·exact⟨hp,by rw[Jc];exact aC _,LI hq hg⟩
   ·exact⟨hp,fJ _,hq⟩
theorem DY{c:Co}{n:Nat}(h:c.okM n)(hb:n+1≤890000){line:Nat}(hl:line≤4294967295):(eO c line).okM (n+1):=by
 have hk:=Pc (m:=c.mem) (left:=kQ c.conf c.asked) h.gd h.ok.buso hl;unfold eO;generalize gC c.data c.bus c.mem line (kQ c.conf c.asked)=t at hk;obtain⟨d,q,a⟩:=t;dsimp only at hk⊢;refine h.busData (by have:=h.ok.bus;omega) hk.2.2 hk.1 ?_ hb;split
 ·exact DX _
 ·exact h.ok.asked
theorem Pd{l:List Pt}{c:Ca}(hc:CaG c):CaG (mK l c).2.1∧(mK l c).1.length≤l.length∧∀ x∈(mK l c).1,x∈l:=by
 unfold mK
 cases l with
 |nil=>exact⟨hc,aC _,λ x h=>h⟩
 |cons p l=>
  dsimp only;split
  ·exact⟨hc.write _ _,fJ _,λ x h=>bF _ h⟩
  ·exact⟨hc,aC _,λ x h=>h⟩
theorem eM{c:Co}{n:Nat}(h:c.okM n):(aT c).okM n:=by
 have hk:=Pd (l:=c.stores) h.gd;exact⟨⟨h.ok.conf,h.ok.prog,h.ok.progo,h.ok.r,h.ok.fetch,h.ok.fet,h.ok.feto,h.ok.rob,h.ok.robo,aM hk.2.1 h.ok.sto,λ x hx=>h.ok.stoo x (hk.2.2 x hx),(Zb.1 hk.1).2,h.ok.words,h.ok.bus,h.ok.buso,h.ok.asked,h.ok.guessed,h.ok.mem,h.ok.guess,h.ok.ret,h.ok.reto⟩,h.nb,h.cf,(Zb.1 hk.1).1,h.words,h.guess,h.rob,h.fet,aM hk.2.1 h.sto,h.prog,h.mem,λ x hx=>h.std x (hk.2.2 x hx)⟩
theorem iR(c:Co):oV c=jM (if (mK c.stores c.data).2.2=false∧(aT c).stores≠[]then lJ (aT c)else aT c):=by
 unfold oV aT
 cases hs:c.stores with
 |nil=>simp[mK]
 | cons p l=>
  dsimp only
  cases hq:(mK (p::l) c.data).2.2 with
  |true=>simp
  | false=>
   have:(mK (p::l) c.data).1=p::l:=by
    unfold mK at hq⊢;dsimp only at hq⊢;by_cases hw:(qM c.data p.addr p.data).2=true
    ·rw[if_pos hw]at hq;cases hq
    ·rw[if_neg hw]
   simp[this]
theorem c2a{a b:Bool}:cZ a b false=(a&&b):=by cases a<;>rfl
theorem c2o{a b:Bool}:cZ a true b=(a||b):=by cases a<;>rfl
theorem sQ{d:Co}{p:Pt}(hp:d.stores[0]?=some p):lJ d=if Dl d.bus (lineOf p.addr) 3=false∧qJ d true=true then iO d 3 (lineOf p.addr) oC else d:=by
 unfold lJ
 cases hs:d.stores with
 |nil=>rw[hs]at hp;simp at hp
 |cons y l=>rw[hs]at hp;simp at hp;subst hp;rfl
theorem uA{d:Co}(h:(cM d.data).isSome=true∧((cM d.data).getD pO).data.size≠0):lD d={iO d 4 ((cM d.data).getD pO).line ((cM d.data).getD pO).data with data:=oH d.data ((cM d.data).getD pO).line}:=by
 unfold lD
 cases hd:cM d.data with
 |none=>rw[hd]at h;simp at h
 |some w=>rw[hd]at h;exact if_pos h.2
theorem vV{d:Co}(h: ¬ ((cM d.data).isSome=true∧((cM d.data).getD pO).data.size≠0)):lD d=d:=by
 unfold lD
 cases hd:cM d.data with
 |none=>rfl
 |some w=>rw[hd]at h;exact if_neg λ e=>h ⟨rfl,e⟩
theorem CaG.dirtyLe{c:Ca}(h:CaG c):((cM c).getD pO).line≤4294967295:=by
 cases hd:cM c with
 |none=>exact aE _
 |some w=>exact h.dirty hd
theorem Vp(c:Co)(nb:Nat)(hm:c.okM nb)(hb:nb+2≤890000)(kR:Bool)(xR:List (List AV))(kF:Bool)(xF:List (List AV))(kT:Bool)(xT:List (List AV)):pV C0.P C0.G 58 [.ptr 0 0] (heapF [(0,.box (mcX c (.sl 17 xR kR) (.sl 2 xF kF) (.sl 2 (c.stores.map ptL) false) (.sl 9 xT kT)))]) 1 (λ x h'=>x=.tup []∧h'=heapF [(0,.box (mcX (oV c) (.sl 17 xR kR) (.sl 2 xF kF) (.sl 2 ((oV c).stores.map ptL) false) (.sl 9 xT kT)))]):=by
 refine HCall.intro (C:=C1) (s:=1) c1Ok.at Tryz.func58 rfl rfl (by kernel_rfl) rfl rfl<|cSR<|oR 10 rfl<|rCi rfl (XL c.stores c.data hm.ok.data (by have:=hm.sto;omega) hm.ok.stoo)<|oR 4 rfl<|rAl 16 rfl rfl<|oR 1 rfl<|rSt rfl<|oR 1 rfl<|rE 20<|bW<|ES rfl rfl<|oR 7 rfl<|rSt rfl<|oR 3 rfl ?_;refine rSx 0 (mcX ({c with data:=(aT c).data}:Co) (.sl 17 xR kR) (.sl 2 xF kF) (.sl 2 (((aT c).stores).map ptL) false) (.sl 9 xT kT)) rfl rfl rfl<|rE 32<|And.intro (by kernel_rfl)<|bW<|cSR<|oR 3 rfl<|gN rfl<|gS rfl id<|gS rfl id<|gS rfl id<|gS rfl id<|gBS (x:=vN (((aT c).stores).length)) rfl id (bY ptL ((aT c).stores))<|gBS (x:=vB (decide ((((aT c).stores).length)>0))) rfl id (okB (gtN _ _))<|cV rfl rfl rfl (λ h=>h)<|rE 43 ?_;refine aW rfl (λ h1=>?_) (λ h1=>?_)
 ·have hns:((mK c.stores c.data).2.2=false∧(aT c).stores≠[]):=by have z:=h1;simpa [c2a,eZ]using z
  have hpos:0<(aT c).stores.length:=eZ.2 hns.2;refine cSR<|oR 5 rfl ?_;obtain⟨p,hp⟩:∃ y_,((aT c).stores)[0]?=some y_:=⟨_,aA omT⟩;have hpo:=(eM hm).ok.stoo p (aB hp);refine Ih (ptL p) (x:=.dp 2 0 (ptL p)) rfl rfl rfl (⟨by decide,iB hp⟩) rfl<|oR 2 rfl<|rCi rfl (sU p.addr hpo.addr)<|oR 1 rfl<|rE 53<|cSR<|oR 6 rfl<|rV (.sl 1 ([[vI 3]]) true) rfl<|rCl (x:=vB (Dl c.bus (lineOf p.addr) 3)) rfl (.inl rfl) ((show bX C0 _ [_,_,.sl 1 ([(3:Int)].map iL) true] _ from by rw[←Je];exact Qt c.bus (lineOf p.addr) [3] false true (by have:=hm.bus;omega) (λ x hx=>(hm.ok.buso x hx).line) (dR hpo.addr) (by decide)))<|oR 2 rfl<|gN rfl<|kM (args:=[.ptr 0 0,vB true]) (x:=vB (qJ (aT c) true)) (g:= !(Dl c.bus (lineOf p.addr) 3)) rfl rfl rfl rfl (λ h=>h) rfl rfl rfl (.inr ⟨rfl,⟨trivial,trivial,trivial⟩⟩) rfl (λ hg=>Sj (aT c) nb (eM hm) (.sl 17 xR kR) (.sl 2 xF kF) (.sl 2 (((aT c).stores).map ptL) false) (.sl 9 xT kT) true)<|cV rfl rfl rfl (λ h=>h)<|rE 66 ?_;refine aW rfl (λ h2=>?_) (λ h2=>?_)
  ·have hra:(Dl (aT c).bus (lineOf p.addr) 3=false∧qJ (aT c) true=true):=by have z:=h2;show (Dl c.bus _ _=false∧_);simpa [c2a]using z
   refine cRg<|oR 2 rfl<|fW (args:=[.ptr 0 0,vI 3,vU (lineOf p.addr),.v (.string (⟨#[]⟩:ByteArray))]) (d:=68) _ rfl rfl rfl ((XB (aT c) nb (eM hm) 3 (lineOf p.addr) (⟨#[]⟩:ByteArray) (dR hpo.addr) kR xR kF xF false ((aT c).stores.map ptL) kT xT).frameB (λ z=>z) _ _ rfl ⟨⟨rfl,rfl,rfl,rfl⟩,trivial⟩ rfl rfl rfl rfl) ?_;rintro _ _ ⟨rfl,rfl⟩;refine rE 69<|bW<|cSR<|oR 5 rfl<|rW (vN (((aT c).stores).length)) rfl (bY ptL ((aT c).stores))<|rW (vB (decide ((((aT c).stores).length)>0))) rfl (okB (gtN _ _))<|oR 1 rfl<|gN rfl<|gS rfl id<|gS rfl id<|gS rfl id<|gS rfl id<|gBS (x:=vB (((iO (aT c) 3 (lineOf p.addr) (⟨#[]⟩:ByteArray)).halt)==0)) rfl id rfl<|cV rfl rfl rfl (by simp)<|rE 84 ?_;refine aW rfl (λ h3=>?_) (λ h3=>?_)
   ·have hlt:((aT c).stores≠[]∨(iO (aT c) 3 (lineOf p.addr) (⟨#[]⟩:ByteArray)).halt=0):=by have z:=h3;simpa [c2o,eZ]using z
    refine cO ?_;rw[iR,if_pos hns,sQ hp,if_pos hra];rw[show jM (iO (aT c) 3 (lineOf p.addr) oC)=(iO (aT c) 3 (lineOf p.addr) oC)from if_pos hlt];exact pG (rs:=[]) rfl (σ:=λ z=>z) ⟨rfl,rfl⟩ rfl (cE (λ z=>z) rfl rfl wH rfl)
   ·have hlt: ¬ ((aT c).stores≠[]∨(iO (aT c) 3 (lineOf p.addr) (⟨#[]⟩:ByteArray)).halt=0):=by have z:=h3;simpa [c2o,eZ]using z
    refine bB<|cSR<|oR 5 rfl<|rCi rfl (Hr (iO (aT c) 3 (lineOf p.addr) (⟨#[]⟩:ByteArray)).data (rH (eM hm) omT 3 (dR hpo.addr) oC).ok.data)<|oR 3 rfl<|rAl 93 rfl rfl<|rSt rfl<|oR 1 rfl<|rE 96<|cSR<|oR 2 rfl<|gN rfl<|gS rfl id<|gBS (x:=vB (!((((cM (iO (aT c) 3 (lineOf p.addr) (⟨#[]⟩:ByteArray)).data).getD pO).data).toList==(⟨#[]⟩:ByteArray).toList))) rfl id rfl ?_;refine cV rfl rfl rfl (λ h=>h)<|rE 102 ?_;refine aW rfl (λ h4=>?_) (λ h4=>?_)
    ·have hq4:((cM (iO (aT c) 3 (lineOf p.addr) (⟨#[]⟩:ByteArray)).data).isSome=true∧((cM (iO (aT c) 3 (lineOf p.addr) (⟨#[]⟩:ByteArray)).data).getD pO).data.size≠0):=by have z:=h4;rw[wS]at z;simpa [pY]using z
     have hcd:Ca.ok (iO (aT c) 3 (lineOf p.addr) (⟨#[]⟩:ByteArray)).data:=(rH (eM hm) omT 3 (dR hpo.addr) oC).ok.data;refine cSR<|oR 5 rfl<|fW (args:=[.ptr 0 0,vI 4,vU (((cM (iO (aT c) 3 (lineOf p.addr) (⟨#[]⟩:ByteArray)).data).getD pO).line),.v (.string (((cM (iO (aT c) 3 (lineOf p.addr) (⟨#[]⟩:ByteArray)).data).getD pO).data))]) (d:=104) _ rfl rfl rfl ((XB (iO (aT c) 3 (lineOf p.addr) (⟨#[]⟩:ByteArray)) (nb+1) (rH (eM hm) omT 3 (dR hpo.addr) oC) 4 (((cM (iO (aT c) 3 (lineOf p.addr) (⟨#[]⟩:ByteArray)).data).getD pO).line) (((cM (iO (aT c) 3 (lineOf p.addr) (⟨#[]⟩:ByteArray)).data).getD pO).data) ((rH (eM hm) omT 3 (dR hpo.addr) oC).gd.dirtyLe) kR xR kF xF false ((aT c).stores.map ptL) kT xT).frameB (λ z=>z) _ _ rfl ⟨⟨rfl,rfl,rfl,rfl⟩,trivial⟩ rfl rfl rfl rfl) ?_;rintro _ _ ⟨rfl,rfl⟩;refine rE 108<|cRg<|oR 8 rfl<|rCi rfl (Hq ((iO (iO (aT c) 3 (lineOf p.addr) (⟨#[]⟩:ByteArray)) 4 (((cM (iO (aT c) 3 (lineOf p.addr) (⟨#[]⟩:ByteArray)).data).getD pO).line) (((cM (iO (aT c) 3 (lineOf p.addr) (⟨#[]⟩:ByteArray)).data).getD pO).data)).data) (((cM (iO (aT c) 3 (lineOf p.addr) (⟨#[]⟩:ByteArray)).data).getD pO).line) hcd ((rH (eM hm) omT 3 (dR hpo.addr) oC).gd.dirtyLe))<|oR 3 rfl<|rSx 0 (mcX ({iO (iO (aT c) 3 (lineOf p.addr) (⟨#[]⟩:ByteArray)) 4 (((cM (iO (aT c) 3 (lineOf p.addr) (⟨#[]⟩:ByteArray)).data).getD pO).line) (((cM (iO (aT c) 3 (lineOf p.addr) (⟨#[]⟩:ByteArray)).data).getD pO).data)with data:=(oH ((iO (iO (aT c) 3 (lineOf p.addr) (⟨#[]⟩:ByteArray)) 4 (((cM (iO (aT c) 3 (lineOf p.addr) (⟨#[]⟩:ByteArray)).data).getD pO).line) (((cM (iO (aT c) 3 (lineOf p.addr) (⟨#[]⟩:ByteArray)).data).getD pO).data)).data) (((cM (iO (aT c) 3 (lineOf p.addr) (⟨#[]⟩:ByteArray)).data).getD pO).line))}:Co) (.sl 17 xR kR) (.sl 2 xF kF) (.sl 2 (((aT c).stores).map ptL) false) (.sl 9 xT kT)) rfl rfl rfl<|rE 121 ?_;rw[iR,if_pos hns,sQ hp,if_pos hra];rw[show jM (iO (aT c) 3 (lineOf p.addr) oC)=lD (iO (aT c) 3 (lineOf p.addr) oC)from if_neg hlt,uA (d:=(iO (aT c) 3 (lineOf p.addr) oC)) hq4];exact pG (rs:=[]) rfl (σ:=λ z=>z) ⟨rfl,rfl⟩ rfl (cE (λ z=>z) rfl rfl wH rfl)
    ·have hq4: ¬ ((cM (iO (aT c) 3 (lineOf p.addr) (⟨#[]⟩:ByteArray)).data).isSome=true∧((cM (iO (aT c) 3 (lineOf p.addr) (⟨#[]⟩:ByteArray)).data).getD pO).data.size≠0):=by have z:=h4;rw[wS]at z;simpa [pY]using z
     refine bB ?_;rw[iR,if_pos hns,sQ hp,if_pos hra];rw[show jM (iO (aT c) 3 (lineOf p.addr) oC)=lD (iO (aT c) 3 (lineOf p.addr) oC)from if_neg hlt,vV (d:=(iO (aT c) 3 (lineOf p.addr) oC)) hq4];exact pG (rs:=[]) rfl (σ:=λ z=>z) ⟨rfl,rfl⟩ rfl (cE (λ z=>z) rfl rfl wH rfl)
  ·have hra: ¬ (Dl (aT c).bus (lineOf p.addr) 3=false∧qJ (aT c) true=true):=by have z:=h2;show ¬ (Dl c.bus _ _=false∧_);simpa [c2a]using z
   refine bB<|bW<|cSR<|oR 5 rfl<|rW (vN (((aT c).stores).length)) rfl (bY ptL ((aT c).stores))<|rW (vB (decide ((((aT c).stores).length)>0))) rfl (okB (gtN _ _))<|oR 1 rfl<|gN rfl<|gS rfl id<|gS rfl id<|gS rfl id<|gS rfl id<|gBS (x:=vB (c.halt==0)) rfl id rfl<|cV rfl rfl rfl (by simp)<|rE 81 ?_;refine aW rfl (λ h5=>?_) (λ h5=>?_)
   ·have hlt:((aT c).stores≠[]∨c.halt=0):=by have z:=h5;simpa [c2o,eZ]using z
    refine cO ?_;rw[iR,if_pos hns,sQ hp,if_neg hra];rw[show jM (aT c)=(aT c)from if_pos hlt];exact pG (rs:=[]) rfl (σ:=λ z=>z) ⟨rfl,rfl⟩ rfl (cE (λ z=>z) rfl rfl wH rfl)
   ·have hlt: ¬ ((aT c).stores≠[]∨c.halt=0):=by have z:=h5;simpa [c2o,eZ]using z
    refine bB<|cSR<|oR 5 rfl<|rCi rfl (Hr (aT c).data (eM hm).ok.data)<|oR 3 rfl<|rAl 90 rfl rfl<|rSt rfl<|oR 1 rfl<|rE 93<|cSR<|oR 2 rfl<|gN rfl<|gS rfl id<|gBS (x:=vB (!((((cM (aT c).data).getD pO).data).toList==(⟨#[]⟩:ByteArray).toList))) rfl id rfl ?_;refine cV rfl rfl rfl (λ h=>h)<|rE 99 ?_;refine aW rfl (λ h6=>?_) (λ h6=>?_)
    ·have hq4:((cM (aT c).data).isSome=true∧((cM (aT c).data).getD pO).data.size≠0):=by have z:=h6;rw[wS]at z;simpa [pY]using z
     have hcd:Ca.ok (aT c).data:=(eM hm).ok.data;refine cSR<|oR 5 rfl<|fW (args:=[.ptr 0 0,vI 4,vU (((cM (aT c).data).getD pO).line),.v (.string (((cM (aT c).data).getD pO).data))]) (d:=104) _ rfl rfl rfl ((XB (aT c) nb (eM hm) 4 (((cM (aT c).data).getD pO).line) (((cM (aT c).data).getD pO).data) ((eM hm).gd.dirtyLe) kR xR kF xF false ((aT c).stores.map ptL) kT xT).frameB (λ z=>z) _ _ rfl ⟨⟨rfl,rfl,rfl,rfl⟩,trivial⟩ rfl rfl rfl rfl) ?_;rintro _ _ ⟨rfl,rfl⟩;refine rE 105<|cRg<|oR 8 rfl<|rCi rfl (Hq ((iO (aT c) 4 (((cM (aT c).data).getD pO).line) (((cM (aT c).data).getD pO).data)).data) (((cM (aT c).data).getD pO).line) hcd ((eM hm).gd.dirtyLe))<|oR 3 rfl<|rSx 0 (mcX ({iO (aT c) 4 (((cM (aT c).data).getD pO).line) (((cM (aT c).data).getD pO).data)with data:=(oH ((iO (aT c) 4 (((cM (aT c).data).getD pO).line) (((cM (aT c).data).getD pO).data)).data) (((cM (aT c).data).getD pO).line))}:Co) (.sl 17 xR kR) (.sl 2 xF kF) (.sl 2 (((aT c).stores).map ptL) false) (.sl 9 xT kT)) rfl rfl rfl<|rE 118 ?_;rw[iR,if_pos hns,sQ hp,if_neg hra];rw[show jM (aT c)=lD (aT c)from if_neg hlt,uA (d:=(aT c)) hq4];exact pG (rs:=[]) rfl (σ:=λ z=>z) ⟨rfl,rfl⟩ rfl (cE (λ z=>z) rfl rfl wH rfl)
    ·have hq4: ¬ ((cM (aT c).data).isSome=true∧((cM (aT c).data).getD pO).data.size≠0):=by have z:=h6;rw[wS]at z;simpa [pY]using z
     refine bB ?_;rw[iR,if_pos hns,sQ hp,if_neg hra];rw[show jM (aT c)=lD (aT c)from if_neg hlt,vV (d:=(aT c)) hq4];exact pG (rs:=[]) rfl (σ:=λ z=>z) ⟨rfl,rfl⟩ rfl (cE (λ z=>z) rfl rfl wH rfl)
 ·have hns: ¬ ((mK c.stores c.data).2.2=false∧(aT c).stores≠[]):=by have z:=h1;simpa [c2a,eZ]using z
  refine bB<|bW<|cSR<|oR 5 rfl<|rW (vN (((aT c).stores).length)) rfl (bY ptL ((aT c).stores))<|rW (vB (decide ((((aT c).stores).length)>0))) rfl (okB (gtN _ _))<|oR 1 rfl<|gN rfl<|gS rfl id<|gS rfl id<|gS rfl id<|gS rfl id<|gBS (x:=vB (c.halt==0)) rfl id rfl<|cV rfl rfl rfl (by simp)<|rE 58 ?_;refine aW rfl (λ h7=>?_) (λ h7=>?_)
  ·have hlt:((aT c).stores≠[]∨c.halt=0):=by have z:=h7;simpa [c2o,eZ]using z
   refine cO ?_;rw[iR,if_neg hns];rw[show jM (aT c)=(aT c)from if_pos hlt];exact pG (rs:=[]) rfl (σ:=λ z=>z) ⟨rfl,rfl⟩ rfl (cE (λ z=>z) rfl rfl wH rfl)
  ·have hlt: ¬ ((aT c).stores≠[]∨c.halt=0):=by have z:=h7;simpa [c2o,eZ]using z
   refine bB<|cSR<|oR 5 rfl<|rCi rfl (Hr (aT c).data (eM hm).ok.data)<|oR 3 rfl<|rAl 67 rfl rfl<|rSt rfl<|oR 1 rfl<|rE 70<|cSR<|oR 2 rfl<|gN rfl<|gS rfl id<|gBS (x:=vB (!((((cM (aT c).data).getD pO).data).toList==(⟨#[]⟩:ByteArray).toList))) rfl id rfl ?_;refine cV rfl rfl rfl (λ h=>h)<|rE 76 ?_;refine aW rfl (λ h8=>?_) (λ h8=>?_)
   ·have hq4:((cM (aT c).data).isSome=true∧((cM (aT c).data).getD pO).data.size≠0):=by have z:=h8;rw[wS]at z;simpa [pY]using z
    have hcd:Ca.ok (aT c).data:=(eM hm).ok.data;refine cSR<|oR 5 rfl<|fW (args:=[.ptr 0 0,vI 4,vU (((cM (aT c).data).getD pO).line),.v (.string (((cM (aT c).data).getD pO).data))]) (d:=104) _ rfl rfl rfl ((XB (aT c) nb (eM hm) 4 (((cM (aT c).data).getD pO).line) (((cM (aT c).data).getD pO).data) ((eM hm).gd.dirtyLe) kR xR kF xF false ((aT c).stores.map ptL) kT xT).frameB (λ z=>z) _ _ rfl ⟨⟨rfl,rfl,rfl,rfl⟩,trivial⟩ rfl rfl rfl rfl) ?_;rintro _ _ ⟨rfl,rfl⟩;refine rE 82<|cRg<|oR 8 rfl<|rCi rfl (Hq ((iO (aT c) 4 (((cM (aT c).data).getD pO).line) (((cM (aT c).data).getD pO).data)).data) (((cM (aT c).data).getD pO).line) hcd ((eM hm).gd.dirtyLe))<|oR 3 rfl<|rSx 0 (mcX ({iO (aT c) 4 (((cM (aT c).data).getD pO).line) (((cM (aT c).data).getD pO).data)with data:=(oH ((iO (aT c) 4 (((cM (aT c).data).getD pO).line) (((cM (aT c).data).getD pO).data)).data) (((cM (aT c).data).getD pO).line))}:Co) (.sl 17 xR kR) (.sl 2 xF kF) (.sl 2 (((aT c).stores).map ptL) false) (.sl 9 xT kT)) rfl rfl rfl<|rE 95 ?_;rw[iR,if_neg hns];rw[show jM (aT c)=lD (aT c)from if_neg hlt,uA (d:=(aT c)) hq4];exact pG (rs:=[]) rfl (σ:=λ z=>z) ⟨rfl,rfl⟩ rfl (cE (λ z=>z) rfl rfl wH rfl)
   ·have hq4: ¬ ((cM (aT c).data).isSome=true∧((cM (aT c).data).getD pO).data.size≠0):=by have z:=h8;rw[wS]at z;simpa [pY]using z
    refine bB ?_;rw[iR,if_neg hns];rw[show jM (aT c)=lD (aT c)from if_neg hlt,vV (d:=(aT c)) hq4];exact pG (rs:=[]) rfl (σ:=λ z=>z) ⟨rfl,rfl⟩ rfl (cE (λ z=>z) rfl rfl wH rfl)
end Go.Proofs.YtlhofpglndhfaaaGreatDoor
