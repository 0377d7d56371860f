/- Joined texts. -/
import Derived.RangeFuncNested
import Derived.RangeFuncLeaves
import Derived.TacticsIn
import Derived.OrdersIn
import Derived.Scope
import Derived.Test.YtgleompefdogkaaGreatDoorS1
import Derived.Test.YtgleompefdogkaaGreatDoorS28
import Derived.Test.YtgleompefdogkaaGreatDoorS29
import Derived.Test.YtgleompefdogkaaGreatDoorS30
set_option linter.unusedVariables false
set_option linter.unusedSimpArgs false
set_option linter.defProp false
namespace Go.Proofs.YtgleompefdogkaaGreatDoor
set_option maxRecDepth 100000
set_option maxHeartbeats 4000000
open Go.RowKit
def Gp(r:Nat->Nat)(s:Sp)(hr:∀k,r k<=4294967295)(hs:s.ok):cA C0 67 [.agg (Jz r),.agg (spL s)] (.agg (Jz (lL r s))):=by
 refine cA.intro c0Ok Tryz.func67 rfl rfl (by kernel_rfl) rfl<|qS 0 rfl<|rV (vB (decide (s.rd>=1))) rfl<|qR 0 rfl<|gS rfl id<|gBS rfl id rfl<|cU rfl rfl rfl (λh=>h)<|qR 0 rfl<|gS rfl id<|gBS rfl id rfl<|cU rfl rfl rfl (λh=>h)<|qRC 0 rfl<|aS rfl (λh1=>?_) (λh1=>?_)
 ·have hA:(1<=s.rd∧s.rd<=31∧s.halt=0):=by have z:=h1;simp only[qG,aJ,bB,pY,kD,bA,ne_eq]at z;omega
  refine qC 0 rfl<|nW (.ptr 0 (0+s.rd.toNat*1)) rfl rfl omT<|tK (h':=upd _ 0 (some (.box (Jz (setR r s.rd.toNat s.value))))) rfl rfl (abA (r:=r) (v:=s.value) rfl rfl rfl omT) (trivial)<|qRF 0 rfl ?_;rw[show lL r s=setR r s.rd.toNat s.value from by unfold lL;rw[if_pos hA]];exact dF rfl rcT rfl rfl
 ·have hA: ¬(1<=s.rd∧s.rd<=31∧s.halt=0):=by have z:=h1;simp only[qG,aJ,bB,pY,kD,bA,ne_eq]at z;omega
  refine qCF 0 rfl ?_;rw[show lL r s=r from by unfold lL;rw[if_neg hA]];exact dF rfl rcT rfl rfl
abbrev aa8(o:Option Pt):AV:=.tup [.agg (ptL (o.getD ⟨0,oX⟩)),vB o.isSome]
def KW(s:Sp)(hs:s.ok):cA C0 66 [.agg (spL s)] (aa8 (gD s)):=by
 refine cA.intro c0Ok Tryz.func66 rfl rfl (by kernel_rfl) rfl<|qS 0 rfl<|gS rfl id<|gBS rfl id rfl<|cU rfl rfl rfl (by simp)<|qR 0 rfl<|gS rfl id<|gBS rfl id rfl<|gS rfl id<|qR 0 rfl<|gS rfl id<|gBS rfl id rfl<|uV (x:=vB (cR (s.size != 1) (s.size != 2) false)) (g:= !(cR (!s.store) true (s.halt != 0))) rfl rfl rfl rfl (λh=>h) rfl rfl (λhg hc=>by first|(rw[hg,hc];rfl)|simp_all)<|gS rfl id<|qR 0 rfl<|gS rfl id<|gBS rfl id rfl<|uV (x:=vB (cR (cR (s.size != 1) (s.size != 2) false) (s.size != 4) false)) (g:= !(cR (!s.store) true (s.halt != 0))) rfl rfl rfl rfl (λh=>h) rfl rfl (λhg hc=>by first|(rw[hg,hc];rfl)|simp_all)<|cU rfl rfl rfl (by simp)<|qRC 0 rfl<|aS rfl (λh1=>?_) (λh1=>?_)
 ·have hA:s.store=false∨s.halt≠0∨(s.size≠1∧s.size≠2∧s.size≠4):=by have z:=h1;simp only[qG,cOr,aJ,dI,bB,pY,qB,qQ,dH,kD,gY,mF,ne_eq,and_imp]at z;rcases z with (z|z)|z<;>simp_all
  refine qC 0 rfl<|rV (.agg [.v (.int .u32 0),.v (.string (⟨#[]⟩:ByteArray))]) rfl<|qRF 0 rfl ?_;rw[show gD s=none from by unfold gD;rw[if_pos hA]];exact fT rfl rfl
 ·have hA: ¬(s.store=false∨s.halt≠0∨(s.size≠1∧s.size≠2∧s.size≠4)):=by have z:=h1;intro q;rcases q with q|q|⟨q1,q2,q3⟩<;>simp_all[qG,cOr]
  obtain⟨n,hn⟩:∃n:Nat,s.size=(n:Int):=⟨s.size.toNat,by omega⟩;have hn4:n<=4:=by omega
  refine qC 0 rfl<|rCl (x:=.tup [.v (.string (jH s.value n)),vI 0]) rfl (.inl rfl) ((by rw[hn];exact MJ s.value n (Cd hs.value) hn4))<|qR 0 rfl<|rV (.agg [vU s.addr,.v (.string (jH s.value n))]) rfl<|qRF 0 rfl ?_;rw[show gD s=some ⟨s.addr,jH s.value n⟩from by unfold gD;rw[if_neg hA,hn];rfl];exact fT rfl rfl
def PO(k:Int):(if(0:Int)>k then 0 else k)=(((max k 0).toNat:Nat):Int):=by split<;>omega
def PP(c:Cf):(cD c).lat.length<=64:=by unfold cD;simp;omega
def NH(c:Cf):(cD c).tape.length<=64:=by unfold cD;simp;omega
def HG{c:Cf}(h:∀x∈c.tape,x<=4294967295):∀x∈(cD c).tape,x<=4294967295:=λx hx=>h x (cQ hx)
def PQ{c:Cf}{k:Int}{x:Int}(h: ¬(cD c).lat.length=0)(hx:(cD c).lat[(max k 0).toNat%(cD c).lat.length]?=some x):x=kM c k:=by
 unfold kM;generalize (cD c).lat=l at h hx
 cases l with
 |nil=>exact absurd rfl h
 |cons y l=>simp only[bL,hx];rfl
def NI{c:Cf}{k:Int}{x pc:Nat}(h: ¬(cD c).tape.length=0)(hx:(cD c).tape[(max k 0).toNat%(cD c).tape.length]?=some x):x=yF c k pc:=by
 unfold yF;generalize (cD c).tape=l at h hx
 cases l with
 |nil=>exact absurd rfl h
 |cons y l=>simp only[bL,hx];rfl
def EA(c:Cf)(k:Int)(hok:c.ok)(hk:k<=9223372036854775807):cA C0 103 [.agg (cfL c false false),vI k] (vI (kM c k)):=by
 refine cA.intro c0Ok Tryz.func103 rfl rfl (by kernel_rfl) rfl<|qS 0 rfl<|rCi rfl (Ie c false false hok)<|qR 0 rfl<|rW (vN (((cD c).lat).length)) rfl (bT iK ((cD c).lat))<|rW (vB ((((cD c).lat).length)==0)) rfl (okB (eqN _ _))<|qRC 0 rfl<|aS rfl (λh1=>?_) (λh1=>?_)
 ·have h1p:=mW h1;refine qCF 0 rfl ?_;have hz:(cD c).lat=[]:=aR h1p;exact fT rfl (Mx (by unfold kM;rw[hz]))
 ·have h1p:=mX h1;have hml:=bE (max k 0).toNat (eP h1p);refine qC 0 rfl<|rW (vN ((max k 0).toNat)) rfl (okI (PO k))<|qR 0 rfl<|rW (vN (((cD c).lat).length)) rfl (bT iK ((cD c).lat)) ?_;have b1:((max k 0).toNat)%(((cD c).lat).length)<=9223372036854775807:=aN (oF _ _) omT;refine nW (vN (((max k 0).toNat)%(((cD c).lat).length))) rfl (IK (Yd _ _)) omT ?_;obtain⟨x1,hx1⟩:∃y_,((cD c).lat)[(((max k 0).toNat)%(((cD c).lat).length))]?=some y_:=⟨_,aA omT⟩;refine rIx (iK x1) (.dp 1 0 (iK x1)) rfl rfl (fW hx1) rfl<|qRF 0 rfl ?_;exact fT rfl (Mx (PQ h1p hx1))
def PR(c:Cf)(k:Int)(pc:Nat)(hok:c.ok)(hk:k<=9223372036854775807)(hpc:pc<=4294967295):cA C0 122 [.agg (cfL c false false),vI k,vU pc] (vU (yF c k pc)):=by
 refine cA.intro c0Ok Tryz.func122 rfl rfl (by kernel_rfl) rfl<|qS 0 rfl<|rCi rfl (Ie c false false hok)<|qR 0 rfl<|rW (vN (((cD c).tape).length)) rfl (bT eE ((cD c).tape))<|rW (vB ((((cD c).tape).length)==0)) rfl (okB (eqN _ _))<|qRC 0 rfl<|aS rfl (λh1=>?_) (λh1=>?_)
 ·have h1p:=mW h1;have b1:(pc+4)%4294967296<=4294967295:=aY (bE _ (by decide));refine qC 0 rfl<|rV (vU ((pc+4)%4294967296)) rfl<|qRF 0 rfl ?_;have hz:(cD c).tape=[]:=aR h1p;exact fT rfl (Gw (by unfold yF;rw[hz];rfl))
 ·have h1p:=mX h1;have hml:=bE (max k 0).toNat (eP h1p);refine qC 0 rfl<|rW (vN ((max k 0).toNat)) rfl (okI (PO k))<|qR 0 rfl<|rW (vN (((cD c).tape).length)) rfl (bT eE ((cD c).tape)) ?_;have b2:((max k 0).toNat)%(((cD c).tape).length)<=9223372036854775807:=aN (oF _ _) omT;refine nW (vN (((max k 0).toNat)%(((cD c).tape).length))) rfl (IK (Yd _ _)) omT ?_;obtain⟨x1,hx1⟩:∃y_,((cD c).tape)[(((max k 0).toNat)%(((cD c).tape).length))]?=some y_:=⟨_,aA omT⟩;have hx1o:=(HG hok.tp) x1 (aB hx1);refine rIx (eE x1) (.dp 1 0 (eE x1)) rfl rfl (fW hx1) rfl<|qRF 0 rfl ?_;exact fT rfl (Gw (NI h1p hx1))
def yZ(n lo hi:Int):cA C0 93 [vI n,vI lo,vI hi] (vB (inI n lo hi)):=by
 refine cA.intro c0Ok Tryz.func93 rfl rfl (by kernel_rfl) rfl<|qS 0 rfl<|rV (vB (decide (n>=lo))) rfl<|qR 0 rfl<|gBS rfl hsT rfl<|cU rfl rfl rfl (λh=>h)<|qRF 0 rfl ?_;exact fT rfl (dM (by rw[bX];simp[qG,cOr,inI]))
structure Cf.okW(c:Cf):Prop where
 lat:c.lat.length<=9223372036854775807
 tape:c.tape.length<=9223372036854775807
 tp:∀x∈c.tape,x<=4294967295
def DJ{α:Type}{p:α->Bool}{l:List α}{k:Nat}{x:α}(hx:l[k]?=some x)(hp:p x=true)(h:(l.take k).all p=true):(l.take (k+1)).all p=true:=by
 rw[bV,hx,List.all_append,h];simpa using hp
def abU{α:Type}{p:α->Bool}{l:List α}{k:Nat}{x:α}(hx:l[k]?=some x)(hp:p x=false):l.all p=false:=by
 rw[List.all_eq_false];exact⟨x,aB hx,by simp[hp]⟩
def DK{α:Type}{p:α->Bool}{l:List α}{k:Nat}(hk:l.length<=k)(h:(l.take k).all p=true):l.all p=true:=by rwa [aM hk]at h
def SP(c:Cf)(hok:c.okW):cA C0 41 [.agg (cfL c false false)] (vB (wA c)):=by
 refine cA.intro c0Ok Tryz.func41 rfl rfl (by kernel_rfl) rfl<|qS 0 rfl<|rW (vN c.lat.length) rfl (bT iK c.lat)<|qRC 0 rfl<|jX (κ:=Nat) (λk=>⟨slotsF [(1,.ptr 0 0),(3,.clo 93 [] []),(7,.sl 1 (c.lat.map iK) false),(8,vN c.lat.length),(9,vN k)],heapF [(0,.box [vI c.mode,vI c.width,vI c.rob,vI c.queue,vI c.stores,vI c.slots,vI c.sets,vI c.ways,.sl 1 (c.lat.map iK) false,vB c.tables,.sl 1 (c.tape.map eE) false])],7⟩) (λk=>k<=c.lat.length∧(c.lat.take k).all (λn=>inI n 1 8)=true) (λk=>c.lat.length-k) 0 (λs=>s) (Weak.of_lists (λs=>s) wT wH rfl) (⟨aE _,rfl⟩) ?_;intro k hk;have hkn:k<=c.lat.length:=hk.1;have hkB:k<=9223372036854775807:=by have:=hok.lat;omega
 have hlat:=hok.lat;refine qS 0 rfl<|rW (vB (decide (k<c.lat.length))) rfl (okB (ltN _ _))<|qRC 0 rfl<|aS rfl (λh1=>?_) (λh1=>?_)
 ·have h1p:=of_decide_eq_true h1;obtain⟨x,hx⟩:∃y_,c.lat[k]?=some y_:=⟨_,aA omT⟩;refine qC 0 rfl<|rIx (iK x) (.dp 1 0 (iK x)) rfl rfl (fW hx) rfl<|qR 0 rfl<|rCi rfl (yZ x 1 8)<|qRC 0 rfl<|aS rfl (λh2=>?_) (λh2=>?_)
  ·refine qCF 0 rfl<|qXF 0 rfl ?_;have z:=h2;exact fT rfl (dM (by unfold wA;rw[abU hx (by simpa using z)];simp))
  ·skip
   have b1:k+1<=9223372036854775807:=by omega
   refine qC 0 rfl<|rW (vN (k+1)) rfl (okI (bJ (show k+1<=9223372036854775807 by omega) rfl))<|qRF 0 rfl<|⟨k+1,λs=>s,Weak.of_lists _ wT wH rfl,⟨by omega,DJ hx (by simpa using h2) hk.2⟩,by show c.lat.length-(k+1)<c.lat.length-k;omega⟩
 ·have h1p:=aD h1;refine qCF 0 rfl<|qX 0 rfl<|rCi rfl (yZ c.mode 0 2)<|qR 0 rfl<|gS rfl id<|jU (x:=vB (inI c.width 1 2)) (g:=inI c.mode 0 2) rfl rfl rfl rfl hsT rfl rfl rfl (.inl rfl) rfl (λhg=>yZ c.width 1 2)<|cU rfl rfl rfl (λh=>h)<|qR 0 rfl<|gS rfl id<|jU (x:=vB (inI c.rob 2 8)) (g:=cR (inI c.mode 0 2) (inI c.width 1 2) false) rfl rfl rfl rfl hsT rfl rfl rfl (.inl rfl) rfl (λhg=>yZ c.rob 2 8)<|cU rfl rfl rfl (λh=>h)<|qR 0 rfl<|gS rfl id<|jU (x:=vB (inI c.queue 1 4)) (g:=cR (cR (inI c.mode 0 2) (inI c.width 1 2) false) (inI c.rob 2 8) false) rfl rfl rfl rfl hsT rfl rfl rfl (.inl rfl) rfl (λhg=>yZ c.queue 1 4)<|cU rfl rfl rfl (λh=>h)<|qR 0 rfl<|gS rfl id<|jU (x:=vB (inI c.stores 1 4)) (g:=cR (cR (cR (inI c.mode 0 2) (inI c.width 1 2) false) (inI c.rob 2 8) false) (inI c.queue 1 4) false) rfl rfl rfl rfl hsT rfl rfl rfl (.inl rfl) rfl (λhg=>yZ c.stores 1 4)<|cU rfl rfl rfl (λh=>h)<|qR 0 rfl<|gS rfl id<|jU (x:=vB (inI c.slots 2 6)) (g:=cR (cR (cR (cR (inI c.mode 0 2) (inI c.width 1 2) false) (inI c.rob 2 8) false) (inI c.queue 1 4) false) (inI c.stores 1 4) false) rfl rfl rfl rfl hsT rfl rfl rfl (.inl rfl) rfl (λhg=>yZ c.slots 2 6)<|cU rfl rfl rfl (λh=>h)<|qR 0 rfl<|gS rfl id<|jU (x:=vB (inI c.sets 1 4)) (g:=cR (cR (cR (cR (cR (inI c.mode 0 2) (inI c.width 1 2) false) (inI c.rob 2 8) false) (inI c.queue 1 4) false) (inI c.stores 1 4) false) (inI c.slots 2 6) false) rfl rfl rfl rfl hsT rfl rfl rfl (.inl rfl) rfl (λhg=>yZ c.sets 1 4)<|cU rfl rfl rfl (λh=>h)<|qR 0 rfl<|gS rfl id<|gBS rfl id rfl<|cU rfl rfl rfl (λh=>h)<|qR 0 rfl<|gS rfl id<|jU (x:=vB (inI c.ways 1 2)) (g:=cR (cR (cR (cR (cR (cR (cR (inI c.mode 0 2) (inI c.width 1 2) false) (inI c.rob 2 8) false) (inI c.queue 1 4) false) (inI c.stores 1 4) false) (inI c.slots 2 6) false) (inI c.sets 1 4) false) (c.sets != 3) false) rfl rfl rfl rfl hsT rfl rfl rfl (.inl rfl) rfl (λhg=>yZ c.ways 1 2)<|cU rfl rfl rfl (λh=>h)<|qR 0 rfl<|gS rfl id<|gBS rfl id (bT iK c.lat)<|gBS rfl id (okB (leN _ _))<|cU rfl rfl rfl (λh=>h)<|qR 0 rfl<|gS rfl id<|gBS rfl id (bT eE c.tape)<|gBS rfl id (okB (leN _ _))<|cU rfl rfl rfl (λh=>h)<|qRF 0 rfl ?_;have hall:=DK (p:=λn=>inI n 1 8) omT hk.2;exact fT rfl (dM (by unfold wA;rw[hall,bX];simp[qG,uP]))
def XX(c:Ca)(f:Cf)(hok:c.ok):cA C0 43 [.agg (caL c false),.agg (cfL f false false)] (vB (yC c f)):=by
 refine cA.intro c0Ok Tryz.func43 rfl rfl (by kernel_rfl) rfl<|qS 0 rfl<|rCi rfl (AR c false hok)<|qR 0 rfl<|gS rfl id<|gBS rfl id (bT aV c.sets)<|qR 0 rfl<|gS rfl id<|gBS rfl hsT rfl<|cU rfl rfl rfl (λh=>h)<|qR 0 rfl<|gS rfl id<|qR 0 rfl<|gS rfl id<|gBS rfl hsT rfl<|cU rfl rfl rfl (λh=>h)<|qRF 0 rfl ?_;exact fT rfl (dM (by rw[bX];simp[qG,cOr,yC]))
abbrev brA(t:Ca×List Req×Bool):AV:=.tup [.agg (caL t.1 false),.sl 4 (t.2.1.map rqL) false,vB t.2.2]
abbrev dnA(t:List Pt×Ca×Bool):AV:=.tup [.sl 2 (t.1.map ptL) false,.agg (caL t.2.1 false),vB t.2.2]
def Gq{c:Ca}(hok:c.ok)(line:Nat)(d:ByteArray)(b:Bool):(pC c line d b).2.1.line<=4294967295:=by
 by_cases hR:fS c=true
 ·by_cases hF:(bG c line).2.isSome=true
  ·rw[Cb hF];exact aE _
  ·rw[AP hR (by simpa using hF)];split
   ·show((pH c (bG c line).1).getLast?.getD qI).line<=_
    cases hl:(pH c (bG c line).1).getLast? with
    |none=>exact aE _
    |some w=>
     have hw:=List.mem_of_getLast? hl;have hk:(bG c line).1<c.sets.length:=by rw[rU hR];exact AN (kE hR).1 _
     rw[vA (aA hk)]at hw;exact((hok.set _ (lH hk)).2 w hw).line
   ·exact aE _
 ·rw[Mw (by simpa using hR)];exact aE _
def Mr(c:Ca)(q:List Req)(m:ByteArray)(line:Nat)(left:Int)(hok:c.ok)(hq:q.length<=900000)(ho:∀x∈q,x.ok)(hm:m.size<=1000000)(hline:line<=4294967295):cA C0 102 [.agg (caL c false),.sl 4 (q.map rqL) false,.v (.string m),vU line,vI left] (brA (gV c q m line left)):=by
 refine dc1 (cA.intro c1Ok Tryz.func102 rfl rfl (by kernel_rfl) rfl ?_);refine qS 0 rfl<|rCi rfl (AR c false hok)<|qRC 0 rfl<|aS rfl (λh1=>?_) (λh1=>?_)
 ·refine qCF 0 rfl ?_;rw[show gV c q m line left=(c,q,false)from by unfold gV;rw[if_pos (by simpa using h1)]];exact fT rfl rfl
 ·refine qC 0 rfl<|rCi rfl (tT line hline)<|qR 0 rfl<|rCi rfl (Ar c (lineOf line) hok (dT hline))<|qRC 0 rfl<|aS rfl (λh2=>?_) (λh2=>?_)
  ·refine qC 0 rfl<|rCi rfl (HJ c (lineOf line) hok (dT hline))<|qRF 0 rfl ?_;rw[show gV c q m line left=(oK c (lineOf line),q,false)from by unfold gV;rw[if_neg (by simpa using h1),if_pos h2]];exact fT rfl rfl
  ·refine qCC 0 rfl<|cRg<|oR 4 rfl<|rCi rfl (PV q m false hm hq ho)<|oR 1 rfl<|rCi rfl (ZF (jR q m) (lineOf line) (by unfold jR;rw[gW];exact hm) (dT hline))<|rCi rfl (PY c (lineOf line) (Fl (jR q m) (lineOf line)) false hok (dT hline))<|oR 4 rfl<|rAl 33 rfl rfl<|rSt rfl<|rSt rfl<|oR 1 rfl<|rE 37<|qX 0 rfl<|gS rfl id<|cU rfl rfl rfl (λh=>h)<|qR 0 rfl<|gS rfl id<|gBS rfl id rfl<|cU rfl rfl rfl (λh=>h)<|qRC 0 rfl<|aS rfl (λh3=>?_) (λh3=>?_)
   ·have hq4:((pC c (lineOf line) (Fl (jR q m) (lineOf line)) false).2.2=true∧(pC c (lineOf line) (Fl (jR q m) (lineOf line)) false).2.1.dirty=true∧(pC c (lineOf line) (Fl (jR q m) (lineOf line)) false).2.1.data.size≠0):=by have z:=h3;rw[zL]at z;simpa [qG,uP]using z
    refine qCC 0 rfl<|cRg<|oR 7 rfl<|rCi rfl (Mv q 4 (pC c (lineOf line) (Fl (jR q m) (lineOf line)) false).2.1.line left (pC c (lineOf line) (Fl (jR q m) (lineOf line)) false).2.1.data false hq ho (Gq hok _ _ _))<|rSt rfl<|oR 2 rfl<|rE 58<|qXF 0 rfl ?_;rw[show gV c q m line left=((pC c (lineOf line) (Fl (jR q m) (lineOf line)) false).1,xK q 4 (pC c (lineOf line) (Fl (jR q m) (lineOf line)) false).2.1.line left (pC c (lineOf line) (Fl (jR q m) (lineOf line)) false).2.1.data,true)from by unfold gV;rw[if_neg (by simpa using h1),if_neg (by rw[h2];decide)];exact if_pos hq4];exact fT rfl rfl
   ·have hq4: ¬((pC c (lineOf line) (Fl (jR q m) (lineOf line)) false).2.2=true∧(pC c (lineOf line) (Fl (jR q m) (lineOf line)) false).2.1.dirty=true∧(pC c (lineOf line) (Fl (jR q m) (lineOf line)) false).2.1.data.size≠0):=by have z:=h3;rw[zL]at z;simpa [qG,uP]using z
    refine qCF 0 rfl ?_;rw[show gV c q m line left=((pC c (lineOf line) (Fl (jR q m) (lineOf line)) false).1,q,false)from by unfold gV;rw[if_neg (by simpa using h1),if_neg (by rw[h2];decide)];exact if_neg hq4];exact fT rfl rfl
def XZ(l:List Pt)(c:Ca)(hok:c.ok)(hl:l.length<=1000000)(ho:∀x∈l,x.ok):cA C0 80 [.sl 2 (l.map ptL) false,.agg (caL c false)] (dnA (nO l c)):=by
 refine dc1 (cA.intro c1Ok Tryz.func80 rfl rfl (by kernel_rfl) rfl ?_);refine qS 0 rfl<|rW (vN l.length) rfl (bT ptL l)<|rW (vB (l.length==0)) rfl (okB (eqN _ _))<|qRC 0 rfl<|aS rfl (λh1=>?_) (λh1=>?_)
 ·have h1p:=mW h1;refine qCC 0 rfl<|Fu rfl rfl<|oR 3 rfl<|rSt rfl<|oR 1 rfl<|rE 12<|And.intro (by kernel_rfl)<|qXF 0 rfl ?_;have hz:l=[]:=aR h1p;subst hz;exact fT rfl rfl
 ·have h1p:=mX h1;refine qCC 0 rfl<|cRg<|oR 2 rfl ?_;obtain⟨p,hp⟩:∃y_,l[0]?=some y_:=⟨_,aA omT⟩;have hpo:=ho p (aB hp);refine ID (ptL p) (x:=.dp 2 0 (ptL p)) rfl rfl rfl (⟨by decide,fW hp⟩) rfl<|oR 3 rfl<|ID (ptL p) (x:=.dp 2 0 (ptL p)) rfl rfl rfl (⟨by decide,fW hp⟩) rfl<|oR 2 rfl<|rCi rfl (SV c p.addr p.data hok hpo.addr)<|oR 3 rfl<|rAl 20 rfl rfl<|rSt rfl<|oR 1 rfl<|rE 23<|qXC 0 rfl<|aS rfl (λh2=>?_) (λh2=>?_)
  ·refine qCC 0 rfl<|Fu rfl rfl<|oR 3 rfl<|rSt rfl<|oR 1 rfl<|rE 30<|And.intro (by kernel_rfl)<|qXF 0 rfl ?_;rw[show nO l c=(l,c,false)from by unfold nO;cases l with|nil=>cases hp|cons y l=>injection hp with hp;subst hp;exact if_neg (by simpa using h2)];exact fT rfl rfl
  ·refine qCC 0 rfl<|Fu rfl rfl<|oR 1 rfl<|nW (.sl 2 ((l.drop 1).map ptL) false) rfl (zB (Jy ptL l 1)) slT<|oR 2 rfl<|rSt rfl<|oR 1 rfl<|rE 31<|And.intro (by kernel_rfl)<|qXF 0 rfl ?_;rw[show nO l c=(l.drop 1,(tV c p.addr p.data).1,true)from by unfold nO;cases l with|nil=>cases hp|cons y l=>injection hp with hp;subst hp;exact if_pos (by simpa using h2)];exact fT rfl rfl
structure Gu.ok(g:Gu):Prop where
 slots:g.slots.length<=9223372036854775807
 rets:g.rets.length<=9223372036854775807
 hist:g.hist<=4294967295
 so:∀x∈g.slots,x.ok
 ro:∀x∈g.rets,x<=4294967295
def Wo{g:Gu}:sR g=true↔g.slots.length=8∧g.hist<8∧g.rets.length<=4:=by
 unfold sR;simp only[aJ,bB,uP]
def YA{r:Bool}{k:Nat}(h:cR (!r) true (k != 5)=false):r=true∧k=5:=by
 cases r<;>simp[cR]at h⊢;exact h
def UA{r:Bool}{k:Nat}(h:cR (!r) true (k != 5)=true): ¬(r=true∧k=5):=by
 cases r<;>simp[cR]at h⊢;exact h
def Tx{l:List Nat}{x:Nat}(h:l[l.length-1]?=some x):l.getLast?.getD 0=x:=by rw[oZ,h];rfl
def Ir(g:Gu)(hok:g.ok):cA C0 44 [.agg (guL g)] (vB (sR g)):=by
 refine cA.intro c0Ok Tryz.func44 rfl rfl (by kernel_rfl) rfl<|qS 0 rfl<|rW (vN g.slots.length) rfl (bT gsL g.slots)<|rW (vB (g.slots.length==8)) rfl (okB (eqN _ _))<|qR 0 rfl<|gS rfl id<|gBS rfl id (okB (ltN _ _))<|cU rfl rfl rfl (λh=>h)<|qR 0 rfl<|gS rfl id<|gBS rfl id (bT eE g.rets)<|gBS rfl id (okB (leN _ _))<|cU rfl rfl rfl (λh=>h)<|qRF 0 rfl ?_;exact fT rfl (dM (by rw[bX];simp[qG,cOr,sR]))
def QI(g:Gu)(pc:Nat)(hok:g.ok)(hpc:pc<=4294967295):cA C0 107 [.agg (guL g),vU pc] (vN (gL g pc)):=by
 refine cA.intro c0Ok Tryz.func107 rfl rfl (by kernel_rfl) rfl ?_;have b1:pc/4<=1073741823:=jA hpc;refine qS 0 rfl<|nW (vU (pc/4)) rfl (IK (IC b1 rfl)) (by decide) ?_;refine qR 0 rfl<|rW (vU ((pc/4)^^^g.hist)) rfl (okI (Xg b1 hok.hist rfl rfl)) ?_;have b3:((pc/4)^^^g.hist)%8<=7:=aY (bE _ (by decide));refine nW (vU (((pc/4)^^^g.hist)%8)) rfl rfl (by decide)<|rW (vN (((pc/4)^^^g.hist)%8)) rfl (okI (bJ b3 rfl))<|qRF 0 rfl ?_;exact fT rfl (Zb rfl)
def JP(g:Gu)(pc:Nat):gL g pc<=7:=by unfold gL;omega
def QJ(i:SI)(hi:i.imm<=4294967295):cA C0 108 [siA i] (vB (Qi i)):=by
 refine cA.intro c0Ok Tryz.func108 rfl rfl (by kernel_rfl) rfl<|qS 0 rfl<|rV (vB (i.op==3)) rfl<|qR 0 rfl<|gS rfl id<|gBS rfl id rfl<|cU rfl rfl rfl (by simp)<|qR 0 rfl<|gS rfl id<|gBS rfl id rfl<|cU rfl rfl rfl (λh=>h)<|qRF 0 rfl ?_;exact fT rfl (dM (by rw[bX];simp[qG,cOr,Qi]))
def QK(i:SI)(hi:i.imm<=4294967295):cA C0 109 [siA i] (vB (FC i)):=by
 refine cA.intro c0Ok Tryz.func109 rfl rfl (by kernel_rfl) rfl<|qS 0 rfl<|rV (vB (i.op==4)) rfl<|qR 0 rfl<|gS rfl id<|gBS rfl id rfl<|cU rfl rfl rfl (λh=>h)<|qR 0 rfl<|gS rfl id<|gBS rfl id rfl<|cU rfl rfl rfl (λh=>h)<|qRF 0 rfl ?_;exact fT rfl (dM (by rw[bX];simp[qG,cOr,FC]))
def QL(g:Gu)(pc:Nat)(i:SI)(hok:g.ok)(hpc:pc<=4294967295)(hi:i.imm<=4294967295):cA C0 121 [.agg (guL g),vU pc,siA i] (vU (wY g pc i)):=by
 refine dc1 (cA.intro c1Ok Tryz.func121 rfl rfl (by kernel_rfl) rfl ?_);refine qS 0 rfl<|rCi rfl (Ir g hok)<|qR 0 rfl<|jU (x:=vN (kindOf i.op)) (g:= !(!(sR g))) rfl rfl rfl rfl (λh=>h) rfl rfl rfl (.inl rfl) rfl (λhg=>pV i)<|gBS rfl id (okB (neN _ _))<|cU rfl rfl rfl (by simp)<|qRC 0 rfl<|aS rfl (λh1=>?_) (λh1=>?_)
 ·have hN:=UA h1;have b1:(pc+4)%4294967296<=4294967295:=aY (bE _ (by decide));refine qC 0 rfl<|rV (vU ((pc+4)%4294967296)) rfl<|qRF 0 rfl ?_;exact fT rfl (Gw (by unfold wY;rw[if_neg hN];rfl))
 ·have hR:=YA h1;have hR1:=Wo.1 hR.1;have hR2:=hR1.1;have hS:=JP g pc;have hR3:=hR1.2.2;refine qC 0 rfl<|rW (vN g.rets.length) rfl (bT eE g.rets)<|qR 0 rfl<|rCi rfl (QK i hi)<|qR 0 rfl<|gBS rfl id (okB (gtN _ _))<|cU rfl rfl rfl (λh=>h)<|qRC 0 rfl<|aS rfl (λh2=>?_) (λh2=>?_)
  ·have hB:FC i=true∧0<g.rets.length:=by simpa [qG]using h2
   have hB2:=hB.2;have b2:g.rets.length-1<=9223372036854775807:=aN (jS _ _) hok.rets;refine qC 0 rfl<|rW (vN (g.rets.length-1)) rfl (okI (Dm omT hok.rets rfl)) ?_;obtain⟨rx,hrx⟩:∃y_,g.rets[(g.rets.length-1)]?=some y_:=⟨_,aA omT⟩;have hrxo:=hok.ro rx (aB hrx);refine rIx (eE rx) (.dp 1 0 (eE rx)) rfl rfl (fW hrx) rfl<|qRF 0 rfl ?_;exact fT rfl (Gw (by unfold wY;rw[if_pos hR,if_pos hB,Tx hrx]))
  ·have hB: ¬(FC i=true∧0<g.rets.length):=by simpa [qG]using h2
   refine qCC 0 rfl<|cRg<|oR 4 rfl<|rCi rfl (QI g pc hok hpc) ?_;obtain⟨sx,hsx⟩:∃y_,g.slots[(gL g pc)]?=some y_:=⟨_,aA omT⟩;have hsxo:=hok.so sx (aB hsx);refine rIx (gsL sx) (.dp 2 0 (gsL sx)) rfl rfl (fW hsx) rfl<|oR 1 rfl<|rAl 28 rfl rfl<|rSt rfl<|rE 30<|qX 0 rfl<|rW (vB (sx.pc==pc)) rfl (okB (eqN _ _))<|qR 0 rfl<|gB rfl rfl<|gBS rfl hsT rfl<|cU rfl rfl rfl (λh=>h)<|qRC 0 rfl<|aS rfl (λh3=>?_) (λh3=>?_)
   ·refine qCF 0 rfl ?_;exact fT rfl (Gw (by unfold wY;rw[if_pos hR,if_neg hB];have z:=h3;simp[qG]at z;simp[hsx,up4,z]<;>(intros;simp_all)))
   ·skip
    have b3:(pc+4)%4294967296<=4294967295:=aY (bE _ (by decide));refine qC 0 rfl<|rV (vU ((pc+4)%4294967296)) rfl<|qRF 0 rfl ?_;exact fT rfl (Gw (by unfold wY;rw[if_pos hR,if_neg hB];have z:=h3;simp[qG]at z;simp[hsx,up4,z]<;>(intros;simp_all)))
def AW(g:Gu)(pc next:Nat)(i:SI)(hok:g.ok)(hpc:pc<=4294967295)(hnext:next<=4294967295)(hi:i.imm<=4294967295):cA C0 68 [.agg (guL g),vU pc,vU next,siA i] (.agg (guL (fR g pc next i))):=by
 refine dc1 (cA.intro c1Ok Tryz.func68 rfl rfl (by kernel_rfl) rfl ?_);refine qS 0 rfl<|rCi rfl (Ir g hok)<|qR 0 rfl<|jU (x:=vN (kindOf i.op)) (g:= !(!(sR g))) rfl rfl rfl rfl (λh=>h) rfl rfl rfl (.inl rfl) rfl (λhg=>pV i)<|gBS rfl id (okB (neN _ _))<|cU rfl rfl rfl (by simp)<|qRC 0 rfl<|aS rfl (λh1=>?_) (λh1=>?_)
 ·have hN:=UA h1;refine qCF 0 rfl<|dF rfl tvT rfl ?_;show AV.agg [.sl 2 (g.slots.map gsL) false,vU g.hist,.sl 1 (g.rets.map eE) false]=_;refine congrArg (λz=>AV.agg (guL z)) (?_:g=fR g pc next i);unfold fR;rw[if_neg hN]
 ·have hR:=YA h1;have hR1:=Wo.1 hR.1;have hR2:=hR1.1;have hS:=JP g pc;have hR3:=hR1.2.2;refine qC 0 rfl<|rFx (x:=.osl 11 0 8 false) (h':=upd _ 11 (some (.arr ((List.replicate 8 (⟨0,0⟩:Gs)).map gsL) 2))) rfl rfl (Qc (fO (f:=gsL) (a:=(⟨0,0⟩:Gs))).symm) (⟨by decide,by decide,by show((8:Nat):Int)<=1000000;omega⟩)<|qR 0 rfl<|rFx (x:=vI ((min ((g.slots.map gsL).length) (8):Nat):Int)) (h':=upd _ 11 (some (.arr (g.slots.map gsL) 2))) rfl rfl (Id (DL gsL ((List.replicate 8 (⟨0,0⟩:Gs)).map gsL) g.slots omT omT)) (⟨by exact omT,trivial⟩)<|qR 0 rfl<|rCi rfl (QI g pc hok hpc)<|qR 0 rfl<|rV (.agg [vU pc,vU next]) rfl<|nW (.ptr2 11 (0+(gL g pc)) 0) rfl rfl ixT ?_;obtain⟨sx,hsx⟩:∃y_,g.slots[(gL g pc)]?=some y_:=⟨_,aA omT⟩;have hsxo:=hok.so sx (aB hsx);have hx1:(g.slots.set (gL g pc) (⟨pc,next⟩:Gs))[(gL g pc)]?=some (⟨pc,next⟩:Gs):=aT omT;refine nL (gsL sx) (h':=upd _ 11 (some (.arr ((g.slots.set (gL g pc) (⟨pc,next⟩:Gs)).map gsL) 2))) rfl rfl rfl (⟨aH _,IE (fW hsx)⟩) (vY (f:=gsL) (l:=g.slots) (k:=(gL g pc)) (x:=(⟨pc,next⟩:Gs))) ?_;have b1:(2*g.hist)%4294967296<=4294967295:=aY (bE _ (by decide));refine qR 0 rfl<|rV (vU ((2*g.hist)%4294967296)) rfl ?_;have b2:(pc+4)%4294967296<=4294967295:=aY (bE _ (by decide));refine qR 0 rfl<|rV (vU ((pc+4)%4294967296)) rfl<|rW (vB (next != ((pc+4)%4294967296))) rfl (okB (neN _ _))<|qRC 0 rfl<|aS rfl (λh2=>?_) (λh2=>?_)
  ·have h2p:=xH h2;have b3:(((2*g.hist)%4294967296)+1)%4294967296<=4294967295:=aY (bE _ (by decide));refine qC 0 rfl<|rV (vU ((((2*g.hist)%4294967296)+1)%4294967296)) rfl<|qR 0 rfl<|rFx (x:=.osl 37 0 0 false) (h':=upd _ 37 (some (.arr (([]:List Nat).map eE) 1))) rfl rfl (rfl) (⟨by decide,by decide,by show((5:Nat):Int)<=1000000;omega⟩)<|qR 0 rfl<|rFx (x:=.osl 42 0 g.rets.length false) (h':=upd (upd _ 37 none) 42 (some (.arr (g.rets.map eE) 1))) rfl rfl (jN eE ([]:List Nat) g.rets omT omT) (⟨by exact omT,by exact omT,trivial⟩)<|qR 0 rfl<|rV (vN g.rets.length) rfl<|qR 0 rfl<|rCi rfl (QJ i hi)<|qRC 0 rfl<|aS rfl (λh3=>?_) (λh3=>?_)
   ·skip
    have b4:(pc+4)%4294967296<=4294967295:=aY (bE _ (by decide));refine qC 0 rfl<|rV (vU ((pc+4)%4294967296)) rfl<|rV (.sl 1 ([[vU ((pc+4)%4294967296)]]) true) rfl<|rFx (x:=.osl 54 0 (g.rets.length+1) false) (h':=upd (upd _ 42 none) 54 (some (.arr ((g.rets++([(pc+4)%4294967296])).map eE) 1))) rfl rfl (jN eE g.rets ([(pc+4)%4294967296]) omT omT) (⟨by exact omT,by exact omT,trivial⟩)<|qR 0 rfl<|rV (vN (g.rets.length+1)) rfl<|rW (vB (decide ((g.rets.length+1)>4))) rfl (okB (gtN _ _))<|qRC 0 rfl<|aS rfl (λh4=>?_) (λh4=>?_)
    ·have h4p:=of_decide_eq_true h4;refine qC 0 rfl<|nW (.osl 54 1 (g.rets.length+1-1) false) rfl (KZ (by first|rfl|omega) (by simp only[Option.getD];omega)) slT ?_;have b5:((((2*g.hist)%4294967296)+1)%4294967296)%8<=7:=aY (bE _ (by decide));refine qR 0 rfl<|nW (vU (((((2*g.hist)%4294967296)+1)%4294967296)%8)) rfl rfl (by decide)<|qR 0 rfl<|rV (.agg [.osl 11 0 8 false,vU (((((2*g.hist)%4294967296)+1)%4294967296)%8),.osl 54 1 (g.rets.length+1-1) false]) rfl<|qRF 0 rfl<|dF rfl ⟨(by show 0+8<=((g.slots.set (gL g pc) (⟨pc,next⟩:Gs)).map gsL).length;exact omT),trivial,(by show 1+(g.rets.length+1-1)<=((g.rets++([(pc+4)%4294967296])).map eE).length;exact omT),trivial⟩ rfl ?_;show AV.agg [.sl 2 (List.take 8 (List.drop 0 ((g.slots.set (gL g pc) (⟨pc,next⟩:Gs)).map gsL))) false,vU (((((2*g.hist)%4294967296)+1)%4294967296)%8),.sl 1 (List.take (g.rets.length+1-1) (List.drop 1 ((g.rets++([(pc+4)%4294967296])).map eE))) false]=_;rw[kG gsL (g.slots.set (gL g pc) (⟨pc,next⟩:Gs)) omT,Cc (M:=(g.rets++([(pc+4)%4294967296])).drop 1) eE (g.rets++([(pc+4)%4294967296])) (aM omT)];refine congrArg (λz=>AV.agg (guL z)) (?_:(⟨g.slots.set (gL g pc) (⟨pc,next⟩:Gs),((((2*g.hist)%4294967296)+1)%4294967296)%8,(g.rets++([(pc+4)%4294967296])).drop 1⟩:Gu)=fR g pc next i);unfold fR;rw[if_pos hR];have z:=h2;have z0:=h3;have z1:=h4;have hu:up4 pc=(pc+4)%4294967296:=rfl;rw[hu]
     try simp[qG]at z z0 z1
     simp[z,z0,z1,dZ]<;>(intros;first|omega|simp_all)
    ·have h4p:=aD h4;have b6:((((2*g.hist)%4294967296)+1)%4294967296)%8<=7:=aY (bE _ (by decide));refine qC 0 rfl<|nW (vU (((((2*g.hist)%4294967296)+1)%4294967296)%8)) rfl rfl (by decide)<|qR 0 rfl<|rV (.agg [.osl 11 0 8 false,vU (((((2*g.hist)%4294967296)+1)%4294967296)%8),.osl 54 0 (g.rets.length+1) false]) rfl<|qRF 0 rfl<|dF rfl ⟨(by show 0+8<=((g.slots.set (gL g pc) (⟨pc,next⟩:Gs)).map gsL).length;exact omT),trivial,(by show 0+(g.rets.length+1)<=((g.rets++([(pc+4)%4294967296])).map eE).length;exact omT),trivial⟩ rfl ?_;show AV.agg [.sl 2 (List.take 8 (List.drop 0 ((g.slots.set (gL g pc) (⟨pc,next⟩:Gs)).map gsL))) false,vU (((((2*g.hist)%4294967296)+1)%4294967296)%8),.sl 1 (List.take (g.rets.length+1) (List.drop 0 ((g.rets++([(pc+4)%4294967296])).map eE))) false]=_;rw[kG gsL (g.slots.set (gL g pc) (⟨pc,next⟩:Gs)) omT,kG eE (g.rets++([(pc+4)%4294967296])) omT];refine congrArg (λz=>AV.agg (guL z)) (?_:(⟨g.slots.set (gL g pc) (⟨pc,next⟩:Gs),((((2*g.hist)%4294967296)+1)%4294967296)%8,g.rets++([(pc+4)%4294967296])⟩:Gu)=fR g pc next i);unfold fR;rw[if_pos hR];have z:=h2;have z0:=h3;have z1:=h4;have hu:up4 pc=(pc+4)%4294967296:=rfl;rw[hu]
     try simp[qG]at z z0 z1
     simp[z,z0,z1,dZ]<;>(intros;first|omega|simp_all)
   ·refine qC 0 rfl<|rCi rfl (QK i hi)<|qR 0 rfl<|gBS rfl id (okB (gtN _ _))<|cU rfl rfl rfl (λh=>h)<|qRC 0 rfl<|aS rfl (λh5=>?_) (λh5=>?_)
    ·have hB:FC i=true∧0<g.rets.length:=by simpa [qG]using h5
     have hB2:=hB.2;have b7:g.rets.length-1<=9223372036854775807:=aN (jS _ _) hok.rets;refine qC 0 rfl<|rW (vN (g.rets.length-1)) rfl (okI (Dm omT hok.rets rfl))<|nW (.osl 42 0 (g.rets.length-1) false) rfl (KZ (by first|rfl|omega) (by simp only[Option.getD];omega)) slT ?_;have b8:((((2*g.hist)%4294967296)+1)%4294967296)%8<=7:=aY (bE _ (by decide));refine qR 0 rfl<|nW (vU (((((2*g.hist)%4294967296)+1)%4294967296)%8)) rfl rfl (by decide)<|qR 0 rfl<|rV (.agg [.osl 11 0 8 false,vU (((((2*g.hist)%4294967296)+1)%4294967296)%8),.osl 42 0 (g.rets.length-1) false]) rfl<|qRF 0 rfl<|dF rfl ⟨(by show 0+8<=((g.slots.set (gL g pc) (⟨pc,next⟩:Gs)).map gsL).length;exact omT),trivial,(by show 0+(g.rets.length-1)<=(g.rets.map eE).length;exact omT),trivial⟩ rfl ?_;show AV.agg [.sl 2 (List.take 8 (List.drop 0 ((g.slots.set (gL g pc) (⟨pc,next⟩:Gs)).map gsL))) false,vU (((((2*g.hist)%4294967296)+1)%4294967296)%8),.sl 1 (List.take (g.rets.length-1) (List.drop 0 (g.rets.map eE))) false]=_;rw[kG gsL (g.slots.set (gL g pc) (⟨pc,next⟩:Gs)) omT,Cc (M:=g.rets.take (g.rets.length-1)) eE g.rets (by rw[cB])];refine congrArg (λz=>AV.agg (guL z)) (?_:(⟨g.slots.set (gL g pc) (⟨pc,next⟩:Gs),((((2*g.hist)%4294967296)+1)%4294967296)%8,g.rets.take (g.rets.length-1)⟩:Gu)=fR g pc next i);unfold fR;rw[if_pos hR];have z:=h2;have z0:=h3;have z1:=h5;have hu:up4 pc=(pc+4)%4294967296:=rfl;rw[hu]
     try simp[qG]at z z0 z1
     simp[z,z0,z1,dZ]<;>(intros;first|omega|simp_all)
    ·have hB: ¬(FC i=true∧0<g.rets.length):=by simpa [qG]using h5
     have b9:((((2*g.hist)%4294967296)+1)%4294967296)%8<=7:=aY (bE _ (by decide));refine qC 0 rfl<|nW (vU (((((2*g.hist)%4294967296)+1)%4294967296)%8)) rfl rfl (by decide)<|qR 0 rfl<|rV (.agg [.osl 11 0 8 false,vU (((((2*g.hist)%4294967296)+1)%4294967296)%8),.osl 42 0 g.rets.length false]) rfl<|qRF 0 rfl<|dF rfl ⟨(by show 0+8<=((g.slots.set (gL g pc) (⟨pc,next⟩:Gs)).map gsL).length;exact omT),trivial,(by show 0+g.rets.length<=(g.rets.map eE).length;exact omT),trivial⟩ rfl ?_;show AV.agg [.sl 2 (List.take 8 (List.drop 0 ((g.slots.set (gL g pc) (⟨pc,next⟩:Gs)).map gsL))) false,vU (((((2*g.hist)%4294967296)+1)%4294967296)%8),.sl 1 (List.take g.rets.length (List.drop 0 (g.rets.map eE))) false]=_;rw[kG gsL (g.slots.set (gL g pc) (⟨pc,next⟩:Gs)) omT,kG eE g.rets omT];refine congrArg (λz=>AV.agg (guL z)) (?_:(⟨g.slots.set (gL g pc) (⟨pc,next⟩:Gs),((((2*g.hist)%4294967296)+1)%4294967296)%8,g.rets⟩:Gu)=fR g pc next i);unfold fR;rw[if_pos hR];have z:=h2;have z0:=h3;have z1:=h5;have hu:up4 pc=(pc+4)%4294967296:=rfl;rw[hu]
     try simp[qG]at z z0 z1
     simp[z,z0,z1,dZ]<;>(intros;first|omega|simp_all)
  ·have h2p:=xI h2;refine qC 0 rfl<|rFx (x:=.osl 34 0 0 false) (h':=upd _ 34 (some (.arr (([]:List Nat).map eE) 1))) rfl rfl (rfl) (⟨by decide,by decide,by show((5:Nat):Int)<=1000000;omega⟩)<|qR 0 rfl<|rFx (x:=.osl 39 0 g.rets.length false) (h':=upd (upd _ 34 none) 39 (some (.arr (g.rets.map eE) 1))) rfl rfl (jN eE ([]:List Nat) g.rets omT omT) (⟨by exact omT,by exact omT,trivial⟩)<|qR 0 rfl<|rV (vN g.rets.length) rfl<|qR 0 rfl<|rCi rfl (QJ i hi)<|qRC 0 rfl<|aS rfl (λh6=>?_) (λh6=>?_)
   ·skip
    have b10:(pc+4)%4294967296<=4294967295:=aY (bE _ (by decide));refine qC 0 rfl<|rV (vU ((pc+4)%4294967296)) rfl<|rV (.sl 1 ([[vU ((pc+4)%4294967296)]]) true) rfl<|rFx (x:=.osl 51 0 (g.rets.length+1) false) (h':=upd (upd _ 39 none) 51 (some (.arr ((g.rets++([(pc+4)%4294967296])).map eE) 1))) rfl rfl (jN eE g.rets ([(pc+4)%4294967296]) omT omT) (⟨by exact omT,by exact omT,trivial⟩)<|qR 0 rfl<|rV (vN (g.rets.length+1)) rfl<|rW (vB (decide ((g.rets.length+1)>4))) rfl (okB (gtN _ _))<|qRC 0 rfl<|aS rfl (λh7=>?_) (λh7=>?_)
    ·have h7p:=of_decide_eq_true h7;refine qC 0 rfl<|nW (.osl 51 1 (g.rets.length+1-1) false) rfl (KZ (by first|rfl|omega) (by simp only[Option.getD];omega)) slT ?_;have b11:((2*g.hist)%4294967296)%8<=7:=aY (bE _ (by decide));refine qR 0 rfl<|nW (vU (((2*g.hist)%4294967296)%8)) rfl rfl (by decide)<|qR 0 rfl<|rV (.agg [.osl 11 0 8 false,vU (((2*g.hist)%4294967296)%8),.osl 51 1 (g.rets.length+1-1) false]) rfl<|qRF 0 rfl<|dF rfl ⟨(by show 0+8<=((g.slots.set (gL g pc) (⟨pc,next⟩:Gs)).map gsL).length;exact omT),trivial,(by show 1+(g.rets.length+1-1)<=((g.rets++([(pc+4)%4294967296])).map eE).length;exact omT),trivial⟩ rfl ?_;show AV.agg [.sl 2 (List.take 8 (List.drop 0 ((g.slots.set (gL g pc) (⟨pc,next⟩:Gs)).map gsL))) false,vU (((2*g.hist)%4294967296)%8),.sl 1 (List.take (g.rets.length+1-1) (List.drop 1 ((g.rets++([(pc+4)%4294967296])).map eE))) false]=_;rw[kG gsL (g.slots.set (gL g pc) (⟨pc,next⟩:Gs)) omT,Cc (M:=(g.rets++([(pc+4)%4294967296])).drop 1) eE (g.rets++([(pc+4)%4294967296])) (aM omT)];refine congrArg (λz=>AV.agg (guL z)) (?_:(⟨g.slots.set (gL g pc) (⟨pc,next⟩:Gs),((2*g.hist)%4294967296)%8,(g.rets++([(pc+4)%4294967296])).drop 1⟩:Gu)=fR g pc next i);unfold fR;rw[if_pos hR];have z:=h2;have z0:=h6;have z1:=h7;have hu:up4 pc=(pc+4)%4294967296:=rfl;rw[hu]
     try simp[qG]at z z0 z1
     simp[z,z0,z1,dZ]<;>(intros;first|omega|simp_all)
    ·have h7p:=aD h7;have b12:((2*g.hist)%4294967296)%8<=7:=aY (bE _ (by decide));refine qC 0 rfl<|nW (vU (((2*g.hist)%4294967296)%8)) rfl rfl (by decide)<|qR 0 rfl<|rV (.agg [.osl 11 0 8 false,vU (((2*g.hist)%4294967296)%8),.osl 51 0 (g.rets.length+1) false]) rfl<|qRF 0 rfl<|dF rfl ⟨(by show 0+8<=((g.slots.set (gL g pc) (⟨pc,next⟩:Gs)).map gsL).length;exact omT),trivial,(by show 0+(g.rets.length+1)<=((g.rets++([(pc+4)%4294967296])).map eE).length;exact omT),trivial⟩ rfl ?_;show AV.agg [.sl 2 (List.take 8 (List.drop 0 ((g.slots.set (gL g pc) (⟨pc,next⟩:Gs)).map gsL))) false,vU (((2*g.hist)%4294967296)%8),.sl 1 (List.take (g.rets.length+1) (List.drop 0 ((g.rets++([(pc+4)%4294967296])).map eE))) false]=_;rw[kG gsL (g.slots.set (gL g pc) (⟨pc,next⟩:Gs)) omT,kG eE (g.rets++([(pc+4)%4294967296])) omT];refine congrArg (λz=>AV.agg (guL z)) (?_:(⟨g.slots.set (gL g pc) (⟨pc,next⟩:Gs),((2*g.hist)%4294967296)%8,g.rets++([(pc+4)%4294967296])⟩:Gu)=fR g pc next i);unfold fR;rw[if_pos hR];have z:=h2;have z0:=h6;have z1:=h7;have hu:up4 pc=(pc+4)%4294967296:=rfl;rw[hu]
     try simp[qG]at z z0 z1
     simp[z,z0,z1,dZ]<;>(intros;first|omega|simp_all)
   ·refine qC 0 rfl<|rCi rfl (QK i hi)<|qR 0 rfl<|gBS rfl id (okB (gtN _ _))<|cU rfl rfl rfl (λh=>h)<|qRC 0 rfl<|aS rfl (λh8=>?_) (λh8=>?_)
    ·have hB:FC i=true∧0<g.rets.length:=by simpa [qG]using h8
     have hB2:=hB.2;have b13:g.rets.length-1<=9223372036854775807:=aN (jS _ _) hok.rets;refine qC 0 rfl<|rW (vN (g.rets.length-1)) rfl (okI (Dm omT hok.rets rfl))<|nW (.osl 39 0 (g.rets.length-1) false) rfl (KZ (by first|rfl|omega) (by simp only[Option.getD];omega)) slT ?_;have b14:((2*g.hist)%4294967296)%8<=7:=aY (bE _ (by decide));refine qR 0 rfl<|nW (vU (((2*g.hist)%4294967296)%8)) rfl rfl (by decide)<|qR 0 rfl<|rV (.agg [.osl 11 0 8 false,vU (((2*g.hist)%4294967296)%8),.osl 39 0 (g.rets.length-1) false]) rfl<|qRF 0 rfl<|dF rfl ⟨(by show 0+8<=((g.slots.set (gL g pc) (⟨pc,next⟩:Gs)).map gsL).length;exact omT),trivial,(by show 0+(g.rets.length-1)<=(g.rets.map eE).length;exact omT),trivial⟩ rfl ?_;show AV.agg [.sl 2 (List.take 8 (List.drop 0 ((g.slots.set (gL g pc) (⟨pc,next⟩:Gs)).map gsL))) false,vU (((2*g.hist)%4294967296)%8),.sl 1 (List.take (g.rets.length-1) (List.drop 0 (g.rets.map eE))) false]=_;rw[kG gsL (g.slots.set (gL g pc) (⟨pc,next⟩:Gs)) omT,Cc (M:=g.rets.take (g.rets.length-1)) eE g.rets (by rw[cB])];refine congrArg (λz=>AV.agg (guL z)) (?_:(⟨g.slots.set (gL g pc) (⟨pc,next⟩:Gs),((2*g.hist)%4294967296)%8,g.rets.take (g.rets.length-1)⟩:Gu)=fR g pc next i);unfold fR;rw[if_pos hR];have z:=h2;have z0:=h6;have z1:=h8;have hu:up4 pc=(pc+4)%4294967296:=rfl;rw[hu]
     try simp[qG]at z z0 z1
     simp[z,z0,z1,dZ]<;>(intros;first|omega|simp_all)
    ·have hB: ¬(FC i=true∧0<g.rets.length):=by simpa [qG]using h8
     have b15:((2*g.hist)%4294967296)%8<=7:=aY (bE _ (by decide));refine qC 0 rfl<|nW (vU (((2*g.hist)%4294967296)%8)) rfl rfl (by decide)<|qR 0 rfl<|rV (.agg [.osl 11 0 8 false,vU (((2*g.hist)%4294967296)%8),.osl 39 0 g.rets.length false]) rfl<|qRF 0 rfl<|dF rfl ⟨(by show 0+8<=((g.slots.set (gL g pc) (⟨pc,next⟩:Gs)).map gsL).length;exact omT),trivial,(by show 0+g.rets.length<=(g.rets.map eE).length;exact omT),trivial⟩ rfl ?_;show AV.agg [.sl 2 (List.take 8 (List.drop 0 ((g.slots.set (gL g pc) (⟨pc,next⟩:Gs)).map gsL))) false,vU (((2*g.hist)%4294967296)%8),.sl 1 (List.take g.rets.length (List.drop 0 (g.rets.map eE))) false]=_;rw[kG gsL (g.slots.set (gL g pc) (⟨pc,next⟩:Gs)) omT,kG eE g.rets omT];refine congrArg (λz=>AV.agg (guL z)) (?_:(⟨g.slots.set (gL g pc) (⟨pc,next⟩:Gs),((2*g.hist)%4294967296)%8,g.rets⟩:Gu)=fR g pc next i);unfold fR;rw[if_pos hR];have z:=h2;have z0:=h6;have z1:=h8;have hu:up4 pc=(pc+4)%4294967296:=rfl;rw[hu]
     try simp[qG]at z z0 z1
     simp[z,z0,z1,dZ]<;>(intros;first|omega|simp_all)
def HD(i:SI):Ry i=true↔okE ⟨i.op,i.rd,i.rs1,i.rs2,i.imm⟩:=by
 unfold Ry okE;simp only[aJ,bB];obtain⟨op,rd,rs1,rs2,imm⟩:=i;constructor
 ·rintro⟨⟨⟨⟨⟨⟨h1,h2⟩,h3⟩,h4⟩,h5⟩,h6⟩,h7⟩;refine⟨h1,h2,?_⟩;generalize lQ op (xC ⟨op,rd,rs1,rs2,imm⟩)=r at h3 h4 h5 h6 h7⊢;obtain⟨a,b,c,d,e⟩:=r;simp only at h3 h4 h5 h6 h7;subst h3 h4 h5 h6 h7;rfl
 ·rintro⟨h1,h2,h3⟩;simp only at h3;refine⟨⟨⟨⟨⟨⟨h1,h2⟩,?_⟩,?_⟩,?_⟩,?_⟩,?_⟩<;>rw[h3]
def VG(i:SI)(hi:i.imm<4294967296):cA C0 129 [siA i] (.tup [.v (.int .u32 ((if Ry i=true then xC ⟨i.op,i.rd,i.rs1,i.rs2,i.imm⟩else 0:Nat):Int)),.v (.int .i64 (if Ry i=true then 0 else 1))]):=by
 by_cases h:Ry i=true
 ·rw[if_pos h,if_pos h];exact .of_tupG Tryz.func129 rfl rfl rfl rfl λS w hG=>QF CR i.op i.rd i.rs1 i.rs2 i.imm w (CL hG) hi ((HD i).1 h)
 ·rw[if_neg h,if_neg h];exact .of_tupG Tryz.func129 rfl rfl rfl rfl λS w hG=>QG CR i.op i.rd i.rs1 i.rs2 i.imm w (CL hG) hi (λq=>h ((HD i).2 q))
def VH(e:Ent)(he:e.ok):cA C0 94 [.agg (enL e)] (vB (tR e)):=by
 refine cA.intro c0Ok Tryz.func94 rfl rfl (by kernel_rfl) rfl<|qS 0 rfl<|rV (vB (decide (e.is<0))) rfl<|qR 0 rfl<|gS rfl id<|gBS rfl id rfl<|cU rfl rfl rfl (by simp)<|qRC 0 rfl<|aS rfl (λh1=>?_) (λh1=>?_)
 ·refine qCF 0 rfl ?_;replace h1:=sP h1;exact fT rfl (dM (by unfold tR;grind [qG,cOr]))
 ·refine qC 0 rfl<|rV (vB (e.is==1)) rfl<|qR 0 rfl<|gS rfl id<|gBS rfl id rfl<|cU rfl rfl rfl (λh=>h)<|qR 0 rfl<|gS rfl id<|gS rfl id<|qR 0 rfl<|gS rfl id<|gBS rfl id rfl<|uV (x:=vB (cR (!(e.is==1)) (e.left != 0) false)) (g:= !(cR (e.is==1) (decide (e.left<=0)) false)) rfl rfl rfl rfl (λh=>h) rfl rfl (λhg hc=>by first|(rw[hg,hc];rfl)|simp_all)<|cU rfl rfl rfl (by simp)<|qRC 0 rfl<|aS rfl (λh2=>?_) (λh2=>?_)
  ·refine qCF 0 rfl ?_;replace h1:=sP h1;replace h2:=sP h2;exact fT rfl (dM (by unfold tR;grind [qG,cOr]))
  ·refine qC 0 rfl<|rCi rfl (pV e.i)<|qR 0 rfl<|rV (vB (e.is==2)) rfl<|qR 0 rfl<|gBS rfl id (okB (neN _ _))<|gS rfl id<|qR 0 rfl<|gS rfl id<|gS rfl id<|uV (x:=vB (cR ((kindOf e.i.op) != 3) true (!e.known))) (g:=e.is==2) rfl rfl rfl rfl (λh=>h) rfl rfl (λhg hc=>by first|(rw[hg,hc];rfl)|simp_all)<|cU rfl rfl rfl (λh=>h)<|qRC 0 rfl<|aS rfl (λh3=>?_) (λh3=>?_)
   ·refine qCF 0 rfl ?_;replace h1:=sP h1;replace h2:=sP h2;replace h3:=sP h3;exact fT rfl (dM (by unfold tR;grind [qG,cOr]))
   ·refine qC 0 rfl<|rV (vB (e.halt != 0)) rfl<|qR 0 rfl<|gS rfl id<|gBS rfl id rfl<|cU rfl rfl rfl (λh=>h)<|qR 0 rfl<|gS rfl id<|qR 0 rfl<|gBS rfl id (okB (eqN _ _))<|uV (x:=vB (cR (e.is==1) ((kindOf e.i.op)==5) false)) (g:=cR (e.halt != 0) (e.is != 3) false) rfl rfl rfl rfl (λh=>h) rfl rfl (λhg hc=>by first|(rw[hg,hc];rfl)|simp_all)<|gS rfl id<|qR 0 rfl<|gS rfl id<|gBS rfl id rfl<|uV (x:=vB (cR (cR (e.is==1) ((kindOf e.i.op)==5) false) (e.halt==3) false)) (g:=cR (e.halt != 0) (e.is != 3) false) rfl rfl rfl rfl (λh=>h) rfl rfl (λhg hc=>by first|(rw[hg,hc];rfl)|simp_all)<|gS rfl id<|cU rfl rfl rfl (λh=>h)<|qRC 0 rfl<|aS rfl (λh4=>?_) (λh4=>?_)
    ·refine qCF 0 rfl ?_;replace h1:=sP h1;replace h2:=sP h2;replace h3:=sP h3;replace h4:=sP h4;exact fT rfl (dM (by unfold tR;grind [qG,cOr]))
    ·refine qC 0 rfl<|rCi rfl (VG e.i (Cd he.imm))<|qR 0 rfl<|rV (vB ((if Ry e.i=true then 0 else 1) != 0)) rfl<|qRC 0 rfl<|aS rfl (λh5=>?_) (λh5=>?_)
     ·refine qC 0 rfl<|rV (vB (e.halt==1)) rfl<|qR 0 rfl<|gS rfl id<|gBS rfl id rfl<|cU rfl rfl rfl (by simp)<|qRF 0 rfl ?_;replace h1:=sP h1;replace h2:=sP h2;replace h3:=sP h3;replace h4:=sP h4;replace h5:=sP h5;exact fT rfl (dM (by unfold tR;grind [qG,cOr]))
     ·refine qCF 0 rfl ?_;replace h1:=sP h1;replace h2:=sP h2;replace h3:=sP h3;replace h4:=sP h4;replace h5:=sP h5;exact fT rfl (dM (by unfold tR;grind [qG,cOr]))
def PK{α:Type}{p:α->Bool}{l:List α}{k:Nat}{x:α}(hx:l[k]?=some x)(hn:p x=false)(h:∀y∈l.take k,p y=false):∀y∈l.take (k+1),p y=false:=by
 intro y hy;rw[bV,hx]at hy;rcases al_List_mem_append.1 hy with hy|hy
 ·exact h y hy
 ·simp at hy;subst hy;exact hn
def PL{α:Type}{p:α->Bool}{l:List α}{k:Nat}{x:α}(hx:l[k]?=some x)(hp:p x=true)(h:∀y∈l.take k,p y=false):l.findIdx? p=some k:=by
 rw[List.findIdx?_eq_some_iff_getElem];obtain⟨hk,rfl⟩:=DS.1 hx;refine⟨hk,hp,λj hj=>?_⟩;have:=h (l[j]'omT) (aB (i:=j) (by rw[cL,if_pos hj,aA omT]));simp[this]
def VI{α:Type}{p:α->Bool}{l:List α}{k:Nat}(hk:l.length<=k)(h:∀y∈l.take k,p y=false):l.findIdx? p=none:=by
 rw[aM hk]at h;rw[List.findIdx?_eq_none_iff];exact h
def PM{α:Type}{p:α->Bool}{l:List α}:∀y∈l.take 0,p y=false:=λy hy=>by simp at hy
def PN(rob:List Ent)(ck:Bool)(hl:rob.length<=1000000)(ho:∀x∈rob,x.ok):cA C0 63 [.sl 17 (rob.map enL) ck] (vI (Dx (yB rob))):=by
 refine dc1 (cA.intro c1Ok Tryz.func63 rfl rfl (by kernel_rfl) rfl ?_);refine qS 0 rfl<|rW (vN rob.length) rfl (bT enL rob)<|qRC 0 rfl<|jX (κ:=Nat) (λk=>⟨slotsF [(5,.sl 17 (rob.map enL) ck),(6,vN rob.length),(7,vN k)],heapF [],4⟩) (λk=>k<=rob.length∧∀y∈rob.take k,My y=false) (λk=>rob.length-k) 0 (λs=>s) (Weak.of_lists (λs=>s) wT trivial rfl) (⟨aE _,PM⟩) ?_;intro k hk;have hkn:k<=rob.length:=hk.1;have hkB:k<=1000000:=by omega
 refine qS 0 rfl<|rW (vB (decide (k<rob.length))) rfl (okB (ltN _ _))<|qRC 0 rfl<|aS rfl (λh1=>?_) (λh1=>?_)
 ·have h1p:=of_decide_eq_true h1;obtain⟨x,hx⟩:∃y_,rob[k]?=some y_:=⟨_,aA omT⟩;have hxo:=ho x (aB hx);refine qC 0 rfl<|rIx (enL x) (.dp 17 0 (enL x)) rfl rfl (fW hx) rfl<|qR 0 rfl<|rCi rfl (pV x.i)<|rW (vB ((kindOf x.i.op)==5)) rfl (okB (eqN _ _))<|qR 0 rfl<|gS rfl id<|cU rfl rfl rfl (λh=>h)<|qR 0 rfl<|gS rfl id<|qR 0 rfl<|gS rfl id<|gBS rfl hsT (okB (neN _ _))<|cU rfl rfl rfl (λh=>h)<|qRC 0 rfl<|aS rfl (λh2=>?_) (λh2=>?_)
  ·refine qCF 0 rfl<|qXF 0 rfl ?_;exact fT rfl (Mx (by unfold yB;rw[PL hx (by simpa [My,qG,uP]using h2) hk.2];rfl))
  ·skip
   have b1:k+1<=1000001:=aF hkB (aC 1);refine qC 0 rfl<|rW (vN (k+1)) rfl (okI (bJ b1 rfl))<|qRF 0 rfl<|⟨k+1,λs=>s,Weak.of_lists _ wT trivial rfl,⟨by omega,PK hx (by have z:=h2;unfold My;simp only[qG]at z;grind) hk.2⟩,by show rob.length-(k+1)<rob.length-k;omega⟩
 ·have h1p:=aD h1;refine qCF 0 rfl<|qXF 0 rfl ?_;exact fT rfl (Mx (by unfold yB;rw[VI omT hk.2];rfl))
def VJ{f:Nat->Bool}{k:Nat}(hp:f k=true)(h:(List.range k).all f=true):(List.range (k+1)).all f=true:=by
 rw[kA,List.all_append,h];simpa using hp
def XW{f:Nat->Bool}{k n:Nat}(hk:k<n)(hp:f k=false):(List.range n).all f=false:=by
 rw[List.all_eq_false];exact⟨k,nE.2 hk,by simp[hp]⟩
def SO{rob:List Ent}{k:Nat}(hg:decide (k>0)=true)(hk:k<rob.length)(hl:rob.length<=1000):0<=IntKind.wrap .i64 ((k:Int)-1)∧(rob.map enL)[(IntKind.wrap .i64 ((k:Int)-1)).toNat]?=some (enL ((rob[k-1]?).getD Ck)):=by
 have h0:=of_decide_eq_true hg;rw[show IntKind.wrap .i64 ((k:Int)-1)=((k-1:Nat):Int)from by rw[wrap_i64 omT omT];omega];refine⟨aH _,?_⟩;show(rob.map enL)[k-1]?=_;rw[bD,aA (show k-1<rob.length by omega)];rfl
def Mq{rob:List Ent}{k:Nat}{x:Ent}(hx:rob[k]?=some x):EF rob k=((k==0||decide (((rob[k-1]?).getD Ck).no<x.no))&&tR x):=by
 unfold EF VQ;rw[hx];have hk:=(DS.1 hx).1;rw[aA (show k-1<rob.length by omega)];rfl
def VK(rob:List Ent)(ck:Bool)(hl:rob.length<=9223372036854775807)(ho:∀x∈rob,x.ok):cA C0 42 [.sl 17 (rob.map enL) ck] (vB (Cg rob)):=by
 refine dc1 (cA.intro c1Ok Tryz.func42 rfl rfl (by kernel_rfl) rfl ?_);refine qS 0 rfl<|rW (vN rob.length) rfl (bT enL rob)<|rW (vB (decide (rob.length>8))) rfl (okB (gtN _ _))<|qRC 0 rfl<|aS rfl (λh1=>?_) (λh1=>?_)
 ·have h1p:=of_decide_eq_true h1;refine qCF 0 rfl ?_;exact fT rfl (dM (by unfold Cg;rw[tA omT];rfl))
 ·have h1p:=aD h1;refine qC 0 rfl<|rW (vN rob.length) rfl (bT enL rob)<|qRC 0 rfl<|jX (κ:=Nat) (λk=>⟨slotsF [(0,.sl 17 (rob.map enL) ck),(7,vB (decide (rob.length>8))),(8,.sl 17 (rob.map enL) ck),(9,vN rob.length),(10,vN k)],heapF [],7⟩) (λk=>k<=rob.length∧(List.range k).all (EF rob)=true) (λk=>rob.length-k) 0 (λs=>s) (Weak.of_lists (λs=>s) wT trivial rfl) (⟨aE _,rfl⟩) ?_;intro k hk;have hkn:k<=rob.length:=hk.1;have hkB:k<=1000000:=by omega
  refine qS 0 rfl<|rW (vB (decide (k<rob.length))) rfl (okB (ltN _ _))<|qRC 0 rfl<|aS rfl (λh2=>?_) (λh2=>?_)
  ·have h2p:=of_decide_eq_true h2;obtain⟨x,hx⟩:∃y_,rob[k]?=some y_:=⟨_,aA omT⟩;have hxo:=ho x (aB hx);refine qC 0 rfl<|rIx (enL x) (.dp 17 0 (enL x)) rfl rfl (fW hx) rfl<|qRC 0 rfl<|cRg<|oR 1 rfl<|rW (vB (decide (k>0))) rfl (okB (gtN _ _))<|oR 1 rfl<|gN rfl<|gN rfl<|gBS rfl id rfl<|Hp (enL ((rob[k-1]?).getD Ck)) (x:=.dp 17 0 (enL ((rob[k-1]?).getD Ck))) (g:=decide (k>0)) rfl rfl rfl rfl hsT rfl rfl (λhg=>SO hg omT omT) rfl<|gS rfl id<|gS rfl id<|gN rfl<|gS rfl id<|gBS rfl hsT rfl<|cU rfl rfl rfl (λh=>h)<|oR 1 rfl<|gN rfl<|jU (x:=vB (tR x)) (g:= !(cR (decide (k>0)) (decide ((((rob[k-1]?).getD Ck).no)>=x.no)) false)) rfl rfl rfl rfl (λh=>h) rfl rfl rfl (.inl rfl) rfl (λhg=>VH x hxo)<|gS rfl id<|cU rfl rfl rfl (by simp)<|rE 32<|qXC 0 rfl<|aS rfl (λh3=>?_) (λh3=>?_)
   ·refine qCF 0 rfl<|qXF 0 rfl ?_;exact fT rfl (dM (by unfold Cg;rw[XW (k:=k) omT (by rw[Mq hx];have z:=h3;simp only[qG,cOr]at z;grind)];simp))
   ·skip
    have b1:k+1<=9223372036854775807:=by omega
    refine qC 0 rfl<|rW (vN (k+1)) rfl (okI (bJ (show k+1<=9223372036854775807 by omega) rfl))<|qRF 0 rfl<|⟨k+1,λs=>s,Weak.of_lists _ wT trivial rfl,⟨by omega,VJ (by rw[Mq hx];have z:=h3;simp only[qG,cOr]at z;grind) hk.2⟩,by show rob.length-(k+1)<rob.length-k;omega⟩
  ·have h2p:=aD h2;refine qCF 0 rfl<|qXF 0 rfl ?_;have hkk:k=rob.length:=by omega
   have hall:=hk.2;rw[hkk]at hall;exact fT rfl (dM (by unfold Cg;rw[hall,nG omT];rfl))
def aa7(R:List Ent)(lo n i:Nat)(cl:Bool)(hR:lo+n<=R.length)(hRl:R.length<=900000)(hi:i<n)(ho:∀x∈R,x.ok):qE C0.P C0.G 64 [.osl 0 lo n cl,vN i] (heapF [(0,.arr (R.map enL) 17)]) 1 (λx h'=>x=.osl 1 0 (i+1) false∧h'=heapF [(0,.arr (R.map enL) 17),(1,.arr ((Ce ((R.drop lo).take n) i).map enL) 17)]):=by
 refine HCall.intro (C:=C1) (s:=1) c1Ok.at Tryz.func64 rfl rfl (by kernel_rfl) rfl rfl<|qS 0 rfl<|rW (vB (decide (i<0))) rfl (okB (ltN _ _))<|qR 0 rfl<|gBS rfl id rfl<|gBS rfl hsT rfl<|cU rfl rfl rfl (by simp)<|qRC 0 rfl<|aS rfl (λh1=>by simp[cOr]at h1;omega) (λ_=>?_);refine qC 0 rfl<|nW (.ptr2 0 (lo+i) 0) rfl rfl ixT ?_;obtain⟨x,hx⟩:∃y_,R[lo+i]?=some y_:=⟨_,aA omT⟩;refine rIx (enL x) (.agg (enL x)) rfl rfl (fW hx) rfl<|qRC 0 rfl<|cRg<|oR 3 rfl<|nW (.osl 0 lo i true) rfl (KZ (by first|rfl|omega) (by simp only[Option.getD];omega)) (by refine⟨?_,?_,?_,?_⟩;all_goals (first|exact aH _|decide|(apply Fj.2;exact omT)|rfl))<|oR 1 rfl<|rV (.sl 17 ([[vI x.no,vU x.pc,vI x.i.op,vI x.i.rd,vI x.i.rs1,vI x.i.rs2,vU x.i.imm,vU x.next,vI x.is,vI x.left,vU x.value,vU x.next,vU x.addr,vI x.halt,vI x.took,vB x.known,vB x.filled]]) true) rfl<|rFx (x:=.osl 26 0 (i+1) false) (h':=upd _ 26 (some (.arr ((((R.drop lo).take i)++([(⟨x.no,x.pc,⟨x.i.op,x.i.rd,x.i.rs1,x.i.rs2,x.i.imm⟩,x.next,x.is,x.left,x.value,x.next,x.addr,x.halt,x.took,x.known,x.filled⟩:Ent)])).map enL) 17))) rfl rfl (SX enL R ([(⟨x.no,x.pc,⟨x.i.op,x.i.rd,x.i.rs1,x.i.rs2,x.i.imm⟩,x.next,x.is,x.left,x.value,x.next,x.addr,x.halt,x.took,x.known,x.filled⟩:Ent)]) (by simp only[aL,aU,bN,cW];omega)) (⟨by simp only[aL,aU,aG,bN,cW,gJ];omega,by exact omT,(by show lo+i<=(R.map enL).length;exact omT),trivial⟩)<|oR 1 rfl<|rE 28<|qXF 0 rfl ?_;have e:((R.drop lo).take i)++([(⟨x.no,x.pc,⟨x.i.op,x.i.rd,x.i.rs1,x.i.rs2,x.i.imm⟩,x.next,x.is,x.left,x.value,x.next,x.addr,x.halt,x.took,x.known,x.filled⟩:Ent)])=Ce ((R.drop lo).take n) i:=by unfold Ce;rw[show((R.drop lo).take n)[i]?=some x from by rw[cL,if_pos hi,cE];exact hx];simp only[List.take_take];rw[tB omT]
 refine pK (rs:=[.osl 26 0 (i+1) false]) rfl (r:=.osl 1 0 (i+1) false) (σ:=λz=>match z with|1=>26|z=>z) ⟨rfl,rfl⟩ rfl (cI (λz=>match z with|1=>26|z=>z) rfl rfl ⟨⟨rfl,rfl,rfl⟩,⟨rfl,?_,rfl⟩,trivial⟩ rfl);show some (Blk.arr ((((R.drop lo).take i)++([(⟨x.no,x.pc,⟨x.i.op,x.i.rd,x.i.rs1,x.i.rs2,x.i.imm⟩,x.next,x.is,x.left,x.value,x.next,x.addr,x.halt,x.took,x.known,x.filled⟩:Ent)])).map enL) 17)=some (Blk.arr ((Ce ((R.drop lo).take n) i).map enL) 17);rw[e]
def HE{prog:List Nat}(hp:∀x∈prog,x<=4294967295)(pc:Nat):fetchW prog pc<=4294967295:=by
 unfold fetchW fetchP;split
 ·cases h:prog[pc/4]? with
  |none=>exact aE _
  |some x=>exact hp x (aB h)
 ·exact aE _
def Fx{b:Bool}(h:(!b)=true):b=false:=by simpa using h
def sL{b:Bool}(h:(!b)=false): ¬b=false:=by cases b<;>simp_all
def Dh(x:Nat):decE x=0↔ ¬EM x=0:=by unfold decE;split<;>simp_all
abbrev mcX(c:Co)(R F S T:AV):List AV:=[vI c.conf.mode,vI c.conf.width,vI c.conf.rob,vI c.conf.queue,vI c.conf.stores,vI c.conf.slots,vI c.conf.sets,vI c.conf.ways,.sl 1 (c.conf.lat.map iK) false,vB c.conf.tables,.sl 1 (c.conf.tape.map eE) false,.sl 1 (c.prog.map eE) false,vI c.cycle,vU (c.r 0),vU (c.r 1),vU (c.r 2),vU (c.r 3),vU (c.r 4),vU (c.r 5),vU (c.r 6),vU (c.r 7),vU (c.r 8),vU (c.r 9),vU (c.r 10),vU (c.r 11),vU (c.r 12),vU (c.r 13),vU (c.r 14),vU (c.r 15),vU (c.r 16),vU (c.r 17),vU (c.r 18),vU (c.r 19),vU (c.r 20),vU (c.r 21),vU (c.r 22),vU (c.r 23),vU (c.r 24),vU (c.r 25),vU (c.r 26),vU (c.r 27),vU (c.r 28),vU (c.r 29),vU (c.r 30),vU (c.r 31),vU c.fetch,vB c.stop,F,R,vI c.next,S,vI c.data.ways,.sl 1 (c.data.sets.map aV) false,vI c.words.ways,.sl 1 (c.words.sets.map aV) false,.sl 4 (c.bus.map rqL) false,vI c.asked,vI c.guessed,.v (.string c.mem),.sl 2 (c.guess.slots.map gsL) false,vU c.guess.hist,.sl 1 (c.guess.rets.map eE) false,vI c.halt,T]
structure Co.ok(c:Co)(n:Nat):Prop where
 conf:c.conf.okW
 prog:c.prog.length<=9223372036854775807
 progo:∀x∈c.prog,x<=4294967295
 r:∀k,c.r k<=4294967295
 fetch:c.fetch<=4294967295
 fet:c.fetched.length<=9223372036854775807
 feto:∀x∈c.fetched,x.ok
 rob:c.rob.length<=9223372036854775807
 robo:∀x∈c.rob,x.ok
 sto:c.stores.length<=9223372036854775807
 stoo:∀x∈c.stores,x.ok
 data:c.data.ok
 words:c.words.ok
 bus:c.bus.length<=n
 buso:∀x∈c.bus,x.ok
 asked:c.asked<=9223372036854775807
 guessed:c.guessed<=9223372036854775807
 mem:c.mem.size<=1000000
 guess:c.guess.ok
 ret:c.retired.length<=n
 reto:∀x∈c.retired,x.ok
def HC(c:Co)(n:Nat)(hok:c.ok n)(hnb:n<=890000):cA C0 23 [.agg (coL c)] (vB (iA c)):=by
 refine dc1 (cA.intro c1Ok Tryz.func23 rfl rfl (by kernel_rfl) rfl ?_);refine qSC 0 rfl<|cRg<|oR 2 rfl<|rCi rfl (SP c.conf hok.conf)<|oR 2 rfl<|gN rfl<|gS rfl id<|gBS rfl id (bT eE c.prog)<|gBS rfl id (okB (gtN _ _))<|cU rfl rfl rfl (by simp)<|oR 1 rfl<|gN rfl<|gS rfl id<|gN rfl<|gS rfl id<|jU (x:=.v (.string (sW c.mem))) (g:= !(cR (!(wA c.conf)) true (decide (c.prog.length>64)))) rfl rfl rfl rfl (λh=>h) rfl rfl rfl (.inl rfl) rfl (λhg=>Uy c.mem)<|gBS rfl hsT rfl<|cU rfl rfl rfl (by simp)<|rE 20<|qXC 0 rfl<|aS rfl (λh1=>?_) (λh1=>?_)
 ·refine qCF 0 rfl ?_;exact fT rfl (dM (by unfold iA;have q0:=h1;simp only[qG,cOr]at q0;rw[bX];simp only[aJ,bB,bZ,sB];grind))
 ·refine qC 0 rfl<|rCi rfl (VK c.rob false hok.rob hok.robo)<|qR 0 rfl<|gS rfl id<|gBS rfl id (bT enL c.rob)<|qR 0 rfl<|gS rfl id<|gS rfl id<|gBS rfl hsT rfl<|cU rfl rfl rfl (by simp)<|qRC 0 rfl<|aS rfl (λh2=>?_) (λh2=>?_)
  ·refine qCF 0 rfl ?_;exact fT rfl (dM (by unfold iA;have q0:=h1;have q1:=h2;simp only[qG,cOr]at q0 q1;rw[bX];simp only[aJ,bB,bZ,sB];grind))
  ·refine qC 0 rfl<|rW (vN c.rob.length) rfl (bT enL c.rob)<|qRC 0 rfl<|jX (κ:=Nat) (λk=>⟨slotsF [(1,.ptr 0 0),(24,vB (cR (cR (!(wA c.conf)) true (decide (c.prog.length>64))) true (!(c.mem.toList==(sW c.mem).toList)))),(37,vB (cR (!(Cg c.rob)) true (decide (((c.rob.length:Nat):Int)>c.conf.rob)))),(39,.sl 17 (c.rob.map enL) false),(40,vN c.rob.length),(41,vN k)],heapF [(0,.box (coL c))],37⟩) (λk=>k<=c.rob.length∧(c.rob.take k).all (λe=>decide (e.no<c.next))=true) (λk=>c.rob.length-k) 0 (λs=>s) (Weak.of_lists (λs=>s) wT wH rfl) (⟨aE _,rfl⟩) ?_;intro k hk;have hkn:k<=c.rob.length:=hk.1;have hkB:k<=9223372036854775807:=by have:=hok.rob;omega
   have hrl:=hok.rob;refine qS 0 rfl<|rW (vB (decide (k<c.rob.length))) rfl (okB (ltN _ _))<|qRC 0 rfl<|aS rfl (λh3=>?_) (λh3=>?_)
   ·have h3p:=of_decide_eq_true h3;obtain⟨x,hx⟩:∃y_,c.rob[k]?=some y_:=⟨_,aA omT⟩;have hxo:=hok.robo x (aB hx);refine qC 0 rfl<|rIx (enL x) (.dp 17 0 (enL x)) rfl rfl (fW hx) rfl<|qR 0 rfl<|rV (vB (decide (x.no>=c.next))) rfl<|qRC 0 rfl<|aS rfl (λh4=>?_) (λh4=>?_)
    ·have h4p:=of_decide_eq_true h4;refine qCF 0 rfl<|qXF 0 rfl ?_;exact fT rfl (dM (by unfold iA;have q0:=h1;have q1:=h2;have q3:=h4;simp only[qG,cOr]at q0 q1;have hz:=abU (p:=λe:Ent=>decide (e.no<c.next)) hx (by have z:=h4;simpa using z);rw[bX];simp only[aJ,bB,bZ,sB];grind))
    ·have h4p:=aD h4;have b1:k+1<=9223372036854775807:=by omega
     refine qC 0 rfl<|rW (vN (k+1)) rfl (okI (bJ (show k+1<=9223372036854775807 by omega) rfl))<|qRF 0 rfl<|⟨k+1,λs=>s,Weak.of_lists _ wT wH rfl,⟨by omega,DJ hx (by have z:=h4;simpa using z) hk.2⟩,by show c.rob.length-(k+1)<c.rob.length-k;omega⟩
   ·have h3p:=aD h3;refine qCF 0 rfl<|qX 0 rfl<|rCi rfl (XX c.data c.conf hok.data)<|qR 0 rfl<|gS rfl id<|qR 0 rfl<|gS rfl id<|jU (x:=vB (yC c.words c.conf)) (g:= !(!(yC c.data c.conf))) rfl rfl rfl rfl hsT rfl rfl rfl (.inl rfl) rfl (λhg=>XX c.words c.conf hok.words)<|gS rfl id<|cU rfl rfl rfl (by simp)<|qR 0 rfl<|gS rfl id<|jU (x:=vB (sR c.guess)) (g:= !(cR (!(yC c.data c.conf)) true (!(yC c.words c.conf)))) rfl rfl rfl rfl (λh=>h) rfl rfl rfl (.inl rfl) rfl (λhg=>Ir c.guess hok.guess)<|gS rfl id<|cU rfl rfl rfl (by simp)<|qRC 0 rfl<|aS rfl (λh5=>?_) (λh5=>?_)
    ·refine qCF 0 rfl ?_;exact fT rfl (dM (by unfold iA;have q0:=h1;have q1:=h2;have q3:=h5;simp only[qG,cOr]at q0 q1 q3;rw[bX];simp only[aJ,bB,bZ,sB];grind))
    ·refine qC 0 rfl<|rW (vN c.fetched.length) rfl (bT ftL c.fetched)<|qR 0 rfl<|rV (vB (decide (((c.fetched.length:Nat):Int)>c.conf.queue))) rfl<|qR 0 rfl<|gS rfl id<|gBS rfl id (bT ptL c.stores)<|qR 0 rfl<|gS rfl id<|gS rfl id<|gBS rfl hsT rfl<|cU rfl rfl rfl (by simp)<|qRC 0 rfl<|aS rfl (λh6=>?_) (λh6=>?_)
     ·refine qCF 0 rfl ?_;exact fT rfl (dM (by unfold iA;have q0:=h1;have q1:=h2;have q3:=h5;have q4:=h6;simp only[qG,cOr]at q0 q1 q3 q4;rw[bX];simp only[aJ,bB,bZ,sB];grind))
     ·refine qC 0 rfl<|rW (vN c.stores.length) rfl (bT ptL c.stores)<|qRC 0 rfl<|jX (κ:=Nat) (λj=>⟨slotsF [(1,.ptr 0 0),(24,vB (cR (cR (!(wA c.conf)) true (decide (c.prog.length>64))) true (!(c.mem.toList==(sW c.mem).toList)))),(37,vB (cR (!(Cg c.rob)) true (decide (((c.rob.length:Nat):Int)>c.conf.rob)))),(42,vB (decide (k<c.rob.length))),(70,vB (cR (cR (!(yC c.data c.conf)) true (!(yC c.words c.conf))) true (!(sR c.guess)))),(86,vB (cR (decide (((c.fetched.length:Nat):Int)>c.conf.queue)) true (decide (((c.stores.length:Nat):Int)>c.conf.stores)))),(88,.sl 2 (c.stores.map ptL) false),(89,vN c.stores.length),(90,vN j)],heapF [(0,.box (coL c))],78⟩) (λj=>j<=c.stores.length∧(c.stores.take j).all (λp=>iR (c.mem.size:Int) p.addr (p.data.size:Int))=true) (λj=>c.stores.length-j) 0 (λs=>s) (Weak.of_lists (λs=>s) wT wH rfl) (⟨aE _,rfl⟩) ?_;intro j hj;have hjn:j<=c.stores.length:=hj.1;have hjB:j<=9223372036854775807:=by have:=hok.sto;omega
      have hsl:=hok.sto;refine qS 0 rfl<|rW (vB (decide (j<c.stores.length))) rfl (okB (ltN _ _))<|qRC 0 rfl<|aS rfl (λh7=>?_) (λh7=>?_)
      ·have h7p:=of_decide_eq_true h7;obtain⟨p,hp⟩:∃y_,c.stores[j]?=some y_:=⟨_,aA omT⟩;have hpo:=hok.stoo p (aB hp);refine qC 0 rfl<|rIx (ptL p) (.dp 2 0 (ptL p)) rfl rfl (fW hp) rfl<|qR 0 rfl<|rV (vN c.mem.size) rfl<|qR 0 rfl<|rV (vN p.data.size) rfl<|rCi rfl (Gz (c.mem.size:Int) p.addr (p.data.size:Int) (by have:=hok.mem;omega) (Cd hpo.addr))<|qRC 0 rfl<|aS rfl (λh8=>?_) (λh8=>?_)
       ·refine qCF 0 rfl<|qXF 0 rfl ?_;exact fT rfl (dM (by unfold iA;have q0:=h1;have q1:=h2;have q3:=h5;have q4:=h6;have q6:=h8;simp only[qG,cOr]at q0 q1 q3 q4;have hz:=abU (p:=λp:Pt=>iR (c.mem.size:Int) p.addr (p.data.size:Int)) hp (by have z:=h8;simpa using z);rw[bX];simp only[aJ,bB,bZ,sB];grind))
       ·skip
        have b2:j+1<=9223372036854775807:=by omega
        refine qC 0 rfl<|rW (vN (j+1)) rfl (okI (bJ (show j+1<=9223372036854775807 by omega) rfl))<|qRF 0 rfl<|⟨j+1,λs=>s,Weak.of_lists _ wT wH rfl,⟨by omega,DJ hp (by have z:=h8;simpa using z) hj.2⟩,by show c.stores.length-(j+1)<c.stores.length-j;omega⟩
      ·have h7p:=aD h7;refine qCF 0 rfl<|qXF 0 rfl ?_;have hz1:=DK (p:=λe:Ent=>decide (e.no<c.next)) omT hk.2;have hz2:=DK (p:=λp:Pt=>iR (c.mem.size:Int) p.addr (p.data.size:Int)) omT hj.2;exact fT rfl (dM (by unfold iA;have q0:=h1;have q1:=h2;have q3:=h5;have q4:=h6;simp only[qG,cOr]at q0 q1 q3 q4;rw[bX];simp only[aJ,bB,true_iff];grind))
def QM(h:AH):AV->AV
 | .ptr s c=>match h s with|some (.box cells)=>.dp cells.length c (sF h cells)|_=>.any
 |x=>vR h x
def JQ(h:AH):List AV->List AV
 |[]=>[]
 |x::xs=>QM h x::JQ h xs
def QN(h:AH):AV->Prop
 | .ptr s _=>match h s with|some (.box cells)=>eR (sF h cells)=true∧jZ h cells|_=>True
 |x=>jT h x
def Wp(h:AH):List AV->Prop
 |[]=>True
 |x::xs=>QN h x∧Wp h xs
theorem JR(h:AH):∀(l:List AV),(JQ h l).length=l.length
 |[]=>rfl
 |_::l=>congrArg (· +1) (JR h l)
theorem JS(h:AH):∀(l:List AV) (i:Nat) (x:AV),(JQ h l)[i]?=some x->∃y,l[i]?=some y∧x=QM h y
 |[],i,x,hx=>by simp[JQ]at hx
 |y::l,0,x,hx=>by simp[JQ]at hx;exact⟨y,rfl,hx.symm⟩
 |y::l,i+1,x,hx=>by simp[JQ]at hx;exact JS h l i x hx
theorem JT(h:AH):∀(l:List AV),Wp h l->∀(i:Nat) y,l[i]?=some y->QN h y
 |[],_,i,y,hy=>by simp at hy
 |x::l,hl,0,y,hy=>by simp at hy;subst hy;exact hl.1
 |x::l,hl,i+1,y,hy=>JT h l hl.2 i y (by simpa using hy)
theorem Ay(h:AH):∀(l:List AV),(sF h l).length=l.length
 |[]=>by simp[sF]
 |_::l=>by simp[sF,Ay h l]
theorem JU(h:AH):∀(l:List AV) (i:Nat) (x:AV),(sF h l)[i]?=some x->∃y,l[i]?=some y∧x=vR h y
 |[],i,x,hx=>by simp[sF]at hx
 |y::l,0,x,hx=>by simp[sF]at hx;exact⟨y,rfl,hx.symm⟩
 |y::l,i+1,x,hx=>by simp[sF]at hx;exact JU h l i x hx
theorem EZ(h:AH):∀(l:List AV),jZ h l->∀(i:Nat) y,l[i]?=some y->jT h y
 |[],_,i,y,hy=>by simp at hy
 |x::l,hl,0,y,hy=>by simp only[jZ]at hl;simp at hy;subst hy;exact hl.1
 |x::l,hl,i+1,y,hy=>by simp only[jZ]at hl;exact EZ h l hl.2 i y (by simpa using hy)
section
variable {S:Nat->Prop}{w:World}{β:Bt}{h:AH}{B:Nat}
def QO(H:SimH B S w β h){a:AV}{v:Value}(hr:Rep S w β a v)(hl:QN h a):Rep (λb=>b<w.heap.size) w β (QM h a) v:=by
 have hS:∀b,(S b∨(B<=b∧b<w.heap.size))->b<w.heap.size:=λb hb=>hb.elim (H.lt b) (·.2);by_cases hp:∃s c,a=.ptr s c
 ·obtain⟨s,c,rfl⟩:=hp
  cases hr with
  |ptr _ _ l hlo=>
  simp only[QM];simp only[QN]at hl
  cases hs:h s with
  |none=>exact .any _
  | some blk=>
   cases blk with
   |arr rows rs=>exact .any _
   |row cells=>exact .any _
   | box cells=>
    simp only[hs]at hl⊢;obtain⟨l',ds,e',fr',k1,k2,k3,k4,k5,k6⟩:=H.own s _ hs;obtain rfl:l'=l:=by rw[hlo]at k1;exact(Option.some.inj k1).symm
    have hlt:∀(j:Nat) a,(sF h cells)[j]?=some a->ds[l'.base+j]?=some (ds.getD (l'.base+j) undef)∧(ds.getD (l'.base+j) undef).oneCell'=true∧Rep (λb=>b<w.heap.size) w noB a (ds.getD (l'.base+j) undef):=by
     intro j a hj;obtain⟨b,hb,rfl⟩:=JU h cells j a hj;obtain⟨u,q1,q2,q3⟩:=k6 j b hb;have hg:ds.getD (l'.base+j) undef=u:=by rw[aI,q1];rfl
     rw[hg];exact⟨q1,q2,lV ((BG H q3 (EZ h cells hl.2 j b hb)).mono hS (Evo.refl _ _) (LY.refl _)) (fX _ hl.1 j _ hj) _⟩
    refine .dp cells.length c (sF h cells) l'.blk l'.base (λj=>if j<cells.length then ds.getD (l'.base+j) undef else .bool false) (Ay h cells) (fQ k2) (λj a hj=>?_) (λj=>?_) λj a hj=>?_
    ·have hjl:j<cells.length:=by rw[<-Ay h cells];exact(DS.1 hj).1
     rw[if_pos hjl,gM k2];exact(hlt j a hj).1
    ·show(if j<cells.length then ds.getD (l'.base+j) undef else .bool false).oneCell'=true;by_cases hjl:j<cells.length
     ·rw[if_pos hjl];exact(hlt j _ (aA (by rw[Ay];exact hjl))).2.1
     ·rw[if_neg hjl];rfl
    ·have hjl:j<cells.length:=by rw[<-Ay h cells];exact(DS.1 hj).1
     rw[if_pos hjl];exact(hlt j a hj).2.2
 ·have e1:QM h a=vR h a:=by cases a<;>first|rfl|exact absurd ⟨_,_,rfl⟩ hp
  have e2:QN h a=jT h a:=by cases a<;>first|rfl|exact absurd ⟨_,_,rfl⟩ hp
  rw[e1];rw[e2]at hl;exact(BG H hr hl).mono hS (Evo.refl _ _) (LY.refl _)
end
theorem qE.of_dcall{C:Ctx}{f:FuncId}{args:List AV}{h:AH}{s:Nat}{r:AV}(hD:cA C f (JQ h args) r)(hcl:eR (JQ h args)=true)(hlk:Wp h args)(hfl:CB r=true):qE C.P C.G f args h s (λx h'=>x=r∧h'=h):=by
 obtain⟨hm,hcall⟩:=hD;refine⟨hm,λB S w β vs H hdom hG hargs=>?_⟩;refine(hcall (λb=>b<w.heap.size) w vs (λ_ h=>h) (λg cells hg=>(hG g cells hg).mono H.lt (Evo.refl _ _) (LY.refl _)) ⟨by rw[JR];exact hargs.1,λi y u p q=>?_⟩).mono ?_
 ·obtain⟨z,hz,rfl⟩:=JS h args i y p;exact lV (QO H (hargs.2 i z u hz q) (JT h args hlk i z hz)) (fX _ hcl i _ p) _
 ·rintro e w' ⟨v,he,hB,hr⟩;have hE:Evo S w w':=Evo.of_kept (λb hb=>hB.block b hb) H.lt;refine⟨v,S,β,r,h,⟨rfl,rfl⟩,he,LX hr hfl,⟨λs' blk hs'=>?_,H.inj,λb hb=>Nat.lt_of_lt_of_le (H.lt b hb) hB.size,aN H.big hB.size⟩,⟨λ_ h=>h,hE,hB.mono H.big,LY.refl _,λ_ _ hx=>.inl hx,λb hb=>.inl hb,λb hb _=>hB.block b hb⟩⟩;obtain⟨l,cs,e',fr,k1,k2,k3,k4,k5,k6⟩:=H.own s' blk hs';exact⟨l,cs,e',fr,k1,(hB.block _ (fQ k2)).trans k2,k3,k4,k5,k6.mono (λ_ h=>h) hE (LY.refl _)⟩
def FrL(ρ:Nat->Nat)(K:AH)(s s2:Nat):List (Nat×Blk)->Prop
 |[]=>True
 |(i,b)::l=>(Nat.blt (ρ i) s2=true∧Nat.blt i s=true∧qU s b=true∧K (ρ i)=some (Du ρ b))∧FrL ρ K s s2 l
theorem FrL.get{ρ:Nat->Nat}{K:AH}{s s2:Nat}:∀{l:List (Nat×Blk)},FrL ρ K s s2 l->∀x blk,heapF l x=some blk->ρ x<s2∧x<s∧qU s blk=true∧K (ρ x)=some (Du ρ blk)
 |[],_,x,blk,h=>by cases h
 | (i,b)::l,hl,x,blk,h=>by
  simp only[heapF]at h
  cases hq:Nat.beq i x with
  |true=>
   rw[hq]at h;injection h with h;subst h;rw[<-aK hq]
   exact⟨aP hl.1.1,aP hl.1.2.1,hl.1.2.2.1,hl.1.2.2.2⟩
  |false=>rw[hq]at h;exact FrL.get hl.2 x blk h
def Ty(ρ:Nat->Nat):Nat->Bool
 |0=>true
 |k+1=>(List.range k).all (λj=> !Nat.beq (ρ j) (ρ k))&&Ty ρ k
theorem MU{ρ:Nat->Nat}:∀{s:Nat},Ty ρ s=true->∀x y,x<s->y<s->ρ x=ρ y->x=y
 |0,_,x,_,hx,_,_=>absurd hx (dD _)
 | k+1,h,x,y,hx,hy,e=>by
  simp only[Ty,aJ,lE,nE,qQ]at h;rcases al_Nat_lt_or_ge x k with h1|h1<;>rcases al_Nat_lt_or_ge y k with h2|h2
  ·exact MU h.2 x y h1 h2 e
  ·have:y=k:=by omega
   subst this;have:=h.1 x h1;rw[e]at this;simp at this
  ·have:x=k:=by omega
   subst this;have:=h.1 y h2;rw[e]at this;simp at this
  ·omega
theorem qE.frameL{P:Program}{G:Nat->Option (List AV)}{f:FuncId}{args:List AV}{L:List (Nat×Blk)}{s:Nat}{Post:AV->AH->Prop}(H:qE P G f args (heapF L) s Post)(ρ:Nat->Nat)(K:AH)(s2:Nat)(hfull:fullB (heapF L) s=true)(hL:FrL ρ K s s2 L)(hi:Ty ρ s=true)(ha:mM s args=true)
  (Post':AV->AH->Prop) (hPost:∀r h',Post r h'->∃K',Post' (uX (FH ρ s s2) r) K'∧∀y blk,K' y=some blk->(∃x blk0,h' x=some blk0∧y=FH ρ s s2 x∧blk=Du (FH ρ s s2) blk0)∨(K y=some blk∧∀x,x<s->ρ x≠y)):qE P G f (Bb ρ args) K s2 Post':=
 H.frame ρ K s2 hfull (λx hx=>by
  cases hb:heapF L x with
  |none=>exact absurd hb hx
  |some blk=>exact(hL.get x blk hb).2.1) (λx blk hx=>let ⟨a,_,c,d⟩:=hL.get x blk hx;⟨a,c,d⟩) (MU hi) ha Post' hPost
mutual
theorem JV{s:Nat}{σ τ:Nat->Nat}(h:∀x,x<s->σ x=τ x):∀(a:AV),mL s a=true->uX σ a=uX τ a
 | .ptr x c,hb=>by simp only[uX];rw[h x (by simpa [mL]using hb)]
 | .ptr2 x r c,hb=>by simp only[uX];rw[h x (by simpa [mL]using hb)]
 | .osl x lo n c,hb=>by simp only[uX];rw[h x (by simpa [mL]using hb)]
 | .agg cs,hb=>by simp only[uX];rw[wE h cs (by simpa [mL]using hb)]
 | .tup cs,hb=>by simp only[uX];rw[wE h cs (by simpa [mL]using hb)]
 | .clo f a b,hb=>by
  simp only[mL]at hb;split at hb
  ·rename_i ha;simp only[uX];rw[wE h a ha,wE h b hb]
  ·cases hb
 | .opt g x,hb=>by simp only[uX];rw[JV h x (by simpa [mL]using hb)]
 | .v _,_| .sl _ _ _,_| .dp _ _ _,_| .any,_=>by simp[uX]
theorem wE{s:Nat}{σ τ:Nat->Nat}(h:∀x,x<s->σ x=τ x):∀(cs:List AV),mM s cs=true->Bb σ cs=Bb τ cs
 |[],_=>by simp[Bb]
 |c::cs,hb=>by
  simp only[mM]at hb;split at hb
  ·rename_i hc;simp only[Bb];rw[JV h c hc,wE h cs hb]
  ·cases hb
end
def yI(ρ:Nat->Nat)(s s2:Nat)(blk:Blk)(hb:qU s blk=true):Du (FH ρ s s2) blk=Du ρ blk:=by
 have hx:∀x,x<s->FH ρ s s2 x=ρ x:=λx hx=>rY ρ omT
 cases blk with
 |box cells=>simp only[Du];rw[wE hx cells hb]
 |arr rows rs=>rfl
 |row cells=>simp only[Du];rw[wE hx cells hb]
theorem qE.frameU{P:Program}{G:Nat->Option (List AV)}{f:FuncId}{args:List AV}{L:List (Nat×Blk)}{s:Nat}{r:AV}(H:qE P G f args (heapF L) s (λx h'=>x=r∧h'=heapF L))(ρ:Nat->Nat)(K:AH)(s2:Nat)(hfull:fullB (heapF L) s=true)(hL:FrL ρ K s s2 L)(hi:Ty ρ s=true)(ha:mM s args=true)(hr:eL r=true):qE P G f (Bb ρ args) K s2 (λx h'=>x=r∧h'=K):=by
 refine H.frameL ρ K s2 hfull hL hi ha _ λr' h' hP=>?_;obtain⟨rfl,rfl⟩:=hP;refine⟨K,⟨zD _ _ hr,rfl⟩,λy blk hy=>?_⟩;by_cases hx:∃x,x<s∧ρ x=y
 ·obtain⟨x,hxs,rfl⟩:=hx;obtain⟨blk0,hb0⟩:=DD.1 (uN hfull x hxs);have hk:=hL.get x blk0 hb0;rw[hk.2.2.2]at hy;injection hy with hy;refine .inl ⟨x,blk0,hb0,(rY ρ omT).symm,?_⟩;rw[<-hy];exact(yI ρ s s2 blk0 hk.2.2.1).symm
 ·exact .inr ⟨hy,λx hxs e=>hx ⟨x,hxs,e⟩⟩
structure FOk(F:Fence)(P:Program):Prop where
 fn:∀f,F.fn f
 dep:F.depth=none
 calls:∀{f args w R} (m:Nat),Calls P f args w R->CallsIn F m P f args w R
 rows:∀{r args w R} (m:Nat),Rows P r args w R->RowsIn F m P r args w R
def Fc{n:Nat}{P:Program}{row:String}{args:Array Value}{w:World}{R:Value->World->Prop}(h:Rows P row args w R):RowsIn Fence.wide n P row args w R:=
 λc cs _=>let ⟨v,w',r,s⟩:=h c cs;⟨v,w',r,stepsIn_wide.2 s⟩
def DR(P:Program):FOk Fence.wide P:=⟨λ_=>trivial,rfl,λ_ h=>callsIn_wide.2 h,λ_ h=>Fc h⟩
def JY(P:Program)(l:Nat):FOk (Fence.wide.inRound l) P:=⟨λ_=>trivial,rfl,λ_ h=>CallsIn.inRound l (callsIn_wide.2 h),λm h=>(Fc (n:=m) h:_)⟩
def tmk(kp:Nat->Bool)(a a':Act):Prop:=∀i,kp i=true->a'.tmps.getD i undef=a.tmps.getD i undef
theorem tmk.refl(kp:Nat->Bool)(a:Act):tmk kp a a:=λ_ _=>rfl
theorem tmk.trans{kp:Nat->Bool}{a b c:Act}(h:tmk kp a b)(k:tmk kp b c):tmk kp a c:=λi hi=>(k i hi).trans (h i hi)
def QS(o:Oper):Bool:=match o.op with| .defer _=>false|_=>true
def JZ(kp:Nat->Bool)(o:Oper):Bool:=match o.dst with|some d=> !kp d|none=>true
def Ka(kp:Nat->Bool)(l:List Oper):Bool:=l.all λo=>QS o&&JZ kp o
def MX{kp:Nat->Bool}{o:Oper}(hk:JZ kp o=true)(a:Act)(ds:List Deferred)(v:Value):tmk kp a ({a with defers:=ds}.put o.dst v):=by
 intro i hi;unfold JZ at hk
 cases hd:o.dst with
 |none=>rfl
 |some k=>
  rw[hd]at hk;have hne:i≠k:=λe=>by subst e;simp[hi]at hk
  simp[Act.put,aI,cX (Ne.symm hne)]
section
variable {F:Fence}{m:Nat}{P:Program}{ops:Array Oper}{Q Q':Exit->Act->World->Prop}{kp:Nat->Bool}
def Ws(hF:FOk F P){o:Oper}(hd:QS o=true)(hno: ¬LetsOut Q)(hQ:∀c a w,Q (.panic c) a w->Q' (.panic c) a w){a:Act}{w:World}{K:Act->World->Prop}(h:o.wp P a w K Q):
  o.wpIn F m P a w (λa' w'=>K a' w'∧∃v ds,a'={a with defers:=ds}.put o.dst v) Q':=by
 unfold Oper.wpIn;refine⟨λf _=>hF.fn f,?_⟩;rw[Oper.semAt_eq _ _ _ (λc hc=>by unfold QS at hd;rw[hc]at hd;cases hd)];unfold Oper.wp at h;generalize (execOp a.eval o).run P w=r at h;have dep:F.depth.isSome=true->1<=m:=λhd=>by rw[hF.dep]at hd;cases hd
 cases r with
 | ok n w'=>
  cases n with
  |value v=>exact⟨h,v,a.defers,rfl⟩
  |skip=>exact⟨h,undef,a.defers,rfl⟩
  |defer d=>exact⟨h,undef,d::a.defers,rfl⟩
  |enter f args=>
   refine⟨dep,hF.calls _ (Calls.mono h λe w'' he=>?_)⟩
   cases e with
   |returned v=>exact⟨he,v,a.defers,rfl⟩
   |panicked c=>exact hQ _ _ _ he
   |outgrown=>exact absurd he hno
  |row r args=>exact⟨dep,hF.rows _ (Rows.mono h λv w'' he=>⟨he,v,a.defers,rfl⟩)⟩
  |_=>exact h.elim
 |halt x w'=>cases x<;>first|exact hQ _ _ _ h|exact h.elim
def LB(hF:FOk F P){o:Oper}(hd:QS o=true)(hk:JZ kp o=true)(hno: ¬LetsOut Q)(hQ:∀c a w,Q (.panic c) a w->Q' (.panic c) a w){a:Act}{w:World}{K K':Act->World->Prop}
  (h:if Region.wanted o (yielded ops a.tmps)then o.wp P a w K Q∨(o.asks P a w∧LetsOut Q)else K (a.put o.dst undef) w) (hK:∀a' w',K a' w'->tmk kp a a'->K' a' w'):
  if Region.wanted o (yielded ops a.tmps)then o.wpIn F m P a w K' Q' else(∀f,o.about P w a.eval=some f->F.fn f)∧K' (a.put o.dst undef) w:=by
 split
 ·rename_i hw;simp only[hw,kY]at h;rcases h with h|⟨_,h⟩
  ·exact Oper.wpIn_mono (λa' w' ⟨h1,v,ds,e⟩=>hK a' w' h1 (by rw[e];exact MX hk a ds v)) (Ws hF hd hno hQ h)
  ·exact absurd h hno
 ·rename_i hw;simp only[hw]at h;exact⟨λf _=>hF.fn f,hK _ _ h (MX hk a a.defers undef)⟩
def QTm(kp:Nat->Bool)(a0:Act)(Q:Exit->Act->World->Prop):Exit->Act->World->Prop:=λe a w=>Q e a w∧(e=.normal->tmk kp a0 a)
def It(hl:Ka kp ops.toList=true){i:Nat}{o:Oper}(ho:ops[i]?=some o):QS o=true∧JZ kp o=true:=by
 have:=lE.1 hl o (aB (i:=i) (by rw[bH];exact ho));simpa using this
theorem Iu(hF:FOk F P)(hl:Ka kp ops.toList=true)(hno: ¬LetsOut Q){a0:Act}:∀(l:List Nat) (a:Act) (w:World),wpOps P ops Q l a w->tmk kp a0 a->wpOpsIn F m P ops (QTm kp a0 Q) l a w
 |[],a,w,h,ht=>⟨h,λ_=>ht⟩
 | i::l,a,w,h,ht=>by
  simp only[wpOps]at h;simp only[wpOpsIn]
  cases ho:ops[i]? with
  |none=>rw[ho]at h;exact Iu hF hl hno l a w h ht
  |some o=>
   rw[ho]at h;obtain⟨h1,h2⟩:=It hl ho;exact LB (ops:=ops) hF h1 h2 hno (λc a w q=>⟨q,λe=>by cases e⟩) h λa' w' hk hm=>Iu hF hl hno l a' w' hk (ht.trans hm)
theorem Cs(hF:FOk F P)(hl:Ka kp ops.toList=true)(hno: ¬LetsOut Q){a0:Act}:∀(fuel:Nat) (listed:Array Bool) (a:Act) (w:World),wpAny P .any ops Q fuel listed a w->tmk kp a0 a->wpAnyIn F m P .any ops (QTm kp a0 Q) fuel listed a w
 |0,listed,a,w,h,ht=>⟨h.1,h.2,λ_=>ht⟩
 | fuel+1,listed,a,w,h,ht=>by
  refine⟨λhr=>⟨h.1 hr,λ_=>ht⟩,λi hi=>?_⟩;have h1:=h.2 i hi;unfold wpOp at h1;unfold wpOpIn
  cases ho:ops[i]? with
  |none=>rw[ho]at h1;exact Cs hF hl hno fuel _ a w h1 ht
  |some o=>
   rw[ho]at h1;obtain⟨h2,h3⟩:=It hl ho;exact LB (ops:=ops) hF h2 h3 hno (λc a w q=>⟨q,λe=>by cases e⟩) h1 λa' w' hk hm=>Cs hF hl hno fuel _ a' w' hk (ht.trans hm)
end
def oL(N:Nat)(kp:Nat->Bool):Code->Bool
 | .region _ ops _=>vK N ops.toList&&Ka kp ops.toList
 | .seq a b=>oL N kp a&&oL N kp b
 | .cond _ a b=>oL N kp a&&oL N kp b
 | .block _ b=>oL N kp b
 | .loop _=>false
 |_=>true
section
variable {F:Fence}{m:Nat}{C:Ctx}{V:Inv C.fr}{w0:World}{S0:Nat->Prop}{N:Nat}{kp:Nat->Bool}{a0:Act}
def aaW(C:Ctx)(V:Inv C.fr)(w0:World)(S0:Nat->Prop)(N:Nat)(kp:Nat->Bool)(a0:Act)(Q:AEx->ASt->Prop)(e:Exit)(a:Act)(w:World):Prop:=∃e' st S β,e=FO e'∧Q e' st∧SimD C V w0 S0 N (· <st.n) st.t st.h a w S β∧tmk kp a0 a
def BA(hF:FOk F C.P)(hC:CtxOk C):∀(c:Code),oL N kp c=true->∀(st:ASt) (Q:AEx->ASt->Prop),eJ C (cA C) c st Q->∀(a:Act) (w:World) (S:Nat->Prop) (β:Bt),SimD C V w0 S0 N (· <st.n) st.t st.h a w S β->tmk kp a0 a->
  c.wpIn F m C.P (aaW C V w0 S0 N kp a0 Q) a w:=by
 intro c
 induction c with
 |skip=>intro _ st Q hq a w S β M ht;exact wpIn_skip ⟨.normal,st,S,β,rfl,hq,M,ht⟩
 |label l=>intro _ st Q hq a w S β M ht;exact wpIn_label ⟨.normal,st,S,β,rfl,hq,M,ht⟩
 |exit id=>intro _ st Q hq a w S β M ht;exact wpIn_exit ⟨.exit id,st,S,β,rfl,hq,M,ht⟩
 |ret=>intro _ st Q hq a w S β M ht;exact wpIn_ret ⟨.ret,st,S,β,rfl,hq,M,ht⟩
 | region id ops dr=>
  intro hk st Q hq a w S β M ht;simp only[oL,aJ]at hk;obtain⟨t,h,n⟩:=st;simp only[eJ]at hq;obtain⟨Q2,hQ2⟩:∃Q2:Exit->Act->World->Prop,Q2=λe a w=>e=.normal∧∃st S β,Q .normal st∧SimD C V w0 S0 N (· <st.n) st.t st.h a w S β:=⟨_,rfl⟩;have hno: ¬LetsOut Q2:=by rintro⟨a,w,h⟩;rw[hQ2]at h;cases h.1
  have fin:∀e a w,QTm kp a0 Q2 e a w->aaW C V w0 S0 N kp a0 Q e a w:=by
   rintro e a w ⟨h1,h2⟩;rw[hQ2]at h1;obtain⟨rfl,st,S,β,h3,h4⟩:=h1;exact⟨.normal,st,S,β,rfl,h3,h4,h2 rfl⟩
  have mk:∀st' a' w' S' β',Q .normal st'->SimD C V w0 S0 N (· <st'.n) st'.t st'.h a' w' S' β'->Q2 .normal a' w':=λst' a' w' S' β' h1 h2=>by rw[hQ2];exact⟨rfl,st',S',β',h1,h2⟩
  cases dr with
  |false=>
   simp only[qA]at hq;have:=Ea (Q:=Q2) (K:=Q .normal) hC (ops:=ops) rfl hk.1 ops.toList 0 t h a w S β rfl hq M mk;rw[show List.range' 0 ops.toList.length=List.range ops.size by rw[oA,dQ]]at this
   exact wpIn_mono (wpIn_region (Iu hF hk.2 hno _ a w this ht)) fin
  | true=>
   simp only[eF]at hq;refine wpIn_mono (wpIn_region_any hC.mixed (Q:=QTm kp a0 Q2) ?_) fin
   cases hl:Eh ops.toList with
   |true=>
    rw[hl]at hq;rcases hq with hq|⟨_,hq⟩
    rotate_left
    ·exact Cs hF hk.2 hno _ _ _ _ (DX (C:=C.noH) (V:=V) hC.noH (λ_ _ _ _ _ h=>h) hk.1 hq (SimD.noH M) (λst' a' w' S' β' hk' M'=>mk st' a' w' S' β' hk' (SimD.ofNoH M'))) ht
    have M':=M.drawn (w.drawn+1)
    exact Cs hF hk.2 hno _ _ _ _ (Cw (C:=C.noH) (V:=V) hC.noH (λ_ _ _ _ _ h=>h) hk.1 (λst' a' w' S' β' hk' M'=>mk st' a' w' S' β' hk' (SimD.ofNoH M')) ops.size _ t h a _ S β (by simp) hq ⟨M'.T,M'.H,M'.B,λy l hy=>.inl (M'.dom y l hy),M'.df,M'.sz,M'.G,M'.nw,M'.iv⟩) ht
   |false=>
   rw[hl]at hq;have hd:Jd ops.toList=true:=by simp only[Eh,dH,mF]at hl;exact hl.2
   exact Cs hF hk.2 hno _ _ _ _ (FT (C:=C.noH) (V:=V) hC.noH (λ_ _ _ _ _ h=>h) hk.1 hd hq (SimD.noH M) (λst' a' w' S' β' hk' M'=>mk st' a' w' S' β' hk' (SimD.ofNoH M'))) ht
 | seq x y ihx ihy=>
  intro hk st Q hq a w S β M ht;simp only[oL,aJ]at hk;simp only[eJ]at hq;rcases hq with hq|hq|hq
  ·refine wpIn_seq (wpIn_mono (ihx hk.1 st _ hq a w S β M ht) ?_);rintro e a' w' ⟨e',st',S',β',rfl,h1,h2,h3⟩
   cases e' with
   |normal=>exact ihy hk.2 st' Q h1 a' w' S' β' h2 h3
   |exit i=>exact⟨.exit i,st',S',β',rfl,h1,h2,h3⟩
   |ret=>exact⟨.ret,st',S',β',rfl,h1,h2,h3⟩
  ·refine wpIn_seq (wpIn_mono (ihx hk.1 st _ hq a w S β M ht) ?_);rintro e a' w' ⟨e',st',S',β',rfl,h1,h2,h3⟩
   cases e' with
   |normal=>
    obtain⟨st2,g1,g2⟩:=h1;obtain⟨S2,h4⟩:=nJ g1 h2
    exact ihy hk.2 st2 Q g2 a' w' S2 β' h4 h3
   |exit i=>exact⟨.exit i,st',S',β',rfl,h1,h2,h3⟩
   |ret=>exact⟨.ret,st',S',β',rfl,h1,h2,h3⟩
  ·refine wpIn_seq (wpIn_mono (ihx hk.1 st _ hq a w S β M ht) ?_);rintro e a' w' ⟨e',st',S',β',rfl,h1,h2,h3⟩
   cases e' with
   |normal=>
    obtain⟨st2,g1,st3,σ,hW,hf,g2⟩:=h1;obtain⟨S2,h4⟩:=nJ g1 h2
    exact ihy hk.2 st3 Q g2 a' w' S2 _ (pM hW hf h4) h3
   |exit i=>exact⟨.exit i,st',S',β',rfl,h1,h2,h3⟩
   |ret=>exact⟨.ret,st',S',β',rfl,h1,h2,h3⟩
 | cond c x y ihx ihy=>
  intro hk st Q hq a w S β M ht;simp only[oL,aJ]at hk;simp only[eJ]at hq;split at hq
  ·rename_i b hb;obtain⟨h1,h2⟩:=hq;have hv:=tD M c;rw[hb]at hv;refine wpIn_cond_split (lN hv) (λhtt=>ihx hk.1 st Q (h1 htt) a w S β M ht) (λhf=>ihy hk.2 st Q (h2 hf) a w S β M ht)
  ·exact hq.elim
 | block id b ih=>
  intro hk st Q hq a w S β M ht;simp only[oL]at hk;simp only[eJ]at hq;refine wpIn_block (wpIn_mono (ih hk st _ hq a w S β M ht) ?_);rintro e a' w' ⟨e',st',S',β',rfl,h1,h2,h3⟩
  cases e' with
  |normal=>exact⟨.normal,st',S',β',rfl,h1,h2,h3⟩
  |ret=>exact⟨.ret,st',S',β',rfl,h1,h2,h3⟩
  | exit i=>
   show Exit.inBlock id _ (.exit i) a' w';simp only at h1;simp only[Exit.inBlock];by_cases hi:i=id
   ·subst hi;rw[if_pos rfl];rw[show Nat.beq i i=true from nD i]at h1;exact⟨.normal,st',S',β',rfl,h1,h2,h3⟩
   ·rw[if_neg hi];have:Nat.beq i id=false:=by rw[<-eI];exact λe=>hi (aK e)
    rw[this]at h1
    exact⟨.exit i,st',S',β',rfl,h1,h2,h3⟩
 |loop b ih=>intro hk;simp[oL]at hk
 |_=>intro _ st Q hq;exact hq.elim
theorem BB(hF:FOk F C.P)(hC:CtxOk C)(nH:NoH C){ops:Array Oper}{all:List Oper}(hall:ops.toList=all)(hb:vK N all=true)(hl:Ka kp all=true){K:ASt->Prop}{Q:Exit->Act->World->Prop}{n:Nat}(post:List Nat):∀(rest:List Oper) (j:Nat) (t:Nat->AV) (h:AH) (a:Act) (w:World) (S:Nat->Prop) (β:Bt),(∃q,all.drop j=rest++q)->jY C (cA C) all rest j ⟨t,h,n⟩ K->SimD C V w0 S0 N (· <n+j) t h a w S β->tmk kp a0 a->
  (∀st a' w' S' β',K st->SimD C V w0 S0 N (· <st.n) st.t st.h a' w' S' β'->tmk kp a0 a'->wpOpsIn F m C.P ops Q post a' w')->wpOpsIn F m C.P ops Q (List.range' j rest.length++post) a w
 |[],j,t,h,a,w,S,β,_,hr,M,ht,hQ=>hQ ⟨t,h,n+j⟩ a w S β hr M ht
 | o::rest,j,t,h,a,w,S,β,⟨q,hdrop⟩,hr,M,ht,hQ=>by
  obtain⟨x,h',h1,h2⟩:=(step_inv hr).resolve_right (λ⟨_,f,args,Post,_,hh,_⟩=>nH _ _ _ _ _ hh);have hj:all[j]?=some o:=by
   have:(all.drop j)[0]?=some o:=by rw[hdrop];rfl
   simpa using this
  have hoj:ops[j]?=some o:=by rw[<-hj, <-hall,bH]
  have hmem:o∈all:=aB hj;have hs:β (n+j)=none:=by
   cases hq:β (n+j)with
   |none=>rfl
   |some l=>have:=M.dom _ _ hq;omega
  obtain⟨l1,l2⟩:=It (ops:=ops) (kp:=kp) (by rw[hall];exact hl) hoj;rw[bN,nY,nX];simp only[wpOpsIn,hoj];obtain⟨Q2,hQ2⟩:∃Q2:Exit->Act->World->Prop,Q2=λ_ _ _=>False:=⟨_,rfl⟩;refine LB (ops:=ops) (Q:=Q2) hF l1 l2 (by rintro⟨a,w,h⟩;rw[hQ2]at h;exact h) (λc a w h=>by rw[hQ2]at h;exact h.elim)
   (xP (K:=λa' w'=>∃S' β',SimD C V w0 S0 N (λy=>y<n+j∨y=n+j) (zQ t o.dst x) h' a' w' S' β') hC M hs hall h1 (wO hb hmem) (λi pol d _ hd=>BH hb i d hd) λa' w' S' β' M'=>⟨S',β',M'⟩) ?_
  rintro a' w' ⟨S',β',M'⟩ hm;refine BB hF hC nH hall hb hl post rest (j+1) _ h' a' w' S' β' ⟨q,?_⟩ h2 ?_ (ht.trans hm) hQ
  ·rw[<-kX,hdrop];rfl
  ·exact⟨M'.T,M'.H,M'.B,λy l hy=>(M'.dom y l hy).elim (λ(h:y<n+j)=>show y<n+(j+1) by omega) (λ(h:y=n+j)=>show y<n+(j+1) by omega),M'.df,M'.sz,M'.G,M'.nw,M'.iv⟩
end
structure Same(K:Nat->Prop)(w w':World):Prop where
 os:w'.os=w.os
 tape:w'.tape=w.tape
 output:w'.output=w.output
 size:w.heap.size<=w'.heap.size
 block:∀b,b<w.heap.size->K b->w'.heap[b]?=w.heap[b]?
theorem Same.refl(K:Nat->Prop)(w:World):Same K w w:=⟨rfl,rfl,rfl,aC _,λ_ _ _=>rfl⟩
theorem Same.trans{K:Nat->Prop}{a b c:World}(h:Same K a b)(k:Same K b c):Same K a c:=
 ⟨k.os.trans h.os,k.tape.trans h.tape,k.output.trans h.output,aN h.size k.size,λx hx hk=>(k.block x (Nat.lt_of_lt_of_le hx h.size) hk).trans (h.block x hx hk)⟩
theorem Same.mono{K K':Nat->Prop}{a b:World}(h:Same K a b)(hk:∀x,x<a.heap.size->K' x->K x):Same K' a b:=⟨h.os,h.tape,h.output,h.size,λx hx hx'=>h.block x hx (hk x hx hx')⟩
theorem Same.of_below{K:Nat->Prop}{n:Nat}{a b:World}(h:Below n a b)(hk:∀x,K x->x<n):Same K a b:=⟨h.os,h.tape,h.output,h.size,λx _ hx=>h.block x (hk x hx)⟩
def Is{F:Fence}{m:Nat}{P:Program}{ops:Array Oper}{Q:Exit->Act->World->Prop}{i:Nat}{rest:List Nat}{o:Oper}{a:Act}{w:World}(ho:ops[i]?=some o)(hg:o.guard=none)(h:o.wpIn F m P a w (wpOpsIn F m P ops Q rest) Q):wpOpsIn F m P ops Q (i::rest) a w:=by
 have:Region.wanted o (yielded ops a.tmps)=true:=by simp[Region.wanted,hg]
 simp only[wpOpsIn,ho,this,kY];exact h
def LA{F:Fence}{m l:Nat}{P:Program}(hF:FOk F P){o:Oper}{f:Operand}{args:Array Operand}{ats:Array TypeId}{vs:Array Value}{a:Act}{w:World}{K:Act->World->Prop}{Q:Exit->Act->World->Prop}{R:Bool->World->Prop}
  (ho:o.op=.call {callee:=.value f,args:=args,argTypes:=ats}) (hf:a.eval f=.func (.yield l) #[] #[]) (ha:args.map a.eval=vs) (hy:YieldAt F m P l vs w λe w'=>∃b,e=.returned (.bool b)∧R b w')
  (hK:∀b w',R b w'->K (a.put o.dst (.bool b)) w'):o.wpIn F (m+1) P a w K Q:=by
 obtain⟨fn,tmps,assign,body,hy,hR⟩:=hy;unfold Oper.wpIn;refine⟨λf _=>hF.fn f,?_⟩;rw[Oper.semAt_eq _ _ _ (λc hc=>by rw[ho]at hc;cases hc)];have he:(execOp a.eval o).run P w=.ok (.round l fn tmps assign body) w:=by
  rw[<-hy];simp only[execOp,ho,resolve,Deferred.ofValue,hf,ha];simp[invoke]
 rw[he,Oper.uponIn_round];refine⟨λhd=>(by rw[hF.dep]at hd;cases hd),hR.mono ?_⟩;rintro e w' ⟨b,rfl,hr⟩;exact hK b w' hr
def YE{α:Type}(P:Program)(g:Nat)(lb:Array Value)(encs:α->Array Value)(xs:List α)(R:Nat->Prop)(w:World):Prop:=
 ∀ (l:Nat) (J:Bool->(Nat->Prop)->List α->World->Prop) (C0:Nat->Prop) (W:World),
  Same R w W->(∀b,R b-> ¬C0 b)->
  (∀s C pre A B,J s C pre A->Same (λb=>b<W.heap.size∨C b) A B->J s C pre B)->
  (∀s C pre A,J s C pre A->∀b,C b->b<A.heap.size)->
  (∀C pre x A,J false C pre A->pre++[x] <+: xs->YieldAt Fence.wide 1 P l (encs x) A λe B=>∃b,e=.returned (.bool b)∧
   ∃C',J (!b) C' (pre++[x]) B∧Same (λb=> ¬C b) A B∧(∀b,C' b->C b∨A.heap.size<=b))->
  J false C0 [] W->
  Calls P g (#[.func (.yield l) #[] #[]]++lb) W λe W'=>(∃v,e=.returned v)∧((∃C,J false C xs W')∨∃C pre,pre <+: xs∧J true C pre W')
def Fb{α:Type}{P:Program}{g:Operand}{ps:Array Tmp}{assign body:Code}{Q:Exit->Act->World->Prop}{a:Act}{w:World}
  {gf:Nat} {lb:Array Value} (hg:a.eval g=.func (.func gf) #[] lb) (eg:∀args w,(callFunc gf args).run P w=.ok (.enter gf args) w)
  {encs:α->Array Value} {xs:List α} {R:Nat->Prop} {w0:World} (hseq:YE P gf lb encs xs R w0) (hR:Same R w0 w) (hRlt:∀b,R b->b<w0.heap.size) (hps:∀x,(encs x).size=ps.size)
  (I Ix:(Nat->Prop)->List α->World->Prop) (IA:(Nat->Prop)->List α->α->Act->World->Prop) (C0:Nat->Prop) (hC0:∀b,C0 b->b<w.heap.size) (hCR:∀b,R b-> ¬C0 b)
  (hI:∀C pre A B,I C pre A->Same (λb=>b<w.heap.size∨C b) A B->I C pre B)
  (hIx:∀C pre A B,Ix C pre A->Same (λb=>b<w.heap.size∨C b) A B->Ix C pre B)
  (hIA:∀C pre x a A B,IA C pre x a A->Same (λb=>b<w.heap.size∨C b) A B->IA C pre x a B)
  (hlt:∀C pre A,I C pre A->∀b,C b->b<A.heap.size) (hltx:∀C pre A,Ix C pre A->∀b,C b->b<A.heap.size)
  (h0:I C0 [] w)
  (hassign:∀(l:Nat) (C:Nat->Prop) (pre:List α) (x:α) (A:World),I C pre A->pre++[x] <+: xs->w.heap.size<=A.heap.size->
   assign.wpIn (Fence.wide.inRound l) 1 P (Exit.then (λa1 B=>∃C',IA C' pre x a1 B∧Same (λb=> ¬C b) A B∧(∀b,C' b->C b∨A.heap.size<=b)) (λ_ _ _=>False))
    {tmps:=(ps.zip (encs x)).foldl (λt (p,v)=>t.setIfInBounds p v) a.tmps,defers:=[]} A)
  (hbody:∀(l:Nat) (C:Nat->Prop) (pre:List α) (x:α) (a1:Act) (A:World),IA C pre x a1 A->pre++[x] <+: xs->w.heap.size<=A.heap.size->
   body.wpIn (Fence.wide.inRound l) 1 P (λe _ B=>∃C',Same (λb=> ¬C b) A B∧(∀b,C' b->C b∨A.heap.size<=b)∧((e=.normal∧I C' (pre++[x]) B)∨(e=.ret∧Ix C' (pre++[x]) B))) a1 A)
  (hdone:∀(D:Nat) (C:Nat->Prop) (W:World),w.heap.size<=D->I C xs W-> ¬C D->W.heap[D]?=some (.deferred (some []))->Q .normal {a with defers:={target:=.collected D,args:= #[]}::a.defers} W)
  (hstop:∀(D:Nat) (C:Nat->Prop) (pre:List α) (W:World),w.heap.size<=D->pre <+: xs->Ix C pre W-> ¬C D->W.heap[D]?=some (.deferred (some []))->Q .ret {a with defers:={target:=.collected D,args:= #[]}::a.defers} W):
  (Code.rangeFunc g ps assign body).wp P Q a w:=by
 refine(wpIn_wide (n:=3)).1 (wpIn_rangeFunc ?_);intro fn hfn;obtain⟨rec,hrec⟩:∃rec:LoopState->Option Code->Loop,rec=λst pe=>{state:=st,pending:=pe,fn,tmps:=a.tmps,params:=ps,assign,body,defers:=w.heap.size}:=⟨_,rfl⟩;obtain⟨W1,hW1⟩:∃W1,(w.alloc (.deferred (some []))).alloc (.loop (rec .ready none))=W1:=⟨_,rfl⟩;have hs1:W1.heap.size=w.heap.size+2:=by rw[<-hW1];simp
 have hL1:W1.heap[w.heap.size+1]?=some (.loop (rec .ready none)):=by
  rw[<-hW1];have:=World.alloc_heap_new (w.alloc (.deferred (some []))) (.loop (rec .ready none));rwa [World.size_alloc]at this
 have hK1:W1.heap[w.heap.size]?=some (.deferred (some [])):=by
  rw[<-hW1];exact(Below.heap_alloc _ _ _ (by simp)).trans (World.alloc_heap_new w _)
 have hb1:Below w.heap.size w W1:=by
  rw[<-hW1];exact((Below.refl _ w).alloc (aC _) _).alloc (by simp) _
 have hput:∀(K:Nat->Prop) (A:World) (o:Obj), ¬K (w.heap.size+1)->Same K A (A.putObj (w.heap.size+1) o):=λK A o hk=>
  ⟨rfl,rfl,rfl,by simp,λb _ hb=>World.putObj_heap_other (λe=>hk (e ▸ hb))⟩
 refine⟨w.heap.size+1,[{target:=.collected w.heap.size,args:= #[]}],W1,{target:=.fn (.func gf) lb,args:= #[.func (.yield (w.heap.size+1)) #[] #[]]},W1,gf,
  #[.func (.yield (w.heap.size+1)) #[] #[]]++lb,W1,?_,?_,?_,?_,λ_=>by omega,?_⟩
 ·rw[<-hW1,hrec];exact run_enterLoop_outer _ _ _ _ _
 ·simp only[resolve,hg];simp[go_sem]
 ·intro f' _;trivial
 ·simp[invoke,go_sem,eg]
 ·refine callsIn_wide.2 ((hseq (w.heap.size+1)
   (λs CC pre A=>∃C,(bif s then Ix else I) C pre A∧(∀b,CC b↔C b∨b=w.heap.size+1)∧(∀b,C b->b<w.heap.size∨w.heap.size+1<b)∧A.heap[w.heap.size+1]?=some (.loop (bif s then rec .done (some .ret)else rec .ready none))∧A.heap[w.heap.size]?=some (.deferred (some [])))
   (λb=>C0 b∨b=w.heap.size+1) W1 ?_ ?_ ?_ ?_ ?_ ?_).mono ?_)
  ·exact hR.trans (Same.of_below hb1 λx hx=>Nat.lt_of_lt_of_le (hRlt x hx) hR.size)
  ·rintro b hb (h|h)
   ·exact hCR b hb h
   ·have:=hRlt b hb;have:=hR.size;omega
  ·rintro s CC pre A B ⟨C,hi,hc,hcl,hl,hk⟩ hs;have l1:=(DC.1 hl).1;have l2:=(DC.1 hk).1;refine⟨C,?_,hc,hcl,(hs.block _ l1 (.inl (by omega))).trans hl,(hs.block _ l2 (.inl (by omega))).trans hk⟩;have hs':Same (λb=>b<w.heap.size∨C b) A B:=hs.mono λx _ hx=>hx.elim (λh=>.inl (by omega)) (λh=>.inr ((hc x).2 (.inl h)));cases s
   ·exact hI C pre A B hi hs'
   ·exact hIx C pre A B hi hs'
  ·rintro s CC pre A ⟨C,hi,hc,hcl,hl,hk⟩ b hb;rcases(hc b).1 hb with h|h
   ·cases s
    ·exact hlt C pre A hi b h
    ·exact hltx C pre A hi b h
   ·rw[h];exact(DC.1 hl).1
  ·
   rintro CC pre x A ⟨C,hi,hc,hcl,hl,hk⟩ hpre;have l1:=(DC.1 hl).1;have hnr: ¬C (w.heap.size+1):=λh=>by have:=hcl _ h;omega
   have hnd: ¬C (w.heap.size):=λh=>by have:=hcl _ h;omega
   have hy:=run_yield (P:=P) (args:=encs x) hl (by rw[hrec];exact hps x);rw[hrec]at hy;refine⟨fn,_,assign,body,hy,roundIn_of_wpIn trivial (wpIn_mono (hassign _ C pre x A hi hpre (by omega)) ?_)⟩;intro e a1 B hB;cases e<;>try exact hB.elim
   obtain⟨C',hia,hsB,hgrow⟩:=hB;have hlB:B.heap[w.heap.size+1]?=some (.loop (rec .ready none)):=(hsB.block _ l1 hnr).trans hl;have hkB:B.heap[w.heap.size]?=some (.deferred (some [])):=(hsB.block _ (by omega) hnd).trans hk;have hnr': ¬C' (w.heap.size+1):=λh=>(hgrow _ h).elim hnr (λh=>by omega);have hnd': ¬C' (w.heap.size):=λh=>(hgrow _ h).elim hnd (λh=>by omega);have lB:=(DC.1 hlB).1;refine⟨_,run_beginRound hlB (by rw[hrec]),?_⟩;have hl2:(B.putObj (w.heap.size+1) (.loop {rec .ready none with state:=.busy})).heap[w.heap.size+1]?=some (.loop {rec .ready none with state:=.busy}):=World.putObj_heap_same lB;have hk2:(B.putObj (w.heap.size+1) (.loop {rec .ready none with state:=.busy})).heap[w.heap.size]?=some (.deferred (some [])):=(World.putObj_heap_other (by omega)).trans hkB;have hia2:=hIA C' pre x a1 B _ hia (hput (λb=>b<w.heap.size∨C' b) B (.loop {rec .ready none with state:=.busy}) (by rintro(h|h);omega;exact hnr' h));refine wpIn_mono (hbody _ C' pre x a1 _ hia2 hpre (by simp;omega)) ?_;rintro e a3 W3 ⟨C3,hs3,hg3,hi3⟩;have hl3:W3.heap[w.heap.size+1]?=some (.loop {rec .ready none with state:=.busy}):=(hs3.block _ (by simp;omega) hnr').trans hl2;have hk3:W3.heap[w.heap.size]?=some (.deferred (some [])):=(hs3.block _ (by simp;omega) hnd').trans hk2;have l3:=(DC.1 hl3).1;have hnr3: ¬C3 (w.heap.size+1):=λh=>(hg3 _ h).elim hnr' (λh=>by simp at h;omega);have hcl3:∀b,C3 b->b<w.heap.size∨w.heap.size+1<b:=by
    intro b hb;rcases hg3 b hb with h|h
    ·rcases hgrow b h with h|h
     ·exact hcl b h
     ·right;omega
    ·simp at h;right;omega
   have hcat:∀o,Same (λb=> ¬CC b) A (W3.putObj (w.heap.size+1) o):=λo=>by
    have q1:Same (λb=> ¬CC b) A B:=hsB.mono λb _ hb h=>hb ((hc b).2 (.inl h));have q2:Same (λb=> ¬CC b) B (B.putObj (w.heap.size+1) (.loop {rec .ready none with state:=.busy})):=hput _ _ _ (λh=>h ((hc _).2 (.inr rfl)));have q4:Same (λb=> ¬CC b) W3 _:=hput (λb=> ¬CC b) W3 o (λh=>h ((hc _).2 (.inr rfl)));refine Same.trans ?_ q4;have q3:∀b,b<A.heap.size-> ¬CC b->W3.heap[b]?=A.heap[b]? :=λb hb hcc=>by
     have nC: ¬C b:=λh=>hcc ((hc b).2 (.inl h));have nC': ¬C' b:=λh=>(hgrow b h).elim nC (λh=>by omega);rw[hs3.block b (by simp;exact Nat.lt_of_lt_of_le hb hsB.size) nC',q2.block b (Nat.lt_of_lt_of_le hb hsB.size) hcc,q1.block b hb hcc]
    exact⟨hs3.os.trans hsB.os,hs3.tape.trans hsB.tape,hs3.output.trans hsB.output,aN hsB.size (by have:=hs3.size;simpa using this),q3⟩
   have grow:∀b,(C3 b∨b=w.heap.size+1)->CC b∨A.heap.size<=b:=by
    rintro b (h|h)
    ·rcases hg3 b h with h|h
     ·exact(hgrow b h).imp (λh=>(hc b).2 (.inl h)) id
     ·exact .inr (aN hsB.size (by simpa using h))
    ·exact .inl ((hc b).2 (.inr h))
   rcases hi3 with ⟨rfl,hi3⟩|⟨rfl,hi3⟩
   ·have hr:=run_endRound (P:=P) (none:Option Code) hl3;refine⟨_,_,hr,true,rfl,λb=>C3 b∨b=w.heap.size+1,⟨C3,?_,λb=>Iff.rfl,hcl3,?_,?_⟩,hcat _,grow⟩
    ·exact hI C3 _ W3 _ hi3 (hput _ W3 _ (by rintro(h|h);omega;exact hnr3 h))
    ·rw[World.putObj_heap_same l3,hrec];rfl
    ·exact(World.putObj_heap_other (by omega)).trans hk3
   ·have hr:=run_endRound (P:=P) (some Code.ret) hl3;refine⟨_,_,hr,false,rfl,λb=>C3 b∨b=w.heap.size+1,⟨C3,?_,λb=>Iff.rfl,hcl3,?_,?_⟩,hcat _,grow⟩
    ·exact hIx C3 _ W3 _ hi3 (hput _ W3 _ (by rintro(h|h);omega;exact hnr3 h))
    ·rw[World.putObj_heap_same l3,hrec];rfl
    ·exact(World.putObj_heap_other (by omega)).trans hk3
  ·refine⟨C0,hI C0 [] w W1 h0 (Same.of_below hb1 λx hx=>hx.elim id (hC0 x)),λb=>Iff.rfl,λb hb=>.inl (hC0 b hb),hL1,hK1⟩
  ·
   rintro e W2 ⟨⟨v,rfl⟩,⟨CC,C,hi,hc,hcl,hl,hk⟩|⟨CC,pre,hpre,C,hi,hc,hcl,hl,hk⟩⟩
   ·have hnr: ¬C (w.heap.size+1):=λh=>by have:=hcl _ h;omega
    have hnd: ¬C (w.heap.size):=λh=>by have:=hcl _ h;omega
    refine⟨none,_,by have:=run_endLoop (P:=P) hl (by rw[hrec];simp);rw[hrec]at this;exact this,?_⟩;exact hdone w.heap.size C _ (aC _) (hI C xs W2 _ hi (hput _ W2 _ (by rintro(h|h);omega;exact hnr h))) hnd ((World.putObj_heap_other (by omega)).trans hk)
   ·have hnr: ¬C (w.heap.size+1):=λh=>by have:=hcl _ h;omega
    have hnd: ¬C (w.heap.size):=λh=>by have:=hcl _ h;omega
    refine⟨some .ret,_,by have:=run_endLoop (P:=P) hl (by rw[hrec];simp);rw[hrec]at this;exact this,wpIn_ret ?_⟩;exact hstop w.heap.size C pre _ (aC _) hpre (hIx C pre W2 _ hi (hput _ W2 _ (by rintro(h|h);omega;exact hnr h))) hnd ((World.putObj_heap_other (by omega)).trans hk)
def zJ{S S':Nat->Prop}{w w':World}{β:Bt}{x:AV}{v:Value}(hr:Rep S w β x v)(hSS:∀b,S b->S' b)(hS:∀b,S b->w'.heap[b]?=w.heap[b]?):
  (∀s l cs e fr,β s=some l->w.heap[l.blk]?=some (Obj.cells cs e fr)->∃cs':Array Value,w'.heap[l.blk]?=some (.cells cs' e fr)∧cs'.size=cs.size)->Rep S' w' β x v:=by
 induction hr with
 |v x=>intro _;exact .v x
 |agg cs vs hl h1 h ih=>intro hb;exact .agg cs vs hl h1 λi a u h1 h2=>ih i a u h1 h2 hb
 |tup cs vs hl h ih=>intro hb;exact .tup cs vs hl λi a u h1 h2=>ih i a u h1 h2 hb
 |sl rs rows clip A c b o u hc hm hcl hrs hA hw h1 hr ih=>
  intro _;refine .sl rs rows clip A c b o u hc hm hcl hrs (λh=>⟨(hA h).1,hSS _ (hA h).2⟩) (λi row j a h1 h2=>?_) h1 λi row j a h1 h2=>ih i row j a h1 h2 (λs l _ _ _ e=>by cases e);have h0:0<rows.length:=bM (aE i) (DS.1 h1).1;rw[uG (hS b (hA h0).2)]
  exact hw i row j a h1 h2
 |dp rs col row b o u hrs hb hw h1 hr ih=>
  intro _
  exact .dp rs col row b o u hrs (hSS _ hb) (λj a h1=>by rw[uG (hS b hb)];exact hw j a h1) h1 λj a h1=>ih j a h1 (λs l _ _ _ e=>by cases e)
 |ptr s col l hl=>intro hb;exact .ptr s col l hl
 |ptr2 s row col l hl=>intro hb;exact .ptr2 s row col l hl
 |osl s lo len clip l A c hl hc hm hcl hA cs e fr hb room=>
  intro hβ;obtain⟨cs',h1,h2⟩:=hβ _ _ _ _ _ hl hb
  exact .osl s lo len clip l A c hl hc hm hcl hA cs' e fr h1 (by rw[h2];exact room)
 |clo f first caps vs us hl h hl' h' ih ih'=>intro hb;exact .clo f first caps vs us hl (λi a u h1 h2=>ih i a u h1 h2 hb) hl' λi a u h1 h2=>ih' i a u h1 h2 hb
 |optT g a x hg h ih=>intro hb;exact .optT g a x hg (ih hb)
 |optF g a hg=>intro _;exact .optF g a hg
 |any x=>intro _;exact .any x
def MV{β:Bt}{w w':World}(h:∀s l o,β s=some l->w.heap[l.blk]?=some o->w'.heap[l.blk]?=some o):
  ∀s l cs e fr,β s=some l->w.heap[l.blk]?=some (Obj.cells cs e fr)->∃cs':Array Value,w'.heap[l.blk]?=some (.cells cs' e fr)∧cs'.size=cs.size:=λs l cs e fr h1 h2=>⟨cs,h s l _ h1 h2,rfl⟩
section
variable {C:Ctx}{V V':Inv C.fr}{w0:World}{S0:Nat->Prop}{N:Nat}
theorem SimD.move{D:Nat->Prop}{t:Nat->AV}{h:AH}{a:Act}{w w':World}{S:Nat->Prop}{β:Bt}(M:SimD C V w0 S0 N D t h a w S β)(hS:∀b,S b->w'.heap[b]?=w.heap[b]?)
  (hb:∀s l o,β s=some l->w.heap[l.blk]?=some o->w'.heap[l.blk]?=some o) (h1:w'.os=w.os) (h2:w'.tape=w.tape) (h3:w'.output=w.output) (hsz:w.heap.size<=w'.heap.size) (h0:∀b,b<w0.heap.size->w'.heap[b]?=w.heap[b]?) (hV:V'.p S w' β):
  SimD C V' w0 S0 N D t h a w' S β:=by
 refine⟨λi=>zJ (M.T i) (λ_ h=>h) hS (MV hb),⟨λs blk hs=>?_,M.H.inj,λb hb=>Nat.lt_of_lt_of_le (M.H.lt b hb) hsz,aN M.H.big hsz⟩,⟨h1.trans M.B.os,h2.trans M.B.tape,h3.trans M.B.output,aN M.B.size hsz,λb hb=>(h0 b hb).trans (M.B.block b hb)⟩,M.dom,M.df,M.sz,λg cells hg=>zJ (M.G g cells hg) (λ_ h=>h) hS (λs l _ _ _ e=>by cases e),M.nw,hV⟩;obtain⟨l,cs,e,fr,k1,k2,k3,k4,k5,k6⟩:=M.H.own s blk hs;refine⟨l,cs,e,fr,k1,hb _ _ _ k1 k2,k3,k4,k5,?_⟩;have go:∀a v,Rep S w β a v->Rep S w' β a v:=λa v hr=>zJ hr (λ_ h=>h) hS (MV hb)
 cases blk with
 |box cells=>exact λj a h1=>let ⟨u,h2,h4,h3⟩:=k6 j a h1;⟨u,h2,h4,go _ _ h3⟩
 |arr rows rs=>exact⟨k6.1,k6.2.1,λi row j a h1 h2=>let ⟨u,h3,h5,h4⟩:=k6.2.2 i row j a h1 h2;⟨u,h3,h5,zJ h4 (λ_ h=>h) hS (λs l _ _ _ e=>by cases e)⟩⟩
 |row cells=>exact⟨k6.1,λj a h1=>let ⟨u,h2,h4,h3⟩:=k6.2 j a h1;⟨u,h2,h4,go _ _ h3⟩⟩
theorem SimD.inv{D:Nat->Prop}{t:Nat->AV}{h:AH}{a:Act}{w:World}{S:Nat->Prop}{β:Bt}(M:SimD C V w0 S0 N D t h a w S β)(hV:V'.p S w β):SimD C V' w0 S0 N D t h a w S β:=⟨M.T,M.H,M.B,M.dom,M.df,M.sz,M.G,M.nw,hV⟩
end
def AX(S:Nat->Prop)(w:World)(β:Bt)(s:Nat):FrP S w β s S w β:=
 ⟨λ_ h=>h,Evo.refl _ _,aC _,λ_ _ _ h=>h,λx l h=>.inl ⟨x,l,h,rfl⟩,λ_ h=>.inl h,λ_ _ _=>rfl⟩
def Tz{α:Type}(C:Ctx)(g:FuncId)(caps:List AV)(encs:α->Array Value)(xs:List α):Prop:=
 ∀(R:Nat->Prop) (w:World) (us:List Value),(∀b,R b->b<w.heap.size)->GOk C R w->RepL R w noB caps us->YE C.P g us.toArray encs xs R w
def YD(t:Nat->AV):List Nat->List AV->Nat->AV
 |p::ps,x::xs=>YD (upd t p x) ps xs
 |_,_=>t
def UD(m n:Nat)(t:Nat->AV)(h:AH)(NX:Prop)(K:AEx->ASt->Prop):AEx->ASt->Prop
 | .normal,st=>NX∧GhostN st λstg=>∃σ,keepB m σ n=true∧Weak stg ⟨λ_=>.any,h,n⟩ σ
 | .ret,st=>GhostN st λstg=>∃h' n' σ,keepB m σ n'=true∧fullB h' n'=true∧Weak stg ⟨λ_=>.any,h',n'⟩ σ∧K .ret ⟨t,h',n'⟩
 | .exit _,_=>False
inductive RangeN(C:Ctx)(st:ASt)(g:Operand)(ps:List Nat)(asg body:Code)(K:AEx->ASt->Prop):Prop
 | mk (α:Type) (gf:FuncId) (caps:List AV) (encA:α->List AV) (encs:α->Array Value) (xs:List α) (NX:α->Prop) (m:Nat) (H:List α->AH) (nn:List α->Nat)
   (hg:evA C st.t g=.clo gf [] caps) (hcl:eR caps=true) (hfn:∃ fn,C.P.funcs[gf]?=some fn∧fn.body.isSome=true∧(fn.name== "runtime.NumGoroutine")=false)
   (hit:Tz C gf caps encs xs) (henc:∀x S w β,RepL S w β (encA x) (encs x).toList) (hps:∀x,(encA x).length=ps.length)
   (h0:H []=st.h) (n0:nn []=st.n) (hfull:∀pre,fullB (H pre) (nn pre)=true) (ht:Weak st ⟨st.t,λ_=>none,m⟩ (λs=>s))
   (round:∀pre x,pre++[x] <+: xs->(∀y,y∈pre->NX y)->eJ (C.at m) (cA (C.at m)) asg ⟨YD st.t ps (encA x),H pre,nn pre⟩ (λe st1=>e=.normal∧eJ (C.at m) (cA (C.at m)) body st1 (UD m (nn (pre++[x])) st.t (H (pre++[x])) (NX x) K)))
   (done:(∀y,y∈xs->NX y)->K .normal ⟨st.t,H xs,nn xs⟩):RangeN C st g ps asg body K
theorem MW{S:Nat->Prop}{w:World}{β:Bt}:∀(ps:List Nat) (xs:List AV) (vs:List Value) (t:Nat->AV) (tm:Array Value),xs.length=vs.length->ps.length=xs.length->(∀p∈ps,p<tm.size)->
  (∀i,Rep S w β (t i) (tm.getD i undef))->(∀(i:Nat) a u,xs[i]?=some a->vs[i]?=some u->Rep S w β a u)->
  ∀i,Rep S w β (YD t ps xs i) (((ps.zip vs).foldl (λt (p,v)=>t.setIfInBounds p v) tm).getD i undef)
 |[],xs,vs,t,tm,_,_,_,hT,_=>hT
 |p::ps,[],vs,t,tm,h1,h2,_,hT,_=>by simp at h2
 |p::ps,x::xs,[],t,tm,h1,h2,_,hT,_=>by simp at h1
 | p::ps,x::xs,v::vs,t,tm,h1,h2,hp,hT,hr=>by
  show ∀i,Rep S w β (YD (upd t p x) ps xs i) (((ps.zip vs).foldl (λt (p,v)=>t.setIfInBounds p v) (tm.setIfInBounds p v)).getD i undef);refine MW ps xs vs _ _ (by simpa using h1) (by simpa using h2) (λq hq=>by rw[iX];exact hp q (bP _ hq)) (λi=>?_) (λi a u q1 q2=>hr (i+1) a u (by simpa using q1) (by simpa using q2));by_cases hi:i=p
  ·subst hi;have hlt:=hp i bI;rw[cZ,aI,cY hlt];exact hr 0 x v rfl rfl
  ·rw[cH _ _ hi,aI,cX (Ne.symm hi), <-aI];exact hT i
theorem Bh:∀(ps:List Nat) (vs:List Value) (tm:Array Value),((ps.zip vs).foldl (λt (p,v)=>t.setIfInBounds p v) tm).size=tm.size
 |[],_,_=>rfl
 |_::_,[],_=>rfl
 |p::ps,v::vs,tm=>by
  show((ps.zip vs).foldl (λt (p,v)=>t.setIfInBounds p v) (tm.setIfInBounds p v)).size=_;rw[Bh ps vs,iX]
def JW(ps:Array Nat)(vs:Array Value)(tm:Array Value):(ps.zip vs).foldl (λt (p,v)=>t.setIfInBounds p v) tm=(ps.toList.zip vs.toList).foldl (λt (p,v)=>t.setIfInBounds p v) tm:=by
 rw[<-Array.foldl_toList,Array.toList_zip]
def dfs:Option Nat->List Deferred
 |none=>[]
 |some D=>[{target:=.collected D,args:= #[]}]
@[reducible] def Ctx.wd(C:Ctx)(d:Option Nat):Ctx:={C with df:=dfs d}
def Wr(d:Option Nat)(w0:World)(S:Nat->Prop)(β:Bt)(w:World):Prop:=
 ∀D,d=some D->w.heap[D]?=some (.deferred (some []))∧ ¬OwnB β D∧ ¬S D∧w0.heap.size<=D
def aaE(C:Ctx)(w0:World)(S0:Nat->Prop)(N:Nat)(Q:Option Nat->AEx->ASt->Prop)(e:Exit)(a:Act)(w:World):Prop:=
 ∃d e' st S β,e=FO e'∧Q d e' st∧SimD (C.wd d) (Inv.any C.fr) w0 S0 N (· <st.n) st.t st.h a w S β∧Wr d w0 S β w
theorem JX{P:Program}{f:FuncId}{fn:Func}(g1:P.funcs[f]?=some fn)(g2:fn.body.isSome=true)(g3:(fn.name== "runtime.NumGoroutine")=false) (args:Array Value) (w:World):(callFunc f args).run P w=.ok (.enter f args) w:=by
 simp only[callFunc,Sem.run_bind,program,Sem.run,Result.andThen_ok,g1];have:fn.body.isNone=false:=by cases hb:fn.body<;>simp_all
 simp[g3,this]
section
variable {C:Ctx}{w0:World}{S0:Nat->Prop}{N:Nat}{Q:Option Nat->AEx->ASt->Prop}
def Ly(hC:CtxOk C)(hCn:∀n,CtxOk (C.at n))(hdf:C.df=[]){st:ASt}{g:Operand}{ps:Array Nat}{asg body:Code}(hp:ps.toList.all (λp=>Nat.blt p N)=true)(hka:oL N (λ_=>false) asg=true)(hkb:oL N (λ_=>false) body=true)
  (R:RangeN C st g ps.toList asg body (λe st'=>∀D,Q (some D) e st')) {a:Act} {w:World} {S:Nat->Prop} {β:Bt} (M:SimD C (Inv.any C.fr) w0 S0 N (· <st.n) st.t st.h a w S β):
  (Code.rangeFunc g ps asg body).wp C.P (aaE C w0 S0 N Q) a w:=by
 obtain⟨α,gf,caps,encA,encs,xs,NX,m,HH,nn,hg,hcl,⟨fn,f1,f2,f3⟩,hit,henc,hps,h0H,h0n,hfull,ht,round,done⟩:=R;have hge:=tD M g;rw[hg]at hge;have hnm:∀{A:World} {SA:Nat->Prop} {β':Bt} {t:Nat->AV} {h:AH} {n:Nat} {a:Act},fullB h n=true->SimD (C.at m) (Inv.any m) w0 S0 N (· <n) t h a A SA β'->∀x l,β' x=some l->x<n∧w0.heap.size<=l.blk∧l.blk<A.heap.size∧ ¬SA l.blk:=λhf X x l hx=>by
  have hn:=X.dom x l hx;obtain⟨blk,hblk⟩:=DD.1 (uN hf x hn);obtain⟨l',cs,e,fr,k1,k2,k3,k4,k5,k6⟩:=X.H.own x blk hblk;rw[hx]at k1;cases k1;exact⟨hn,k4,fQ k2,k5⟩
 have M0:SimD (C.at m) (Inv.any m) w0 S0 N (· <nn []) st.t (HH []) a w S β:=by
  rw[h0H,h0n];exact⟨M.T,M.H,M.B,M.dom,M.df,M.sz,M.G,M.nw,trivial⟩
 have hn0:=hnm (hfull []) M0;generalize hgv:a.eval g=gv at hge
 cases hge with
 |clo _ _ _ vs us h1 h2 h3 h4=>
 have hvs:vs= #[]:=Array.eq_empty_of_size_eq_zero h1.symm;subst hvs;have hcaps:RepL S w noB caps us.toList:=by
  refine⟨by rw[h3];simp,λi x u p q=>?_⟩;have:=h4 i x u p (by rw[<-bH];exact q);exact lV this (fX _ hcl i x p) noB
 have hseq:=hit S w us.toList M.H.lt M.G hcaps
 let C1:(Nat->Prop)->List α->World->Prop:=λCC pre A=>(∀y,y∈pre->NX y)∧∃SA β',SimD (C.at m) (Inv.any m) w0 S0 N (· <nn pre) st.t (HH pre) a A SA β'∧(∀b,SA b->b<w.heap.size∨CC b)∧(∀b,OwnB β' b->CC b)∧(∀b,CC b->b<A.heap.size)
 let C2:(Nat->Prop)->List α->World->Prop:=λCC pre A=>∃SA h' n' β',(∀D,Q (some D) .ret ⟨st.t,h',n'⟩)∧SimD (C.at m) (Inv.any m) w0 S0 N (· <n') st.t h' a A SA β'∧(∀b,SA b->b<w.heap.size∨CC b)∧(∀b,OwnB β' b->CC b)∧(∀b,CC b->b<A.heap.size)
 let C3:(Nat->Prop)->List α->α->Act->World->Prop:=λCC pre x a1 B=>∃st1 S1 β1 A SA β',(∀y,y∈pre->NX y)∧eJ (C.at m) (cA (C.at m)) body st1 (UD m (nn (pre++[x])) st.t (HH (pre++[x])) (NX x) (λe st'=>∀D,Q (some D) e st'))∧
  SimD (C.at m) (Inv.any m) w0 S0 N (· <st1.n) st1.t st1.h a1 B S1 β1∧(∀b,S1 b->b<w.heap.size∨CC b)∧(∀b,OwnB β' b->CC b)∧(∀b,OwnB β1 b->CC b)∧
  (∀x l,x<m->β' x=some l->β1 x=some l)∧
  SimD (C.at m) (Inv.any m) w0 S0 N (· <nn pre) st.t (HH pre) a A SA β'∧(∀b,SA b->S1 b)∧(∀b,SA b->B.heap[b]?=A.heap[b]?)∧
  (∀s l cs e fr,β' s=some l->A.heap[l.blk]?=some (Obj.cells cs e fr)->∃cs':Array Value,B.heap[l.blk]?=some (.cells cs' e fr)∧cs'.size=cs.size)∧w.heap.size<=B.heap.size
 have w00:w0.heap.size<=w.heap.size:=M.B.size;have mv:∀{CC:Nat->Prop} {A B:World} {D:Nat->Prop} {t:Nat->AV} {h:AH} {a:Act} {SA:Nat->Prop} {β1:Bt},SimD (C.at m) (Inv.any m) w0 S0 N D t h a A SA β1->(∀b,SA b->b<w.heap.size∨CC b)->(∀b,OwnB β1 b->b<w.heap.size∨CC b)->w.heap.size<=A.heap.size->Same (λb=>b<w.heap.size∨CC b) A B->
   SimD (C.at m) (Inv.any m) w0 S0 N D t h a B SA β1:=λX k1 k2 k3 hs=>
  X.move (λb hb=>hs.block b (X.H.lt b hb) (k1 b hb)) (λs l o q1 q2=>(hs.block _ (fQ q2) (k2 _ ⟨s,l,q1,rfl⟩)).trans q2) hs.os hs.tape hs.output hs.size (λb hb=>hs.block b (by omega) (.inl (by omega))) trivial
 refine Fb (gf:=gf) (lb:=us) hgv (JX f1 f2 f3) (by simpa using hseq) (Same.refl _ _) M.H.lt (λx=>by rw[<-dQ, <-dQ, <-hps x];exact((henc x S w β).1).symm)
  (λCC pre A=>C1 CC pre A∧w.heap.size<=A.heap.size) (λCC pre A=>C2 CC pre A∧w.heap.size<=A.heap.size) C3 (OwnB β) (λb ⟨x,l,q1,q2⟩=>by have:=(hn0 x l q1).2.2.1;omega) (λb hb ⟨x,l,q1,q2⟩=>by have:=(hn0 x l q1).2.2.2;rw[q2]at this;exact this hb)
  ?_ ?_ ?_ ?_ ?_ ?_ ?_ ?_ ?_ ?_
 ·rintro CC pre A B ⟨⟨hN,SA,β',X,k1,k2,k3⟩,k4⟩ hs;exact⟨⟨hN,SA,β',mv X k1 (λb hb=>.inr (k2 b hb)) k4 hs,k1,k2,λb hb=>Nat.lt_of_lt_of_le (k3 b hb) hs.size⟩,aN k4 hs.size⟩
 ·rintro CC pre A B ⟨⟨SA,h',n',β',q,X,k1,k2,k3⟩,k4⟩ hs;exact⟨⟨SA,h',n',β',q,mv X k1 (λb hb=>.inr (k2 b hb)) k4 hs,k1,k2,λb hb=>Nat.lt_of_lt_of_le (k3 b hb) hs.size⟩,aN k4 hs.size⟩
 ·rintro CC pre x a1 B B' ⟨st1,S1,β1,A,SA,β',hN,q,X,k1,k2,k3,k5,XA,k6,k7,k8,k9⟩ hs;refine⟨st1,S1,β1,A,SA,β',hN,q,mv X k1 (λb hb=>.inr (k3 b hb)) k9 hs,k1,k2,k3,k5,XA,k6,λb hb=>(hs.block b (X.H.lt b (k6 b hb)) (k1 b (k6 b hb))).trans (k7 b hb),λs l cs e fr h1 h2=>?_,aN k9 hs.size⟩;obtain⟨cs',h5,h6⟩:=k8 s l cs e fr h1 h2;exact⟨cs',(hs.block _ (fQ h5) (.inr (k2 _ ⟨s,l,h1,rfl⟩))).trans h5,h6⟩
 ·rintro CC pre A ⟨⟨hN,SA,β',X,k1,k2,k3⟩,k4⟩ b hb;exact k3 b hb
 ·rintro CC pre A ⟨⟨SA,h',n',β',q,X,k1,k2,k3⟩,k4⟩ b hb;exact k3 b hb
 ·refine⟨⟨(λy hy=>by cases hy),S,β,M0,λb hb=>.inl (M.H.lt b hb),λb hb=>hb,λb ⟨x,l,q1,q2⟩=>by have:=(hn0 x l q1).2.2.1;omega⟩,aC _⟩
 ·
  rintro l CC pre x A ⟨⟨hN,SA,β',X,k1,k2,k3⟩,k4⟩ hpre _;have X0:SimD (C.at m) (FG SA A β' m) w0 S0 N (· <nn pre) (YD st.t ps.toList (encA x)) (HH pre) {tmps:=(ps.zip (encs x)).foldl (λt (p,v)=>t.setIfInBounds p v) a.tmps,defers:=[]} A SA β':=by
   refine⟨λi=>?_,X.H,X.B,X.dom,hdf.symm,?_,X.G,X.nw,AX _ _ _ _⟩
   ·rw[JW];have he:=henc x SA A β';exact MW _ _ _ _ _ he.1 (hps x).symm (λp hq=>by rw[X.sz];exact aP (lE.1 hp p hq)) X.T he.2 i
   ·show((ps.zip (encs x)).foldl (λt (p,v)=>t.setIfInBounds p v) a.tmps).size=N;rw[JW,Bh];exact X.sz
  refine wpIn_mono (BA (C:=C.at m) (a0:={tmps:=(ps.zip (encs x)).foldl (λt (p,v)=>t.setIfInBounds p v) a.tmps,defers:=[]}) (JY C.P l) (hCn m) asg hka ⟨_,HH pre,nn pre⟩ _ (round pre x hpre hN) _ A SA β' X0 (tmk.refl _ _)) ?_;rintro e a1 B ⟨e',st1,S1,β1,rfl,⟨rfl,hb⟩,X1, -⟩;have P:FrP SA A β' m S1 B β1:=X1.iv;refine⟨λb=>CC b∨OwnB β1 b∨(A.heap.size<=b∧b<B.heap.size),⟨st1,S1,β1,A,SA,β',hN,hb,X1.inv trivial,λb hb=>?_,λb hb=>.inl (k2 b hb),λb hb=>.inr (.inl hb),λy l h1 h2=>P.keep y l h1 h2,X,P.hS,λb hb=>P.hE.stable b hb,λs l cs e fr h1 h2=>P.hE.shape _ _ _ _ h2,aN k4 P.sz⟩,
   ⟨X1.B.os.trans X.B.os.symm,X1.B.tape.trans X.B.tape.symm,X1.B.output.trans X.B.output.symm,P.sz,λb hb hn=>P.still b hb λh=>hn (k2 b h)⟩,λb hb=>?_⟩
  ·rcases P.nw b hb with h|h|h
   ·exact(k1 b h).imp id .inl
   ·exact .inr (.inr (.inr ⟨h,X1.H.lt b hb⟩))
   ·exact .inr (.inl (k2 b h))
  ·rcases hb with h|⟨y,l,h1,h2⟩|h
   ·exact .inl h
   ·rcases P.own y l h1 with h|h
    ·exact .inl (k2 b (h2 ▸ h))
    ·exact .inr (h2 ▸ h)
   ·exact .inr h.1
 ·
  rintro l CC pre x a1 A1 ⟨st1,S1,β1,A,SA,β',hN,q,X,k1,k2,k3,k5,XA,k6,k7,k8,k9⟩ hpre _;refine wpIn_mono (BA (C:=C.at m) (V:=FG S1 A1 β1 m) (a0:=a1) (JY C.P l) (hCn m) body hkb st1 _ q a1 A1 S1 β1 (X.inv (AX _ _ _ _)) (tmk.refl _ _)) ?_;rintro e a2 B ⟨e',st2,S2,β2,rfl,hq,X2, -⟩;have fin:∀(h':AH) (n':Nat),fullB h' n'=true->(GhostN st2 λstg=>∃σ,keepB m σ n'=true∧Weak stg ⟨λ_=>.any,h',n'⟩ σ)->∃S3 β3,SimD (C.at m) (Inv.any m) w0 S0 N (· <n') st.t h' a B S3 β3∧(∀b,S3 b->b<w.heap.size∨(b<B.heap.size∧(CC b∨A1.heap.size<=b)))∧(∀b,OwnB β3 b->b<B.heap.size∧(CC b∨A1.heap.size<=b))∧Same (λb=> ¬CC b) A1 B:=by
   rintro h' n' hf ⟨stg,hgs,σ,hk,hW⟩;obtain⟨S3,X3⟩:=nJ hgs X2;have X4:=pM hW hk X3;have P:FrP S1 A1 β1 m S3 B _:=X4.iv;have Y:SimD (C.at m) (Inv.any m) w0 S0 N (· <n') st.t h' a B S3 (λs=>if s<n' then β2 (σ s)else none):=by
    refine⟨λi=>?_,X4.H,X4.B,X4.dom,hdf.symm ▸ XA.df,XA.sz,X4.G,X4.nw,trivial⟩;rcases ht.t i with h|⟨h,hb⟩
    ·rw[show st.t i=.any from h];exact .any _
    ·have h2:=XA.T i;rw[h]at h2;have h4:=zJ (Cv (n:=m) _ _ _ (aC _) hb h2) (λb hb=>P.hS b (k6 b hb)) (λb hb=>(P.hE.stable b (k6 b hb)).trans (k7 b hb)) λs l cs e fr h1 h2=>by
      split at h1
      ·obtain⟨cs',h3,h4⟩:=k8 s l cs e fr h1 h2;obtain⟨cs2,h5,h6⟩:=P.hE.shape _ _ _ _ h3;exact⟨cs2,h5,h6.trans h4⟩
      ·cases h1
     refine h4.mono (λ_ h=>h) (Evo.refl _ _) λs l hs=>?_;dsimp only at hs;split at hs
     ·rename_i hm;exact P.keep s l hm (k5 s l hm hs)
     ·cases hs
   refine⟨S3,_,Y,λb hb=>?_,λb ⟨y,l,h1,h2⟩=>⟨by have:=(hnm hf Y y l h1).2.2.1;omega,?_⟩,⟨X4.B.os.trans X.B.os.symm,X4.B.tape.trans X.B.tape.symm,X4.B.output.trans X.B.output.symm,P.sz,λb hb hn=>P.still b hb λh=>hn (k3 b h)⟩⟩
   ·rcases P.nw b hb with h|h|h
    ·exact(k1 b h).imp id λh=>⟨Y.H.lt b hb,.inl h⟩
    ·exact .inr ⟨Y.H.lt b hb,.inr h⟩
    ·exact .inr ⟨Y.H.lt b hb,.inl (k3 b h)⟩
   ·rcases P.own y l h1 with h|h
    ·exact .inl (k3 b (h2 ▸ h))
    ·exact .inr (h2 ▸ h)
  cases e' with
  |exit i=>exact hq.elim
  |normal=>
   obtain⟨hNx,hq⟩:=hq;obtain⟨S3,β3,Y,j1,j3,j2⟩:=fin _ _ (hfull _) hq;have hN2:∀y,y∈pre++[x]->NX y:=λy hy=>(al_List_mem_append.1 hy).elim (hN y) λh=>uO.1 h ▸ hNx
   exact⟨λb=>b<B.heap.size∧(CC b∨A1.heap.size<=b),j2,λb hb=>hb.2,.inl ⟨rfl,⟨hN2,S3,β3,Y,j1,j3,λb hb=>hb.1⟩,aN k9 j2.size⟩⟩
  |ret=>
   obtain⟨stg,hgs,h',n',σ,hk,hf,hW,hK⟩:=hq;obtain⟨S3,β3,Y,j1,j3,j2⟩:=fin h' n' hf ⟨stg,hgs,σ,hk,hW⟩;exact⟨λb=>b<B.heap.size∧(CC b∨A1.heap.size<=b),j2,λb hb=>hb.2,.inr ⟨rfl,⟨S3,h',n',β3,hK,Y,j1,j3,λb hb=>hb.1⟩,aN k9 j2.size⟩⟩
 ·rintro D CC W hD ⟨⟨hN,SA,β',X,k1,k2,k3⟩,k4⟩ hnC hW;refine⟨some D,.normal,_,SA,β',rfl,done hN D,⟨X.T,X.H,X.B,X.dom,?_,X.sz,X.G,X.nw,trivial⟩,λD' hD'=>?_⟩
  ·show _::a.defers=_;rw[show a.defers=[]from X.df.trans hdf];rfl
  ·cases hD';exact⟨hW,λh=>hnC (k2 _ h),λh=>(k1 _ h).elim (λh=>by omega) hnC,aN w00 hD⟩
 ·rintro D CC pre W hD hpre ⟨⟨SA,h',n',β',hK,X,k1,k2,k3⟩,k4⟩ hnC hW;refine⟨some D,.ret,⟨st.t,h',n'⟩,SA,β',rfl,hK D,⟨X.T,X.H,X.B,X.dom,?_,X.sz,X.G,X.nw,trivial⟩,λD' hD'=>?_⟩
  ·show _::a.defers=_;rw[show a.defers=[]from X.df.trans hdf];rfl
  ·cases hD';exact⟨hW,λh=>hnC (k2 _ h),λh=>(k1 _ h).elim (λh=>by omega) hnC,aN w00 hD⟩
def wG(N:Nat):Code->Bool
 | .seq a b=>wG N a&&wG N b
 | .cond _ a b=>wG N a&&wG N b
 | .block _ b=>wG N b
 | .scope b=>wG N b
 | .rangeFunc _ ps a b=>ps.toList.all (λp=>Nat.blt p N)&&(oL N (λ_=>false) a&&oL N (λ_=>false) b)
 |c=>uT N c
def wI(C:Ctx):Code->Option Nat->ASt->(Option Nat->AEx->ASt->Prop)->Prop
 | .seq a b,d,st,Q=>wI C a d st (λd' e st'=>match e with| .normal=>wI C b d' st' Q|e=>Q d' e st')
 | .cond c x y,d,st,Q=>match evA C st.t c with| .v (.bool b)=>Branch b (wI C x d st Q) (wI C y d st Q)|_=>False
 | .block id b,d,st,Q=>wI C b d st (λd' e st'=>match e with| .exit i=>(match Nat.beq i id with|true=>Q d' .normal st'|false=>Q d' (.exit i) st')|e=>Q d' e st')
 | .scope b,d,st,Q=>wI C b d st Q
 | .rangeFunc g ps a b,d,st,Q=>d=none∧GhostN st λstg=>∃stw σ,Weak stg stw σ∧keepB C.fr σ stw.n=true∧RangeN C stw g ps.toList a b (λe st'=>∀D,Q (some D) e st')
 |c,d,st,Q=>eJ (C.wd d) (cA (C.wd d)) c st (Q d)
def Lz(hC:∀d,CtxOk (C.wd d))(hCn:∀n,CtxOk (C.at n))(hdf:C.df=[]):∀(c:Code),wG N c=true->∀(d:Option Nat) (st:ASt) (Q:Option Nat->AEx->ASt->Prop),wI C c d st Q->
  ∀(a:Act) (w:World) (S:Nat->Prop) (β:Bt),SimD (C.wd d) (Inv.any C.fr) w0 S0 N (· <st.n) st.t st.h a w S β->Wr d w0 S β w->c.wp C.P (aaE C w0 S0 N Q) a w:=by
 have base:∀(c:Code),uT N c=true->∀(d:Option Nat) (st:ASt) (Q:Option Nat->AEx->ASt->Prop),eJ (C.wd d) (cA (C.wd d)) c st (Q d)->
  ∀(a:Act) (w:World) (S:Nat->Prop) (β:Bt),SimD (C.wd d) (Inv.any C.fr) w0 S0 N (· <st.n) st.t st.h a w S β->Wr d w0 S β w->c.wp C.P (aaE C w0 S0 N Q) a w:=by
  intro c hk d st Q hq a w S β M hd;refine wp_mono (Cx (C:=C.wd d) (V:=FG S w β C.fr) (hC d) c hk st _ hq a w S β (M.inv (AX _ _ _ _))) ?_;rintro e a' w' ⟨e',st',S',β',rfl,h1,M'⟩;have P:FrP S w β C.fr S' w' β':=M'.iv;refine⟨d,e',st',S',β',rfl,h1,M'.inv trivial,λD hD=>?_⟩;obtain⟨k1,k2,k3,k4⟩:=hd D hD;have hlt:=fQ k1;refine⟨(P.still D hlt k2).trans k1,λ⟨x,l,q1,q2⟩=>?_,λh=>?_,k4⟩
  ·rcases P.own x l q1 with h|h
   ·exact k2 (q2 ▸ h)
   ·rw[q2]at h;omega
  ·rcases P.nw D h with h|h|h
   ·exact k3 h
   ·omega
   ·exact k2 h
 intro c
 induction c with
 |seq x y ihx ihy=>
  intro hk d st Q hq a w S β M hd;simp only[wG,aJ]at hk;refine wp_seq (wp_mono (ihx hk.1 d st _ hq a w S β M hd) ?_);rintro e a' w' ⟨d',e',st',S',β',rfl,h1,h2,h3⟩
  cases e' with
  |normal=>exact ihy hk.2 d' st' Q h1 a' w' S' β' h2 h3
  |exit i=>exact⟨d',.exit i,st',S',β',rfl,h1,h2,h3⟩
  |ret=>exact⟨d',.ret,st',S',β',rfl,h1,h2,h3⟩
 | cond c x y ihx ihy=>
  intro hk d st Q hq a w S β M hd;simp only[wG,aJ]at hk;simp only[wI]at hq;split at hq
  ·rename_i b hb;obtain⟨h1,h2⟩:=hq;have hv:=tD M c;rw[show evA (C.wd d) st.t c=evA C st.t c from rfl,hb]at hv;exact wp_cond_split (lN hv) (λht=>ihx hk.1 d st Q (h1 ht) a w S β M hd) (λhf=>ihy hk.2 d st Q (h2 hf) a w S β M hd)
  ·exact hq.elim
 | block id b ih=>
  intro hk d st Q hq a w S β M hd;refine wp_block (wp_mono (ih hk d st _ hq a w S β M hd) ?_);rintro e a' w' ⟨d',e',st',S',β',rfl,h1,h2,h3⟩
  cases e' with
  |normal=>exact⟨d',.normal,st',S',β',rfl,h1,h2,h3⟩
  |ret=>exact⟨d',.ret,st',S',β',rfl,h1,h2,h3⟩
  | exit i=>
   show Exit.inBlock id _ (.exit i) a' w';simp only at h1;simp only[Exit.inBlock];by_cases hi:i=id
   ·subst hi;rw[if_pos rfl];rw[show Nat.beq i i=true from nD i]at h1;exact⟨d',.normal,st',S',β',rfl,h1,h2,h3⟩
   ·rw[if_neg hi];have:Nat.beq i id=false:=by rw[<-eI];exact λe=>hi (aK e)
    rw[this]at h1
    exact⟨d',.exit i,st',S',β',rfl,h1,h2,h3⟩
 |scope b ih=>
  intro hk d st Q hq a w S β M hd;refine wp_scope_straight (wp_mono (ih hk d st _ hq a w S β M hd) ?_);rintro e a' w' ⟨d',e',st',S',β',rfl,h⟩
  cases e' with
  |normal=>exact⟨d',.normal,st',S',β',rfl,h⟩
  |ret=>exact⟨d',.ret,st',S',β',rfl,h⟩
  |exit i=>exact⟨d',.exit i,st',S',β',rfl,h⟩
 |rangeFunc g ps x y ihx ihy=>
  intro hk d st Q hq a w S β M hd;simp only[wG,aJ]at hk;obtain⟨rfl,stg,hgs,stw,σ,hW,hf,hR⟩:=hq;obtain⟨S2,M2⟩:=nJ hgs M;have M3:=pM (C:=C.wd none) hW hf M2;have h0:=hC none
  exact Ly (C:=C) ⟨h0.ty,h0.mixed,h0.hH⟩ hCn hdf hk.1 hk.2.1 hk.2.2 hR ⟨M3.T,M3.H,M3.B,M3.dom,M3.df.trans hdf.symm,M3.sz,M3.G,M3.nw,trivial⟩
 |_=>intro hk d st Q hq;exact base _ hk d st Q hq
theorem cA.introR(hC:∀ d,CtxOk (C.wd d))(hCn:∀ n,CtxOk (C.at n)){f:FuncId}{fn:Func}{body:Code}{args:List AV}{r:AV}(hf:C.P.funcs[f]?=some fn)(hb:fn.body=some body)(hnm:(fn.name== "runtime.NumGoroutine")=false)
  (hN:wG fn.ntmps body=true) (hlen:Nat.ble args.length fn.ntmps=true) (hw:wI C body none ⟨argsT args,λ_=>none,0⟩ (λd=>Fin (C.wd d) fn r)) (hdf:C.df=[]:=by rfl):cA C f args r:=by
 refine⟨⟨fn,hf,by rw[hb];rfl,hnm⟩,λS w vs hS hG hargs=>?_⟩;have hlen:=aP hlen;refine callsIn_wide.1 (callsIn_of_wp_marks (n:=3) hf hb trivial ((wpIn_wide (n:=3)).2 ?_));have M0:SimD (C.wd none) (Inv.any C.fr) w S fn.ntmps (· <(0:Nat)) (argsT args) (λ_=>none) {tmps:=vs.toArray++Array.replicate (fn.ntmps-vs.toArray.size) undef,defers:=[]} w S noB:=by
  have hl:vs.length=args.length:=hargs.1.symm;refine⟨λi=>?_,⟨λs blk h=>(by cases h),λs s' l l' h=>absurd rfl h,hS,aC _⟩,Below.refl _ _,λx l h=>(by cases h),rfl,by simp;omega,hG,λ_ h=>.inl h,trivial⟩;rw[zX]
  cases ha:args[i]? with
  |none=>exact .any _
  | some x=>
   have hi:i<vs.length:=by rw[hl];exact(DS.1 ha).1
   have hv:vs[i]?=some vs[i]:=aA hi;have:(vs.toArray++Array.replicate (fn.ntmps-vs.toArray.size) undef).getD i undef=vs[i]:=by
    rw[aI,dL (by simpa using hi),eK,hv];rfl
   rw[this];exact hargs.2 i x _ ha hv
 refine wp_mono (Lz (C:=C) hC hCn hdf body hN none ⟨argsT args,λ_=>none,0⟩ _ hw _ w S noB M0 (λD h=>by cases h)) ?_;rintro e a' w' ⟨d,e',st,S',β',rfl,hfin,M,hd⟩;have fin:Uc (C.wd d) fn r st->∀w2:World,SimD (C.wd d) (Inv.any C.fr) w S fn.ntmps (· <st.n) st.t st.h a' w2 S' β'->∃v,(results fn a'.tmps).run C.P w2=.ok v w2∧∃v',Ending.returned v=.returned v'∧Below w.heap.size w w2∧Rep (λb=>S b∨(w.heap.size<=b∧b<w2.heap.size)) w2 noB r v':=by
  rintro⟨rs,h1,h2,h3,h4⟩ w2 M;obtain⟨t,h,n⟩:=st;obtain⟨us,g1,g2⟩:=IL (hC d) M _ rs h1;refine⟨_,yN _ us g1 fn rfl,_,rfl,M.B,?_⟩;have hret:Rep S' w2 β' (Da rs) (if h:us.toArray.size=1 then us.toArray[0]else .tuple us.toArray):=by
   match rs,us,g2 with
   |[],us,g2=>
    have:us=[]:=aR g2.1.symm;subst this
    exact .tup [] #[] rfl λi a u p=>by simp at p
   |[x],us,g2=>
    match us,g2 with
    |[u],g2=>simpa [Da]using g2.2 0 x u rfl rfl
    |[],g2=>exact absurd g2.1 (by simp)
    |_::_::_,g2=>exact absurd g2.1 (by simp)
   | x::y::zs,us,g2=>
    have hne: ¬us.toArray.size=1:=by
     have:=g2.1;simp at this⊢;omega
    rw[dif_neg hne];exact .tup _ _ (by simpa using g2.1) λi a u p q=>g2.2 i a u p (by simpa using q)
  have hd:=BG M.H hret h2;refine h4 _ _ _ ?_;exact(lV hd h3 noB).mono (λb hb=>hb.elim (λhb=>(M.nw b hb).imp id λh=>⟨h,M.H.lt b hb⟩) .inr) (Evo.refl _ _) (LY.refl _)
 have go:Uc (C.wd d) fn r st->LeavesInM Fence.wide 3 C.P fn a'.tmps (λe w'=>∃v,e=.returned v∧Below w.heap.size w w'∧Rep (λb=>S b∨(w.heap.size<=b∧b<w'.heap.size)) w' noB r v) a'.defers .returning w':=by
  intro hr;have hdf':a'.defers=dfs d:=M.df;rw[hdf']
  cases d with
  |none=>exact fin hr w' M
  |some D=>
   obtain⟨k1,k2,k3,k4⟩:=hd D rfl;refine⟨by simp,.inl ⟨D,_,rfl,run_takeDeferred k1,fin hr _ ?_⟩⟩;have ho:∀b,b≠D->(w'.putObj D (.deferred none)).heap[b]?=w'.heap[b]? :=λb hb=>World.putObj_heap_other hb;exact M.move (λb hb=>ho b λe=>k3 (e ▸ hb)) (λs l o q1 q2=>(ho _ λe=>k2 ⟨s,l,q1,e⟩).trans q2) rfl rfl rfl (by simp) (λb hb=>ho b (by omega)) trivial
 cases e' with
 |normal=>exact go hfin
 |ret=>exact go hfin
 |exit i=>exact hfin.elim
end
end Go.Proofs.YtgleompefdogkaaGreatDoor
