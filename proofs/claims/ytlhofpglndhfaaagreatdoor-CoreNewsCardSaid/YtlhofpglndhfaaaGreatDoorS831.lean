/- Joined texts. -/
import Derived.RangeFuncNested
import Derived.RangeFuncLeaves
import Derived.TacticsIn
import Derived.OrdersIn
import Derived.Test.YtlhofpglndhfaaaGreatDoorS801
import Derived.Test.YtlhofpglndhfaaaGreatDoorS828
import Derived.Test.YtlhofpglndhfaaaGreatDoorS830
set_option linter.unusedVariables false
set_option linter.unusedSimpArgs false
namespace Go.Proofs.YtlhofpglndhfaaaGreatDoor
set_option maxRecDepth 100000
set_option maxHeartbeats 4000000
open Go.RowKit
theorem Jz(m:ByteArray)(p:Pt):(Bf m p).size=m.size:=by
 unfold Bf;split
 ·simp only[kE,dK];omega
 ·rfl
theorem iB(m:ByteArray)(l:List Pt):(qO m l).size=m.size:=by
 unfold qO
 induction l generalizing m with
 |nil=>rfl
 |cons p l ih=>rw[pE,ih,Jz]
theorem Gm{m:ByteArray}{l:List Pt}{k:Nat}{x:Pt}(hx:l[k]?=some x):qO m (l.take (k+1))=Bf (qO m (l.take k)) x:=by
 unfold qO;rw[bS,hx];simp
theorem Wj(s:ByteArray):cE s=s.data.toList.map λ b=>[AV.v (.int .u8 (b.toNat:Int))]:=rfl
theorem Ta(a b:ByteArray):(a++b).data.toList=a.data.toList++b.data.toList:=by simp
theorem Tb(a:ByteArray)(i j:Nat):(a.extract i j).data.toList=(a.data.toList.take j).drop i:=by
 rw[ByteArray.data_extract,oF,List.extract_eq_take_drop,List.drop_take]
theorem Qc{m:ByteArray}{p:Pt}{n:Nat}(h:p.addr<m.size)(hn:n=m.size - p.addr):(cE m).take (0+p.addr)++(cE p.data).take (min (cE p.data).length n)++(cE m).drop (0+p.addr+min (cE p.data).length n)=cE (Bf m p):=by
 subst hn;unfold Bf;rw[if_pos h,bO,yV];simp only[Wj,Ta,Tb,eZ,fZ,mD,cB];have hl:(m.data.toList.map λ b=>[AV.v (.int .u8 (b.toNat:Int))]).length=m.size:=by rw[aH];exact dW
 rw[←hl,cX]
theorem NR{m:ByteArray}{p:Pt}(h: ¬ p.addr<m.size):Bf m p=m:=if_neg h
theorem Mu(m:ByteArray)(n:Nat)(h:m.size≤n):iI (List.take n (List.drop 0 (cE m)))=some m.data.toList:=by
 rw[cB,aI (by rw[yV];exact h)];exact sM _
theorem Qd(m:ByteArray)(l:List Pt)(ck:Bool)(hm:m.size≤1000000)(hl:l.length≤1000000)(ho:∀ x∈l,x.ok):bV C0 97 [.v (.string m),.sl 2 (l.map ptL) ck] (.v (.string (qO m l))):=by
 refine dc1 (bV.intro c1Ok Tryz.func97 rfl rfl (by kernel_rfl) rfl ?_);refine cSR<|oR 1 rfl<|rE 1<|cSR<|oR 1 rfl<|rFx (x:=.osl 2 0 m.size false) (h':=upd _ 2 (some (.arr (cE m) 1))) rfl rfl (rfl) ((by show m.size≤1000000;exact hm))<|oR 1 rfl<|rE 4<|bI<|cSR<|oR 1 rfl<|rW (vN l.length) rfl (bJ ptL l)<|oR 1 rfl ?_;refine rE 7<|bE<|jG (κ:=Nat) (λ k=>⟨slotsF [(4,.v (.string (⟨#[]⟩:ByteArray))),(5,.osl 2 0 m.size false),(10,.sl 2 (l.map ptL) ck),(11,vN l.length),(12,vN k)],heapF [(2,.arr (cE (qO m (l.take k))) 1)],7⟩) (λ k=>k≤l.length) (λ k=>l.length - k) 0 (λ s=>s) (Weak.of_lists (λ s=>s) wT wH rfl) (aE _) ?_;intro k hk;have hkn:k≤l.length:=hk;have hkB:k≤1000000:=by omega
 refine cSR<|rW (vB (decide (k<l.length))) rfl (okB (ltN _ _))<|rE 8<|bI ?_;refine aQ rfl (λ h1=>?_) (λ h1=>?_)
 ·have h1p:=of_decide_eq_true h1;refine aY<|bI<|bE<|cSR ?_;obtain⟨x,hx⟩:∃ x,l[k]?=some x:=⟨_,aA omT⟩;have hxo:=ho x (aB hx);refine rIx (ptL x) (.dp 2 0 (ptL x)) rfl rfl (fM hx) rfl<|oR 1 rfl<|rAl 10 rfl rfl<|rSt rfl<|rE 12<|cSR<|oR 2 rfl<|rW (.v (.int .u64 ((x.addr:Nat):Int))) rfl (okI (IG hxo.addr rfl))<|oR 1 rfl<|rV (vN m.size) rfl<|rW (.v (.int .u64 ((m.size:Nat):Int))) rfl (okI (IG hm rfl))<|rW (vB (decide (x.addr<m.size))) rfl (okB (ltN _ _))<|rE 19 ?_;refine aQ rfl (λ h2=>?_) (λ h2=>?_)
  ·have h2p:=of_decide_eq_true h2;refine cRg<|oR 3 rfl ?_;refine nW (.osl 2 (0+x.addr) (m.size - x.addr) false) rfl (Lh (by first|rfl|omega) (by simp only[Option.getD];omega)) slT ?_;refine oR 2 rfl ?_;have hlt:x.addr<(qO m (l.take k)).size:=by rw[iB];omega
   refine rFx (x:=vI ((min (cE x.data).length (m.size - x.addr):Nat):Int)) (h':=upd _ 2 (some (.arr (cE (qO m (l.take (k+1)))) 1))) rfl rfl (Ia (by rw[Gm hx];exact Qc hlt (by rw[iB]))) (⟨by show 0+x.addr+(m.size - x.addr)≤(cE (qO m (l.take k))).length;rw[yV,iB];omega,trivial⟩)<|rE 26<|cRg ?_;have b1:k+1≤1000001:=aF hkB (aC 1);refine rW (vN (k+1)) rfl (okI (bL b1 rfl))<|oR 1 rfl<|rE 28 ?_;refine⟨k+1,λ s=>s,Weak.of_lists _ wT wH rfl,by omega,by show l.length - (k+1)<l.length - k;omega⟩
  ·have h2p:=aD h2;refine aY<|cRg ?_;have b2:k+1≤1000001:=aF hkB (aC 1);refine rW (vN (k+1)) rfl (okI (bL b2 rfl))<|oR 1 rfl<|rE 21 ?_;refine⟨k+1,λ s=>s,Weak.of_lists _ wT ⟨⟨rfl,(congrArg (λ z=>some (Blk.arr (cE z) 1)) (show qO m (l.take k)=qO m (l.take (k+1))from by rw[Gm hx,NR (by rw[iB];omega)])),rfl⟩,trivial⟩ rfl,by omega,by show l.length - (k+1)<l.length - k;omega⟩
 ·have h1p:=aD h1;refine dR<|cSR<|oR 1 rfl<|XP ((qO m (l.take k)).data.toList) (d:=32) rfl rfl rfl ((by show 0+m.size≤(cE (qO m (l.take k))).length;rw[yV,iB];omega)) (Mu _ _ (by rw[iB];exact aC _))<|oR 1 rfl<|rE 11<|cM ?_;exact fT rfl (by rw[aI (show l.length≤k by omega)];rfl)
theorem Av{q:List Req}{k:Nat}{x:Req}(hx:q[k]?=some x)(h:x.kind=4):fY (q.take k)++[⟨x.line,x.data⟩]=fY (q.take (k+1)):=by
 unfold fY;rw[bS,hx];simp[jY,h]
theorem EB{q:List Req}{k:Nat}{x:Req}(hx:q[k]?=some x)(h: ¬ x.kind=4):fY (q.take k)=fY (q.take (k+1)):=by
 unfold fY;rw[bS,hx];simp[jY,h]
theorem JA(q:List Req):(fY q).length≤q.length:=by unfold fY;rw[aH];exact List.length_filter_le _ _
theorem Qe{q:List Req}(h:∀ x∈q,x.ok):∀ x∈fY q,x.ok:=λ x hx=>by
 unfold fY at hx;obtain⟨y,hy,rfl⟩:=sS.1 hx;exact⟨(h y (List.mem_filter.1 hy).1).line⟩
theorem Mv(m:ByteArray)(hm:m.size≤1000000):bV C0 97 [.v (.string m),.sl 0 [] true] (.v (.string m)):=by
 refine dc1 (bV.intro c1Ok Tryz.func97 rfl rfl (by kernel_rfl) rfl ?_);refine cSR<|oR 1 rfl<|rE 1<|cSR<|oR 1 rfl<|rFx (x:=.osl 2 0 m.size false) (h':=upd _ 2 (some (.arr (cE m) 1))) rfl rfl (rfl) ((by show m.size≤1000000;exact hm))<|oR 1 rfl<|rE 4<|bI<|cSR<|oR 1 rfl<|rV (vI 0) rfl<|oR 1 rfl ?_;refine rE 7<|bE<|jG (κ:=Unit) (λ u_=>⟨slotsF [(5,.osl 2 0 m.size false),(10,.sl 0 ([]) true),(11,vI 0),(12,vI 0)],heapF [(2,.arr (cE m) 1)],7⟩) (λ u_=>True) (λ u_=>0) () (λ s=>s) (Weak.of_lists (λ s=>s) wT wH rfl) trivial ?_;intro u_ _;refine cSR<|rV (vB (decide (0<0))) rfl<|rE 8<|bI ?_;refine aQ rfl (λ h1=>by simp at h1) (λ _=>?_);refine dR<|cSR<|oR 1 rfl<|XP (m.data.toList) (d:=32) rfl rfl rfl ((by show 0+m.size≤(cE m).length;rw[yV];omega)) (Mu _ _ (aC _))<|oR 1 rfl<|rE 11<|cM ?_;exact fT rfl rfl
theorem Qf(q:List Req)(m:ByteArray)(ck:Bool)(hm:m.size≤1000000)(hq:q.length≤900000)(ho:∀ x∈q,x.ok):bV C0 200 [.sl 4 (q.map rqL) ck,.v (.string m)] (.v (.string (jQ q m))):=by
 refine dc1 (bV.intro c1Ok Tryz.func200 rfl rfl (by kernel_rfl) rfl ?_);refine cSR<|oR 1 rfl<|rE 1<|cSR<|oR 1 rfl<|rE 2<|bI<|cSR<|oR 1 rfl<|rW (vN q.length) rfl (bJ rqL q)<|oR 1 rfl<|rE 5<|bE ?_;refine jG (κ:=Nat×Bool) (λ z_=>match z_ with|(k,false)=>⟨slotsF [(1,.v (.string m)),(4,.v (.string (⟨#[]⟩:ByteArray))),(8,.sl 4 (q.map rqL) ck),(9,vN q.length),(10,vN k),(5,.sl 0 ([]) true)],heapF [],6⟩|(k,true)=>⟨slotsF [(1,.v (.string m)),(4,.v (.string (⟨#[]⟩:ByteArray))),(8,.sl 4 (q.map rqL) ck),(9,vN q.length),(10,vN k),(5,.osl 5 0 ((fY (q.take k)).length) false)],heapF [(5,.arr ((fY (q.take k)).map ptL) 2)],6⟩) (λ z_=>match z_ with|(k,false)=>(k≤q.length∧fY (q.take k)=[])|(k,true)=>(k≤q.length)) (λ z_=>q.length - z_.1) (0,false) (λ s=>s) (Weak.of_lists (λ s=>s) wT trivial rfl) (⟨aE _,(show fY (q.take 0)=[]from rfl)⟩) ?_;intro z_ hk;obtain⟨k,b_⟩:=z_;cases b_
 ·have hk_:=hk;have hnn:k≤q.length:=hk_.1;have hkB:k≤1000000:=by omega
  have hNk:fY (q.take k)=[]:=hk_.2;refine cSR<|rW (vB (decide (k<q.length))) rfl (okB (ltN _ _))<|rE 7<|bI ?_;refine aQ rfl (λ h1=>?_) (λ h1=>?_)
  ·have h1p:=of_decide_eq_true h1;refine aY<|bI<|bE<|cSR ?_;obtain⟨x,hx⟩:∃ x,q[k]?=some x:=⟨_,aA omT⟩;have hxo:=ho x (aB hx);refine rIx (rqL x) (.dp 4 0 (rqL x)) rfl rfl (fM hx) rfl<|oR 1 rfl<|rAl 9 rfl rfl<|rSt rfl<|rE 11<|cSR<|oR 2 rfl<|rV (vB (x.kind==4)) rfl<|rE 14 ?_;refine aQ rfl (λ h2=>?_) (λ h2=>?_)
   ·have h2p:=mO h2;refine cRg<|oR 5 rfl<|rV (.agg [vU x.line,.v (.string x.data)]) rfl<|rV (.sl 2 ([[vU x.line,.v (.string x.data)]]) true) rfl<|rFx (x:=.osl 21 0 1 false) (h':=upd _ 21 (some (.arr (([(⟨x.line,x.data⟩:Pt)]).map ptL) 2))) rfl rfl (CB omT) (⟨rfl,by exact omT,by exact omT,trivial⟩)<|oR 1 rfl<|rE 23<|cRg ?_;have b1:k+1≤1000001:=aF hkB (aC 1);refine rW (vN (k+1)) rfl (okI (bL b1 rfl))<|oR 1 rfl<|rE 25 ?_;refine⟨(k+1,true),λ i=>match i with|5=>21|i=>i,Weak.of_lists _ ⟨⟨rfl,rfl⟩,⟨rfl,rfl⟩,⟨rfl,rfl⟩,⟨rfl,rfl⟩,⟨rfl,rfl⟩,⟨(show AV.osl 21 0 (1) false=AV.osl 21 0 (fY (q.take (k+1))).length false from by rw[←(show [(⟨x.line,x.data⟩:Pt)]=fY (q.take (k+1))from (by rw[←(Av hx h2p),hNk];rfl))];first|done|rfl|(congr 1<;>(first|exact omT|simp))),rfl⟩,trivial⟩ ⟨⟨rfl,(congrArg (λ z:List Pt=>some (Blk.arr (z.map ptL) 2)) (show [(⟨x.line,x.data⟩:Pt)]=fY (q.take (k+1))from (by rw[←(Av hx h2p),hNk];rfl))),rfl⟩,trivial⟩ rfl,by omega,by show q.length - (k+1)<q.length - k;omega⟩
   ·have h2p:=mP h2;refine aY<|cRg ?_;have b2:k+1≤1000001:=aF hkB (aC 1);refine rW (vN (k+1)) rfl (okI (bL b2 rfl))<|oR 1 rfl<|rE 16 ?_;refine⟨(k+1,false),λ i=>i,Weak.of_lists _ wT trivial rfl,⟨by omega,(by rw[←(EB hx h2p)];exact hNk)⟩,by show q.length - (k+1)<q.length - k;omega⟩
  ·have h1p:=aD h1;refine dR<|cSR<|oR 2 rfl<|rCi rfl (Mv m (hm))<|oR 1 rfl<|rE 11<|cM ?_;have hW:jQ q m=qO m (fY (q.take k)):=by unfold jQ;rw[aI omT]
   rw[hW,hNk];exact fT rfl rfl
 ·have hk_:=hk;have hnn:k≤q.length:=hk_;have hkB:k≤1000000:=by omega
  have habk:(fY (q.take k)).length≤900000:=(by have:=JA (q.take k);rw[aL]at this;omega);refine cSR<|rW (vB (decide (k<q.length))) rfl (okB (ltN _ _))<|rE 7<|bI ?_;refine aQ rfl (λ h3=>?_) (λ h3=>?_)
  ·have h3p:=of_decide_eq_true h3;refine aY<|bI<|bE<|cSR ?_;obtain⟨x,hx⟩:∃ x,q[k]?=some x:=⟨_,aA omT⟩;have hxo:=ho x (aB hx);refine rIx (rqL x) (.dp 4 0 (rqL x)) rfl rfl (fM hx) rfl<|oR 1 rfl<|rAl 9 rfl rfl<|rSt rfl<|rE 11<|cSR<|oR 2 rfl<|rV (vB (x.kind==4)) rfl<|rE 14 ?_;refine aQ rfl (λ h4=>?_) (λ h4=>?_)
   ·have h4p:=mO h4;refine cRg<|oR 5 rfl<|rV (.agg [vU x.line,.v (.string x.data)]) rfl<|rV (.sl 2 ([[vU x.line,.v (.string x.data)]]) true) rfl<|rFx (x:=.osl 21 0 ((fY (q.take k)).length+1) false) (h':=upd (upd _ 5 none) 21 (some (.arr (((fY (q.take k))++([(⟨x.line,x.data⟩:Pt)])).map ptL) 2))) rfl rfl (gV ptL (fY (q.take k)) ([(⟨x.line,x.data⟩:Pt)]) omT omT) (⟨by exact omT,by exact omT,trivial⟩)<|oR 1 rfl<|rE 23<|cRg ?_;have b3:k+1≤1000001:=aF hkB (aC 1);refine rW (vN (k+1)) rfl (okI (bL b3 rfl))<|oR 1 rfl<|rE 25 ?_;refine⟨(k+1,true),λ i=>match i with|5=>21|i=>i,Weak.of_lists _ ⟨⟨rfl,rfl⟩,⟨rfl,rfl⟩,⟨rfl,rfl⟩,⟨rfl,rfl⟩,⟨rfl,rfl⟩,⟨(show AV.osl 21 0 ((fY (q.take k)).length+1) false=AV.osl 21 0 (fY (q.take (k+1))).length false from by rw[←(show (fY (q.take k))++([(⟨x.line,x.data⟩:Pt)])=fY (q.take (k+1))from Av hx h4p)];first|done|rfl|(congr 1<;>(first|exact omT|simp))),rfl⟩,trivial⟩ ⟨⟨rfl,(congrArg (λ z:List Pt=>some (Blk.arr (z.map ptL) 2)) (show (fY (q.take k))++([(⟨x.line,x.data⟩:Pt)])=fY (q.take (k+1))from Av hx h4p)),rfl⟩,trivial⟩ rfl,by omega,by show q.length - (k+1)<q.length - k;omega⟩
   ·have h4p:=mP h4;refine aY<|cRg ?_;have b4:k+1≤1000001:=aF hkB (aC 1);refine rW (vN (k+1)) rfl (okI (bL b4 rfl))<|oR 1 rfl<|rE 16 ?_;refine⟨(k+1,true),λ i=>i,Weak.of_lists _ ⟨⟨rfl,rfl⟩,⟨rfl,rfl⟩,⟨rfl,rfl⟩,⟨rfl,rfl⟩,⟨rfl,rfl⟩,⟨(congrArg (λ z:List Pt=>AV.osl 5 0 z.length false) (EB hx h4p)),rfl⟩,trivial⟩ ⟨⟨rfl,(congrArg (λ z:List Pt=>some (Blk.arr (z.map ptL) 2)) (EB hx h4p)),rfl⟩,trivial⟩ rfl,by omega,by show q.length - (k+1)<q.length - k;omega⟩
  ·have h3p:=aD h3;refine dR<|cSR<|oR 2 rfl<|rCl (x:=.v (.string (qO m (fY (q.take k))))) rfl (.inr ⟨rfl,⟨trivial,(by show 0+((fY (q.take k)).length)≤((fY (q.take k)).map ptL).length;exact omT),trivial⟩⟩) ((show bV C0 _ [_,.sl 2 (List.take ((fY (q.take k)).length) (List.drop 0 ((fY (q.take k)).map ptL))) false] _ from by rw[kI ptL (fY (q.take k)) omT];exact Qd m (fY (q.take k)) false (hm) (by have:=JA (q.take k);rw[aL]at this;omega) (Qe (pW ho))))<|oR 1 rfl<|rE 11<|cM ?_;have hW:jQ q m=qO m (fY (q.take k)):=by unfold jQ;rw[aI omT]
   rw[hW];exact fT rfl rfl
def Wk(w:Wy):Pt:=⟨w.line,w.data⟩
def gU(c:Ca)(k:Nat):List Pt:=(c.sets.take k).flatten.map Wk
def fR(c:Ca)(k:Nat)(s:List Wy)(j:Nat):List Pt:=gU c k++(s.take j).map Wk
theorem pL{c:Ca}{k j:Nat}{s:List Wy}{x:Wy}(hx:s[j]?=some x):fR c k s j++[⟨x.line,x.data⟩]=fR c k s (j+1):=by
 unfold fR;rw[bS,hx];simp[Wk]
theorem uV{c:Ca}{k j:Nat}{s:List Wy}(hs:c.sets[k]?=some s)(hj:s.length≤j):fR c k s j=gU c (k+1):=by
 unfold fR gU;rw[aI hj,bS,hs];simp
theorem Bb(c:Ca)(k:Nat)(s:List Wy):gU c k=fR c k s 0:=by unfold fR;simp
theorem EC{c:Ca}{k:Nat}(h:c.sets.length≤k):gU c k=Ll c:=by unfold gU Ll;rw[aI h];rfl
theorem Mw{α:Type}{B:Nat}:∀ (L:List (List α)),(∀ s∈L,s.length≤B)→L.flatten.length≤L.length * B
 |[],_=>by simp
 |s::L,h=>by
  have h1:=h s bQ;have h2:=Mw L λ t ht=>h t (bX _ ht);simp only[mW,aW,bR,cF,kW];omega
theorem HD{c:Ca}{k:Nat}(h4:c.sets.length≤4)(h2:∀ s∈c.sets,s.length≤2):(gU c k).length≤8:=by
 unfold gU;rw[aH];have:=Mw (B:=2) (c.sets.take k) λ s hs=>h2 s (cS hs);rw[aL]at this;omega
theorem JB{c:Ca}{k j:Nat}{s:List Wy}(h4:c.sets.length≤4)(h2:∀ s∈c.sets,s.length≤2)(hs:s.length≤2):(fR c k s j).length≤10:=by
 unfold fR;have:=HD (k:=k) h4 h2;rw[aW,aH,aL];omega
theorem Tc{c:Ca}(h:∀ s∈c.sets,∀ x∈s,x.ok)(k:Nat):∀ x∈gU c k,x.ok:=λ x hx=>by
 obtain⟨y,hy,rfl⟩:=sS.1 hx;obtain⟨s,hs,hy⟩:=List.mem_flatten.1 hy;exact⟨(h s (cS hs) y hy).line⟩
theorem Yq(c:Ca)(q:List Req)(m:ByteArray)(ck:Bool)(hok:c.ok)(hc4:c.sets.length≤4)(hc2:∀ s∈c.sets,s.length≤2)(hm:m.size≤1000000)(hq:q.length≤900000)(ho:∀ x∈q,x.ok):bV C0 198 [.agg (caL c false),.sl 4 (q.map rqL) ck,.v (.string m)] (.v (.string (Ch c q m))):=by
 refine dc1 (bV.intro c1Ok Tryz.func198 rfl rfl (by kernel_rfl) rfl ?_);refine cSR<|rAl 0 rfl rfl<|oR 1 rfl<|rE 2<|cSR<|oR 1 rfl<|rE 3<|bI<|cSR<|oR 2 rfl<|rW (vN c.sets.length) rfl (bJ bA c.sets)<|oR 1 rfl<|rE 7 ?_;refine bE<|jG (κ:=Nat×Bool) (λ z_=>match z_ with|(k,false)=>⟨slotsF [(1,.sl 4 (q.map rqL) ck),(2,.v (.string m)),(6,.v (.string (⟨#[]⟩:ByteArray))),(13,.sl 1 (c.sets.map bA) false),(14,vN c.sets.length),(15,vN k),(7,.sl 0 ([]) true)],heapF [(0,.box [vI c.ways,.sl 1 (c.sets.map bA) false])],8⟩|(k,true)=>⟨slotsF [(1,.sl 4 (q.map rqL) ck),(2,.v (.string m)),(6,.v (.string (⟨#[]⟩:ByteArray))),(13,.sl 1 (c.sets.map bA) false),(14,vN c.sets.length),(15,vN k),(7,.osl 7 0 ((gU c k).length) false)],heapF [(0,.box [vI c.ways,.sl 1 (c.sets.map bA) false]),(7,.arr ((gU c k).map ptL) 2)],8⟩) (λ z_=>match z_ with|(k,false)=>(k≤c.sets.length∧gU c k=[])|(k,true)=>(k≤c.sets.length)) (λ z_=>c.sets.length - z_.1) (0,false) (λ s=>s) (Weak.of_lists (λ s=>s) wT wH rfl) (⟨aE _,(show gU c 0=[]from rfl)⟩) ?_;intro z_ hk;obtain⟨k,b_⟩:=z_;cases b_
 ·have hk_:=hk;have hnn:k≤c.sets.length:=hk_.1;have hkB:k≤1000000:=by omega
  have hNk:gU c k=[]:=hk_.2;refine cSR<|rW (vB (decide (k<c.sets.length))) rfl (okB (ltN _ _))<|rE 9<|bI ?_;refine aQ rfl (λ h1=>?_) (λ h1=>?_)
  ·have h1p:=of_decide_eq_true h1;refine aY<|bI<|bE<|cSR ?_;obtain⟨s,hs⟩:∃ x,c.sets[k]?=some x:=⟨_,aA omT⟩;have hso:=hok.set s (aB hs);have hsl:s.length≤2:=hc2 s (aB hs);refine rIx (bA s) (.dp 1 0 (bA s)) rfl rfl (fM hs) rfl<|oR 2 rfl<|rE 12<|cSR<|oR 1 rfl<|rW (vN s.length) rfl (bJ wyL s)<|oR 1 rfl<|rE 15<|bE<|jG (κ:=Nat×Bool) (λ z_=>match z_ with|(j,false)=>⟨slotsF [(1,.sl 4 (q.map rqL) ck),(2,.v (.string m)),(6,.v (.string (⟨#[]⟩:ByteArray))),(13,.sl 1 (c.sets.map bA) false),(14,vN c.sets.length),(15,vN k),(16,vB (decide (k<c.sets.length))),(17,.dp 1 0 (bA s)),(18,.sl 3 (s.map wyL) false),(9,.sl 3 (s.map wyL) false),(19,.sl 3 (s.map wyL) false),(20,vN s.length),(21,vN j),(7,.sl 0 ([]) true)],heapF [(0,.box [vI c.ways,.sl 1 (c.sets.map bA) false])],16⟩|(j,true)=>⟨slotsF [(1,.sl 4 (q.map rqL) ck),(2,.v (.string m)),(6,.v (.string (⟨#[]⟩:ByteArray))),(13,.sl 1 (c.sets.map bA) false),(14,vN c.sets.length),(15,vN k),(16,vB (decide (k<c.sets.length))),(17,.dp 1 0 (bA s)),(18,.sl 3 (s.map wyL) false),(9,.sl 3 (s.map wyL) false),(19,.sl 3 (s.map wyL) false),(20,vN s.length),(21,vN j),(7,.osl 15 0 ((fR c k s j).length) false)],heapF [(0,.box [vI c.ways,.sl 1 (c.sets.map bA) false]),(15,.arr ((fR c k s j).map ptL) 2)],16⟩) (λ z_=>match z_ with|(j,false)=>(j≤s.length∧fR c k s j=[])|(j,true)=>(j≤s.length)) (λ z_=>s.length - z_.1) (0,false) (λ s=>s) (Weak.of_lists (λ s=>s) wT wH rfl) (⟨aE _,(show fR c k s 0=[]from (Bb c k s).symm.trans hNk)⟩) ?_;intro z_ hj;obtain⟨j,b_⟩:=z_;cases b_
   ·have hj_:=hj;have hnn:j≤s.length:=hj_.1;have hjB:j≤1000000:=by omega
    have hNj:fR c k s j=[]:=hj_.2;refine cSR<|rW (vB (decide (j<s.length))) rfl (okB (ltN _ _))<|rE 17<|bI ?_;refine aQ rfl (λ h2=>?_) (λ h2=>?_)
    ·have h2p:=of_decide_eq_true h2;refine aY<|bI<|bE<|cSR ?_;obtain⟨x,hx⟩:∃ x,s[j]?=some x:=⟨_,aA omT⟩;have hxo:=hso.2 x (aB hx);refine rIx (wyL x) (.dp 3 0 (wyL x)) rfl rfl (fM hx) rfl<|oR 1 rfl<|rAl 19 rfl rfl<|rSt rfl<|rE 21<|cRg<|oR 5 rfl<|rV (.agg [vU x.line,.v (.string x.data)]) rfl<|rV (.sl 2 ([[vU x.line,.v (.string x.data)]]) true) rfl<|rFx (x:=.osl 28 0 1 false) (h':=upd _ 28 (some (.arr (([(⟨x.line,x.data⟩:Pt)]).map ptL) 2))) rfl rfl (CB omT) (⟨rfl,by exact omT,by exact omT,trivial⟩)<|oR 1 rfl<|rE 30<|cRg ?_;have b1:j+1≤1000001:=aF hjB (aC 1);refine rW (vN (j+1)) rfl (okI (bL b1 rfl))<|oR 1 rfl<|rE 32 ?_;refine⟨(j+1,true),λ i=>match i with|15=>28|i=>i,Weak.of_lists _ ⟨⟨rfl,rfl⟩,⟨rfl,rfl⟩,⟨rfl,rfl⟩,⟨rfl,rfl⟩,⟨rfl,rfl⟩,⟨rfl,rfl⟩,⟨rfl,rfl⟩,⟨rfl,rfl⟩,⟨rfl,rfl⟩,⟨rfl,rfl⟩,⟨rfl,rfl⟩,⟨rfl,rfl⟩,⟨rfl,rfl⟩,⟨(show AV.osl 28 0 (1) false=AV.osl 28 0 (fR c k s (j+1)).length false from by rw[←(show [(⟨x.line,x.data⟩:Pt)]=fR c k s (j+1)from (by rw[←(pL hx),hNj];rfl))];first|done|rfl|(congr 1<;>(first|exact omT|simp))),rfl⟩,trivial⟩ ⟨⟨rfl,rfl,rfl⟩,⟨rfl,(congrArg (λ z:List Pt=>some (Blk.arr (z.map ptL) 2)) (show [(⟨x.line,x.data⟩:Pt)]=fR c k s (j+1)from (by rw[←(pL hx),hNj];rfl))),rfl⟩,trivial⟩ rfl,by omega,by show s.length - (j+1)<s.length - j;omega⟩
    ·have h2p:=aD h2;refine dR<|cRg ?_;have b2:k+1≤1000001:=aF hkB (aC 1);refine rW (vN (k+1)) rfl (okI (bL b2 rfl))<|oR 1 rfl<|rE 19 ?_;refine⟨(k+1,false),λ i=>i,Weak.of_lists _ wT wH rfl,⟨by omega,(by rw[←uV (j:=j) hs omT];exact hNj)⟩,by show c.sets.length - (k+1)<c.sets.length - k;omega⟩
   ·have hj_:=hj;have hnn:j≤s.length:=hj_;have hjB:j≤1000000:=by omega
    have habj:(fR c k s j).length≤10:=(JB hc4 hc2 hsl);refine cSR<|rW (vB (decide (j<s.length))) rfl (okB (ltN _ _))<|rE 17<|bI ?_;refine aQ rfl (λ h3=>?_) (λ h3=>?_)
    ·have h3p:=of_decide_eq_true h3;refine aY<|bI<|bE<|cSR ?_;obtain⟨x,hx⟩:∃ x,s[j]?=some x:=⟨_,aA omT⟩;have hxo:=hso.2 x (aB hx);refine rIx (wyL x) (.dp 3 0 (wyL x)) rfl rfl (fM hx) rfl<|oR 1 rfl<|rAl 19 rfl rfl<|rSt rfl<|rE 21<|cRg<|oR 5 rfl<|rV (.agg [vU x.line,.v (.string x.data)]) rfl<|rV (.sl 2 ([[vU x.line,.v (.string x.data)]]) true) rfl<|rFx (x:=.osl 28 0 ((fR c k s j).length+1) false) (h':=upd (upd _ 15 none) 28 (some (.arr (((fR c k s j)++([(⟨x.line,x.data⟩:Pt)])).map ptL) 2))) rfl rfl (gV ptL (fR c k s j) ([(⟨x.line,x.data⟩:Pt)]) omT omT) (⟨by exact omT,by exact omT,trivial⟩)<|oR 1 rfl<|rE 30<|cRg ?_;have b3:j+1≤1000001:=aF hjB (aC 1);refine rW (vN (j+1)) rfl (okI (bL b3 rfl))<|oR 1 rfl<|rE 32 ?_;refine⟨(j+1,true),λ i=>match i with|15=>28|i=>i,Weak.of_lists _ ⟨⟨rfl,rfl⟩,⟨rfl,rfl⟩,⟨rfl,rfl⟩,⟨rfl,rfl⟩,⟨rfl,rfl⟩,⟨rfl,rfl⟩,⟨rfl,rfl⟩,⟨rfl,rfl⟩,⟨rfl,rfl⟩,⟨rfl,rfl⟩,⟨rfl,rfl⟩,⟨rfl,rfl⟩,⟨rfl,rfl⟩,⟨(show AV.osl 28 0 ((fR c k s j).length+1) false=AV.osl 28 0 (fR c k s (j+1)).length false from by rw[←(show (fR c k s j)++([(⟨x.line,x.data⟩:Pt)])=fR c k s (j+1)from pL hx)];first|done|rfl|(congr 1<;>(first|exact omT|simp))),rfl⟩,trivial⟩ ⟨⟨rfl,rfl,rfl⟩,⟨rfl,(congrArg (λ z:List Pt=>some (Blk.arr (z.map ptL) 2)) (show (fR c k s j)++([(⟨x.line,x.data⟩:Pt)])=fR c k s (j+1)from pL hx)),rfl⟩,trivial⟩ rfl,by omega,by show s.length - (j+1)<s.length - j;omega⟩
    ·have h3p:=aD h3;refine dR<|cRg ?_;have b4:k+1≤1000001:=aF hkB (aC 1);refine rW (vN (k+1)) rfl (okI (bL b4 rfl))<|oR 1 rfl<|rE 19 ?_;refine⟨(k+1,true),λ i=>match i with|7=>15|i=>i,Weak.of_lists _ ⟨⟨rfl,rfl⟩,⟨rfl,rfl⟩,⟨rfl,rfl⟩,⟨rfl,rfl⟩,⟨rfl,rfl⟩,⟨rfl,rfl⟩,⟨(show AV.osl 15 0 ((fR c k s j).length) false=AV.osl 15 0 (gU c (k+1)).length false from by rw[←(show fR c k s j=gU c (k+1)from uV hs omT)];first|done|rfl|(congr 1<;>(first|exact omT|simp))),rfl⟩,trivial⟩ ⟨⟨rfl,rfl,rfl⟩,⟨rfl,(congrArg (λ z:List Pt=>some (Blk.arr (z.map ptL) 2)) (show fR c k s j=gU c (k+1)from uV hs omT)),rfl⟩,trivial⟩ rfl,by omega,by show c.sets.length - (k+1)<c.sets.length - k;omega⟩
  ·have h1p:=aD h1;refine dR<|cSR<|oR 2 rfl<|rCi rfl (Qf q m ck hm hq ho)<|oR 1 rfl<|rCi rfl (Mv (jQ q m) (by unfold jQ;rw[iB];exact hm))<|oR 1 rfl<|rE 15<|cM ?_;have hW:Ch c q m=qO (jQ q m) (gU c k):=by unfold Ch;rw[EC omT]
   rw[hW,hNk];exact fT rfl rfl
 ·have hk_:=hk;have hnn:k≤c.sets.length:=hk_;have hkB:k≤1000000:=by omega
  have habk:(gU c k).length≤8:=(HD hc4 hc2);refine cSR<|rW (vB (decide (k<c.sets.length))) rfl (okB (ltN _ _))<|rE 9<|bI ?_;refine aQ rfl (λ h4=>?_) (λ h4=>?_)
  ·have h4p:=of_decide_eq_true h4;refine aY<|bI<|bE<|cSR ?_;obtain⟨s,hs⟩:∃ x,c.sets[k]?=some x:=⟨_,aA omT⟩;have hso:=hok.set s (aB hs);have hsl:s.length≤2:=hc2 s (aB hs);refine rIx (bA s) (.dp 1 0 (bA s)) rfl rfl (fM hs) rfl<|oR 2 rfl<|rE 12<|cSR<|oR 1 rfl<|rW (vN s.length) rfl (bJ wyL s)<|oR 1 rfl<|rE 15<|bE<|jG (κ:=Nat×Bool) (λ z_=>match z_ with|(j,false)=>⟨slotsF [(1,.sl 4 (q.map rqL) ck),(2,.v (.string m)),(6,.v (.string (⟨#[]⟩:ByteArray))),(13,.sl 1 (c.sets.map bA) false),(14,vN c.sets.length),(15,vN k),(16,vB (decide (k<c.sets.length))),(17,.dp 1 0 (bA s)),(18,.sl 3 (s.map wyL) false),(9,.sl 3 (s.map wyL) false),(19,.sl 3 (s.map wyL) false),(20,vN s.length),(21,vN j),(7,.sl 0 ([]) true)],heapF [(0,.box [vI c.ways,.sl 1 (c.sets.map bA) false])],16⟩|(j,true)=>⟨slotsF [(1,.sl 4 (q.map rqL) ck),(2,.v (.string m)),(6,.v (.string (⟨#[]⟩:ByteArray))),(13,.sl 1 (c.sets.map bA) false),(14,vN c.sets.length),(15,vN k),(16,vB (decide (k<c.sets.length))),(17,.dp 1 0 (bA s)),(18,.sl 3 (s.map wyL) false),(9,.sl 3 (s.map wyL) false),(19,.sl 3 (s.map wyL) false),(20,vN s.length),(21,vN j),(7,.osl 15 0 ((fR c k s j).length) false)],heapF [(0,.box [vI c.ways,.sl 1 (c.sets.map bA) false]),(15,.arr ((fR c k s j).map ptL) 2)],16⟩) (λ z_=>match z_ with|(j,false)=>(j≤s.length∧fR c k s j=[])|(j,true)=>(j≤s.length)) (λ z_=>s.length - z_.1) (0,true) (λ i=>match i with|15=>7|i=>i) (Weak.of_lists (λ i=>match i with|15=>7|i=>i) ⟨⟨rfl,rfl⟩,⟨rfl,rfl⟩,⟨rfl,rfl⟩,⟨rfl,rfl⟩,⟨rfl,rfl⟩,⟨rfl,rfl⟩,⟨rfl,rfl⟩,⟨rfl,rfl⟩,⟨rfl,rfl⟩,⟨rfl,rfl⟩,⟨rfl,rfl⟩,⟨rfl,rfl⟩,⟨rfl,rfl⟩,⟨(show AV.osl 7 0 ((gU c k).length) false=AV.osl 7 0 (fR c k s 0).length false from by rw[←(show gU c k=fR c k s 0 from Bb c k s)]),rfl⟩,trivial⟩ ⟨⟨rfl,rfl,rfl⟩,⟨rfl,(congrArg (λ z:List Pt=>some (Blk.arr (z.map ptL) 2)) (show gU c k=fR c k s 0 from Bb c k s)),rfl⟩,trivial⟩ rfl) (aE _) ?_;intro z_ hj;obtain⟨j,b_⟩:=z_;cases b_
   ·have hj_:=hj;have hnn:j≤s.length:=hj_.1;have hjB:j≤1000000:=by omega
    have hNj:fR c k s j=[]:=hj_.2;refine cSR<|rW (vB (decide (j<s.length))) rfl (okB (ltN _ _))<|rE 17<|bI ?_;refine aQ rfl (λ h5=>?_) (λ h5=>?_)
    ·have h5p:=of_decide_eq_true h5;refine aY<|bI<|bE<|cSR ?_;obtain⟨x,hx⟩:∃ x,s[j]?=some x:=⟨_,aA omT⟩;have hxo:=hso.2 x (aB hx);refine rIx (wyL x) (.dp 3 0 (wyL x)) rfl rfl (fM hx) rfl<|oR 1 rfl<|rAl 19 rfl rfl<|rSt rfl<|rE 21<|cRg<|oR 5 rfl<|rV (.agg [vU x.line,.v (.string x.data)]) rfl<|rV (.sl 2 ([[vU x.line,.v (.string x.data)]]) true) rfl<|rFx (x:=.osl 28 0 1 false) (h':=upd _ 28 (some (.arr (([(⟨x.line,x.data⟩:Pt)]).map ptL) 2))) rfl rfl (CB omT) (⟨rfl,by exact omT,by exact omT,trivial⟩)<|oR 1 rfl<|rE 30<|cRg ?_;have b5:j+1≤1000001:=aF hjB (aC 1);refine rW (vN (j+1)) rfl (okI (bL b5 rfl))<|oR 1 rfl<|rE 32 ?_;refine⟨(j+1,true),λ i=>match i with|15=>28|i=>i,Weak.of_lists _ ⟨⟨rfl,rfl⟩,⟨rfl,rfl⟩,⟨rfl,rfl⟩,⟨rfl,rfl⟩,⟨rfl,rfl⟩,⟨rfl,rfl⟩,⟨rfl,rfl⟩,⟨rfl,rfl⟩,⟨rfl,rfl⟩,⟨rfl,rfl⟩,⟨rfl,rfl⟩,⟨rfl,rfl⟩,⟨rfl,rfl⟩,⟨(show AV.osl 28 0 (1) false=AV.osl 28 0 (fR c k s (j+1)).length false from by rw[←(show [(⟨x.line,x.data⟩:Pt)]=fR c k s (j+1)from (by rw[←(pL hx),hNj];rfl))];first|done|rfl|(congr 1<;>(first|exact omT|simp))),rfl⟩,trivial⟩ ⟨⟨rfl,rfl,rfl⟩,⟨rfl,(congrArg (λ z:List Pt=>some (Blk.arr (z.map ptL) 2)) (show [(⟨x.line,x.data⟩:Pt)]=fR c k s (j+1)from (by rw[←(pL hx),hNj];rfl))),rfl⟩,trivial⟩ rfl,by omega,by show s.length - (j+1)<s.length - j;omega⟩
    ·have h5p:=aD h5;refine dR<|cRg ?_;have b6:k+1≤1000001:=aF hkB (aC 1);refine rW (vN (k+1)) rfl (okI (bL b6 rfl))<|oR 1 rfl<|rE 19 ?_;refine⟨(k+1,false),λ i=>i,Weak.of_lists _ wT wH rfl,⟨by omega,(by rw[←uV (j:=j) hs omT];exact hNj)⟩,by show c.sets.length - (k+1)<c.sets.length - k;omega⟩
   ·have hj_:=hj;have hnn:j≤s.length:=hj_;have hjB:j≤1000000:=by omega
    have habj:(fR c k s j).length≤10:=(JB hc4 hc2 hsl);refine cSR<|rW (vB (decide (j<s.length))) rfl (okB (ltN _ _))<|rE 17<|bI ?_;refine aQ rfl (λ h6=>?_) (λ h6=>?_)
    ·have h6p:=of_decide_eq_true h6;refine aY<|bI<|bE<|cSR ?_;obtain⟨x,hx⟩:∃ x,s[j]?=some x:=⟨_,aA omT⟩;have hxo:=hso.2 x (aB hx);refine rIx (wyL x) (.dp 3 0 (wyL x)) rfl rfl (fM hx) rfl<|oR 1 rfl<|rAl 19 rfl rfl<|rSt rfl<|rE 21<|cRg<|oR 5 rfl<|rV (.agg [vU x.line,.v (.string x.data)]) rfl<|rV (.sl 2 ([[vU x.line,.v (.string x.data)]]) true) rfl<|rFx (x:=.osl 28 0 ((fR c k s j).length+1) false) (h':=upd (upd _ 15 none) 28 (some (.arr (((fR c k s j)++([(⟨x.line,x.data⟩:Pt)])).map ptL) 2))) rfl rfl (gV ptL (fR c k s j) ([(⟨x.line,x.data⟩:Pt)]) omT omT) (⟨by exact omT,by exact omT,trivial⟩)<|oR 1 rfl<|rE 30<|cRg ?_;have b7:j+1≤1000001:=aF hjB (aC 1);refine rW (vN (j+1)) rfl (okI (bL b7 rfl))<|oR 1 rfl<|rE 32 ?_;refine⟨(j+1,true),λ i=>match i with|15=>28|i=>i,Weak.of_lists _ ⟨⟨rfl,rfl⟩,⟨rfl,rfl⟩,⟨rfl,rfl⟩,⟨rfl,rfl⟩,⟨rfl,rfl⟩,⟨rfl,rfl⟩,⟨rfl,rfl⟩,⟨rfl,rfl⟩,⟨rfl,rfl⟩,⟨rfl,rfl⟩,⟨rfl,rfl⟩,⟨rfl,rfl⟩,⟨rfl,rfl⟩,⟨(show AV.osl 28 0 ((fR c k s j).length+1) false=AV.osl 28 0 (fR c k s (j+1)).length false from by rw[←(show (fR c k s j)++([(⟨x.line,x.data⟩:Pt)])=fR c k s (j+1)from pL hx)];first|done|rfl|(congr 1<;>(first|exact omT|simp))),rfl⟩,trivial⟩ ⟨⟨rfl,rfl,rfl⟩,⟨rfl,(congrArg (λ z:List Pt=>some (Blk.arr (z.map ptL) 2)) (show (fR c k s j)++([(⟨x.line,x.data⟩:Pt)])=fR c k s (j+1)from pL hx)),rfl⟩,trivial⟩ rfl,by omega,by show s.length - (j+1)<s.length - j;omega⟩
    ·have h6p:=aD h6;refine dR<|cRg ?_;have b8:k+1≤1000001:=aF hkB (aC 1);refine rW (vN (k+1)) rfl (okI (bL b8 rfl))<|oR 1 rfl<|rE 19 ?_;refine⟨(k+1,true),λ i=>match i with|7=>15|i=>i,Weak.of_lists _ ⟨⟨rfl,rfl⟩,⟨rfl,rfl⟩,⟨rfl,rfl⟩,⟨rfl,rfl⟩,⟨rfl,rfl⟩,⟨rfl,rfl⟩,⟨(show AV.osl 15 0 ((fR c k s j).length) false=AV.osl 15 0 (gU c (k+1)).length false from by rw[←(show fR c k s j=gU c (k+1)from uV hs omT)];first|done|rfl|(congr 1<;>(first|exact omT|simp))),rfl⟩,trivial⟩ ⟨⟨rfl,rfl,rfl⟩,⟨rfl,(congrArg (λ z:List Pt=>some (Blk.arr (z.map ptL) 2)) (show fR c k s j=gU c (k+1)from uV hs omT)),rfl⟩,trivial⟩ rfl,by omega,by show c.sets.length - (k+1)<c.sets.length - k;omega⟩
  ·have h4p:=aD h4;refine dR<|cSR<|oR 2 rfl<|rCi rfl (Qf q m ck hm hq ho)<|oR 1 rfl<|rCl (x:=.v (.string (qO (jQ q m) (gU c k)))) rfl (.inr ⟨rfl,⟨trivial,(by show 0+((gU c k).length)≤((gU c k).map ptL).length;exact omT),trivial⟩⟩) ((show bV C0 _ [_,.sl 2 (List.take ((gU c k).length) (List.drop 0 ((gU c k).map ptL))) false] _ from by rw[kI ptL (gU c k) omT];exact Qd (jQ q m) (gU c k) false (by unfold jQ;rw[iB];exact hm) (by have:=HD (k:=k) hc4 hc2;omega) (Tc (λ s hs=>(hok.set s hs).2) k)))<|oR 1 rfl<|rE 15<|cM ?_;have hW:Ch c q m=qO (jQ q m) (gU c k):=by unfold Ch;rw[EC omT]
   rw[hW];exact fT rfl rfl
theorem ZN(stores:List Pt)(c:Ca)(q:List Req)(m:ByteArray)(ck ck2:Bool)(hok:c.ok)(hc4:c.sets.length≤4)(hc2:∀ s∈c.sets,s.length≤2)(hm:m.size≤1000000)(hq:q.length≤900000)(ho:∀ x∈q,x.ok)(hst:stores.length≤1000000)(hso:∀ x∈stores,x.ok):bV C0 151 [.sl 2 (stores.map ptL) ck2,.agg (caL c false),.sl 4 (q.map rqL) ck,.v (.string m)] (.v (.string (Yy stores c q m))):=by
 refine bV.intro c0Ok Tryz.func151 rfl rfl (by kernel_rfl) rfl<|cSR<|rAl 0 rfl rfl<|oR 1 rfl<|rE 2<|cSR<|oR 3 rfl<|rCi rfl (Yq c q m ck hok hc4 hc2 hm hq ho)<|oR 1 rfl<|rCi rfl (Qd (Ch c q m) stores ck2 (by unfold Ch jQ;rw[iB,iB];exact hm) hst hso)<|oR 1 rfl<|rE 9<|cM ?_;exact fT rfl rfl
theorem Qg{m:ByteArray}{a:Nat}(h:a≤m.size):(m.extract a m.size).extract 0 (min (m.extract a m.size).size 16)=m.extract a (a+min (m.size - a) 16):=by
 have hs:(m.extract a m.size).size=m.size - a:=by rw[dK];omega
 rw[hs,ByteArray.extract_extract];congr 1<;>omega
theorem ZO(m:ByteArray)(line:Nat)(hm:m.size≤1000000)(hline:line≤4294967295):bV C0 199 [.v (.string m),vU line] (.v (.string (Fj m line))):=by
 refine bV.intro c0Ok Tryz.func199 rfl rfl (by kernel_rfl) rfl<|cSR<|oR 1 rfl<|rE 1<|cSR<|oR 1 rfl<|rCi rfl (qZ line hline)<|oR 1 rfl<|rE 4<|bI<|cSR<|oR 1 rfl<|rW (.v (.int .u64 ((lineOf line:Nat):Int))) rfl (okI (IG (dJ hline) rfl)) ?_;refine oR 1 rfl<|rV (vN m.size) rfl<|rW (.v (.int .u64 ((m.size:Nat):Int))) rfl (okI (IG hm rfl))<|rW (vB (decide ((lineOf line)≥m.size))) rfl (okB (geN _ _))<|rE 10 ?_;refine aQ rfl (λ h1=>?_) (λ h1=>?_)
 ·have h1p:=of_decide_eq_true h1;refine cSR<|oR 1 rfl<|rE 11<|cM ?_;exact fT rfl (by unfold Fj;rw[if_neg omT];rfl)
 ·have h1p:=aD h1;refine aY<|cSR<|oR 2 rfl ?_;refine nW (.v (.string (m.extract (lineOf line) m.size))) rfl rfl (by refine⟨?_,?_,?_⟩<;>(first|exact aG _|decide|(apply Fg.2;exact omT))) ?_;refine oR 1 rfl<|rE 14<|cSR<|oR 2 rfl<|rV (vN ((m.extract (lineOf line) m.size).size)) rfl<|rW (vN (min ((m.extract (lineOf line) m.size).size) 16)) rfl (wM ((m.extract (lineOf line) m.size).size) 16) ?_;refine nW (.v (.string ((m.extract (lineOf line) m.size).extract 0 (min ((m.extract (lineOf line) m.size).size) 16)))) rfl rfl (by refine⟨?_,?_,?_⟩<;>(first|exact aG _|decide|(apply Fg.2;exact omT))) ?_;refine oR 1 rfl<|rE 20<|cM ?_;exact fT rfl (by unfold Fj;rw[if_pos omT,Qg omT];rfl)
theorem BS(r:Nat→Nat)(s:Sp)(hr:∀ k,r k≤4294967295)(hs:s.ok):bV C0 107 [.agg (JE r),.agg (spL s)] (.agg (JE (qU r s))):=by
 refine bV.intro c0Ok Tryz.func107 rfl rfl (by kernel_rfl) rfl<|cSR<|rAl 0 rfl rfl<|rAl 1 rfl rfl<|rAl 2 rfl rfl<|rE 3<|bI<|cSR<|oR 2 rfl<|rV (vB (decide (s.rd≥1))) rfl<|oR 1 rfl<|gN rfl<|gS rfl id<|gBS (x:=vB (decide (s.rd≤31))) rfl id rfl ?_;refine cL rfl rfl rfl (λ h=>h)<|oR 1 rfl<|gN rfl<|gS rfl id<|gBS (x:=vB (s.halt==0)) rfl id rfl<|cL rfl rfl rfl (λ h=>h)<|rE 16 ?_;refine aQ rfl (λ h1=>?_) (λ h1=>?_)
 ·have hA:(1≤s.rd∧s.rd≤31∧s.halt=0):=by have z:=h1;simp only[qI,aK,aZ,qA,kG,aV,ne_eq]at z;omega
  refine cRg<|oR 4 rfl<|nW (.ptr 0 (0+s.rd.toNat * 1)) rfl rfl omT<|XO (h':=upd _ 0 (some (.box (JE (Wx r s.rd.toNat s.value))))) rfl rfl (abL (r:=r) (v:=s.value) rfl rfl rfl omT) (trivial)<|rE 22<|cSR<|oR 1 rfl<|rSt rfl<|rE 24<|cM ?_;rw[show qU r s=Wx r s.rd.toNat s.value from by unfold qU;rw[if_pos hA]];exact eW rfl rcT rfl rfl
 ·have hA: ¬ (1≤s.rd∧s.rd≤31∧s.halt=0):=by have z:=h1;simp only[qI,aK,aZ,qA,kG,aV,ne_eq]at z;omega
  refine aY<|cSR<|oR 1 rfl<|rSt rfl<|rE 18<|cM ?_;rw[show qU r s=r from by unfold qU;rw[if_neg hA]];exact eW rfl rcT rfl rfl
abbrev abJ(o:Option Pt):AV:=.tup [.agg (ptL (o.getD ⟨0,mR⟩)),vB o.isSome]
theorem Lg(s:Sp)(hs:s.ok):bV C0 106 [.agg (spL s)] (abJ (gG s)):=by
 refine bV.intro c0Ok Tryz.func106 rfl rfl (by kernel_rfl) rfl<|cSR<|rAl 0 rfl rfl<|rAl 1 rfl rfl<|oR 1 rfl<|rE 3<|bI<|cSR<|oR 4 rfl<|gN rfl<|gS rfl id<|gBS (x:=vB (s.halt != 0)) rfl id rfl<|cL rfl rfl rfl (by simp)<|oR 1 rfl ?_;refine gN rfl<|gS rfl id<|gBS (x:=vB (s.size != 1)) rfl id rfl<|gS rfl id<|gN rfl<|gS rfl id<|gBS (x:=vB (s.size != 2)) rfl id rfl<|tW (x:=vB (cJ (s.size != 1) (s.size != 2) false)) (g:= !(cJ (!s.store) true (s.halt != 0))) rfl rfl rfl rfl (λ h=>h) rfl rfl (λ hg hc=>by first|(rw[hg,hc];rfl)|simp_all)<|gS rfl id<|gN rfl<|gS rfl id<|gBS (x:=vB (s.size != 4)) rfl id rfl<|tW (x:=vB (cJ (cJ (s.size != 1) (s.size != 2) false) (s.size != 4) false)) (g:= !(cJ (!s.store) true (s.halt != 0))) rfl rfl rfl rfl (λ h=>h) rfl rfl (λ hg hc=>by first|(rw[hg,hc];rfl)|simp_all)<|cL rfl rfl rfl (by simp)<|rE 26 ?_;refine aQ rfl (λ h1=>?_) (λ h1=>?_)
 ·have hA:s.store=false∨s.halt≠0∨(s.size≠1∧s.size≠2∧s.size≠4):=by have z:=h1;simp only[qI,cOr,aK,dM,aZ,qA,qD,qP,dL,kG,iC,mL,ne_eq,and_imp]at z;rcases z with (z|z)|z<;>simp_all
  refine cSR<|rV (.agg [.v (.int .u32 0),.v (.string (⟨#[]⟩:ByteArray))]) rfl<|rSt rfl<|oR 1 rfl<|rE 29<|cM ?_;rw[show gG s=none from by unfold gG;rw[if_pos hA]];exact fT rfl rfl
 ·have hA: ¬ (s.store=false∨s.halt≠0∨(s.size≠1∧s.size≠2∧s.size≠4)):=by have z:=h1;intro q;rcases q with q|q|⟨q1,q2,q3⟩<;>simp_all[qI,cOr]
  have hz:s.size=1∨s.size=2∨s.size=4:=by omega
  obtain⟨n,hn⟩:∃ n:Nat,s.size=(n:Int):=⟨s.size.toNat,by omega⟩;have hn4:n≤4:=by omega
  refine aY<|cSR<|oR 4 rfl<|rCl (x:=.tup [.v (.string (sL s.value n)),vI 0]) rfl (.inl rfl) ((by rw[hn];exact Qv s.value n (BX hs.value) hn4))<|oR 5 rfl<|rE 36<|cSR<|oR 3 rfl<|rV (.agg [vU s.addr,.v (.string (sL s.value n))]) rfl<|rSt rfl<|oR 1 rfl<|rE 42<|cM ?_;rw[show gG s=some ⟨s.addr,sL s.value n⟩from by unfold gG;rw[if_neg hA,hn];rfl];exact fT rfl rfl
theorem PZ(k:Int):(if (0:Int)>k then 0 else k)=(((max k 0).toNat:Nat):Int):=by split<;>omega
theorem Jy(c:Cf):(bC c).lat.length≤64:=by unfold bC;simp;omega
theorem Gk(c:Cf):(bC c).tape.length≤64:=by unfold bC;simp;omega
theorem DC{c:Cf}(h:∀ x∈c.tape,x≤4294967295):∀ x∈(bC c).tape,x≤4294967295:=λ x hx=>h x (cS hx)
theorem Qa{c:Cf}{k:Int}{x:Int}(h: ¬ (bC c).lat.length=0)(hx:(bC c).lat[(max k 0).toNat % (bC c).lat.length]?=some x):x=lJ c k:=by
 unfold lJ;generalize (bC c).lat=l at h hx
 cases l with
 |nil=>exact absurd rfl h
 |cons y l=>simp only[bN,hx];rfl
theorem NQ{c:Cf}{k:Int}{x pc:Nat}(h: ¬ (bC c).tape.length=0)(hx:(bC c).tape[(max k 0).toNat % (bC c).tape.length]?=some x):x=xQ c k pc:=by
 unfold xQ;generalize (bC c).tape=l at h hx
 cases l with
 |nil=>exact absurd rfl h
 |cons y l=>simp only[bN,hx];rfl
theorem EA(c:Cf)(k:Int)(hok:c.ok)(hk:k≤9223372036854775807):bV C0 156 [.agg (cfL c false false),vI k] (vI (lJ c k)):=by
 refine bV.intro c0Ok Tryz.func156 rfl rfl (by kernel_rfl) rfl<|cSR<|rAl 0 rfl rfl<|oR 1 rfl<|rE 2<|cSR<|oR 1 rfl<|rCi rfl (Ib c false false hok)<|oR 2 rfl<|rE 6<|bI<|cSR<|oR 1 rfl ?_;refine rW (vN (((bC c).lat).length)) rfl (bJ fD ((bC c).lat))<|rW (vB ((((bC c).lat).length)==0)) rfl (okB (eqN _ _))<|rE 9 ?_;refine aQ rfl (λ h1=>?_) (λ h1=>?_)
 ·have h1p:=mO h1;refine cSR<|oR 1 rfl<|rE 10<|cM ?_;have hz:(bC c).lat=[]:=bB h1p;exact fT rfl (MA (by unfold lJ;rw[hz]))
 ·have h1p:=mP h1;have hml:=bG (max k 0).toNat (eY h1p);refine aY<|cSR<|oR 2 rfl<|rW (vN ((max k 0).toNat)) rfl (okI (PZ k))<|oR 1 rfl<|rW (vN (((bC c).lat).length)) rfl (bJ fD ((bC c).lat)) ?_;have b1:((max k 0).toNat) % (((bC c).lat).length)≤9223372036854775807:=aN (oH _ _) omT;refine nW (vN (((max k 0).toNat) % (((bC c).lat).length))) rfl (Ky (Yr _ _)) omT ?_;obtain⟨x1,hx1⟩:∃ x,((bC c).lat)[(((max k 0).toNat) % (((bC c).lat).length))]?=some x:=⟨_,aA omT⟩;refine rIx (fD x1) (.dp 1 0 (fD x1)) rfl rfl (fM hx1) rfl<|oR 2 rfl<|rE 18<|cM ?_;exact fT rfl (MA (Qa h1p hx1))
theorem Qb(c:Cf)(k:Int)(pc:Nat)(hok:c.ok)(hk:k≤9223372036854775807)(hpc:pc≤4294967295):bV C0 173 [.agg (cfL c false false),vI k,vU pc] (vU (xQ c k pc)):=by
 refine bV.intro c0Ok Tryz.func173 rfl rfl (by kernel_rfl) rfl<|cSR<|rAl 0 rfl rfl<|oR 1 rfl<|rE 2<|cSR<|oR 1 rfl<|rCi rfl (Ib c false false hok)<|oR 2 rfl<|rE 6<|bI<|cSR<|oR 1 rfl ?_;refine rW (vN (((bC c).tape).length)) rfl (bJ dI ((bC c).tape))<|rW (vB ((((bC c).tape).length)==0)) rfl (okB (eqN _ _))<|rE 9 ?_;refine aQ rfl (λ h1=>?_) (λ h1=>?_)
 ·have h1p:=mO h1;refine cSR<|oR 1 rfl ?_;have b1:(pc+4) % 4294967296≤4294967295:=aT (bG _ (by decide));refine rV (vU ((pc+4) % 4294967296)) rfl<|oR 1 rfl<|rE 12<|cM ?_;have hz:(bC c).tape=[]:=bB h1p;exact fT rfl (Gp (by unfold xQ;rw[hz];rfl))
 ·have h1p:=mP h1;have hml:=bG (max k 0).toNat (eY h1p);refine aY<|cSR<|oR 2 rfl<|rW (vN ((max k 0).toNat)) rfl (okI (PZ k))<|oR 1 rfl<|rW (vN (((bC c).tape).length)) rfl (bJ dI ((bC c).tape)) ?_;have b2:((max k 0).toNat) % (((bC c).tape).length)≤9223372036854775807:=aN (oH _ _) omT;refine nW (vN (((max k 0).toNat) % (((bC c).tape).length))) rfl (Ky (Yr _ _)) omT ?_;obtain⟨x1,hx1⟩:∃ x,((bC c).tape)[(((max k 0).toNat) % (((bC c).tape).length))]?=some x:=⟨_,aA omT⟩;have hx1o:=(DC hok.tp) x1 (aB hx1);refine rIx (dI x1) (.dp 1 0 (dI x1)) rfl rfl (fM hx1) rfl<|oR 2 rfl<|rE 18<|cM ?_;exact fT rfl (Gp (NQ h1p hx1))
theorem yK(n lo hi:Int):bV C0 83 [vI n,vI lo,vI hi] (vB (inI n lo hi)):=by
 refine bV.intro c0Ok Tryz.func83 rfl rfl (by kernel_rfl) rfl<|cSR<|oR 1 rfl<|rE 1<|cSR<|oR 2 rfl<|rV (vB (decide (n≥lo))) rfl<|oR 1 rfl<|gN rfl<|gN rfl<|gBS (x:=vB (decide (n≤hi))) rfl hsT rfl<|cL rfl rfl rfl (λ h=>h)<|oR 1 rfl<|rE 10 ?_;refine cM ?_;exact fT rfl (dH (by rw[bY];simp[qI,cOr,inI]))
structure Cf.okW(c:Cf):Prop where
 lat:c.lat.length≤9223372036854775807
 tape:c.tape.length≤9223372036854775807
 tp:∀ x∈c.tape,x≤4294967295
theorem DD{α:Type}{p:α→Bool}{l:List α}{k:Nat}{x:α}(hx:l[k]?=some x)(hp:p x=true)(h:(l.take k).all p=true):(l.take (k+1)).all p=true:=by
 rw[bS,hx,List.all_append,h];simpa using hp
theorem HC{α:Type}{p:α→Bool}{l:List α}{k:Nat}{x:α}(hx:l[k]?=some x)(hp:p x=false):l.all p=false:=by
 rw[List.all_eq_false];exact⟨x,aB hx,by simp[hp]⟩
theorem DE{α:Type}{p:α→Bool}{l:List α}{k:Nat}(hk:l.length≤k)(h:(l.take k).all p=true):l.all p=true:=by rwa [aI hk]at h
theorem SZ(c:Cf)(hok:c.okW):bV C0 46 [.agg (cfL c false false)] (vB (tK c)):=by
 refine bV.intro c0Ok Tryz.func46 rfl rfl (by kernel_rfl) rfl<|cSR<|rAl 0 rfl rfl<|oR 1 rfl<|rE 2<|cSR<|oR 1 rfl<|rE 3<|bI<|cSR<|oR 2 rfl<|rW (vN c.lat.length) rfl (bJ fD c.lat)<|oR 1 rfl ?_;refine rE 7<|bE<|jG (κ:=Nat) (λ k=>⟨slotsF [(1,.ptr 0 0),(3,.clo 83 [] []),(7,.sl 1 (c.lat.map fD) false),(8,vN c.lat.length),(9,vN k)],heapF [(0,.box [vI c.mode,vI c.width,vI c.rob,vI c.queue,vI c.stores,vI c.slots,vI c.sets,vI c.ways,.sl 1 (c.lat.map fD) false,vB c.tables,.sl 1 (c.tape.map dI) false])],7⟩) (λ k=>k≤c.lat.length∧(c.lat.take k).all (λ n=>inI n 1 8)=true) (λ k=>c.lat.length - k) 0 (λ s=>s) (Weak.of_lists (λ s=>s) wT wH rfl) (⟨aE _,rfl⟩) ?_;intro k hk;have hkn:k≤c.lat.length:=hk.1;have hkB:k≤9223372036854775807:=by have:=hok.lat;omega
 have hlat:=hok.lat;refine cSR<|rW (vB (decide (k<c.lat.length))) rfl (okB (ltN _ _))<|rE 8<|bI ?_;refine aQ rfl (λ h1=>?_) (λ h1=>?_)
 ·have h1p:=of_decide_eq_true h1;refine aY<|bI<|bE<|cSR ?_;obtain⟨x,hx⟩:∃ x,c.lat[k]?=some x:=⟨_,aA omT⟩;refine rIx (fD x) (.dp 1 0 (fD x)) rfl rfl (fM hx) rfl<|oR 2 rfl<|rE 11<|cSR<|oR 2 rfl<|rCi rfl (yK x 1 8)<|oR 1 rfl<|rE 15 ?_;refine aQ rfl (λ h2=>?_) (λ h2=>?_)
  ·refine cSR<|oR 1 rfl<|rE 16<|cM ?_;have z:=h2;exact fT rfl (dH (by unfold tK;rw[HC hx (by simpa using z)];simp))
  ·refine aY<|cRg ?_;have b1:k+1≤9223372036854775807:=by omega
   refine rW (vN (k+1)) rfl (okI (bL (show k+1≤9223372036854775807 by omega) rfl))<|oR 1 rfl<|rE 17 ?_;refine⟨k+1,λ s=>s,Weak.of_lists _ wT wH rfl,⟨by omega,DD hx (by simpa using h2) hk.2⟩,by show c.lat.length - (k+1)<c.lat.length - k;omega⟩
 ·have h1p:=aD h1;refine dR<|cSR<|oR 3 rfl<|rCi rfl (yK c.mode 0 2)<|oR 1 rfl<|gN rfl<|gN rfl<|gS rfl id<|gT (args:=[vI c.width,vI 1,vI 2]) (x:=vB (inI c.width 1 2)) (g:=inI c.mode 0 2) rfl rfl rfl rfl hsT rfl rfl rfl (.inl rfl) rfl (λ hg=>yK c.width 1 2)<|cL rfl rfl rfl (λ h=>h)<|oR 1 rfl<|gN rfl<|gN rfl<|gS rfl id<|gT (args:=[vI c.rob,vI 2,vI 8]) (x:=vB (inI c.rob 2 8)) (g:=cJ (inI c.mode 0 2) (inI c.width 1 2) false) rfl rfl rfl rfl hsT rfl rfl rfl (.inl rfl) rfl (λ hg=>yK c.rob 2 8) ?_;refine cL rfl rfl rfl (λ h=>h)<|oR 1 rfl<|gN rfl<|gN rfl<|gS rfl id<|gT (args:=[vI c.queue,vI 1,vI 4]) (x:=vB (inI c.queue 1 4)) (g:=cJ (cJ (inI c.mode 0 2) (inI c.width 1 2) false) (inI c.rob 2 8) false) rfl rfl rfl rfl hsT rfl rfl rfl (.inl rfl) rfl (λ hg=>yK c.queue 1 4)<|cL rfl rfl rfl (λ h=>h)<|oR 1 rfl<|gN rfl<|gN rfl<|gS rfl id<|gT (args:=[vI c.stores,vI 1,vI 4]) (x:=vB (inI c.stores 1 4)) (g:=cJ (cJ (cJ (inI c.mode 0 2) (inI c.width 1 2) false) (inI c.rob 2 8) false) (inI c.queue 1 4) false) rfl rfl rfl rfl hsT rfl rfl rfl (.inl rfl) rfl (λ hg=>yK c.stores 1 4)<|cL rfl rfl rfl (λ h=>h)<|oR 1 rfl<|gN rfl<|gN rfl ?_;refine gS rfl id<|gT (args:=[vI c.slots,vI 2,vI 6]) (x:=vB (inI c.slots 2 6)) (g:=cJ (cJ (cJ (cJ (inI c.mode 0 2) (inI c.width 1 2) false) (inI c.rob 2 8) false) (inI c.queue 1 4) false) (inI c.stores 1 4) false) rfl rfl rfl rfl hsT rfl rfl rfl (.inl rfl) rfl (λ hg=>yK c.slots 2 6)<|cL rfl rfl rfl (λ h=>h)<|oR 1 rfl<|gN rfl<|gN rfl<|gS rfl id<|gT (args:=[vI c.sets,vI 1,vI 4]) (x:=vB (inI c.sets 1 4)) (g:=cJ (cJ (cJ (cJ (cJ (inI c.mode 0 2) (inI c.width 1 2) false) (inI c.rob 2 8) false) (inI c.queue 1 4) false) (inI c.stores 1 4) false) (inI c.slots 2 6) false) rfl rfl rfl rfl hsT rfl rfl rfl (.inl rfl) rfl (λ hg=>yK c.sets 1 4)<|cL rfl rfl rfl (λ h=>h)<|oR 1 rfl<|gN rfl<|gS rfl id<|gBS (x:=vB (c.sets != 3)) rfl id rfl<|cL rfl rfl rfl (λ h=>h)<|oR 1 rfl<|gN rfl ?_;refine gN rfl<|gS rfl id<|gT (args:=[vI c.ways,vI 1,vI 2]) (x:=vB (inI c.ways 1 2)) (g:=cJ (cJ (cJ (cJ (cJ (cJ (cJ (inI c.mode 0 2) (inI c.width 1 2) false) (inI c.rob 2 8) false) (inI c.queue 1 4) false) (inI c.stores 1 4) false) (inI c.slots 2 6) false) (inI c.sets 1 4) false) (c.sets != 3) false) rfl rfl rfl rfl hsT rfl rfl rfl (.inl rfl) rfl (λ hg=>yK c.ways 1 2)<|cL rfl rfl rfl (λ h=>h)<|oR 1 rfl<|gN rfl<|gS rfl id<|gBS (x:=vN c.lat.length) rfl id (bJ fD c.lat)<|gBS (x:=vB (decide (c.lat.length≤64))) rfl id (okB (leN _ _))<|cL rfl rfl rfl (λ h=>h)<|oR 1 rfl<|gN rfl<|gS rfl id<|gBS (x:=vN c.tape.length) rfl id (bJ dI c.tape)<|gBS (x:=vB (decide (c.tape.length≤64))) rfl id (okB (leN _ _))<|cL rfl rfl rfl (λ h=>h) ?_;refine oR 1 rfl<|rE 72<|cM ?_;have hall:=DE (p:=λ n=>inI n 1 8) omT hk.2;exact fT rfl (dH (by unfold tK;rw[hall,bY];simp[qI,uE]))
theorem Yo(c:Ca)(f:Cf)(hok:c.ok):bV C0 48 [.agg (caL c false),.agg (cfL f false false)] (vB (wL c f)):=by
 refine bV.intro c0Ok Tryz.func48 rfl rfl (by kernel_rfl) rfl<|cSR<|rAl 0 rfl rfl<|rAl 1 rfl rfl<|oR 1 rfl<|rE 3<|cSR<|oR 1 rfl<|rCi rfl (AA c false hok)<|oR 1 rfl<|gN rfl<|gS rfl id<|gBS (x:=vN c.sets.length) rfl id (bJ bA c.sets)<|gN rfl ?_;refine gS rfl id<|gBS (x:=vB (((c.sets.length:Nat):Int)==f.sets)) rfl hsT rfl<|cL rfl rfl rfl (λ h=>h)<|oR 1 rfl<|gN rfl<|gS rfl id<|gN rfl<|gS rfl id<|gBS (x:=vB (c.ways==f.ways)) rfl hsT rfl<|cL rfl rfl rfl (λ h=>h)<|oR 1 rfl<|rE 21<|cM ?_;exact fT rfl (dH (by rw[bY];simp[qI,cOr,wL]))
abbrev brA(t:Ca×List Req×Bool):AV:=.tup [.agg (caL t.1 false),.sl 4 (t.2.1.map rqL) false,vB t.2.2]
abbrev dnA(t:List Pt×Ca×Bool):AV:=.tup [.sl 2 (t.1.map ptL) false,.agg (caL t.2.1 false),vB t.2.2]
theorem Gl{c:Ca}(hok:c.ok)(line:Nat)(d:ByteArray)(b:Bool):(pH c line d b).2.1.line≤4294967295:=by
 by_cases hR:fI c=true
 ·by_cases hF:(bF c line).2.isSome=true
  ·rw[BU hF];exact aE _
  ·rw[uW hR (by simpa using hF)];split
   ·show ((pM c (bF c line).1).getLast?.getD pY).line≤_
    cases hl:(pM c (bF c line).1).getLast? with
    |none=>exact aE _
    |some w=>
     have hw:=List.mem_of_getLast? hl;have hk:(bF c line).1<c.sets.length:=by rw[rK hR];exact Aw (kH hR).1 _
     rw[sI (aA hk)]at hw;exact ((hok.set _ (lM hk)).2 w hw).line
   ·exact aE _
 ·rw[My (by simpa using hR)];exact aE _
theorem Mt(c:Ca)(q:List Req)(m:ByteArray)(line:Nat)(left:Int)(hok:c.ok)(hq:q.length≤900000)(ho:∀ x∈q,x.ok)(hm:m.size≤1000000)(hline:line≤4294967295):bV C0 155 [.agg (caL c false),.sl 4 (q.map rqL) false,.v (.string m),vU line,vI left] (brA (iA c q m line left)):=by
 refine dc1 (bV.intro c1Ok Tryz.func155 rfl rfl (by kernel_rfl) rfl ?_);refine cSR<|rAl 0 rfl rfl<|rAl 1 rfl rfl<|oR 2 rfl<|rE 4<|bI<|cSR<|oR 1 rfl<|rCi rfl (AA c false hok)<|oR 1 rfl<|rE 7 ?_;refine aQ rfl (λ h1=>?_) (λ h1=>?_)
 ·refine cSR<|oR 2 rfl<|rSt rfl<|oR 2 rfl<|rE 12<|cM ?_;rw[show iA c q m line left=(c,q,false)from by unfold iA;rw[if_pos (by simpa using h1)]];exact fT rfl rfl
 ·refine aY<|cSR<|oR 1 rfl<|rCi rfl (qZ line hline)<|oR 1 rfl<|rE 10<|bI<|cSR<|oR 2 rfl<|rCi rfl (yL c (lineOf line) hok (dJ hline))<|oR 7 rfl<|rE 20<|cSR ?_;refine oR 1 rfl<|rE 21 ?_;refine aQ rfl (λ h2=>?_) (λ h2=>?_)
  ·refine cSR<|oR 2 rfl<|rCi rfl (HG c (lineOf line) hok (dJ hline))<|oR 1 rfl<|rSt rfl<|oR 2 rfl<|rE 28<|cM ?_;rw[show iA c q m line left=(oT c (lineOf line),q,false)from by unfold iA;rw[if_neg (by simpa using h1),if_pos h2]];exact fT rfl rfl
  ·refine aY<|cSR<|oR 4 rfl<|rCi rfl (Qf q m false hm hq ho)<|oR 1 rfl<|rCi rfl (ZO (jQ q m) (lineOf line) (by unfold jQ;rw[iB];exact hm) (dJ hline))<|rCi rfl (Qi c (lineOf line) (Fj (jQ q m) (lineOf line)) false hok (dJ hline))<|oR 4 rfl<|rAl 33 rfl rfl<|rSt rfl<|rSt rfl<|oR 1 rfl<|rE 37<|bI<|bI ?_;refine cRg<|oR 2 rfl<|gN rfl<|gS rfl id<|cL rfl rfl rfl (λ h=>h)<|oR 1 rfl<|gN rfl<|gS rfl id<|gBS (x:=vB (!(((pH c (lineOf line) (Fj (jQ q m) (lineOf line)) false).2.1.data).toList==(⟨#[]⟩:ByteArray).toList))) rfl id rfl<|cL rfl rfl rfl (λ h=>h)<|rE 47 ?_;refine aQ rfl (λ h3=>?_) (λ h3=>?_)
   ·have hq4:((pH c (lineOf line) (Fj (jQ q m) (lineOf line)) false).2.2=true∧(pH c (lineOf line) (Fj (jQ q m) (lineOf line)) false).2.1.dirty=true∧(pH c (lineOf line) (Fj (jQ q m) (lineOf line)) false).2.1.data.size≠0):=by have z:=h3;rw[AK]at z;simpa [qI,uE]using z
    refine cSR<|oR 7 rfl<|rCi rfl (Mx q 4 (pH c (lineOf line) (Fj (jQ q m) (lineOf line)) false).2.1.line left (pH c (lineOf line) (Fj (jQ q m) (lineOf line)) false).2.1.data false hq ho (Gl hok _ _ _))<|rSt rfl<|oR 2 rfl<|rE 58<|cM ?_;rw[show iA c q m line left=((pH c (lineOf line) (Fj (jQ q m) (lineOf line)) false).1,zG q 4 (pH c (lineOf line) (Fj (jQ q m) (lineOf line)) false).2.1.line left (pH c (lineOf line) (Fj (jQ q m) (lineOf line)) false).2.1.data,true)from by unfold iA;rw[if_neg (by simpa using h1),if_neg (by rw[h2];decide)];exact if_pos hq4];exact fT rfl rfl
   ·have hq4: ¬ ((pH c (lineOf line) (Fj (jQ q m) (lineOf line)) false).2.2=true∧(pH c (lineOf line) (Fj (jQ q m) (lineOf line)) false).2.1.dirty=true∧(pH c (lineOf line) (Fj (jQ q m) (lineOf line)) false).2.1.data.size≠0):=by have z:=h3;rw[AK]at z;simpa [qI,uE]using z
    refine aY<|cSR<|oR 2 rfl<|rSt rfl<|oR 2 rfl<|rE 52<|cM ?_;rw[show iA c q m line left=((pH c (lineOf line) (Fj (jQ q m) (lineOf line)) false).1,q,false)from by unfold iA;rw[if_neg (by simpa using h1),if_neg (by rw[h2];decide)];exact if_neg hq4];exact fT rfl rfl
theorem Yp(l:List Pt)(c:Ca)(hok:c.ok)(hl:l.length≤1000000)(ho:∀ x∈l,x.ok):bV C0 120 [.sl 2 (l.map ptL) false,.agg (caL c false)] (dnA (nU l c)):=by
 refine dc1 (bV.intro c1Ok Tryz.func120 rfl rfl (by kernel_rfl) rfl ?_);refine cSR<|rAl 0 rfl rfl<|oR 1 rfl<|rAl 2 rfl rfl<|oR 1 rfl<|rE 4<|bI<|cSR<|oR 1 rfl<|rW (vN l.length) rfl (bJ ptL l)<|rW (vB (l.length==0)) rfl (okB (eqN _ _))<|rE 7 ?_;refine aQ rfl (λ h1=>?_) (λ h1=>?_)
 ·have h1p:=mO h1;refine bI<|AW rfl rfl<|oR 3 rfl<|rSt rfl<|oR 1 rfl<|rE 12<|And.intro (by kernel_rfl)<|cM ?_;have hz:l=[]:=bB h1p;subst hz;exact fT rfl rfl
 ·have h1p:=mP h1;refine aY<|cSR<|oR 2 rfl ?_;obtain⟨p,hp⟩:∃ x,l[0]?=some x:=⟨_,aA omT⟩;have hpo:=ho p (aB hp);refine Fi (ptL p) (x:=.dp 2 0 (ptL p)) rfl rfl rfl (⟨by decide,fM hp⟩) rfl<|oR 3 rfl<|Fi (ptL p) (x:=.dp 2 0 (ptL p)) rfl rfl rfl (⟨by decide,fM hp⟩) rfl<|oR 2 rfl<|rCi rfl (Te c p.addr p.data hok hpo.addr)<|oR 3 rfl<|rAl 20 rfl rfl<|rSt rfl<|oR 1 rfl<|rE 23<|bI<|cSR<|oR 2 rfl<|rE 25 ?_;refine aQ rfl (λ h2=>?_) (λ h2=>?_)
  ·refine bI<|AW rfl rfl<|oR 3 rfl<|rSt rfl<|oR 1 rfl<|rE 30<|And.intro (by kernel_rfl)<|cM ?_;rw[show nU l c=(l,c,false)from by unfold nU;cases l with|nil=>cases hp|cons y l=>injection hp with hp;subst hp;exact if_neg (by simpa using h2)];exact fT rfl rfl
  ·refine aY<|bI<|AW rfl rfl<|oR 1 rfl ?_;refine nW (.sl 2 ((l.drop 1).map ptL) false) rfl (uI (JD ptL l 1)) slT ?_;refine oR 2 rfl<|rSt rfl<|oR 1 rfl<|rE 31<|And.intro (by kernel_rfl)<|cM ?_;rw[show nU l c=(l.drop 1,(tL c p.addr p.data).1,true)from by unfold nU;cases l with|nil=>cases hp|cons y l=>injection hp with hp;subst hp;exact if_pos (by simpa using h2)];exact fT rfl rfl
structure Gu.ok(g:Gu):Prop where
 slots:g.slots.length≤9223372036854775807
 rets:g.rets.length≤9223372036854775807
 hist:g.hist≤4294967295
 so:∀ x∈g.slots,x.ok
 ro:∀ x∈g.rets,x≤4294967295
theorem WO{g:Gu}:sK g=true↔g.slots.length=8∧g.hist<8∧g.rets.length≤4:=by
 unfold sK;simp only[aK,aZ,uE]
theorem YK{r:Bool}{k:Nat}(h:cJ (!r) true (k != 5)=false):r=true∧k=5:=by
 cases r<;>simp[cJ]at h⊢;exact h
theorem UV{r:Bool}{k:Nat}(h:cJ (!r) true (k != 5)=true): ¬ (r=true∧k=5):=by
 cases r<;>simp[cJ]at h⊢;exact h
theorem TH{l:List Nat}{x:Nat}(h:l[l.length - 1]?=some x):l.getLast?.getD 0=x:=by rw[kQ,h];rfl
theorem Im(g:Gu)(hok:g.ok):bV C0 49 [.agg (guL g)] (vB (sK g)):=by
 refine bV.intro c0Ok Tryz.func49 rfl rfl (by kernel_rfl) rfl<|cSR<|rAl 0 rfl rfl<|oR 1 rfl<|rE 2<|cSR<|oR 2 rfl<|rW (vN g.slots.length) rfl (bJ gsL g.slots)<|rW (vB (g.slots.length==8)) rfl (okB (eqN _ _))<|oR 1 rfl<|gN rfl<|gS rfl id<|gBS (x:=vB (decide (g.hist<8))) rfl id (okB (ltN _ _))<|cL rfl rfl rfl (λ h=>h) ?_;refine oR 1 rfl<|gN rfl<|gS rfl id<|gBS (x:=vN g.rets.length) rfl id (bJ dI g.rets)<|gBS (x:=vB (decide (g.rets.length≤4))) rfl id (okB (leN _ _))<|cL rfl rfl rfl (λ h=>h)<|oR 1 rfl<|rE 18<|cM ?_;exact fT rfl (dH (by rw[bY];simp[qI,cOr,sK]))
theorem QN(g:Gu)(pc:Nat)(hok:g.ok)(hpc:pc≤4294967295):bV C0 160 [.agg (guL g),vU pc] (vN (gO g pc)):=by
 refine bV.intro c0Ok Tryz.func160 rfl rfl (by kernel_rfl) rfl<|cSR<|rAl 0 rfl rfl<|oR 1 rfl<|rE 2<|cSR<|oR 1 rfl ?_;have b1:pc / 4≤1073741823:=kU hpc;refine nW (vU (pc / 4)) rfl (Ky (IG b1 rfl)) (by decide)<|oR 2 rfl ?_;have b2:(pc / 4) ^^^ g.hist≤4294967295:=OE b1 hok.hist rfl rfl;refine rW (vU ((pc / 4) ^^^ g.hist)) rfl (okI (XC b1 hok.hist rfl rfl)) ?_;have b3:((pc / 4) ^^^ g.hist) % 8≤7:=aT (bG _ (by decide));refine nW (vU (((pc / 4) ^^^ g.hist) % 8)) rfl rfl (by decide)<|rW (vN (((pc / 4) ^^^ g.hist) % 8)) rfl (okI (bL b3 rfl))<|oR 1 rfl<|rE 10<|cM ?_;exact fT rfl (Zk rfl)
theorem JR(g:Gu)(pc:Nat):gO g pc≤7:=by unfold gO;omega
theorem QO(i:SI)(hi:i.imm≤4294967295):bV C0 161 [siA i] (vB (Qs i)):=by
 refine bV.intro c0Ok Tryz.func161 rfl rfl (by kernel_rfl) rfl<|cSR<|rAl 0 rfl rfl<|oR 1 rfl<|rE 2<|cSR<|oR 2 rfl<|rV (vB (i.op==3)) rfl<|oR 1 rfl<|gN rfl<|gS rfl id<|gBS (x:=vB (i.op==4)) rfl id rfl<|cL rfl rfl rfl (by simp)<|oR 1 rfl ?_;refine gN rfl<|gS rfl id<|gBS (x:=vB (i.rd==1)) rfl id rfl<|cL rfl rfl rfl (λ h=>h)<|oR 1 rfl<|rE 16<|cM ?_;exact fT rfl (dH (by rw[bY];simp[qI,cOr,Qs]))
theorem QP(i:SI)(hi:i.imm≤4294967295):bV C0 162 [siA i] (vB (FB i)):=by
 refine bV.intro c0Ok Tryz.func162 rfl rfl (by kernel_rfl) rfl<|cSR<|rAl 0 rfl rfl<|oR 1 rfl<|rE 2<|cSR<|oR 2 rfl<|rV (vB (i.op==4)) rfl<|oR 1 rfl<|gN rfl<|gS rfl id<|gBS (x:=vB (i.rd==0)) rfl id rfl<|cL rfl rfl rfl (λ h=>h)<|oR 1 rfl ?_;refine gN rfl<|gS rfl id<|gBS (x:=vB (i.rs1==1)) rfl id rfl<|cL rfl rfl rfl (λ h=>h)<|oR 1 rfl<|rE 16<|cM ?_;exact fT rfl (dH (by rw[bY];simp[qI,cOr,FB]))
theorem QQ(g:Gu)(pc:Nat)(i:SI)(hok:g.ok)(hpc:pc≤4294967295)(hi:i.imm≤4294967295):bV C0 172 [.agg (guL g),vU pc,siA i] (vU (wO g pc i)):=by
 refine dc1 (bV.intro c1Ok Tryz.func172 rfl rfl (by kernel_rfl) rfl ?_);refine cSR<|rAl 0 rfl rfl<|rAl 1 rfl rfl<|oR 1 rfl<|rE 3<|bI<|cSR<|oR 1 rfl<|rCi rfl (Im g hok)<|oR 2 rfl<|gN rfl<|gT (args:=[.agg [vI i.op,vI i.rd,vI i.rs1,vI i.rs2,vU i.imm]]) (x:=vN (kindOf i.op)) (g:= !(!(sK g))) rfl rfl rfl rfl (λ h=>h) rfl rfl rfl (.inl rfl) rfl (λ hg=>rA i)<|gBS (x:=vB ((kindOf i.op) != 5)) rfl id (okB (neN _ _))<|cL rfl rfl rfl (by simp) ?_;refine rE 11 ?_;refine aQ rfl (λ h1=>?_) (λ h1=>?_)
 ·have hN:=UV h1;refine cSR<|oR 1 rfl ?_;have b1:(pc+4) % 4294967296≤4294967295:=aT (bG _ (by decide));refine rV (vU ((pc+4) % 4294967296)) rfl<|oR 1 rfl<|rE 14<|cM ?_;exact fT rfl (Gp (by unfold wO;rw[if_neg hN];rfl))
 ·have hR:=YK h1;have hR1:=WO.1 hR.1;have hR2:=hR1.1;have hS:=JR g pc;have hR3:=hR1.2.2;refine aY<|bI<|cSR<|oR 2 rfl<|rW (vN g.rets.length) rfl (bJ dI g.rets)<|oR 1 rfl<|rE 15<|cSR<|oR 1 rfl<|rCi rfl (QP i hi)<|oR 1 rfl<|gN rfl<|gBS (x:=vB (decide (g.rets.length>0))) rfl id (okB (gtN _ _))<|cL rfl rfl rfl (λ h=>h) ?_;refine rE 21 ?_;refine aQ rfl (λ h2=>?_) (λ h2=>?_)
  ·have hB:FB i=true∧0<g.rets.length:=by simpa [qI]using h2
   have hB2:=hB.2;refine cSR<|oR 3 rfl ?_;have b2:g.rets.length - 1≤9223372036854775807:=aN (jA _ _) hok.rets;refine rW (vN (g.rets.length - 1)) rfl (okI (BW omT hok.rets rfl)) ?_;obtain⟨rx,hrx⟩:∃ x,g.rets[(g.rets.length - 1)]?=some x:=⟨_,aA omT⟩;have hrxo:=hok.ro rx (aB hrx);refine rIx (dI rx) (.dp 1 0 (dI rx)) rfl rfl (fM hrx) rfl<|oR 2 rfl<|rE 28<|cM ?_;exact fT rfl (Gp (by unfold wO;rw[if_pos hR,if_pos hB,TH hrx]))
  ·have hB: ¬ (FB i=true∧0<g.rets.length):=by simpa [qI]using h2
   refine aY<|cSR<|oR 4 rfl<|rCi rfl (QN g pc hok hpc) ?_;obtain⟨sx,hsx⟩:∃ x,g.slots[(gO g pc)]?=some x:=⟨_,aA omT⟩;have hsxo:=hok.so sx (aB hsx);refine rIx (gsL sx) (.dp 2 0 (gsL sx)) rfl rfl (fM hsx) rfl<|oR 1 rfl<|rAl 28 rfl rfl<|rSt rfl<|rE 30<|bI<|cSR<|oR 3 rfl<|rW (vB (sx.pc==pc)) rfl (okB (eqN _ _))<|oR 1 rfl<|gN rfl<|gB (x:=.agg [.v (.int .u32 0),.v (.int .u32 0)]) rfl rfl<|gBS (x:=vB (!((((sx.pc:Nat):Int)==0)&&((((sx.next:Nat):Int)==0)&&true)))) rfl hsT rfl<|cL rfl rfl rfl (λ h=>h)<|rE 39 ?_;refine aQ rfl (λ h3=>?_) (λ h3=>?_)
   ·refine cSR<|oR 3 rfl<|rE 42<|cM ?_;exact fT rfl (Gp (by unfold wO;rw[if_pos hR,if_neg hB];have z:=h3;simp[qI]at z;simp[hsx,up4,z]<;>(intros;simp_all)))
   ·refine aY<|cSR<|oR 1 rfl ?_;have b3:(pc+4) % 4294967296≤4294967295:=aT (bG _ (by decide));refine rV (vU ((pc+4) % 4294967296)) rfl<|oR 1 rfl<|rE 42<|cM ?_;exact fT rfl (Gp (by unfold wO;rw[if_pos hR,if_neg hB];have z:=h3;simp[qI]at z;simp[hsx,up4,z]<;>(intros;simp_all)))
theorem uR(g:Gu)(pc next:Nat)(i:SI)(hok:g.ok)(hpc:pc≤4294967295)(hnext:next≤4294967295)(hi:i.imm≤4294967295):bV C0 108 [.agg (guL g),vU pc,vU next,siA i] (.agg (guL (gE g pc next i))):=by
 refine dc1 (bV.intro c1Ok Tryz.func108 rfl rfl (by kernel_rfl) rfl ?_);refine cSR<|rAl 0 rfl rfl<|rAl 1 rfl rfl<|rAl 2 rfl rfl<|rE 3<|bI<|cSR<|oR 1 rfl<|rCi rfl (Im g hok)<|oR 2 rfl<|gN rfl<|gT (args:=[.agg [vI i.op,vI i.rd,vI i.rs1,vI i.rs2,vU i.imm]]) (x:=vN (kindOf i.op)) (g:= !(!(sK g))) rfl rfl rfl rfl (λ h=>h) rfl rfl rfl (.inl rfl) rfl (λ hg=>rA i)<|gBS (x:=vB ((kindOf i.op) != 5)) rfl id (okB (neN _ _))<|cL rfl rfl rfl (by simp) ?_;refine rE 11 ?_;refine aQ rfl (λ h1=>?_) (λ h1=>?_)
 ·have hN:=UV h1;refine cSR<|oR 1 rfl<|rSt rfl<|rE 13<|cM<|eW rfl tvT rfl ?_;show AV.agg [.sl 2 (g.slots.map gsL) false,vU g.hist,.sl 1 (g.rets.map dI) false]=_;refine congrArg (λ z=>AV.agg (guL z)) (?_:g=gE g pc next i);unfold gE;rw[if_neg hN]
 ·have hR:=YK h1;have hR1:=WO.1 hR.1;have hR2:=hR1.1;have hS:=JR g pc;have hR3:=hR1.2.2;refine aY<|cSR<|rFx (x:=.osl 11 0 8 false) (h':=upd _ 11 (some (.arr ((List.replicate 8 (⟨0,0⟩:Gs)).map gsL) 2))) rfl rfl (NT (eK (f:=gsL) (a:=(⟨0,0⟩:Gs))).symm) (⟨by decide,by decide,by show ((8:Nat):Int)≤1000000;omega⟩)<|oR 1 rfl<|rE 13<|cSR<|oR 3 rfl<|rFx (x:=vI ((min ((g.slots.map gsL).length) (8):Nat):Int)) (h':=upd _ 11 (some (.arr (g.slots.map gsL) 2))) rfl rfl (Ia (DF gsL ((List.replicate 8 (⟨0,0⟩:Gs)).map gsL) g.slots omT omT)) (⟨by exact omT,trivial⟩)<|rE 17<|cSR<|oR 3 rfl<|rCi rfl (QN g pc hok hpc)<|oR 2 rfl ?_;refine rV (.agg [vU pc,vU next]) rfl<|nW (.ptr2 11 (0+(gO g pc)) 0) rfl rfl ixT ?_;obtain⟨sx,hsx⟩:∃ x,g.slots[(gO g pc)]?=some x:=⟨_,aA omT⟩;have hsxo:=hok.so sx (aB hsx);have hx1:(g.slots.set (gO g pc) (⟨pc,next⟩:Gs))[(gO g pc)]?=some (⟨pc,next⟩:Gs):=aR omT;refine nP (gsL sx) (h':=upd _ 11 (some (.arr ((g.slots.set (gO g pc) (⟨pc,next⟩:Gs)).map gsL) 2))) rfl rfl rfl (⟨aG _,Iz (fM hsx)⟩) (vP (f:=gsL) (l:=g.slots) (k:=(gO g pc)) (x:=(⟨pc,next⟩:Gs)))<|rE 26<|cSR<|oR 2 rfl ?_;have b1:(2 * g.hist) % 4294967296≤4294967295:=aT (bG _ (by decide));refine rV (vU ((2 * g.hist) % 4294967296)) rfl<|oR 1 rfl<|rE 30<|bI<|cSR<|oR 2 rfl ?_;have b2:(pc+4) % 4294967296≤4294967295:=aT (bG _ (by decide));refine rV (vU ((pc+4) % 4294967296)) rfl<|rW (vB (next != ((pc+4) % 4294967296))) rfl (okB (neN _ _))<|rE 34 ?_;refine aQ rfl (λ h2=>?_) (λ h2=>?_)
  ·have h2p:=wX h2;refine cRg<|oR 1 rfl ?_;have b3:(((2 * g.hist) % 4294967296)+1) % 4294967296≤4294967295:=aT (bG _ (by decide));refine rV (vU ((((2 * g.hist) % 4294967296)+1) % 4294967296)) rfl<|oR 1 rfl<|rE 37<|cSR<|rFx (x:=.osl 37 0 0 false) (h':=upd _ 37 (some (.arr (([]:List Nat).map dI) 1))) rfl rfl (rfl) (⟨by decide,by decide,by show ((5:Nat):Int)≤1000000;omega⟩)<|oR 1 rfl<|rE 39<|cSR<|oR 3 rfl<|rFx (x:=.osl 42 0 g.rets.length false) (h':=upd (upd _ 37 none) 42 (some (.arr (g.rets.map dI) 1))) rfl rfl (gV dI ([]:List Nat) g.rets omT omT) (⟨by exact omT,by exact omT,trivial⟩)<|oR 1 rfl<|rE 44<|bI<|bI ?_;refine cRg<|oR 1 rfl<|rV (vN g.rets.length) rfl<|oR 1 rfl<|rE 47<|bE<|cSR<|oR 1 rfl<|rCi rfl (QO i hi)<|oR 1 rfl<|rE 50 ?_;refine aQ rfl (λ h3=>?_) (λ h3=>?_)
   ·refine cSR<|oR 2 rfl ?_;have b4:(pc+4) % 4294967296≤4294967295:=aT (bG _ (by decide));refine rV (vU ((pc+4) % 4294967296)) rfl<|rV (.sl 1 ([[vU ((pc+4) % 4294967296)]]) true) rfl<|rFx (x:=.osl 54 0 (g.rets.length+1) false) (h':=upd (upd _ 42 none) 54 (some (.arr ((g.rets++([(pc+4) % 4294967296])).map dI) 1))) rfl rfl (gV dI g.rets ([(pc+4) % 4294967296]) omT omT) (⟨by exact omT,by exact omT,trivial⟩)<|oR 1 rfl<|rE 56<|cSR<|oR 1 rfl<|rV (vN (g.rets.length+1)) rfl<|rW (vB (decide ((g.rets.length+1)>4))) rfl (okB (gtN _ _))<|rE 59 ?_;refine aQ rfl (λ h4=>?_) (λ h4=>?_)
    ·have h4p:=of_decide_eq_true h4;refine cRg<|oR 1 rfl ?_;refine nW (.osl 54 1 (g.rets.length+1 - 1) false) rfl (Lh (by first|rfl|omega) (by simp only[Option.getD];omega)) slT ?_;refine oR 1 rfl<|rE 62<|cSR<|oR 2 rfl ?_;have b5:((((2 * g.hist) % 4294967296)+1) % 4294967296) % 8≤7:=aT (bG _ (by decide));refine nW (vU (((((2 * g.hist) % 4294967296)+1) % 4294967296) % 8)) rfl rfl (by decide)<|oR 1 rfl<|rV (.agg [.osl 11 0 8 false,vU (((((2 * g.hist) % 4294967296)+1) % 4294967296) % 8),.osl 54 1 (g.rets.length+1 - 1) false]) rfl<|rSt rfl<|rE 68<|cM<|eW rfl ⟨(by show 0+8≤((g.slots.set (gO g pc) (⟨pc,next⟩:Gs)).map gsL).length;exact omT),trivial,(by show 1+(g.rets.length+1 - 1)≤((g.rets++([(pc+4) % 4294967296])).map dI).length;exact omT),trivial⟩ rfl ?_;show AV.agg [.sl 2 (List.take 8 (List.drop 0 ((g.slots.set (gO g pc) (⟨pc,next⟩:Gs)).map gsL))) false,vU (((((2 * g.hist) % 4294967296)+1) % 4294967296) % 8),.sl 1 (List.take (g.rets.length+1 - 1) (List.drop 1 ((g.rets++([(pc+4) % 4294967296])).map dI))) false]=_;rw[kI gsL (g.slots.set (gO g pc) (⟨pc,next⟩:Gs)) omT,BV (M:=(g.rets++([(pc+4) % 4294967296])).drop 1) dI (g.rets++([(pc+4) % 4294967296])) (aI omT)];refine congrArg (λ z=>AV.agg (guL z)) (?_:(⟨g.slots.set (gO g pc) (⟨pc,next⟩:Gs),((((2 * g.hist) % 4294967296)+1) % 4294967296) % 8,(g.rets++([(pc+4) % 4294967296])).drop 1⟩:Gu)=gE g pc next i);unfold gE;rw[if_pos hR];have z:=h2;have z0:=h3;have z1:=h4;have hu:up4 pc=(pc+4) % 4294967296:=rfl;rw[hu]
     try simp[qI]at z z0 z1
     simp[z,z0,z1,dS]<;>(intros;first|omega|simp_all)
    ·have h4p:=aD h4;refine aY<|cSR<|oR 2 rfl ?_;have b6:((((2 * g.hist) % 4294967296)+1) % 4294967296) % 8≤7:=aT (bG _ (by decide));refine nW (vU (((((2 * g.hist) % 4294967296)+1) % 4294967296) % 8)) rfl rfl (by decide)<|oR 1 rfl<|rV (.agg [.osl 11 0 8 false,vU (((((2 * g.hist) % 4294967296)+1) % 4294967296) % 8),.osl 54 0 (g.rets.length+1) false]) rfl<|rSt rfl<|rE 65<|cM<|eW rfl ⟨(by show 0+8≤((g.slots.set (gO g pc) (⟨pc,next⟩:Gs)).map gsL).length;exact omT),trivial,(by show 0+(g.rets.length+1)≤((g.rets++([(pc+4) % 4294967296])).map dI).length;exact omT),trivial⟩ rfl ?_;show AV.agg [.sl 2 (List.take 8 (List.drop 0 ((g.slots.set (gO g pc) (⟨pc,next⟩:Gs)).map gsL))) false,vU (((((2 * g.hist) % 4294967296)+1) % 4294967296) % 8),.sl 1 (List.take (g.rets.length+1) (List.drop 0 ((g.rets++([(pc+4) % 4294967296])).map dI))) false]=_;rw[kI gsL (g.slots.set (gO g pc) (⟨pc,next⟩:Gs)) omT,kI dI (g.rets++([(pc+4) % 4294967296])) omT];refine congrArg (λ z=>AV.agg (guL z)) (?_:(⟨g.slots.set (gO g pc) (⟨pc,next⟩:Gs),((((2 * g.hist) % 4294967296)+1) % 4294967296) % 8,g.rets++([(pc+4) % 4294967296])⟩:Gu)=gE g pc next i);unfold gE;rw[if_pos hR];have z:=h2;have z0:=h3;have z1:=h4;have hu:up4 pc=(pc+4) % 4294967296:=rfl;rw[hu]
     try simp[qI]at z z0 z1
     simp[z,z0,z1,dS]<;>(intros;first|omega|simp_all)
   ·refine cSR<|oR 1 rfl<|rCi rfl (QP i hi)<|oR 1 rfl<|gN rfl<|gBS (x:=vB (decide (g.rets.length>0))) rfl id (okB (gtN _ _))<|cL rfl rfl rfl (λ h=>h)<|oR 1 rfl<|rE 57 ?_;refine aQ rfl (λ h5=>?_) (λ h5=>?_)
    ·have hB:FB i=true∧0<g.rets.length:=by simpa [qI]using h5
     have hB2:=hB.2;refine cRg<|oR 2 rfl ?_;have b7:g.rets.length - 1≤9223372036854775807:=aN (jA _ _) hok.rets;refine rW (vN (g.rets.length - 1)) rfl (okI (BW omT hok.rets rfl)) ?_;refine nW (.osl 42 0 (g.rets.length - 1) false) rfl (Lh (by first|rfl|omega) (by simp only[Option.getD];omega)) slT ?_;refine oR 1 rfl<|rE 62<|cSR<|oR 2 rfl ?_;have b8:((((2 * g.hist) % 4294967296)+1) % 4294967296) % 8≤7:=aT (bG _ (by decide));refine nW (vU (((((2 * g.hist) % 4294967296)+1) % 4294967296) % 8)) rfl rfl (by decide)<|oR 1 rfl<|rV (.agg [.osl 11 0 8 false,vU (((((2 * g.hist) % 4294967296)+1) % 4294967296) % 8),.osl 42 0 (g.rets.length - 1) false]) rfl<|rSt rfl<|rE 68<|cM<|eW rfl ⟨(by show 0+8≤((g.slots.set (gO g pc) (⟨pc,next⟩:Gs)).map gsL).length;exact omT),trivial,(by show 0+(g.rets.length - 1)≤(g.rets.map dI).length;exact omT),trivial⟩ rfl ?_;show AV.agg [.sl 2 (List.take 8 (List.drop 0 ((g.slots.set (gO g pc) (⟨pc,next⟩:Gs)).map gsL))) false,vU (((((2 * g.hist) % 4294967296)+1) % 4294967296) % 8),.sl 1 (List.take (g.rets.length - 1) (List.drop 0 (g.rets.map dI))) false]=_;rw[kI gsL (g.slots.set (gO g pc) (⟨pc,next⟩:Gs)) omT,BV (M:=g.rets.take (g.rets.length - 1)) dI g.rets (by rw[cB])];refine congrArg (λ z=>AV.agg (guL z)) (?_:(⟨g.slots.set (gO g pc) (⟨pc,next⟩:Gs),((((2 * g.hist) % 4294967296)+1) % 4294967296) % 8,g.rets.take (g.rets.length - 1)⟩:Gu)=gE g pc next i);unfold gE;rw[if_pos hR];have z:=h2;have z0:=h3;have z1:=h5;have hu:up4 pc=(pc+4) % 4294967296:=rfl;rw[hu]
     try simp[qI]at z z0 z1
     simp[z,z0,z1,dS]<;>(intros;first|omega|simp_all)
    ·have hB: ¬ (FB i=true∧0<g.rets.length):=by simpa [qI]using h5
     refine aY<|cSR<|oR 2 rfl ?_;have b9:((((2 * g.hist) % 4294967296)+1) % 4294967296) % 8≤7:=aT (bG _ (by decide));refine nW (vU (((((2 * g.hist) % 4294967296)+1) % 4294967296) % 8)) rfl rfl (by decide)<|oR 1 rfl<|rV (.agg [.osl 11 0 8 false,vU (((((2 * g.hist) % 4294967296)+1) % 4294967296) % 8),.osl 42 0 g.rets.length false]) rfl<|rSt rfl<|rE 63<|cM<|eW rfl ⟨(by show 0+8≤((g.slots.set (gO g pc) (⟨pc,next⟩:Gs)).map gsL).length;exact omT),trivial,(by show 0+g.rets.length≤(g.rets.map dI).length;exact omT),trivial⟩ rfl ?_;show AV.agg [.sl 2 (List.take 8 (List.drop 0 ((g.slots.set (gO g pc) (⟨pc,next⟩:Gs)).map gsL))) false,vU (((((2 * g.hist) % 4294967296)+1) % 4294967296) % 8),.sl 1 (List.take g.rets.length (List.drop 0 (g.rets.map dI))) false]=_;rw[kI gsL (g.slots.set (gO g pc) (⟨pc,next⟩:Gs)) omT,kI dI g.rets omT];refine congrArg (λ z=>AV.agg (guL z)) (?_:(⟨g.slots.set (gO g pc) (⟨pc,next⟩:Gs),((((2 * g.hist) % 4294967296)+1) % 4294967296) % 8,g.rets⟩:Gu)=gE g pc next i);unfold gE;rw[if_pos hR];have z:=h2;have z0:=h3;have z1:=h5;have hu:up4 pc=(pc+4) % 4294967296:=rfl;rw[hu]
     try simp[qI]at z z0 z1
     simp[z,z0,z1,dS]<;>(intros;first|omega|simp_all)
  ·have h2p:=wY h2;refine aY<|cSR<|rFx (x:=.osl 34 0 0 false) (h':=upd _ 34 (some (.arr (([]:List Nat).map dI) 1))) rfl rfl (rfl) (⟨by decide,by decide,by show ((5:Nat):Int)≤1000000;omega⟩)<|oR 1 rfl<|rE 36<|cSR<|oR 3 rfl<|rFx (x:=.osl 39 0 g.rets.length false) (h':=upd (upd _ 34 none) 39 (some (.arr (g.rets.map dI) 1))) rfl rfl (gV dI ([]:List Nat) g.rets omT omT) (⟨by exact omT,by exact omT,trivial⟩)<|oR 1 rfl<|rE 41<|bI<|cSR<|oR 1 rfl ?_;refine rV (vN g.rets.length) rfl<|oR 1 rfl<|rE 44<|bE<|cSR<|oR 1 rfl<|rCi rfl (QO i hi)<|oR 1 rfl<|rE 47 ?_;refine aQ rfl (λ h6=>?_) (λ h6=>?_)
   ·refine cSR<|oR 2 rfl ?_;have b10:(pc+4) % 4294967296≤4294967295:=aT (bG _ (by decide));refine rV (vU ((pc+4) % 4294967296)) rfl<|rV (.sl 1 ([[vU ((pc+4) % 4294967296)]]) true) rfl<|rFx (x:=.osl 51 0 (g.rets.length+1) false) (h':=upd (upd _ 39 none) 51 (some (.arr ((g.rets++([(pc+4) % 4294967296])).map dI) 1))) rfl rfl (gV dI g.rets ([(pc+4) % 4294967296]) omT omT) (⟨by exact omT,by exact omT,trivial⟩)<|oR 1 rfl<|rE 53<|cSR<|oR 1 rfl<|rV (vN (g.rets.length+1)) rfl<|rW (vB (decide ((g.rets.length+1)>4))) rfl (okB (gtN _ _))<|rE 56 ?_;refine aQ rfl (λ h7=>?_) (λ h7=>?_)
    ·have h7p:=of_decide_eq_true h7;refine cRg<|oR 1 rfl ?_;refine nW (.osl 51 1 (g.rets.length+1 - 1) false) rfl (Lh (by first|rfl|omega) (by simp only[Option.getD];omega)) slT ?_;refine oR 1 rfl<|rE 59<|cSR<|oR 2 rfl ?_;have b11:((2 * g.hist) % 4294967296) % 8≤7:=aT (bG _ (by decide));refine nW (vU (((2 * g.hist) % 4294967296) % 8)) rfl rfl (by decide)<|oR 1 rfl<|rV (.agg [.osl 11 0 8 false,vU (((2 * g.hist) % 4294967296) % 8),.osl 51 1 (g.rets.length+1 - 1) false]) rfl<|rSt rfl<|rE 65<|cM<|eW rfl ⟨(by show 0+8≤((g.slots.set (gO g pc) (⟨pc,next⟩:Gs)).map gsL).length;exact omT),trivial,(by show 1+(g.rets.length+1 - 1)≤((g.rets++([(pc+4) % 4294967296])).map dI).length;exact omT),trivial⟩ rfl ?_;show AV.agg [.sl 2 (List.take 8 (List.drop 0 ((g.slots.set (gO g pc) (⟨pc,next⟩:Gs)).map gsL))) false,vU (((2 * g.hist) % 4294967296) % 8),.sl 1 (List.take (g.rets.length+1 - 1) (List.drop 1 ((g.rets++([(pc+4) % 4294967296])).map dI))) false]=_;rw[kI gsL (g.slots.set (gO g pc) (⟨pc,next⟩:Gs)) omT,BV (M:=(g.rets++([(pc+4) % 4294967296])).drop 1) dI (g.rets++([(pc+4) % 4294967296])) (aI omT)];refine congrArg (λ z=>AV.agg (guL z)) (?_:(⟨g.slots.set (gO g pc) (⟨pc,next⟩:Gs),((2 * g.hist) % 4294967296) % 8,(g.rets++([(pc+4) % 4294967296])).drop 1⟩:Gu)=gE g pc next i);unfold gE;rw[if_pos hR];have z:=h2;have z0:=h6;have z1:=h7;have hu:up4 pc=(pc+4) % 4294967296:=rfl;rw[hu]
     try simp[qI]at z z0 z1
     simp[z,z0,z1,dS]<;>(intros;first|omega|simp_all)
    ·have h7p:=aD h7;refine aY<|cSR<|oR 2 rfl ?_;have b12:((2 * g.hist) % 4294967296) % 8≤7:=aT (bG _ (by decide));refine nW (vU (((2 * g.hist) % 4294967296) % 8)) rfl rfl (by decide)<|oR 1 rfl<|rV (.agg [.osl 11 0 8 false,vU (((2 * g.hist) % 4294967296) % 8),.osl 51 0 (g.rets.length+1) false]) rfl<|rSt rfl<|rE 62<|cM<|eW rfl ⟨(by show 0+8≤((g.slots.set (gO g pc) (⟨pc,next⟩:Gs)).map gsL).length;exact omT),trivial,(by show 0+(g.rets.length+1)≤((g.rets++([(pc+4) % 4294967296])).map dI).length;exact omT),trivial⟩ rfl ?_;show AV.agg [.sl 2 (List.take 8 (List.drop 0 ((g.slots.set (gO g pc) (⟨pc,next⟩:Gs)).map gsL))) false,vU (((2 * g.hist) % 4294967296) % 8),.sl 1 (List.take (g.rets.length+1) (List.drop 0 ((g.rets++([(pc+4) % 4294967296])).map dI))) false]=_;rw[kI gsL (g.slots.set (gO g pc) (⟨pc,next⟩:Gs)) omT,kI dI (g.rets++([(pc+4) % 4294967296])) omT];refine congrArg (λ z=>AV.agg (guL z)) (?_:(⟨g.slots.set (gO g pc) (⟨pc,next⟩:Gs),((2 * g.hist) % 4294967296) % 8,g.rets++([(pc+4) % 4294967296])⟩:Gu)=gE g pc next i);unfold gE;rw[if_pos hR];have z:=h2;have z0:=h6;have z1:=h7;have hu:up4 pc=(pc+4) % 4294967296:=rfl;rw[hu]
     try simp[qI]at z z0 z1
     simp[z,z0,z1,dS]<;>(intros;first|omega|simp_all)
   ·refine cSR<|oR 1 rfl<|rCi rfl (QP i hi)<|oR 1 rfl<|gN rfl<|gBS (x:=vB (decide (g.rets.length>0))) rfl id (okB (gtN _ _))<|cL rfl rfl rfl (λ h=>h)<|oR 1 rfl<|rE 54 ?_;refine aQ rfl (λ h8=>?_) (λ h8=>?_)
    ·have hB:FB i=true∧0<g.rets.length:=by simpa [qI]using h8
     have hB2:=hB.2;refine cRg<|oR 2 rfl ?_;have b13:g.rets.length - 1≤9223372036854775807:=aN (jA _ _) hok.rets;refine rW (vN (g.rets.length - 1)) rfl (okI (BW omT hok.rets rfl)) ?_;refine nW (.osl 39 0 (g.rets.length - 1) false) rfl (Lh (by first|rfl|omega) (by simp only[Option.getD];omega)) slT ?_;refine oR 1 rfl<|rE 59<|cSR<|oR 2 rfl ?_;have b14:((2 * g.hist) % 4294967296) % 8≤7:=aT (bG _ (by decide));refine nW (vU (((2 * g.hist) % 4294967296) % 8)) rfl rfl (by decide)<|oR 1 rfl<|rV (.agg [.osl 11 0 8 false,vU (((2 * g.hist) % 4294967296) % 8),.osl 39 0 (g.rets.length - 1) false]) rfl<|rSt rfl<|rE 65<|cM<|eW rfl ⟨(by show 0+8≤((g.slots.set (gO g pc) (⟨pc,next⟩:Gs)).map gsL).length;exact omT),trivial,(by show 0+(g.rets.length - 1)≤(g.rets.map dI).length;exact omT),trivial⟩ rfl ?_;show AV.agg [.sl 2 (List.take 8 (List.drop 0 ((g.slots.set (gO g pc) (⟨pc,next⟩:Gs)).map gsL))) false,vU (((2 * g.hist) % 4294967296) % 8),.sl 1 (List.take (g.rets.length - 1) (List.drop 0 (g.rets.map dI))) false]=_;rw[kI gsL (g.slots.set (gO g pc) (⟨pc,next⟩:Gs)) omT,BV (M:=g.rets.take (g.rets.length - 1)) dI g.rets (by rw[cB])];refine congrArg (λ z=>AV.agg (guL z)) (?_:(⟨g.slots.set (gO g pc) (⟨pc,next⟩:Gs),((2 * g.hist) % 4294967296) % 8,g.rets.take (g.rets.length - 1)⟩:Gu)=gE g pc next i);unfold gE;rw[if_pos hR];have z:=h2;have z0:=h6;have z1:=h8;have hu:up4 pc=(pc+4) % 4294967296:=rfl;rw[hu]
     try simp[qI]at z z0 z1
     simp[z,z0,z1,dS]<;>(intros;first|omega|simp_all)
    ·have hB: ¬ (FB i=true∧0<g.rets.length):=by simpa [qI]using h8
     refine aY<|cSR<|oR 2 rfl ?_;have b15:((2 * g.hist) % 4294967296) % 8≤7:=aT (bG _ (by decide));refine nW (vU (((2 * g.hist) % 4294967296) % 8)) rfl rfl (by decide)<|oR 1 rfl<|rV (.agg [.osl 11 0 8 false,vU (((2 * g.hist) % 4294967296) % 8),.osl 39 0 g.rets.length false]) rfl<|rSt rfl<|rE 60<|cM<|eW rfl ⟨(by show 0+8≤((g.slots.set (gO g pc) (⟨pc,next⟩:Gs)).map gsL).length;exact omT),trivial,(by show 0+g.rets.length≤(g.rets.map dI).length;exact omT),trivial⟩ rfl ?_;show AV.agg [.sl 2 (List.take 8 (List.drop 0 ((g.slots.set (gO g pc) (⟨pc,next⟩:Gs)).map gsL))) false,vU (((2 * g.hist) % 4294967296) % 8),.sl 1 (List.take g.rets.length (List.drop 0 (g.rets.map dI))) false]=_;rw[kI gsL (g.slots.set (gO g pc) (⟨pc,next⟩:Gs)) omT,kI dI g.rets omT];refine congrArg (λ z=>AV.agg (guL z)) (?_:(⟨g.slots.set (gO g pc) (⟨pc,next⟩:Gs),((2 * g.hist) % 4294967296) % 8,g.rets⟩:Gu)=gE g pc next i);unfold gE;rw[if_pos hR];have z:=h2;have z0:=h6;have z1:=h8;have hu:up4 pc=(pc+4) % 4294967296:=rfl;rw[hu]
     try simp[qI]at z z0 z1
     simp[z,z0,z1,dS]<;>(intros;first|omega|simp_all)
theorem Hz(i:SI):RR i=true↔okE ⟨i.op,i.rd,i.rs1,i.rs2,i.imm⟩:=by
 unfold RR okE;simp only[aK,aZ];obtain⟨op,rd,rs1,rs2,imm⟩:=i;constructor
 ·rintro ⟨⟨⟨⟨⟨⟨h1,h2⟩,h3⟩,h4⟩,h5⟩,h6⟩,h7⟩;refine⟨h1,h2,?_⟩;generalize mF op (wQ ⟨op,rd,rs1,rs2,imm⟩)=r at h3 h4 h5 h6 h7⊢;obtain⟨a,b,c,d,e⟩:=r;simp only at h3 h4 h5 h6 h7;subst h3 h4 h5 h6 h7;rfl
 ·rintro ⟨h1,h2,h3⟩;simp only at h3;refine⟨⟨⟨⟨⟨⟨h1,h2⟩,?_⟩,?_⟩,?_⟩,?_⟩,?_⟩<;>rw[h3]
theorem We(i:SI)(hi:i.imm<4294967296):bV C0 145 [siA i] (.tup [.v (.int .u32 ((if RR i=true then wQ ⟨i.op,i.rd,i.rs1,i.rs2,i.imm⟩else 0:Nat):Int)),.v (.int .i64 (if RR i=true then 0 else 1))]):=by
 by_cases h:RR i=true
 ·rw[if_pos h,if_pos h];exact .of_tupG Tryz.func145 rfl rfl rfl rfl λ S w hG=>QK CI i.op i.rd i.rs1 i.rs2 i.imm w (CE hG) hi ((Hz i).1 h)
 ·rw[if_neg h,if_neg h];exact .of_tupG Tryz.func145 rfl rfl rfl rfl λ S w hG=>QL CI i.op i.rd i.rs1 i.rs2 i.imm w (CE hG) hi (λ q=>h ((Hz i).2 q))
theorem Wf(e:Ent)(he:e.ok):bV C0 84 [.agg (enL e)] (vB (tI e)):=by
 refine bV.intro c0Ok Tryz.func84 rfl rfl (by kernel_rfl) rfl<|cSR<|rAl 0 rfl rfl<|oR 1 rfl<|rE 2<|bI<|cSR<|oR 2 rfl<|rV (vB (decide (e.is<0))) rfl<|oR 1 rfl<|gN rfl<|gS rfl id<|gBS (x:=vB (decide (e.is>3))) rfl id rfl<|cL rfl rfl rfl (by simp) ?_;refine rE 10 ?_;refine aQ rfl (λ h1=>?_) (λ h1=>?_)
 ·refine cSR<|oR 1 rfl<|rE 11<|cM ?_;replace h1:=sP h1;exact fT rfl (dH (by unfold tI;grind [qI,cOr]))
 ·refine aY<|cSR<|oR 2 rfl<|rV (vB (e.is==1)) rfl<|oR 1 rfl<|rE 14<|bI<|cSR<|oR 2 rfl<|gN rfl<|gS rfl id<|gBS (x:=vB (decide (e.left≤0))) rfl id rfl<|cL rfl rfl rfl (λ h=>h)<|oR 1 rfl ?_;refine gN rfl<|gS rfl id<|gS rfl id<|gN rfl<|gS rfl id<|gBS (x:=vB (e.left != 0)) rfl id rfl<|tW (x:=vB (cJ (!(e.is==1)) (e.left != 0) false)) (g:= !(cJ (e.is==1) (decide (e.left≤0)) false)) rfl rfl rfl rfl (λ h=>h) rfl rfl (λ hg hc=>by first|(rw[hg,hc];rfl)|simp_all)<|cL rfl rfl rfl (by simp)<|rE 29 ?_;refine aQ rfl (λ h2=>?_) (λ h2=>?_)
  ·refine cSR<|oR 1 rfl<|rE 30<|cM ?_;replace h1:=sP h1;replace h2:=sP h2;exact fT rfl (dH (by unfold tI;grind [qI,cOr]))
  ·refine aY<|cSR<|oR 2 rfl<|rCi rfl (rA e.i)<|oR 1 rfl<|rE 33<|bI<|cSR<|oR 2 rfl<|rV (vB (e.is==2)) rfl<|oR 1 rfl<|gN rfl<|gBS (x:=vB ((kindOf e.i.op) != 3)) rfl id (okB (neN _ _))<|gS rfl id ?_;refine gN rfl<|gS rfl id<|gS rfl id<|tW (x:=vB (cJ ((kindOf e.i.op) != 3) true (!e.known))) (g:=e.is==2) rfl rfl rfl rfl (λ h=>h) rfl rfl (λ hg hc=>by first|(rw[hg,hc];rfl)|simp_all)<|cL rfl rfl rfl (λ h=>h)<|rE 45 ?_;refine aQ rfl (λ h3=>?_) (λ h3=>?_)
   ·refine cSR<|oR 1 rfl<|rE 46<|cM ?_;replace h1:=sP h1;replace h2:=sP h2;replace h3:=sP h3;exact fT rfl (dH (by unfold tI;grind [qI,cOr]))
   ·refine aY<|bI<|cSR<|oR 2 rfl<|rV (vB (e.halt != 0)) rfl<|oR 1 rfl<|gN rfl<|gS rfl id<|gBS (x:=vB (e.is != 3)) rfl id rfl<|cL rfl rfl rfl (λ h=>h)<|oR 1 rfl<|gN rfl<|gS rfl id<|gN rfl<|gBS (x:=vB ((kindOf e.i.op)==5)) rfl id (okB (eqN _ _)) ?_;refine tW (x:=vB (cJ (e.is==1) ((kindOf e.i.op)==5) false)) (g:=cJ (e.halt != 0) (e.is != 3) false) rfl rfl rfl rfl (λ h=>h) rfl rfl (λ hg hc=>by first|(rw[hg,hc];rfl)|simp_all)<|gS rfl id<|gN rfl<|gS rfl id<|gBS (x:=vB (e.halt==3)) rfl id rfl<|tW (x:=vB (cJ (cJ (e.is==1) ((kindOf e.i.op)==5) false) (e.halt==3) false)) (g:=cJ (e.halt != 0) (e.is != 3) false) rfl rfl rfl rfl (λ h=>h) rfl rfl (λ hg hc=>by first|(rw[hg,hc];rfl)|simp_all)<|gS rfl id<|cL rfl rfl rfl (λ h=>h)<|rE 66 ?_;refine aQ rfl (λ h4=>?_) (λ h4=>?_)
    ·refine cSR<|oR 1 rfl<|rE 67<|cM ?_;replace h1:=sP h1;replace h2:=sP h2;replace h3:=sP h3;replace h4:=sP h4;exact fT rfl (dH (by unfold tI;grind [qI,cOr]))
    ·refine aY<|bI<|cSR<|oR 2 rfl<|rCi rfl (We e.i (BX he.imm))<|oR 5 rfl<|rE 74<|cSR<|oR 1 rfl<|rV (vB ((if RR e.i=true then 0 else 1) != 0)) rfl<|rE 76 ?_;refine aQ rfl (λ h5=>?_) (λ h5=>?_)
     ·have h5p:=wX h5;refine cSR<|oR 2 rfl<|rV (vB (e.halt==1)) rfl<|oR 1 rfl<|gN rfl<|gS rfl id<|gBS (x:=vB (e.halt==2)) rfl id rfl<|cL rfl rfl rfl (by simp)<|oR 1 rfl<|rE 85<|cM ?_;replace h1:=sP h1;replace h2:=sP h2;replace h3:=sP h3;replace h4:=sP h4;replace h5:=sP h5;exact fT rfl (dH (by unfold tI;grind [qI,cOr]))
     ·have h5p:=wY h5;refine aY<|cSR<|oR 1 rfl<|rE 77<|cM ?_;replace h1:=sP h1;replace h2:=sP h2;replace h3:=sP h3;replace h4:=sP h4;replace h5:=sP h5;exact fT rfl (dH (by unfold tI;grind [qI,cOr]))
theorem PV{α:Type}{p:α→Bool}{l:List α}{k:Nat}{x:α}(hx:l[k]?=some x)(hn:p x=false)(h:∀ y∈l.take k,p y=false):∀ y∈l.take (k+1),p y=false:=by
 intro y hy;rw[bS,hx]at hy;rcases al_List_mem_append.1 hy with hy|hy
 ·exact h y hy
 ·simp at hy;subst hy;exact hn
theorem PW{α:Type}{p:α→Bool}{l:List α}{k:Nat}{x:α}(hx:l[k]?=some x)(hp:p x=true)(h:∀ y∈l.take k,p y=false):l.findIdx? p=some k:=by
 rw[List.findIdx?_eq_some_iff_getElem];obtain⟨hk,rfl⟩:=DN.1 hx;refine⟨hk,hp,λ j hj=>?_⟩;have:=h (l[j]'omT) (aB (i:=j) (by rw[cW,if_pos hj,aA omT]));simp[this]
theorem Wg{α:Type}{p:α→Bool}{l:List α}{k:Nat}(hk:l.length≤k)(h:∀ y∈l.take k,p y=false):l.findIdx? p=none:=by
 rw[aI hk]at h;rw[List.findIdx?_eq_none_iff];exact h
theorem PX{α:Type}{p:α→Bool}{l:List α}:∀ y∈l.take 0,p y=false:=λ y hy=>by simp at hy
theorem PY(rob:List Ent)(ck:Bool)(hl:rob.length≤1000000)(ho:∀ x∈rob,x.ok):bV C0 103 [.sl 17 (rob.map enL) ck] (vI (Do (xN rob))):=by
 refine dc1 (bV.intro c1Ok Tryz.func103 rfl rfl (by kernel_rfl) rfl ?_);refine cSR<|oR 1 rfl<|rE 1<|bI<|cSR<|oR 1 rfl<|rW (vN rob.length) rfl (bJ enL rob)<|oR 1 rfl<|rE 4<|bE<|jG (κ:=Nat) (λ k=>⟨slotsF [(5,.sl 17 (rob.map enL) ck),(6,vN rob.length),(7,vN k)],heapF [],4⟩) (λ k=>k≤rob.length∧∀ y∈rob.take k,MB y=false) (λ k=>rob.length - k) 0 (λ s=>s) (Weak.of_lists (λ s=>s) wT trivial rfl) (⟨aE _,PX⟩) ?_;intro k hk;have hkn:k≤rob.length:=hk.1;have hkB:k≤1000000:=by omega
 refine cSR<|rW (vB (decide (k<rob.length))) rfl (okB (ltN _ _))<|rE 5<|bI ?_;refine aQ rfl (λ h1=>?_) (λ h1=>?_)
 ·have h1p:=of_decide_eq_true h1;refine aY<|bI<|bE<|cSR<|oR 1 rfl ?_;obtain⟨x,hx⟩:∃ x,rob[k]?=some x:=⟨_,aA omT⟩;have hxo:=ho x (aB hx);refine rIx (enL x) (.dp 17 0 (enL x)) rfl rfl (fM hx) rfl<|oR 1 rfl<|rAl 8 rfl rfl<|oR 1 rfl<|rSt rfl<|rE 11<|cSR<|oR 2 rfl<|rCi rfl (rA x.i)<|rW (vB ((kindOf x.i.op)==5)) rfl (okB (eqN _ _))<|oR 1 rfl<|gN rfl<|gS rfl id<|cL rfl rfl rfl (λ h=>h)<|oR 1 rfl ?_;refine gN rfl<|gS rfl id<|gN rfl<|gS rfl id<|gBS (x:=vB (x.next != x.guess)) rfl hsT (okB (neN _ _))<|cL rfl rfl rfl (λ h=>h)<|rE 26 ?_;refine aQ rfl (λ h2=>?_) (λ h2=>?_)
  ·refine cSR<|oR 2 rfl<|rE 28<|cM ?_;exact fT rfl (MA (by unfold xN;rw[PW hx (by simpa [MB,qI,uE]using h2) hk.2];rfl))
  ·refine aY<|cRg ?_;have b1:k+1≤1000001:=aF hkB (aC 1);refine rW (vN (k+1)) rfl (okI (bL b1 rfl))<|oR 1 rfl<|rE 28 ?_;refine⟨k+1,λ s=>s,Weak.of_lists _ wT trivial rfl,⟨by omega,PV hx (by have z:=h2;unfold MB;simp only[qI]at z;grind) hk.2⟩,by show rob.length - (k+1)<rob.length - k;omega⟩
 ·have h1p:=aD h1;refine dR<|cSR<|oR 1 rfl<|rE 6<|cM ?_;exact fT rfl (MA (by unfold xN;rw[Wg omT hk.2];rfl))
theorem Wh{f:Nat→Bool}{k:Nat}(hp:f k=true)(h:(List.range k).all f=true):(List.range (k+1)).all f=true:=by
 rw[kC,List.all_append,h];simpa using hp
theorem Yn{f:Nat→Bool}{k n:Nat}(hk:k<n)(hp:f k=false):(List.range n).all f=false:=by
 rw[List.all_eq_false];exact⟨k,nM.2 hk,by simp[hp]⟩
theorem SY{rob:List Ent}{k:Nat}(hg:decide (k>0)=true)(hk:k<rob.length)(hl:rob.length≤1000):0≤IntKind.wrap .i64 ((k:Int) - 1)∧(rob.map enL)[(IntKind.wrap .i64 ((k:Int) - 1)).toNat]?=some (enL ((rob[k - 1]?).getD Cg)):=by
 have h0:=of_decide_eq_true hg;rw[show IntKind.wrap .i64 ((k:Int) - 1)=((k - 1:Nat):Int)from by rw[wrap_i64 omT omT];omega];refine⟨aG _,?_⟩;show (rob.map enL)[k - 1]?=_;rw[bD,aA (show k - 1<rob.length by omega)];rfl
theorem Ms{rob:List Ent}{k:Nat}{x:Ent}(hx:rob[k]?=some x):EF rob k=((k==0||decide (((rob[k - 1]?).getD Cg).no<x.no))&&tI x):=by
 unfold EF Wo;rw[hx];have hk:=(DN.1 hx).1;rw[aA (show k - 1<rob.length by omega)];rfl
theorem Wi(rob:List Ent)(ck:Bool)(hl:rob.length≤9223372036854775807)(ho:∀ x∈rob,x.ok):bV C0 47 [.sl 17 (rob.map enL) ck] (vB (Cb rob)):=by
 refine dc1 (bV.intro c1Ok Tryz.func47 rfl rfl (by kernel_rfl) rfl ?_);refine cSR<|oR 1 rfl<|rE 1<|bI<|cSR<|oR 1 rfl<|rW (vN rob.length) rfl (bJ enL rob)<|rW (vB (decide (rob.length>8))) rfl (okB (gtN _ _))<|rE 4 ?_;refine aQ rfl (λ h1=>?_) (λ h1=>?_)
 ·have h1p:=of_decide_eq_true h1;refine cSR<|oR 1 rfl<|rE 5<|cM ?_;exact fT rfl (dH (by unfold Cb;rw[sU omT];rfl))
 ·have h1p:=aD h1;refine aY<|bI<|cSR<|oR 1 rfl<|rW (vN rob.length) rfl (bJ enL rob)<|oR 1 rfl<|rE 7<|bE<|jG (κ:=Nat) (λ k=>⟨slotsF [(0,.sl 17 (rob.map enL) ck),(7,vB (decide (rob.length>8))),(8,.sl 17 (rob.map enL) ck),(9,vN rob.length),(10,vN k)],heapF [],7⟩) (λ k=>k≤rob.length∧(List.range k).all (EF rob)=true) (λ k=>rob.length - k) 0 (λ s=>s) (Weak.of_lists (λ s=>s) wT trivial rfl) (⟨aE _,rfl⟩) ?_;intro k hk;have hkn:k≤rob.length:=hk.1;have hkB:k≤1000000:=by omega
  refine cSR<|rW (vB (decide (k<rob.length))) rfl (okB (ltN _ _))<|rE 8<|bI ?_;refine aQ rfl (λ h2=>?_) (λ h2=>?_)
  ·have h2p:=of_decide_eq_true h2;refine aY<|bI<|bE<|cSR<|oR 1 rfl ?_;obtain⟨x,hx⟩:∃ x,rob[k]?=some x:=⟨_,aA omT⟩;have hxo:=ho x (aB hx);refine rIx (enL x) (.dp 17 0 (enL x)) rfl rfl (fM hx) rfl<|oR 1 rfl<|rAl 11 rfl rfl<|oR 1 rfl<|rSt rfl<|rE 14<|cSR<|oR 1 rfl<|rW (vB (decide (k>0))) rfl (okB (gtN _ _))<|oR 1 rfl<|gN rfl<|gN rfl<|gBS (x:=vI (IntKind.wrap .i64 ((k:Int) - 1))) rfl id rfl<|Ed (enL ((rob[k - 1]?).getD Cg)) (x:=.dp 17 0 (enL ((rob[k - 1]?).getD Cg))) (g:=decide (k>0)) rfl rfl rfl rfl hsT rfl rfl (λ hg=>SY hg omT omT) rfl<|gS rfl id ?_;refine gS rfl id<|gN rfl<|gS rfl id<|gBS (x:=vB (decide ((((rob[k - 1]?).getD Cg).no)≥x.no))) rfl hsT rfl<|cL rfl rfl rfl (λ h=>h)<|oR 1 rfl<|gN rfl<|gT (args:=[.agg (enL x)]) (x:=vB (tI x)) (g:= !(cJ (decide (k>0)) (decide ((((rob[k - 1]?).getD Cg).no)≥x.no)) false)) rfl rfl rfl rfl (λ h=>h) rfl rfl rfl (.inl rfl) rfl (λ hg=>Wf x hxo)<|gS rfl id<|cL rfl rfl rfl (by simp)<|rE 32 ?_;refine aQ rfl (λ h3=>?_) (λ h3=>?_)
   ·refine cSR<|oR 1 rfl<|rE 33<|cM ?_;exact fT rfl (dH (by unfold Cb;rw[Yn (k:=k) omT (by rw[Ms hx];have z:=h3;simp only[qI,cOr]at z;grind)];simp))
   ·refine aY<|cRg ?_;have b1:k+1≤9223372036854775807:=by omega
    refine rW (vN (k+1)) rfl (okI (bL (show k+1≤9223372036854775807 by omega) rfl))<|oR 1 rfl<|rE 34 ?_;refine⟨k+1,λ s=>s,Weak.of_lists _ wT trivial rfl,⟨by omega,Wh (by rw[Ms hx];have z:=h3;simp only[qI,cOr]at z;grind) hk.2⟩,by show rob.length - (k+1)<rob.length - k;omega⟩
  ·have h2p:=aD h2;refine dR<|cSR<|oR 1 rfl<|rE 9<|cM ?_;have hkk:k=rob.length:=by omega
   have hall:=hk.2;rw[hkk]at hall;exact fT rfl (dH (by unfold Cb;rw[hall,lE omT];rfl))
theorem abI(R:List Ent)(lo n i:Nat)(cl:Bool)(hR:lo+n≤R.length)(hRl:R.length≤900000)(hi:i<n)(ho:∀ x∈R,x.ok):qF C0.P C0.G 104 [.osl 0 lo n cl,vN i] (heapF [(0,.arr (R.map enL) 17)]) 1 (λ x h'=>x=.osl 1 0 (i+1) false∧h'=heapF [(0,.arr (R.map enL) 17),(1,.arr ((BZ ((R.drop lo).take n) i).map enL) 17)]):=by
 refine HCall.intro (C:=C1) (s:=1) c1Ok.at Tryz.func104 rfl rfl (by kernel_rfl) rfl rfl<|cSR<|oR 1 rfl<|rE 2<|bI<|cSR<|oR 1 rfl<|rW (vB (decide (i<0))) rfl (okB (ltN _ _))<|oR 1 rfl<|gN rfl<|gN rfl<|gBS (x:=vI (n:Int)) rfl id rfl<|gBS (x:=vB (decide ((i:Int)≥(n:Int)))) rfl hsT rfl<|cL rfl rfl rfl (by simp) ?_;refine rE 10 ?_;refine aQ rfl (λ h1=>by simp[cOr]at h1;omega) (λ _=>?_);refine aY<|cSR<|oR 2 rfl<|nW (.ptr2 0 (lo+i) 0) rfl rfl ixT ?_;obtain⟨x,hx⟩:∃ x,R[lo+i]?=some x:=⟨_,aA omT⟩;have hxo:=ho x (aB hx);refine rIx (enL x) (.agg (enL x)) rfl rfl (fM hx) rfl<|rAl 14 rfl rfl<|rSt rfl<|rE 16<|cSR<|oR 3 rfl<|rSt rfl<|rE 20<|cSR<|oR 3 rfl ?_;refine nW (.osl 0 lo i true) rfl (Lh (by first|rfl|omega) (by simp only[Option.getD];omega)) (by refine⟨?_,?_,?_,?_⟩;all_goals (first|exact aG _|decide|(apply Fg.2;exact omT)|rfl)) ?_;refine oR 1 rfl<|rV (.sl 17 ([[vI x.no,vU x.pc,vI x.i.op,vI x.i.rd,vI x.i.rs1,vI x.i.rs2,vU x.i.imm,vU x.next,vI x.is,vI x.left,vU x.value,vU x.next,vU x.addr,vI x.halt,vI x.took,vB x.known,vB x.filled]]) true) rfl<|rFx (x:=.osl 26 0 (i+1) false) (h':=upd _ 26 (some (.arr ((((R.drop lo).take i)++([(⟨x.no,x.pc,⟨x.i.op,x.i.rd,x.i.rs1,x.i.rs2,x.i.imm⟩,x.next,x.is,x.left,x.value,x.next,x.addr,x.halt,x.took,x.known,x.filled⟩:Ent)])).map enL) 17))) rfl rfl (Tg enL R ([(⟨x.no,x.pc,⟨x.i.op,x.i.rd,x.i.rs1,x.i.rs2,x.i.imm⟩,x.next,x.is,x.left,x.value,x.next,x.addr,x.halt,x.took,x.known,x.filled⟩:Ent)]) (by simp only[aL,aX,bR,cY];omega)) (⟨by simp only[aL,aX,aH,bR,cY,kK];omega,by exact omT,(by show lo+i≤(R.map enL).length;exact omT),trivial⟩)<|oR 1 rfl<|rE 28<|cM ?_;have e:((R.drop lo).take i)++([(⟨x.no,x.pc,⟨x.i.op,x.i.rd,x.i.rs1,x.i.rs2,x.i.imm⟩,x.next,x.is,x.left,x.value,x.next,x.addr,x.halt,x.took,x.known,x.filled⟩:Ent)])=BZ ((R.drop lo).take n) i:=by unfold BZ;rw[show ((R.drop lo).take n)[i]?=some x from by rw[cW,if_pos hi,cO];exact hx];simp only[List.take_take];rw[pF omT]
 refine pP (rs:=[.osl 26 0 (i+1) false]) rfl (r:=.osl 1 0 (i+1) false) (h':=heapF [(0,.arr (R.map enL) 17),(1,.arr ((BZ ((R.drop lo).take n) i).map enL) 17)]) (σ:=λ z=>match z with|1=>26|z=>z) ⟨rfl,rfl⟩ rfl (cH (λ z=>match z with|1=>26|z=>z) rfl rfl ⟨⟨rfl,rfl,rfl⟩,⟨rfl,?_,rfl⟩,trivial⟩ rfl);show some (Blk.arr ((((R.drop lo).take i)++([(⟨x.no,x.pc,⟨x.i.op,x.i.rd,x.i.rs1,x.i.rs2,x.i.imm⟩,x.next,x.is,x.left,x.value,x.next,x.addr,x.halt,x.took,x.known,x.filled⟩:Ent)])).map enL) 17)=some (Blk.arr ((BZ ((R.drop lo).take n) i).map enL) 17);rw[e]
theorem HA{prog:List Nat}(hp:∀ x∈prog,x≤4294967295)(pc:Nat):fetchW prog pc≤4294967295:=by
 unfold fetchW fetchP;split
 ·cases h:prog[pc / 4]? with
  |none=>exact aE _
  |some x=>exact hp x (aB h)
 ·exact aE _
theorem Fv{b:Bool}(h:(!b)=true):b=false:=by simpa using h
theorem sH{b:Bool}(h:(!b)=false): ¬ b=false:=by cases b<;>simp_all
theorem CZ(x:Nat):decE x=0↔ ¬ Fs x=0:=by unfold decE;split<;>simp_all
abbrev mcX(c:Co)(R F S T:AV):List AV:=[vI c.conf.mode,vI c.conf.width,vI c.conf.rob,vI c.conf.queue,vI c.conf.stores,vI c.conf.slots,vI c.conf.sets,vI c.conf.ways,.sl 1 (c.conf.lat.map fD) false,vB c.conf.tables,.sl 1 (c.conf.tape.map dI) false,.sl 1 (c.prog.map dI) false,vI c.cycle,vU (c.r 0),vU (c.r 1),vU (c.r 2),vU (c.r 3),vU (c.r 4),vU (c.r 5),vU (c.r 6),vU (c.r 7),vU (c.r 8),vU (c.r 9),vU (c.r 10),vU (c.r 11),vU (c.r 12),vU (c.r 13),vU (c.r 14),vU (c.r 15),vU (c.r 16),vU (c.r 17),vU (c.r 18),vU (c.r 19),vU (c.r 20),vU (c.r 21),vU (c.r 22),vU (c.r 23),vU (c.r 24),vU (c.r 25),vU (c.r 26),vU (c.r 27),vU (c.r 28),vU (c.r 29),vU (c.r 30),vU (c.r 31),vU c.fetch,vB c.stop,F,R,vI c.next,S,vI c.data.ways,.sl 1 (c.data.sets.map bA) false,vI c.words.ways,.sl 1 (c.words.sets.map bA) false,.sl 4 (c.bus.map rqL) false,vI c.asked,vI c.guessed,.v (.string c.mem),.sl 2 (c.guess.slots.map gsL) false,vU c.guess.hist,.sl 1 (c.guess.rets.map dI) false,vI c.halt,T]
structure Co.ok(c:Co)(n:Nat):Prop where
 conf:c.conf.okW
 prog:c.prog.length≤9223372036854775807
 progo:∀ x∈c.prog,x≤4294967295
 r:∀ k,c.r k≤4294967295
 fetch:c.fetch≤4294967295
 fet:c.fetched.length≤9223372036854775807
 feto:∀ x∈c.fetched,x.ok
 rob:c.rob.length≤9223372036854775807
 robo:∀ x∈c.rob,x.ok
 sto:c.stores.length≤9223372036854775807
 stoo:∀ x∈c.stores,x.ok
 data:c.data.ok
 words:c.words.ok
 bus:c.bus.length≤n
 buso:∀ x∈c.bus,x.ok
 asked:c.asked≤9223372036854775807
 guessed:c.guessed≤9223372036854775807
 mem:c.mem.size≤1000000
 guess:c.guess.ok
 ret:c.retired.length≤n
 reto:∀ x∈c.retired,x.ok
theorem DB(c:Co)(n:Nat)(hok:c.ok n)(hnb:n≤890000):bV C0 23 [.agg (coL c)] (vB (gH c)):=by
 refine dc1 (bV.intro c1Ok Tryz.func23 rfl rfl (by kernel_rfl) rfl ?_);refine cSR<|rAl 0 rfl rfl<|oR 1 rfl<|rE 2<|bI<|cSR<|oR 2 rfl<|rCi rfl (SZ c.conf hok.conf)<|oR 2 rfl<|gN rfl<|gS rfl id<|gBS (x:=vN c.prog.length) rfl id (bJ dI c.prog)<|gBS (x:=vB (decide (c.prog.length>64))) rfl id (okB (gtN _ _))<|cL rfl rfl rfl (by simp) ?_;refine oR 1 rfl<|gN rfl<|gS rfl id<|gN rfl<|gS rfl id<|gT (args:=[.v (.string c.mem)]) (x:=.v (.string (lK c.mem))) (g:= !(cJ (!(tK c.conf)) true (decide (c.prog.length>64)))) rfl rfl rfl rfl (λ h=>h) rfl rfl rfl (.inl rfl) rfl (λ hg=>UT c.mem)<|gBS (x:=vB (!(c.mem.toList==(lK c.mem).toList))) rfl hsT rfl<|cL rfl rfl rfl (by simp)<|rE 20 ?_;refine aQ rfl (λ h1=>?_) (λ h1=>?_)
 ·refine cSR<|oR 1 rfl<|rE 21<|cM ?_;exact fT rfl (dH (by unfold gH;have q0:=h1;simp only[qI,cOr]at q0;rw[bY];simp only[aK,aZ,cA,rP];grind))
 ·refine aY<|bI<|cSR<|oR 2 rfl<|rCi rfl (Wi c.rob false hok.rob hok.robo)<|oR 2 rfl<|gN rfl<|gS rfl id<|gBS (x:=vN c.rob.length) rfl id (bJ enL c.rob)<|gN rfl<|gS rfl id<|gS rfl id<|gBS (x:=vB (decide (((c.rob.length:Nat):Int)>c.conf.rob))) rfl hsT rfl<|cL rfl rfl rfl (by simp)<|rE 33 ?_;refine aQ rfl (λ h2=>?_) (λ h2=>?_)
  ·refine cSR<|oR 1 rfl<|rE 34<|cM ?_;exact fT rfl (dH (by unfold gH;have q0:=h1;have q1:=h2;simp only[qI,cOr]at q0 q1;rw[bY];simp only[aK,aZ,cA,rP];grind))
  ·refine aY<|bI<|cSR<|oR 2 rfl<|rW (vN c.rob.length) rfl (bJ enL c.rob)<|oR 1 rfl<|rE 37<|bE<|jG (κ:=Nat) (λ k=>⟨slotsF [(1,.ptr 0 0),(24,vB (cJ (cJ (!(tK c.conf)) true (decide (c.prog.length>64))) true (!(c.mem.toList==(lK c.mem).toList)))),(37,vB (cJ (!(Cb c.rob)) true (decide (((c.rob.length:Nat):Int)>c.conf.rob)))),(39,.sl 17 (c.rob.map enL) false),(40,vN c.rob.length),(41,vN k)],heapF [(0,.box (coL c))],37⟩) (λ k=>k≤c.rob.length∧(c.rob.take k).all (λ e=>decide (e.no<c.next))=true) (λ k=>c.rob.length - k) 0 (λ s=>s) (Weak.of_lists (λ s=>s) wT wH rfl) (⟨aE _,rfl⟩) ?_;intro k hk;have hkn:k≤c.rob.length:=hk.1;have hkB:k≤9223372036854775807:=by have:=hok.rob;omega
   have hrl:=hok.rob;refine cSR<|rW (vB (decide (k<c.rob.length))) rfl (okB (ltN _ _))<|rE 38<|bI ?_;refine aQ rfl (λ h3=>?_) (λ h3=>?_)
   ·have h3p:=of_decide_eq_true h3;refine aY<|bI<|bE<|cSR ?_;obtain⟨x,hx⟩:∃ x,c.rob[k]?=some x:=⟨_,aA omT⟩;have hxo:=hok.robo x (aB hx);refine rIx (enL x) (.dp 17 0 (enL x)) rfl rfl (fM hx) rfl<|oR 1 rfl<|rAl 40 rfl rfl<|rSt rfl<|rE 42<|cSR<|oR 4 rfl<|rV (vB (decide (x.no≥c.next))) rfl<|rE 47 ?_;refine aQ rfl (λ h4=>?_) (λ h4=>?_)
    ·have h4p:=of_decide_eq_true h4;refine cSR<|oR 1 rfl<|rE 48<|cM ?_;exact fT rfl (dH (by unfold gH;have q0:=h1;have q1:=h2;have q3:=h4;simp only[qI,cOr]at q0 q1;have hz:=HC (p:=λ e:Ent=>decide (e.no<c.next)) hx (by have z:=h4;simpa using z);rw[bY];simp only[aK,aZ,cA,rP];grind))
    ·have h4p:=aD h4;refine aY<|cRg ?_;have b1:k+1≤9223372036854775807:=by omega
     refine rW (vN (k+1)) rfl (okI (bL (show k+1≤9223372036854775807 by omega) rfl))<|oR 1 rfl<|rE 49 ?_;refine⟨k+1,λ s=>s,Weak.of_lists _ wT wH rfl,⟨by omega,DD hx (by have z:=h4;simpa using z) hk.2⟩,by show c.rob.length - (k+1)<c.rob.length - k;omega⟩
   ·have h3p:=aD h3;refine dR<|bI<|cSR<|oR 4 rfl<|rCi rfl (Yo c.data c.conf hok.data)<|oR 2 rfl<|gN rfl<|gS rfl id<|gN rfl<|gS rfl id<|gT (args:=[.agg [vI c.words.ways,.sl 1 (c.words.sets.map bA) false],.agg [vI c.conf.mode,vI c.conf.width,vI c.conf.rob,vI c.conf.queue,vI c.conf.stores,vI c.conf.slots,vI c.conf.sets,vI c.conf.ways,.sl 1 (c.conf.lat.map fD) false,vB c.conf.tables,.sl 1 (c.conf.tape.map dI) false]]) (x:=vB (wL c.words c.conf)) (g:= !(!(wL c.data c.conf))) rfl rfl rfl rfl hsT rfl rfl rfl (.inl rfl) rfl (λ hg=>Yo c.words c.conf hok.words)<|gS rfl id<|cL rfl rfl rfl (by simp)<|oR 1 rfl<|gN rfl ?_;refine gS rfl id<|gT (args:=[.agg [.sl 2 (c.guess.slots.map gsL) false,vU c.guess.hist,.sl 1 (c.guess.rets.map dI) false]]) (x:=vB (sK c.guess)) (g:= !(cJ (!(wL c.data c.conf)) true (!(wL c.words c.conf)))) rfl rfl rfl rfl (λ h=>h) rfl rfl rfl (.inl rfl) rfl (λ hg=>Im c.guess hok.guess)<|gS rfl id<|cL rfl rfl rfl (by simp)<|rE 58 ?_;refine aQ rfl (λ h5=>?_) (λ h5=>?_)
    ·refine cSR<|oR 1 rfl<|rE 59<|cM ?_;exact fT rfl (dH (by unfold gH;have q0:=h1;have q1:=h2;have q3:=h5;simp only[qI,cOr]at q0 q1 q3;rw[bY];simp only[aK,aZ,cA,rP];grind))
    ·refine aY<|bI<|cSR<|oR 2 rfl<|rW (vN c.fetched.length) rfl (bJ ftL c.fetched)<|oR 3 rfl<|rV (vB (decide (((c.fetched.length:Nat):Int)>c.conf.queue))) rfl<|oR 1 rfl<|gN rfl<|gS rfl id<|gBS (x:=vN c.stores.length) rfl id (bJ ptL c.stores)<|gN rfl<|gS rfl id<|gS rfl id<|gBS (x:=vB (decide (((c.stores.length:Nat):Int)>c.conf.stores))) rfl hsT rfl ?_;refine cL rfl rfl rfl (by simp)<|rE 74 ?_;refine aQ rfl (λ h6=>?_) (λ h6=>?_)
     ·refine cSR<|oR 1 rfl<|rE 75<|cM ?_;exact fT rfl (dH (by unfold gH;have q0:=h1;have q1:=h2;have q3:=h5;have q4:=h6;simp only[qI,cOr]at q0 q1 q3 q4;rw[bY];simp only[aK,aZ,cA,rP];grind))
     ·refine aY<|bI<|cSR<|oR 2 rfl<|rW (vN c.stores.length) rfl (bJ ptL c.stores)<|oR 1 rfl<|rE 78<|bE<|jG (κ:=Nat) (λ j=>⟨slotsF [(1,.ptr 0 0),(24,vB (cJ (cJ (!(tK c.conf)) true (decide (c.prog.length>64))) true (!(c.mem.toList==(lK c.mem).toList)))),(37,vB (cJ (!(Cb c.rob)) true (decide (((c.rob.length:Nat):Int)>c.conf.rob)))),(42,vB (decide (k<c.rob.length))),(70,vB (cJ (cJ (!(wL c.data c.conf)) true (!(wL c.words c.conf))) true (!(sK c.guess)))),(86,vB (cJ (decide (((c.fetched.length:Nat):Int)>c.conf.queue)) true (decide (((c.stores.length:Nat):Int)>c.conf.stores)))),(88,.sl 2 (c.stores.map ptL) false),(89,vN c.stores.length),(90,vN j)],heapF [(0,.box (coL c))],78⟩) (λ j=>j≤c.stores.length∧(c.stores.take j).all (λ p=>nX (c.mem.size:Int) p.addr (p.data.size:Int))=true) (λ j=>c.stores.length - j) 0 (λ s=>s) (Weak.of_lists (λ s=>s) wT wH rfl) (⟨aE _,rfl⟩) ?_;intro j hj;have hjn:j≤c.stores.length:=hj.1;have hjB:j≤9223372036854775807:=by have:=hok.sto;omega
      have hsl:=hok.sto;refine cSR<|rW (vB (decide (j<c.stores.length))) rfl (okB (ltN _ _))<|rE 79<|bI ?_;refine aQ rfl (λ h7=>?_) (λ h7=>?_)
      ·have h7p:=of_decide_eq_true h7;refine aY<|bI<|bE<|cSR ?_;obtain⟨p,hp⟩:∃ x,c.stores[j]?=some x:=⟨_,aA omT⟩;have hpo:=hok.stoo p (aB hp);refine rIx (ptL p) (.dp 2 0 (ptL p)) rfl rfl (fM hp) rfl<|oR 1 rfl<|rAl 81 rfl rfl<|rSt rfl<|rE 83<|cSR<|oR 2 rfl<|rV (vN c.mem.size) rfl<|oR 4 rfl<|rV (vN p.data.size) rfl<|rCi rfl (Qu (c.mem.size:Int) p.addr (p.data.size:Int) (by have:=hok.mem;omega) (BX hpo.addr))<|oR 1 rfl<|rE 93 ?_;refine aQ rfl (λ h8=>?_) (λ h8=>?_)
       ·refine cSR<|oR 1 rfl<|rE 94<|cM ?_;exact fT rfl (dH (by unfold gH;have q0:=h1;have q1:=h2;have q3:=h5;have q4:=h6;have q6:=h8;simp only[qI,cOr]at q0 q1 q3 q4;have hz:=HC (p:=λ p:Pt=>nX (c.mem.size:Int) p.addr (p.data.size:Int)) hp (by have z:=h8;simpa using z);rw[bY];simp only[aK,aZ,cA,rP];grind))
       ·refine aY<|cRg ?_;have b2:j+1≤9223372036854775807:=by omega
        refine rW (vN (j+1)) rfl (okI (bL (show j+1≤9223372036854775807 by omega) rfl))<|oR 1 rfl<|rE 95 ?_;refine⟨j+1,λ s=>s,Weak.of_lists _ wT wH rfl,⟨by omega,DD hp (by have z:=h8;simpa using z) hj.2⟩,by show c.stores.length - (j+1)<c.stores.length - j;omega⟩
      ·have h7p:=aD h7;refine dR<|cSR<|oR 1 rfl<|rE 80<|cM ?_;have hz1:=DE (p:=λ e:Ent=>decide (e.no<c.next)) omT hk.2;have hz2:=DE (p:=λ p:Pt=>nX (c.mem.size:Int) p.addr (p.data.size:Int)) omT hj.2;exact fT rfl (dH (by unfold gH;have q0:=h1;have q1:=h2;have q3:=h5;have q4:=h6;simp only[qI,cOr]at q0 q1 q3 q4;rw[bY];simp only[aK,aZ,true_iff];grind))
def QR(h:AH):AV→AV
 | .ptr s c=>match h s with|some (.box cells)=>.dp cells.length c (qX h cells)|_=>.any
 |x=>vG h x
def JS(h:AH):List AV→List AV
 |[]=>[]
 |x::xs=>QR h x::JS h xs
def QS(h:AH):AV→Prop
 | .ptr s _=>match h s with|some (.box cells)=>eT (qX h cells)=true∧jU h cells|_=>True
 |x=>jT h x
def WP(h:AH):List AV→Prop
 |[]=>True
 |x::xs=>QS h x∧WP h xs
theorem JT(h:AH):∀ (l:List AV),(JS h l).length=l.length
 |[]=>rfl
 |_::l=>congrArg (· +1) (JT h l)
theorem JU(h:AH):∀ (l:List AV) (i:Nat) (x:AV),(JS h l)[i]?=some x→∃ y,l[i]?=some y∧x=QR h y
 |[],i,x,hx=>by simp[JS]at hx
 |y::l,0,x,hx=>by simp[JS]at hx;exact⟨y,rfl,hx.symm⟩
 |y::l,i+1,x,hx=>by simp[JS]at hx;exact JU h l i x hx
theorem JV(h:AH):∀ (l:List AV),WP h l→∀ (i:Nat) y,l[i]?=some y→QS h y
 |[],_,i,y,hy=>by simp at hy
 |x::l,hl,0,y,hy=>by simp at hy;subst hy;exact hl.1
 |x::l,hl,i+1,y,hy=>JV h l hl.2 i y (by simpa using hy)
theorem Ah(h:AH):∀ (l:List AV),(qX h l).length=l.length
 |[]=>by simp[qX]
 |_::l=>by simp[qX,Ah h l]
theorem JW(h:AH):∀ (l:List AV) (i:Nat) (x:AV),(qX h l)[i]?=some x→∃ y,l[i]?=some y∧x=vG h y
 |[],i,x,hx=>by simp[qX]at hx
 |y::l,0,x,hx=>by simp[qX]at hx;exact⟨y,rfl,hx.symm⟩
 |y::l,i+1,x,hx=>by simp[qX]at hx;exact JW h l i x hx
theorem ER(h:AH):∀ (l:List AV),jU h l→∀ (i:Nat) y,l[i]?=some y→jT h y
 |[],_,i,y,hy=>by simp at hy
 |x::l,hl,0,y,hy=>by simp only[jU]at hl;simp at hy;subst hy;exact hl.1
 |x::l,hl,i+1,y,hy=>by simp only[jU]at hl;exact ER h l hl.2 i y (by simpa using hy)
section
variable {S:Nat→Prop}{w:World}{β:Bt}{h:AH}{B:Nat}
theorem QT(H:SimH B S w β h){a:AV}{v:Value}(hr:Rep S w β a v)(hl:QS h a):Rep (λ b=>b<w.heap.size) w β (QR h a) v:=by
 have hS:∀ b,(S b∨(B≤b∧b<w.heap.size))→b<w.heap.size:=λ b hb=>hb.elim (H.lt b) (·.2);by_cases hp:∃ s c,a=.ptr s c
 ·obtain⟨s,c,rfl⟩:=hp
  cases hr with
  |ptr _ _ l hlo=>
  simp only[QR];simp only[QS]at hl
  cases hs:h s with
  |none=>exact .any _
  | some blk=>
   cases blk with
   |arr rows rs=>exact .any _
   |row cells=>exact .any _
   | box cells=>
    simp only[hs]at hl⊢;obtain⟨l',ds,e',fr',k1,k2,k3,k4,k5,k6⟩:=H.own s _ hs;obtain rfl:l'=l:=by rw[hlo]at k1;exact (Option.some.inj k1).symm
    have hlt:∀ (j:Nat) a,(qX h cells)[j]?=some a→ds[l'.base+j]?=some (ds.getD (l'.base+j) undef)∧(ds.getD (l'.base+j) undef).oneCell'=true∧Rep (λ b=>b<w.heap.size) w noB a (ds.getD (l'.base+j) undef):=by
     intro j a hj;obtain⟨b,hb,rfl⟩:=JW h cells j a hj;obtain⟨u,q1,q2,q3⟩:=k6 j b hb;have hg:ds.getD (l'.base+j) undef=u:=by rw[aJ,q1];rfl
     rw[hg];exact⟨q1,q2,lZ ((Bs H q3 (ER h cells hl.2 j b hb)).mono hS (Evo.refl _ _) (Ku.refl _)) (gA _ hl.1 j _ hj) _⟩
    refine .dp cells.length c (qX h cells) l'.blk l'.base (λ j=>if j<cells.length then ds.getD (l'.base+j) undef else .bool false) (Ah h cells) (fU k2) (λ j a hj=>?_) (λ j=>?_) λ j a hj=>?_
    ·have hjl:j<cells.length:=by rw[←Ah h cells];exact (DN.1 hj).1
     rw[if_pos hjl,gP k2];exact (hlt j a hj).1
    ·show (if j<cells.length then ds.getD (l'.base+j) undef else .bool false).oneCell'=true;by_cases hjl:j<cells.length
     ·rw[if_pos hjl];exact (hlt j _ (aA (by rw[Ah];exact hjl))).2.1
     ·rw[if_neg hjl];rfl
    ·have hjl:j<cells.length:=by rw[←Ah h cells];exact (DN.1 hj).1
     rw[if_pos hjl];exact (hlt j a hj).2.2
 ·have e1:QR h a=vG h a:=by cases a<;>first|rfl|exact absurd ⟨_,_,rfl⟩ hp
  have e2:QS h a=jT h a:=by cases a<;>first|rfl|exact absurd ⟨_,_,rfl⟩ hp
  rw[e1];rw[e2]at hl;exact (Bs H hr hl).mono hS (Evo.refl _ _) (Ku.refl _)
end
theorem qF.of_dcall{C:Ctx}{f:FuncId}{args:List AV}{h:AH}{s:Nat}{r:AV}(hD:bV C f (JS h args) r)(hcl:eT (JS h args)=true)(hlk:WP h args)(hfl:BE r=true):qF C.P C.G f args h s (λ x h'=>x=r∧h'=h):=by
 obtain⟨hm,hcall⟩:=hD;refine⟨hm,λ B S w β vs H hdom hG hargs=>?_⟩;refine (hcall (λ b=>b<w.heap.size) w vs (λ _ h=>h) (λ g cells hg=>(hG g cells hg).mono H.lt (Evo.refl _ _) (Ku.refl _)) ⟨by rw[JT];exact hargs.1,λ i y u p q=>?_⟩).mono ?_
 ·obtain⟨z,hz,rfl⟩:=JU h args i y p;exact lZ (QT H (hargs.2 i z u hz q) (JV h args hlk i z hz)) (gA _ hcl i _ p) _
 ·rintro e w' ⟨v,he,hB,hr⟩;have hE:Evo S w w':=Evo.of_kept (λ b hb=>hB.block b hb) H.lt;refine⟨v,S,β,r,h,⟨rfl,rfl⟩,he,LW hr hfl,⟨λ s' blk hs'=>?_,H.inj,λ b hb=>Nat.lt_of_lt_of_le (H.lt b hb) hB.size,aN H.big hB.size⟩,⟨λ _ h=>h,hE,hB.mono H.big,Ku.refl _,λ _ _ hx=>.inl hx,λ b hb=>.inl hb,λ b hb _=>hB.block b hb⟩⟩;obtain⟨l,cs,e',fr,k1,k2,k3,k4,k5,k6⟩:=H.own s' blk hs';exact⟨l,cs,e',fr,k1,(hB.block _ (fU k2)).trans k2,k3,k4,k5,k6.mono (λ _ h=>h) hE (Ku.refl _)⟩
def FrL(ρ:Nat→Nat)(K:AH)(s s2:Nat):List (Nat×Blk)→Prop
 |[]=>True
 |(i,b)::l=>(Nat.blt (ρ i) s2=true∧Nat.blt i s=true∧qR s b=true∧K (ρ i)=some (Dj ρ b))∧FrL ρ K s s2 l
theorem FrL.get{ρ:Nat→Nat}{K:AH}{s s2:Nat}:∀ {l:List (Nat×Blk)},FrL ρ K s s2 l→∀ x blk,heapF l x=some blk→ρ x<s2∧x<s∧qR s blk=true∧K (ρ x)=some (Dj ρ blk)
 |[],_,x,blk,h=>by cases h
 | (i,b)::l,hl,x,blk,h=>by
  simp only[heapF]at h
  cases hq:Nat.beq i x with
  |true=>
   rw[hq]at h;injection h with h;subst h;rw[←aM hq]
   exact⟨aO hl.1.1,aO hl.1.2.1,hl.1.2.2.1,hl.1.2.2.2⟩
  |false=>rw[hq]at h;exact FrL.get hl.2 x blk h
def TJ(ρ:Nat→Nat):Nat→Bool
 |0=>true
 |k+1=>(List.range k).all (λ j=> !Nat.beq (ρ j) (ρ k))&&TJ ρ k
theorem MU{ρ:Nat→Nat}:∀ {s:Nat},TJ ρ s=true→∀ x y,x<s→y<s→ρ x=ρ y→x=y
 |0,_,x,_,hx,_,_=>absurd hx (eD _)
 | k+1,h,x,y,hx,hy,e=>by
  simp only[TJ,aK,iK,nM,qP]at h;rcases al_Nat_lt_or_ge x k with h1|h1<;>rcases al_Nat_lt_or_ge y k with h2|h2
  ·exact MU h.2 x y h1 h2 e
  ·have:y=k:=by omega
   subst this;have:=h.1 x h1;rw[e]at this;simp at this
  ·have:x=k:=by omega
   subst this;have:=h.1 y h2;rw[e]at this;simp at this
  ·omega
theorem qF.frameL{P:Program}{G:Nat→Option (List AV)}{f:FuncId}{args:List AV}{L:List (Nat×Blk)}{s:Nat}{Post:AV→AH→Prop}(H:qF P G f args (heapF L) s Post)(ρ:Nat→Nat)(K:AH)(s2:Nat)(hfull:Dr (heapF L) s=true)(hL:FrL ρ K s s2 L)(hi:TJ ρ s=true)(ha:mU s args=true)
  (Post':AV→AH→Prop) (hPost:∀ r h',Post r h'→∃ K',Post' (uM (FE ρ s s2) r) K'∧∀ y blk,K' y=some blk→(∃ x blk0,h' x=some blk0∧y=FE ρ s s2 x∧blk=Dj (FE ρ s s2) blk0)∨(K y=some blk∧∀ x,x<s→ρ x≠y)):qF P G f (AG ρ args) K s2 Post':=
 H.frame ρ K s2 hfull (λ x hx=>by
  cases hb:heapF L x with
  |none=>exact absurd hb hx
  |some blk=>exact (hL.get x blk hb).2.1) (λ x blk hx=>let ⟨a,_,c,d⟩:=hL.get x blk hx;⟨a,c,d⟩) (MU hi) ha Post' hPost
mutual
theorem JX{s:Nat}{σ τ:Nat→Nat}(h:∀ x,x<s→σ x=τ x):∀ (a:AV),mT s a=true→uM σ a=uM τ a
 | .ptr x c,hb=>by simp only[uM];rw[h x (by simpa [mT]using hb)]
 | .ptr2 x r c,hb=>by simp only[uM];rw[h x (by simpa [mT]using hb)]
 | .osl x lo n c,hb=>by simp only[uM];rw[h x (by simpa [mT]using hb)]
 | .agg cs,hb=>by simp only[uM];rw[vT h cs (by simpa [mT]using hb)]
 | .tup cs,hb=>by simp only[uM];rw[vT h cs (by simpa [mT]using hb)]
 | .clo f a b,hb=>by
  simp only[mT]at hb;split at hb
  ·rename_i ha;simp only[uM];rw[vT h a ha,vT h b hb]
  ·cases hb
 | .opt g x,hb=>by simp only[uM];rw[JX h x (by simpa [mT]using hb)]
 | .v _,_| .sl _ _ _,_| .dp _ _ _,_| .any,_=>by simp[uM]
theorem vT{s:Nat}{σ τ:Nat→Nat}(h:∀ x,x<s→σ x=τ x):∀ (cs:List AV),mU s cs=true→AG σ cs=AG τ cs
 |[],_=>by simp[AG]
 |c::cs,hb=>by
  simp only[mU]at hb;split at hb
  ·rename_i hc;simp only[AG];rw[JX h c hc,vT h cs hb]
  ·cases hb
end
theorem xW(ρ:Nat→Nat)(s s2:Nat)(blk:Blk)(hb:qR s blk=true):Dj (FE ρ s s2) blk=Dj ρ blk:=by
 have hx:∀ x,x<s→FE ρ s s2 x=ρ x:=λ x hx=>rM ρ omT
 cases blk with
 |box cells=>simp only[Dj];rw[vT hx cells hb]
 |arr rows rs=>rfl
 |row cells=>simp only[Dj];rw[vT hx cells hb]
theorem qF.frameU{P:Program}{G:Nat→Option (List AV)}{f:FuncId}{args:List AV}{L:List (Nat×Blk)}{s:Nat}{r:AV}(H:qF P G f args (heapF L) s (λ x h'=>x=r∧h'=heapF L))(ρ:Nat→Nat)(K:AH)(s2:Nat)(hfull:Dr (heapF L) s=true)(hL:FrL ρ K s s2 L)(hi:TJ ρ s=true)(ha:mU s args=true)(hr:eS r=true):qF P G f (AG ρ args) K s2 (λ x h'=>x=r∧h'=K):=by
 refine H.frameL ρ K s2 hfull hL hi ha _ λ r' h' hP=>?_;obtain⟨rfl,rfl⟩:=hP;refine⟨K,⟨yO _ _ hr,rfl⟩,λ y blk hy=>?_⟩;by_cases hx:∃ x,x<s∧ρ x=y
 ·obtain⟨x,hxs,rfl⟩:=hx;obtain⟨blk0,hb0⟩:=Dv.1 (uB hfull x hxs);have hk:=hL.get x blk0 hb0;rw[hk.2.2.2]at hy;injection hy with hy;refine .inl ⟨x,blk0,hb0,(rM ρ omT).symm,?_⟩;rw[←hy];exact (xW ρ s s2 blk0 hk.2.2.1).symm
 ·exact .inr ⟨hy,λ x hxs e=>hx ⟨x,hxs,e⟩⟩
structure FOk(F:Fence)(P:Program):Prop where
 fn:∀ f,F.fn f
 dep:F.depth=none
 calls:∀ {f args w R} (m:Nat),Calls P f args w R→CallsIn F m P f args w R
 rows:∀ {r args w R} (m:Nat),Rows P r args w R→RowsIn F m P r args w R
theorem EU{n:Nat}{P:Program}{row:String}{args:Array Value}{w:World}{R:Value→World→Prop}(h:Rows P row args w R):RowsIn Fence.wide n P row args w R:=
 λ c cs _=>let ⟨v,w',r,s⟩:=h c cs;⟨v,w',r,stepsIn_wide.2 s⟩
theorem DL(P:Program):FOk Fence.wide P:=⟨λ _=>trivial,rfl,λ _ h=>callsIn_wide.2 h,λ _ h=>EU h⟩
theorem Ka(P:Program)(l:Nat):FOk (Fence.wide.inRound l) P:=⟨λ _=>trivial,rfl,λ _ h=>CallsIn.inRound l (callsIn_wide.2 h),λ m h=>(EU (n:=m) h:_)⟩
def tmk(kp:Nat→Bool)(a a':Act):Prop:=∀ i,kp i=true→a'.tmps.getD i undef=a.tmps.getD i undef
theorem tmk.refl(kp:Nat→Bool)(a:Act):tmk kp a a:=λ _ _=>rfl
theorem tmk.trans{kp:Nat→Bool}{a b c:Act}(h:tmk kp a b)(k:tmk kp b c):tmk kp a c:=λ i hi=>(k i hi).trans (h i hi)
def QX(o:Oper):Bool:=match o.op with| .defer _=>false|_=>true
def Kb(kp:Nat→Bool)(o:Oper):Bool:=match o.dst with|some d=> !kp d|none=>true
def Kc(kp:Nat→Bool)(l:List Oper):Bool:=l.all λ o=>QX o&&Kb kp o
theorem MX{kp:Nat→Bool}{o:Oper}(hk:Kb kp o=true)(a:Act)(ds:List Deferred)(v:Value):tmk kp a ({a with defers:=ds}.put o.dst v):=by
 intro i hi;unfold Kb at hk
 cases hd:o.dst with
 |none=>rfl
 |some k=>
  rw[hd]at hk;have hne:i≠k:=λ e=>by subst e;simp[hi]at hk
  simp[Act.put,aJ,cZ (Ne.symm hne)]
section
variable {F:Fence}{m:Nat}{P:Program}{ops:Array Oper}{Q Q':Exit→Act→World→Prop}{kp:Nat→Bool}
theorem WS(hF:FOk F P){o:Oper}(hd:QX o=true)(hno: ¬ LetsOut Q)(hQ:∀ c a w,Q (.panic c) a w→Q' (.panic c) a w){a:Act}{w:World}{K:Act→World→Prop}(h:o.wp P a w K Q):
  o.wpIn F m P a w (λ a' w'=>K a' w'∧∃ v ds,a'={a with defers:=ds}.put o.dst v) Q':=by
 unfold Oper.wpIn;refine⟨λ f _=>hF.fn f,?_⟩;rw[Oper.semAt_eq _ _ _ (λ c hc=>by unfold QX at hd;rw[hc]at hd;cases hd)];unfold Oper.wp at h;generalize (execOp a.eval o).run P w=r at h;have dep:F.depth.isSome=true→1≤m:=λ hd=>by rw[hF.dep]at hd;cases hd
 cases r with
 | ok n w'=>
  cases n with
  |value v=>exact⟨h,v,a.defers,rfl⟩
  |skip=>exact⟨h,undef,a.defers,rfl⟩
  |defer d=>exact⟨h,undef,d::a.defers,rfl⟩
  |enter f args=>
   refine⟨dep,hF.calls _ (Calls.mono h λ e w'' he=>?_)⟩
   cases e with
   |returned v=>exact⟨he,v,a.defers,rfl⟩
   |panicked c=>exact hQ _ _ _ he
   |outgrown=>exact absurd he hno
  |row r args=>exact⟨dep,hF.rows _ (Rows.mono h λ v w'' he=>⟨he,v,a.defers,rfl⟩)⟩
  |_=>exact h.elim
 |halt x w'=>cases x<;>first|exact hQ _ _ _ h|exact h.elim
theorem Lz(hF:FOk F P){o:Oper}(hd:QX o=true)(hk:Kb kp o=true)(hno: ¬ LetsOut Q)(hQ:∀ c a w,Q (.panic c) a w→Q' (.panic c) a w){a:Act}{w:World}{K K':Act→World→Prop}
  (h:if Region.wanted o (yielded ops a.tmps)then o.wp P a w K Q∨(o.asks P a w∧LetsOut Q)else K (a.put o.dst undef) w) (hK:∀ a' w',K a' w'→tmk kp a a'→K' a' w'):
  if Region.wanted o (yielded ops a.tmps)then o.wpIn F m P a w K' Q' else (∀ f,o.about P w a.eval=some f→F.fn f)∧K' (a.put o.dst undef) w:=by
 split
 ·rename_i hw;simp only[hw,lD]at h;rcases h with h|⟨_,h⟩
  ·exact Oper.wpIn_mono (λ a' w' ⟨h1,v,ds,e⟩=>hK a' w' h1 (by rw[e];exact MX hk a ds v)) (WS hF hd hno hQ h)
  ·exact absurd h hno
 ·rename_i hw;simp only[hw]at h;exact⟨λ f _=>hF.fn f,hK _ _ h (MX hk a a.defers undef)⟩
def QTm(kp:Nat→Bool)(a0:Act)(Q:Exit→Act→World→Prop):Exit→Act→World→Prop:=λ e a w=>Q e a w∧(e=.normal→tmk kp a0 a)
theorem Ip(hl:Kc kp ops.toList=true){i:Nat}{o:Oper}(ho:ops[i]?=some o):QX o=true∧Kb kp o=true:=by
 have:=iK.1 hl o (aB (i:=i) (by rw[bK];exact ho));simpa using this
theorem Iq(hF:FOk F P)(hl:Kc kp ops.toList=true)(hno: ¬ LetsOut Q){a0:Act}:∀ (l:List Nat) (a:Act) (w:World),wpOps P ops Q l a w→tmk kp a0 a→wpOpsIn F m P ops (QTm kp a0 Q) l a w
 |[],a,w,h,ht=>⟨h,λ _=>ht⟩
 | i::l,a,w,h,ht=>by
  simp only[wpOps]at h;simp only[wpOpsIn]
  cases ho:ops[i]? with
  |none=>rw[ho]at h;exact Iq hF hl hno l a w h ht
  |some o=>
   rw[ho]at h;obtain⟨h1,h2⟩:=Ip hl ho;exact Lz (ops:=ops) hF h1 h2 hno (λ c a w q=>⟨q,λ e=>by cases e⟩) h λ a' w' hk hm=>Iq hF hl hno l a' w' hk (ht.trans hm)
theorem Cl(hF:FOk F P)(hl:Kc kp ops.toList=true)(hno: ¬ LetsOut Q){a0:Act}:∀ (fuel:Nat) (listed:Array Bool) (a:Act) (w:World),wpAny P .any ops Q fuel listed a w→tmk kp a0 a→wpAnyIn F m P .any ops (QTm kp a0 Q) fuel listed a w
 |0,listed,a,w,h,ht=>⟨h.1,h.2,λ _=>ht⟩
 | fuel+1,listed,a,w,h,ht=>by
  refine⟨λ hr=>⟨h.1 hr,λ _=>ht⟩,λ i hi=>?_⟩;have h1:=h.2 i hi;unfold wpOp at h1;unfold wpOpIn
  cases ho:ops[i]? with
  |none=>rw[ho]at h1;exact Cl hF hl hno fuel _ a w h1 ht
  |some o=>
   rw[ho]at h1;obtain⟨h2,h3⟩:=Ip hl ho;exact Lz (ops:=ops) hF h2 h3 hno (λ c a w q=>⟨q,λ e=>by cases e⟩) h1 λ a' w' hk hm=>Cl hF hl hno fuel _ a' w' hk (ht.trans hm)
end
def oU(N:Nat)(kp:Nat→Bool):Code→Bool
 | .region _ ops _=>uZ N ops.toList&&Kc kp ops.toList
 | .seq a b=>oU N kp a&&oU N kp b
 | .cond _ a b=>oU N kp a&&oU N kp b
 | .block _ b=>oU N kp b
 | .loop _=>false
 |_=>true
section
variable {F:Fence}{m:Nat}{C:Ctx}{V:Inv C.fr}{w0:World}{S0:Nat→Prop}{N:Nat}{kp:Nat→Bool}{a0:Act}
def aa8(C:Ctx)(V:Inv C.fr)(w0:World)(S0:Nat→Prop)(N:Nat)(kp:Nat→Bool)(a0:Act)(Q:AEx→ASt→Prop)(e:Exit)(a:Act)(w:World):Prop:=∃ e' st S β,e=FN e'∧Q e' st∧SimD C V w0 S0 N (· <st.n) st.t st.h a w S β∧tmk kp a0 a
theorem Bk(hF:FOk F C.P)(hC:CtxOk C):∀ (c:Code),oU N kp c=true→∀ (st:ASt) (Q:AEx→ASt→Prop),fW C (bV C) c st Q→∀ (a:Act) (w:World) (S:Nat→Prop) (β:Bt),SimD C V w0 S0 N (· <st.n) st.t st.h a w S β→tmk kp a0 a→
  c.wpIn F m C.P (aa8 C V w0 S0 N kp a0 Q) a w:=by
 intro c
 induction c with
 |skip=>intro _ st Q hq a w S β M ht;exact wpIn_skip ⟨.normal,st,S,β,rfl,hq,M,ht⟩
 |label l=>intro _ st Q hq a w S β M ht;exact wpIn_label ⟨.normal,st,S,β,rfl,hq,M,ht⟩
 |exit id=>intro _ st Q hq a w S β M ht;exact wpIn_exit ⟨.exit id,st,S,β,rfl,hq,M,ht⟩
 |ret=>intro _ st Q hq a w S β M ht;exact wpIn_ret ⟨.ret,st,S,β,rfl,hq,M,ht⟩
 | region id ops dr=>
  intro hk st Q hq a w S β M ht;simp only[oU,aK]at hk;obtain⟨t,h,n⟩:=st;simp only[fW]at hq;obtain⟨Q2,hQ2⟩:∃ Q2:Exit→Act→World→Prop,Q2=λ e a w=>e=.normal∧∃ st S β,Q .normal st∧SimD C V w0 S0 N (· <st.n) st.t st.h a w S β:=⟨_,rfl⟩;have hno: ¬ LetsOut Q2:=by rintro ⟨a,w,h⟩;rw[hQ2]at h;cases h.1
  have fin:∀ e a w,QTm kp a0 Q2 e a w→aa8 C V w0 S0 N kp a0 Q e a w:=by
   rintro e a w ⟨h1,h2⟩;rw[hQ2]at h1;obtain⟨rfl,st,S,β,h3,h4⟩:=h1;exact⟨.normal,st,S,β,rfl,h3,h4,h2 rfl⟩
  have mk:∀ st' a' w' S' β',Q .normal st'→SimD C V w0 S0 N (· <st'.n) st'.t st'.h a' w' S' β'→Q2 .normal a' w':=λ st' a' w' S' β' h1 h2=>by rw[hQ2];exact⟨rfl,st',S',β',h1,h2⟩
  cases dr with
  |false=>
   simp only[qC]at hq;have:=DV (Q:=Q2) (K:=Q .normal) hC (ops:=ops) rfl hk.1 ops.toList 0 t h a w S β rfl hq M mk;rw[show List.range' 0 ops.toList.length=List.range ops.size by rw[oG,dW]]at this
   exact wpIn_mono (wpIn_region (Iq hF hk.2 hno _ a w this ht)) fin
  | true=>
   simp only[eL]at hq;refine wpIn_mono (wpIn_region_any hC.mixed (Q:=QTm kp a0 Q2) ?_) fin
   cases hl:Ec ops.toList with
   |true=>
    rw[hl]at hq;rcases hq with hq|⟨_,hq⟩
    rotate_left
    ·exact Cl hF hk.2 hno _ _ _ _ (DS (C:=C.noH) (V:=V) hC.noH (λ _ _ _ _ _ h=>h) hk.1 hq (SimD.noH M) (λ st' a' w' S' β' hk' M'=>mk st' a' w' S' β' hk' (SimD.ofNoH M'))) ht
    have M':=M.drawn (w.drawn+1)
    exact Cl hF hk.2 hno _ _ _ _ (Cq (C:=C.noH) (V:=V) hC.noH (λ _ _ _ _ _ h=>h) hk.1 (λ st' a' w' S' β' hk' M'=>mk st' a' w' S' β' hk' (SimD.ofNoH M')) ops.size _ t h a _ S β (by simp) hq ⟨M'.T,M'.H,M'.B,λ y l hy=>.inl (M'.dom y l hy),M'.df,M'.sz,M'.G,M'.nw,M'.iv⟩) ht
   |false=>
   rw[hl]at hq;have hd:Ja ops.toList=true:=by simp only[Ec,dL,mL]at hl;exact hl.2
   exact Cl hF hk.2 hno _ _ _ _ (FR (C:=C.noH) (V:=V) hC.noH (λ _ _ _ _ _ h=>h) hk.1 hd hq (SimD.noH M) (λ st' a' w' S' β' hk' M'=>mk st' a' w' S' β' hk' (SimD.ofNoH M'))) ht
 | seq x y ihx ihy=>
  intro hk st Q hq a w S β M ht;simp only[oU,aK]at hk;simp only[fW]at hq;rcases hq with hq|hq|hq
  ·refine wpIn_seq (wpIn_mono (ihx hk.1 st _ hq a w S β M ht) ?_);rintro e a' w' ⟨e',st',S',β',rfl,h1,h2,h3⟩
   cases e' with
   |normal=>exact ihy hk.2 st' Q h1 a' w' S' β' h2 h3
   |exit i=>exact⟨.exit i,st',S',β',rfl,h1,h2,h3⟩
   |ret=>exact⟨.ret,st',S',β',rfl,h1,h2,h3⟩
  ·refine wpIn_seq (wpIn_mono (ihx hk.1 st _ hq a w S β M ht) ?_);rintro e a' w' ⟨e',st',S',β',rfl,h1,h2,h3⟩
   cases e' with
   |normal=>
    obtain⟨st2,g1,g2⟩:=h1;obtain⟨S2,h4⟩:=nN g1 h2
    exact ihy hk.2 st2 Q g2 a' w' S2 β' h4 h3
   |exit i=>exact⟨.exit i,st',S',β',rfl,h1,h2,h3⟩
   |ret=>exact⟨.ret,st',S',β',rfl,h1,h2,h3⟩
  ·refine wpIn_seq (wpIn_mono (ihx hk.1 st _ hq a w S β M ht) ?_);rintro e a' w' ⟨e',st',S',β',rfl,h1,h2,h3⟩
   cases e' with
   |normal=>
    obtain⟨st2,g1,st3,σ,hW,hf,g2⟩:=h1;obtain⟨S2,h4⟩:=nN g1 h2
    exact ihy hk.2 st3 Q g2 a' w' S2 _ (pR hW hf h4) h3
   |exit i=>exact⟨.exit i,st',S',β',rfl,h1,h2,h3⟩
   |ret=>exact⟨.ret,st',S',β',rfl,h1,h2,h3⟩
 | cond c x y ihx ihy=>
  intro hk st Q hq a w S β M ht;simp only[oU,aK]at hk;simp only[fW]at hq;split at hq
  ·rename_i b hb;obtain⟨h1,h2⟩:=hq;have hv:=sX M c;rw[hb]at hv;refine wpIn_cond_split (lP hv) (λ htt=>ihx hk.1 st Q (h1 htt) a w S β M ht) (λ hf=>ihy hk.2 st Q (h2 hf) a w S β M ht)
  ·exact hq.elim
 | block id b ih=>
  intro hk st Q hq a w S β M ht;simp only[oU]at hk;simp only[fW]at hq;refine wpIn_block (wpIn_mono (ih hk st _ hq a w S β M ht) ?_);rintro e a' w' ⟨e',st',S',β',rfl,h1,h2,h3⟩
  cases e' with
  |normal=>exact⟨.normal,st',S',β',rfl,h1,h2,h3⟩
  |ret=>exact⟨.ret,st',S',β',rfl,h1,h2,h3⟩
  | exit i=>
   show Exit.inBlock id _ (.exit i) a' w';simp only at h1;simp only[Exit.inBlock];by_cases hi:i=id
   ·subst hi;rw[if_pos rfl];rw[show Nat.beq i i=true from nL i]at h1;exact⟨.normal,st',S',β',rfl,h1,h2,h3⟩
   ·rw[if_neg hi];have:Nat.beq i id=false:=by rw[←eP];exact λ e=>hi (aM e)
    rw[this]at h1
    exact⟨.exit i,st',S',β',rfl,h1,h2,h3⟩
 |loop b ih=>intro hk;simp[oU]at hk
 |_=>intro _ st Q hq;exact hq.elim
theorem Bl(hF:FOk F C.P)(hC:CtxOk C)(nH:NoH C){ops:Array Oper}{all:List Oper}(hall:ops.toList=all)(hb:uZ N all=true)(hl:Kc kp all=true){K:ASt→Prop}{Q:Exit→Act→World→Prop}{n:Nat}(post:List Nat):∀ (rest:List Oper) (j:Nat) (t:Nat→AV) (h:AH) (a:Act) (w:World) (S:Nat→Prop) (β:Bt),(∃ q,all.drop j=rest++q)→jZ C (bV C) all rest j ⟨t,h,n⟩ K→SimD C V w0 S0 N (· <n+j) t h a w S β→tmk kp a0 a→
  (∀ st a' w' S' β',K st→SimD C V w0 S0 N (· <st.n) st.t st.h a' w' S' β'→tmk kp a0 a'→wpOpsIn F m C.P ops Q post a' w')→wpOpsIn F m C.P ops Q (List.range' j rest.length++post) a w
 |[],j,t,h,a,w,S,β,_,hr,M,ht,hQ=>hQ ⟨t,h,n+j⟩ a w S β hr M ht
 | o::rest,j,t,h,a,w,S,β,⟨q,hdrop⟩,hr,M,ht,hQ=>by
  obtain⟨x,h',h1,h2⟩:=(step_inv hr).resolve_right (λ⟨_,f,args,Post,_,hh,_⟩=>nH _ _ _ _ _ hh);have hj:all[j]?=some o:=by
   have:(all.drop j)[0]?=some o:=by rw[hdrop];rfl
   simpa using this
  have hoj:ops[j]?=some o:=by rw[←hj, ←hall,bK]
  have hmem:o∈all:=aB hj;have hs:β (n+j)=none:=by
   cases hq:β (n+j)with
   |none=>rfl
   |some l=>have:=M.dom _ _ hq;omega
  obtain⟨l1,l2⟩:=Ip (ops:=ops) (kp:=kp) (by rw[hall];exact hl) hoj;rw[bR,oE,oD];simp only[wpOpsIn,hoj];obtain⟨Q2,hQ2⟩:∃ Q2:Exit→Act→World→Prop,Q2=λ _ _ _=>False:=⟨_,rfl⟩;refine Lz (ops:=ops) (Q:=Q2) hF l1 l2 (by rintro ⟨a,w,h⟩;rw[hQ2]at h;exact h) (λ c a w h=>by rw[hQ2]at h;exact h.elim)
   (xE (K:=λ a' w'=>∃ S' β',SimD C V w0 S0 N (λ y=>y<n+j∨y=n+j) (zD t o.dst x) h' a' w' S' β') hC M hs hall h1 (wE hb hmem) (λ i pol d _ hd=>Bu hb i d hd) λ a' w' S' β' M'=>⟨S',β',M'⟩) ?_
  rintro a' w' ⟨S',β',M'⟩ hm;refine Bl hF hC nH hall hb hl post rest (j+1) _ h' a' w' S' β' ⟨q,?_⟩ h2 ?_ (ht.trans hm) hQ
  ·rw[←kZ,hdrop];rfl
  ·exact⟨M'.T,M'.H,M'.B,λ y l hy=>(M'.dom y l hy).elim (λ (h:y<n+j)=>show y<n+(j+1) by omega) (λ (h:y=n+j)=>show y<n+(j+1) by omega),M'.df,M'.sz,M'.G,M'.nw,M'.iv⟩
end
end Go.Proofs.YtlhofpglndhfaaaGreatDoor
