/- Joined texts. -/
import Derived.RangeFuncNested
import Derived.RangeFuncLeaves
import Derived.TacticsIn
import Derived.OrdersIn
import Derived.Test.YtlhofpglndhfaaaGreatDoorS101
import Derived.Test.YtlhofpglndhfaaaGreatDoorS128
import Derived.Test.YtlhofpglndhfaaaGreatDoorS130
set_option linter.unusedVariables false
set_option linter.unusedSimpArgs false
namespace Go.Proofs.YtlhofpglndhfaaaGreatDoor
set_option maxRecDepth 100000
set_option maxHeartbeats 4000000
open Go.RowKit
theorem Jh(m:ByteArray)(p:Pt):(AM m p).size=m.size:=by
 unfold AM;split
 ·simp only[kB,eF];omega
 ·rfl
theorem gY(m:ByteArray)(l:List Pt):(qC m l).size=m.size:=by
 unfold qC
 induction l generalizing m with
 |nil=>rfl
 |cons p l ih=>rw[oX,ih,Jh]
theorem FO{m:ByteArray}{l:List Pt}{k:Nat}{x:Pt}(hx:l[k]?=some x):qC m (l.take (k+1))=AM (qC m (l.take k)) x:=by
 unfold qC;rw[bR,hx];simp
theorem VC(s:ByteArray):cB s=s.data.toList.map λ b=>[AV.v (.int .u8 (b.toNat:Int))]:=rfl
theorem Ss(a b:ByteArray):(a++b).data.toList=a.data.toList++b.data.toList:=by simp
theorem Su(a:ByteArray)(i j:Nat):(a.extract i j).data.toList=(a.data.toList.take j).drop i:=by
 rw[ByteArray.data_extract,nV,List.extract_eq_take_drop,List.drop_take]
theorem Pv{m:ByteArray}{p:Pt}{n:Nat}(h:p.addr<m.size)(hn:n=m.size - p.addr):(cB m).take (0+p.addr)++(cB p.data).take (min (cB p.data).length n)++(cB m).drop (0+p.addr+min (cB p.data).length n)=cB (AM m p):=by
 subst hn;unfold AM;rw[if_pos h,bL,yE];simp only[VC,Ss,Su,eU,fV,lX,cA];have hl:(m.data.toList.map λ b=>[AV.v (.int .u8 (b.toNat:Int))]).length=m.size:=by rw[aF];exact dP
 rw[←hl,cS]
theorem Ng{m:ByteArray}{p:Pt}(h: ¬ p.addr<m.size):AM m p=m:=if_neg h
theorem LQ(m:ByteArray)(n:Nat)(h:m.size≤n):iQ (List.take n (List.drop 0 (cB m)))=some m.data.toList:=by
 rw[cA,aL (by rw[yE];exact h)];exact vA _
theorem Pw(m:ByteArray)(l:List Pt)(ck:Bool)(hm:m.size≤1000000)(hl:l.length≤1000000)(ho:∀ x∈l,x.ok):bX C0 97 [.v (.string m),.sl 2 (l.map ptL) ck] (.v (.string (qC m l))):=by
 refine dc1 (bX.intro c1Ok Tryz.func97 rfl rfl (by kernel_rfl) rfl ?_);refine cSR<|oR 1 rfl<|rE 1<|cSR<|oR 1 rfl<|rFx (x:=.osl 2 0 m.size false) (h':=upd _ 2 (some (.arr (cB m) 1))) rfl rfl (rfl) ((by show m.size≤1000000;exact hm))<|oR 1 rfl<|rE 4<|bW<|cSR<|oR 1 rfl<|rW (vN l.length) rfl (bY ptL l)<|oR 1 rfl<|rE 7<|bK<|mL (κ:=Nat) (λ k=>⟨slotsF [(4,.v (.string (⟨#[]⟩:ByteArray))),(5,.osl 2 0 m.size false),(10,.sl 2 (l.map ptL) ck),(11,vN l.length),(12,vN k)],heapF [(2,.arr (cB (qC m (l.take k))) 1)],7⟩) (λ k=>k≤l.length) (λ k=>l.length - k) 0 (λ s=>s) (Weak.of_lists (λ s=>s) wT wH rfl) (aE _) ?_;intro k hk;have hkn:k≤l.length:=hk;have hkB:k≤1000000:=by omega
 refine cSR<|rW (vB (decide (k<l.length))) rfl (okB (ltN _ _))<|rE 8<|bW<|aW rfl (λ h1=>?_) (λ h1=>?_)
 ·have h1p:=of_decide_eq_true h1;refine bB<|bW<|bK<|cSR ?_;obtain⟨x,hx⟩:∃ x,l[k]?=some x:=⟨_,aA omT⟩;have hxo:=ho x (aB hx);refine rIx (ptL x) (.dp 2 0 (ptL x)) rfl rfl (iB hx) rfl<|oR 1 rfl<|rAl 10 rfl rfl<|rSt rfl<|rE 12<|cSR<|oR 2 rfl<|rW (.v (.int .u64 ((x.addr:Nat):Int))) rfl (okI (Ig hxo.addr rfl))<|oR 1 rfl<|rV (vN m.size) rfl<|rW (.v (.int .u64 ((m.size:Nat):Int))) rfl (okI (Ig hm rfl))<|rW (vB (decide (x.addr<m.size))) rfl (okB (ltN _ _))<|rE 19<|aW rfl (λ h2=>?_) (λ h2=>?_)
  ·have h2p:=of_decide_eq_true h2;refine cRg<|oR 3 rfl<|nW (.osl 2 (0+x.addr) (m.size - x.addr) false) rfl (KH (by first|rfl|omega) (by simp only[Option.getD];omega)) slT<|oR 2 rfl ?_;have hlt:x.addr<(qC m (l.take k)).size:=by rw[gY];omega
   refine rFx (x:=vI ((min (cB x.data).length (m.size - x.addr):Nat):Int)) (h':=upd _ 2 (some (.arr (cB (qC m (l.take (k+1)))) 1))) rfl rfl (Hy (by rw[FO hx];exact Pv hlt (by rw[gY]))) (⟨by show 0+x.addr+(m.size - x.addr)≤(cB (qC m (l.take k))).length;rw[yE,gY];omega,trivial⟩)<|rE 26<|cRg ?_;have b1:k+1≤1000001:=aH hkB (aC 1);refine rW (vN (k+1)) rfl (okI (bV b1 rfl))<|oR 1 rfl<|rE 28 ?_;refine⟨k+1,λ s=>s,Weak.of_lists _ wT wH rfl,by omega,by show l.length - (k+1)<l.length - k;omega⟩
  ·have h2p:=aD h2;refine bB<|cRg ?_;have b2:k+1≤1000001:=aH hkB (aC 1);refine rW (vN (k+1)) rfl (okI (bV b2 rfl))<|oR 1 rfl<|rE 21 ?_;refine⟨k+1,λ s=>s,Weak.of_lists _ wT ⟨⟨rfl,(congrArg (λ z=>some (Blk.arr (cB z) 1)) (show qC m (l.take k)=qC m (l.take (k+1))from by rw[FO hx,Ng (by rw[gY];omega)])),rfl⟩,trivial⟩ rfl,by omega,by show l.length - (k+1)<l.length - k;omega⟩
 ·have h1p:=aD h1;refine eE<|cSR<|oR 1 rfl<|YR ((qC m (l.take k)).data.toList) rfl rfl rfl ((by show 0+m.size≤(cB (qC m (l.take k))).length;rw[yE,gY];omega)) (LQ _ _ (by rw[gY];exact aC _))<|oR 1 rfl<|rE 11<|cO ?_;exact fT rfl (by rw[aL (show l.length≤k by omega)];rfl)
theorem Ag{q:List Req}{k:Nat}{x:Req}(hx:q[k]?=some x)(h:x.kind=4):fU (q.take k)++[⟨x.line,x.data⟩]=fU (q.take (k+1)):=by
 unfold fU;rw[bR,hx];simp[jW,h]
theorem Ec{q:List Req}{k:Nat}{x:Req}(hx:q[k]?=some x)(h: ¬ x.kind=4):fU (q.take k)=fU (q.take (k+1)):=by
 unfold fU;rw[bR,hx];simp[jW,h]
theorem Ji(q:List Req):(fU q).length≤q.length:=by unfold fU;rw[aF];exact List.length_filter_le _ _
theorem Px{q:List Req}(h:∀ x∈q,x.ok):∀ x∈fU q,x.ok:=λ x hx=>by
 unfold fU at hx;obtain⟨y,hy,rfl⟩:=rQ.1 hx;exact⟨(h y (List.mem_filter.1 hy).1).line⟩
theorem LR(m:ByteArray)(hm:m.size≤1000000):bX C0 97 [.v (.string m),.sl 0 [] true] (.v (.string m)):=by
 refine dc1 (bX.intro c1Ok Tryz.func97 rfl rfl (by kernel_rfl) rfl ?_);refine cSR<|oR 1 rfl<|rE 1<|cSR<|oR 1 rfl<|rFx (x:=.osl 2 0 m.size false) (h':=upd _ 2 (some (.arr (cB m) 1))) rfl rfl (rfl) ((by show m.size≤1000000;exact hm))<|oR 1 rfl<|rE 4<|bW<|cSR<|oR 1 rfl<|rV (vI 0) rfl<|oR 1 rfl<|rE 7<|bK<|mL (κ:=Unit) (λ u_=>⟨slotsF [(5,.osl 2 0 m.size false),(10,.sl 0 ([]) true),(11,vI 0),(12,vI 0)],heapF [(2,.arr (cB m) 1)],7⟩) (λ u_=>True) (λ u_=>0) () (λ s=>s) (Weak.of_lists (λ s=>s) wT wH rfl) trivial ?_;intro u_ _;refine cSR<|rV (vB (decide (0<0))) rfl<|rE 8<|bW<|aW rfl (λ h1=>by simp at h1) (λ _=>?_);refine eE<|cSR<|oR 1 rfl<|YR (m.data.toList) rfl rfl rfl ((by show 0+m.size≤(cB m).length;rw[yE];omega)) (LQ _ _ (aC _))<|oR 1 rfl<|rE 11<|cO ?_;exact fT rfl rfl
theorem Py(q:List Req)(m:ByteArray)(ck:Bool)(hm:m.size≤1000000)(hq:q.length≤900000)(ho:∀ x∈q,x.ok):bX C0 200 [.sl 4 (q.map rqL) ck,.v (.string m)] (.v (.string (jI q m))):=by
 refine dc1 (bX.intro c1Ok Tryz.func200 rfl rfl (by kernel_rfl) rfl ?_);refine cSR<|oR 1 rfl<|rE 1<|cSR<|oR 1 rfl<|rE 2<|bW<|cSR<|oR 1 rfl<|rW (vN q.length) rfl (bY rqL q)<|oR 1 rfl<|rE 5<|bK<|mL (κ:=Nat×Bool) (λ z_=>match z_ with|(k,false)=>⟨slotsF [(1,.v (.string m)),(4,.v (.string (⟨#[]⟩:ByteArray))),(8,.sl 4 (q.map rqL) ck),(9,vN q.length),(10,vN k),(5,.sl 0 ([]) true)],heapF [],6⟩|(k,true)=>⟨slotsF [(1,.v (.string m)),(4,.v (.string (⟨#[]⟩:ByteArray))),(8,.sl 4 (q.map rqL) ck),(9,vN q.length),(10,vN k),(5,.osl 5 0 ((fU (q.take k)).length) false)],heapF [(5,.arr ((fU (q.take k)).map ptL) 2)],6⟩) (λ z_=>match z_ with|(k,false)=>(k≤q.length∧fU (q.take k)=[])|(k,true)=>(k≤q.length)) (λ z_=>q.length - z_.1) (0,false) (λ s=>s) (Weak.of_lists (λ s=>s) wT trivial rfl) (⟨aE _,(show fU (q.take 0)=[]from rfl)⟩) ?_;intro z_ hk;obtain⟨k,b_⟩:=z_;cases b_
 ·have hk_:=hk;have hnn:k≤q.length:=hk_.1;have hkB:k≤1000000:=by omega
  have hNk:fU (q.take k)=[]:=hk_.2;refine cSR<|rW (vB (decide (k<q.length))) rfl (okB (ltN _ _))<|rE 7<|bW<|aW rfl (λ h1=>?_) (λ h1=>?_)
  ·have h1p:=of_decide_eq_true h1;refine bB<|bW<|bK<|cSR ?_;obtain⟨x,hx⟩:∃ x,q[k]?=some x:=⟨_,aA omT⟩;have hxo:=ho x (aB hx);refine rIx (rqL x) (.dp 4 0 (rqL x)) rfl rfl (iB hx) rfl<|oR 1 rfl<|rAl 9 rfl rfl<|rSt rfl<|rE 11<|cSR<|oR 2 rfl<|rV (vB (x.kind==4)) rfl<|rE 14<|aW rfl (λ h2=>?_) (λ h2=>?_)
   ·have h2p:=mU h2;refine cRg<|oR 5 rfl<|rV (.agg [vU x.line,.v (.string x.data)]) rfl<|rV (.sl 2 ([[vU x.line,.v (.string x.data)]]) true) rfl<|rFx (x:=.osl 21 0 1 false) (h':=upd _ 21 (some (.arr (([(⟨x.line,x.data⟩:Pt)]).map ptL) 2))) rfl rfl (Hs omT) (⟨rfl,by exact omT,by exact omT,trivial⟩)<|oR 1 rfl<|rE 23<|cRg ?_;have b1:k+1≤1000001:=aH hkB (aC 1);refine rW (vN (k+1)) rfl (okI (bV b1 rfl))<|oR 1 rfl<|rE 25 ?_;refine⟨(k+1,true),λ i=>match i with|5=>21|i=>i,Weak.of_lists _ ⟨⟨rfl,rfl⟩,⟨rfl,rfl⟩,⟨rfl,rfl⟩,⟨rfl,rfl⟩,⟨rfl,rfl⟩,⟨(show AV.osl 21 0 (1) false=AV.osl 21 0 (fU (q.take (k+1))).length false from by rw[←(show [(⟨x.line,x.data⟩:Pt)]=fU (q.take (k+1))from (by rw[←(Ag hx h2p),hNk];rfl))];first|done|rfl|(congr 1<;>(first|exact omT|simp))),rfl⟩,trivial⟩ ⟨⟨rfl,(congrArg (λ z:List Pt=>some (Blk.arr (z.map ptL) 2)) (show [(⟨x.line,x.data⟩:Pt)]=fU (q.take (k+1))from (by rw[←(Ag hx h2p),hNk];rfl))),rfl⟩,trivial⟩ rfl,by omega,by show q.length - (k+1)<q.length - k;omega⟩
   ·have h2p:=mV h2;refine bB<|cRg ?_;have b2:k+1≤1000001:=aH hkB (aC 1);refine rW (vN (k+1)) rfl (okI (bV b2 rfl))<|oR 1 rfl<|rE 16 ?_;refine⟨(k+1,false),λ i=>i,Weak.of_lists _ wT trivial rfl,⟨by omega,(by rw[←(Ec hx h2p)];exact hNk)⟩,by show q.length - (k+1)<q.length - k;omega⟩
  ·have h1p:=aD h1;refine eE<|cSR<|oR 2 rfl<|rCi rfl (LR m (hm))<|oR 1 rfl<|rE 11<|cO ?_;have hW:jI q m=qC m (fU (q.take k)):=by unfold jI;rw[aL omT]
   rw[hW,hNk];exact fT rfl rfl
 ·have hk_:=hk;have hnn:k≤q.length:=hk_;have hkB:k≤1000000:=by omega
  have habk:(fU (q.take k)).length≤900000:=(by have:=Ji (q.take k);rw[aN]at this;omega);refine cSR<|rW (vB (decide (k<q.length))) rfl (okB (ltN _ _))<|rE 7<|bW<|aW rfl (λ h3=>?_) (λ h3=>?_)
  ·have h3p:=of_decide_eq_true h3;refine bB<|bW<|bK<|cSR ?_;obtain⟨x,hx⟩:∃ x,q[k]?=some x:=⟨_,aA omT⟩;have hxo:=ho x (aB hx);refine rIx (rqL x) (.dp 4 0 (rqL x)) rfl rfl (iB hx) rfl<|oR 1 rfl<|rAl 9 rfl rfl<|rSt rfl<|rE 11<|cSR<|oR 2 rfl<|rV (vB (x.kind==4)) rfl<|rE 14<|aW rfl (λ h4=>?_) (λ h4=>?_)
   ·have h4p:=mU h4;refine cRg<|oR 5 rfl<|rV (.agg [vU x.line,.v (.string x.data)]) rfl<|rV (.sl 2 ([[vU x.line,.v (.string x.data)]]) true) rfl<|rFx (x:=.osl 21 0 ((fU (q.take k)).length+1) false) (h':=upd (upd _ 5 none) 21 (some (.arr (((fU (q.take k))++([(⟨x.line,x.data⟩:Pt)])).map ptL) 2))) rfl rfl (jL ptL (fU (q.take k)) ([(⟨x.line,x.data⟩:Pt)]) omT omT) (⟨by exact omT,by exact omT,trivial⟩)<|oR 1 rfl<|rE 23<|cRg ?_;have b3:k+1≤1000001:=aH hkB (aC 1);refine rW (vN (k+1)) rfl (okI (bV b3 rfl))<|oR 1 rfl<|rE 25 ?_;refine⟨(k+1,true),λ i=>match i with|5=>21|i=>i,Weak.of_lists _ ⟨⟨rfl,rfl⟩,⟨rfl,rfl⟩,⟨rfl,rfl⟩,⟨rfl,rfl⟩,⟨rfl,rfl⟩,⟨(show AV.osl 21 0 ((fU (q.take k)).length+1) false=AV.osl 21 0 (fU (q.take (k+1))).length false from by rw[←(show (fU (q.take k))++([(⟨x.line,x.data⟩:Pt)])=fU (q.take (k+1))from Ag hx h4p)];first|done|rfl|(congr 1<;>(first|exact omT|simp))),rfl⟩,trivial⟩ ⟨⟨rfl,(congrArg (λ z:List Pt=>some (Blk.arr (z.map ptL) 2)) (show (fU (q.take k))++([(⟨x.line,x.data⟩:Pt)])=fU (q.take (k+1))from Ag hx h4p)),rfl⟩,trivial⟩ rfl,by omega,by show q.length - (k+1)<q.length - k;omega⟩
   ·have h4p:=mV h4;refine bB<|cRg ?_;have b4:k+1≤1000001:=aH hkB (aC 1);refine rW (vN (k+1)) rfl (okI (bV b4 rfl))<|oR 1 rfl<|rE 16 ?_;refine⟨(k+1,true),λ i=>i,Weak.of_lists _ ⟨⟨rfl,rfl⟩,⟨rfl,rfl⟩,⟨rfl,rfl⟩,⟨rfl,rfl⟩,⟨rfl,rfl⟩,⟨(congrArg (λ z:List Pt=>AV.osl 5 0 z.length false) (Ec hx h4p)),rfl⟩,trivial⟩ ⟨⟨rfl,(congrArg (λ z:List Pt=>some (Blk.arr (z.map ptL) 2)) (Ec hx h4p)),rfl⟩,trivial⟩ rfl,by omega,by show q.length - (k+1)<q.length - k;omega⟩
  ·have h3p:=aD h3;refine eE<|cSR<|oR 2 rfl<|rCl (x:=.v (.string (qC m (fU (q.take k))))) rfl (.inr ⟨rfl,⟨trivial,(by show 0+((fU (q.take k)).length)≤((fU (q.take k)).map ptL).length;exact omT),trivial⟩⟩) ((show bX C0 _ [_,.sl 2 (List.take ((fU (q.take k)).length) (List.drop 0 ((fU (q.take k)).map ptL))) false] _ from by rw[kG ptL (fU (q.take k)) omT];exact Pw m (fU (q.take k)) false (hm) (by have:=Ji (q.take k);rw[aN]at this;omega) (Px (xV ho))))<|oR 1 rfl<|rE 11<|cO ?_;have hW:jI q m=qC m (fU (q.take k)):=by unfold jI;rw[aL omT]
   rw[hW];exact fT rfl rfl
def VD(w:Wy):Pt:=⟨w.line,w.data⟩
def gP(c:Ca)(k:Nat):List Pt:=(c.sets.take k).flatten.map VD
def fM(c:Ca)(k:Nat)(s:List Wy)(j:Nat):List Pt:=gP c k++(s.take j).map VD
theorem pD{c:Ca}{k j:Nat}{s:List Wy}{x:Wy}(hx:s[j]?=some x):fM c k s j++[⟨x.line,x.data⟩]=fM c k s (j+1):=by
 unfold fM;rw[bR,hx];simp[VD]
theorem uH{c:Ca}{k j:Nat}{s:List Wy}(hs:c.sets[k]?=some s)(hj:s.length≤j):fM c k s j=gP c (k+1):=by
 unfold fM gP;rw[aL hj,bR,hs];simp
theorem AL(c:Ca)(k:Nat)(s:List Wy):gP c k=fM c k s 0:=by unfold fM;simp
theorem Ed{c:Ca}{k:Nat}(h:c.sets.length≤k):gP c k=KM c:=by unfold gP KM;rw[aL h];rfl
theorem LS{α:Type}{B:Nat}:∀ (L:List (List α)),(∀ s∈L,s.length≤B)→L.flatten.length≤L.length * B
 |[],_=>by simp
 |s::L,h=>by
  have h1:=h s bD;have h2:=LS L λ t ht=>h t (bF _ ht);simp only[mM,aV,bN,cC,kO];omega
theorem Ho{c:Ca}{k:Nat}(h4:c.sets.length≤4)(h2:∀ s∈c.sets,s.length≤2):(gP c k).length≤8:=by
 unfold gP;rw[aF];have:=LS (B:=2) (c.sets.take k) λ s hs=>h2 s (cL hs);rw[aN]at this;omega
theorem Jj{c:Ca}{k j:Nat}{s:List Wy}(h4:c.sets.length≤4)(h2:∀ s∈c.sets,s.length≤2)(hs:s.length≤2):(fM c k s j).length≤10:=by
 unfold fM;have:=Ho (k:=k) h4 h2;rw[aV,aF,aN];omega
theorem Sv{c:Ca}(h:∀ s∈c.sets,∀ x∈s,x.ok)(k:Nat):∀ x∈gP c k,x.ok:=λ x hx=>by
 obtain⟨y,hy,rfl⟩:=rQ.1 hx;obtain⟨s,hs,hy⟩:=List.mem_flatten.1 hy;exact⟨(h s (cL hs) y hy).line⟩
theorem XM(c:Ca)(q:List Req)(m:ByteArray)(ck:Bool)(hok:c.ok)(hc4:c.sets.length≤4)(hc2:∀ s∈c.sets,s.length≤2)(hm:m.size≤1000000)(hq:q.length≤900000)(ho:∀ x∈q,x.ok):bX C0 198 [.agg (caL c false),.sl 4 (q.map rqL) ck,.v (.string m)] (.v (.string (BJ c q m))):=by
 refine dc1 (bX.intro c1Ok Tryz.func198 rfl rfl (by kernel_rfl) rfl ?_);refine cSR<|rAl 0 rfl rfl<|oR 1 rfl<|rE 2<|cSR<|oR 1 rfl<|rE 3<|bW<|cSR<|oR 2 rfl<|rW (vN c.sets.length) rfl (bY bC c.sets)<|oR 1 rfl<|rE 7<|bK<|mL (κ:=Nat×Bool) (λ z_=>match z_ with|(k,false)=>⟨slotsF [(1,.sl 4 (q.map rqL) ck),(2,.v (.string m)),(6,.v (.string (⟨#[]⟩:ByteArray))),(13,.sl 1 (c.sets.map bC) false),(14,vN c.sets.length),(15,vN k),(7,.sl 0 ([]) true)],heapF [(0,.box [vI c.ways,.sl 1 (c.sets.map bC) false])],8⟩|(k,true)=>⟨slotsF [(1,.sl 4 (q.map rqL) ck),(2,.v (.string m)),(6,.v (.string (⟨#[]⟩:ByteArray))),(13,.sl 1 (c.sets.map bC) false),(14,vN c.sets.length),(15,vN k),(7,.osl 7 0 ((gP c k).length) false)],heapF [(0,.box [vI c.ways,.sl 1 (c.sets.map bC) false]),(7,.arr ((gP c k).map ptL) 2)],8⟩) (λ z_=>match z_ with|(k,false)=>(k≤c.sets.length∧gP c k=[])|(k,true)=>(k≤c.sets.length)) (λ z_=>c.sets.length - z_.1) (0,false) (λ s=>s) (Weak.of_lists (λ s=>s) wT wH rfl) (⟨aE _,(show gP c 0=[]from rfl)⟩) ?_;intro z_ hk;obtain⟨k,b_⟩:=z_;cases b_
 ·have hk_:=hk;have hnn:k≤c.sets.length:=hk_.1;have hkB:k≤1000000:=by omega
  have hNk:gP c k=[]:=hk_.2;refine cSR<|rW (vB (decide (k<c.sets.length))) rfl (okB (ltN _ _))<|rE 9<|bW<|aW rfl (λ h1=>?_) (λ h1=>?_)
  ·have h1p:=of_decide_eq_true h1;refine bB<|bW<|bK<|cSR ?_;obtain⟨s,hs⟩:∃ x,c.sets[k]?=some x:=⟨_,aA omT⟩;have hso:=hok.set s (aB hs);have hsl:s.length≤2:=hc2 s (aB hs);refine rIx (bC s) (.dp 1 0 (bC s)) rfl rfl (iB hs) rfl<|oR 2 rfl<|rE 12<|cSR<|oR 1 rfl<|rW (vN s.length) rfl (bY wyL s)<|oR 1 rfl<|rE 15<|bK<|mL (κ:=Nat×Bool) (λ z_=>match z_ with|(j,false)=>⟨slotsF [(1,.sl 4 (q.map rqL) ck),(2,.v (.string m)),(6,.v (.string (⟨#[]⟩:ByteArray))),(13,.sl 1 (c.sets.map bC) false),(14,vN c.sets.length),(15,vN k),(16,vB (decide (k<c.sets.length))),(17,.dp 1 0 (bC s)),(18,.sl 3 (s.map wyL) false),(9,.sl 3 (s.map wyL) false),(19,.sl 3 (s.map wyL) false),(20,vN s.length),(21,vN j),(7,.sl 0 ([]) true)],heapF [(0,.box [vI c.ways,.sl 1 (c.sets.map bC) false])],16⟩|(j,true)=>⟨slotsF [(1,.sl 4 (q.map rqL) ck),(2,.v (.string m)),(6,.v (.string (⟨#[]⟩:ByteArray))),(13,.sl 1 (c.sets.map bC) false),(14,vN c.sets.length),(15,vN k),(16,vB (decide (k<c.sets.length))),(17,.dp 1 0 (bC s)),(18,.sl 3 (s.map wyL) false),(9,.sl 3 (s.map wyL) false),(19,.sl 3 (s.map wyL) false),(20,vN s.length),(21,vN j),(7,.osl 15 0 ((fM c k s j).length) false)],heapF [(0,.box [vI c.ways,.sl 1 (c.sets.map bC) false]),(15,.arr ((fM c k s j).map ptL) 2)],16⟩) (λ z_=>match z_ with|(j,false)=>(j≤s.length∧fM c k s j=[])|(j,true)=>(j≤s.length)) (λ z_=>s.length - z_.1) (0,false) (λ s=>s) (Weak.of_lists (λ s=>s) wT wH rfl) (⟨aE _,(show fM c k s 0=[]from (AL c k s).symm.trans hNk)⟩) ?_;intro z_ hj;obtain⟨j,b_⟩:=z_;cases b_
   ·have hj_:=hj;have hnn:j≤s.length:=hj_.1;have hjB:j≤1000000:=by omega
    have hNj:fM c k s j=[]:=hj_.2;refine cSR<|rW (vB (decide (j<s.length))) rfl (okB (ltN _ _))<|rE 17<|bW<|aW rfl (λ h2=>?_) (λ h2=>?_)
    ·have h2p:=of_decide_eq_true h2;refine bB<|bW<|bK<|cSR ?_;obtain⟨x,hx⟩:∃ x,s[j]?=some x:=⟨_,aA omT⟩;have hxo:=hso.2 x (aB hx);refine rIx (wyL x) (.dp 3 0 (wyL x)) rfl rfl (iB hx) rfl<|oR 1 rfl<|rAl 19 rfl rfl<|rSt rfl<|rE 21<|cRg<|oR 5 rfl<|rV (.agg [vU x.line,.v (.string x.data)]) rfl<|rV (.sl 2 ([[vU x.line,.v (.string x.data)]]) true) rfl<|rFx (x:=.osl 28 0 1 false) (h':=upd _ 28 (some (.arr (([(⟨x.line,x.data⟩:Pt)]).map ptL) 2))) rfl rfl (Hs omT) (⟨rfl,by exact omT,by exact omT,trivial⟩)<|oR 1 rfl<|rE 30<|cRg ?_;have b1:j+1≤1000001:=aH hjB (aC 1);refine rW (vN (j+1)) rfl (okI (bV b1 rfl))<|oR 1 rfl<|rE 32 ?_;refine⟨(j+1,true),λ i=>match i with|15=>28|i=>i,Weak.of_lists _ ⟨⟨rfl,rfl⟩,⟨rfl,rfl⟩,⟨rfl,rfl⟩,⟨rfl,rfl⟩,⟨rfl,rfl⟩,⟨rfl,rfl⟩,⟨rfl,rfl⟩,⟨rfl,rfl⟩,⟨rfl,rfl⟩,⟨rfl,rfl⟩,⟨rfl,rfl⟩,⟨rfl,rfl⟩,⟨rfl,rfl⟩,⟨(show AV.osl 28 0 (1) false=AV.osl 28 0 (fM c k s (j+1)).length false from by rw[←(show [(⟨x.line,x.data⟩:Pt)]=fM c k s (j+1)from (by rw[←(pD hx),hNj];rfl))];first|done|rfl|(congr 1<;>(first|exact omT|simp))),rfl⟩,trivial⟩ ⟨⟨rfl,rfl,rfl⟩,⟨rfl,(congrArg (λ z:List Pt=>some (Blk.arr (z.map ptL) 2)) (show [(⟨x.line,x.data⟩:Pt)]=fM c k s (j+1)from (by rw[←(pD hx),hNj];rfl))),rfl⟩,trivial⟩ rfl,by omega,by show s.length - (j+1)<s.length - j;omega⟩
    ·have h2p:=aD h2;refine eE<|cRg ?_;have b2:k+1≤1000001:=aH hkB (aC 1);refine rW (vN (k+1)) rfl (okI (bV b2 rfl))<|oR 1 rfl<|rE 19 ?_;refine⟨(k+1,false),λ i=>i,Weak.of_lists _ wT wH rfl,⟨by omega,(by rw[←uH (j:=j) hs omT];exact hNj)⟩,by show c.sets.length - (k+1)<c.sets.length - k;omega⟩
   ·have hj_:=hj;have hnn:j≤s.length:=hj_;have hjB:j≤1000000:=by omega
    have habj:(fM c k s j).length≤10:=(Jj hc4 hc2 hsl);refine cSR<|rW (vB (decide (j<s.length))) rfl (okB (ltN _ _))<|rE 17<|bW<|aW rfl (λ h3=>?_) (λ h3=>?_)
    ·have h3p:=of_decide_eq_true h3;refine bB<|bW<|bK<|cSR ?_;obtain⟨x,hx⟩:∃ x,s[j]?=some x:=⟨_,aA omT⟩;have hxo:=hso.2 x (aB hx);refine rIx (wyL x) (.dp 3 0 (wyL x)) rfl rfl (iB hx) rfl<|oR 1 rfl<|rAl 19 rfl rfl<|rSt rfl<|rE 21<|cRg<|oR 5 rfl<|rV (.agg [vU x.line,.v (.string x.data)]) rfl<|rV (.sl 2 ([[vU x.line,.v (.string x.data)]]) true) rfl<|rFx (x:=.osl 28 0 ((fM c k s j).length+1) false) (h':=upd (upd _ 15 none) 28 (some (.arr (((fM c k s j)++([(⟨x.line,x.data⟩:Pt)])).map ptL) 2))) rfl rfl (jL ptL (fM c k s j) ([(⟨x.line,x.data⟩:Pt)]) omT omT) (⟨by exact omT,by exact omT,trivial⟩)<|oR 1 rfl<|rE 30<|cRg ?_;have b3:j+1≤1000001:=aH hjB (aC 1);refine rW (vN (j+1)) rfl (okI (bV b3 rfl))<|oR 1 rfl<|rE 32 ?_;refine⟨(j+1,true),λ i=>match i with|15=>28|i=>i,Weak.of_lists _ ⟨⟨rfl,rfl⟩,⟨rfl,rfl⟩,⟨rfl,rfl⟩,⟨rfl,rfl⟩,⟨rfl,rfl⟩,⟨rfl,rfl⟩,⟨rfl,rfl⟩,⟨rfl,rfl⟩,⟨rfl,rfl⟩,⟨rfl,rfl⟩,⟨rfl,rfl⟩,⟨rfl,rfl⟩,⟨rfl,rfl⟩,⟨(show AV.osl 28 0 ((fM c k s j).length+1) false=AV.osl 28 0 (fM c k s (j+1)).length false from by rw[←(show (fM c k s j)++([(⟨x.line,x.data⟩:Pt)])=fM c k s (j+1)from pD hx)];first|done|rfl|(congr 1<;>(first|exact omT|simp))),rfl⟩,trivial⟩ ⟨⟨rfl,rfl,rfl⟩,⟨rfl,(congrArg (λ z:List Pt=>some (Blk.arr (z.map ptL) 2)) (show (fM c k s j)++([(⟨x.line,x.data⟩:Pt)])=fM c k s (j+1)from pD hx)),rfl⟩,trivial⟩ rfl,by omega,by show s.length - (j+1)<s.length - j;omega⟩
    ·have h3p:=aD h3;refine eE<|cRg ?_;have b4:k+1≤1000001:=aH hkB (aC 1);refine rW (vN (k+1)) rfl (okI (bV b4 rfl))<|oR 1 rfl<|rE 19 ?_;refine⟨(k+1,true),λ i=>match i with|7=>15|i=>i,Weak.of_lists _ ⟨⟨rfl,rfl⟩,⟨rfl,rfl⟩,⟨rfl,rfl⟩,⟨rfl,rfl⟩,⟨rfl,rfl⟩,⟨rfl,rfl⟩,⟨(show AV.osl 15 0 ((fM c k s j).length) false=AV.osl 15 0 (gP c (k+1)).length false from by rw[←(show fM c k s j=gP c (k+1)from uH hs omT)];first|done|rfl|(congr 1<;>(first|exact omT|simp))),rfl⟩,trivial⟩ ⟨⟨rfl,rfl,rfl⟩,⟨rfl,(congrArg (λ z:List Pt=>some (Blk.arr (z.map ptL) 2)) (show fM c k s j=gP c (k+1)from uH hs omT)),rfl⟩,trivial⟩ rfl,by omega,by show c.sets.length - (k+1)<c.sets.length - k;omega⟩
  ·have h1p:=aD h1;refine eE<|cSR<|oR 2 rfl<|rCi rfl (Py q m ck hm hq ho)<|oR 1 rfl<|rCi rfl (LR (jI q m) (by unfold jI;rw[gY];exact hm))<|oR 1 rfl<|rE 15<|cO ?_;have hW:BJ c q m=qC (jI q m) (gP c k):=by unfold BJ;rw[Ed omT]
   rw[hW,hNk];exact fT rfl rfl
 ·have hk_:=hk;have hnn:k≤c.sets.length:=hk_;have hkB:k≤1000000:=by omega
  have habk:(gP c k).length≤8:=(Ho hc4 hc2);refine cSR<|rW (vB (decide (k<c.sets.length))) rfl (okB (ltN _ _))<|rE 9<|bW<|aW rfl (λ h4=>?_) (λ h4=>?_)
  ·have h4p:=of_decide_eq_true h4;refine bB<|bW<|bK<|cSR ?_;obtain⟨s,hs⟩:∃ x,c.sets[k]?=some x:=⟨_,aA omT⟩;have hso:=hok.set s (aB hs);have hsl:s.length≤2:=hc2 s (aB hs);refine rIx (bC s) (.dp 1 0 (bC s)) rfl rfl (iB hs) rfl<|oR 2 rfl<|rE 12<|cSR<|oR 1 rfl<|rW (vN s.length) rfl (bY wyL s)<|oR 1 rfl<|rE 15<|bK<|mL (κ:=Nat×Bool) (λ z_=>match z_ with|(j,false)=>⟨slotsF [(1,.sl 4 (q.map rqL) ck),(2,.v (.string m)),(6,.v (.string (⟨#[]⟩:ByteArray))),(13,.sl 1 (c.sets.map bC) false),(14,vN c.sets.length),(15,vN k),(16,vB (decide (k<c.sets.length))),(17,.dp 1 0 (bC s)),(18,.sl 3 (s.map wyL) false),(9,.sl 3 (s.map wyL) false),(19,.sl 3 (s.map wyL) false),(20,vN s.length),(21,vN j),(7,.sl 0 ([]) true)],heapF [(0,.box [vI c.ways,.sl 1 (c.sets.map bC) false])],16⟩|(j,true)=>⟨slotsF [(1,.sl 4 (q.map rqL) ck),(2,.v (.string m)),(6,.v (.string (⟨#[]⟩:ByteArray))),(13,.sl 1 (c.sets.map bC) false),(14,vN c.sets.length),(15,vN k),(16,vB (decide (k<c.sets.length))),(17,.dp 1 0 (bC s)),(18,.sl 3 (s.map wyL) false),(9,.sl 3 (s.map wyL) false),(19,.sl 3 (s.map wyL) false),(20,vN s.length),(21,vN j),(7,.osl 15 0 ((fM c k s j).length) false)],heapF [(0,.box [vI c.ways,.sl 1 (c.sets.map bC) false]),(15,.arr ((fM c k s j).map ptL) 2)],16⟩) (λ z_=>match z_ with|(j,false)=>(j≤s.length∧fM c k s j=[])|(j,true)=>(j≤s.length)) (λ z_=>s.length - z_.1) (0,true) (λ i=>match i with|15=>7|i=>i) (Weak.of_lists (λ i=>match i with|15=>7|i=>i) ⟨⟨rfl,rfl⟩,⟨rfl,rfl⟩,⟨rfl,rfl⟩,⟨rfl,rfl⟩,⟨rfl,rfl⟩,⟨rfl,rfl⟩,⟨rfl,rfl⟩,⟨rfl,rfl⟩,⟨rfl,rfl⟩,⟨rfl,rfl⟩,⟨rfl,rfl⟩,⟨rfl,rfl⟩,⟨rfl,rfl⟩,⟨(show AV.osl 7 0 ((gP c k).length) false=AV.osl 7 0 (fM c k s 0).length false from by rw[←(show gP c k=fM c k s 0 from AL c k s)]),rfl⟩,trivial⟩ ⟨⟨rfl,rfl,rfl⟩,⟨rfl,(congrArg (λ z:List Pt=>some (Blk.arr (z.map ptL) 2)) (show gP c k=fM c k s 0 from AL c k s)),rfl⟩,trivial⟩ rfl) (aE _) ?_;intro z_ hj;obtain⟨j,b_⟩:=z_;cases b_
   ·have hj_:=hj;have hnn:j≤s.length:=hj_.1;have hjB:j≤1000000:=by omega
    have hNj:fM c k s j=[]:=hj_.2;refine cSR<|rW (vB (decide (j<s.length))) rfl (okB (ltN _ _))<|rE 17<|bW<|aW rfl (λ h5=>?_) (λ h5=>?_)
    ·have h5p:=of_decide_eq_true h5;refine bB<|bW<|bK<|cSR ?_;obtain⟨x,hx⟩:∃ x,s[j]?=some x:=⟨_,aA omT⟩;have hxo:=hso.2 x (aB hx);refine rIx (wyL x) (.dp 3 0 (wyL x)) rfl rfl (iB hx) rfl<|oR 1 rfl<|rAl 19 rfl rfl<|rSt rfl<|rE 21<|cRg<|oR 5 rfl<|rV (.agg [vU x.line,.v (.string x.data)]) rfl<|rV (.sl 2 ([[vU x.line,.v (.string x.data)]]) true) rfl<|rFx (x:=.osl 28 0 1 false) (h':=upd _ 28 (some (.arr (([(⟨x.line,x.data⟩:Pt)]).map ptL) 2))) rfl rfl (Hs omT) (⟨rfl,by exact omT,by exact omT,trivial⟩)<|oR 1 rfl<|rE 30<|cRg ?_;have b5:j+1≤1000001:=aH hjB (aC 1);refine rW (vN (j+1)) rfl (okI (bV b5 rfl))<|oR 1 rfl<|rE 32 ?_;refine⟨(j+1,true),λ i=>match i with|15=>28|i=>i,Weak.of_lists _ ⟨⟨rfl,rfl⟩,⟨rfl,rfl⟩,⟨rfl,rfl⟩,⟨rfl,rfl⟩,⟨rfl,rfl⟩,⟨rfl,rfl⟩,⟨rfl,rfl⟩,⟨rfl,rfl⟩,⟨rfl,rfl⟩,⟨rfl,rfl⟩,⟨rfl,rfl⟩,⟨rfl,rfl⟩,⟨rfl,rfl⟩,⟨(show AV.osl 28 0 (1) false=AV.osl 28 0 (fM c k s (j+1)).length false from by rw[←(show [(⟨x.line,x.data⟩:Pt)]=fM c k s (j+1)from (by rw[←(pD hx),hNj];rfl))];first|done|rfl|(congr 1<;>(first|exact omT|simp))),rfl⟩,trivial⟩ ⟨⟨rfl,rfl,rfl⟩,⟨rfl,(congrArg (λ z:List Pt=>some (Blk.arr (z.map ptL) 2)) (show [(⟨x.line,x.data⟩:Pt)]=fM c k s (j+1)from (by rw[←(pD hx),hNj];rfl))),rfl⟩,trivial⟩ rfl,by omega,by show s.length - (j+1)<s.length - j;omega⟩
    ·have h5p:=aD h5;refine eE<|cRg ?_;have b6:k+1≤1000001:=aH hkB (aC 1);refine rW (vN (k+1)) rfl (okI (bV b6 rfl))<|oR 1 rfl<|rE 19 ?_;refine⟨(k+1,false),λ i=>i,Weak.of_lists _ wT wH rfl,⟨by omega,(by rw[←uH (j:=j) hs omT];exact hNj)⟩,by show c.sets.length - (k+1)<c.sets.length - k;omega⟩
   ·have hj_:=hj;have hnn:j≤s.length:=hj_;have hjB:j≤1000000:=by omega
    have habj:(fM c k s j).length≤10:=(Jj hc4 hc2 hsl);refine cSR<|rW (vB (decide (j<s.length))) rfl (okB (ltN _ _))<|rE 17<|bW<|aW rfl (λ h6=>?_) (λ h6=>?_)
    ·have h6p:=of_decide_eq_true h6;refine bB<|bW<|bK<|cSR ?_;obtain⟨x,hx⟩:∃ x,s[j]?=some x:=⟨_,aA omT⟩;have hxo:=hso.2 x (aB hx);refine rIx (wyL x) (.dp 3 0 (wyL x)) rfl rfl (iB hx) rfl<|oR 1 rfl<|rAl 19 rfl rfl<|rSt rfl<|rE 21<|cRg<|oR 5 rfl<|rV (.agg [vU x.line,.v (.string x.data)]) rfl<|rV (.sl 2 ([[vU x.line,.v (.string x.data)]]) true) rfl<|rFx (x:=.osl 28 0 ((fM c k s j).length+1) false) (h':=upd (upd _ 15 none) 28 (some (.arr (((fM c k s j)++([(⟨x.line,x.data⟩:Pt)])).map ptL) 2))) rfl rfl (jL ptL (fM c k s j) ([(⟨x.line,x.data⟩:Pt)]) omT omT) (⟨by exact omT,by exact omT,trivial⟩)<|oR 1 rfl<|rE 30<|cRg ?_;have b7:j+1≤1000001:=aH hjB (aC 1);refine rW (vN (j+1)) rfl (okI (bV b7 rfl))<|oR 1 rfl<|rE 32 ?_;refine⟨(j+1,true),λ i=>match i with|15=>28|i=>i,Weak.of_lists _ ⟨⟨rfl,rfl⟩,⟨rfl,rfl⟩,⟨rfl,rfl⟩,⟨rfl,rfl⟩,⟨rfl,rfl⟩,⟨rfl,rfl⟩,⟨rfl,rfl⟩,⟨rfl,rfl⟩,⟨rfl,rfl⟩,⟨rfl,rfl⟩,⟨rfl,rfl⟩,⟨rfl,rfl⟩,⟨rfl,rfl⟩,⟨(show AV.osl 28 0 ((fM c k s j).length+1) false=AV.osl 28 0 (fM c k s (j+1)).length false from by rw[←(show (fM c k s j)++([(⟨x.line,x.data⟩:Pt)])=fM c k s (j+1)from pD hx)];first|done|rfl|(congr 1<;>(first|exact omT|simp))),rfl⟩,trivial⟩ ⟨⟨rfl,rfl,rfl⟩,⟨rfl,(congrArg (λ z:List Pt=>some (Blk.arr (z.map ptL) 2)) (show (fM c k s j)++([(⟨x.line,x.data⟩:Pt)])=fM c k s (j+1)from pD hx)),rfl⟩,trivial⟩ rfl,by omega,by show s.length - (j+1)<s.length - j;omega⟩
    ·have h6p:=aD h6;refine eE<|cRg ?_;have b8:k+1≤1000001:=aH hkB (aC 1);refine rW (vN (k+1)) rfl (okI (bV b8 rfl))<|oR 1 rfl<|rE 19 ?_;refine⟨(k+1,true),λ i=>match i with|7=>15|i=>i,Weak.of_lists _ ⟨⟨rfl,rfl⟩,⟨rfl,rfl⟩,⟨rfl,rfl⟩,⟨rfl,rfl⟩,⟨rfl,rfl⟩,⟨rfl,rfl⟩,⟨(show AV.osl 15 0 ((fM c k s j).length) false=AV.osl 15 0 (gP c (k+1)).length false from by rw[←(show fM c k s j=gP c (k+1)from uH hs omT)];first|done|rfl|(congr 1<;>(first|exact omT|simp))),rfl⟩,trivial⟩ ⟨⟨rfl,rfl,rfl⟩,⟨rfl,(congrArg (λ z:List Pt=>some (Blk.arr (z.map ptL) 2)) (show fM c k s j=gP c (k+1)from uH hs omT)),rfl⟩,trivial⟩ rfl,by omega,by show c.sets.length - (k+1)<c.sets.length - k;omega⟩
  ·have h4p:=aD h4;refine eE<|cSR<|oR 2 rfl<|rCi rfl (Py q m ck hm hq ho)<|oR 1 rfl<|rCl (x:=.v (.string (qC (jI q m) (gP c k)))) rfl (.inr ⟨rfl,⟨trivial,(by show 0+((gP c k).length)≤((gP c k).map ptL).length;exact omT),trivial⟩⟩) ((show bX C0 _ [_,.sl 2 (List.take ((gP c k).length) (List.drop 0 ((gP c k).map ptL))) false] _ from by rw[kG ptL (gP c k) omT];exact Pw (jI q m) (gP c k) false (by unfold jI;rw[gY];exact hm) (by have:=Ho (k:=k) hc4 hc2;omega) (Sv (λ s hs=>(hok.set s hs).2) k)))<|oR 1 rfl<|rE 15<|cO ?_;have hW:BJ c q m=qC (jI q m) (gP c k):=by unfold BJ;rw[Ed omT]
   rw[hW];exact fT rfl rfl
theorem Zj(stores:List Pt)(c:Ca)(q:List Req)(m:ByteArray)(ck ck2:Bool)(hok:c.ok)(hc4:c.sets.length≤4)(hc2:∀ s∈c.sets,s.length≤2)(hm:m.size≤1000000)(hq:q.length≤900000)(ho:∀ x∈q,x.ok)(hst:stores.length≤1000000)(hso:∀ x∈stores,x.ok):bX C0 151 [.sl 2 (stores.map ptL) ck2,.agg (caL c false),.sl 4 (q.map rqL) ck,.v (.string m)] (.v (.string (XW stores c q m))):=by
 refine bX.intro c0Ok Tryz.func151 rfl rfl (by kernel_rfl) rfl<|cSR<|rAl 0 rfl rfl<|oR 1 rfl<|rE 2<|cSR<|oR 3 rfl<|rCi rfl (XM c q m ck hok hc4 hc2 hm hq ho)<|oR 1 rfl<|rCi rfl (Pw (BJ c q m) stores ck2 (by unfold BJ jI;rw[gY,gY];exact hm) hst hso)<|oR 1 rfl<|rE 9<|cO ?_;exact fT rfl rfl
theorem Pz{m:ByteArray}{a:Nat}(h:a≤m.size):(m.extract a m.size).extract 0 (min (m.extract a m.size).size 16)=m.extract a (a+min (m.size - a) 16):=by
 have hs:(m.extract a m.size).size=m.size - a:=by rw[eF];omega
 rw[hs,ByteArray.extract_extract];congr 1<;>omega
theorem Zk(m:ByteArray)(line:Nat)(hm:m.size≤1000000)(hline:line≤4294967295):bX C0 199 [.v (.string m),vU line] (.v (.string (El m line))):=by
 refine bX.intro c0Ok Tryz.func199 rfl rfl (by kernel_rfl) rfl<|cSR<|oR 1 rfl<|rE 1<|cSR<|oR 1 rfl<|rCi rfl (sU line hline)<|oR 1 rfl<|rE 4<|bW<|cSR<|oR 1 rfl<|rW (.v (.int .u64 ((lineOf line:Nat):Int))) rfl (okI (Ig (dR hline) rfl))<|oR 1 rfl<|rV (vN m.size) rfl<|rW (.v (.int .u64 ((m.size:Nat):Int))) rfl (okI (Ig hm rfl))<|rW (vB (decide ((lineOf line)≥m.size))) rfl (okB (geN _ _))<|rE 10<|aW rfl (λ h1=>?_) (λ h1=>?_)
 ·have h1p:=of_decide_eq_true h1;refine cSR<|oR 1 rfl<|rE 11<|cO ?_;exact fT rfl (by unfold El;rw[if_neg omT];rfl)
 ·have h1p:=aD h1;refine bB<|cSR<|oR 2 rfl<|nW (.v (.string (m.extract (lineOf line) m.size))) rfl rfl (by refine⟨?_,?_,?_⟩<;>(first|exact aG _|decide|(apply EJ.2;exact omT)))<|oR 1 rfl<|rE 14<|cSR<|oR 2 rfl<|rV (vN ((m.extract (lineOf line) m.size).size)) rfl<|rW (vN (min ((m.extract (lineOf line) m.size).size) 16)) rfl (BG ((m.extract (lineOf line) m.size).size) 16)<|nW (.v (.string ((m.extract (lineOf line) m.size).extract 0 (min ((m.extract (lineOf line) m.size).size) 16)))) rfl rfl (by refine⟨?_,?_,?_⟩<;>(first|exact aG _|decide|(apply EJ.2;exact omT)))<|oR 1 rfl<|rE 20<|cO ?_;exact fT rfl (by unfold El;rw[if_pos omT,Pz omT];rfl)
theorem FM(r:Nat→Nat)(s:Sp)(hr:∀ k,r k≤4294967295)(hs:s.ok):bX C0 107 [.agg (Jl r),.agg (spL s)] (.agg (Jl (sF r s))):=by
 refine bX.intro c0Ok Tryz.func107 rfl rfl (by kernel_rfl) rfl<|cSR<|rAl 0 rfl rfl<|rAl 1 rfl rfl<|rAl 2 rfl rfl<|rE 3<|bW<|cSR<|oR 2 rfl<|rV (vB (decide (s.rd≥1))) rfl<|oR 1 rfl<|gN rfl<|gS rfl id<|gBS (x:=vB (decide (s.rd≤31))) rfl id rfl<|cV rfl rfl rfl (λ h=>h)<|oR 1 rfl<|gN rfl<|gS rfl id<|gBS (x:=vB (s.halt==0)) rfl id rfl<|cV rfl rfl rfl (λ h=>h)<|rE 16<|aW rfl (λ h1=>?_) (λ h1=>?_)
 ·have hA:(1≤s.rd∧s.rd≤31∧s.halt=0):=by have z:=h1;simp only[pY,aI,aP,pQ,kD,aU,ne_eq]at z;omega
  refine cRg<|oR 4 rfl<|nW (.ptr 0 (0+s.rd.toNat * 1)) rfl rfl omT<|Xj (h':=upd _ 0 (some (.box (Jl (VR r s.rd.toNat s.value))))) rfl rfl (aaQ (r:=r) (v:=s.value) rfl rfl rfl omT) (trivial)<|rE 22<|cSR<|oR 1 rfl<|rSt rfl<|rE 24<|cO ?_;rw[show sF r s=VR r s.rd.toNat s.value from by unfold sF;rw[if_pos hA]];exact fG rfl rcT rfl rfl
 ·have hA: ¬ (1≤s.rd∧s.rd≤31∧s.halt=0):=by have z:=h1;simp only[pY,aI,aP,pQ,kD,aU,ne_eq]at z;omega
  refine bB<|cSR<|oR 1 rfl<|rSt rfl<|rE 18<|cO ?_;rw[show sF r s=r from by unfold sF;rw[if_neg hA]];exact fG rfl rcT rfl rfl
abbrev aaO(o:Option Pt):AV:=.tup [.agg (ptL (o.getD ⟨0,oC⟩)),vB o.isSome]
theorem KE(s:Sp)(hs:s.ok):bX C0 106 [.agg (spL s)] (aaO (gA s)):=by
 refine bX.intro c0Ok Tryz.func106 rfl rfl (by kernel_rfl) rfl<|cSR<|rAl 0 rfl rfl<|rAl 1 rfl rfl<|oR 1 rfl<|rE 3<|bW<|cSR<|oR 4 rfl<|gN rfl<|gS rfl id<|gBS (x:=vB (s.halt != 0)) rfl id rfl<|cV rfl rfl rfl (by simp)<|oR 1 rfl<|gN rfl<|gS rfl id<|gBS (x:=vB (s.size != 1)) rfl id rfl<|gS rfl id<|gN rfl<|gS rfl id<|gBS (x:=vB (s.size != 2)) rfl id rfl<|sB (x:=vB (cZ (s.size != 1) (s.size != 2) false)) (g:= !(cZ (!s.store) true (s.halt != 0))) rfl rfl rfl rfl (λ h=>h) rfl rfl (λ hg hc=>by first|(rw[hg,hc];rfl)|simp_all)<|gS rfl id<|gN rfl<|gS rfl id<|gBS (x:=vB (s.size != 4)) rfl id rfl<|sB (x:=vB (cZ (cZ (s.size != 1) (s.size != 2) false) (s.size != 4) false)) (g:= !(cZ (!s.store) true (s.halt != 0))) rfl rfl rfl rfl (λ h=>h) rfl rfl (λ hg hc=>by first|(rw[hg,hc];rfl)|simp_all)<|cV rfl rfl rfl (by simp)<|rE 26<|aW rfl (λ h1=>?_) (λ h1=>?_)
 ·have hA:s.store=false∨s.halt≠0∨(s.size≠1∧s.size≠2∧s.size≠4):=by have z:=h1;simp only[pY,cOr,aI,dF,aP,pQ,pT,qD,dV,kD,iA,pE,ne_eq,and_imp]at z;rcases z with (z|z)|z<;>simp_all
  refine cSR<|rV (.agg [.v (.int .u32 0),.v (.string (⟨#[]⟩:ByteArray))]) rfl<|rSt rfl<|oR 1 rfl<|rE 29<|cO ?_;rw[show gA s=none from by unfold gA;rw[if_pos hA]];exact fT rfl rfl
 ·have hA: ¬ (s.store=false∨s.halt≠0∨(s.size≠1∧s.size≠2∧s.size≠4)):=by have z:=h1;intro q;rcases q with q|q|⟨q1,q2,q3⟩<;>simp_all[pY,cOr]
  obtain⟨n,hn⟩:∃ n:Nat,s.size=(n:Int):=⟨s.size.toNat,by omega⟩;have hn4:n≤4:=by omega
  refine bB<|cSR<|oR 4 rfl<|rCl (x:=.tup [.v (.string (rN s.value n)),vI 0]) rfl (.inl rfl) ((by rw[hn];exact PP s.value n (BA hs.value) hn4))<|oR 5 rfl<|rE 36<|cSR<|oR 3 rfl<|rV (.agg [vU s.addr,.v (.string (rN s.value n))]) rfl<|rSt rfl<|oR 1 rfl<|rE 42<|cO ?_;rw[show gA s=some ⟨s.addr,rN s.value n⟩from by unfold gA;rw[if_neg hA,hn];rfl];exact fT rfl rfl
theorem Pq(k:Int):(if (0:Int)>k then 0 else k)=(((max k 0).toNat:Nat):Int):=by split<;>omega
theorem Pr(c:Cf):(bP c).lat.length≤64:=by unfold bP;simp;omega
theorem Nd(c:Cf):(bP c).tape.length≤64:=by unfold bP;simp;omega
theorem Hm{c:Cf}(h:∀ x∈c.tape,x≤4294967295):∀ x∈(bP c).tape,x≤4294967295:=λ x hx=>h x (cL hx)
theorem Ps{c:Cf}{k:Int}{x:Int}(h: ¬ (bP c).lat.length=0)(hx:(bP c).lat[(max k 0).toNat % (bP c).lat.length]?=some x):x=kQ c k:=by
 unfold kQ;generalize (bP c).lat=l at h hx
 cases l with
 |nil=>exact absurd rfl h
 |cons y l=>simp only[bJ,hx];rfl
theorem Nf{c:Cf}{k:Int}{x pc:Nat}(h: ¬ (bP c).tape.length=0)(hx:(bP c).tape[(max k 0).toNat % (bP c).tape.length]?=some x):x=wY c k pc:=by
 unfold wY;generalize (bP c).tape=l at h hx
 cases l with
 |nil=>exact absurd rfl h
 |cons y l=>simp only[bJ,hx];rfl
theorem Eb(c:Cf)(k:Int)(hok:c.ok)(hk:k≤9223372036854775807):bX C0 156 [.agg (cfL c false false),vI k] (vI (kQ c k)):=by
 refine bX.intro c0Ok Tryz.func156 rfl rfl (by kernel_rfl) rfl<|cSR<|rAl 0 rfl rfl<|oR 1 rfl<|rE 2<|cSR<|oR 1 rfl<|rCi rfl (Hz c false false hok)<|oR 2 rfl<|rE 6<|bW<|cSR<|oR 1 rfl<|rW (vN (((bP c).lat).length)) rfl (bY iL ((bP c).lat))<|rW (vB ((((bP c).lat).length)==0)) rfl (okB (eqN _ _))<|rE 9<|aW rfl (λ h1=>?_) (λ h1=>?_)
 ·have h1p:=mU h1;refine cSR<|oR 1 rfl<|rE 10<|cO ?_;have hz:(bP c).lat=[]:=aX h1p;exact fT rfl (LV (by unfold kQ;rw[hz]))
 ·have h1p:=mV h1;have hml:=bA (max k 0).toNat (eS h1p);refine bB<|cSR<|oR 2 rfl<|rW (vN ((max k 0).toNat)) rfl (okI (Pq k))<|oR 1 rfl<|rW (vN (((bP c).lat).length)) rfl (bY iL ((bP c).lat)) ?_;have b1:((max k 0).toNat) % (((bP c).lat).length)≤9223372036854775807:=aM (mE _ _) omT;refine nW (vN (((max k 0).toNat) % (((bP c).lat).length))) rfl (Gr (VH _ _)) omT ?_;obtain⟨x1,hx1⟩:∃ x,((bP c).lat)[(((max k 0).toNat) % (((bP c).lat).length))]?=some x:=⟨_,aA omT⟩;refine rIx (iL x1) (.dp 1 0 (iL x1)) rfl rfl (iB hx1) rfl<|oR 2 rfl<|rE 18<|cO ?_;exact fT rfl (LV (Ps h1p hx1))
theorem Pu(c:Cf)(k:Int)(pc:Nat)(hok:c.ok)(hk:k≤9223372036854775807)(hpc:pc≤4294967295):bX C0 173 [.agg (cfL c false false),vI k,vU pc] (vU (wY c k pc)):=by
 refine bX.intro c0Ok Tryz.func173 rfl rfl (by kernel_rfl) rfl<|cSR<|rAl 0 rfl rfl<|oR 1 rfl<|rE 2<|cSR<|oR 1 rfl<|rCi rfl (Hz c false false hok)<|oR 2 rfl<|rE 6<|bW<|cSR<|oR 1 rfl<|rW (vN (((bP c).tape).length)) rfl (bY eX ((bP c).tape))<|rW (vB ((((bP c).tape).length)==0)) rfl (okB (eqN _ _))<|rE 9<|aW rfl (λ h1=>?_) (λ h1=>?_)
 ·have h1p:=mU h1;refine cSR<|oR 1 rfl ?_;have b1:(pc+4) % 4294967296≤4294967295:=aR (bA _ (by decide));refine rV (vU ((pc+4) % 4294967296)) rfl<|oR 1 rfl<|rE 12<|cO ?_;have hz:(bP c).tape=[]:=aX h1p;exact fT rfl (FR (by unfold wY;rw[hz];rfl))
 ·have h1p:=mV h1;have hml:=bA (max k 0).toNat (eS h1p);refine bB<|cSR<|oR 2 rfl<|rW (vN ((max k 0).toNat)) rfl (okI (Pq k))<|oR 1 rfl<|rW (vN (((bP c).tape).length)) rfl (bY eX ((bP c).tape)) ?_;have b2:((max k 0).toNat) % (((bP c).tape).length)≤9223372036854775807:=aM (mE _ _) omT;refine nW (vN (((max k 0).toNat) % (((bP c).tape).length))) rfl (Gr (VH _ _)) omT ?_;obtain⟨x1,hx1⟩:∃ x,((bP c).tape)[(((max k 0).toNat) % (((bP c).tape).length))]?=some x:=⟨_,aA omT⟩;have hx1o:=(Hm hok.tp) x1 (aB hx1);refine rIx (eX x1) (.dp 1 0 (eX x1)) rfl rfl (iB hx1) rfl<|oR 2 rfl<|rE 18<|cO ?_;exact fT rfl (FR (Nf h1p hx1))
theorem xQ(n lo hi:Int):bX C0 83 [vI n,vI lo,vI hi] (vB (inI n lo hi)):=by
 refine bX.intro c0Ok Tryz.func83 rfl rfl (by kernel_rfl) rfl<|cSR<|oR 1 rfl<|rE 1<|cSR<|oR 2 rfl<|rV (vB (decide (n≥lo))) rfl<|oR 1 rfl<|gN rfl<|gN rfl<|gBS (x:=vB (decide (n≤hi))) rfl hsT rfl<|cV rfl rfl rfl (λ h=>h)<|oR 1 rfl<|rE 10<|cO ?_;exact fT rfl (dL (by rw[bS];simp[pY,cOr,inI]))
structure Cf.okW(c:Cf):Prop where
 lat:c.lat.length≤9223372036854775807
 tape:c.tape.length≤9223372036854775807
 tp:∀ x∈c.tape,x≤4294967295
theorem Dg{α:Type}{p:α→Bool}{l:List α}{k:Nat}{x:α}(hx:l[k]?=some x)(hp:p x=true)(h:(l.take k).all p=true):(l.take (k+1)).all p=true:=by
 rw[bR,hx,List.all_append,h];simpa using hp
theorem Hn{α:Type}{p:α→Bool}{l:List α}{k:Nat}{x:α}(hx:l[k]?=some x)(hp:p x=false):l.all p=false:=by
 rw[List.all_eq_false];exact⟨x,aB hx,by simp[hp]⟩
theorem Dh{α:Type}{p:α→Bool}{l:List α}{k:Nat}(hk:l.length≤k)(h:(l.take k).all p=true):l.all p=true:=by rwa [aL hk]at h
theorem Sr(c:Cf)(hok:c.okW):bX C0 46 [.agg (cfL c false false)] (vB (sW c)):=by
 refine bX.intro c0Ok Tryz.func46 rfl rfl (by kernel_rfl) rfl<|cSR<|rAl 0 rfl rfl<|oR 1 rfl<|rE 2<|cSR<|oR 1 rfl<|rE 3<|bW<|cSR<|oR 2 rfl<|rW (vN c.lat.length) rfl (bY iL c.lat)<|oR 1 rfl<|rE 7<|bK<|mL (κ:=Nat) (λ k=>⟨slotsF [(1,.ptr 0 0),(3,.clo 83 [] []),(7,.sl 1 (c.lat.map iL) false),(8,vN c.lat.length),(9,vN k)],heapF [(0,.box [vI c.mode,vI c.width,vI c.rob,vI c.queue,vI c.stores,vI c.slots,vI c.sets,vI c.ways,.sl 1 (c.lat.map iL) false,vB c.tables,.sl 1 (c.tape.map eX) false])],7⟩) (λ k=>k≤c.lat.length∧(c.lat.take k).all (λ n=>inI n 1 8)=true) (λ k=>c.lat.length - k) 0 (λ s=>s) (Weak.of_lists (λ s=>s) wT wH rfl) (⟨aE _,rfl⟩) ?_;intro k hk;have hkn:k≤c.lat.length:=hk.1;have hkB:k≤9223372036854775807:=by have:=hok.lat;omega
 have hlat:=hok.lat;refine cSR<|rW (vB (decide (k<c.lat.length))) rfl (okB (ltN _ _))<|rE 8<|bW<|aW rfl (λ h1=>?_) (λ h1=>?_)
 ·have h1p:=of_decide_eq_true h1;refine bB<|bW<|bK<|cSR ?_;obtain⟨x,hx⟩:∃ x,c.lat[k]?=some x:=⟨_,aA omT⟩;refine rIx (iL x) (.dp 1 0 (iL x)) rfl rfl (iB hx) rfl<|oR 2 rfl<|rE 11<|cSR<|oR 2 rfl<|rCi rfl (xQ x 1 8)<|oR 1 rfl<|rE 15<|aW rfl (λ h2=>?_) (λ h2=>?_)
  ·refine cSR<|oR 1 rfl<|rE 16<|cO ?_;have z:=h2;exact fT rfl (dL (by unfold sW;rw[Hn hx (by simpa using z)];simp))
  ·refine bB<|cRg ?_;have b1:k+1≤9223372036854775807:=by omega
   refine rW (vN (k+1)) rfl (okI (bV (show k+1≤9223372036854775807 by omega) rfl))<|oR 1 rfl<|rE 17 ?_;refine⟨k+1,λ s=>s,Weak.of_lists _ wT wH rfl,⟨by omega,Dg hx (by simpa using h2) hk.2⟩,by show c.lat.length - (k+1)<c.lat.length - k;omega⟩
 ·have h1p:=aD h1;refine eE<|cSR<|oR 3 rfl<|rCi rfl (xQ c.mode 0 2)<|oR 1 rfl<|gN rfl<|gN rfl<|gS rfl id<|kM (x:=vB (inI c.width 1 2)) (g:=inI c.mode 0 2) rfl rfl rfl rfl hsT rfl rfl rfl (.inl rfl) rfl (λ hg=>xQ c.width 1 2)<|cV rfl rfl rfl (λ h=>h)<|oR 1 rfl<|gN rfl<|gN rfl<|gS rfl id<|kM (x:=vB (inI c.rob 2 8)) (g:=cZ (inI c.mode 0 2) (inI c.width 1 2) false) rfl rfl rfl rfl hsT rfl rfl rfl (.inl rfl) rfl (λ hg=>xQ c.rob 2 8)<|cV rfl rfl rfl (λ h=>h)<|oR 1 rfl<|gN rfl<|gN rfl<|gS rfl id<|kM (x:=vB (inI c.queue 1 4)) (g:=cZ (cZ (inI c.mode 0 2) (inI c.width 1 2) false) (inI c.rob 2 8) false) rfl rfl rfl rfl hsT rfl rfl rfl (.inl rfl) rfl (λ hg=>xQ c.queue 1 4)<|cV rfl rfl rfl (λ h=>h)<|oR 1 rfl<|gN rfl<|gN rfl<|gS rfl id<|kM (x:=vB (inI c.stores 1 4)) (g:=cZ (cZ (cZ (inI c.mode 0 2) (inI c.width 1 2) false) (inI c.rob 2 8) false) (inI c.queue 1 4) false) rfl rfl rfl rfl hsT rfl rfl rfl (.inl rfl) rfl (λ hg=>xQ c.stores 1 4)<|cV rfl rfl rfl (λ h=>h)<|oR 1 rfl<|gN rfl<|gN rfl<|gS rfl id<|kM (x:=vB (inI c.slots 2 6)) (g:=cZ (cZ (cZ (cZ (inI c.mode 0 2) (inI c.width 1 2) false) (inI c.rob 2 8) false) (inI c.queue 1 4) false) (inI c.stores 1 4) false) rfl rfl rfl rfl hsT rfl rfl rfl (.inl rfl) rfl (λ hg=>xQ c.slots 2 6)<|cV rfl rfl rfl (λ h=>h)<|oR 1 rfl<|gN rfl<|gN rfl<|gS rfl id<|kM (x:=vB (inI c.sets 1 4)) (g:=cZ (cZ (cZ (cZ (cZ (inI c.mode 0 2) (inI c.width 1 2) false) (inI c.rob 2 8) false) (inI c.queue 1 4) false) (inI c.stores 1 4) false) (inI c.slots 2 6) false) rfl rfl rfl rfl hsT rfl rfl rfl (.inl rfl) rfl (λ hg=>xQ c.sets 1 4)<|cV rfl rfl rfl (λ h=>h)<|oR 1 rfl<|gN rfl<|gS rfl id<|gBS (x:=vB (c.sets != 3)) rfl id rfl<|cV rfl rfl rfl (λ h=>h)<|oR 1 rfl<|gN rfl<|gN rfl<|gS rfl id<|kM (x:=vB (inI c.ways 1 2)) (g:=cZ (cZ (cZ (cZ (cZ (cZ (cZ (inI c.mode 0 2) (inI c.width 1 2) false) (inI c.rob 2 8) false) (inI c.queue 1 4) false) (inI c.stores 1 4) false) (inI c.slots 2 6) false) (inI c.sets 1 4) false) (c.sets != 3) false) rfl rfl rfl rfl hsT rfl rfl rfl (.inl rfl) rfl (λ hg=>xQ c.ways 1 2)<|cV rfl rfl rfl (λ h=>h)<|oR 1 rfl<|gN rfl<|gS rfl id<|gBS (x:=vN c.lat.length) rfl id (bY iL c.lat)<|gBS (x:=vB (decide (c.lat.length≤64))) rfl id (okB (leN _ _))<|cV rfl rfl rfl (λ h=>h)<|oR 1 rfl<|gN rfl<|gS rfl id<|gBS (x:=vN c.tape.length) rfl id (bY eX c.tape)<|gBS (x:=vB (decide (c.tape.length≤64))) rfl id (okB (leN _ _))<|cV rfl rfl rfl (λ h=>h)<|oR 1 rfl<|rE 72<|cO ?_;have hall:=Dh (p:=λ n=>inI n 1 8) omT hk.2;exact fT rfl (dL (by unfold sW;rw[hall,bS];simp[pY,tP]))
theorem XK(c:Ca)(f:Cf)(hok:c.ok):bX C0 48 [.agg (caL c false),.agg (cfL f false false)] (vB (tM c f)):=by
 refine bX.intro c0Ok Tryz.func48 rfl rfl (by kernel_rfl) rfl<|cSR<|rAl 0 rfl rfl<|rAl 1 rfl rfl<|oR 1 rfl<|rE 3<|cSR<|oR 1 rfl<|rCi rfl (Am c false hok)<|oR 1 rfl<|gN rfl<|gS rfl id<|gBS (x:=vN c.sets.length) rfl id (bY bC c.sets)<|gN rfl<|gS rfl id<|gBS (x:=vB (((c.sets.length:Nat):Int)==f.sets)) rfl hsT rfl<|cV rfl rfl rfl (λ h=>h)<|oR 1 rfl<|gN rfl<|gS rfl id<|gN rfl<|gS rfl id<|gBS (x:=vB (c.ways==f.ways)) rfl hsT rfl<|cV rfl rfl rfl (λ h=>h)<|oR 1 rfl<|rE 21<|cO ?_;exact fT rfl (dL (by rw[bS];simp[pY,cOr,tM]))
abbrev brA(t:Ca×List Req×Bool):AV:=.tup [.agg (caL t.1 false),.sl 4 (t.2.1.map rqL) false,vB t.2.2]
abbrev dnA(t:List Pt×Ca×Bool):AV:=.tup [.sl 2 (t.1.map ptL) false,.agg (caL t.2.1 false),vB t.2.2]
theorem FN{c:Ca}(hok:c.ok)(line:Nat)(d:ByteArray)(b:Bool):(nP c line d b).2.1.line≤4294967295:=by
 by_cases hR:fR c=true
 ·by_cases hF:(bE c line).2.isSome=true
  ·rw[Bx hF];exact aE _
  ·rw[Aj hR (by simpa using hF)];split
   ·show ((oD c (bE c line).1).getLast?.getD pO).line≤_
    cases hl:(oD c (bE c line).1).getLast? with
    |none=>exact aE _
    |some w=>
     have hw:=List.mem_of_getLast? hl;have hk:(bE c line).1<c.sets.length:=by rw[qV hR];exact Ah (kE hR).1 _
     rw[uB (aA hk)]at hw;exact ((hok.set _ (lG hk)).2 w hw).line
   ·exact aE _
 ·rw[LU (by simpa using hR)];exact aE _
theorem LP(c:Ca)(q:List Req)(m:ByteArray)(line:Nat)(left:Int)(hok:c.ok)(hq:q.length≤900000)(ho:∀ x∈q,x.ok)(hm:m.size≤1000000)(hline:line≤4294967295):bX C0 155 [.agg (caL c false),.sl 4 (q.map rqL) false,.v (.string m),vU line,vI left] (brA (gC c q m line left)):=by
 refine dc1 (bX.intro c1Ok Tryz.func155 rfl rfl (by kernel_rfl) rfl ?_);refine cSR<|rAl 0 rfl rfl<|rAl 1 rfl rfl<|oR 2 rfl<|rE 4<|bW<|cSR<|oR 1 rfl<|rCi rfl (Am c false hok)<|oR 1 rfl<|rE 7<|aW rfl (λ h1=>?_) (λ h1=>?_)
 ·refine cSR<|oR 2 rfl<|rSt rfl<|oR 2 rfl<|rE 12<|cO ?_;rw[show gC c q m line left=(c,q,false)from by unfold gC;rw[if_pos (by simpa using h1)]];exact fT rfl rfl
 ·refine bB<|cSR<|oR 1 rfl<|rCi rfl (sU line hline)<|oR 1 rfl<|rE 10<|bW<|cSR<|oR 2 rfl<|rCi rfl (zJ c (lineOf line) hok (dR hline))<|oR 7 rfl<|rE 20<|cSR<|oR 1 rfl<|rE 21<|aW rfl (λ h2=>?_) (λ h2=>?_)
  ·refine cSR<|oR 2 rfl<|rCi rfl (Hp c (lineOf line) hok (dR hline))<|oR 1 rfl<|rSt rfl<|oR 2 rfl<|rE 28<|cO ?_;rw[show gC c q m line left=(mG c (lineOf line),q,false)from by unfold gC;rw[if_neg (by simpa using h1),if_pos h2]];exact fT rfl rfl
  ·refine bB<|cSR<|oR 4 rfl<|rCi rfl (Py q m false hm hq ho)<|oR 1 rfl<|rCi rfl (Zk (jI q m) (lineOf line) (by unfold jI;rw[gY];exact hm) (dR hline))<|rCi rfl (PB c (lineOf line) (El (jI q m) (lineOf line)) false hok (dR hline))<|oR 4 rfl<|rAl 33 rfl rfl<|rSt rfl<|rSt rfl<|oR 1 rfl<|rE 37<|bW<|bW<|cRg<|oR 2 rfl<|gN rfl<|gS rfl id<|cV rfl rfl rfl (λ h=>h)<|oR 1 rfl<|gN rfl<|gS rfl id<|gBS (x:=vB (!(((nP c (lineOf line) (El (jI q m) (lineOf line)) false).2.1.data).toList==(⟨#[]⟩:ByteArray).toList))) rfl id rfl<|cV rfl rfl rfl (λ h=>h)<|rE 47<|aW rfl (λ h3=>?_) (λ h3=>?_)
   ·have hq4:((nP c (lineOf line) (El (jI q m) (lineOf line)) false).2.2=true∧(nP c (lineOf line) (El (jI q m) (lineOf line)) false).2.1.dirty=true∧(nP c (lineOf line) (El (jI q m) (lineOf line)) false).2.1.data.size≠0):=by have z:=h3;rw[wS]at z;simpa [pY,tP]using z
    refine cSR<|oR 7 rfl<|rCi rfl (LT q 4 (nP c (lineOf line) (El (jI q m) (lineOf line)) false).2.1.line left (nP c (lineOf line) (El (jI q m) (lineOf line)) false).2.1.data false hq ho (FN hok _ _ _))<|rSt rfl<|oR 2 rfl<|rE 58<|cO ?_;rw[show gC c q m line left=((nP c (lineOf line) (El (jI q m) (lineOf line)) false).1,xZ q 4 (nP c (lineOf line) (El (jI q m) (lineOf line)) false).2.1.line left (nP c (lineOf line) (El (jI q m) (lineOf line)) false).2.1.data,true)from by unfold gC;rw[if_neg (by simpa using h1),if_neg (by rw[h2];decide)];exact if_pos hq4];exact fT rfl rfl
   ·have hq4: ¬ ((nP c (lineOf line) (El (jI q m) (lineOf line)) false).2.2=true∧(nP c (lineOf line) (El (jI q m) (lineOf line)) false).2.1.dirty=true∧(nP c (lineOf line) (El (jI q m) (lineOf line)) false).2.1.data.size≠0):=by have z:=h3;rw[wS]at z;simpa [pY,tP]using z
    refine bB<|cSR<|oR 2 rfl<|rSt rfl<|oR 2 rfl<|rE 52<|cO ?_;rw[show gC c q m line left=((nP c (lineOf line) (El (jI q m) (lineOf line)) false).1,q,false)from by unfold gC;rw[if_neg (by simpa using h1),if_neg (by rw[h2];decide)];exact if_neg hq4];exact fT rfl rfl
theorem XL(l:List Pt)(c:Ca)(hok:c.ok)(hl:l.length≤1000000)(ho:∀ x∈l,x.ok):bX C0 120 [.sl 2 (l.map ptL) false,.agg (caL c false)] (dnA (mK l c)):=by
 refine dc1 (bX.intro c1Ok Tryz.func120 rfl rfl (by kernel_rfl) rfl ?_);refine cSR<|rAl 0 rfl rfl<|oR 1 rfl<|rAl 2 rfl rfl<|oR 1 rfl<|rE 4<|bW<|cSR<|oR 1 rfl<|rW (vN l.length) rfl (bY ptL l)<|rW (vB (l.length==0)) rfl (okB (eqN _ _))<|rE 7<|aW rfl (λ h1=>?_) (λ h1=>?_)
 ·have h1p:=mU h1;refine bW<|ES rfl rfl<|oR 3 rfl<|rSt rfl<|oR 1 rfl<|rE 12<|And.intro (by kernel_rfl)<|cO ?_;have hz:l=[]:=aX h1p;subst hz;exact fT rfl rfl
 ·have h1p:=mV h1;refine bB<|cSR<|oR 2 rfl ?_;obtain⟨p,hp⟩:∃ x,l[0]?=some x:=⟨_,aA omT⟩;have hpo:=ho p (aB hp);refine Ih (ptL p) (x:=.dp 2 0 (ptL p)) rfl rfl rfl (⟨by decide,iB hp⟩) rfl<|oR 3 rfl<|Ih (ptL p) (x:=.dp 2 0 (ptL p)) rfl rfl rfl (⟨by decide,iB hp⟩) rfl<|oR 2 rfl<|rCi rfl (Sy c p.addr p.data hok hpo.addr)<|oR 3 rfl<|rAl 20 rfl rfl<|rSt rfl<|oR 1 rfl<|rE 23<|bW<|cSR<|oR 2 rfl<|rE 25<|aW rfl (λ h2=>?_) (λ h2=>?_)
  ·refine bW<|ES rfl rfl<|oR 3 rfl<|rSt rfl<|oR 1 rfl<|rE 30<|And.intro (by kernel_rfl)<|cO ?_;rw[show mK l c=(l,c,false)from by unfold mK;cases l with|nil=>cases hp|cons y l=>injection hp with hp;subst hp;exact if_neg (by simpa using h2)];exact fT rfl rfl
  ·refine bB<|bW<|ES rfl rfl<|oR 1 rfl<|nW (.sl 2 ((l.drop 1).map ptL) false) rfl (wU (Jk ptL l 1)) slT<|oR 2 rfl<|rSt rfl<|oR 1 rfl<|rE 31<|And.intro (by kernel_rfl)<|cO ?_;rw[show mK l c=(l.drop 1,(qM c p.addr p.data).1,true)from by unfold mK;cases l with|nil=>cases hp|cons y l=>injection hp with hp;subst hp;exact if_pos (by simpa using h2)];exact fT rfl rfl
structure Gu.ok(g:Gu):Prop where
 slots:g.slots.length≤9223372036854775807
 rets:g.rets.length≤9223372036854775807
 hist:g.hist≤4294967295
 so:∀ x∈g.slots,x.ok
 ro:∀ x∈g.rets,x≤4294967295
theorem Wg{g:Gu}:rM g=true↔g.slots.length=8∧g.hist<8∧g.rets.length≤4:=by
 unfold rM;simp only[aI,aP,tP]
theorem Yk{r:Bool}{k:Nat}(h:cZ (!r) true (k != 5)=false):r=true∧k=5:=by
 cases r<;>simp[cZ]at h⊢;exact h
theorem Uo{r:Bool}{k:Nat}(h:cZ (!r) true (k != 5)=true): ¬ (r=true∧k=5):=by
 cases r<;>simp[cZ]at h⊢;exact h
theorem Tb{l:List Nat}{x:Nat}(h:l[l.length - 1]?=some x):l.getLast?.getD 0=x:=by rw[oY,h];rfl
theorem HL(g:Gu)(hok:g.ok):bX C0 49 [.agg (guL g)] (vB (rM g)):=by
 refine bX.intro c0Ok Tryz.func49 rfl rfl (by kernel_rfl) rfl<|cSR<|rAl 0 rfl rfl<|oR 1 rfl<|rE 2<|cSR<|oR 2 rfl<|rW (vN g.slots.length) rfl (bY gsL g.slots)<|rW (vB (g.slots.length==8)) rfl (okB (eqN _ _))<|oR 1 rfl<|gN rfl<|gS rfl id<|gBS (x:=vB (decide (g.hist<8))) rfl id (okB (ltN _ _))<|cV rfl rfl rfl (λ h=>h)<|oR 1 rfl<|gN rfl<|gS rfl id<|gBS (x:=vN g.rets.length) rfl id (bY eX g.rets)<|gBS (x:=vB (decide (g.rets.length≤4))) rfl id (okB (leN _ _))<|cV rfl rfl rfl (λ h=>h)<|oR 1 rfl<|rE 18<|cO ?_;exact fT rfl (dL (by rw[bS];simp[pY,cOr,rM]))
theorem Qh(g:Gu)(pc:Nat)(hok:g.ok)(hpc:pc≤4294967295):bX C0 160 [.agg (guL g),vU pc] (vN (gJ g pc)):=by
 refine bX.intro c0Ok Tryz.func160 rfl rfl (by kernel_rfl) rfl<|cSR<|rAl 0 rfl rfl<|oR 1 rfl<|rE 2<|cSR<|oR 1 rfl ?_;have b1:pc / 4≤1073741823:=jA hpc;refine nW (vU (pc / 4)) rfl (Gr (Ig b1 rfl)) (by decide)<|oR 2 rfl ?_;refine rW (vU ((pc / 4) ^^^ g.hist)) rfl (okI (WX b1 hok.hist rfl rfl)) ?_;have b3:((pc / 4) ^^^ g.hist) % 8≤7:=aR (bA _ (by decide));refine nW (vU (((pc / 4) ^^^ g.hist) % 8)) rfl rfl (by decide)<|rW (vN (((pc / 4) ^^^ g.hist) % 8)) rfl (okI (bV b3 rfl))<|oR 1 rfl<|rE 10<|cO ?_;exact fT rfl (YG rfl)
theorem Jy(g:Gu)(pc:Nat):gJ g pc≤7:=by unfold gJ;omega
theorem Qi(i:SI)(hi:i.imm≤4294967295):bX C0 161 [siA i] (vB (PM i)):=by
 refine bX.intro c0Ok Tryz.func161 rfl rfl (by kernel_rfl) rfl<|cSR<|rAl 0 rfl rfl<|oR 1 rfl<|rE 2<|cSR<|oR 2 rfl<|rV (vB (i.op==3)) rfl<|oR 1 rfl<|gN rfl<|gS rfl id<|gBS (x:=vB (i.op==4)) rfl id rfl<|cV rfl rfl rfl (by simp)<|oR 1 rfl<|gN rfl<|gS rfl id<|gBS (x:=vB (i.rd==1)) rfl id rfl<|cV rfl rfl rfl (λ h=>h)<|oR 1 rfl<|rE 16<|cO ?_;exact fT rfl (dL (by rw[bS];simp[pY,cOr,PM]))
theorem Qj(i:SI)(hi:i.imm≤4294967295):bX C0 162 [siA i] (vB (Fc i)):=by
 refine bX.intro c0Ok Tryz.func162 rfl rfl (by kernel_rfl) rfl<|cSR<|rAl 0 rfl rfl<|oR 1 rfl<|rE 2<|cSR<|oR 2 rfl<|rV (vB (i.op==4)) rfl<|oR 1 rfl<|gN rfl<|gS rfl id<|gBS (x:=vB (i.rd==0)) rfl id rfl<|cV rfl rfl rfl (λ h=>h)<|oR 1 rfl<|gN rfl<|gS rfl id<|gBS (x:=vB (i.rs1==1)) rfl id rfl<|cV rfl rfl rfl (λ h=>h)<|oR 1 rfl<|rE 16<|cO ?_;exact fT rfl (dL (by rw[bS];simp[pY,cOr,Fc]))
theorem Qk(g:Gu)(pc:Nat)(i:SI)(hok:g.ok)(hpc:pc≤4294967295)(hi:i.imm≤4294967295):bX C0 172 [.agg (guL g),vU pc,siA i] (vU (vX g pc i)):=by
 refine dc1 (bX.intro c1Ok Tryz.func172 rfl rfl (by kernel_rfl) rfl ?_);refine cSR<|rAl 0 rfl rfl<|rAl 1 rfl rfl<|oR 1 rfl<|rE 3<|bW<|cSR<|oR 1 rfl<|rCi rfl (HL g hok)<|oR 2 rfl<|gN rfl<|kM (x:=vN (kindOf i.op)) (g:= !(!(rM g))) rfl rfl rfl rfl (λ h=>h) rfl rfl rfl (.inl rfl) rfl (λ hg=>qN i)<|gBS (x:=vB ((kindOf i.op) != 5)) rfl id (okB (neN _ _))<|cV rfl rfl rfl (by simp)<|rE 11<|aW rfl (λ h1=>?_) (λ h1=>?_)
 ·have hN:=Uo h1;refine cSR<|oR 1 rfl ?_;have b1:(pc+4) % 4294967296≤4294967295:=aR (bA _ (by decide));refine rV (vU ((pc+4) % 4294967296)) rfl<|oR 1 rfl<|rE 14<|cO ?_;exact fT rfl (FR (by unfold vX;rw[if_neg hN];rfl))
 ·have hR:=Yk h1;have hR1:=Wg.1 hR.1;have hR2:=hR1.1;have hS:=Jy g pc;have hR3:=hR1.2.2;refine bB<|bW<|cSR<|oR 2 rfl<|rW (vN g.rets.length) rfl (bY eX g.rets)<|oR 1 rfl<|rE 15<|cSR<|oR 1 rfl<|rCi rfl (Qj i hi)<|oR 1 rfl<|gN rfl<|gBS (x:=vB (decide (g.rets.length>0))) rfl id (okB (gtN _ _))<|cV rfl rfl rfl (λ h=>h)<|rE 21<|aW rfl (λ h2=>?_) (λ h2=>?_)
  ·have hB:Fc i=true∧0<g.rets.length:=by simpa [pY]using h2
   have hB2:=hB.2;refine cSR<|oR 3 rfl ?_;have b2:g.rets.length - 1≤9223372036854775807:=aM (jQ _ _) hok.rets;refine rW (vN (g.rets.length - 1)) rfl (okI (CG omT hok.rets rfl)) ?_;obtain⟨rx,hrx⟩:∃ x,g.rets[(g.rets.length - 1)]?=some x:=⟨_,aA omT⟩;have hrxo:=hok.ro rx (aB hrx);refine rIx (eX rx) (.dp 1 0 (eX rx)) rfl rfl (iB hrx) rfl<|oR 2 rfl<|rE 28<|cO ?_;exact fT rfl (FR (by unfold vX;rw[if_pos hR,if_pos hB,Tb hrx]))
  ·have hB: ¬ (Fc i=true∧0<g.rets.length):=by simpa [pY]using h2
   refine bB<|cSR<|oR 4 rfl<|rCi rfl (Qh g pc hok hpc) ?_;obtain⟨sx,hsx⟩:∃ x,g.slots[(gJ g pc)]?=some x:=⟨_,aA omT⟩;have hsxo:=hok.so sx (aB hsx);refine rIx (gsL sx) (.dp 2 0 (gsL sx)) rfl rfl (iB hsx) rfl<|oR 1 rfl<|rAl 28 rfl rfl<|rSt rfl<|rE 30<|bW<|cSR<|oR 3 rfl<|rW (vB (sx.pc==pc)) rfl (okB (eqN _ _))<|oR 1 rfl<|gN rfl<|gB (x:=.agg [.v (.int .u32 0),.v (.int .u32 0)]) rfl rfl<|gBS (x:=vB (!((((sx.pc:Nat):Int)==0)&&((((sx.next:Nat):Int)==0)&&true)))) rfl hsT rfl<|cV rfl rfl rfl (λ h=>h)<|rE 39<|aW rfl (λ h3=>?_) (λ h3=>?_)
   ·refine cSR<|oR 3 rfl<|rE 42<|cO ?_;exact fT rfl (FR (by unfold vX;rw[if_pos hR,if_neg hB];have z:=h3;simp[pY]at z;simp[hsx,up4,z]<;>(intros;simp_all)))
   ·refine bB<|cSR<|oR 1 rfl ?_;have b3:(pc+4) % 4294967296≤4294967295:=aR (bA _ (by decide));refine rV (vU ((pc+4) % 4294967296)) rfl<|oR 1 rfl<|rE 42<|cO ?_;exact fT rfl (FR (by unfold vX;rw[if_pos hR,if_neg hB];have z:=h3;simp[pY]at z;simp[hsx,up4,z]<;>(intros;simp_all)))
theorem Ao(g:Gu)(pc next:Nat)(i:SI)(hok:g.ok)(hpc:pc≤4294967295)(hnext:next≤4294967295)(hi:i.imm≤4294967295):bX C0 108 [.agg (guL g),vU pc,vU next,siA i] (.agg (guL (gQ g pc next i))):=by
 refine dc1 (bX.intro c1Ok Tryz.func108 rfl rfl (by kernel_rfl) rfl ?_);refine cSR<|rAl 0 rfl rfl<|rAl 1 rfl rfl<|rAl 2 rfl rfl<|rE 3<|bW<|cSR<|oR 1 rfl<|rCi rfl (HL g hok)<|oR 2 rfl<|gN rfl<|kM (x:=vN (kindOf i.op)) (g:= !(!(rM g))) rfl rfl rfl rfl (λ h=>h) rfl rfl rfl (.inl rfl) rfl (λ hg=>qN i)<|gBS (x:=vB ((kindOf i.op) != 5)) rfl id (okB (neN _ _))<|cV rfl rfl rfl (by simp)<|rE 11<|aW rfl (λ h1=>?_) (λ h1=>?_)
 ·have hN:=Uo h1;refine cSR<|oR 1 rfl<|rSt rfl<|rE 13<|cO<|fG rfl tvT rfl ?_;show AV.agg [.sl 2 (g.slots.map gsL) false,vU g.hist,.sl 1 (g.rets.map eX) false]=_;refine congrArg (λ z=>AV.agg (guL z)) (?_:g=gQ g pc next i);unfold gQ;rw[if_neg hN]
 ·have hR:=Yk h1;have hR1:=Wg.1 hR.1;have hR2:=hR1.1;have hS:=Jy g pc;have hR3:=hR1.2.2;refine bB<|cSR<|rFx (x:=.osl 11 0 8 false) (h':=upd _ 11 (some (.arr ((List.replicate 8 (⟨0,0⟩:Gs)).map gsL) 2))) rfl rfl (PF (fP (f:=gsL) (a:=(⟨0,0⟩:Gs))).symm) (⟨by decide,by decide,by show ((8:Nat):Int)≤1000000;omega⟩)<|oR 1 rfl<|rE 13<|cSR<|oR 3 rfl<|rFx (x:=vI ((min ((g.slots.map gsL).length) (8):Nat):Int)) (h':=upd _ 11 (some (.arr (g.slots.map gsL) 2))) rfl rfl (Hy (Di gsL ((List.replicate 8 (⟨0,0⟩:Gs)).map gsL) g.slots omT omT)) (⟨by exact omT,trivial⟩)<|rE 17<|cSR<|oR 3 rfl<|rCi rfl (Qh g pc hok hpc)<|oR 2 rfl<|rV (.agg [vU pc,vU next]) rfl<|nW (.ptr2 11 (0+(gJ g pc)) 0) rfl rfl ixT ?_;obtain⟨sx,hsx⟩:∃ x,g.slots[(gJ g pc)]?=some x:=⟨_,aA omT⟩;have hsxo:=hok.so sx (aB hsx);have hx1:(g.slots.set (gJ g pc) (⟨pc,next⟩:Gs))[(gJ g pc)]?=some (⟨pc,next⟩:Gs):=aQ omT;refine nI (gsL sx) (h':=upd _ 11 (some (.arr ((g.slots.set (gJ g pc) (⟨pc,next⟩:Gs)).map gsL) 2))) rfl rfl rfl (⟨aG _,Ii (iB hsx)⟩) (uW (f:=gsL) (l:=g.slots) (k:=(gJ g pc)) (x:=(⟨pc,next⟩:Gs)))<|rE 26<|cSR<|oR 2 rfl ?_;have b1:(2 * g.hist) % 4294967296≤4294967295:=aR (bA _ (by decide));refine rV (vU ((2 * g.hist) % 4294967296)) rfl<|oR 1 rfl<|rE 30<|bW<|cSR<|oR 2 rfl ?_;have b2:(pc+4) % 4294967296≤4294967295:=aR (bA _ (by decide));refine rV (vU ((pc+4) % 4294967296)) rfl<|rW (vB (next != ((pc+4) % 4294967296))) rfl (okB (neN _ _))<|rE 34<|aW rfl (λ h2=>?_) (λ h2=>?_)
  ·have h2p:=vH h2;refine cRg<|oR 1 rfl ?_;have b3:(((2 * g.hist) % 4294967296)+1) % 4294967296≤4294967295:=aR (bA _ (by decide));refine rV (vU ((((2 * g.hist) % 4294967296)+1) % 4294967296)) rfl<|oR 1 rfl<|rE 37<|cSR<|rFx (x:=.osl 37 0 0 false) (h':=upd _ 37 (some (.arr (([]:List Nat).map eX) 1))) rfl rfl (rfl) (⟨by decide,by decide,by show ((5:Nat):Int)≤1000000;omega⟩)<|oR 1 rfl<|rE 39<|cSR<|oR 3 rfl<|rFx (x:=.osl 42 0 g.rets.length false) (h':=upd (upd _ 37 none) 42 (some (.arr (g.rets.map eX) 1))) rfl rfl (jL eX ([]:List Nat) g.rets omT omT) (⟨by exact omT,by exact omT,trivial⟩)<|oR 1 rfl<|rE 44<|bW<|bW<|cRg<|oR 1 rfl<|rV (vN g.rets.length) rfl<|oR 1 rfl<|rE 47<|bK<|cSR<|oR 1 rfl<|rCi rfl (Qi i hi)<|oR 1 rfl<|rE 50<|aW rfl (λ h3=>?_) (λ h3=>?_)
   ·refine cSR<|oR 2 rfl ?_;have b4:(pc+4) % 4294967296≤4294967295:=aR (bA _ (by decide));refine rV (vU ((pc+4) % 4294967296)) rfl<|rV (.sl 1 ([[vU ((pc+4) % 4294967296)]]) true) rfl<|rFx (x:=.osl 54 0 (g.rets.length+1) false) (h':=upd (upd _ 42 none) 54 (some (.arr ((g.rets++([(pc+4) % 4294967296])).map eX) 1))) rfl rfl (jL eX g.rets ([(pc+4) % 4294967296]) omT omT) (⟨by exact omT,by exact omT,trivial⟩)<|oR 1 rfl<|rE 56<|cSR<|oR 1 rfl<|rV (vN (g.rets.length+1)) rfl<|rW (vB (decide ((g.rets.length+1)>4))) rfl (okB (gtN _ _))<|rE 59<|aW rfl (λ h4=>?_) (λ h4=>?_)
    ·have h4p:=of_decide_eq_true h4;refine cRg<|oR 1 rfl<|nW (.osl 54 1 (g.rets.length+1 - 1) false) rfl (KH (by first|rfl|omega) (by simp only[Option.getD];omega)) slT<|oR 1 rfl<|rE 62<|cSR<|oR 2 rfl ?_;have b5:((((2 * g.hist) % 4294967296)+1) % 4294967296) % 8≤7:=aR (bA _ (by decide));refine nW (vU (((((2 * g.hist) % 4294967296)+1) % 4294967296) % 8)) rfl rfl (by decide)<|oR 1 rfl<|rV (.agg [.osl 11 0 8 false,vU (((((2 * g.hist) % 4294967296)+1) % 4294967296) % 8),.osl 54 1 (g.rets.length+1 - 1) false]) rfl<|rSt rfl<|rE 68<|cO<|fG rfl ⟨(by show 0+8≤((g.slots.set (gJ g pc) (⟨pc,next⟩:Gs)).map gsL).length;exact omT),trivial,(by show 1+(g.rets.length+1 - 1)≤((g.rets++([(pc+4) % 4294967296])).map eX).length;exact omT),trivial⟩ rfl ?_;show AV.agg [.sl 2 (List.take 8 (List.drop 0 ((g.slots.set (gJ g pc) (⟨pc,next⟩:Gs)).map gsL))) false,vU (((((2 * g.hist) % 4294967296)+1) % 4294967296) % 8),.sl 1 (List.take (g.rets.length+1 - 1) (List.drop 1 ((g.rets++([(pc+4) % 4294967296])).map eX))) false]=_;rw[kG gsL (g.slots.set (gJ g pc) (⟨pc,next⟩:Gs)) omT,Bz (M:=(g.rets++([(pc+4) % 4294967296])).drop 1) eX (g.rets++([(pc+4) % 4294967296])) (aL omT)];refine congrArg (λ z=>AV.agg (guL z)) (?_:(⟨g.slots.set (gJ g pc) (⟨pc,next⟩:Gs),((((2 * g.hist) % 4294967296)+1) % 4294967296) % 8,(g.rets++([(pc+4) % 4294967296])).drop 1⟩:Gu)=gQ g pc next i);unfold gQ;rw[if_pos hR];have z:=h2;have z0:=h3;have z1:=h4;have hu:up4 pc=(pc+4) % 4294967296:=rfl;rw[hu]
     try simp[pY]at z z0 z1
     simp[z,z0,z1,dZ]<;>(intros;first|omega|simp_all)
    ·have h4p:=aD h4;refine bB<|cSR<|oR 2 rfl ?_;have b6:((((2 * g.hist) % 4294967296)+1) % 4294967296) % 8≤7:=aR (bA _ (by decide));refine nW (vU (((((2 * g.hist) % 4294967296)+1) % 4294967296) % 8)) rfl rfl (by decide)<|oR 1 rfl<|rV (.agg [.osl 11 0 8 false,vU (((((2 * g.hist) % 4294967296)+1) % 4294967296) % 8),.osl 54 0 (g.rets.length+1) false]) rfl<|rSt rfl<|rE 65<|cO<|fG rfl ⟨(by show 0+8≤((g.slots.set (gJ g pc) (⟨pc,next⟩:Gs)).map gsL).length;exact omT),trivial,(by show 0+(g.rets.length+1)≤((g.rets++([(pc+4) % 4294967296])).map eX).length;exact omT),trivial⟩ rfl ?_;show AV.agg [.sl 2 (List.take 8 (List.drop 0 ((g.slots.set (gJ g pc) (⟨pc,next⟩:Gs)).map gsL))) false,vU (((((2 * g.hist) % 4294967296)+1) % 4294967296) % 8),.sl 1 (List.take (g.rets.length+1) (List.drop 0 ((g.rets++([(pc+4) % 4294967296])).map eX))) false]=_;rw[kG gsL (g.slots.set (gJ g pc) (⟨pc,next⟩:Gs)) omT,kG eX (g.rets++([(pc+4) % 4294967296])) omT];refine congrArg (λ z=>AV.agg (guL z)) (?_:(⟨g.slots.set (gJ g pc) (⟨pc,next⟩:Gs),((((2 * g.hist) % 4294967296)+1) % 4294967296) % 8,g.rets++([(pc+4) % 4294967296])⟩:Gu)=gQ g pc next i);unfold gQ;rw[if_pos hR];have z:=h2;have z0:=h3;have z1:=h4;have hu:up4 pc=(pc+4) % 4294967296:=rfl;rw[hu]
     try simp[pY]at z z0 z1
     simp[z,z0,z1,dZ]<;>(intros;first|omega|simp_all)
   ·refine cSR<|oR 1 rfl<|rCi rfl (Qj i hi)<|oR 1 rfl<|gN rfl<|gBS (x:=vB (decide (g.rets.length>0))) rfl id (okB (gtN _ _))<|cV rfl rfl rfl (λ h=>h)<|oR 1 rfl<|rE 57<|aW rfl (λ h5=>?_) (λ h5=>?_)
    ·have hB:Fc i=true∧0<g.rets.length:=by simpa [pY]using h5
     have hB2:=hB.2;refine cRg<|oR 2 rfl ?_;have b7:g.rets.length - 1≤9223372036854775807:=aM (jQ _ _) hok.rets;refine rW (vN (g.rets.length - 1)) rfl (okI (CG omT hok.rets rfl))<|nW (.osl 42 0 (g.rets.length - 1) false) rfl (KH (by first|rfl|omega) (by simp only[Option.getD];omega)) slT<|oR 1 rfl<|rE 62<|cSR<|oR 2 rfl ?_;have b8:((((2 * g.hist) % 4294967296)+1) % 4294967296) % 8≤7:=aR (bA _ (by decide));refine nW (vU (((((2 * g.hist) % 4294967296)+1) % 4294967296) % 8)) rfl rfl (by decide)<|oR 1 rfl<|rV (.agg [.osl 11 0 8 false,vU (((((2 * g.hist) % 4294967296)+1) % 4294967296) % 8),.osl 42 0 (g.rets.length - 1) false]) rfl<|rSt rfl<|rE 68<|cO<|fG rfl ⟨(by show 0+8≤((g.slots.set (gJ g pc) (⟨pc,next⟩:Gs)).map gsL).length;exact omT),trivial,(by show 0+(g.rets.length - 1)≤(g.rets.map eX).length;exact omT),trivial⟩ rfl ?_;show AV.agg [.sl 2 (List.take 8 (List.drop 0 ((g.slots.set (gJ g pc) (⟨pc,next⟩:Gs)).map gsL))) false,vU (((((2 * g.hist) % 4294967296)+1) % 4294967296) % 8),.sl 1 (List.take (g.rets.length - 1) (List.drop 0 (g.rets.map eX))) false]=_;rw[kG gsL (g.slots.set (gJ g pc) (⟨pc,next⟩:Gs)) omT,Bz (M:=g.rets.take (g.rets.length - 1)) eX g.rets (by rw[cA])];refine congrArg (λ z=>AV.agg (guL z)) (?_:(⟨g.slots.set (gJ g pc) (⟨pc,next⟩:Gs),((((2 * g.hist) % 4294967296)+1) % 4294967296) % 8,g.rets.take (g.rets.length - 1)⟩:Gu)=gQ g pc next i);unfold gQ;rw[if_pos hR];have z:=h2;have z0:=h3;have z1:=h5;have hu:up4 pc=(pc+4) % 4294967296:=rfl;rw[hu]
     try simp[pY]at z z0 z1
     simp[z,z0,z1,dZ]<;>(intros;first|omega|simp_all)
    ·have hB: ¬ (Fc i=true∧0<g.rets.length):=by simpa [pY]using h5
     refine bB<|cSR<|oR 2 rfl ?_;have b9:((((2 * g.hist) % 4294967296)+1) % 4294967296) % 8≤7:=aR (bA _ (by decide));refine nW (vU (((((2 * g.hist) % 4294967296)+1) % 4294967296) % 8)) rfl rfl (by decide)<|oR 1 rfl<|rV (.agg [.osl 11 0 8 false,vU (((((2 * g.hist) % 4294967296)+1) % 4294967296) % 8),.osl 42 0 g.rets.length false]) rfl<|rSt rfl<|rE 63<|cO<|fG rfl ⟨(by show 0+8≤((g.slots.set (gJ g pc) (⟨pc,next⟩:Gs)).map gsL).length;exact omT),trivial,(by show 0+g.rets.length≤(g.rets.map eX).length;exact omT),trivial⟩ rfl ?_;show AV.agg [.sl 2 (List.take 8 (List.drop 0 ((g.slots.set (gJ g pc) (⟨pc,next⟩:Gs)).map gsL))) false,vU (((((2 * g.hist) % 4294967296)+1) % 4294967296) % 8),.sl 1 (List.take g.rets.length (List.drop 0 (g.rets.map eX))) false]=_;rw[kG gsL (g.slots.set (gJ g pc) (⟨pc,next⟩:Gs)) omT,kG eX g.rets omT];refine congrArg (λ z=>AV.agg (guL z)) (?_:(⟨g.slots.set (gJ g pc) (⟨pc,next⟩:Gs),((((2 * g.hist) % 4294967296)+1) % 4294967296) % 8,g.rets⟩:Gu)=gQ g pc next i);unfold gQ;rw[if_pos hR];have z:=h2;have z0:=h3;have z1:=h5;have hu:up4 pc=(pc+4) % 4294967296:=rfl;rw[hu]
     try simp[pY]at z z0 z1
     simp[z,z0,z1,dZ]<;>(intros;first|omega|simp_all)
  ·have h2p:=vJ h2;refine bB<|cSR<|rFx (x:=.osl 34 0 0 false) (h':=upd _ 34 (some (.arr (([]:List Nat).map eX) 1))) rfl rfl (rfl) (⟨by decide,by decide,by show ((5:Nat):Int)≤1000000;omega⟩)<|oR 1 rfl<|rE 36<|cSR<|oR 3 rfl<|rFx (x:=.osl 39 0 g.rets.length false) (h':=upd (upd _ 34 none) 39 (some (.arr (g.rets.map eX) 1))) rfl rfl (jL eX ([]:List Nat) g.rets omT omT) (⟨by exact omT,by exact omT,trivial⟩)<|oR 1 rfl<|rE 41<|bW<|cSR<|oR 1 rfl<|rV (vN g.rets.length) rfl<|oR 1 rfl<|rE 44<|bK<|cSR<|oR 1 rfl<|rCi rfl (Qi i hi)<|oR 1 rfl<|rE 47<|aW rfl (λ h6=>?_) (λ h6=>?_)
   ·refine cSR<|oR 2 rfl ?_;have b10:(pc+4) % 4294967296≤4294967295:=aR (bA _ (by decide));refine rV (vU ((pc+4) % 4294967296)) rfl<|rV (.sl 1 ([[vU ((pc+4) % 4294967296)]]) true) rfl<|rFx (x:=.osl 51 0 (g.rets.length+1) false) (h':=upd (upd _ 39 none) 51 (some (.arr ((g.rets++([(pc+4) % 4294967296])).map eX) 1))) rfl rfl (jL eX g.rets ([(pc+4) % 4294967296]) omT omT) (⟨by exact omT,by exact omT,trivial⟩)<|oR 1 rfl<|rE 53<|cSR<|oR 1 rfl<|rV (vN (g.rets.length+1)) rfl<|rW (vB (decide ((g.rets.length+1)>4))) rfl (okB (gtN _ _))<|rE 56<|aW rfl (λ h7=>?_) (λ h7=>?_)
    ·have h7p:=of_decide_eq_true h7;refine cRg<|oR 1 rfl<|nW (.osl 51 1 (g.rets.length+1 - 1) false) rfl (KH (by first|rfl|omega) (by simp only[Option.getD];omega)) slT<|oR 1 rfl<|rE 59<|cSR<|oR 2 rfl ?_;have b11:((2 * g.hist) % 4294967296) % 8≤7:=aR (bA _ (by decide));refine nW (vU (((2 * g.hist) % 4294967296) % 8)) rfl rfl (by decide)<|oR 1 rfl<|rV (.agg [.osl 11 0 8 false,vU (((2 * g.hist) % 4294967296) % 8),.osl 51 1 (g.rets.length+1 - 1) false]) rfl<|rSt rfl<|rE 65<|cO<|fG rfl ⟨(by show 0+8≤((g.slots.set (gJ g pc) (⟨pc,next⟩:Gs)).map gsL).length;exact omT),trivial,(by show 1+(g.rets.length+1 - 1)≤((g.rets++([(pc+4) % 4294967296])).map eX).length;exact omT),trivial⟩ rfl ?_;show AV.agg [.sl 2 (List.take 8 (List.drop 0 ((g.slots.set (gJ g pc) (⟨pc,next⟩:Gs)).map gsL))) false,vU (((2 * g.hist) % 4294967296) % 8),.sl 1 (List.take (g.rets.length+1 - 1) (List.drop 1 ((g.rets++([(pc+4) % 4294967296])).map eX))) false]=_;rw[kG gsL (g.slots.set (gJ g pc) (⟨pc,next⟩:Gs)) omT,Bz (M:=(g.rets++([(pc+4) % 4294967296])).drop 1) eX (g.rets++([(pc+4) % 4294967296])) (aL omT)];refine congrArg (λ z=>AV.agg (guL z)) (?_:(⟨g.slots.set (gJ g pc) (⟨pc,next⟩:Gs),((2 * g.hist) % 4294967296) % 8,(g.rets++([(pc+4) % 4294967296])).drop 1⟩:Gu)=gQ g pc next i);unfold gQ;rw[if_pos hR];have z:=h2;have z0:=h6;have z1:=h7;have hu:up4 pc=(pc+4) % 4294967296:=rfl;rw[hu]
     try simp[pY]at z z0 z1
     simp[z,z0,z1,dZ]<;>(intros;first|omega|simp_all)
    ·have h7p:=aD h7;refine bB<|cSR<|oR 2 rfl ?_;have b12:((2 * g.hist) % 4294967296) % 8≤7:=aR (bA _ (by decide));refine nW (vU (((2 * g.hist) % 4294967296) % 8)) rfl rfl (by decide)<|oR 1 rfl<|rV (.agg [.osl 11 0 8 false,vU (((2 * g.hist) % 4294967296) % 8),.osl 51 0 (g.rets.length+1) false]) rfl<|rSt rfl<|rE 62<|cO<|fG rfl ⟨(by show 0+8≤((g.slots.set (gJ g pc) (⟨pc,next⟩:Gs)).map gsL).length;exact omT),trivial,(by show 0+(g.rets.length+1)≤((g.rets++([(pc+4) % 4294967296])).map eX).length;exact omT),trivial⟩ rfl ?_;show AV.agg [.sl 2 (List.take 8 (List.drop 0 ((g.slots.set (gJ g pc) (⟨pc,next⟩:Gs)).map gsL))) false,vU (((2 * g.hist) % 4294967296) % 8),.sl 1 (List.take (g.rets.length+1) (List.drop 0 ((g.rets++([(pc+4) % 4294967296])).map eX))) false]=_;rw[kG gsL (g.slots.set (gJ g pc) (⟨pc,next⟩:Gs)) omT,kG eX (g.rets++([(pc+4) % 4294967296])) omT];refine congrArg (λ z=>AV.agg (guL z)) (?_:(⟨g.slots.set (gJ g pc) (⟨pc,next⟩:Gs),((2 * g.hist) % 4294967296) % 8,g.rets++([(pc+4) % 4294967296])⟩:Gu)=gQ g pc next i);unfold gQ;rw[if_pos hR];have z:=h2;have z0:=h6;have z1:=h7;have hu:up4 pc=(pc+4) % 4294967296:=rfl;rw[hu]
     try simp[pY]at z z0 z1
     simp[z,z0,z1,dZ]<;>(intros;first|omega|simp_all)
   ·refine cSR<|oR 1 rfl<|rCi rfl (Qj i hi)<|oR 1 rfl<|gN rfl<|gBS (x:=vB (decide (g.rets.length>0))) rfl id (okB (gtN _ _))<|cV rfl rfl rfl (λ h=>h)<|oR 1 rfl<|rE 54<|aW rfl (λ h8=>?_) (λ h8=>?_)
    ·have hB:Fc i=true∧0<g.rets.length:=by simpa [pY]using h8
     have hB2:=hB.2;refine cRg<|oR 2 rfl ?_;have b13:g.rets.length - 1≤9223372036854775807:=aM (jQ _ _) hok.rets;refine rW (vN (g.rets.length - 1)) rfl (okI (CG omT hok.rets rfl))<|nW (.osl 39 0 (g.rets.length - 1) false) rfl (KH (by first|rfl|omega) (by simp only[Option.getD];omega)) slT<|oR 1 rfl<|rE 59<|cSR<|oR 2 rfl ?_;have b14:((2 * g.hist) % 4294967296) % 8≤7:=aR (bA _ (by decide));refine nW (vU (((2 * g.hist) % 4294967296) % 8)) rfl rfl (by decide)<|oR 1 rfl<|rV (.agg [.osl 11 0 8 false,vU (((2 * g.hist) % 4294967296) % 8),.osl 39 0 (g.rets.length - 1) false]) rfl<|rSt rfl<|rE 65<|cO<|fG rfl ⟨(by show 0+8≤((g.slots.set (gJ g pc) (⟨pc,next⟩:Gs)).map gsL).length;exact omT),trivial,(by show 0+(g.rets.length - 1)≤(g.rets.map eX).length;exact omT),trivial⟩ rfl ?_;show AV.agg [.sl 2 (List.take 8 (List.drop 0 ((g.slots.set (gJ g pc) (⟨pc,next⟩:Gs)).map gsL))) false,vU (((2 * g.hist) % 4294967296) % 8),.sl 1 (List.take (g.rets.length - 1) (List.drop 0 (g.rets.map eX))) false]=_;rw[kG gsL (g.slots.set (gJ g pc) (⟨pc,next⟩:Gs)) omT,Bz (M:=g.rets.take (g.rets.length - 1)) eX g.rets (by rw[cA])];refine congrArg (λ z=>AV.agg (guL z)) (?_:(⟨g.slots.set (gJ g pc) (⟨pc,next⟩:Gs),((2 * g.hist) % 4294967296) % 8,g.rets.take (g.rets.length - 1)⟩:Gu)=gQ g pc next i);unfold gQ;rw[if_pos hR];have z:=h2;have z0:=h6;have z1:=h8;have hu:up4 pc=(pc+4) % 4294967296:=rfl;rw[hu]
     try simp[pY]at z z0 z1
     simp[z,z0,z1,dZ]<;>(intros;first|omega|simp_all)
    ·have hB: ¬ (Fc i=true∧0<g.rets.length):=by simpa [pY]using h8
     refine bB<|cSR<|oR 2 rfl ?_;have b15:((2 * g.hist) % 4294967296) % 8≤7:=aR (bA _ (by decide));refine nW (vU (((2 * g.hist) % 4294967296) % 8)) rfl rfl (by decide)<|oR 1 rfl<|rV (.agg [.osl 11 0 8 false,vU (((2 * g.hist) % 4294967296) % 8),.osl 39 0 g.rets.length false]) rfl<|rSt rfl<|rE 60<|cO<|fG rfl ⟨(by show 0+8≤((g.slots.set (gJ g pc) (⟨pc,next⟩:Gs)).map gsL).length;exact omT),trivial,(by show 0+g.rets.length≤(g.rets.map eX).length;exact omT),trivial⟩ rfl ?_;show AV.agg [.sl 2 (List.take 8 (List.drop 0 ((g.slots.set (gJ g pc) (⟨pc,next⟩:Gs)).map gsL))) false,vU (((2 * g.hist) % 4294967296) % 8),.sl 1 (List.take g.rets.length (List.drop 0 (g.rets.map eX))) false]=_;rw[kG gsL (g.slots.set (gJ g pc) (⟨pc,next⟩:Gs)) omT,kG eX g.rets omT];refine congrArg (λ z=>AV.agg (guL z)) (?_:(⟨g.slots.set (gJ g pc) (⟨pc,next⟩:Gs),((2 * g.hist) % 4294967296) % 8,g.rets⟩:Gu)=gQ g pc next i);unfold gQ;rw[if_pos hR];have z:=h2;have z0:=h6;have z1:=h8;have hu:up4 pc=(pc+4) % 4294967296:=rfl;rw[hu]
     try simp[pY]at z z0 z1
     simp[z,z0,z1,dZ]<;>(intros;first|omega|simp_all)
theorem Hk(i:SI):Rh i=true↔okE ⟨i.op,i.rd,i.rs1,i.rs2,i.imm⟩:=by
 unfold Rh okE;simp only[aI,aP];obtain⟨op,rd,rs1,rs2,imm⟩:=i;constructor
 ·rintro ⟨⟨⟨⟨⟨⟨h1,h2⟩,h3⟩,h4⟩,h5⟩,h6⟩,h7⟩;refine⟨h1,h2,?_⟩;generalize lZ op (vZ ⟨op,rd,rs1,rs2,imm⟩)=r at h3 h4 h5 h6 h7⊢;obtain⟨a,b,c,d,e⟩:=r;simp only at h3 h4 h5 h6 h7;subst h3 h4 h5 h6 h7;rfl
 ·rintro ⟨h1,h2,h3⟩;simp only at h3;refine⟨⟨⟨⟨⟨⟨h1,h2⟩,?_⟩,?_⟩,?_⟩,?_⟩,?_⟩<;>rw[h3]
theorem Vx(i:SI)(hi:i.imm<4294967296):bX C0 145 [siA i] (.tup [.v (.int .u32 ((if Rh i=true then vZ ⟨i.op,i.rd,i.rs1,i.rs2,i.imm⟩else 0:Nat):Int)),.v (.int .i64 (if Rh i=true then 0 else 1))]):=by
 by_cases h:Rh i=true
 ·rw[if_pos h,if_pos h];exact .of_tupG Tryz.func145 rfl rfl rfl rfl λ S w hG=>Qe Cl i.op i.rd i.rs1 i.rs2 i.imm w (Ci hG) hi ((Hk i).1 h)
 ·rw[if_neg h,if_neg h];exact .of_tupG Tryz.func145 rfl rfl rfl rfl λ S w hG=>Qf Cl i.op i.rd i.rs1 i.rs2 i.imm w (Ci hG) hi (λ q=>h ((Hk i).2 q))
theorem Vy(e:Ent)(he:e.ok):bX C0 84 [.agg (enL e)] (vB (sR e)):=by
 refine bX.intro c0Ok Tryz.func84 rfl rfl (by kernel_rfl) rfl<|cSR<|rAl 0 rfl rfl<|oR 1 rfl<|rE 2<|bW<|cSR<|oR 2 rfl<|rV (vB (decide (e.is<0))) rfl<|oR 1 rfl<|gN rfl<|gS rfl id<|gBS (x:=vB (decide (e.is>3))) rfl id rfl<|cV rfl rfl rfl (by simp)<|rE 10<|aW rfl (λ h1=>?_) (λ h1=>?_)
 ·refine cSR<|oR 1 rfl<|rE 11<|cO ?_;replace h1:=sP h1;exact fT rfl (dL (by unfold sR;grind [pY,cOr]))
 ·refine bB<|cSR<|oR 2 rfl<|rV (vB (e.is==1)) rfl<|oR 1 rfl<|rE 14<|bW<|cSR<|oR 2 rfl<|gN rfl<|gS rfl id<|gBS (x:=vB (decide (e.left≤0))) rfl id rfl<|cV rfl rfl rfl (λ h=>h)<|oR 1 rfl<|gN rfl<|gS rfl id<|gS rfl id<|gN rfl<|gS rfl id<|gBS (x:=vB (e.left != 0)) rfl id rfl<|sB (x:=vB (cZ (!(e.is==1)) (e.left != 0) false)) (g:= !(cZ (e.is==1) (decide (e.left≤0)) false)) rfl rfl rfl rfl (λ h=>h) rfl rfl (λ hg hc=>by first|(rw[hg,hc];rfl)|simp_all)<|cV rfl rfl rfl (by simp)<|rE 29<|aW rfl (λ h2=>?_) (λ h2=>?_)
  ·refine cSR<|oR 1 rfl<|rE 30<|cO ?_;replace h1:=sP h1;replace h2:=sP h2;exact fT rfl (dL (by unfold sR;grind [pY,cOr]))
  ·refine bB<|cSR<|oR 2 rfl<|rCi rfl (qN e.i)<|oR 1 rfl<|rE 33<|bW<|cSR<|oR 2 rfl<|rV (vB (e.is==2)) rfl<|oR 1 rfl<|gN rfl<|gBS (x:=vB ((kindOf e.i.op) != 3)) rfl id (okB (neN _ _))<|gS rfl id<|gN rfl<|gS rfl id<|gS rfl id<|sB (x:=vB (cZ ((kindOf e.i.op) != 3) true (!e.known))) (g:=e.is==2) rfl rfl rfl rfl (λ h=>h) rfl rfl (λ hg hc=>by first|(rw[hg,hc];rfl)|simp_all)<|cV rfl rfl rfl (λ h=>h)<|rE 45<|aW rfl (λ h3=>?_) (λ h3=>?_)
   ·refine cSR<|oR 1 rfl<|rE 46<|cO ?_;replace h1:=sP h1;replace h2:=sP h2;replace h3:=sP h3;exact fT rfl (dL (by unfold sR;grind [pY,cOr]))
   ·refine bB<|bW<|cSR<|oR 2 rfl<|rV (vB (e.halt != 0)) rfl<|oR 1 rfl<|gN rfl<|gS rfl id<|gBS (x:=vB (e.is != 3)) rfl id rfl<|cV rfl rfl rfl (λ h=>h)<|oR 1 rfl<|gN rfl<|gS rfl id<|gN rfl<|gBS (x:=vB ((kindOf e.i.op)==5)) rfl id (okB (eqN _ _))<|sB (x:=vB (cZ (e.is==1) ((kindOf e.i.op)==5) false)) (g:=cZ (e.halt != 0) (e.is != 3) false) rfl rfl rfl rfl (λ h=>h) rfl rfl (λ hg hc=>by first|(rw[hg,hc];rfl)|simp_all)<|gS rfl id<|gN rfl<|gS rfl id<|gBS (x:=vB (e.halt==3)) rfl id rfl<|sB (x:=vB (cZ (cZ (e.is==1) ((kindOf e.i.op)==5) false) (e.halt==3) false)) (g:=cZ (e.halt != 0) (e.is != 3) false) rfl rfl rfl rfl (λ h=>h) rfl rfl (λ hg hc=>by first|(rw[hg,hc];rfl)|simp_all)<|gS rfl id<|cV rfl rfl rfl (λ h=>h)<|rE 66<|aW rfl (λ h4=>?_) (λ h4=>?_)
    ·refine cSR<|oR 1 rfl<|rE 67<|cO ?_;replace h1:=sP h1;replace h2:=sP h2;replace h3:=sP h3;replace h4:=sP h4;exact fT rfl (dL (by unfold sR;grind [pY,cOr]))
    ·refine bB<|bW<|cSR<|oR 2 rfl<|rCi rfl (Vx e.i (BA he.imm))<|oR 5 rfl<|rE 74<|cSR<|oR 1 rfl<|rV (vB ((if Rh e.i=true then 0 else 1) != 0)) rfl<|rE 76<|aW rfl (λ h5=>?_) (λ h5=>?_)
     ·refine cSR<|oR 2 rfl<|rV (vB (e.halt==1)) rfl<|oR 1 rfl<|gN rfl<|gS rfl id<|gBS (x:=vB (e.halt==2)) rfl id rfl<|cV rfl rfl rfl (by simp)<|oR 1 rfl<|rE 85<|cO ?_;replace h1:=sP h1;replace h2:=sP h2;replace h3:=sP h3;replace h4:=sP h4;replace h5:=sP h5;exact fT rfl (dL (by unfold sR;grind [pY,cOr]))
     ·refine bB<|cSR<|oR 1 rfl<|rE 77<|cO ?_;replace h1:=sP h1;replace h2:=sP h2;replace h3:=sP h3;replace h4:=sP h4;replace h5:=sP h5;exact fT rfl (dL (by unfold sR;grind [pY,cOr]))
theorem Pm{α:Type}{p:α→Bool}{l:List α}{k:Nat}{x:α}(hx:l[k]?=some x)(hn:p x=false)(h:∀ y∈l.take k,p y=false):∀ y∈l.take (k+1),p y=false:=by
 intro y hy;rw[bR,hx]at hy;rcases al_List_mem_append.1 hy with hy|hy
 ·exact h y hy
 ·simp at hy;subst hy;exact hn
theorem Pn{α:Type}{p:α→Bool}{l:List α}{k:Nat}{x:α}(hx:l[k]?=some x)(hp:p x=true)(h:∀ y∈l.take k,p y=false):l.findIdx? p=some k:=by
 rw[List.findIdx?_eq_some_iff_getElem];obtain⟨hk,rfl⟩:=Dq.1 hx;refine⟨hk,hp,λ j hj=>?_⟩;have:=h (l[j]'omT) (aB (i:=j) (by rw[cP,if_pos hj,aA omT]));simp[this]
theorem Vz{α:Type}{p:α→Bool}{l:List α}{k:Nat}(hk:l.length≤k)(h:∀ y∈l.take k,p y=false):l.findIdx? p=none:=by
 rw[aL hk]at h;rw[List.findIdx?_eq_none_iff];exact h
theorem Po{α:Type}{p:α→Bool}{l:List α}:∀ y∈l.take 0,p y=false:=λ y hy=>by simp at hy
theorem Pp(rob:List Ent)(ck:Bool)(hl:rob.length≤1000000)(ho:∀ x∈rob,x.ok):bX C0 103 [.sl 17 (rob.map enL) ck] (vI (CS (wV rob))):=by
 refine dc1 (bX.intro c1Ok Tryz.func103 rfl rfl (by kernel_rfl) rfl ?_);refine cSR<|oR 1 rfl<|rE 1<|bW<|cSR<|oR 1 rfl<|rW (vN rob.length) rfl (bY enL rob)<|oR 1 rfl<|rE 4<|bK<|mL (κ:=Nat) (λ k=>⟨slotsF [(5,.sl 17 (rob.map enL) ck),(6,vN rob.length),(7,vN k)],heapF [],4⟩) (λ k=>k≤rob.length∧∀ y∈rob.take k,LW y=false) (λ k=>rob.length - k) 0 (λ s=>s) (Weak.of_lists (λ s=>s) wT trivial rfl) (⟨aE _,Po⟩) ?_;intro k hk;have hkn:k≤rob.length:=hk.1;have hkB:k≤1000000:=by omega
 refine cSR<|rW (vB (decide (k<rob.length))) rfl (okB (ltN _ _))<|rE 5<|bW<|aW rfl (λ h1=>?_) (λ h1=>?_)
 ·have h1p:=of_decide_eq_true h1;refine bB<|bW<|bK<|cSR<|oR 1 rfl ?_;obtain⟨x,hx⟩:∃ x,rob[k]?=some x:=⟨_,aA omT⟩;have hxo:=ho x (aB hx);refine rIx (enL x) (.dp 17 0 (enL x)) rfl rfl (iB hx) rfl<|oR 1 rfl<|rAl 8 rfl rfl<|oR 1 rfl<|rSt rfl<|rE 11<|cSR<|oR 2 rfl<|rCi rfl (qN x.i)<|rW (vB ((kindOf x.i.op)==5)) rfl (okB (eqN _ _))<|oR 1 rfl<|gN rfl<|gS rfl id<|cV rfl rfl rfl (λ h=>h)<|oR 1 rfl<|gN rfl<|gS rfl id<|gN rfl<|gS rfl id<|gBS (x:=vB (x.next != x.guess)) rfl hsT (okB (neN _ _))<|cV rfl rfl rfl (λ h=>h)<|rE 26<|aW rfl (λ h2=>?_) (λ h2=>?_)
  ·refine cSR<|oR 2 rfl<|rE 28<|cO ?_;exact fT rfl (LV (by unfold wV;rw[Pn hx (by simpa [LW,pY,tP]using h2) hk.2];rfl))
  ·refine bB<|cRg ?_;have b1:k+1≤1000001:=aH hkB (aC 1);refine rW (vN (k+1)) rfl (okI (bV b1 rfl))<|oR 1 rfl<|rE 28 ?_;refine⟨k+1,λ s=>s,Weak.of_lists _ wT trivial rfl,⟨by omega,Pm hx (by have z:=h2;unfold LW;simp only[pY]at z;grind) hk.2⟩,by show rob.length - (k+1)<rob.length - k;omega⟩
 ·have h1p:=aD h1;refine eE<|cSR<|oR 1 rfl<|rE 6<|cO ?_;exact fT rfl (LV (by unfold wV;rw[Vz omT hk.2];rfl))
theorem VA{f:Nat→Bool}{k:Nat}(hp:f k=true)(h:(List.range k).all f=true):(List.range (k+1)).all f=true:=by
 rw[jZ,List.all_append,h];simpa using hp
theorem XJ{f:Nat→Bool}{k n:Nat}(hk:k<n)(hp:f k=false):(List.range n).all f=false:=by
 rw[List.all_eq_false];exact⟨k,nA.2 hk,by simp[hp]⟩
theorem Sq{rob:List Ent}{k:Nat}(hg:decide (k>0)=true)(hk:k<rob.length)(hl:rob.length≤1000):0≤IntKind.wrap .i64 ((k:Int) - 1)∧(rob.map enL)[(IntKind.wrap .i64 ((k:Int) - 1)).toNat]?=some (enL ((rob[k - 1]?).getD BI)):=by
 have h0:=of_decide_eq_true hg;rw[show IntKind.wrap .i64 ((k:Int) - 1)=((k - 1:Nat):Int)from by rw[wrap_i64 omT omT];omega];refine⟨aG _,?_⟩;show (rob.map enL)[k - 1]?=_;rw[aZ,aA (show k - 1<rob.length by omega)];rfl
theorem LO{rob:List Ent}{k:Nat}{x:Ent}(hx:rob[k]?=some x):Eg rob k=((k==0||decide (((rob[k - 1]?).getD BI).no<x.no))&&sR x):=by
 unfold Eg VI;rw[hx];have hk:=(Dq.1 hx).1;rw[aA (show k - 1<rob.length by omega)];rfl
theorem VB(rob:List Ent)(ck:Bool)(hl:rob.length≤9223372036854775807)(ho:∀ x∈rob,x.ok):bX C0 47 [.sl 17 (rob.map enL) ck] (vB (BC rob)):=by
 refine dc1 (bX.intro c1Ok Tryz.func47 rfl rfl (by kernel_rfl) rfl ?_);refine cSR<|oR 1 rfl<|rE 1<|bW<|cSR<|oR 1 rfl<|rW (vN rob.length) rfl (bY enL rob)<|rW (vB (decide (rob.length>8))) rfl (okB (gtN _ _))<|rE 4<|aW rfl (λ h1=>?_) (λ h1=>?_)
 ·have h1p:=of_decide_eq_true h1;refine cSR<|oR 1 rfl<|rE 5<|cO ?_;exact fT rfl (dL (by unfold BC;rw[kC omT];rfl))
 ·have h1p:=aD h1;refine bB<|bW<|cSR<|oR 1 rfl<|rW (vN rob.length) rfl (bY enL rob)<|oR 1 rfl<|rE 7<|bK<|mL (κ:=Nat) (λ k=>⟨slotsF [(0,.sl 17 (rob.map enL) ck),(7,vB (decide (rob.length>8))),(8,.sl 17 (rob.map enL) ck),(9,vN rob.length),(10,vN k)],heapF [],7⟩) (λ k=>k≤rob.length∧(List.range k).all (Eg rob)=true) (λ k=>rob.length - k) 0 (λ s=>s) (Weak.of_lists (λ s=>s) wT trivial rfl) (⟨aE _,rfl⟩) ?_;intro k hk;have hkn:k≤rob.length:=hk.1;have hkB:k≤1000000:=by omega
  refine cSR<|rW (vB (decide (k<rob.length))) rfl (okB (ltN _ _))<|rE 8<|bW<|aW rfl (λ h2=>?_) (λ h2=>?_)
  ·have h2p:=of_decide_eq_true h2;refine bB<|bW<|bK<|cSR<|oR 1 rfl ?_;obtain⟨x,hx⟩:∃ x,rob[k]?=some x:=⟨_,aA omT⟩;have hxo:=ho x (aB hx);refine rIx (enL x) (.dp 17 0 (enL x)) rfl rfl (iB hx) rfl<|oR 1 rfl<|rAl 11 rfl rfl<|oR 1 rfl<|rSt rfl<|rE 14<|cSR<|oR 1 rfl<|rW (vB (decide (k>0))) rfl (okB (gtN _ _))<|oR 1 rfl<|gN rfl<|gN rfl<|gBS (x:=vI (IntKind.wrap .i64 ((k:Int) - 1))) rfl id rfl<|IG (enL ((rob[k - 1]?).getD BI)) (x:=.dp 17 0 (enL ((rob[k - 1]?).getD BI))) (g:=decide (k>0)) rfl rfl rfl rfl hsT rfl rfl (λ hg=>Sq hg omT omT) rfl<|gS rfl id<|gS rfl id<|gN rfl<|gS rfl id<|gBS (x:=vB (decide ((((rob[k - 1]?).getD BI).no)≥x.no))) rfl hsT rfl<|cV rfl rfl rfl (λ h=>h)<|oR 1 rfl<|gN rfl<|kM (x:=vB (sR x)) (g:= !(cZ (decide (k>0)) (decide ((((rob[k - 1]?).getD BI).no)≥x.no)) false)) rfl rfl rfl rfl (λ h=>h) rfl rfl rfl (.inl rfl) rfl (λ hg=>Vy x hxo)<|gS rfl id<|cV rfl rfl rfl (by simp)<|rE 32<|aW rfl (λ h3=>?_) (λ h3=>?_)
   ·refine cSR<|oR 1 rfl<|rE 33<|cO ?_;exact fT rfl (dL (by unfold BC;rw[XJ (k:=k) omT (by rw[LO hx];have z:=h3;simp only[pY,cOr]at z;grind)];simp))
   ·refine bB<|cRg ?_;have b1:k+1≤9223372036854775807:=by omega
    refine rW (vN (k+1)) rfl (okI (bV (show k+1≤9223372036854775807 by omega) rfl))<|oR 1 rfl<|rE 34 ?_;refine⟨k+1,λ s=>s,Weak.of_lists _ wT trivial rfl,⟨by omega,VA (by rw[LO hx];have z:=h3;simp only[pY,cOr]at z;grind) hk.2⟩,by show rob.length - (k+1)<rob.length - k;omega⟩
  ·have h2p:=aD h2;refine eE<|cSR<|oR 1 rfl<|rE 9<|cO ?_;have hkk:k=rob.length:=by omega
   have hall:=hk.2;rw[hkk]at hall;exact fT rfl (dL (by unfold BC;rw[hall,nD omT];rfl))
theorem aaN(R:List Ent)(lo n i:Nat)(cl:Bool)(hR:lo+n≤R.length)(hRl:R.length≤900000)(hi:i<n)(ho:∀ x∈R,x.ok):pV C0.P C0.G 104 [.osl 0 lo n cl,vN i] (heapF [(0,.arr (R.map enL) 17)]) 1 (λ x h'=>x=.osl 1 0 (i+1) false∧h'=heapF [(0,.arr (R.map enL) 17),(1,.arr ((BB ((R.drop lo).take n) i).map enL) 17)]):=by
 refine HCall.intro (C:=C1) (s:=1) c1Ok.at Tryz.func104 rfl rfl (by kernel_rfl) rfl rfl<|cSR<|oR 1 rfl<|rE 2<|bW<|cSR<|oR 1 rfl<|rW (vB (decide (i<0))) rfl (okB (ltN _ _))<|oR 1 rfl<|gN rfl<|gN rfl<|gBS (x:=vI (n:Int)) rfl id rfl<|gBS (x:=vB (decide ((i:Int)≥(n:Int)))) rfl hsT rfl<|cV rfl rfl rfl (by simp)<|rE 10<|aW rfl (λ h1=>by simp[cOr]at h1;omega) (λ _=>?_);refine bB<|cSR<|oR 2 rfl<|nW (.ptr2 0 (lo+i) 0) rfl rfl ixT ?_;obtain⟨x,hx⟩:∃ x,R[lo+i]?=some x:=⟨_,aA omT⟩;refine rIx (enL x) (.agg (enL x)) rfl rfl (iB hx) rfl<|rAl 14 rfl rfl<|rSt rfl<|rE 16<|cSR<|oR 3 rfl<|rSt rfl<|rE 20<|cSR<|oR 3 rfl<|nW (.osl 0 lo i true) rfl (KH (by first|rfl|omega) (by simp only[Option.getD];omega)) (by refine⟨?_,?_,?_,?_⟩;all_goals (first|exact aG _|decide|(apply EJ.2;exact omT)|rfl))<|oR 1 rfl<|rV (.sl 17 ([[vI x.no,vU x.pc,vI x.i.op,vI x.i.rd,vI x.i.rs1,vI x.i.rs2,vU x.i.imm,vU x.next,vI x.is,vI x.left,vU x.value,vU x.next,vU x.addr,vI x.halt,vI x.took,vB x.known,vB x.filled]]) true) rfl<|rFx (x:=.osl 26 0 (i+1) false) (h':=upd _ 26 (some (.arr ((((R.drop lo).take i)++([(⟨x.no,x.pc,⟨x.i.op,x.i.rd,x.i.rs1,x.i.rs2,x.i.imm⟩,x.next,x.is,x.left,x.value,x.next,x.addr,x.halt,x.took,x.known,x.filled⟩:Ent)])).map enL) 17))) rfl rfl (SB enL R ([(⟨x.no,x.pc,⟨x.i.op,x.i.rd,x.i.rs1,x.i.rs2,x.i.imm⟩,x.next,x.is,x.left,x.value,x.next,x.addr,x.halt,x.took,x.known,x.filled⟩:Ent)]) (by simp only[aN,aY,bN,cU];omega)) (⟨by simp only[aN,aY,aF,bN,cU,kW];omega,by exact omT,(by show lo+i≤(R.map enL).length;exact omT),trivial⟩)<|oR 1 rfl<|rE 28<|cO ?_;have e:((R.drop lo).take i)++([(⟨x.no,x.pc,⟨x.i.op,x.i.rd,x.i.rs1,x.i.rs2,x.i.imm⟩,x.next,x.is,x.left,x.value,x.next,x.addr,x.halt,x.took,x.known,x.filled⟩:Ent)])=BB ((R.drop lo).take n) i:=by unfold BB;rw[show ((R.drop lo).take n)[i]?=some x from by rw[cP,if_pos hi,cJ];exact hx];simp only[List.take_take];rw[rX omT]
 refine pG (rs:=[.osl 26 0 (i+1) false]) rfl (r:=.osl 1 0 (i+1) false) (h':=heapF [(0,.arr (R.map enL) 17),(1,.arr ((BB ((R.drop lo).take n) i).map enL) 17)]) (σ:=λ z=>match z with|1=>26|z=>z) ⟨rfl,rfl⟩ rfl (cE (λ z=>match z with|1=>26|z=>z) rfl rfl ⟨⟨rfl,rfl,rfl⟩,⟨rfl,?_,rfl⟩,trivial⟩ rfl);show some (Blk.arr ((((R.drop lo).take i)++([(⟨x.no,x.pc,⟨x.i.op,x.i.rd,x.i.rs1,x.i.rs2,x.i.imm⟩,x.next,x.is,x.left,x.value,x.next,x.addr,x.halt,x.took,x.known,x.filled⟩:Ent)])).map enL) 17)=some (Blk.arr ((BB ((R.drop lo).take n) i).map enL) 17);rw[e]
theorem Hl{prog:List Nat}(hp:∀ x∈prog,x≤4294967295)(pc:Nat):fetchW prog pc≤4294967295:=by
 unfold fetchW fetchP;split
 ·cases h:prog[pc / 4]? with
  |none=>exact aE _
  |some x=>exact hp x (aB h)
 ·exact aE _
theorem EX{b:Bool}(h:(!b)=true):b=false:=by simpa using h
theorem rI{b:Bool}(h:(!b)=false): ¬ b=false:=by cases b<;>simp_all
theorem CA(x:Nat):decE x=0↔ ¬ EU x=0:=by unfold decE;split<;>simp_all
abbrev mcX(c:Co)(R F S T:AV):List AV:=[vI c.conf.mode,vI c.conf.width,vI c.conf.rob,vI c.conf.queue,vI c.conf.stores,vI c.conf.slots,vI c.conf.sets,vI c.conf.ways,.sl 1 (c.conf.lat.map iL) false,vB c.conf.tables,.sl 1 (c.conf.tape.map eX) false,.sl 1 (c.prog.map eX) false,vI c.cycle,vU (c.r 0),vU (c.r 1),vU (c.r 2),vU (c.r 3),vU (c.r 4),vU (c.r 5),vU (c.r 6),vU (c.r 7),vU (c.r 8),vU (c.r 9),vU (c.r 10),vU (c.r 11),vU (c.r 12),vU (c.r 13),vU (c.r 14),vU (c.r 15),vU (c.r 16),vU (c.r 17),vU (c.r 18),vU (c.r 19),vU (c.r 20),vU (c.r 21),vU (c.r 22),vU (c.r 23),vU (c.r 24),vU (c.r 25),vU (c.r 26),vU (c.r 27),vU (c.r 28),vU (c.r 29),vU (c.r 30),vU (c.r 31),vU c.fetch,vB c.stop,F,R,vI c.next,S,vI c.data.ways,.sl 1 (c.data.sets.map bC) false,vI c.words.ways,.sl 1 (c.words.sets.map bC) false,.sl 4 (c.bus.map rqL) false,vI c.asked,vI c.guessed,.v (.string c.mem),.sl 2 (c.guess.slots.map gsL) false,vU c.guess.hist,.sl 1 (c.guess.rets.map eX) false,vI c.halt,T]
structure Co.ok(c:Co)(n:Nat):Prop where
 conf:c.conf.okW
 prog:c.prog.length≤9223372036854775807
 progo:∀ x∈c.prog,x≤4294967295
 r:∀ k,c.r k≤4294967295
 fetch:c.fetch≤4294967295
 fet:c.fetched.length≤9223372036854775807
 feto:∀ x∈c.fetched,x.ok
 rob:c.rob.length≤9223372036854775807
 robo:∀ x∈c.rob,x.ok
 sto:c.stores.length≤9223372036854775807
 stoo:∀ x∈c.stores,x.ok
 data:c.data.ok
 words:c.words.ok
 bus:c.bus.length≤n
 buso:∀ x∈c.bus,x.ok
 asked:c.asked≤9223372036854775807
 guessed:c.guessed≤9223372036854775807
 mem:c.mem.size≤1000000
 guess:c.guess.ok
 ret:c.retired.length≤n
 reto:∀ x∈c.retired,x.ok
theorem Hj(c:Co)(n:Nat)(hok:c.ok n)(hnb:n≤890000):bX C0 23 [.agg (coL c)] (vB (fS c)):=by
 refine dc1 (bX.intro c1Ok Tryz.func23 rfl rfl (by kernel_rfl) rfl ?_);refine cSR<|rAl 0 rfl rfl<|oR 1 rfl<|rE 2<|bW<|cSR<|oR 2 rfl<|rCi rfl (Sr c.conf hok.conf)<|oR 2 rfl<|gN rfl<|gS rfl id<|gBS (x:=vN c.prog.length) rfl id (bY eX c.prog)<|gBS (x:=vB (decide (c.prog.length>64))) rfl id (okB (gtN _ _))<|cV rfl rfl rfl (by simp)<|oR 1 rfl<|gN rfl<|gS rfl id<|gN rfl<|gS rfl id<|kM (x:=.v (.string (qK c.mem))) (g:= !(cZ (!(sW c.conf)) true (decide (c.prog.length>64)))) rfl rfl rfl rfl (λ h=>h) rfl rfl rfl (.inl rfl) rfl (λ hg=>Um c.mem)<|gBS (x:=vB (!(c.mem.toList==(qK c.mem).toList))) rfl hsT rfl<|cV rfl rfl rfl (by simp)<|rE 20<|aW rfl (λ h1=>?_) (λ h1=>?_)
 ·refine cSR<|oR 1 rfl<|rE 21<|cO ?_;exact fT rfl (dL (by unfold fS;have q0:=h1;simp only[pY,cOr]at q0;rw[bS];simp only[aI,aP,bU,qY];grind))
 ·refine bB<|bW<|cSR<|oR 2 rfl<|rCi rfl (VB c.rob false hok.rob hok.robo)<|oR 2 rfl<|gN rfl<|gS rfl id<|gBS (x:=vN c.rob.length) rfl id (bY enL c.rob)<|gN rfl<|gS rfl id<|gS rfl id<|gBS (x:=vB (decide (((c.rob.length:Nat):Int)>c.conf.rob))) rfl hsT rfl<|cV rfl rfl rfl (by simp)<|rE 33<|aW rfl (λ h2=>?_) (λ h2=>?_)
  ·refine cSR<|oR 1 rfl<|rE 34<|cO ?_;exact fT rfl (dL (by unfold fS;have q0:=h1;have q1:=h2;simp only[pY,cOr]at q0 q1;rw[bS];simp only[aI,aP,bU,qY];grind))
  ·refine bB<|bW<|cSR<|oR 2 rfl<|rW (vN c.rob.length) rfl (bY enL c.rob)<|oR 1 rfl<|rE 37<|bK<|mL (κ:=Nat) (λ k=>⟨slotsF [(1,.ptr 0 0),(24,vB (cZ (cZ (!(sW c.conf)) true (decide (c.prog.length>64))) true (!(c.mem.toList==(qK c.mem).toList)))),(37,vB (cZ (!(BC c.rob)) true (decide (((c.rob.length:Nat):Int)>c.conf.rob)))),(39,.sl 17 (c.rob.map enL) false),(40,vN c.rob.length),(41,vN k)],heapF [(0,.box (coL c))],37⟩) (λ k=>k≤c.rob.length∧(c.rob.take k).all (λ e=>decide (e.no<c.next))=true) (λ k=>c.rob.length - k) 0 (λ s=>s) (Weak.of_lists (λ s=>s) wT wH rfl) (⟨aE _,rfl⟩) ?_;intro k hk;have hkn:k≤c.rob.length:=hk.1;have hkB:k≤9223372036854775807:=by have:=hok.rob;omega
   have hrl:=hok.rob;refine cSR<|rW (vB (decide (k<c.rob.length))) rfl (okB (ltN _ _))<|rE 38<|bW<|aW rfl (λ h3=>?_) (λ h3=>?_)
   ·have h3p:=of_decide_eq_true h3;refine bB<|bW<|bK<|cSR ?_;obtain⟨x,hx⟩:∃ x,c.rob[k]?=some x:=⟨_,aA omT⟩;have hxo:=hok.robo x (aB hx);refine rIx (enL x) (.dp 17 0 (enL x)) rfl rfl (iB hx) rfl<|oR 1 rfl<|rAl 40 rfl rfl<|rSt rfl<|rE 42<|cSR<|oR 4 rfl<|rV (vB (decide (x.no≥c.next))) rfl<|rE 47<|aW rfl (λ h4=>?_) (λ h4=>?_)
    ·have h4p:=of_decide_eq_true h4;refine cSR<|oR 1 rfl<|rE 48<|cO ?_;exact fT rfl (dL (by unfold fS;have q0:=h1;have q1:=h2;have q3:=h4;simp only[pY,cOr]at q0 q1;have hz:=Hn (p:=λ e:Ent=>decide (e.no<c.next)) hx (by have z:=h4;simpa using z);rw[bS];simp only[aI,aP,bU,qY];grind))
    ·have h4p:=aD h4;refine bB<|cRg ?_;have b1:k+1≤9223372036854775807:=by omega
     refine rW (vN (k+1)) rfl (okI (bV (show k+1≤9223372036854775807 by omega) rfl))<|oR 1 rfl<|rE 49 ?_;refine⟨k+1,λ s=>s,Weak.of_lists _ wT wH rfl,⟨by omega,Dg hx (by have z:=h4;simpa using z) hk.2⟩,by show c.rob.length - (k+1)<c.rob.length - k;omega⟩
   ·have h3p:=aD h3;refine eE<|bW<|cSR<|oR 4 rfl<|rCi rfl (XK c.data c.conf hok.data)<|oR 2 rfl<|gN rfl<|gS rfl id<|gN rfl<|gS rfl id<|kM (x:=vB (tM c.words c.conf)) (g:= !(!(tM c.data c.conf))) rfl rfl rfl rfl hsT rfl rfl rfl (.inl rfl) rfl (λ hg=>XK c.words c.conf hok.words)<|gS rfl id<|cV rfl rfl rfl (by simp)<|oR 1 rfl<|gN rfl<|gS rfl id<|kM (x:=vB (rM c.guess)) (g:= !(cZ (!(tM c.data c.conf)) true (!(tM c.words c.conf)))) rfl rfl rfl rfl (λ h=>h) rfl rfl rfl (.inl rfl) rfl (λ hg=>HL c.guess hok.guess)<|gS rfl id<|cV rfl rfl rfl (by simp)<|rE 58<|aW rfl (λ h5=>?_) (λ h5=>?_)
    ·refine cSR<|oR 1 rfl<|rE 59<|cO ?_;exact fT rfl (dL (by unfold fS;have q0:=h1;have q1:=h2;have q3:=h5;simp only[pY,cOr]at q0 q1 q3;rw[bS];simp only[aI,aP,bU,qY];grind))
    ·refine bB<|bW<|cSR<|oR 2 rfl<|rW (vN c.fetched.length) rfl (bY ftL c.fetched)<|oR 3 rfl<|rV (vB (decide (((c.fetched.length:Nat):Int)>c.conf.queue))) rfl<|oR 1 rfl<|gN rfl<|gS rfl id<|gBS (x:=vN c.stores.length) rfl id (bY ptL c.stores)<|gN rfl<|gS rfl id<|gS rfl id<|gBS (x:=vB (decide (((c.stores.length:Nat):Int)>c.conf.stores))) rfl hsT rfl<|cV rfl rfl rfl (by simp)<|rE 74<|aW rfl (λ h6=>?_) (λ h6=>?_)
     ·refine cSR<|oR 1 rfl<|rE 75<|cO ?_;exact fT rfl (dL (by unfold fS;have q0:=h1;have q1:=h2;have q3:=h5;have q4:=h6;simp only[pY,cOr]at q0 q1 q3 q4;rw[bS];simp only[aI,aP,bU,qY];grind))
     ·refine bB<|bW<|cSR<|oR 2 rfl<|rW (vN c.stores.length) rfl (bY ptL c.stores)<|oR 1 rfl<|rE 78<|bK<|mL (κ:=Nat) (λ j=>⟨slotsF [(1,.ptr 0 0),(24,vB (cZ (cZ (!(sW c.conf)) true (decide (c.prog.length>64))) true (!(c.mem.toList==(qK c.mem).toList)))),(37,vB (cZ (!(BC c.rob)) true (decide (((c.rob.length:Nat):Int)>c.conf.rob)))),(42,vB (decide (k<c.rob.length))),(70,vB (cZ (cZ (!(tM c.data c.conf)) true (!(tM c.words c.conf))) true (!(rM c.guess)))),(86,vB (cZ (decide (((c.fetched.length:Nat):Int)>c.conf.queue)) true (decide (((c.stores.length:Nat):Int)>c.conf.stores)))),(88,.sl 2 (c.stores.map ptL) false),(89,vN c.stores.length),(90,vN j)],heapF [(0,.box (coL c))],78⟩) (λ j=>j≤c.stores.length∧(c.stores.take j).all (λ p=>nK (c.mem.size:Int) p.addr (p.data.size:Int))=true) (λ j=>c.stores.length - j) 0 (λ s=>s) (Weak.of_lists (λ s=>s) wT wH rfl) (⟨aE _,rfl⟩) ?_;intro j hj;have hjn:j≤c.stores.length:=hj.1;have hjB:j≤9223372036854775807:=by have:=hok.sto;omega
      have hsl:=hok.sto;refine cSR<|rW (vB (decide (j<c.stores.length))) rfl (okB (ltN _ _))<|rE 79<|bW<|aW rfl (λ h7=>?_) (λ h7=>?_)
      ·have h7p:=of_decide_eq_true h7;refine bB<|bW<|bK<|cSR ?_;obtain⟨p,hp⟩:∃ x,c.stores[j]?=some x:=⟨_,aA omT⟩;have hpo:=hok.stoo p (aB hp);refine rIx (ptL p) (.dp 2 0 (ptL p)) rfl rfl (iB hp) rfl<|oR 1 rfl<|rAl 81 rfl rfl<|rSt rfl<|rE 83<|cSR<|oR 2 rfl<|rV (vN c.mem.size) rfl<|oR 4 rfl<|rV (vN p.data.size) rfl<|rCi rfl (PO (c.mem.size:Int) p.addr (p.data.size:Int) (by have:=hok.mem;omega) (BA hpo.addr))<|oR 1 rfl<|rE 93<|aW rfl (λ h8=>?_) (λ h8=>?_)
       ·refine cSR<|oR 1 rfl<|rE 94<|cO ?_;exact fT rfl (dL (by unfold fS;have q0:=h1;have q1:=h2;have q3:=h5;have q4:=h6;have q6:=h8;simp only[pY,cOr]at q0 q1 q3 q4;have hz:=Hn (p:=λ p:Pt=>nK (c.mem.size:Int) p.addr (p.data.size:Int)) hp (by have z:=h8;simpa using z);rw[bS];simp only[aI,aP,bU,qY];grind))
       ·refine bB<|cRg ?_;have b2:j+1≤9223372036854775807:=by omega
        refine rW (vN (j+1)) rfl (okI (bV (show j+1≤9223372036854775807 by omega) rfl))<|oR 1 rfl<|rE 95 ?_;refine⟨j+1,λ s=>s,Weak.of_lists _ wT wH rfl,⟨by omega,Dg hp (by have z:=h8;simpa using z) hj.2⟩,by show c.stores.length - (j+1)<c.stores.length - j;omega⟩
      ·have h7p:=aD h7;refine eE<|cSR<|oR 1 rfl<|rE 80<|cO ?_;have hz1:=Dh (p:=λ e:Ent=>decide (e.no<c.next)) omT hk.2;have hz2:=Dh (p:=λ p:Pt=>nK (c.mem.size:Int) p.addr (p.data.size:Int)) omT hj.2;exact fT rfl (dL (by unfold fS;have q0:=h1;have q1:=h2;have q3:=h5;have q4:=h6;simp only[pY,cOr]at q0 q1 q3 q4;rw[bS];simp only[aI,aP,true_iff];grind))
def Ql(h:AH):AV→AV
 | .ptr s c=>match h s with|some (.box cells)=>.dp cells.length c (rA h cells)|_=>.any
 |x=>uP h x
def Jz(h:AH):List AV→List AV
 |[]=>[]
 |x::xs=>Ql h x::Jz h xs
def Qm(h:AH):AV→Prop
 | .ptr s _=>match h s with|some (.box cells)=>eV (rA h cells)=true∧jX h cells|_=>True
 |x=>jS h x
def Wh(h:AH):List AV→Prop
 |[]=>True
 |x::xs=>Qm h x∧Wh h xs
theorem JA(h:AH):∀ (l:List AV),(Jz h l).length=l.length
 |[]=>rfl
 |_::l=>congrArg (· +1) (JA h l)
theorem JB(h:AH):∀ (l:List AV) (i:Nat) (x:AV),(Jz h l)[i]?=some x→∃ y,l[i]?=some y∧x=Ql h y
 |[],i,x,hx=>by simp[Jz]at hx
 |y::l,0,x,hx=>by simp[Jz]at hx;exact⟨y,rfl,hx.symm⟩
 |y::l,i+1,x,hx=>by simp[Jz]at hx;exact JB h l i x hx
theorem JC(h:AH):∀ (l:List AV),Wh h l→∀ (i:Nat) y,l[i]?=some y→Qm h y
 |[],_,i,y,hy=>by simp at hy
 |x::l,hl,0,y,hy=>by simp at hy;subst hy;exact hl.1
 |x::l,hl,i+1,y,hy=>JC h l hl.2 i y (by simpa using hy)
theorem zR(h:AH):∀ (l:List AV),(rA h l).length=l.length
 |[]=>by simp[rA]
 |_::l=>by simp[rA,zR h l]
theorem JD(h:AH):∀ (l:List AV) (i:Nat) (x:AV),(rA h l)[i]?=some x→∃ y,l[i]?=some y∧x=uP h y
 |[],i,x,hx=>by simp[rA]at hx
 |y::l,0,x,hx=>by simp[rA]at hx;exact⟨y,rfl,hx.symm⟩
 |y::l,i+1,x,hx=>by simp[rA]at hx;exact JD h l i x hx
theorem Ev(h:AH):∀ (l:List AV),jX h l→∀ (i:Nat) y,l[i]?=some y→jS h y
 |[],_,i,y,hy=>by simp at hy
 |x::l,hl,0,y,hy=>by simp only[jX]at hl;simp at hy;subst hy;exact hl.1
 |x::l,hl,i+1,y,hy=>by simp only[jX]at hl;exact Ev h l hl.2 i y (by simpa using hy)
section
variable {S:Nat→Prop}{w:World}{β:Bt}{h:AH}{B:Nat}
theorem Qn(H:SimH B S w β h){a:AV}{v:Value}(hr:Rep S w β a v)(hl:Qm h a):Rep (λ b=>b<w.heap.size) w β (Ql h a) v:=by
 have hS:∀ b,(S b∨(B≤b∧b<w.heap.size))→b<w.heap.size:=λ b hb=>hb.elim (H.lt b) (·.2);by_cases hp:∃ s c,a=.ptr s c
 ·obtain⟨s,c,rfl⟩:=hp
  cases hr with
  |ptr _ _ l hlo=>
  simp only[Ql];simp only[Qm]at hl
  cases hs:h s with
  |none=>exact .any _
  | some blk=>
   cases blk with
   |arr rows rs=>exact .any _
   |row cells=>exact .any _
   | box cells=>
    simp only[hs]at hl⊢;obtain⟨l',ds,e',fr',k1,k2,k3,k4,k5,k6⟩:=H.own s _ hs;obtain rfl:l'=l:=by rw[hlo]at k1;exact (Option.some.inj k1).symm
    have hlt:∀ (j:Nat) a,(rA h cells)[j]?=some a→ds[l'.base+j]?=some (ds.getD (l'.base+j) undef)∧(ds.getD (l'.base+j) undef).oneCell'=true∧Rep (λ b=>b<w.heap.size) w noB a (ds.getD (l'.base+j) undef):=by
     intro j a hj;obtain⟨b,hb,rfl⟩:=JD h cells j a hj;obtain⟨u,q1,q2,q3⟩:=k6 j b hb;have hg:ds.getD (l'.base+j) undef=u:=by rw[aJ,q1];rfl
     rw[hg];exact⟨q1,q2,lP ((Bb H q3 (Ev h cells hl.2 j b hb)).mono hS (Evo.refl _ _) (Lv.refl _)) (fX _ hl.1 j _ hj) _⟩
    refine .dp cells.length c (rA h cells) l'.blk l'.base (λ j=>if j<cells.length then ds.getD (l'.base+j) undef else .bool false) (zR h cells) (fQ k2) (λ j a hj=>?_) (λ j=>?_) λ j a hj=>?_
    ·have hjl:j<cells.length:=by rw[←zR h cells];exact (Dq.1 hj).1
     rw[if_pos hjl,gK k2];exact (hlt j a hj).1
    ·show (if j<cells.length then ds.getD (l'.base+j) undef else .bool false).oneCell'=true;by_cases hjl:j<cells.length
     ·rw[if_pos hjl];exact (hlt j _ (aA (by rw[zR];exact hjl))).2.1
     ·rw[if_neg hjl];rfl
    ·have hjl:j<cells.length:=by rw[←zR h cells];exact (Dq.1 hj).1
     rw[if_pos hjl];exact (hlt j a hj).2.2
 ·have e1:Ql h a=uP h a:=by cases a<;>first|rfl|exact absurd ⟨_,_,rfl⟩ hp
  have e2:Qm h a=jS h a:=by cases a<;>first|rfl|exact absurd ⟨_,_,rfl⟩ hp
  rw[e1];rw[e2]at hl;exact (Bb H hr hl).mono hS (Evo.refl _ _) (Lv.refl _)
end
theorem pV.of_dcall{C:Ctx}{f:FuncId}{args:List AV}{h:AH}{s:Nat}{r:AV}(hD:bX C f (Jz h args) r)(hcl:eV (Jz h args)=true)(hlk:Wh h args)(hfl:BZ r=true):pV C.P C.G f args h s (λ x h'=>x=r∧h'=h):=by
 obtain⟨hm,hcall⟩:=hD;refine⟨hm,λ B S w β vs H hdom hG hargs=>?_⟩;refine (hcall (λ b=>b<w.heap.size) w vs (λ _ h=>h) (λ g cells hg=>(hG g cells hg).mono H.lt (Evo.refl _ _) (Lv.refl _)) ⟨by rw[JA];exact hargs.1,λ i y u p q=>?_⟩).mono ?_
 ·obtain⟨z,hz,rfl⟩:=JB h args i y p;exact lP (Qn H (hargs.2 i z u hz q) (JC h args hlk i z hz)) (fX _ hcl i _ p) _
 ·rintro e w' ⟨v,he,hB,hr⟩;have hE:Evo S w w':=Evo.of_kept (λ b hb=>hB.block b hb) H.lt;refine⟨v,S,β,r,h,⟨rfl,rfl⟩,he,Lu hr hfl,⟨λ s' blk hs'=>?_,H.inj,λ b hb=>Nat.lt_of_lt_of_le (H.lt b hb) hB.size,aM H.big hB.size⟩,⟨λ _ h=>h,hE,hB.mono H.big,Lv.refl _,λ _ _ hx=>.inl hx,λ b hb=>.inl hb,λ b hb _=>hB.block b hb⟩⟩;obtain⟨l,cs,e',fr,k1,k2,k3,k4,k5,k6⟩:=H.own s' blk hs';exact⟨l,cs,e',fr,k1,(hB.block _ (fQ k2)).trans k2,k3,k4,k5,k6.mono (λ _ h=>h) hE (Lv.refl _)⟩
def FrL(ρ:Nat→Nat)(K:AH)(s s2:Nat):List (Nat×Blk)→Prop
 |[]=>True
 |(i,b)::l=>(Nat.blt (ρ i) s2=true∧Nat.blt i s=true∧qF s b=true∧K (ρ i)=some (CO ρ b))∧FrL ρ K s s2 l
theorem FrL.get{ρ:Nat→Nat}{K:AH}{s s2:Nat}:∀ {l:List (Nat×Blk)},FrL ρ K s s2 l→∀ x blk,heapF l x=some blk→ρ x<s2∧x<s∧qF s blk=true∧K (ρ x)=some (CO ρ blk)
 |[],_,x,blk,h=>by cases h
 | (i,b)::l,hl,x,blk,h=>by
  simp only[heapF]at h
  cases hq:Nat.beq i x with
  |true=>
   rw[hq]at h;injection h with h;subst h;rw[←aK hq]
   exact⟨aO hl.1.1,aO hl.1.2.1,hl.1.2.2.1,hl.1.2.2.2⟩
  |false=>rw[hq]at h;exact FrL.get hl.2 x blk h
def Tc(ρ:Nat→Nat):Nat→Bool
 |0=>true
 |k+1=>(List.range k).all (λ j=> !Nat.beq (ρ j) (ρ k))&&Tc ρ k
theorem Mo{ρ:Nat→Nat}:∀ {s:Nat},Tc ρ s=true→∀ x y,x<s→y<s→ρ x=ρ y→x=y
 |0,_,x,_,hx,_,_=>absurd hx (dY _)
 | k+1,h,x,y,hx,hy,e=>by
  simp only[Tc,aI,iH,nA,qD]at h;rcases al_Nat_lt_or_ge x k with h1|h1<;>rcases al_Nat_lt_or_ge y k with h2|h2
  ·exact Mo h.2 x y h1 h2 e
  ·have:y=k:=by omega
   subst this;have:=h.1 x h1;rw[e]at this;simp at this
  ·have:x=k:=by omega
   subst this;have:=h.1 y h2;rw[e]at this;simp at this
  ·omega
theorem pV.frameL{P:Program}{G:Nat→Option (List AV)}{f:FuncId}{args:List AV}{L:List (Nat×Blk)}{s:Nat}{Post:AV→AH→Prop}(H:pV P G f args (heapF L) s Post)(ρ:Nat→Nat)(K:AH)(s2:Nat)(hfull:CV (heapF L) s=true)(hL:FrL ρ K s s2 L)(hi:Tc ρ s=true)(ha:mJ s args=true)
  (Post':AV→AH→Prop) (hPost:∀ r h',Post r h'→∃ K',Post' (tY (Ff ρ s s2) r) K'∧∀ y blk,K' y=some blk→(∃ x blk0,h' x=some blk0∧y=Ff ρ s s2 x∧blk=CO (Ff ρ s s2) blk0)∨(K y=some blk∧∀ x,x<s→ρ x≠y)):pV P G f (Au ρ args) K s2 Post':=
 H.frame ρ K s2 hfull (λ x hx=>by
  cases hb:heapF L x with
  |none=>exact absurd hb hx
  |some blk=>exact (hL.get x blk hb).2.1) (λ x blk hx=>let ⟨a,_,c,d⟩:=hL.get x blk hx;⟨a,c,d⟩) (Mo hi) ha Post' hPost
mutual
theorem JE{s:Nat}{σ τ:Nat→Nat}(h:∀ x,x<s→σ x=τ x):∀ (a:AV),mI s a=true→tY σ a=tY τ a
 | .ptr x c,hb=>by simp only[tY];rw[h x (by simpa [mI]using hb)]
 | .ptr2 x r c,hb=>by simp only[tY];rw[h x (by simpa [mI]using hb)]
 | .osl x lo n c,hb=>by simp only[tY];rw[h x (by simpa [mI]using hb)]
 | .agg cs,hb=>by simp only[tY];rw[vC h cs (by simpa [mI]using hb)]
 | .tup cs,hb=>by simp only[tY];rw[vC h cs (by simpa [mI]using hb)]
 | .clo f a b,hb=>by
  simp only[mI]at hb;split at hb
  ·rename_i ha;simp only[tY];rw[vC h a ha,vC h b hb]
  ·cases hb
 | .opt g x,hb=>by simp only[tY];rw[JE h x (by simpa [mI]using hb)]
 | .v _,_| .sl _ _ _,_| .dp _ _ _,_| .any,_=>by simp[tY]
theorem vC{s:Nat}{σ τ:Nat→Nat}(h:∀ x,x<s→σ x=τ x):∀ (cs:List AV),mJ s cs=true→Au σ cs=Au τ cs
 |[],_=>by simp[Au]
 |c::cs,hb=>by
  simp only[mJ]at hb;split at hb
  ·rename_i hc;simp only[Au];rw[JE h c hc,vC h cs hb]
  ·cases hb
end
theorem xC(ρ:Nat→Nat)(s s2:Nat)(blk:Blk)(hb:qF s blk=true):CO (Ff ρ s s2) blk=CO ρ blk:=by
 have hx:∀ x,x<s→Ff ρ s s2 x=ρ x:=λ x hx=>qW ρ omT
 cases blk with
 |box cells=>simp only[CO];rw[vC hx cells hb]
 |arr rows rs=>rfl
 |row cells=>simp only[CO];rw[vC hx cells hb]
theorem pV.frameU{P:Program}{G:Nat→Option (List AV)}{f:FuncId}{args:List AV}{L:List (Nat×Blk)}{s:Nat}{r:AV}(H:pV P G f args (heapF L) s (λ x h'=>x=r∧h'=heapF L))(ρ:Nat→Nat)(K:AH)(s2:Nat)(hfull:CV (heapF L) s=true)(hL:FrL ρ K s s2 L)(hi:Tc ρ s=true)(ha:mJ s args=true)(hr:eL r=true):pV P G f (Au ρ args) K s2 (λ x h'=>x=r∧h'=K):=by
 refine H.frameL ρ K s2 hfull hL hi ha _ λ r' h' hP=>?_;obtain⟨rfl,rfl⟩:=hP;refine⟨K,⟨xX _ _ hr,rfl⟩,λ y blk hy=>?_⟩;by_cases hx:∃ x,x<s∧ρ x=y
 ·obtain⟨x,hxs,rfl⟩:=hx;obtain⟨blk0,hb0⟩:=Da.1 (tN hfull x hxs);have hk:=hL.get x blk0 hb0;rw[hk.2.2.2]at hy;injection hy with hy;refine .inl ⟨x,blk0,hb0,(qW ρ omT).symm,?_⟩;rw[←hy];exact (xC ρ s s2 blk0 hk.2.2.1).symm
 ·exact .inr ⟨hy,λ x hxs e=>hx ⟨x,hxs,e⟩⟩
structure FOk(F:Fence)(P:Program):Prop where
 fn:∀ f,F.fn f
 dep:F.depth=none
 calls:∀ {f args w R} (m:Nat),Calls P f args w R→CallsIn F m P f args w R
 rows:∀ {r args w R} (m:Nat),Rows P r args w R→RowsIn F m P r args w R
theorem Ey{n:Nat}{P:Program}{row:String}{args:Array Value}{w:World}{R:Value→World→Prop}(h:Rows P row args w R):RowsIn Fence.wide n P row args w R:=
 λ c cs _=>let ⟨v,w',r,s⟩:=h c cs;⟨v,w',r,stepsIn_wide.2 s⟩
theorem Do(P:Program):FOk Fence.wide P:=⟨λ _=>trivial,rfl,λ _ h=>callsIn_wide.2 h,λ _ h=>Ey h⟩
theorem JH(P:Program)(l:Nat):FOk (Fence.wide.inRound l) P:=⟨λ _=>trivial,rfl,λ _ h=>CallsIn.inRound l (callsIn_wide.2 h),λ m h=>(Ey (n:=m) h:_)⟩
def tmk(kp:Nat→Bool)(a a':Act):Prop:=∀ i,kp i=true→a'.tmps.getD i undef=a.tmps.getD i undef
theorem tmk.refl(kp:Nat→Bool)(a:Act):tmk kp a a:=λ _ _=>rfl
theorem tmk.trans{kp:Nat→Bool}{a b c:Act}(h:tmk kp a b)(k:tmk kp b c):tmk kp a c:=λ i hi=>(k i hi).trans (h i hi)
def Qr(o:Oper):Bool:=match o.op with| .defer _=>false|_=>true
def JI(kp:Nat→Bool)(o:Oper):Bool:=match o.dst with|some d=> !kp d|none=>true
def JJ(kp:Nat→Bool)(l:List Oper):Bool:=l.all λ o=>Qr o&&JI kp o
theorem Mr{kp:Nat→Bool}{o:Oper}(hk:JI kp o=true)(a:Act)(ds:List Deferred)(v:Value):tmk kp a ({a with defers:=ds}.put o.dst v):=by
 intro i hi;unfold JI at hk
 cases hd:o.dst with
 |none=>rfl
 |some k=>
  rw[hd]at hk;have hne:i≠k:=λ e=>by subst e;simp[hi]at hk
  simp[Act.put,aJ,cW (Ne.symm hne)]
section
variable {F:Fence}{m:Nat}{P:Program}{ops:Array Oper}{Q Q':Exit→Act→World→Prop}{kp:Nat→Bool}
theorem Wk(hF:FOk F P){o:Oper}(hd:Qr o=true)(hno: ¬ LetsOut Q)(hQ:∀ c a w,Q (.panic c) a w→Q' (.panic c) a w){a:Act}{w:World}{K:Act→World→Prop}(h:o.wp P a w K Q):
  o.wpIn F m P a w (λ a' w'=>K a' w'∧∃ v ds,a'={a with defers:=ds}.put o.dst v) Q':=by
 unfold Oper.wpIn;refine⟨λ f _=>hF.fn f,?_⟩;rw[Oper.semAt_eq _ _ _ (λ c hc=>by unfold Qr at hd;rw[hc]at hd;cases hd)];unfold Oper.wp at h;generalize (execOp a.eval o).run P w=r at h;have dep:F.depth.isSome=true→1≤m:=λ hd=>by rw[hF.dep]at hd;cases hd
 cases r with
 | ok n w'=>
  cases n with
  |value v=>exact⟨h,v,a.defers,rfl⟩
  |skip=>exact⟨h,undef,a.defers,rfl⟩
  |defer d=>exact⟨h,undef,d::a.defers,rfl⟩
  |enter f args=>
   refine⟨dep,hF.calls _ (Calls.mono h λ e w'' he=>?_)⟩
   cases e with
   |returned v=>exact⟨he,v,a.defers,rfl⟩
   |panicked c=>exact hQ _ _ _ he
   |outgrown=>exact absurd he hno
  |row r args=>exact⟨dep,hF.rows _ (Rows.mono h λ v w'' he=>⟨he,v,a.defers,rfl⟩)⟩
  |_=>exact h.elim
 |halt x w'=>cases x<;>first|exact hQ _ _ _ h|exact h.elim
theorem La(hF:FOk F P){o:Oper}(hd:Qr o=true)(hk:JI kp o=true)(hno: ¬ LetsOut Q)(hQ:∀ c a w,Q (.panic c) a w→Q' (.panic c) a w){a:Act}{w:World}{K K':Act→World→Prop}
  (h:if Region.wanted o (yielded ops a.tmps)then o.wp P a w K Q∨(o.asks P a w∧LetsOut Q)else K (a.put o.dst undef) w) (hK:∀ a' w',K a' w'→tmk kp a a'→K' a' w'):
  if Region.wanted o (yielded ops a.tmps)then o.wpIn F m P a w K' Q' else (∀ f,o.about P w a.eval=some f→F.fn f)∧K' (a.put o.dst undef) w:=by
 split
 ·rename_i hw;simp only[hw,kV]at h;rcases h with h|⟨_,h⟩
  ·exact Oper.wpIn_mono (λ a' w' ⟨h1,v,ds,e⟩=>hK a' w' h1 (by rw[e];exact Mr hk a ds v)) (Wk hF hd hno hQ h)
  ·exact absurd h hno
 ·rename_i hw;simp only[hw]at h;exact⟨λ f _=>hF.fn f,hK _ _ h (Mr hk a a.defers undef)⟩
def QTm(kp:Nat→Bool)(a0:Act)(Q:Exit→Act→World→Prop):Exit→Act→World→Prop:=λ e a w=>Q e a w∧(e=.normal→tmk kp a0 a)
theorem HQ(hl:JJ kp ops.toList=true){i:Nat}{o:Oper}(ho:ops[i]?=some o):Qr o=true∧JI kp o=true:=by
 have:=iH.1 hl o (aB (i:=i) (by rw[bG];exact ho));simpa using this
theorem HY(hF:FOk F P)(hl:JJ kp ops.toList=true)(hno: ¬ LetsOut Q){a0:Act}:∀ (l:List Nat) (a:Act) (w:World),wpOps P ops Q l a w→tmk kp a0 a→wpOpsIn F m P ops (QTm kp a0 Q) l a w
 |[],a,w,h,ht=>⟨h,λ _=>ht⟩
 | i::l,a,w,h,ht=>by
  simp only[wpOps]at h;simp only[wpOpsIn]
  cases ho:ops[i]? with
  |none=>rw[ho]at h;exact HY hF hl hno l a w h ht
  |some o=>
   rw[ho]at h;obtain⟨h1,h2⟩:=HQ hl ho;exact La (ops:=ops) hF h1 h2 hno (λ c a w q=>⟨q,λ e=>by cases e⟩) h λ a' w' hk hm=>HY hF hl hno l a' w' hk (ht.trans hm)
theorem BN(hF:FOk F P)(hl:JJ kp ops.toList=true)(hno: ¬ LetsOut Q){a0:Act}:∀ (fuel:Nat) (listed:Array Bool) (a:Act) (w:World),wpAny P .any ops Q fuel listed a w→tmk kp a0 a→wpAnyIn F m P .any ops (QTm kp a0 Q) fuel listed a w
 |0,listed,a,w,h,ht=>⟨h.1,h.2,λ _=>ht⟩
 | fuel+1,listed,a,w,h,ht=>by
  refine⟨λ hr=>⟨h.1 hr,λ _=>ht⟩,λ i hi=>?_⟩;have h1:=h.2 i hi;unfold wpOp at h1;unfold wpOpIn
  cases ho:ops[i]? with
  |none=>rw[ho]at h1;exact BN hF hl hno fuel _ a w h1 ht
  |some o=>
   rw[ho]at h1;obtain⟨h2,h3⟩:=HQ hl ho;exact La (ops:=ops) hF h2 h3 hno (λ c a w q=>⟨q,λ e=>by cases e⟩) h1 λ a' w' hk hm=>BN hF hl hno fuel _ a' w' hk (ht.trans hm)
end
def oJ(N:Nat)(kp:Nat→Bool):Code→Bool
 | .region _ ops _=>uJ N ops.toList&&JJ kp ops.toList
 | .seq a b=>oJ N kp a&&oJ N kp b
 | .cond _ a b=>oJ N kp a&&oJ N kp b
 | .block _ b=>oJ N kp b
 | .loop _=>false
 |_=>true
section
variable {F:Fence}{m:Nat}{C:Ctx}{V:Inv C.fr}{w0:World}{S0:Nat→Prop}{N:Nat}{kp:Nat→Bool}{a0:Act}
def aaD(C:Ctx)(V:Inv C.fr)(w0:World)(S0:Nat→Prop)(N:Nat)(kp:Nat→Bool)(a0:Act)(Q:AEx→ASt→Prop)(e:Exit)(a:Act)(w:World):Prop:=∃ e' st S β,e=Fm e'∧Q e' st∧SimD C V w0 S0 N (· <st.n) st.t st.h a w S β∧tmk kp a0 a
theorem AQ(hF:FOk F C.P)(hC:CtxOk C):∀ (c:Code),oJ N kp c=true→∀ (st:ASt) (Q:AEx→ASt→Prop),fY C (bX C) c st Q→∀ (a:Act) (w:World) (S:Nat→Prop) (β:Bt),SimD C V w0 S0 N (· <st.n) st.t st.h a w S β→tmk kp a0 a→
  c.wpIn F m C.P (aaD C V w0 S0 N kp a0 Q) a w:=by
 intro c
 induction c with
 |skip=>intro _ st Q hq a w S β M ht;exact wpIn_skip ⟨.normal,st,S,β,rfl,hq,M,ht⟩
 |label l=>intro _ st Q hq a w S β M ht;exact wpIn_label ⟨.normal,st,S,β,rfl,hq,M,ht⟩
 |exit id=>intro _ st Q hq a w S β M ht;exact wpIn_exit ⟨.exit id,st,S,β,rfl,hq,M,ht⟩
 |ret=>intro _ st Q hq a w S β M ht;exact wpIn_ret ⟨.ret,st,S,β,rfl,hq,M,ht⟩
 | region id ops dr=>
  intro hk st Q hq a w S β M ht;simp only[oJ,aI]at hk;obtain⟨t,h,n⟩:=st;simp only[fY]at hq;obtain⟨Q2,hQ2⟩:∃ Q2:Exit→Act→World→Prop,Q2=λ e a w=>e=.normal∧∃ st S β,Q .normal st∧SimD C V w0 S0 N (· <st.n) st.t st.h a w S β:=⟨_,rfl⟩;have hno: ¬ LetsOut Q2:=by rintro ⟨a,w,h⟩;rw[hQ2]at h;cases h.1
  have fin:∀ e a w,QTm kp a0 Q2 e a w→aaD C V w0 S0 N kp a0 Q e a w:=by
   rintro e a w ⟨h1,h2⟩;rw[hQ2]at h1;obtain⟨rfl,st,S,β,h3,h4⟩:=h1;exact⟨.normal,st,S,β,rfl,h3,h4,h2 rfl⟩
  have mk:∀ st' a' w' S' β',Q .normal st'→SimD C V w0 S0 N (· <st'.n) st'.t st'.h a' w' S' β'→Q2 .normal a' w':=λ st' a' w' S' β' h1 h2=>by rw[hQ2];exact⟨rfl,st',S',β',h1,h2⟩
  cases dr with
  |false=>
   simp only[pS]at hq;have:=Dy (Q:=Q2) (K:=Q .normal) hC (ops:=ops) rfl hk.1 ops.toList 0 t h a w S β rfl hq M mk;rw[show List.range' 0 ops.toList.length=List.range ops.size by rw[nX,dP]]at this
   exact wpIn_mono (wpIn_region (HY hF hk.2 hno _ a w this ht)) fin
  | true=>
   simp only[eG]at hq;refine wpIn_mono (wpIn_region_any hC.mixed (Q:=QTm kp a0 Q2) ?_) fin
   cases hl:EQ ops.toList with
   |true=>
    rw[hl]at hq;rcases hq with hq|⟨_,hq⟩
    rotate_left
    ·exact BN hF hk.2 hno _ _ _ _ (Dv (C:=C.noH) (V:=V) hC.noH (λ _ _ _ _ _ h=>h) hk.1 hq (SimD.noH M) (λ st' a' w' S' β' hk' M'=>mk st' a' w' S' β' hk' (SimD.ofNoH M'))) ht
    have M':=M.drawn (w.drawn+1)
    exact BN hF hk.2 hno _ _ _ _ (BT (C:=C.noH) (V:=V) hC.noH (λ _ _ _ _ _ h=>h) hk.1 (λ st' a' w' S' β' hk' M'=>mk st' a' w' S' β' hk' (SimD.ofNoH M')) ops.size _ t h a _ S β (by simp) hq ⟨M'.T,M'.H,M'.B,λ y l hy=>.inl (M'.dom y l hy),M'.df,M'.sz,M'.G,M'.nw,M'.iv⟩) ht
   |false=>
   rw[hl]at hq;have hd:IF ops.toList=true:=by simp only[EQ,dV,pE]at hl;exact hl.2
   exact BN hF hk.2 hno _ _ _ _ (Fq (C:=C.noH) (V:=V) hC.noH (λ _ _ _ _ _ h=>h) hk.1 hd hq (SimD.noH M) (λ st' a' w' S' β' hk' M'=>mk st' a' w' S' β' hk' (SimD.ofNoH M'))) ht
 | seq x y ihx ihy=>
  intro hk st Q hq a w S β M ht;simp only[oJ,aI]at hk;simp only[fY]at hq;rcases hq with hq|hq|hq
  ·refine wpIn_seq (wpIn_mono (ihx hk.1 st _ hq a w S β M ht) ?_);rintro e a' w' ⟨e',st',S',β',rfl,h1,h2,h3⟩
   cases e' with
   |normal=>exact ihy hk.2 st' Q h1 a' w' S' β' h2 h3
   |exit i=>exact⟨.exit i,st',S',β',rfl,h1,h2,h3⟩
   |ret=>exact⟨.ret,st',S',β',rfl,h1,h2,h3⟩
  ·refine wpIn_seq (wpIn_mono (ihx hk.1 st _ hq a w S β M ht) ?_);rintro e a' w' ⟨e',st',S',β',rfl,h1,h2,h3⟩
   cases e' with
   |normal=>
    obtain⟨st2,g1,g2⟩:=h1;obtain⟨S2,h4⟩:=nE g1 h2
    exact ihy hk.2 st2 Q g2 a' w' S2 β' h4 h3
   |exit i=>exact⟨.exit i,st',S',β',rfl,h1,h2,h3⟩
   |ret=>exact⟨.ret,st',S',β',rfl,h1,h2,h3⟩
  ·refine wpIn_seq (wpIn_mono (ihx hk.1 st _ hq a w S β M ht) ?_);rintro e a' w' ⟨e',st',S',β',rfl,h1,h2,h3⟩
   cases e' with
   |normal=>
    obtain⟨st2,g1,st3,σ,hW,hf,g2⟩:=h1;obtain⟨S2,h4⟩:=nE g1 h2
    exact ihy hk.2 st3 Q g2 a' w' S2 _ (pI hW hf h4) h3
   |exit i=>exact⟨.exit i,st',S',β',rfl,h1,h2,h3⟩
   |ret=>exact⟨.ret,st',S',β',rfl,h1,h2,h3⟩
 | cond c x y ihx ihy=>
  intro hk st Q hq a w S β M ht;simp only[oJ,aI]at hk;simp only[fY]at hq;split at hq
  ·rename_i b hb;obtain⟨h1,h2⟩:=hq;have hv:=rZ M c;rw[hb]at hv;refine wpIn_cond_split (lK hv) (λ htt=>ihx hk.1 st Q (h1 htt) a w S β M ht) (λ hf=>ihy hk.2 st Q (h2 hf) a w S β M ht)
  ·exact hq.elim
 | block id b ih=>
  intro hk st Q hq a w S β M ht;simp only[oJ]at hk;simp only[fY]at hq;refine wpIn_block (wpIn_mono (ih hk st _ hq a w S β M ht) ?_);rintro e a' w' ⟨e',st',S',β',rfl,h1,h2,h3⟩
  cases e' with
  |normal=>exact⟨.normal,st',S',β',rfl,h1,h2,h3⟩
  |ret=>exact⟨.ret,st',S',β',rfl,h1,h2,h3⟩
  | exit i=>
   show Exit.inBlock id _ (.exit i) a' w';simp only at h1;simp only[Exit.inBlock];by_cases hi:i=id
   ·subst hi;rw[if_pos rfl];rw[show Nat.beq i i=true from mZ i]at h1;exact⟨.normal,st',S',β',rfl,h1,h2,h3⟩
   ·rw[if_neg hi];have:Nat.beq i id=false:=by rw[←eJ];exact λ e=>hi (aK e)
    rw[this]at h1
    exact⟨.exit i,st',S',β',rfl,h1,h2,h3⟩
 |loop b ih=>intro hk;simp[oJ]at hk
 |_=>intro _ st Q hq;exact hq.elim
theorem AR(hF:FOk F C.P)(hC:CtxOk C)(nH:NoH C){ops:Array Oper}{all:List Oper}(hall:ops.toList=all)(hb:uJ N all=true)(hl:JJ kp all=true){K:ASt→Prop}{Q:Exit→Act→World→Prop}{n:Nat}(post:List Nat):∀ (rest:List Oper) (j:Nat) (t:Nat→AV) (h:AH) (a:Act) (w:World) (S:Nat→Prop) (β:Bt),(∃ q,all.drop j=rest++q)→kX C (bX C) all rest j ⟨t,h,n⟩ K→SimD C V w0 S0 N (· <n+j) t h a w S β→tmk kp a0 a→
  (∀ st a' w' S' β',K st→SimD C V w0 S0 N (· <st.n) st.t st.h a' w' S' β'→tmk kp a0 a'→wpOpsIn F m C.P ops Q post a' w')→wpOpsIn F m C.P ops Q (List.range' j rest.length++post) a w
 |[],j,t,h,a,w,S,β,_,hr,M,ht,hQ=>hQ ⟨t,h,n+j⟩ a w S β hr M ht
 | o::rest,j,t,h,a,w,S,β,⟨q,hdrop⟩,hr,M,ht,hQ=>by
  obtain⟨x,h',h1,h2⟩:=(step_inv hr).resolve_right (λ⟨_,f,args,Post,_,hh,_⟩=>nH _ _ _ _ _ hh);have hj:all[j]?=some o:=by
   have:(all.drop j)[0]?=some o:=by rw[hdrop];rfl
   simpa using this
  have hoj:ops[j]?=some o:=by rw[←hj, ←hall,bG]
  have hmem:o∈all:=aB hj;have hs:β (n+j)=none:=by
   cases hq:β (n+j)with
   |none=>rfl
   |some l=>have:=M.dom _ _ hq;omega
  obtain⟨l1,l2⟩:=HQ (ops:=ops) (kp:=kp) (by rw[hall];exact hl) hoj;rw[bN,nU,nQ];simp only[wpOpsIn,hoj];obtain⟨Q2,hQ2⟩:∃ Q2:Exit→Act→World→Prop,Q2=λ _ _ _=>False:=⟨_,rfl⟩;refine La (ops:=ops) (Q:=Q2) hF l1 l2 (by rintro ⟨a,w,h⟩;rw[hQ2]at h;exact h) (λ c a w h=>by rw[hQ2]at h;exact h.elim)
   (wK (K:=λ a' w'=>∃ S' β',SimD C V w0 S0 N (λ y=>y<n+j∨y=n+j) (yU t o.dst x) h' a' w' S' β') hC M hs hall h1 (vP hb hmem) (λ i pol d _ hd=>Bc hb i d hd) λ a' w' S' β' M'=>⟨S',β',M'⟩) ?_
  rintro a' w' ⟨S',β',M'⟩ hm;refine AR hF hC nH hall hb hl post rest (j+1) _ h' a' w' S' β' ⟨q,?_⟩ h2 ?_ (ht.trans hm) hQ
  ·rw[←kU,hdrop];rfl
  ·exact⟨M'.T,M'.H,M'.B,λ y l hy=>(M'.dom y l hy).elim (λ (h:y<n+j)=>show y<n+(j+1) by omega) (λ (h:y=n+j)=>show y<n+(j+1) by omega),M'.df,M'.sz,M'.G,M'.nw,M'.iv⟩
end
end Go.Proofs.YtlhofpglndhfaaaGreatDoor
