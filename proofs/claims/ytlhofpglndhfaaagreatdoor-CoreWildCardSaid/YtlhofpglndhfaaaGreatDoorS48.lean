/- Joined texts. -/
import Derived.DataReads
import Derived.Deep.Strs
import Derived.Test.YtlhofpglndhfaaaGreatDoorS1
import Derived.Test.YtlhofpglndhfaaaGreatDoorS32
import Derived.Test.YtlhofpglndhfaaaGreatDoorS47
namespace Go.Proofs.YtlhofpglndhfaaaGreatDoor
set_option maxRecDepth 100000
set_option maxHeartbeats 4000000
open Go.RowKit
theorem eK(a:ByteArray):(a==a)=true:=by
 show (a.data==a.data)=true;exact Wm _
theorem LL(l:List Sp)(c1 c2:Bool)(hl:l.length≤1000000)(ho:∀ x∈l,x.ok):aT C0 78 [.sl 9 (l.map spL) c1,.sl 9 (l.map spL) c2] (vB true):=by
 refine dc1 (aT.intro c1Ok Tryz.func78 rfl rfl (by kernel_rfl) rfl ?_);refine aA<|aB rfl<|oR 1 rfl<|rE 1<|aA<|aA<|aB rfl<|oR 1 rfl<|rW (vN l.length) rfl (aN spL l)<|oR 1 rfl<|rW (vN l.length) rfl (aN spL l)<|rW (vB (l.length != l.length)) rfl (okB (neN _ _))<|rE 6 ?_;refine aE rfl (λ h1=>by simp[c2o,c2a,eK]at h1) (λ _=>?_);refine aF<|aA<|aA<|aB rfl<|oR 1 rfl<|rW (vN l.length) rfl (aN spL l)<|oR 1 rfl<|rE 9<|aK<|fU (κ:=Nat) (λ k=>⟨aY [(0,.sl 9 (l.map spL) c1),(1,.sl 9 (l.map spL) c2),(10,vB (l.length != l.length)),(12,vN l.length),(13,vN k)],heapF [],9⟩) (λ k=>k≤l.length) (λ k=>l.length - k) 0 (λ s=>s) (Weak.of_lists (λ s=>s) wT trivial rfl) (SV _) ?_;intro k hk;have hkn:k≤l.length:=hk;have hkB:k≤1000000:=by omega
 refine aA<|aB rfl<|rW (vB (decide (k<l.length))) rfl (okB (ltN _ _))<|rE 10<|aA ?_;refine aE rfl (λ h2=>?_) (λ h2=>?_)
 ·have h2p:=of_decide_eq_true h2;refine aF<|aA<|aK<|aA<|aB rfl<|oR 2 rfl<|rE 12<|aA<|aB rfl<|oR 2 rfl ?_;obtain⟨x1,hx1⟩:∃ y_,l[k]?=some y_:=⟨_,SS omT⟩;have hx1o:=ho x1 (ST hx1);refine rIx (spL x1) (.dp 9 0 (spL x1)) rfl rfl (cX hx1) rfl<|oR 3 rfl<|rIx (spL x1) (.dp 9 0 (spL x1)) rfl rfl (cX hx1) rfl<|oR 1 rfl<|rV (vB (!((((x1.pc:Nat):Int)==((x1.pc:Nat):Int))&&((((x1.next:Nat):Int)==((x1.next:Nat):Int))&&((x1.rd==x1.rd)&&((((x1.value:Nat):Int)==((x1.value:Nat):Int))&&((((x1.addr:Nat):Int)==((x1.addr:Nat):Int))&&((x1.size==x1.size)&&((x1.store==x1.store)&&((x1.halt==x1.halt)&&((x1.took==x1.took)&&true))))))))))) rfl<|rE 21 ?_;refine aE rfl (λ h3=>by simp[c2o,c2a,eK]at h3) (λ _=>?_);refine aF<|aB rfl ?_;have b1:k+1≤1000001:=SY hkB (SU 1);refine rW (vN (k+1)) rfl (okI (aQ b1 rfl))<|oR 1 rfl<|rE 23 ?_;refine⟨k+1,λ s=>s,Weak.of_lists _ wT trivial rfl,by omega,by show l.length - (k+1)<l.length - k;omega⟩
 ·have h2p:=SW h2;refine bU<|aA<|aB rfl<|oR 1 rfl<|rE 11<|bC ?_;exact fT rfl (bE (by simp[c2o,c2a,eK]))
theorem Hg(s:List (List Wy))(hl:s.length≤9223372036854775807)(ho:∀ x∈s,x.length≤9223372036854775807∧∀ y∈x,y.ok):aT C0 45 [.sl 1 (s.map aR) false,.sl 1 (s.map aR) false] (vB true):=by
 refine dc1 (aT.intro c1Ok Tryz.func45 rfl rfl (by kernel_rfl) rfl ?_);refine aA<|aB rfl<|oR 1 rfl<|rE 1<|aA<|aA<|aB rfl<|oR 1 rfl<|rW (vN s.length) rfl (aN aR s)<|oR 1 rfl<|rW (vN s.length) rfl (aN aR s)<|rW (vB (s.length != s.length)) rfl (okB (neN _ _))<|rE 6 ?_;refine aE rfl (λ h1=>by simp[c2o,c2a,eK]at h1) (λ _=>?_);refine aF<|aA<|aA<|aB rfl<|oR 1 rfl<|rW (vN s.length) rfl (aN aR s)<|oR 1 rfl<|rE 9<|aK<|fU (κ:=Nat) (λ k=>⟨aY [(0,.sl 1 (s.map aR) false),(1,.sl 1 (s.map aR) false),(11,vB (s.length != s.length)),(13,vN s.length),(14,vN k)],heapF [],9⟩) (λ k=>k≤s.length) (λ k=>s.length - k) 0 (λ s=>s) (Weak.of_lists (λ s=>s) wT trivial rfl) (SV _) ?_;intro k hk;have hkn:k≤s.length:=hk;have hkB:k≤9223372036854775807:=by omega
 refine aA<|aB rfl<|rW (vB (decide (k<s.length))) rfl (okB (ltN _ _))<|rE 10<|aA ?_;refine aE rfl (λ h2=>?_) (λ h2=>?_)
 ·have h2p:=of_decide_eq_true h2;refine aF<|aA<|aK<|aA<|aB rfl<|oR 2 rfl<|rE 12<|aA<|aA<|aB rfl<|oR 2 rfl ?_;obtain⟨x,hx⟩:∃ y_,s[k]?=some y_:=⟨_,SS omT⟩;have hxo:=ho x (ST hx);refine rIx (aR x) (.dp 1 0 (aR x)) rfl rfl (cX hx) rfl<|oR 1 rfl<|rW (vN x.length) rfl (aN wyL x)<|oR 2 rfl<|rIx (aR x) (.dp 1 0 (aR x)) rfl rfl (cX hx) rfl<|oR 1 rfl<|rW (vN x.length) rfl (aN wyL x)<|rW (vB (x.length != x.length)) rfl (okB (neN _ _))<|rE 23 ?_;refine aE rfl (λ h3=>by simp[c2o,c2a,eK]at h3) (λ _=>?_);refine aF<|aA<|aB rfl<|oR 2 rfl<|rIx (aR x) (.dp 1 0 (aR x)) rfl rfl (cX hx) rfl<|oR 1 rfl<|rW (vN x.length) rfl (aN wyL x)<|oR 1 rfl<|rE 29<|aK<|fU (κ:=Nat) (λ j=>⟨aY [(0,.sl 1 (s.map aR) false),(1,.sl 1 (s.map aR) false),(11,vB (s.length != s.length)),(13,vN s.length),(14,vN k),(15,vB (decide (k<s.length))),(16,vN k),(5,vN k),(17,.sl 1 (s.map aR) false),(18,vN k),(19,.dp 1 0 (aR x)),(20,.sl 3 (x.map wyL) false),(21,vN x.length),(22,.sl 1 (s.map aR) false),(23,vN k),(24,.dp 1 0 (aR x)),(25,.sl 3 (x.map wyL) false),(26,vN x.length),(27,vB (x.length != x.length)),(28,.sl 1 (s.map aR) false),(29,vN k),(30,.dp 1 0 (aR x)),(31,.sl 3 (x.map wyL) false),(32,vN x.length),(33,vN j)],heapF [],29⟩) (λ j=>j≤x.length) (λ j=>x.length - j) 0 (λ s=>s) (Weak.of_lists (λ s=>s) wT trivial rfl) (SV _) ?_;intro j hj;have hjn:j≤x.length:=hj;have hjB:j≤9223372036854775807:=by have:=hxo.1;omega
  have hxl:=hxo.1;refine aA<|aB rfl<|rW (vB (decide (j<x.length))) rfl (okB (ltN _ _))<|rE 30<|aA ?_;refine aE rfl (λ h4=>?_) (λ h4=>?_)
  ·have h4p:=of_decide_eq_true h4;refine aF<|aA<|aK<|aA<|aB rfl<|oR 2 rfl<|rE 32<|aA<|aB rfl<|oR 2 rfl<|rIx (aR x) (.dp 1 0 (aR x)) rfl rfl (cX hx) rfl<|oR 2 rfl ?_;obtain⟨x1,hx1⟩:∃ y_,x[j]?=some y_:=⟨_,SS omT⟩;have hx1o:=(hxo).2 x1 (ST hx1);refine rIx (wyL x1) (.dp 3 0 (wyL x1)) rfl rfl (cX hx1) rfl<|oR 3 rfl<|rIx (aR x) (.dp 1 0 (aR x)) rfl rfl (cX hx) rfl<|oR 2 rfl<|rIx (wyL x1) (.dp 3 0 (wyL x1)) rfl rfl (cX hx1) rfl<|oR 1 rfl<|rV (vB (!((((x1.line:Nat):Int)==((x1.line:Nat):Int))&&((x1.dirty==x1.dirty)&&((x1.data==x1.data)&&true))))) rfl<|rE 47 ?_;refine aE rfl (λ h5=>by simp[c2o,c2a,eK]at h5) (λ _=>?_);refine aF<|aB rfl ?_;have b1:j+1≤9223372036854775807:=by omega
   refine rW (vN (j+1)) rfl (okI (aQ (show j+1≤9223372036854775807 by omega) rfl))<|oR 1 rfl<|rE 49 ?_;refine⟨j+1,λ s=>s,Weak.of_lists _ wT trivial rfl,by omega,by show x.length - (j+1)<x.length - j;omega⟩
  ·have h4p:=SW h4;refine bU<|aB rfl ?_;have b2:k+1≤9223372036854775807:=by omega
   refine rW (vN (k+1)) rfl (okI (aQ (show k+1≤9223372036854775807 by omega) rfl))<|oR 1 rfl<|rE 32 ?_;refine⟨k+1,λ s=>s,Weak.of_lists _ wT trivial rfl,by omega,by show s.length - (k+1)<s.length - k;omega⟩
 ·have h2p:=SW h2;refine bU<|aA<|aB rfl<|oR 1 rfl<|rE 11<|bC ?_;exact fT rfl (bE (by simp[c2o,c2a,eK]))
theorem FJ(c:Ca)(hok:c.ok):aT C0 20 [.agg (caL c false),.agg (caL c false)] (vB true):=by
 refine dc1 (aT.intro c1Ok Tryz.func20 rfl rfl (by kernel_rfl) rfl ?_);refine aA<|aB rfl<|rAl 0 rfl rfl<|rAl 1 rfl rfl<|oR 1 rfl<|rE 3<|aA<|aB rfl<|oR 4 rfl<|rV (vB (c.ways==c.ways)) rfl<|oR 1 rfl<|gN rfl<|gS rfl id<|gN rfl<|gS rfl id<|dZ (args:=[.sl 1 (c.sets.map aR) false,.sl 1 (c.sets.map aR) false]) (x:=vB true) (g:=c.ways==c.ways) rfl rfl rfl rfl hsT rfl rfl rfl (.inl rfl) rfl (λ hg=>Hg c.sets hok.sets hok.set) ?_;refine aG rfl rfl rfl (λ h=>h)<|oR 1 rfl<|rE 16<|bC ?_;exact fT rfl (bE (by simp[c2o,c2a,eK]))
theorem LM(c:Cf)(hok:c.okW):aT C0 19 [.agg (cfL c false false),.agg (cfL c false false)] (vB true):=by
 refine dc1 (aT.intro c1Ok Tryz.func19 rfl rfl (by kernel_rfl) rfl ?_);refine aA<|aB rfl<|rAl 0 rfl rfl<|rAl 1 rfl rfl<|oR 1 rfl<|rE 3<|aA<|aA<|aB rfl<|oR 4 rfl<|rV (vB (c.mode != c.mode)) rfl<|oR 1 rfl<|gN rfl<|gS rfl id<|gN rfl<|gS rfl id ?_;refine gBS (x:=vB (c.width != c.width)) rfl hsT rfl<|aG rfl rfl rfl (by simp)<|oR 1 rfl<|gN rfl<|gS rfl id<|gN rfl<|gS rfl id<|gBS (x:=vB (c.rob != c.rob)) rfl hsT rfl<|aG rfl rfl rfl (by simp)<|oR 1 rfl<|gN rfl<|gS rfl id<|gN rfl<|gS rfl id<|gBS (x:=vB (c.queue != c.queue)) rfl hsT rfl<|aG rfl rfl rfl (by simp) ?_;refine oR 1 rfl<|gN rfl<|gS rfl id<|gN rfl<|gS rfl id<|gBS (x:=vB (c.stores != c.stores)) rfl hsT rfl<|aG rfl rfl rfl (by simp)<|oR 1 rfl<|gN rfl<|gS rfl id<|gN rfl<|gS rfl id<|gBS (x:=vB (c.slots != c.slots)) rfl hsT rfl<|aG rfl rfl rfl (by simp)<|oR 1 rfl<|gN rfl ?_;refine gS rfl id<|gN rfl<|gS rfl id<|gBS (x:=vB (c.sets != c.sets)) rfl hsT rfl<|aG rfl rfl rfl (by simp)<|oR 1 rfl<|gN rfl<|gS rfl id<|gN rfl<|gS rfl id<|gBS (x:=vB (c.ways != c.ways)) rfl hsT rfl<|aG rfl rfl rfl (by simp)<|oR 1 rfl<|gN rfl<|gS rfl id<|gN rfl ?_;refine gS rfl id<|gBS (x:=vB (!(c.tables==c.tables))) rfl hsT rfl<|aG rfl rfl rfl (by simp)<|oR 1 rfl<|gN rfl<|gS rfl id<|gBS (x:=vN c.lat.length) rfl id (aN dD c.lat)<|gN rfl<|gS rfl id<|gBS (x:=vN c.lat.length) rfl id (aN dD c.lat)<|gBS (x:=vB (c.lat.length != c.lat.length)) rfl hsT (okB (neN _ _))<|aG rfl rfl rfl (by simp)<|oR 1 rfl<|gN rfl<|gS rfl id<|gBS (x:=vN c.tape.length) rfl id (aN cN c.tape) ?_;refine gN rfl<|gS rfl id<|gBS (x:=vN c.tape.length) rfl id (aN cN c.tape)<|gBS (x:=vB (c.tape.length != c.tape.length)) rfl hsT (okB (neN _ _))<|aG rfl rfl rfl (by simp)<|rE 82 ?_;refine aE rfl (λ h1=>by simp[c2o,c2a,eK]at h1) (λ _=>?_);refine aF<|aA<|aA<|aB rfl<|oR 2 rfl<|rW (vN c.lat.length) rfl (aN dD c.lat)<|oR 1 rfl<|rE 86<|aK<|fU (κ:=Nat) (λ k=>⟨aY [(2,.ptr 0 0),(3,.ptr 1 0),(85,vB (aO (aO (aO (aO (aO (aO (aO (aO (aO (aO (c.mode != c.mode) true (c.width != c.width)) true (c.rob != c.rob)) true (c.queue != c.queue)) true (c.stores != c.stores)) true (c.slots != c.slots)) true (c.sets != c.sets)) true (c.ways != c.ways)) true (!(c.tables==c.tables))) true (c.lat.length != c.lat.length)) true (c.tape.length != c.tape.length))),(88,vN c.lat.length),(89,vN k)],heapF [(0,.box [vI c.mode,vI c.width,vI c.rob,vI c.queue,vI c.stores,vI c.slots,vI c.sets,vI c.ways,.sl 1 (c.lat.map dD) false,vB c.tables,.sl 1 (c.tape.map cN) false]),(1,.box [vI c.mode,vI c.width,vI c.rob,vI c.queue,vI c.stores,vI c.slots,vI c.sets,vI c.ways,.sl 1 (c.lat.map dD) false,vB c.tables,.sl 1 (c.tape.map cN) false])],86⟩) (λ k=>k≤c.lat.length) (λ k=>c.lat.length - k) 0 (λ s=>s) (Weak.of_lists (λ s=>s) wT wH rfl) (SV _) ?_;intro k hk;have hkn:k≤c.lat.length:=hk;have hkB:k≤9223372036854775807:=by have:=hok.lat;omega
 have hlat:=hok.lat;refine aA<|aB rfl<|rW (vB (decide (k<c.lat.length))) rfl (okB (ltN _ _))<|rE 87<|aA ?_;refine aE rfl (λ h2=>?_) (λ h2=>?_)
 ·have h2p:=of_decide_eq_true h2;refine aF<|aA<|aK<|aA<|aB rfl<|oR 2 rfl<|rE 89<|aA<|aB rfl<|oR 3 rfl ?_;obtain⟨x1,hx1⟩:∃ y_,c.lat[k]?=some y_:=⟨_,SS omT⟩;refine rIx (dD x1) (.dp 1 0 (dD x1)) rfl rfl (cX hx1) rfl<|oR 4 rfl<|rIx (dD x1) (.dp 1 0 (dD x1)) rfl rfl (cX hx1) rfl<|oR 1 rfl<|rV (vB (x1 != x1)) rfl<|rE 100 ?_;refine aE rfl (λ h3=>by simp[c2o,c2a,eK]at h3) (λ _=>?_);refine aF<|aB rfl ?_;have b1:k+1≤9223372036854775807:=by omega
  refine rW (vN (k+1)) rfl (okI (aQ (show k+1≤9223372036854775807 by omega) rfl))<|oR 1 rfl<|rE 102 ?_;refine⟨k+1,λ s=>s,Weak.of_lists _ wT wH rfl,by omega,by show c.lat.length - (k+1)<c.lat.length - k;omega⟩
 ·have h2p:=SW h2;refine bU<|aA<|aA<|aB rfl<|oR 2 rfl<|rW (vN c.tape.length) rfl (aN cN c.tape)<|oR 1 rfl<|rE 91<|aK<|fU (κ:=Nat) (λ j=>⟨aY [(2,.ptr 0 0),(3,.ptr 1 0),(85,vB (aO (aO (aO (aO (aO (aO (aO (aO (aO (aO (c.mode != c.mode) true (c.width != c.width)) true (c.rob != c.rob)) true (c.queue != c.queue)) true (c.stores != c.stores)) true (c.slots != c.slots)) true (c.sets != c.sets)) true (c.ways != c.ways)) true (!(c.tables==c.tables))) true (c.lat.length != c.lat.length)) true (c.tape.length != c.tape.length))),(90,vB (decide (k<c.lat.length))),(106,vN c.tape.length),(107,vN j)],heapF [(0,.box [vI c.mode,vI c.width,vI c.rob,vI c.queue,vI c.stores,vI c.slots,vI c.sets,vI c.ways,.sl 1 (c.lat.map dD) false,vB c.tables,.sl 1 (c.tape.map cN) false]),(1,.box [vI c.mode,vI c.width,vI c.rob,vI c.queue,vI c.stores,vI c.slots,vI c.sets,vI c.ways,.sl 1 (c.lat.map dD) false,vB c.tables,.sl 1 (c.tape.map cN) false])],91⟩) (λ j=>j≤c.tape.length) (λ j=>c.tape.length - j) 0 (λ s=>s) (Weak.of_lists (λ s=>s) wT wH rfl) (SV _) ?_;intro j hj;have hjn:j≤c.tape.length:=hj;have hjB:j≤9223372036854775807:=by have:=hok.tape;omega
  have htape:=hok.tape;refine aA<|aB rfl<|rW (vB (decide (j<c.tape.length))) rfl (okB (ltN _ _))<|rE 92<|aA ?_;refine aE rfl (λ h4=>?_) (λ h4=>?_)
  ·have h4p:=of_decide_eq_true h4;refine aF<|aA<|aK<|aA<|aB rfl<|oR 2 rfl<|rE 94<|aA<|aB rfl<|oR 3 rfl ?_;obtain⟨x2,hx2⟩:∃ y_,c.tape[j]?=some y_:=⟨_,SS omT⟩;have hx2o:=hok.tp x2 (ST hx2);refine rIx (cN x2) (.dp 1 0 (cN x2)) rfl rfl (cX hx2) rfl<|oR 4 rfl<|rIx (cN x2) (.dp 1 0 (cN x2)) rfl rfl (cX hx2) rfl<|oR 1 rfl<|rW (vB (x2 != x2)) rfl (okB (neN _ _))<|rE 105 ?_;refine aE rfl (λ h5=>by simp[c2o,c2a,eK]at h5) (λ _=>?_);refine aF<|aB rfl ?_;have b2:j+1≤9223372036854775807:=by omega
   refine rW (vN (j+1)) rfl (okI (aQ (show j+1≤9223372036854775807 by omega) rfl))<|oR 1 rfl<|rE 107 ?_;refine⟨j+1,λ s=>s,Weak.of_lists _ wT wH rfl,by omega,by show c.tape.length - (j+1)<c.tape.length - j;omega⟩
  ·have h4p:=SW h4;refine bU<|aA<|aB rfl<|oR 1 rfl<|rE 93<|bC ?_;exact fT rfl (bE (by simp[c2o,c2a,eK]))
theorem LN(g:Gu)(hok:g.ok):aT C0 21 [.agg (guL g),.agg (guL g)] (vB true):=by
 refine dc1 (aT.intro c1Ok Tryz.func21 rfl rfl (by kernel_rfl) rfl ?_);refine aA<|aB rfl<|rAl 0 rfl rfl<|rAl 1 rfl rfl<|oR 1 rfl<|rE 3<|aA<|aA<|aB rfl<|oR 4 rfl<|rW (vB (g.hist != g.hist)) rfl (okB (neN _ _))<|oR 1 rfl<|gN rfl<|gS rfl id<|gBS (x:=vN g.slots.length) rfl id (aN gsL g.slots)<|gN rfl ?_;refine gS rfl id<|gBS (x:=vN g.slots.length) rfl id (aN gsL g.slots)<|gBS (x:=vB (g.slots.length != g.slots.length)) rfl hsT (okB (neN _ _))<|aG rfl rfl rfl (by simp)<|oR 1 rfl<|gN rfl<|gS rfl id<|gBS (x:=vN g.rets.length) rfl id (aN cN g.rets)<|gN rfl<|gS rfl id<|gBS (x:=vN g.rets.length) rfl id (aN cN g.rets)<|gBS (x:=vB (g.rets.length != g.rets.length)) rfl hsT (okB (neN _ _))<|aG rfl rfl rfl (by simp)<|rE 26 ?_;refine aE rfl (λ h1=>by simp[c2o,c2a,eK]at h1) (λ _=>?_);refine aF<|aA<|aA<|aB rfl<|oR 2 rfl<|rW (vN g.slots.length) rfl (aN gsL g.slots)<|oR 1 rfl<|rE 30<|aK<|fU (κ:=Nat) (λ k=>⟨aY [(2,.ptr 0 0),(3,.ptr 1 0),(29,vB (aO (aO (g.hist != g.hist) true (g.slots.length != g.slots.length)) true (g.rets.length != g.rets.length))),(32,vN g.slots.length),(33,vN k)],heapF [(0,.box [.sl 2 (g.slots.map gsL) false,vU g.hist,.sl 1 (g.rets.map cN) false]),(1,.box [.sl 2 (g.slots.map gsL) false,vU g.hist,.sl 1 (g.rets.map cN) false])],30⟩) (λ k=>k≤g.slots.length) (λ k=>g.slots.length - k) 0 (λ s=>s) (Weak.of_lists (λ s=>s) wT wH rfl) (SV _) ?_;intro k hk;have hkn:k≤g.slots.length:=hk;have hkB:k≤9223372036854775807:=by have:=hok.slots;omega
 have hsl:=hok.slots;refine aA<|aB rfl<|rW (vB (decide (k<g.slots.length))) rfl (okB (ltN _ _))<|rE 31<|aA ?_;refine aE rfl (λ h2=>?_) (λ h2=>?_)
 ·have h2p:=of_decide_eq_true h2;refine aF<|aA<|aK<|aA<|aB rfl<|oR 2 rfl<|rE 33<|aA<|aB rfl<|oR 3 rfl ?_;obtain⟨x1,hx1⟩:∃ y_,g.slots[k]?=some y_:=⟨_,SS omT⟩;have hx1o:=hok.so x1 (ST hx1);refine rIx (gsL x1) (.dp 2 0 (gsL x1)) rfl rfl (cX hx1) rfl<|oR 4 rfl<|rIx (gsL x1) (.dp 2 0 (gsL x1)) rfl rfl (cX hx1) rfl<|oR 1 rfl<|rV (vB (!((((x1.pc:Nat):Int)==((x1.pc:Nat):Int))&&((((x1.next:Nat):Int)==((x1.next:Nat):Int))&&true)))) rfl<|rE 44 ?_;refine aE rfl (λ h3=>by simp[c2o,c2a,eK]at h3) (λ _=>?_);refine aF<|aB rfl ?_;have b1:k+1≤9223372036854775807:=by omega
  refine rW (vN (k+1)) rfl (okI (aQ (show k+1≤9223372036854775807 by omega) rfl))<|oR 1 rfl<|rE 46 ?_;refine⟨k+1,λ s=>s,Weak.of_lists _ wT wH rfl,by omega,by show g.slots.length - (k+1)<g.slots.length - k;omega⟩
 ·have h2p:=SW h2;refine bU<|aA<|aA<|aB rfl<|oR 2 rfl<|rW (vN g.rets.length) rfl (aN cN g.rets)<|oR 1 rfl<|rE 35<|aK<|fU (κ:=Nat) (λ j=>⟨aY [(2,.ptr 0 0),(3,.ptr 1 0),(29,vB (aO (aO (g.hist != g.hist) true (g.slots.length != g.slots.length)) true (g.rets.length != g.rets.length))),(34,vB (decide (k<g.slots.length))),(50,vN g.rets.length),(51,vN j)],heapF [(0,.box [.sl 2 (g.slots.map gsL) false,vU g.hist,.sl 1 (g.rets.map cN) false]),(1,.box [.sl 2 (g.slots.map gsL) false,vU g.hist,.sl 1 (g.rets.map cN) false])],35⟩) (λ j=>j≤g.rets.length) (λ j=>g.rets.length - j) 0 (λ s=>s) (Weak.of_lists (λ s=>s) wT wH rfl) (SV _) ?_;intro j hj;have hjn:j≤g.rets.length:=hj;have hjB:j≤9223372036854775807:=by have:=hok.rets;omega
  have hrl:=hok.rets;refine aA<|aB rfl<|rW (vB (decide (j<g.rets.length))) rfl (okB (ltN _ _))<|rE 36<|aA ?_;refine aE rfl (λ h4=>?_) (λ h4=>?_)
  ·have h4p:=of_decide_eq_true h4;refine aF<|aA<|aK<|aA<|aB rfl<|oR 2 rfl<|rE 38<|aA<|aB rfl<|oR 3 rfl ?_;obtain⟨x2,hx2⟩:∃ y_,g.rets[j]?=some y_:=⟨_,SS omT⟩;have hx2o:=hok.ro x2 (ST hx2);refine rIx (cN x2) (.dp 1 0 (cN x2)) rfl rfl (cX hx2) rfl<|oR 4 rfl<|rIx (cN x2) (.dp 1 0 (cN x2)) rfl rfl (cX hx2) rfl<|oR 1 rfl<|rW (vB (x2 != x2)) rfl (okB (neN _ _))<|rE 49 ?_;refine aE rfl (λ h5=>by simp[c2o,c2a,eK]at h5) (λ _=>?_);refine aF<|aB rfl ?_;have b2:j+1≤9223372036854775807:=by omega
   refine rW (vN (j+1)) rfl (okI (aQ (show j+1≤9223372036854775807 by omega) rfl))<|oR 1 rfl<|rE 51 ?_;refine⟨j+1,λ s=>s,Weak.of_lists _ wT wH rfl,by omega,by show g.rets.length - (j+1)<g.rets.length - j;omega⟩
  ·have h4p:=SW h4;refine bU<|aA<|aB rfl<|oR 1 rfl<|rE 37<|bC ?_;exact fT rfl (bE (by simp[c2o,c2a,eK]))
theorem PW(c:Co)(nb:Nat)(hok:c.ok nb)(hnb:nb≤890000):aT C0 31 [.agg (coL c),.agg (coL c)] (vB true):=by
 refine dc1 (aT.intro c1Ok Tryz.func31 rfl rfl (by kernel_rfl) rfl ?_);refine aA<|aB rfl<|rAl 0 rfl rfl<|rAl 1 rfl rfl<|oR 1 rfl<|rE 3<|aA<|aA<|aB rfl<|oR 4 rfl<|rV (vB (c.cycle != c.cycle)) rfl<|oR 1 rfl<|gN rfl<|gS rfl id<|gN rfl<|gS rfl id ?_;refine gBS (x:=vB (!((((c.r 0:Nat):Int)==((c.r 0:Nat):Int))&&((((c.r 1:Nat):Int)==((c.r 1:Nat):Int))&&((((c.r 2:Nat):Int)==((c.r 2:Nat):Int))&&((((c.r 3:Nat):Int)==((c.r 3:Nat):Int))&&((((c.r 4:Nat):Int)==((c.r 4:Nat):Int))&&((((c.r 5:Nat):Int)==((c.r 5:Nat):Int))&&((((c.r 6:Nat):Int)==((c.r 6:Nat):Int))&&((((c.r 7:Nat):Int)==((c.r 7:Nat):Int))&&((((c.r 8:Nat):Int)==((c.r 8:Nat):Int))&&((((c.r 9:Nat):Int)==((c.r 9:Nat):Int))&&((((c.r 10:Nat):Int)==((c.r 10:Nat):Int))&&((((c.r 11:Nat):Int)==((c.r 11:Nat):Int))&&((((c.r 12:Nat):Int)==((c.r 12:Nat):Int))&&((((c.r 13:Nat):Int)==((c.r 13:Nat):Int))&&((((c.r 14:Nat):Int)==((c.r 14:Nat):Int))&&((((c.r 15:Nat):Int)==((c.r 15:Nat):Int))&&((((c.r 16:Nat):Int)==((c.r 16:Nat):Int))&&((((c.r 17:Nat):Int)==((c.r 17:Nat):Int))&&((((c.r 18:Nat):Int)==((c.r 18:Nat):Int))&&((((c.r 19:Nat):Int)==((c.r 19:Nat):Int))&&((((c.r 20:Nat):Int)==((c.r 20:Nat):Int))&&((((c.r 21:Nat):Int)==((c.r 21:Nat):Int))&&((((c.r 22:Nat):Int)==((c.r 22:Nat):Int))&&((((c.r 23:Nat):Int)==((c.r 23:Nat):Int))&&((((c.r 24:Nat):Int)==((c.r 24:Nat):Int))&&((((c.r 25:Nat):Int)==((c.r 25:Nat):Int))&&((((c.r 26:Nat):Int)==((c.r 26:Nat):Int))&&((((c.r 27:Nat):Int)==((c.r 27:Nat):Int))&&((((c.r 28:Nat):Int)==((c.r 28:Nat):Int))&&((((c.r 29:Nat):Int)==((c.r 29:Nat):Int))&&((((c.r 30:Nat):Int)==((c.r 30:Nat):Int))&&((((c.r 31:Nat):Int)==((c.r 31:Nat):Int))&&true)))))))))))))))))))))))))))))))))) rfl hsT rfl<|aG rfl rfl rfl (by simp)<|oR 1 rfl<|gN rfl<|gS rfl id<|gN rfl<|gS rfl id<|gBS (x:=vB (c.fetch != c.fetch)) rfl hsT (okB (neN _ _))<|aG rfl rfl rfl (by simp)<|oR 1 rfl<|gN rfl<|gS rfl id<|gN rfl<|gS rfl id<|gBS (x:=vB (!(c.stop==c.stop))) rfl hsT rfl<|aG rfl rfl rfl (by simp) ?_;refine oR 1 rfl<|gN rfl<|gS rfl id<|gN rfl<|gS rfl id<|gBS (x:=vB (c.next != c.next)) rfl hsT rfl<|aG rfl rfl rfl (by simp)<|oR 1 rfl<|gN rfl<|gS rfl id<|gN rfl<|gS rfl id<|gBS (x:=vB (c.asked != c.asked)) rfl hsT rfl<|aG rfl rfl rfl (by simp)<|oR 1 rfl<|gN rfl ?_;refine gS rfl id<|gN rfl<|gS rfl id<|gBS (x:=vB (c.guessed != c.guessed)) rfl hsT rfl<|aG rfl rfl rfl (by simp)<|oR 1 rfl<|gN rfl<|gS rfl id<|gN rfl<|gS rfl id<|gBS (x:=vB (!(c.mem.toList==c.mem.toList))) rfl hsT rfl<|aG rfl rfl rfl (by simp)<|oR 1 rfl<|gN rfl<|gS rfl id<|gN rfl ?_;refine gS rfl id<|gBS (x:=vB (c.halt != c.halt)) rfl hsT rfl<|aG rfl rfl rfl (by simp)<|rE 64 ?_;refine aE rfl (λ h1=>by simp[c2o,c2a,eK]at h1) (λ _=>?_);refine aF<|aA<|aA<|aB rfl<|oR 2 rfl<|rW (vN c.rob.length) rfl (aN enL c.rob)<|oR 2 rfl<|rW (vN c.rob.length) rfl (aN enL c.rob)<|rW (vB (c.rob.length != c.rob.length)) rfl (okB (neN _ _))<|oR 1 rfl<|gN rfl<|gS rfl id<|gBS (x:=vN c.fetched.length) rfl id (aN ftL c.fetched)<|gN rfl<|gS rfl id<|gBS (x:=vN c.fetched.length) rfl id (aN ftL c.fetched) ?_;refine gBS (x:=vB (c.fetched.length != c.fetched.length)) rfl hsT (okB (neN _ _))<|aG rfl rfl rfl (by simp)<|oR 1 rfl<|gN rfl<|gS rfl id<|gBS (x:=vN c.stores.length) rfl id (aN ptL c.stores)<|gN rfl<|gS rfl id<|gBS (x:=vN c.stores.length) rfl id (aN ptL c.stores)<|gBS (x:=vB (c.stores.length != c.stores.length)) rfl hsT (okB (neN _ _))<|aG rfl rfl rfl (by simp)<|oR 1 rfl<|gN rfl<|gS rfl id<|gBS (x:=vN c.bus.length) rfl id (aN rqL c.bus)<|gN rfl ?_;refine gS rfl id<|gBS (x:=vN c.bus.length) rfl id (aN rqL c.bus)<|gBS (x:=vB (c.bus.length != c.bus.length)) rfl hsT (okB (neN _ _))<|aG rfl rfl rfl (by simp)<|rE 98 ?_;refine aE rfl (λ h2=>by simp[c2o,c2a,eK]at h2) (λ _=>?_)
 refine aF<|aA<|aA<|aB rfl<|oR 2 rfl<|rW (vN c.rob.length) rfl (aN enL c.rob)<|oR 1 rfl<|rE 102<|aK<|fU (κ:=Nat) (λ k=>⟨aY [(2,.ptr 0 0),(3,.ptr 1 0),(69,vB (aO (aO (aO (aO (aO (aO (aO (aO (c.cycle != c.cycle) true (!((((c.r 0:Nat):Int)==((c.r 0:Nat):Int))&&((((c.r 1:Nat):Int)==((c.r 1:Nat):Int))&&((((c.r 2:Nat):Int)==((c.r 2:Nat):Int))&&((((c.r 3:Nat):Int)==((c.r 3:Nat):Int))&&((((c.r 4:Nat):Int)==((c.r 4:Nat):Int))&&((((c.r 5:Nat):Int)==((c.r 5:Nat):Int))&&((((c.r 6:Nat):Int)==((c.r 6:Nat):Int))&&((((c.r 7:Nat):Int)==((c.r 7:Nat):Int))&&((((c.r 8:Nat):Int)==((c.r 8:Nat):Int))&&((((c.r 9:Nat):Int)==((c.r 9:Nat):Int))&&((((c.r 10:Nat):Int)==((c.r 10:Nat):Int))&&((((c.r 11:Nat):Int)==((c.r 11:Nat):Int))&&((((c.r 12:Nat):Int)==((c.r 12:Nat):Int))&&((((c.r 13:Nat):Int)==((c.r 13:Nat):Int))&&((((c.r 14:Nat):Int)==((c.r 14:Nat):Int))&&((((c.r 15:Nat):Int)==((c.r 15:Nat):Int))&&((((c.r 16:Nat):Int)==((c.r 16:Nat):Int))&&((((c.r 17:Nat):Int)==((c.r 17:Nat):Int))&&((((c.r 18:Nat):Int)==((c.r 18:Nat):Int))&&((((c.r 19:Nat):Int)==((c.r 19:Nat):Int))&&((((c.r 20:Nat):Int)==((c.r 20:Nat):Int))&&((((c.r 21:Nat):Int)==((c.r 21:Nat):Int))&&((((c.r 22:Nat):Int)==((c.r 22:Nat):Int))&&((((c.r 23:Nat):Int)==((c.r 23:Nat):Int))&&((((c.r 24:Nat):Int)==((c.r 24:Nat):Int))&&((((c.r 25:Nat):Int)==((c.r 25:Nat):Int))&&((((c.r 26:Nat):Int)==((c.r 26:Nat):Int))&&((((c.r 27:Nat):Int)==((c.r 27:Nat):Int))&&((((c.r 28:Nat):Int)==((c.r 28:Nat):Int))&&((((c.r 29:Nat):Int)==((c.r 29:Nat):Int))&&((((c.r 30:Nat):Int)==((c.r 30:Nat):Int))&&((((c.r 31:Nat):Int)==((c.r 31:Nat):Int))&&true)))))))))))))))))))))))))))))))))) true (c.fetch != c.fetch)) true (!(c.stop==c.stop))) true (c.next != c.next)) true (c.asked != c.asked)) true (c.guessed != c.guessed)) true (!(c.mem.toList==c.mem.toList))) true (c.halt != c.halt))),(103,vB (aO (aO (aO (c.rob.length != c.rob.length) true (c.fetched.length != c.fetched.length)) true (c.stores.length != c.stores.length)) true (c.bus.length != c.bus.length))),(106,vN c.rob.length),(107,vN k)],heapF [(0,.box (coL c)),(1,.box (coL c))],102⟩) (λ k=>k≤c.rob.length) (λ k=>c.rob.length - k) 0 (λ s=>s) (Weak.of_lists (λ s=>s) wT wH rfl) (SV _) ?_;intro k hk;have hkn:k≤c.rob.length:=hk;have hkB:k≤9223372036854775807:=by have:=hok.rob;omega
 have hz:=hok.rob;refine aA<|aB rfl<|rW (vB (decide (k<c.rob.length))) rfl (okB (ltN _ _))<|rE 103<|aA ?_;refine aE rfl (λ h3=>?_) (λ h3=>?_)
 ·have h3p:=of_decide_eq_true h3;refine aF<|aA<|aK<|aA<|aB rfl<|oR 2 rfl<|rE 105<|aA<|aB rfl<|oR 3 rfl ?_;obtain⟨x1,hx1⟩:∃ y_,c.rob[k]?=some y_:=⟨_,SS omT⟩;have hx1o:=hok.robo x1 (ST hx1);refine rIx (enL x1) (.dp 17 0 (enL x1)) rfl rfl (cX hx1) rfl<|oR 4 rfl<|rIx (enL x1) (.dp 17 0 (enL x1)) rfl rfl (cX hx1) rfl<|oR 1 rfl<|rV (vB (!((x1.no==x1.no)&&((((x1.pc:Nat):Int)==((x1.pc:Nat):Int))&&((x1.i.op==x1.i.op)&&((x1.i.rd==x1.i.rd)&&((x1.i.rs1==x1.i.rs1)&&((x1.i.rs2==x1.i.rs2)&&((((x1.i.imm:Nat):Int)==((x1.i.imm:Nat):Int))&&((((x1.guess:Nat):Int)==((x1.guess:Nat):Int))&&((x1.is==x1.is)&&((x1.left==x1.left)&&((((x1.value:Nat):Int)==((x1.value:Nat):Int))&&((((x1.next:Nat):Int)==((x1.next:Nat):Int))&&((((x1.addr:Nat):Int)==((x1.addr:Nat):Int))&&((x1.halt==x1.halt)&&((x1.took==x1.took)&&((x1.known==x1.known)&&((x1.filled==x1.filled)&&true))))))))))))))))))) rfl<|rE 116 ?_;refine aE rfl (λ h4=>by simp[c2o,c2a,eK]at h4) (λ _=>?_);refine aF<|aB rfl ?_;have b1:k+1≤9223372036854775807:=by omega
  refine rW (vN (k+1)) rfl (okI (aQ (show k+1≤9223372036854775807 by omega) rfl))<|oR 1 rfl<|rE 118 ?_;refine⟨k+1,λ s=>s,Weak.of_lists _ wT wH rfl,by omega,by show c.rob.length - (k+1)<c.rob.length - k;omega⟩
 ·have h3p:=SW h3;refine bU<|aA<|aA<|aB rfl<|oR 2 rfl<|rW (vN c.fetched.length) rfl (aN ftL c.fetched)<|oR 1 rfl<|rE 107<|aK<|fU (κ:=Nat) (λ j=>⟨aY [(2,.ptr 0 0),(3,.ptr 1 0),(69,vB (aO (aO (aO (aO (aO (aO (aO (aO (c.cycle != c.cycle) true (!((((c.r 0:Nat):Int)==((c.r 0:Nat):Int))&&((((c.r 1:Nat):Int)==((c.r 1:Nat):Int))&&((((c.r 2:Nat):Int)==((c.r 2:Nat):Int))&&((((c.r 3:Nat):Int)==((c.r 3:Nat):Int))&&((((c.r 4:Nat):Int)==((c.r 4:Nat):Int))&&((((c.r 5:Nat):Int)==((c.r 5:Nat):Int))&&((((c.r 6:Nat):Int)==((c.r 6:Nat):Int))&&((((c.r 7:Nat):Int)==((c.r 7:Nat):Int))&&((((c.r 8:Nat):Int)==((c.r 8:Nat):Int))&&((((c.r 9:Nat):Int)==((c.r 9:Nat):Int))&&((((c.r 10:Nat):Int)==((c.r 10:Nat):Int))&&((((c.r 11:Nat):Int)==((c.r 11:Nat):Int))&&((((c.r 12:Nat):Int)==((c.r 12:Nat):Int))&&((((c.r 13:Nat):Int)==((c.r 13:Nat):Int))&&((((c.r 14:Nat):Int)==((c.r 14:Nat):Int))&&((((c.r 15:Nat):Int)==((c.r 15:Nat):Int))&&((((c.r 16:Nat):Int)==((c.r 16:Nat):Int))&&((((c.r 17:Nat):Int)==((c.r 17:Nat):Int))&&((((c.r 18:Nat):Int)==((c.r 18:Nat):Int))&&((((c.r 19:Nat):Int)==((c.r 19:Nat):Int))&&((((c.r 20:Nat):Int)==((c.r 20:Nat):Int))&&((((c.r 21:Nat):Int)==((c.r 21:Nat):Int))&&((((c.r 22:Nat):Int)==((c.r 22:Nat):Int))&&((((c.r 23:Nat):Int)==((c.r 23:Nat):Int))&&((((c.r 24:Nat):Int)==((c.r 24:Nat):Int))&&((((c.r 25:Nat):Int)==((c.r 25:Nat):Int))&&((((c.r 26:Nat):Int)==((c.r 26:Nat):Int))&&((((c.r 27:Nat):Int)==((c.r 27:Nat):Int))&&((((c.r 28:Nat):Int)==((c.r 28:Nat):Int))&&((((c.r 29:Nat):Int)==((c.r 29:Nat):Int))&&((((c.r 30:Nat):Int)==((c.r 30:Nat):Int))&&((((c.r 31:Nat):Int)==((c.r 31:Nat):Int))&&true)))))))))))))))))))))))))))))))))) true (c.fetch != c.fetch)) true (!(c.stop==c.stop))) true (c.next != c.next)) true (c.asked != c.asked)) true (c.guessed != c.guessed)) true (!(c.mem.toList==c.mem.toList))) true (c.halt != c.halt))),(103,vB (aO (aO (aO (c.rob.length != c.rob.length) true (c.fetched.length != c.fetched.length)) true (c.stores.length != c.stores.length)) true (c.bus.length != c.bus.length))),(108,vB (decide (k<c.rob.length))),(124,vN c.fetched.length),(125,vN j)],heapF [(0,.box (coL c)),(1,.box (coL c))],107⟩) (λ j=>j≤c.fetched.length) (λ j=>c.fetched.length - j) 0 (λ s=>s) (Weak.of_lists (λ s=>s) wT wH rfl) (SV _) ?_;intro j hj;have hjn:j≤c.fetched.length:=hj;have hjB:j≤9223372036854775807:=by have:=hok.fet;omega
  have hz:=hok.fet;refine aA<|aB rfl<|rW (vB (decide (j<c.fetched.length))) rfl (okB (ltN _ _))<|rE 108<|aA ?_;refine aE rfl (λ h5=>?_) (λ h5=>?_)
  ·have h5p:=of_decide_eq_true h5;refine aF<|aA<|aK<|aA<|aB rfl<|oR 2 rfl<|rE 110<|aA<|aB rfl<|oR 3 rfl ?_;obtain⟨x2,hx2⟩:∃ y_,c.fetched[j]?=some y_:=⟨_,SS omT⟩;have hx2o:=hok.feto x2 (ST hx2);refine rIx (ftL x2) (.dp 2 0 (ftL x2)) rfl rfl (cX hx2) rfl<|oR 4 rfl<|rIx (ftL x2) (.dp 2 0 (ftL x2)) rfl rfl (cX hx2) rfl<|oR 1 rfl<|rV (vB (!((((x2.pc:Nat):Int)==((x2.pc:Nat):Int))&&((((x2.guess:Nat):Int)==((x2.guess:Nat):Int))&&true)))) rfl<|rE 121 ?_;refine aE rfl (λ h6=>by simp[c2o,c2a,eK]at h6) (λ _=>?_);refine aF<|aB rfl ?_;have b2:j+1≤9223372036854775807:=by omega
   refine rW (vN (j+1)) rfl (okI (aQ (show j+1≤9223372036854775807 by omega) rfl))<|oR 1 rfl<|rE 123 ?_;refine⟨j+1,λ s=>s,Weak.of_lists _ wT wH rfl,by omega,by show c.fetched.length - (j+1)<c.fetched.length - j;omega⟩
  ·have h5p:=SW h5;refine bU<|aA<|aA<|aB rfl<|oR 2 rfl<|rW (vN c.stores.length) rfl (aN ptL c.stores)<|oR 1 rfl<|rE 112<|aK<|fU (κ:=Nat) (λ i=>⟨aY [(2,.ptr 0 0),(3,.ptr 1 0),(69,vB (aO (aO (aO (aO (aO (aO (aO (aO (c.cycle != c.cycle) true (!((((c.r 0:Nat):Int)==((c.r 0:Nat):Int))&&((((c.r 1:Nat):Int)==((c.r 1:Nat):Int))&&((((c.r 2:Nat):Int)==((c.r 2:Nat):Int))&&((((c.r 3:Nat):Int)==((c.r 3:Nat):Int))&&((((c.r 4:Nat):Int)==((c.r 4:Nat):Int))&&((((c.r 5:Nat):Int)==((c.r 5:Nat):Int))&&((((c.r 6:Nat):Int)==((c.r 6:Nat):Int))&&((((c.r 7:Nat):Int)==((c.r 7:Nat):Int))&&((((c.r 8:Nat):Int)==((c.r 8:Nat):Int))&&((((c.r 9:Nat):Int)==((c.r 9:Nat):Int))&&((((c.r 10:Nat):Int)==((c.r 10:Nat):Int))&&((((c.r 11:Nat):Int)==((c.r 11:Nat):Int))&&((((c.r 12:Nat):Int)==((c.r 12:Nat):Int))&&((((c.r 13:Nat):Int)==((c.r 13:Nat):Int))&&((((c.r 14:Nat):Int)==((c.r 14:Nat):Int))&&((((c.r 15:Nat):Int)==((c.r 15:Nat):Int))&&((((c.r 16:Nat):Int)==((c.r 16:Nat):Int))&&((((c.r 17:Nat):Int)==((c.r 17:Nat):Int))&&((((c.r 18:Nat):Int)==((c.r 18:Nat):Int))&&((((c.r 19:Nat):Int)==((c.r 19:Nat):Int))&&((((c.r 20:Nat):Int)==((c.r 20:Nat):Int))&&((((c.r 21:Nat):Int)==((c.r 21:Nat):Int))&&((((c.r 22:Nat):Int)==((c.r 22:Nat):Int))&&((((c.r 23:Nat):Int)==((c.r 23:Nat):Int))&&((((c.r 24:Nat):Int)==((c.r 24:Nat):Int))&&((((c.r 25:Nat):Int)==((c.r 25:Nat):Int))&&((((c.r 26:Nat):Int)==((c.r 26:Nat):Int))&&((((c.r 27:Nat):Int)==((c.r 27:Nat):Int))&&((((c.r 28:Nat):Int)==((c.r 28:Nat):Int))&&((((c.r 29:Nat):Int)==((c.r 29:Nat):Int))&&((((c.r 30:Nat):Int)==((c.r 30:Nat):Int))&&((((c.r 31:Nat):Int)==((c.r 31:Nat):Int))&&true)))))))))))))))))))))))))))))))))) true (c.fetch != c.fetch)) true (!(c.stop==c.stop))) true (c.next != c.next)) true (c.asked != c.asked)) true (c.guessed != c.guessed)) true (!(c.mem.toList==c.mem.toList))) true (c.halt != c.halt))),(103,vB (aO (aO (aO (c.rob.length != c.rob.length) true (c.fetched.length != c.fetched.length)) true (c.stores.length != c.stores.length)) true (c.bus.length != c.bus.length))),(108,vB (decide (k<c.rob.length))),(126,vB (decide (j<c.fetched.length))),(142,vN c.stores.length),(143,vN i)],heapF [(0,.box (coL c)),(1,.box (coL c))],112⟩) (λ i=>i≤c.stores.length) (λ i=>c.stores.length - i) 0 (λ s=>s) (Weak.of_lists (λ s=>s) wT wH rfl) (SV _) ?_;intro i hi;have hin:i≤c.stores.length:=hi;have hiB:i≤9223372036854775807:=by have:=hok.sto;omega
   have hz:=hok.sto;refine aA<|aB rfl<|rW (vB (decide (i<c.stores.length))) rfl (okB (ltN _ _))<|rE 113<|aA ?_;refine aE rfl (λ h7=>?_) (λ h7=>?_)
   ·have h7p:=of_decide_eq_true h7;refine aF<|aA<|aK<|aA<|aB rfl<|oR 2 rfl<|rE 115<|aA<|aB rfl<|oR 3 rfl ?_;obtain⟨x3,hx3⟩:∃ y_,c.stores[i]?=some y_:=⟨_,SS omT⟩;have hx3o:=hok.stoo x3 (ST hx3);refine rIx (ptL x3) (.dp 2 0 (ptL x3)) rfl rfl (cX hx3) rfl<|oR 4 rfl<|rIx (ptL x3) (.dp 2 0 (ptL x3)) rfl rfl (cX hx3) rfl<|oR 1 rfl<|rV (vB (!((((x3.addr:Nat):Int)==((x3.addr:Nat):Int))&&((x3.data==x3.data)&&true)))) rfl<|rE 126 ?_;refine aE rfl (λ h8=>by simp[c2o,c2a,eK]at h8) (λ _=>?_);refine aF<|aB rfl ?_;have b3:i+1≤9223372036854775807:=by omega
    refine rW (vN (i+1)) rfl (okI (aQ (show i+1≤9223372036854775807 by omega) rfl))<|oR 1 rfl<|rE 128 ?_;refine⟨i+1,λ s=>s,Weak.of_lists _ wT wH rfl,by omega,by show c.stores.length - (i+1)<c.stores.length - i;omega⟩
   ·have h7p:=SW h7;refine bU<|aA<|aA<|aB rfl<|oR 2 rfl<|rW (vN c.bus.length) rfl (aN rqL c.bus)<|oR 1 rfl<|rE 117<|aK<|fU (κ:=Nat) (λ q=>⟨aY [(2,.ptr 0 0),(3,.ptr 1 0),(69,vB (aO (aO (aO (aO (aO (aO (aO (aO (c.cycle != c.cycle) true (!((((c.r 0:Nat):Int)==((c.r 0:Nat):Int))&&((((c.r 1:Nat):Int)==((c.r 1:Nat):Int))&&((((c.r 2:Nat):Int)==((c.r 2:Nat):Int))&&((((c.r 3:Nat):Int)==((c.r 3:Nat):Int))&&((((c.r 4:Nat):Int)==((c.r 4:Nat):Int))&&((((c.r 5:Nat):Int)==((c.r 5:Nat):Int))&&((((c.r 6:Nat):Int)==((c.r 6:Nat):Int))&&((((c.r 7:Nat):Int)==((c.r 7:Nat):Int))&&((((c.r 8:Nat):Int)==((c.r 8:Nat):Int))&&((((c.r 9:Nat):Int)==((c.r 9:Nat):Int))&&((((c.r 10:Nat):Int)==((c.r 10:Nat):Int))&&((((c.r 11:Nat):Int)==((c.r 11:Nat):Int))&&((((c.r 12:Nat):Int)==((c.r 12:Nat):Int))&&((((c.r 13:Nat):Int)==((c.r 13:Nat):Int))&&((((c.r 14:Nat):Int)==((c.r 14:Nat):Int))&&((((c.r 15:Nat):Int)==((c.r 15:Nat):Int))&&((((c.r 16:Nat):Int)==((c.r 16:Nat):Int))&&((((c.r 17:Nat):Int)==((c.r 17:Nat):Int))&&((((c.r 18:Nat):Int)==((c.r 18:Nat):Int))&&((((c.r 19:Nat):Int)==((c.r 19:Nat):Int))&&((((c.r 20:Nat):Int)==((c.r 20:Nat):Int))&&((((c.r 21:Nat):Int)==((c.r 21:Nat):Int))&&((((c.r 22:Nat):Int)==((c.r 22:Nat):Int))&&((((c.r 23:Nat):Int)==((c.r 23:Nat):Int))&&((((c.r 24:Nat):Int)==((c.r 24:Nat):Int))&&((((c.r 25:Nat):Int)==((c.r 25:Nat):Int))&&((((c.r 26:Nat):Int)==((c.r 26:Nat):Int))&&((((c.r 27:Nat):Int)==((c.r 27:Nat):Int))&&((((c.r 28:Nat):Int)==((c.r 28:Nat):Int))&&((((c.r 29:Nat):Int)==((c.r 29:Nat):Int))&&((((c.r 30:Nat):Int)==((c.r 30:Nat):Int))&&((((c.r 31:Nat):Int)==((c.r 31:Nat):Int))&&true)))))))))))))))))))))))))))))))))) true (c.fetch != c.fetch)) true (!(c.stop==c.stop))) true (c.next != c.next)) true (c.asked != c.asked)) true (c.guessed != c.guessed)) true (!(c.mem.toList==c.mem.toList))) true (c.halt != c.halt))),(103,vB (aO (aO (aO (c.rob.length != c.rob.length) true (c.fetched.length != c.fetched.length)) true (c.stores.length != c.stores.length)) true (c.bus.length != c.bus.length))),(108,vB (decide (k<c.rob.length))),(126,vB (decide (j<c.fetched.length))),(144,vB (decide (i<c.stores.length))),(160,vN c.bus.length),(161,vN q)],heapF [(0,.box (coL c)),(1,.box (coL c))],117⟩) (λ q=>q≤c.bus.length) (λ q=>c.bus.length - q) 0 (λ s=>s) (Weak.of_lists (λ s=>s) wT wH rfl) (SV _) ?_;intro q hq;have hqn:q≤c.bus.length:=hq;have hqB:q≤9223372036854775807:=by have:=hok.bus;omega
    have hz:=hok.bus;refine aA<|aB rfl<|rW (vB (decide (q<c.bus.length))) rfl (okB (ltN _ _))<|rE 118<|aA ?_;refine aE rfl (λ h9=>?_) (λ h9=>?_)
    ·have h9p:=of_decide_eq_true h9;refine aF<|aA<|aK<|aA<|aB rfl<|oR 2 rfl<|rE 120<|aA<|aB rfl<|oR 3 rfl ?_;obtain⟨x4,hx4⟩:∃ y_,c.bus[q]?=some y_:=⟨_,SS omT⟩;have hx4o:=hok.buso x4 (ST hx4);refine rIx (rqL x4) (.dp 4 0 (rqL x4)) rfl rfl (cX hx4) rfl<|oR 4 rfl<|rIx (rqL x4) (.dp 4 0 (rqL x4)) rfl rfl (cX hx4) rfl<|oR 1 rfl<|rV (vB (!((x4.kind==x4.kind)&&((((x4.line:Nat):Int)==((x4.line:Nat):Int))&&((x4.left==x4.left)&&((x4.data==x4.data)&&true)))))) rfl<|rE 131 ?_;refine aE rfl (λ h10=>by simp[c2o,c2a,eK]at h10) (λ _=>?_);refine aF<|aB rfl ?_;have b4:q+1≤9223372036854775807:=by omega
     refine rW (vN (q+1)) rfl (okI (aQ (show q+1≤9223372036854775807 by omega) rfl))<|oR 1 rfl<|rE 133 ?_;refine⟨q+1,λ s=>s,Weak.of_lists _ wT wH rfl,by omega,by show c.bus.length - (q+1)<c.bus.length - q;omega⟩
    ·have h9p:=SW h9;refine bU<|aA<|aB rfl<|oR 4 rfl<|rCi rfl (FJ c.data hok.data)<|oR 1 rfl<|gN rfl<|gS rfl id<|gN rfl<|gS rfl id<|dZ (args:=[.agg [vI c.words.ways,.sl 1 (c.words.sets.map aR) false],.agg [vI c.words.ways,.sl 1 (c.words.sets.map aR) false]]) (x:=vB true) (g:=true) rfl rfl rfl rfl hsT rfl rfl rfl (.inl rfl) rfl (λ hg=>FJ c.words hok.words)<|aG rfl rfl rfl (λ h=>h)<|oR 1 rfl<|gN rfl<|gS rfl id<|gN rfl ?_;refine gS rfl id<|dZ (args:=[.agg [.sl 2 (c.guess.slots.map gsL) false,vU c.guess.hist,.sl 1 (c.guess.rets.map cN) false],.agg [.sl 2 (c.guess.slots.map gsL) false,vU c.guess.hist,.sl 1 (c.guess.rets.map cN) false]]) (x:=vB true) (g:=aO true true false) rfl rfl rfl rfl hsT rfl rfl rfl (.inl rfl) rfl (λ hg=>LN c.guess hok.guess)<|aG rfl rfl rfl (λ h=>h)<|oR 1 rfl<|gN rfl<|gS rfl id<|gN rfl<|gS rfl id<|dZ (args:=[.sl 9 (c.retired.map spL) false,.sl 9 (c.retired.map spL) false]) (x:=vB true) (g:=aO (aO true true false) true false) rfl rfl rfl rfl hsT rfl rfl rfl (.inl rfl) rfl (λ hg=>LL c.retired false false (Tb hok.ret omT) hok.reto)<|aG rfl rfl rfl (λ h=>h)<|oR 1 rfl<|gN rfl<|gS rfl id<|gN rfl<|gS rfl id<|dZ (args:=[.agg [vI c.conf.mode,vI c.conf.width,vI c.conf.rob,vI c.conf.queue,vI c.conf.stores,vI c.conf.slots,vI c.conf.sets,vI c.conf.ways,.sl 1 (c.conf.lat.map dD) false,vB c.conf.tables,.sl 1 (c.conf.tape.map cN) false],.agg [vI c.conf.mode,vI c.conf.width,vI c.conf.rob,vI c.conf.queue,vI c.conf.stores,vI c.conf.slots,vI c.conf.sets,vI c.conf.ways,.sl 1 (c.conf.lat.map dD) false,vB c.conf.tables,.sl 1 (c.conf.tape.map cN) false]]) (x:=vB true) (g:=aO (aO (aO true true false) true false) true false) rfl rfl rfl rfl hsT rfl rfl rfl (.inl rfl) rfl (λ hg=>LM c.conf hok.conf) ?_;refine aG rfl rfl rfl (λ h=>h)<|oR 1 rfl<|rE 152<|bC ?_;exact fT rfl (bE (by simp[c2o,c2a,eK]))
theorem aT.of_sub{C:Ctx}{f:FuncId}{xs ys:List AV}{r:AV}(h:aT C f xs r)(k:Qy ys xs):aT C f ys r:=by
 obtain⟨k1,k2⟩:=k.get;refine⟨h.1,λ S w vs hS hG hr=>h.2 S w vs hS hG ⟨k1 ▸ hr.1,λ i a v ha hv=>?_⟩⟩;have hi:i<ys.length:=by rw[k1];exact (WB.1 ha).1
 exact k2 i _ a (SS hi) ha _ _ _ (hr.2 i _ v (SS hi) hv)
theorem PX:aT C0 28 [.agg [vI 0,vI 0,vI 0,vI 0,vI 0,vI 0,vI 0,vI 0,.sl 0 [] true,vB false,.sl 0 [] true],.sl 1 [[vU 1048691]] true,.v (.string fH),vI 20] (.agg (coL (rL (qL LO [1048691] fH) (BS 20)))):=
 (Sa LO [1048691] fH 20 ⟨SV _,SV _,λ x hx=>by cases hx⟩ (λ x hx=>by rw[Ww.1 hx];decide) (by decide)).of_sub ⟨Sub.agg ⟨Sub.refl _,Sub.refl _,Sub.refl _,Sub.refl _,Sub.refl _,Sub.refl _,Sub.refl _,Sub.refl _,mN 1 false,Sub.refl _,mN 1 false,trivial⟩,Sub.clip _ _ _,Sub.refl _,Sub.refl _,trivial⟩
theorem IX:aT C0 17 [] (vB true):=by
 refine dc1 (aT.intro c1Ok Tryz.func17 rfl rfl (by kernel_rfl) rfl ?_);have hnb:(200:Nat)≤890000:=by decide
 refine aA<|aB rfl<|oR 1 rfl<|rE 1<|aA<|aB rfl<|rV (.agg [vI 0,vI 0,vI 0,vI 0,vI 0,vI 0,vI 0,vI 0,.sl 0 ([]) true,vB false,.sl 0 ([]) true]) rfl<|rV (.sl 1 ([[.v (.int .u32 1048691)]]) true) rfl<|rCi rfl (PX)<|rAl 4 rfl rfl<|rSx 4 (coL (rL (qL LO [1048691] fH) (BS 20))) rfl rfl rfl<|rE 6<|aA<|aB rfl<|oR 2 rfl<|rV (vB (((rL (qL LO [1048691] fH) (BS 20)).halt)==7)) rfl ?_;refine oR 1 rfl<|gN rfl<|gS rfl id<|gBS (x:=vN (((rL (qL LO [1048691] fH) (BS 20)).retired).length)) rfl id (aN spL ((rL (qL LO [1048691] fH) (BS 20)).retired))<|gBS (x:=vB ((((rL (qL LO [1048691] fH) (BS 20)).retired).length)==1)) rfl id (okB (eqN _ _))<|aG rfl rfl rfl (λ h=>h)<|oR 1 rfl<|rE 16<|bC ?_;exact fT rfl (bE (by simp[c2a,PY.1,PY.2]))
structure Kp(c d:Co):Prop where
 cycle:d.cycle=c.cycle
 ret:c.retired.length≤d.retired.length
 mem:d.mem.size=c.mem.size
theorem Kp.refl(c:Co):Kp c c:=⟨rfl,SU _,rfl⟩
theorem Kp.trans{a b c:Co}(h:Kp a b)(k:Kp b c):Kp a c:=⟨k.cycle.trans h.cycle,Tb h.ret k.ret,k.mem.trans h.mem⟩
theorem LI(c:Co):Kp c (eH c):=by
 rw[dP];split
 ·unfold zF
  repeat' split
  ·exact⟨rfl,SU _,rfl⟩
  ·exact⟨rfl,SU _,rfl⟩
  ·rw[←kL];exact⟨rfl,SU _,rfl⟩
  ·exact⟨rfl,SU _,dE ..⟩
  ·exact⟨rfl,SU _,rfl⟩
 ·exact⟨rfl,SU _,rfl⟩
theorem LJ(c:Co):Kp c (dR c):=by
 unfold dR;split
 ·exact .refl c
 ·split<;>exact⟨rfl,SU _,rfl⟩
theorem IP(d:Co)(e:Ent):Kp d (lN d e):=⟨rfl,(by show d.retired.length≤(d.retired++[aC e]).length;simp),rfl⟩
theorem IQ(d:Co)(e:Ent):Kp d (lO d e):=⟨rfl,(by show d.retired.length≤(d.retired++[aC e]).length;simp),rfl⟩
theorem tC:∀ (n:Nat) (c:Co),Kp c (bN n c)
 |0,c=>.refl c
 | n +1,c=>by
  by_cases h0:c.halt≠0∨c.rob.length=0
  ·rw[eJ h0];exact .refl c
  ·have hx:c.rob[0]?=some (c.rob[0]'omT):=SS omT;rw[cB omT (λ q=>h0 (.inl q)) hx];split
   ·exact .refl c
   ·split
    ·exact⟨rfl,(by show c.retired.length≤(c.retired++[_]).length;simp),rfl⟩
    ·split
     ·exact .refl c
     ·rw[UX];by_cases hk:kindOf (c.rob[0]'omT).i.op=3
      ·rw[kY hk];exact (IQ c _).trans (tC n _)
      ·rw[kX hk];exact (IP c _).trans (tC n _)
theorem Oa(c:Co)(i:Nat):Kp c (fP c i):=by
 unfold fP
 cases c.rob[i]? with
 |none=>exact .refl c
 |some e=>
  dsimp only
  repeat' split
  all_goals exact⟨rfl,SU _,rfl⟩
theorem LK(c:Co)(i:Nat):Kp c (dB c i):=by
 unfold dB
 cases c.rob[i]? with
 |none=>exact .refl c
 | some e=>
  dsimp only;split
  ·exact⟨rfl,SU _,rfl⟩
  ·split
   ·exact Kp.trans (b:=CN c i (oA e c.mem.size (eR c.rob c.r i).1)) ⟨rfl,SU _,rfl⟩ (Oa _ i)
   ·exact⟨rfl,SU _,rfl⟩
theorem Ds:∀ (p:List Nat) (c:Co),Kp c (p.foldl dB c)
 |[],c=>.refl c
 |i::p,c=>(LK c i).trans (Ds p _)
theorem IR(c:Co):Kp c (cL c):=by
 unfold cL;split
 ·exact .refl c
 ·exact Ds _ c
theorem AK:∀ (n:Nat) (c:Co),Kp c (eC n c)
 |0,c=>.refl c
 | n+1,c=>by
  by_cases h0:(c.rob.length:Int)≥c.conf.rob∨c.fetched.length=0
  ·rw[nJ h0];exact .refl c
  ·have hx:c.fetched[0]?=some (c.fetched[0]'omT):=SS omT;have e:=sB (n:=n+1) (k:=0) omT (λ q=>h0 (.inl q)) hx;rw[show n+1 - (0+1)=n by omega,show n+1 - 0=n+1 by omega]at e;rw[←e];have h1:Kp c (AR c (c.fetched[0]'omT)):=⟨rfl,SU _,rfl⟩;exact h1.trans (AK n _)
theorem IU(c:Co):Kp c (eA c):=by
 unfold eA;split
 ·exact .refl c
 ·exact AK _ c
theorem IV(c:Co):Kp c (oN c):=by
 have h:Kp (eD c) (bH (eD c) (fetchW c.prog c.fetch)).1:=by
  unfold bH;split
  ·exact .refl _
  ·split<;>exact⟨rfl,SU _,rfl⟩
 exact⟨h.cycle,h.ret,h.mem⟩
theorem yH:∀ (n:Nat) (c:Co),Kp c (bS n c)
 |0,c=>.refl c
 | n +1,c=>by
  by_cases h0:c.stop=true∨(c.fetched.length:Int)≥c.conf.queue
  ·rw[lQ h0];exact .refl c
  ·by_cases hf:(fetchP c.prog c.fetch).isSome=false
   ·rw[nK omT h0 hf];exact⟨rfl,SU _,rfl⟩
   ·by_cases hw:(aH c.words (lineOf c.fetch)).2.isSome=false
    ·rw[iZ omT h0 hf hw];split
     ·exact⟨rfl,SU _,rfl⟩
     ·exact .refl c
    ·have e:=pL (n:=n+1) (k:=0) omT h0 hf hw;rw[show n+1 - (0+1)=n by omega,show n+1 - 0=n+1 by omega]at e;rw[←e];exact (IV c).trans (yH n _)
theorem He(c:Co):Kp c (bQ c):=by
 unfold bQ;split
 ·exact .refl c
 ·exact yH _ c
theorem EM(c:Co):Kp c (iP c):=by
 unfold iP;split
 ·exact .refl c
 ·split
  ·exact⟨rfl,SU _,rfl⟩
  ·exact .refl c
theorem AL(c:Co):Kp c (fF c):=by
 unfold fF;split
 ·exact .refl c
 ·unfold fY;split
  ·split
   ·exact⟨rfl,SU _,rfl⟩
   ·exact .refl c
  ·exact .refl c
theorem IW(c:Co):Kp c (jQ c):=by
 have h1:Kp c (aD c):=⟨rfl,SU _,rfl⟩;rw[eL];split
 ·exact (h1.trans (EM _)).trans (AL _)
 ·exact h1.trans (AL _)
theorem Ob(c:Co):Kp (s0 c) (OG c):=
 ((((((LI (s0 c)).trans (LJ _)).trans (tC _ _)).trans (IR _)).trans (IU _)).trans (He _)).trans (IW _)
theorem Oc{c:Co}(h:bV c=true):(SK c).cycle=wrap64 (c.cycle+1)∧c.retired.length≤(SK c).retired.length∧(SK c).mem.size=c.mem.size:=by
 have k:=Ob c;unfold SK;rw[if_pos h];exact⟨k.cycle,k.ret,k.mem⟩
theorem Hf{c:Co}(h:bV c=false):SK c=c:=by unfold SK;rw[if_neg (by rw[h];decide)]
open Go.RowKit Go.ChangeShapes Go.WideShapes Go.ChangeAt Go.Deep
inductive TyV(P:Program):TypeId→List AV→Prop
 |bool {t:TypeId} (h:P.underlying t=some .bool) (b:Bool):TyV P t [.v (.bool b)]
 |int {t:TypeId} {k:IntKind} (h:P.underlying t=some (.int k)) (n:Int) (hn:(Lit.int k n).wf=true):TyV P t [.v (.int k n)]
 |string {t:TypeId} (h:P.underlying t=some .string) (s:ByteArray) (hs:s.size≤maxLen):TyV P t [.v (.string s)]
 |slice {t e:TypeId} (h:P.underlying t=some (.slice e)) (rows:List (List AV)) (hl:rows.length≤maxLen) (hr:∀ row∈rows,TyV P e row) (hrs:∀ row∈rows,row.length=P.cellsOf e):TyV P t [.sl (P.cellsOf e) rows false]
 |struct {t:TypeId} {fs:Array Field} (h:P.underlying t=some (.struct fs)) (parts:Nat→List AV) (hp:∀ (j:Nat) f,fs[j]?=some f→TyV P f.type (parts j)):TyV P t ((List.range fs.size).flatMap parts)
 |array {t e:TypeId} {n:Nat} (h:P.underlying t=some (.array n e)) (parts:Nat→List AV) (hp:∀ j,j<n→TyV P e (parts j)):TyV P t ((List.range n).flatMap parts)
def Ei(P:Program):Nat→List Field→Option Nat
 |o,[]=>some o
 |o,f::fs=>match Nat.beq f.offset o with|true=>Ei P (o+P.cellsOf f.type) fs|false=>none
def Bg(P:Program):Nat→TypeId→Bool
 |0,_=>false
 |d+1,t=>match P.underlying t with
  |some .bool|some (.int _)|some .string=>true
  |some (.slice e)=>Nat.blt 0 (P.cellsOf e)&&Bg P d e
  |some (.struct fs)=>(match Ei P 0 fs.toList with|some n=>Nat.beq n (P.cellsOf t)|none=>false)&&fs.toList.all (λ f=>Bg P d f.type)
  |some (.array n e)=>Nat.beq (n * P.cellsOf e) (P.cellsOf t)&&Bg P d e
  |_=>false
section
variable {H:Type}{enc:TypeId×Value→H}{P:Program}{w:World}{base:Nat}{spare:Nat→Bool}{held:Bool}
structure Opened(P:Program)(w:World)(t:TypeId)(cs:List AV)(vals:List Value):Prop where
 rep:RepL (· <w.heap.size) w noB cs vals
 one:∀ u∈vals,u.oneCell'=true
 ty:TyV P t cs
theorem zW{S:Nat→Prop}{β:Bt}:∀ (n:Nat) (A:Nat→List AV) (V:Nat→List Value),(∀ i,i<n→RepL S w β (A i) (V i))→RepL S w β ((List.range n).flatMap A) ((List.range n).flatMap V)
 |0,_,_,_=>by simpa using RepL.nil S w β
 | n+1,A,V,h=>by
  rw[Vx,VX,VX];have ih:=zW n A V λ i hi=>h i (by omega);have h1:=h n (by omega);simp only[Up,List.flatMap_nil,Ul];refine⟨by simp[ih.1,h1.1],λ i a u ha hu=>?_⟩;rcases al_Nat_lt_or_ge i ((List.range n).flatMap A).length with k|k
  ·rw[TF k]at ha;rw[TF (by rw[←ih.1];exact k)]at hu;exact ih.2 i a u ha hu
  ·rw[TA k]at ha;rw[TA (by rw[←ih.1];exact k), ←ih.1]at hu;exact h1.2 _ a u ha hu
theorem Ej:∀ (fs:List Field) (o n:Nat) (vals:List Value),Ei P o fs=some n→o≤vals.length→n≤vals.length→o≤n∧
  (List.range fs.length).flatMap (λ j=>match (fs[j]? :Option Field)with|some f=>(vals.drop (Field.offset f)).take (P.cellsOf (Field.type f))|none=>[])=(vals.drop o).take (n - o)
 |[],o,n,vals,h,_,_=>by
  simp only[Ei,Option.some.injEq]at h;subst h;simp
 | f ::fs,o,n,vals,h,ho,hn=>by
  simp only[Ei]at h;split at h
  ·rename_i hb;have hb:=Ta hb;have hle:o+P.cellsOf f.type≤n:=by
    have:∀ (fs:List Field) (o n:Nat),Ei P o fs=some n→o≤n:=by
     intro fs
     induction fs with
     |nil=>intro o n h;simp only[Ei,Option.some.injEq]at h;omega
     |cons f fs ih=>
      intro o n h;simp only[Ei]at h;split at h
      ·have:=ih _ _ h;omega
      ·cases h
    exact this fs _ _ h
   obtain⟨h1,h2⟩:=Ej fs (o+P.cellsOf f.type) n vals h (by omega) hn;refine⟨by omega,?_⟩;rw[Tu,List.range_succ_eq_map,Up,List.flatMap_map];simp only[TG,Function.comp_def,TR];rw[h2,hb];have:n - o=P.cellsOf f.type+(n - (o+P.cellsOf f.type)):=by omega
   rw[this,List.take_add,Vj]
  ·cases h
theorem Ek(vals:List Value)(sz:Nat):∀ n,n * sz≤vals.length→(List.range n).flatMap (λ i=>(vals.drop (i * sz)).take sz)=vals.take (n * sz)
 |0,_=>by simp
 |n+1,h=>by
  rw[TE,Vh]at h;rw[Vx,VX,Ek vals sz n (by omega),TE,Vh,List.take_add];simp
theorem qA:∀ (D fuel:Nat) (t:TypeId) (vals:List Value) (x:DataW H×List MemPlace),DataW.trod enc P w base spare held fuel t vals=some x→Bg P D t=true→∃ cs,Opened P w t cs vals
 |0,_,_,_,_,_,h=>by simp[Bg]at h
 | D + 1,fuel,t,vals,x,h,hp=>by
  have single:∀ (a:AV) (u:Value),Rep (· <w.heap.size) w noB a u→u.oneCell'=true→TyV P t [a]→Opened P w t [a] [u]:=λ a u h1 h2 h3=>⟨.cons h1 (.nil _ _ _),λ v hv=>by simp at hv;subst hv;exact h2,h3⟩;unfold Bg at hp
  cases hu:P.underlying t with
  |none=>rw[hu]at hp;cases hp
  | some d=>
   rw[hu]at hp;cases d<;>simp only[TK]at hp<;>try (cases hp;done)
   case bool=>
    obtain⟨b,rfl,_⟩:=DataW.trod_bool hu h;exact⟨_,single _ _ (.v _) rfl (.bool hu b)⟩
   case int k=>
    obtain⟨n,rfl,_,hw⟩:=DataW.trod_int hu h;exact⟨_,single _ _ (.v _) rfl (.int hu n hw)⟩
   case string=>
    obtain⟨s,rfl,_,hs⟩:=DataW.trod_string hu h;exact⟨_,single _ _ (.v _) rfl (.string hu s hs)⟩
   case slice e=>
    simp only[Tc]at hp;obtain⟨hc0,hp⟩:=hp;have hc0:0<P.cellsOf e:=Tf hc0;rcases DataW.trod_slice hu h with ⟨rfl,_⟩|⟨a,len,cap,elems,rest,n,rfl,rfl,_,hb,hl,hm,he,hel,_⟩
    ·exact⟨_,single (.sl (P.cellsOf e) [] false) _ (.sl _ [] false none 0 0 0 (λ _ _=>.bool false) (by simp) (by simp) (λ h=>by cases h) (λ _ h=>by simp at h) (λ h=>by simp at h) (λ i row j a h=>by simp at h) (λ _ _=>rfl) (λ i row j a h=>by simp at h)) rfl (.slice hu [] (by simp) (λ _ h=>by simp at h) (λ _ h=>by simp at h))⟩
    ·have row:∀ i,∃ cs us,i<len→Opened P w e cs us∧us.length=P.cellsOf e∧∀ (j:Nat),j<P.cellsOf e→w.cell? ((a.add (i * P.cellsOf e)).add j)=us[j]? :=by
      intro i;by_cases hi:i<len
      ·have h1:=hel i hi;have h2:elems[i]?=some (elems[i]'(by omega)):=SS (by omega);rw[h2,Option.bind_eq_some_iff]at h1;obtain⟨us,g1,g2⟩:=h1;obtain⟨cs,hcs⟩:=qA D n e us _ g2 hp;unfold World.cells? at g1;split at g1
       ·have l1:us.length=P.cellsOf e:=by simpa using mapM_some_length g1
        exact⟨cs,us,λ _=>⟨hcs,l1,λ j hj=>mapM_some_get g1 j j (by simp[hj])⟩⟩
       ·cases g1
      ·exact⟨[],[],λ h=>absurd h hi⟩
     obtain⟨A,hA⟩:=Classical.axiomOfChoice row;obtain⟨V,hV⟩:=Classical.axiomOfChoice hA;have lenA:∀ i,i<len→(A i).length=P.cellsOf e:=λ i hi=>(hV i hi).1.rep.1.trans (hV i hi).2.1;have spot:∀ i,i<len→0<P.cellsOf e→a.spot=none∨i * P.cellsOf e≠0:=by
      intro i hi h0;by_cases hz:i * P.cellsOf e=0
      ·left;have h1:=(hV i hi).2.2 0 h0;have h2:(V i)[0]?=some ((V i)[0]'(by rw[(hV i hi).2.1];exact h0)):=SS _;rw[h2]at h1;simp only[Addr.add,hz,Vk,World.cell?]at h1;split at h1
       ·cases hs:a.spot<;>simp[hs]at h1⊢
       ·cases h1
      ·exact .inr hz
     have hspot:0<len→0<P.cellsOf e→a.spot=none:=λ h1 h2=>(spot 0 h1 h2).elim id λ h=>absurd (Nat.zero_mul _) h;have cell:∀ i,i<len→∀ (j:Nat),j<P.cellsOf e→w.cell? ⟨a.block,a.off+i * P.cellsOf e+j,none⟩=(V i)[j]? :=by
      intro i hi j hj;rw[←(hV i hi).2.2 j hj];have hsp:=hspot (by omega) (by omega);congr 1;obtain⟨b,o,sp⟩:=a;simp only at hsp;subst hsp;unfold Addr.add;by_cases h1:i * P.cellsOf e=0<;>by_cases h2:j=0<;>simp[h1,h2]
     have hmem:∀ row∈(List.range len).map A,∃ i,i<len∧A i=row:=λ row hr=>by simpa using hr
     have at':∀ (i:Nat) row,((List.range len).map A)[i]?=some row→i<len∧row=A i:=λ i row h=>by
      rw[Tq]at h;rcases al_Nat_lt_or_ge i len with hi|hi
      ·rw[UU hi]at h;exact⟨hi,by simpa using h.symm⟩
      ·rw[Tx (by simpa using hi)]at h;cases h
     have hval:∀ i,i<len→∀ (j:Nat) x,(A i)[j]?=some x→∃ u,(V i)[j]?=some u∧(if i<len∧j<P.cellsOf e then (V i).getD j (.bool false)else .bool false)=u∧j<P.cellsOf e:=by
      intro i hi j x hx;have hj:j<P.cellsOf e:=by rw[←lenA i hi];exact (WB.1 hx).1
      have hj':j<(V i).length:=by rw[(hV i hi).2.1];exact hj
      exact⟨(V i)[j],SS hj',by simp[hi,hj,hj'],hj⟩
     refine⟨_,single (.sl (P.cellsOf e) ((List.range len).map A) false) _ ?_ rfl (.slice hu _ (by simp;omega) (λ row hr=>?_) (λ row hr=>?_))⟩
     ·have:=Rep.sl (S:=(· <w.heap.size)) (w:=w) (β:=noB) (P.cellsOf e) ((List.range len).map A) false (if 0<len then some ⟨a.block,a.off,none⟩else some a) cap a.block a.off
       (λ i j=>if i<len∧j<P.cellsOf e then (V i).getD j (.bool false)else .bool false) (by simpa using hl) hm (λ h=>by cases h)
       (λ row hr=>by obtain⟨i,hi,rfl⟩:=hmem row hr;exact lenA i hi) ?_ ?_ ?_ ?_
      ·simp only[Td,UP]at this;by_cases h0:0<len
       ·rw[if_pos h0]at this;have hsp:=hspot h0 hc0;obtain⟨b,o,sp⟩:=a;simp only at hsp;subst hsp;exact this
       ·rw[if_neg h0]at this;exact this
      ·intro h0;simp only[Td,UP]at h0;rw[if_pos h0];refine⟨rfl,?_⟩;have h1:=cell 0 h0 0 hc0;have h2:(V 0)[0]?=some ((V 0)[0]'(by rw[(hV 0 h0).2.1];exact hc0)):=SS _;rw[h2]at h1;simp only[World.cell?]at h1;split at h1
       ·rename_i hb;exact cF hb
       ·cases h1
      ·intro i row j x h1 h2;obtain⟨hi,rfl⟩:=at' i row h1;obtain⟨u,g1,g2,g3⟩:=hval i hi j x h2;rw[cell i hi j g3,g2,g1]
      ·intro i j;split
       ·rename_i hc;have hj':j<(V i).length:=by rw[(hV i hc.1).2.1];exact hc.2
        rw[Tw,SS hj'];exact (hV i hc.1).1.one _ (Vn hj')
       ·rfl
      ·intro i row j x h1 h2;obtain⟨hi,rfl⟩:=at' i row h1;obtain⟨u,g1,g2,g3⟩:=hval i hi j x h2;rw[g2];exact (hV i hi).1.rep.2 j x u h2 g1
     ·obtain⟨i,hi,rfl⟩:=hmem row hr;exact (hV i hi).1.ty
     ·obtain⟨i,hi,rfl⟩:=hmem row hr;exact lenA i hi
   case struct fs=>
    simp only[Tc]at hp;obtain⟨hp1,hp2⟩:=hp;split at hp1
    ·rename_i n hn;have hn':=Ta hp1;obtain⟨xs,m,rfl,_,hlen,hxl,hfd⟩:=DataW.trod_struct hu h;have part:∀ j:Nat,∃ cs,∀ f:Field,fs[j]?=some f→Opened P w f.type cs ((vals.drop f.offset).take (P.cellsOf f.type)):=by
      intro j
      cases hf:fs[j]? with
      |none=>exact⟨[],λ f hf=>by cases hf⟩
      |some f=>
       have h1:=hfd j f hf;have hj:j<fs.size:=(Wz.1 hf).1;rw[SS (by omega)]at h1;obtain⟨cs,hcs⟩:=qA D m f.type _ _ h1 (Wl.1 hp2 f (WG.2 (VI hf)));exact⟨cs,λ f' hf'=>by injection hf' with hf';subst hf';exact hcs⟩
     obtain⟨A,hA⟩:=Classical.axiomOfChoice part;obtain⟨_,hr⟩:=Ej fs.toList 0 n vals hn (SV _) (by omega);have hall:(List.range fs.size).flatMap (λ j=>match (fs[j]? :Option Field)with|some f=>(vals.drop (Field.offset f)).take (P.cellsOf (Field.type f))|none=>[])=vals:=by
      have:(List.range fs.toList.length).flatMap (λ j=>match (fs.toList[j]? :Option Field)with|some f=>(vals.drop f.offset).take (P.cellsOf f.type)|none=>[])=vals:=by
       rw[hr];simp[hn', ←hlen]
      simpa using this
     have hrep:=zW (S:=(· <w.heap.size)) (w:=w) (β:=noB) fs.size A (λ j=>match (fs[j]? :Option Field)with|some f=>(vals.drop (Field.offset f)).take (P.cellsOf (Field.type f))|none=>[]) (λ j hj=>by
      have hf:fs[j]?=some fs[j]:=Th hj;simp only[hf];exact (hA j _ hf).rep)
     rw[hall]at hrep;refine⟨_,hrep,λ u hu'=>?_,.struct hu A λ j f hf=>(hA j f hf).ty⟩;rw[←hall]at hu';obtain⟨j,hj,hju⟩:=WI.1 hu';have hj':j<fs.size:=by simpa using hj
     have hf:fs[j]?=some fs[j]:=Th hj';simp only[hf]at hju;exact (hA j _ hf).one u hju
    ·cases hp1
   case array n e=>
    simp only[Tc]at hp;obtain⟨hp1,hp2⟩:=hp;have hn:=Ta hp1;obtain⟨xs,m,rfl,_,hlen,hxl,hfd⟩:=DataW.trod_array hu h;have part:∀ i,∃ cs,i<n→Opened P w e cs ((vals.drop (i * P.cellsOf e)).take (P.cellsOf e)):=by
     intro i;by_cases hi:i<n
     ·have h1:=hfd i hi;rw[SS (by omega)]at h1;obtain⟨cs,hcs⟩:=qA D m e _ _ h1 hp2;exact⟨cs,λ _=>hcs⟩
     ·exact⟨[],λ h=>absurd h hi⟩
    obtain⟨A,hA⟩:=Classical.axiomOfChoice part;have hall:=Ek vals (P.cellsOf e) n (by omega);rw[hn, ←hlen,TW]at hall;have hrep:=zW (S:=(· <w.heap.size)) (w:=w) (β:=noB) n A _ (λ j hj=>(hA j hj).rep);rw[hall]at hrep;refine⟨_,hrep,λ u hu'=>?_,.array hu A λ j hj=>(hA j hj).ty⟩;rw[←hall]at hu';obtain⟨j,hj,hju⟩:=WI.1 hu';exact (hA j (by simpa using hj)).one u hju
end
end Go.Proofs.YtlhofpglndhfaaaGreatDoor
