/- Joined texts. -/
import Derived.RangeFuncNested
import Derived.RangeFuncLeaves
import Derived.TacticsIn
import Derived.OrdersIn
import Derived.Test.YtlhofpglndhfaaaGreatDoorS301
import Derived.Test.YtlhofpglndhfaaaGreatDoorS328
import Derived.Test.YtlhofpglndhfaaaGreatDoorS330
set_option linter.unusedVariables false
set_option linter.unusedSimpArgs false
namespace Go.Proofs.YtlhofpglndhfaaaGreatDoor
set_option maxRecDepth 100000
set_option maxHeartbeats 4000000
open Go.RowKit
theorem yH(r:Nat→Nat)(s:Sp)(hr:∀ k,r k≤4294967295)(hs:s.ok):bY C0 107 [.agg (Iz r),.agg (spL s)] (.agg (Iz (gD r s))):=by
 refine bY.intro c0Ok Tryz.func107 rfl rfl (by kernel_rfl) rfl<|cSR<|rAl 0 rfl rfl<|rAl 1 rfl rfl<|rAl 2 rfl rfl<|rE 3<|aE<|cSR<|oR 2 rfl<|rV (vB (decide (s.rd≥1))) rfl<|oR 1 rfl<|gN rfl<|gS rfl id<|gBS (x:=vB (decide (s.rd≤31))) rfl id rfl ?_;refine cH rfl rfl rfl (λ h=>h)<|oR 1 rfl<|gN rfl<|gS rfl id<|gBS (x:=vB (s.halt==0)) rfl id rfl<|cH rfl rfl rfl (λ h=>h)<|rE 16 ?_;refine aU rfl (λ h1=>?_) (λ h1=>?_)
 ·have hA:(1≤s.rd∧s.rd≤31∧s.halt=0):=by have z:=h1;simp only[pM,aK,bC,pD,jV,aX,ne_eq]at z;omega
  refine cRg<|oR 4 rfl<|nW (.ptr 0 (0+s.rd.toNat * 1)) rfl rfl omT<|Vf (h':=upd _ 0 (some (.box (Iz (Ua r s.rd.toNat s.value))))) rfl rfl (XI (r:=r) (v:=s.value) rfl rfl rfl omT) (trivial)<|rE 22<|cSR<|oR 1 rfl<|rSt rfl<|rE 24<|cT ?_;rw[show gD r s=Ua r s.rd.toNat s.value from by unfold gD;rw[if_pos hA]];exact eW rfl rcT rfl rfl
 ·have hA: ¬ (1≤s.rd∧s.rd≤31∧s.halt=0):=by have z:=h1;simp only[pM,aK,bC,pD,jV,aX,ne_eq]at z;omega
  refine aZ<|cSR<|oR 1 rfl<|rSt rfl<|rE 18<|cT ?_;rw[show gD r s=r from by unfold gD;rw[if_neg hA]];exact eW rfl rcT rfl rfl
abbrev XG(o:Option Pt):AV:=.tup [.agg (ptL (o.getD ⟨0,mH⟩)),vB o.isSome]
theorem JX(s:Sp)(hs:s.ok):bY C0 106 [.agg (spL s)] (XG (gE s)):=by
 refine bY.intro c0Ok Tryz.func106 rfl rfl (by kernel_rfl) rfl<|cSR<|rAl 0 rfl rfl<|rAl 1 rfl rfl<|oR 1 rfl<|rE 3<|aE<|cSR<|oR 4 rfl<|gN rfl<|gS rfl id<|gBS (x:=vB (s.halt != 0)) rfl id rfl<|cH rfl rfl rfl (by simp)<|oR 1 rfl ?_;refine gN rfl<|gS rfl id<|gBS (x:=vB (s.size != 1)) rfl id rfl<|gS rfl id<|gN rfl<|gS rfl id<|gBS (x:=vB (s.size != 2)) rfl id rfl<|vK (x:=vB (cA (s.size != 1) (s.size != 2) false)) (g:= !(cA (!s.store) true (s.halt != 0))) rfl rfl rfl rfl (λ h=>h) rfl rfl (λ hg hc=>by first|(rw[hg,hc];rfl)|simp_all)<|gS rfl id<|gN rfl<|gS rfl id<|gBS (x:=vB (s.size != 4)) rfl id rfl<|vK (x:=vB (cA (cA (s.size != 1) (s.size != 2) false) (s.size != 4) false)) (g:= !(cA (!s.store) true (s.halt != 0))) rfl rfl rfl rfl (λ h=>h) rfl rfl (λ hg hc=>by first|(rw[hg,hc];rfl)|simp_all)<|cH rfl rfl rfl (by simp)<|rE 26 ?_;refine aU rfl (λ h1=>?_) (λ h1=>?_)
 ·have hA:s.store=false∨s.halt≠0∨(s.size≠1∧s.size≠2∧s.size≠4):=by have z:=h1;simp only[pM,cOr,aK,dG,bC,pD,pG,pR,dT,jV,gT,oV,ne_eq,and_imp]at z;rcases z with (z|z)|z<;>simp_all
  refine cSR<|rV (.agg [.v (.int .u32 0),.v (.string (⟨#[]⟩:ByteArray))]) rfl<|rSt rfl<|oR 1 rfl<|rE 29<|cT ?_;rw[show gE s=none from by unfold gE;rw[if_pos hA]];exact fT rfl rfl
 ·have hA: ¬ (s.store=false∨s.halt≠0∨(s.size≠1∧s.size≠2∧s.size≠4)):=by have z:=h1;intro q;rcases q with q|q|⟨q1,q2,q3⟩<;>simp_all[pM,cOr]
  have hz:s.size=1∨s.size=2∨s.size=4:=by omega
  obtain⟨n,hn⟩:∃ n:Nat,s.size=(n:Int):=⟨s.size.toNat,by omega⟩;have hn4:n≤4:=by omega
  refine aZ<|cSR<|oR 4 rfl<|rCl (x:=.tup [.v (.string (rP s.value n)),vI 0]) rfl (.inl rfl) ((by rw[hn];exact OZ s.value n (BA hs.value) hn4))<|oR 5 rfl<|rE 36<|cSR<|oR 3 rfl<|rV (.agg [vU s.addr,.v (.string (rP s.value n))]) rfl<|rSt rfl<|oR 1 rfl<|rE 42<|cT ?_;rw[show gE s=some ⟨s.addr,rP s.value n⟩from by unfold gE;rw[if_neg hA,hn];rfl];exact fT rfl rfl
theorem OE(k:Int):(if (0:Int)>k then 0 else k)=(((max k 0).toNat:Nat):Int):=by split<;>omega
theorem OG(c:Cf):(bB c).lat.length≤64:=by unfold bB;simp;omega
theorem Mu(c:Cf):(bB c).tape.length≤64:=by unfold bB;simp;omega
theorem GB{c:Cf}(h:∀ x∈c.tape,x≤4294967295):∀ x∈(bB c).tape,x≤4294967295:=λ x hx=>h x (cO hx)
theorem OH{c:Cf}{k:Int}{x:Int}(h: ¬ (bB c).lat.length=0)(hx:(bB c).lat[(max k 0).toNat % (bB c).lat.length]?=some x):x=jM c k:=by
 unfold jM;generalize (bB c).lat=l at h hx
 cases l with
 |nil=>exact absurd rfl h
 |cons y l=>simp only[bP,hx];rfl
theorem Mv{c:Cf}{k:Int}{x pc:Nat}(h: ¬ (bB c).tape.length=0)(hx:(bB c).tape[(max k 0).toNat % (bB c).tape.length]?=some x):x=wS c k pc:=by
 unfold wS;generalize (bB c).tape=l at h hx
 cases l with
 |nil=>exact absurd rfl h
 |cons y l=>simp only[bP,hx];rfl
theorem DM(c:Cf)(k:Int)(hok:c.ok)(hk:k≤9223372036854775807):bY C0 156 [.agg (cfL c false false),vI k] (vI (jM c k)):=by
 refine bY.intro c0Ok Tryz.func156 rfl rfl (by kernel_rfl) rfl<|cSR<|rAl 0 rfl rfl<|oR 1 rfl<|rE 2<|cSR<|oR 1 rfl<|rCi rfl (GP c false false hok)<|oR 2 rfl<|rE 6<|aE<|cSR<|oR 1 rfl ?_;refine rW (vN (((bB c).lat).length)) rfl (bQ fD ((bB c).lat))<|rW (vB ((((bB c).lat).length)==0)) rfl (okB (eqN _ _))<|rE 9 ?_;refine aU rfl (λ h1=>?_) (λ h1=>?_)
 ·have h1p:=kX h1;refine cSR<|oR 1 rfl<|rE 10<|cT ?_;have hz:(bB c).lat=[]:=bF h1p;exact fT rfl (Ln (by unfold jM;rw[hz]))
 ·have h1p:=kY h1;have hml:=bG (max k 0).toNat (eR h1p);refine aZ<|cSR<|oR 2 rfl<|rW (vN ((max k 0).toNat)) rfl (okI (OE k))<|oR 1 rfl<|rW (vN (((bB c).lat).length)) rfl (bQ fD ((bB c).lat)) ?_;have b1:((max k 0).toNat) % (((bB c).lat).length)≤9223372036854775807:=aL (nG _ _) omT;refine nW (vN (((max k 0).toNat) % (((bB c).lat).length))) rfl (Jn (VH _ _)) omT ?_;obtain⟨x1,hx1⟩:∃ x,((bB c).lat)[(((max k 0).toNat) % (((bB c).lat).length))]?=some x:=⟨_,aA omT⟩;refine rIx (fD x1) (.dp 1 0 (fD x1)) rfl rfl (gJ hx1) rfl<|oR 2 rfl<|rE 18<|cT ?_;exact fT rfl (Ln (OH h1p hx1))
theorem OI(c:Cf)(k:Int)(pc:Nat)(hok:c.ok)(hk:k≤9223372036854775807)(hpc:pc≤4294967295):bY C0 173 [.agg (cfL c false false),vI k,vU pc] (vU (wS c k pc)):=by
 refine bY.intro c0Ok Tryz.func173 rfl rfl (by kernel_rfl) rfl<|cSR<|rAl 0 rfl rfl<|oR 1 rfl<|rE 2<|cSR<|oR 1 rfl<|rCi rfl (GP c false false hok)<|oR 2 rfl<|rE 6<|aE<|cSR<|oR 1 rfl ?_;refine rW (vN (((bB c).tape).length)) rfl (bQ eJ ((bB c).tape))<|rW (vB ((((bB c).tape).length)==0)) rfl (okB (eqN _ _))<|rE 9 ?_;refine aU rfl (λ h1=>?_) (λ h1=>?_)
 ·have h1p:=kX h1;refine cSR<|oR 1 rfl ?_;have b1:(pc+4) % 4294967296≤4294967295:=aT (bG _ (by decide));refine rV (vU ((pc+4) % 4294967296)) rfl<|oR 1 rfl<|rE 12<|cT ?_;have hz:(bB c).tape=[]:=bF h1p;exact fT rfl (Fs (by unfold wS;rw[hz];rfl))
 ·have h1p:=kY h1;have hml:=bG (max k 0).toNat (eR h1p);refine aZ<|cSR<|oR 2 rfl<|rW (vN ((max k 0).toNat)) rfl (okI (OE k))<|oR 1 rfl<|rW (vN (((bB c).tape).length)) rfl (bQ eJ ((bB c).tape)) ?_;have b2:((max k 0).toNat) % (((bB c).tape).length)≤9223372036854775807:=aL (nG _ _) omT;refine nW (vN (((max k 0).toNat) % (((bB c).tape).length))) rfl (Jn (VH _ _)) omT ?_;obtain⟨x1,hx1⟩:∃ x,((bB c).tape)[(((max k 0).toNat) % (((bB c).tape).length))]?=some x:=⟨_,aA omT⟩;have hx1o:=(GB hok.tp) x1 (aB hx1);refine rIx (eJ x1) (.dp 1 0 (eJ x1)) rfl rfl (gJ hx1) rfl<|oR 2 rfl<|rE 18<|cT ?_;exact fT rfl (Fs (Mv h1p hx1))
theorem xL(n lo hi:Int):bY C0 83 [vI n,vI lo,vI hi] (vB (inI n lo hi)):=by
 refine bY.intro c0Ok Tryz.func83 rfl rfl (by kernel_rfl) rfl<|cSR<|oR 1 rfl<|rE 1<|cSR<|oR 2 rfl<|rV (vB (decide (n≥lo))) rfl<|oR 1 rfl<|gN rfl<|gN rfl<|gBS (x:=vB (decide (n≤hi))) rfl hsT rfl<|cH rfl rfl rfl (λ h=>h)<|oR 1 rfl<|rE 10 ?_;refine cT ?_;exact fT rfl (cY (by rw[bT];simp[pM,cOr,inI]))
structure Cf.okW(c:Cf):Prop where
 lat:c.lat.length≤9223372036854775807
 tape:c.tape.length≤9223372036854775807
 tp:∀ x∈c.tape,x≤4294967295
theorem CS{α:Type}{p:α→Bool}{l:List α}{k:Nat}{x:α}(hx:l[k]?=some x)(hp:p x=true)(h:(l.take k).all p=true):(l.take (k+1)).all p=true:=by
 rw[bX,hx,List.all_append,h];simpa using hp
theorem GC{α:Type}{p:α→Bool}{l:List α}{k:Nat}{x:α}(hx:l[k]?=some x)(hp:p x=false):l.all p=false:=by
 rw[List.all_eq_false];exact⟨x,aB hx,by simp[hp]⟩
theorem CT{α:Type}{p:α→Bool}{l:List α}{k:Nat}(hk:l.length≤k)(h:(l.take k).all p=true):l.all p=true:=by rwa [aN hk]at h
theorem Ri(c:Cf)(hok:c.okW):bY C0 46 [.agg (cfL c false false)] (vB (uQ c)):=by
 refine bY.intro c0Ok Tryz.func46 rfl rfl (by kernel_rfl) rfl<|cSR<|rAl 0 rfl rfl<|oR 1 rfl<|rE 2<|cSR<|oR 1 rfl<|rE 3<|aE<|cSR<|oR 2 rfl<|rW (vN c.lat.length) rfl (bQ fD c.lat)<|oR 1 rfl ?_;refine rE 7<|bI<|kZ (κ:=Nat) (λ k=>⟨cI [(1,.ptr 0 0),(3,.clo 83 [] []),(7,.sl 1 (c.lat.map fD) false),(8,vN c.lat.length),(9,vN k)],heapF [(0,.box [vI c.mode,vI c.width,vI c.rob,vI c.queue,vI c.stores,vI c.slots,vI c.sets,vI c.ways,.sl 1 (c.lat.map fD) false,vB c.tables,.sl 1 (c.tape.map eJ) false])],7⟩) (λ k=>k≤c.lat.length∧(c.lat.take k).all (λ n=>inI n 1 8)=true) (λ k=>c.lat.length - k) 0 (λ s=>s) (Weak.of_lists (λ s=>s) wT wH rfl) (⟨aF _,rfl⟩) ?_;intro k hk;have hkn:k≤c.lat.length:=hk.1;have hkB:k≤9223372036854775807:=by have:=hok.lat;omega
 have hlat:=hok.lat;refine cSR<|rW (vB (decide (k<c.lat.length))) rfl (okB (ltN _ _))<|rE 8<|aE ?_;refine aU rfl (λ h1=>?_) (λ h1=>?_)
 ·have h1p:=of_decide_eq_true h1;refine aZ<|aE<|bI<|cSR ?_;obtain⟨x,hx⟩:∃ x,c.lat[k]?=some x:=⟨_,aA omT⟩;refine rIx (fD x) (.dp 1 0 (fD x)) rfl rfl (gJ hx) rfl<|oR 2 rfl<|rE 11<|cSR<|oR 2 rfl<|rCi rfl (xL x 1 8)<|oR 1 rfl<|rE 15 ?_;refine aU rfl (λ h2=>?_) (λ h2=>?_)
  ·refine cSR<|oR 1 rfl<|rE 16<|cT ?_;have z:=h2;exact fT rfl (cY (by unfold uQ;rw[GC hx (by simpa using z)];simp))
  ·refine aZ<|cRg ?_;have b1:k+1≤9223372036854775807:=by omega
   refine rW (vN (k+1)) rfl (okI (bS (show k+1≤9223372036854775807 by omega) rfl))<|oR 1 rfl<|rE 17 ?_;refine⟨k+1,λ s=>s,Weak.of_lists _ wT wH rfl,⟨by omega,CS hx (by simpa using h2) hk.2⟩,by show c.lat.length - (k+1)<c.lat.length - k;omega⟩
 ·have h1p:=aD h1;refine eA<|cSR<|oR 3 rfl<|rCi rfl (xL c.mode 0 2)<|oR 1 rfl<|gN rfl<|gN rfl<|gS rfl id<|jI (args:=[vI c.width,vI 1,vI 2]) (x:=vB (inI c.width 1 2)) (g:=inI c.mode 0 2) rfl rfl rfl rfl hsT rfl rfl rfl (.inl rfl) rfl (λ hg=>xL c.width 1 2)<|cH rfl rfl rfl (λ h=>h)<|oR 1 rfl<|gN rfl<|gN rfl<|gS rfl id<|jI (args:=[vI c.rob,vI 2,vI 8]) (x:=vB (inI c.rob 2 8)) (g:=cA (inI c.mode 0 2) (inI c.width 1 2) false) rfl rfl rfl rfl hsT rfl rfl rfl (.inl rfl) rfl (λ hg=>xL c.rob 2 8) ?_;refine cH rfl rfl rfl (λ h=>h)<|oR 1 rfl<|gN rfl<|gN rfl<|gS rfl id<|jI (args:=[vI c.queue,vI 1,vI 4]) (x:=vB (inI c.queue 1 4)) (g:=cA (cA (inI c.mode 0 2) (inI c.width 1 2) false) (inI c.rob 2 8) false) rfl rfl rfl rfl hsT rfl rfl rfl (.inl rfl) rfl (λ hg=>xL c.queue 1 4)<|cH rfl rfl rfl (λ h=>h)<|oR 1 rfl<|gN rfl<|gN rfl<|gS rfl id<|jI (args:=[vI c.stores,vI 1,vI 4]) (x:=vB (inI c.stores 1 4)) (g:=cA (cA (cA (inI c.mode 0 2) (inI c.width 1 2) false) (inI c.rob 2 8) false) (inI c.queue 1 4) false) rfl rfl rfl rfl hsT rfl rfl rfl (.inl rfl) rfl (λ hg=>xL c.stores 1 4)<|cH rfl rfl rfl (λ h=>h)<|oR 1 rfl<|gN rfl<|gN rfl ?_;refine gS rfl id<|jI (args:=[vI c.slots,vI 2,vI 6]) (x:=vB (inI c.slots 2 6)) (g:=cA (cA (cA (cA (inI c.mode 0 2) (inI c.width 1 2) false) (inI c.rob 2 8) false) (inI c.queue 1 4) false) (inI c.stores 1 4) false) rfl rfl rfl rfl hsT rfl rfl rfl (.inl rfl) rfl (λ hg=>xL c.slots 2 6)<|cH rfl rfl rfl (λ h=>h)<|oR 1 rfl<|gN rfl<|gN rfl<|gS rfl id<|jI (args:=[vI c.sets,vI 1,vI 4]) (x:=vB (inI c.sets 1 4)) (g:=cA (cA (cA (cA (cA (inI c.mode 0 2) (inI c.width 1 2) false) (inI c.rob 2 8) false) (inI c.queue 1 4) false) (inI c.stores 1 4) false) (inI c.slots 2 6) false) rfl rfl rfl rfl hsT rfl rfl rfl (.inl rfl) rfl (λ hg=>xL c.sets 1 4)<|cH rfl rfl rfl (λ h=>h)<|oR 1 rfl<|gN rfl<|gS rfl id<|gBS (x:=vB (c.sets != 3)) rfl id rfl<|cH rfl rfl rfl (λ h=>h)<|oR 1 rfl<|gN rfl ?_;refine gN rfl<|gS rfl id<|jI (args:=[vI c.ways,vI 1,vI 2]) (x:=vB (inI c.ways 1 2)) (g:=cA (cA (cA (cA (cA (cA (cA (inI c.mode 0 2) (inI c.width 1 2) false) (inI c.rob 2 8) false) (inI c.queue 1 4) false) (inI c.stores 1 4) false) (inI c.slots 2 6) false) (inI c.sets 1 4) false) (c.sets != 3) false) rfl rfl rfl rfl hsT rfl rfl rfl (.inl rfl) rfl (λ hg=>xL c.ways 1 2)<|cH rfl rfl rfl (λ h=>h)<|oR 1 rfl<|gN rfl<|gS rfl id<|gBS (x:=vN c.lat.length) rfl id (bQ fD c.lat)<|gBS (x:=vB (decide (c.lat.length≤64))) rfl id (okB (leN _ _))<|cH rfl rfl rfl (λ h=>h)<|oR 1 rfl<|gN rfl<|gS rfl id<|gBS (x:=vN c.tape.length) rfl id (bQ eJ c.tape)<|gBS (x:=vB (decide (c.tape.length≤64))) rfl id (okB (leN _ _))<|cH rfl rfl rfl (λ h=>h) ?_;refine oR 1 rfl<|rE 72<|cT ?_;have hall:=CT (p:=λ n=>inI n 1 8) omT hk.2;exact fT rfl (cY (by unfold uQ;rw[hall,bT];simp[pM,tN]))
theorem VE(c:Ca)(f:Cf)(hok:c.ok):bY C0 48 [.agg (caL c false),.agg (cfL f false false)] (vB (zK c f)):=by
 refine bY.intro c0Ok Tryz.func48 rfl rfl (by kernel_rfl) rfl<|cSR<|rAl 0 rfl rfl<|rAl 1 rfl rfl<|oR 1 rfl<|rE 3<|cSR<|oR 1 rfl<|rCi rfl (Bo c false hok)<|oR 1 rfl<|gN rfl<|gS rfl id<|gBS (x:=vN c.sets.length) rfl id (bQ cB c.sets)<|gN rfl ?_;refine gS rfl id<|gBS (x:=vB (((c.sets.length:Nat):Int)==f.sets)) rfl hsT rfl<|cH rfl rfl rfl (λ h=>h)<|oR 1 rfl<|gN rfl<|gS rfl id<|gN rfl<|gS rfl id<|gBS (x:=vB (c.ways==f.ways)) rfl hsT rfl<|cH rfl rfl rfl (λ h=>h)<|oR 1 rfl<|rE 21<|cT ?_;exact fT rfl (cY (by rw[bT];simp[pM,cOr,zK]))
abbrev brA(t:Ca×List Req×Bool):AV:=.tup [.agg (caL t.1 false),.sl 4 (t.2.1.map rqL) false,vB t.2.2]
abbrev dnA(t:List Pt×Ca×Bool):AV:=.tup [.sl 2 (t.1.map ptL) false,.agg (caL t.2.1 false),vB t.2.2]
theorem Fp{c:Ca}(hok:c.ok)(line:Nat)(d:ByteArray)(b:Bool):(qF c line d b).2.1.line≤4294967295:=by
 by_cases hR:fY c=true
 ·by_cases hF:(bE c line).2.isSome=true
  ·rw[Bk hF];exact aF _
  ·rw[uB hR (by simpa using hF)];split
   ·show ((oT c (bE c line).1).getLast?.getD pC).line≤_
    cases hl:(oT c (bE c line).1).getLast? with
    |none=>exact aF _
    |some w=>
     have hw:=List.mem_of_getLast? hl;have hk:(bE c line).1<c.sets.length:=by rw[qN hR];exact Aa (jX hR).1 _
     rw[rG (aA hk)]at hw;exact ((hok.set _ (kV hk)).2 w hw).line
   ·exact aF _
 ·rw[Ll (by simpa using hR)];exact aF _
theorem Lg(c:Ca)(q:List Req)(m:ByteArray)(line:Nat)(left:Int)(hok:c.ok)(hq:q.length≤900000)(ho:∀ x∈q,x.ok)(hm:m.size≤1000000)(hline:line≤4294967295):bY C0 155 [.agg (caL c false),.sl 4 (q.map rqL) false,.v (.string m),vU line,vI left] (brA (gK c q m line left)):=by
 refine dc1 (bY.intro c1Ok Tryz.func155 rfl rfl (by kernel_rfl) rfl ?_);refine cSR<|rAl 0 rfl rfl<|rAl 1 rfl rfl<|oR 2 rfl<|rE 4<|aE<|cSR<|oR 1 rfl<|rCi rfl (Bo c false hok)<|oR 1 rfl<|rE 7 ?_;refine aU rfl (λ h1=>?_) (λ h1=>?_)
 ·refine cSR<|oR 2 rfl<|rSt rfl<|oR 2 rfl<|rE 12<|cT ?_;rw[show gK c q m line left=(c,q,false)from by unfold gK;rw[if_pos (by simpa using h1)]];exact fT rfl rfl
 ·refine aZ<|cSR<|oR 1 rfl<|rCi rfl (qD line hline)<|oR 1 rfl<|rE 10<|aE<|cSR<|oR 2 rfl<|rCi rfl (xM c (lineOf line) hok (dF hline))<|oR 7 rfl<|rE 20<|cSR ?_;refine oR 1 rfl<|rE 21 ?_;refine aU rfl (λ h2=>?_) (λ h2=>?_)
  ·refine cSR<|oR 2 rfl<|rCi rfl (GF c (lineOf line) hok (dF hline))<|oR 1 rfl<|rSt rfl<|oR 2 rfl<|rE 28<|cT ?_;rw[show gK c q m line left=(sK c (lineOf line),q,false)from by unfold gK;rw[if_neg (by simpa using h1),if_pos h2]];exact fT rfl rfl
  ·refine aZ<|cSR<|oR 4 rfl<|rCi rfl (OM q m false hm hq ho)<|oR 1 rfl<|rCi rfl (Xc (jO q m) (lineOf line) (by unfold jO;rw[iA];exact hm) (dF hline))<|rCi rfl (OP c (lineOf line) (EG (jO q m) (lineOf line)) false hok (dF hline))<|oR 4 rfl<|rAl 33 rfl rfl<|rSt rfl<|rSt rfl<|oR 1 rfl<|rE 37<|aE<|aE ?_;refine cRg<|oR 2 rfl<|gN rfl<|gS rfl id<|cH rfl rfl rfl (λ h=>h)<|oR 1 rfl<|gN rfl<|gS rfl id<|gBS (x:=vB (!(((qF c (lineOf line) (EG (jO q m) (lineOf line)) false).2.1.data).toList==(⟨#[]⟩:ByteArray).toList))) rfl id rfl<|cH rfl rfl rfl (λ h=>h)<|rE 47 ?_;refine aU rfl (λ h3=>?_) (λ h3=>?_)
   ·have hq4:((qF c (lineOf line) (EG (jO q m) (lineOf line)) false).2.2=true∧(qF c (lineOf line) (EG (jO q m) (lineOf line)) false).2.1.dirty=true∧(qF c (lineOf line) (EG (jO q m) (lineOf line)) false).2.1.data.size≠0):=by have z:=h3;rw[Al]at z;simpa [pM,tN]using z
    refine cSR<|oR 7 rfl<|rCi rfl (Lk q 4 (qF c (lineOf line) (EG (jO q m) (lineOf line)) false).2.1.line left (qF c (lineOf line) (EG (jO q m) (lineOf line)) false).2.1.data false hq ho (Fp hok _ _ _))<|rSt rfl<|oR 2 rfl<|rE 58<|cT ?_;rw[show gK c q m line left=((qF c (lineOf line) (EG (jO q m) (lineOf line)) false).1,wB q 4 (qF c (lineOf line) (EG (jO q m) (lineOf line)) false).2.1.line left (qF c (lineOf line) (EG (jO q m) (lineOf line)) false).2.1.data,true)from by unfold gK;rw[if_neg (by simpa using h1),if_neg (by rw[h2];decide)];exact if_pos hq4];exact fT rfl rfl
   ·have hq4: ¬ ((qF c (lineOf line) (EG (jO q m) (lineOf line)) false).2.2=true∧(qF c (lineOf line) (EG (jO q m) (lineOf line)) false).2.1.dirty=true∧(qF c (lineOf line) (EG (jO q m) (lineOf line)) false).2.1.data.size≠0):=by have z:=h3;rw[Al]at z;simpa [pM,tN]using z
    refine aZ<|cSR<|oR 2 rfl<|rSt rfl<|oR 2 rfl<|rE 52<|cT ?_;rw[show gK c q m line left=((qF c (lineOf line) (EG (jO q m) (lineOf line)) false).1,q,false)from by unfold gK;rw[if_neg (by simpa using h1),if_neg (by rw[h2];decide)];exact if_neg hq4];exact fT rfl rfl
theorem VF(l:List Pt)(c:Ca)(hok:c.ok)(hl:l.length≤1000000)(ho:∀ x∈l,x.ok):bY C0 120 [.sl 2 (l.map ptL) false,.agg (caL c false)] (dnA (pV l c)):=by
 refine dc1 (bY.intro c1Ok Tryz.func120 rfl rfl (by kernel_rfl) rfl ?_);refine cSR<|rAl 0 rfl rfl<|oR 1 rfl<|rAl 2 rfl rfl<|oR 1 rfl<|rE 4<|aE<|cSR<|oR 1 rfl<|rW (vN l.length) rfl (bQ ptL l)<|rW (vB (l.length==0)) rfl (okB (eqN _ _))<|rE 7 ?_;refine aU rfl (λ h1=>?_) (λ h1=>?_)
 ·have h1p:=kX h1;refine aE<|Ba rfl rfl<|oR 3 rfl<|rSt rfl<|oR 1 rfl<|rE 12<|And.intro (by kernel_rfl)<|cT ?_;have hz:l=[]:=bF h1p;subst hz;exact fT rfl rfl
 ·have h1p:=kY h1;refine aZ<|cSR<|oR 2 rfl ?_;obtain⟨p,hp⟩:∃ x,l[0]?=some x:=⟨_,aA omT⟩;have hpo:=ho p (aB hp);refine Fb (ptL p) (x:=.dp 2 0 (ptL p)) rfl rfl rfl (⟨by decide,gJ hp⟩) rfl<|oR 3 rfl<|Fb (ptL p) (x:=.dp 2 0 (ptL p)) rfl rfl rfl (⟨by decide,gJ hp⟩) rfl<|oR 2 rfl<|rCi rfl (Rn c p.addr p.data hok hpo.addr)<|oR 3 rfl<|rAl 20 rfl rfl<|rSt rfl<|oR 1 rfl<|rE 23<|aE<|cSR<|oR 2 rfl<|rE 25 ?_;refine aU rfl (λ h2=>?_) (λ h2=>?_)
  ·refine aE<|Ba rfl rfl<|oR 3 rfl<|rSt rfl<|oR 1 rfl<|rE 30<|And.intro (by kernel_rfl)<|cT ?_;rw[show pV l c=(l,c,false)from by unfold pV;cases l with|nil=>cases hp|cons y l=>injection hp with hp;subst hp;exact if_neg (by simpa using h2)];exact fT rfl rfl
  ·refine aZ<|aE<|Ba rfl rfl<|oR 1 rfl ?_;refine nW (.sl 2 ((l.drop 1).map ptL) false) rfl (vX (Iy ptL l 1)) slT ?_;refine oR 2 rfl<|rSt rfl<|oR 1 rfl<|rE 31<|And.intro (by kernel_rfl)<|cT ?_;rw[show pV l c=(l.drop 1,(wC c p.addr p.data).1,true)from by unfold pV;cases l with|nil=>cases hp|cons y l=>injection hp with hp;subst hp;exact if_pos (by simpa using h2)];exact fT rfl rfl
structure Gu.ok(g:Gu):Prop where
 slots:g.slots.length≤9223372036854775807
 rets:g.rets.length≤9223372036854775807
 hist:g.hist≤4294967295
 so:∀ x∈g.slots,x.ok
 ro:∀ x∈g.rets,x≤4294967295
theorem Um{g:Gu}:rH g=true↔g.slots.length=8∧g.hist<8∧g.rets.length≤4:=by
 unfold rH;simp only[aK,bC,tN]
theorem Wb{r:Bool}{k:Nat}(h:cA (!r) true (k != 5)=false):r=true∧k=5:=by
 cases r<;>simp[cA]at h⊢;exact h
theorem SM{r:Bool}{k:Nat}(h:cA (!r) true (k != 5)=true): ¬ (r=true∧k=5):=by
 cases r<;>simp[cA]at h⊢;exact h
theorem RH{l:List Nat}{x:Nat}(h:l[l.length - 1]?=some x):l.getLast?.getD 0=x:=by rw[kB,h];rfl
theorem Ha(g:Gu)(hok:g.ok):bY C0 49 [.agg (guL g)] (vB (rH g)):=by
 refine bY.intro c0Ok Tryz.func49 rfl rfl (by kernel_rfl) rfl<|cSR<|rAl 0 rfl rfl<|oR 1 rfl<|rE 2<|cSR<|oR 2 rfl<|rW (vN g.slots.length) rfl (bQ gsL g.slots)<|rW (vB (g.slots.length==8)) rfl (okB (eqN _ _))<|oR 1 rfl<|gN rfl<|gS rfl id<|gBS (x:=vB (decide (g.hist<8))) rfl id (okB (ltN _ _))<|cH rfl rfl rfl (λ h=>h) ?_;refine oR 1 rfl<|gN rfl<|gS rfl id<|gBS (x:=vN g.rets.length) rfl id (bQ eJ g.rets)<|gBS (x:=vB (decide (g.rets.length≤4))) rfl id (okB (leN _ _))<|cH rfl rfl rfl (λ h=>h)<|oR 1 rfl<|rE 18<|cT ?_;exact fT rfl (cY (by rw[bT];simp[pM,cOr,rH]))
theorem Pv(g:Gu)(pc:Nat)(hok:g.ok)(hpc:pc≤4294967295):bY C0 160 [.agg (guL g),vU pc] (vN (gL g pc)):=by
 refine bY.intro c0Ok Tryz.func160 rfl rfl (by kernel_rfl) rfl<|cSR<|rAl 0 rfl rfl<|oR 1 rfl<|rE 2<|cSR<|oR 1 rfl ?_;have b1:pc / 4≤1073741823:=kC hpc;refine nW (vU (pc / 4)) rfl (Jn (Hr b1 rfl)) (by decide)<|oR 2 rfl ?_;have b2:(pc / 4) ^^^ g.hist≤4294967295:=Nb b1 hok.hist rfl rfl;refine rW (vU ((pc / 4) ^^^ g.hist)) rfl (okI (UT b1 hok.hist rfl rfl)) ?_;have b3:((pc / 4) ^^^ g.hist) % 8≤7:=aT (bG _ (by decide));refine nW (vU (((pc / 4) ^^^ g.hist) % 8)) rfl rfl (by decide)<|rW (vN (((pc / 4) ^^^ g.hist) % 8)) rfl (okI (bS b3 rfl))<|oR 1 rfl<|rE 10<|cT ?_;exact fT rfl (Wz rfl)
theorem IJ(g:Gu)(pc:Nat):gL g pc≤7:=by unfold gL;omega
theorem Pw(i:SI)(hi:i.imm≤4294967295):bY C0 161 [siA i] (vB (OW i)):=by
 refine bY.intro c0Ok Tryz.func161 rfl rfl (by kernel_rfl) rfl<|cSR<|rAl 0 rfl rfl<|oR 1 rfl<|rE 2<|cSR<|oR 2 rfl<|rV (vB (i.op==3)) rfl<|oR 1 rfl<|gN rfl<|gS rfl id<|gBS (x:=vB (i.op==4)) rfl id rfl<|cH rfl rfl rfl (by simp)<|oR 1 rfl ?_;refine gN rfl<|gS rfl id<|gBS (x:=vB (i.rd==1)) rfl id rfl<|cH rfl rfl rfl (λ h=>h)<|oR 1 rfl<|rE 16<|cT ?_;exact fT rfl (cY (by rw[bT];simp[pM,cOr,OW]))
theorem Px(i:SI)(hi:i.imm≤4294967295):bY C0 162 [siA i] (vB (EH i)):=by
 refine bY.intro c0Ok Tryz.func162 rfl rfl (by kernel_rfl) rfl<|cSR<|rAl 0 rfl rfl<|oR 1 rfl<|rE 2<|cSR<|oR 2 rfl<|rV (vB (i.op==4)) rfl<|oR 1 rfl<|gN rfl<|gS rfl id<|gBS (x:=vB (i.rd==0)) rfl id rfl<|cH rfl rfl rfl (λ h=>h)<|oR 1 rfl ?_;refine gN rfl<|gS rfl id<|gBS (x:=vB (i.rs1==1)) rfl id rfl<|cH rfl rfl rfl (λ h=>h)<|oR 1 rfl<|rE 16<|cT ?_;exact fT rfl (cY (by rw[bT];simp[pM,cOr,EH]))
theorem Py(g:Gu)(pc:Nat)(i:SI)(hok:g.ok)(hpc:pc≤4294967295)(hi:i.imm≤4294967295):bY C0 172 [.agg (guL g),vU pc,siA i] (vU (vS g pc i)):=by
 refine dc1 (bY.intro c1Ok Tryz.func172 rfl rfl (by kernel_rfl) rfl ?_);refine cSR<|rAl 0 rfl rfl<|rAl 1 rfl rfl<|oR 1 rfl<|rE 3<|aE<|cSR<|oR 1 rfl<|rCi rfl (Ha g hok)<|oR 2 rfl<|gN rfl<|jI (args:=[.agg [vI i.op,vI i.rd,vI i.rs1,vI i.rs2,vU i.imm]]) (x:=vN (kindOf i.op)) (g:= !(!(rH g))) rfl rfl rfl rfl (λ h=>h) rfl rfl rfl (.inl rfl) rfl (λ hg=>qG i)<|gBS (x:=vB ((kindOf i.op) != 5)) rfl id (okB (neN _ _))<|cH rfl rfl rfl (by simp) ?_;refine rE 11 ?_;refine aU rfl (λ h1=>?_) (λ h1=>?_)
 ·have hN:=SM h1;refine cSR<|oR 1 rfl ?_;have b1:(pc+4) % 4294967296≤4294967295:=aT (bG _ (by decide));refine rV (vU ((pc+4) % 4294967296)) rfl<|oR 1 rfl<|rE 14<|cT ?_;exact fT rfl (Fs (by unfold vS;rw[if_neg hN];rfl))
 ·have hR:=Wb h1;have hR1:=Um.1 hR.1;have hR2:=hR1.1;have hS:=IJ g pc;have hR3:=hR1.2.2;refine aZ<|aE<|cSR<|oR 2 rfl<|rW (vN g.rets.length) rfl (bQ eJ g.rets)<|oR 1 rfl<|rE 15<|cSR<|oR 1 rfl<|rCi rfl (Px i hi)<|oR 1 rfl<|gN rfl<|gBS (x:=vB (decide (g.rets.length>0))) rfl id (okB (gtN _ _))<|cH rfl rfl rfl (λ h=>h) ?_;refine rE 21 ?_;refine aU rfl (λ h2=>?_) (λ h2=>?_)
  ·have hB:EH i=true∧0<g.rets.length:=by simpa [pM]using h2
   have hB2:=hB.2;refine cSR<|oR 3 rfl ?_;have b2:g.rets.length - 1≤9223372036854775807:=aL (iO _ _) hok.rets;refine rW (vN (g.rets.length - 1)) rfl (okI (Bm omT hok.rets rfl)) ?_;obtain⟨rx,hrx⟩:∃ x,g.rets[(g.rets.length - 1)]?=some x:=⟨_,aA omT⟩;have hrxo:=hok.ro rx (aB hrx);refine rIx (eJ rx) (.dp 1 0 (eJ rx)) rfl rfl (gJ hrx) rfl<|oR 2 rfl<|rE 28<|cT ?_;exact fT rfl (Fs (by unfold vS;rw[if_pos hR,if_pos hB,RH hrx]))
  ·have hB: ¬ (EH i=true∧0<g.rets.length):=by simpa [pM]using h2
   refine aZ<|cSR<|oR 4 rfl<|rCi rfl (Pv g pc hok hpc) ?_;obtain⟨sx,hsx⟩:∃ x,g.slots[(gL g pc)]?=some x:=⟨_,aA omT⟩;have hsxo:=hok.so sx (aB hsx);refine rIx (gsL sx) (.dp 2 0 (gsL sx)) rfl rfl (gJ hsx) rfl<|oR 1 rfl<|rAl 28 rfl rfl<|rSt rfl<|rE 30<|aE<|cSR<|oR 3 rfl<|rW (vB (sx.pc==pc)) rfl (okB (eqN _ _))<|oR 1 rfl<|gN rfl<|gB (x:=.agg [.v (.int .u32 0),.v (.int .u32 0)]) rfl rfl<|gBS (x:=vB (!((((sx.pc:Nat):Int)==0)&&((((sx.next:Nat):Int)==0)&&true)))) rfl hsT rfl<|cH rfl rfl rfl (λ h=>h)<|rE 39 ?_;refine aU rfl (λ h3=>?_) (λ h3=>?_)
   ·refine cSR<|oR 3 rfl<|rE 42<|cT ?_;exact fT rfl (Fs (by unfold vS;rw[if_pos hR,if_neg hB];have z:=h3;simp[pM]at z;simp[hsx,up4,z]<;>(intros;simp_all)))
   ·refine aZ<|cSR<|oR 1 rfl ?_;have b3:(pc+4) % 4294967296≤4294967295:=aT (bG _ (by decide));refine rV (vU ((pc+4) % 4294967296)) rfl<|oR 1 rfl<|rE 42<|cT ?_;exact fT rfl (Fs (by unfold vS;rw[if_pos hR,if_neg hB];have z:=h3;simp[pM]at z;simp[hsx,up4,z]<;>(intros;simp_all)))
theorem qA(g:Gu)(pc next:Nat)(i:SI)(hok:g.ok)(hpc:pc≤4294967295)(hnext:next≤4294967295)(hi:i.imm≤4294967295):bY C0 108 [.agg (guL g),vU pc,vU next,siA i] (.agg (guL (dY g pc next i))):=by
 refine dc1 (bY.intro c1Ok Tryz.func108 rfl rfl (by kernel_rfl) rfl ?_);refine cSR<|rAl 0 rfl rfl<|rAl 1 rfl rfl<|rAl 2 rfl rfl<|rE 3<|aE<|cSR<|oR 1 rfl<|rCi rfl (Ha g hok)<|oR 2 rfl<|gN rfl<|jI (args:=[.agg [vI i.op,vI i.rd,vI i.rs1,vI i.rs2,vU i.imm]]) (x:=vN (kindOf i.op)) (g:= !(!(rH g))) rfl rfl rfl rfl (λ h=>h) rfl rfl rfl (.inl rfl) rfl (λ hg=>qG i)<|gBS (x:=vB ((kindOf i.op) != 5)) rfl id (okB (neN _ _))<|cH rfl rfl rfl (by simp) ?_;refine rE 11 ?_;refine aU rfl (λ h1=>?_) (λ h1=>?_)
 ·have hN:=SM h1;refine cSR<|oR 1 rfl<|rSt rfl<|rE 13<|cT<|eW rfl tvT rfl ?_;show AV.agg [.sl 2 (g.slots.map gsL) false,vU g.hist,.sl 1 (g.rets.map eJ) false]=_;refine congrArg (λ z=>AV.agg (guL z)) (?_:g=dY g pc next i);unfold dY;rw[if_neg hN]
 ·have hR:=Wb h1;have hR1:=Um.1 hR.1;have hR2:=hR1.1;have hS:=IJ g pc;have hR3:=hR1.2.2;refine aZ<|cSR<|rFx (x:=.osl 11 0 8 false) (h':=upd _ 11 (some (.arr ((List.replicate 8 (⟨0,0⟩:Gs)).map gsL) 2))) rfl rfl (OT (gI (f:=gsL) (a:=(⟨0,0⟩:Gs))).symm) (⟨by decide,by decide,by show ((8:Nat):Int)≤1000000;omega⟩)<|oR 1 rfl<|rE 13<|cSR<|oR 3 rfl<|rFx (x:=vI ((min ((g.slots.map gsL).length) (8):Nat):Int)) (h':=upd _ 11 (some (.arr (g.slots.map gsL) 2))) rfl rfl (GO (CU gsL ((List.replicate 8 (⟨0,0⟩:Gs)).map gsL) g.slots omT omT)) (⟨by exact omT,trivial⟩)<|rE 17<|cSR<|oR 3 rfl<|rCi rfl (Pv g pc hok hpc)<|oR 2 rfl ?_;refine rV (.agg [vU pc,vU next]) rfl<|nW (.ptr2 11 (0+(gL g pc)) 0) rfl rfl ixT ?_;obtain⟨sx,hsx⟩:∃ x,g.slots[(gL g pc)]?=some x:=⟨_,aA omT⟩;have hsxo:=hok.so sx (aB hsx);have hx1:(g.slots.set (gL g pc) (⟨pc,next⟩:Gs))[(gL g pc)]?=some (⟨pc,next⟩:Gs):=bD omT;refine oE (gsL sx) (h':=upd _ 11 (some (.arr ((g.slots.set (gL g pc) (⟨pc,next⟩:Gs)).map gsL) 2))) rfl rfl rfl (⟨aI _,Hk (gJ hsx)⟩) (uO (f:=gsL) (l:=g.slots) (k:=(gL g pc)) (x:=(⟨pc,next⟩:Gs)))<|rE 26<|cSR<|oR 2 rfl ?_;have b1:(2 * g.hist) % 4294967296≤4294967295:=aT (bG _ (by decide));refine rV (vU ((2 * g.hist) % 4294967296)) rfl<|oR 1 rfl<|rE 30<|aE<|cSR<|oR 2 rfl ?_;have b2:(pc+4) % 4294967296≤4294967295:=aT (bG _ (by decide));refine rV (vU ((pc+4) % 4294967296)) rfl<|rW (vB (next != ((pc+4) % 4294967296))) rfl (okB (neN _ _))<|rE 34 ?_;refine aU rfl (λ h2=>?_) (λ h2=>?_)
  ·have h2p:=vA h2;refine cRg<|oR 1 rfl ?_;have b3:(((2 * g.hist) % 4294967296)+1) % 4294967296≤4294967295:=aT (bG _ (by decide));refine rV (vU ((((2 * g.hist) % 4294967296)+1) % 4294967296)) rfl<|oR 1 rfl<|rE 37<|cSR<|rFx (x:=.osl 37 0 0 false) (h':=upd _ 37 (some (.arr (([]:List Nat).map eJ) 1))) rfl rfl (rfl) (⟨by decide,by decide,by show ((5:Nat):Int)≤1000000;omega⟩)<|oR 1 rfl<|rE 39<|cSR<|oR 3 rfl<|rFx (x:=.osl 42 0 g.rets.length false) (h':=upd (upd _ 37 none) 42 (some (.arr (g.rets.map eJ) 1))) rfl rfl (gU eJ ([]:List Nat) g.rets omT omT) (⟨by exact omT,by exact omT,trivial⟩)<|oR 1 rfl<|rE 44<|aE<|aE ?_;refine cRg<|oR 1 rfl<|rV (vN g.rets.length) rfl<|oR 1 rfl<|rE 47<|bI<|cSR<|oR 1 rfl<|rCi rfl (Pw i hi)<|oR 1 rfl<|rE 50 ?_;refine aU rfl (λ h3=>?_) (λ h3=>?_)
   ·refine cSR<|oR 2 rfl ?_;have b4:(pc+4) % 4294967296≤4294967295:=aT (bG _ (by decide));refine rV (vU ((pc+4) % 4294967296)) rfl<|rV (.sl 1 ([[vU ((pc+4) % 4294967296)]]) true) rfl<|rFx (x:=.osl 54 0 (g.rets.length+1) false) (h':=upd (upd _ 42 none) 54 (some (.arr ((g.rets++([(pc+4) % 4294967296])).map eJ) 1))) rfl rfl (gU eJ g.rets ([(pc+4) % 4294967296]) omT omT) (⟨by exact omT,by exact omT,trivial⟩)<|oR 1 rfl<|rE 56<|cSR<|oR 1 rfl<|rV (vN (g.rets.length+1)) rfl<|rW (vB (decide ((g.rets.length+1)>4))) rfl (okB (gtN _ _))<|rE 59 ?_;refine aU rfl (λ h4=>?_) (λ h4=>?_)
    ·have h4p:=of_decide_eq_true h4;refine cRg<|oR 1 rfl ?_;refine nW (.osl 54 1 (g.rets.length+1 - 1) false) rfl (JY (by first|rfl|omega) (by simp only[Option.getD];omega)) slT ?_;refine oR 1 rfl<|rE 62<|cSR<|oR 2 rfl ?_;have b5:((((2 * g.hist) % 4294967296)+1) % 4294967296) % 8≤7:=aT (bG _ (by decide));refine nW (vU (((((2 * g.hist) % 4294967296)+1) % 4294967296) % 8)) rfl rfl (by decide)<|oR 1 rfl<|rV (.agg [.osl 11 0 8 false,vU (((((2 * g.hist) % 4294967296)+1) % 4294967296) % 8),.osl 54 1 (g.rets.length+1 - 1) false]) rfl<|rSt rfl<|rE 68<|cT<|eW rfl ⟨(by show 0+8≤((g.slots.set (gL g pc) (⟨pc,next⟩:Gs)).map gsL).length;exact omT),trivial,(by show 1+(g.rets.length+1 - 1)≤((g.rets++([(pc+4) % 4294967296])).map eJ).length;exact omT),trivial⟩ rfl ?_;show AV.agg [.sl 2 (List.take 8 (List.drop 0 ((g.slots.set (gL g pc) (⟨pc,next⟩:Gs)).map gsL))) false,vU (((((2 * g.hist) % 4294967296)+1) % 4294967296) % 8),.sl 1 (List.take (g.rets.length+1 - 1) (List.drop 1 ((g.rets++([(pc+4) % 4294967296])).map eJ))) false]=_;rw[kA gsL (g.slots.set (gL g pc) (⟨pc,next⟩:Gs)) omT,Bl (M:=(g.rets++([(pc+4) % 4294967296])).drop 1) eJ (g.rets++([(pc+4) % 4294967296])) (aN omT)];refine congrArg (λ z=>AV.agg (guL z)) (?_:(⟨g.slots.set (gL g pc) (⟨pc,next⟩:Gs),((((2 * g.hist) % 4294967296)+1) % 4294967296) % 8,(g.rets++([(pc+4) % 4294967296])).drop 1⟩:Gu)=dY g pc next i);unfold dY;rw[if_pos hR];have z:=h2;have z0:=h3;have z1:=h4;have hu:up4 pc=(pc+4) % 4294967296:=rfl;rw[hu]
     try simp[pM]at z z0 z1
     simp[z,z0,z1,dM]<;>(intros;first|omega|simp_all)
    ·have h4p:=aD h4;refine aZ<|cSR<|oR 2 rfl ?_;have b6:((((2 * g.hist) % 4294967296)+1) % 4294967296) % 8≤7:=aT (bG _ (by decide));refine nW (vU (((((2 * g.hist) % 4294967296)+1) % 4294967296) % 8)) rfl rfl (by decide)<|oR 1 rfl<|rV (.agg [.osl 11 0 8 false,vU (((((2 * g.hist) % 4294967296)+1) % 4294967296) % 8),.osl 54 0 (g.rets.length+1) false]) rfl<|rSt rfl<|rE 65<|cT<|eW rfl ⟨(by show 0+8≤((g.slots.set (gL g pc) (⟨pc,next⟩:Gs)).map gsL).length;exact omT),trivial,(by show 0+(g.rets.length+1)≤((g.rets++([(pc+4) % 4294967296])).map eJ).length;exact omT),trivial⟩ rfl ?_;show AV.agg [.sl 2 (List.take 8 (List.drop 0 ((g.slots.set (gL g pc) (⟨pc,next⟩:Gs)).map gsL))) false,vU (((((2 * g.hist) % 4294967296)+1) % 4294967296) % 8),.sl 1 (List.take (g.rets.length+1) (List.drop 0 ((g.rets++([(pc+4) % 4294967296])).map eJ))) false]=_;rw[kA gsL (g.slots.set (gL g pc) (⟨pc,next⟩:Gs)) omT,kA eJ (g.rets++([(pc+4) % 4294967296])) omT];refine congrArg (λ z=>AV.agg (guL z)) (?_:(⟨g.slots.set (gL g pc) (⟨pc,next⟩:Gs),((((2 * g.hist) % 4294967296)+1) % 4294967296) % 8,g.rets++([(pc+4) % 4294967296])⟩:Gu)=dY g pc next i);unfold dY;rw[if_pos hR];have z:=h2;have z0:=h3;have z1:=h4;have hu:up4 pc=(pc+4) % 4294967296:=rfl;rw[hu]
     try simp[pM]at z z0 z1
     simp[z,z0,z1,dM]<;>(intros;first|omega|simp_all)
   ·refine cSR<|oR 1 rfl<|rCi rfl (Px i hi)<|oR 1 rfl<|gN rfl<|gBS (x:=vB (decide (g.rets.length>0))) rfl id (okB (gtN _ _))<|cH rfl rfl rfl (λ h=>h)<|oR 1 rfl<|rE 57 ?_;refine aU rfl (λ h5=>?_) (λ h5=>?_)
    ·have hB:EH i=true∧0<g.rets.length:=by simpa [pM]using h5
     have hB2:=hB.2;refine cRg<|oR 2 rfl ?_;have b7:g.rets.length - 1≤9223372036854775807:=aL (iO _ _) hok.rets;refine rW (vN (g.rets.length - 1)) rfl (okI (Bm omT hok.rets rfl)) ?_;refine nW (.osl 42 0 (g.rets.length - 1) false) rfl (JY (by first|rfl|omega) (by simp only[Option.getD];omega)) slT ?_;refine oR 1 rfl<|rE 62<|cSR<|oR 2 rfl ?_;have b8:((((2 * g.hist) % 4294967296)+1) % 4294967296) % 8≤7:=aT (bG _ (by decide));refine nW (vU (((((2 * g.hist) % 4294967296)+1) % 4294967296) % 8)) rfl rfl (by decide)<|oR 1 rfl<|rV (.agg [.osl 11 0 8 false,vU (((((2 * g.hist) % 4294967296)+1) % 4294967296) % 8),.osl 42 0 (g.rets.length - 1) false]) rfl<|rSt rfl<|rE 68<|cT<|eW rfl ⟨(by show 0+8≤((g.slots.set (gL g pc) (⟨pc,next⟩:Gs)).map gsL).length;exact omT),trivial,(by show 0+(g.rets.length - 1)≤(g.rets.map eJ).length;exact omT),trivial⟩ rfl ?_;show AV.agg [.sl 2 (List.take 8 (List.drop 0 ((g.slots.set (gL g pc) (⟨pc,next⟩:Gs)).map gsL))) false,vU (((((2 * g.hist) % 4294967296)+1) % 4294967296) % 8),.sl 1 (List.take (g.rets.length - 1) (List.drop 0 (g.rets.map eJ))) false]=_;rw[kA gsL (g.slots.set (gL g pc) (⟨pc,next⟩:Gs)) omT,Bl (M:=g.rets.take (g.rets.length - 1)) eJ g.rets (by rw[cQ])];refine congrArg (λ z=>AV.agg (guL z)) (?_:(⟨g.slots.set (gL g pc) (⟨pc,next⟩:Gs),((((2 * g.hist) % 4294967296)+1) % 4294967296) % 8,g.rets.take (g.rets.length - 1)⟩:Gu)=dY g pc next i);unfold dY;rw[if_pos hR];have z:=h2;have z0:=h3;have z1:=h5;have hu:up4 pc=(pc+4) % 4294967296:=rfl;rw[hu]
     try simp[pM]at z z0 z1
     simp[z,z0,z1,dM]<;>(intros;first|omega|simp_all)
    ·have hB: ¬ (EH i=true∧0<g.rets.length):=by simpa [pM]using h5
     refine aZ<|cSR<|oR 2 rfl ?_;have b9:((((2 * g.hist) % 4294967296)+1) % 4294967296) % 8≤7:=aT (bG _ (by decide));refine nW (vU (((((2 * g.hist) % 4294967296)+1) % 4294967296) % 8)) rfl rfl (by decide)<|oR 1 rfl<|rV (.agg [.osl 11 0 8 false,vU (((((2 * g.hist) % 4294967296)+1) % 4294967296) % 8),.osl 42 0 g.rets.length false]) rfl<|rSt rfl<|rE 63<|cT<|eW rfl ⟨(by show 0+8≤((g.slots.set (gL g pc) (⟨pc,next⟩:Gs)).map gsL).length;exact omT),trivial,(by show 0+g.rets.length≤(g.rets.map eJ).length;exact omT),trivial⟩ rfl ?_;show AV.agg [.sl 2 (List.take 8 (List.drop 0 ((g.slots.set (gL g pc) (⟨pc,next⟩:Gs)).map gsL))) false,vU (((((2 * g.hist) % 4294967296)+1) % 4294967296) % 8),.sl 1 (List.take g.rets.length (List.drop 0 (g.rets.map eJ))) false]=_;rw[kA gsL (g.slots.set (gL g pc) (⟨pc,next⟩:Gs)) omT,kA eJ g.rets omT];refine congrArg (λ z=>AV.agg (guL z)) (?_:(⟨g.slots.set (gL g pc) (⟨pc,next⟩:Gs),((((2 * g.hist) % 4294967296)+1) % 4294967296) % 8,g.rets⟩:Gu)=dY g pc next i);unfold dY;rw[if_pos hR];have z:=h2;have z0:=h3;have z1:=h5;have hu:up4 pc=(pc+4) % 4294967296:=rfl;rw[hu]
     try simp[pM]at z z0 z1
     simp[z,z0,z1,dM]<;>(intros;first|omega|simp_all)
  ·have h2p:=vC h2;refine aZ<|cSR<|rFx (x:=.osl 34 0 0 false) (h':=upd _ 34 (some (.arr (([]:List Nat).map eJ) 1))) rfl rfl (rfl) (⟨by decide,by decide,by show ((5:Nat):Int)≤1000000;omega⟩)<|oR 1 rfl<|rE 36<|cSR<|oR 3 rfl<|rFx (x:=.osl 39 0 g.rets.length false) (h':=upd (upd _ 34 none) 39 (some (.arr (g.rets.map eJ) 1))) rfl rfl (gU eJ ([]:List Nat) g.rets omT omT) (⟨by exact omT,by exact omT,trivial⟩)<|oR 1 rfl<|rE 41<|aE<|cSR<|oR 1 rfl ?_;refine rV (vN g.rets.length) rfl<|oR 1 rfl<|rE 44<|bI<|cSR<|oR 1 rfl<|rCi rfl (Pw i hi)<|oR 1 rfl<|rE 47 ?_;refine aU rfl (λ h6=>?_) (λ h6=>?_)
   ·refine cSR<|oR 2 rfl ?_;have b10:(pc+4) % 4294967296≤4294967295:=aT (bG _ (by decide));refine rV (vU ((pc+4) % 4294967296)) rfl<|rV (.sl 1 ([[vU ((pc+4) % 4294967296)]]) true) rfl<|rFx (x:=.osl 51 0 (g.rets.length+1) false) (h':=upd (upd _ 39 none) 51 (some (.arr ((g.rets++([(pc+4) % 4294967296])).map eJ) 1))) rfl rfl (gU eJ g.rets ([(pc+4) % 4294967296]) omT omT) (⟨by exact omT,by exact omT,trivial⟩)<|oR 1 rfl<|rE 53<|cSR<|oR 1 rfl<|rV (vN (g.rets.length+1)) rfl<|rW (vB (decide ((g.rets.length+1)>4))) rfl (okB (gtN _ _))<|rE 56 ?_;refine aU rfl (λ h7=>?_) (λ h7=>?_)
    ·have h7p:=of_decide_eq_true h7;refine cRg<|oR 1 rfl ?_;refine nW (.osl 51 1 (g.rets.length+1 - 1) false) rfl (JY (by first|rfl|omega) (by simp only[Option.getD];omega)) slT ?_;refine oR 1 rfl<|rE 59<|cSR<|oR 2 rfl ?_;have b11:((2 * g.hist) % 4294967296) % 8≤7:=aT (bG _ (by decide));refine nW (vU (((2 * g.hist) % 4294967296) % 8)) rfl rfl (by decide)<|oR 1 rfl<|rV (.agg [.osl 11 0 8 false,vU (((2 * g.hist) % 4294967296) % 8),.osl 51 1 (g.rets.length+1 - 1) false]) rfl<|rSt rfl<|rE 65<|cT<|eW rfl ⟨(by show 0+8≤((g.slots.set (gL g pc) (⟨pc,next⟩:Gs)).map gsL).length;exact omT),trivial,(by show 1+(g.rets.length+1 - 1)≤((g.rets++([(pc+4) % 4294967296])).map eJ).length;exact omT),trivial⟩ rfl ?_;show AV.agg [.sl 2 (List.take 8 (List.drop 0 ((g.slots.set (gL g pc) (⟨pc,next⟩:Gs)).map gsL))) false,vU (((2 * g.hist) % 4294967296) % 8),.sl 1 (List.take (g.rets.length+1 - 1) (List.drop 1 ((g.rets++([(pc+4) % 4294967296])).map eJ))) false]=_;rw[kA gsL (g.slots.set (gL g pc) (⟨pc,next⟩:Gs)) omT,Bl (M:=(g.rets++([(pc+4) % 4294967296])).drop 1) eJ (g.rets++([(pc+4) % 4294967296])) (aN omT)];refine congrArg (λ z=>AV.agg (guL z)) (?_:(⟨g.slots.set (gL g pc) (⟨pc,next⟩:Gs),((2 * g.hist) % 4294967296) % 8,(g.rets++([(pc+4) % 4294967296])).drop 1⟩:Gu)=dY g pc next i);unfold dY;rw[if_pos hR];have z:=h2;have z0:=h6;have z1:=h7;have hu:up4 pc=(pc+4) % 4294967296:=rfl;rw[hu]
     try simp[pM]at z z0 z1
     simp[z,z0,z1,dM]<;>(intros;first|omega|simp_all)
    ·have h7p:=aD h7;refine aZ<|cSR<|oR 2 rfl ?_;have b12:((2 * g.hist) % 4294967296) % 8≤7:=aT (bG _ (by decide));refine nW (vU (((2 * g.hist) % 4294967296) % 8)) rfl rfl (by decide)<|oR 1 rfl<|rV (.agg [.osl 11 0 8 false,vU (((2 * g.hist) % 4294967296) % 8),.osl 51 0 (g.rets.length+1) false]) rfl<|rSt rfl<|rE 62<|cT<|eW rfl ⟨(by show 0+8≤((g.slots.set (gL g pc) (⟨pc,next⟩:Gs)).map gsL).length;exact omT),trivial,(by show 0+(g.rets.length+1)≤((g.rets++([(pc+4) % 4294967296])).map eJ).length;exact omT),trivial⟩ rfl ?_;show AV.agg [.sl 2 (List.take 8 (List.drop 0 ((g.slots.set (gL g pc) (⟨pc,next⟩:Gs)).map gsL))) false,vU (((2 * g.hist) % 4294967296) % 8),.sl 1 (List.take (g.rets.length+1) (List.drop 0 ((g.rets++([(pc+4) % 4294967296])).map eJ))) false]=_;rw[kA gsL (g.slots.set (gL g pc) (⟨pc,next⟩:Gs)) omT,kA eJ (g.rets++([(pc+4) % 4294967296])) omT];refine congrArg (λ z=>AV.agg (guL z)) (?_:(⟨g.slots.set (gL g pc) (⟨pc,next⟩:Gs),((2 * g.hist) % 4294967296) % 8,g.rets++([(pc+4) % 4294967296])⟩:Gu)=dY g pc next i);unfold dY;rw[if_pos hR];have z:=h2;have z0:=h6;have z1:=h7;have hu:up4 pc=(pc+4) % 4294967296:=rfl;rw[hu]
     try simp[pM]at z z0 z1
     simp[z,z0,z1,dM]<;>(intros;first|omega|simp_all)
   ·refine cSR<|oR 1 rfl<|rCi rfl (Px i hi)<|oR 1 rfl<|gN rfl<|gBS (x:=vB (decide (g.rets.length>0))) rfl id (okB (gtN _ _))<|cH rfl rfl rfl (λ h=>h)<|oR 1 rfl<|rE 54 ?_;refine aU rfl (λ h8=>?_) (λ h8=>?_)
    ·have hB:EH i=true∧0<g.rets.length:=by simpa [pM]using h8
     have hB2:=hB.2;refine cRg<|oR 2 rfl ?_;have b13:g.rets.length - 1≤9223372036854775807:=aL (iO _ _) hok.rets;refine rW (vN (g.rets.length - 1)) rfl (okI (Bm omT hok.rets rfl)) ?_;refine nW (.osl 39 0 (g.rets.length - 1) false) rfl (JY (by first|rfl|omega) (by simp only[Option.getD];omega)) slT ?_;refine oR 1 rfl<|rE 59<|cSR<|oR 2 rfl ?_;have b14:((2 * g.hist) % 4294967296) % 8≤7:=aT (bG _ (by decide));refine nW (vU (((2 * g.hist) % 4294967296) % 8)) rfl rfl (by decide)<|oR 1 rfl<|rV (.agg [.osl 11 0 8 false,vU (((2 * g.hist) % 4294967296) % 8),.osl 39 0 (g.rets.length - 1) false]) rfl<|rSt rfl<|rE 65<|cT<|eW rfl ⟨(by show 0+8≤((g.slots.set (gL g pc) (⟨pc,next⟩:Gs)).map gsL).length;exact omT),trivial,(by show 0+(g.rets.length - 1)≤(g.rets.map eJ).length;exact omT),trivial⟩ rfl ?_;show AV.agg [.sl 2 (List.take 8 (List.drop 0 ((g.slots.set (gL g pc) (⟨pc,next⟩:Gs)).map gsL))) false,vU (((2 * g.hist) % 4294967296) % 8),.sl 1 (List.take (g.rets.length - 1) (List.drop 0 (g.rets.map eJ))) false]=_;rw[kA gsL (g.slots.set (gL g pc) (⟨pc,next⟩:Gs)) omT,Bl (M:=g.rets.take (g.rets.length - 1)) eJ g.rets (by rw[cQ])];refine congrArg (λ z=>AV.agg (guL z)) (?_:(⟨g.slots.set (gL g pc) (⟨pc,next⟩:Gs),((2 * g.hist) % 4294967296) % 8,g.rets.take (g.rets.length - 1)⟩:Gu)=dY g pc next i);unfold dY;rw[if_pos hR];have z:=h2;have z0:=h6;have z1:=h8;have hu:up4 pc=(pc+4) % 4294967296:=rfl;rw[hu]
     try simp[pM]at z z0 z1
     simp[z,z0,z1,dM]<;>(intros;first|omega|simp_all)
    ·have hB: ¬ (EH i=true∧0<g.rets.length):=by simpa [pM]using h8
     refine aZ<|cSR<|oR 2 rfl ?_;have b15:((2 * g.hist) % 4294967296) % 8≤7:=aT (bG _ (by decide));refine nW (vU (((2 * g.hist) % 4294967296) % 8)) rfl rfl (by decide)<|oR 1 rfl<|rV (.agg [.osl 11 0 8 false,vU (((2 * g.hist) % 4294967296) % 8),.osl 39 0 g.rets.length false]) rfl<|rSt rfl<|rE 60<|cT<|eW rfl ⟨(by show 0+8≤((g.slots.set (gL g pc) (⟨pc,next⟩:Gs)).map gsL).length;exact omT),trivial,(by show 0+g.rets.length≤(g.rets.map eJ).length;exact omT),trivial⟩ rfl ?_;show AV.agg [.sl 2 (List.take 8 (List.drop 0 ((g.slots.set (gL g pc) (⟨pc,next⟩:Gs)).map gsL))) false,vU (((2 * g.hist) % 4294967296) % 8),.sl 1 (List.take g.rets.length (List.drop 0 (g.rets.map eJ))) false]=_;rw[kA gsL (g.slots.set (gL g pc) (⟨pc,next⟩:Gs)) omT,kA eJ g.rets omT];refine congrArg (λ z=>AV.agg (guL z)) (?_:(⟨g.slots.set (gL g pc) (⟨pc,next⟩:Gs),((2 * g.hist) % 4294967296) % 8,g.rets⟩:Gu)=dY g pc next i);unfold dY;rw[if_pos hR];have z:=h2;have z0:=h6;have z1:=h8;have hu:up4 pc=(pc+4) % 4294967296:=rfl;rw[hu]
     try simp[pM]at z z0 z1
     simp[z,z0,z1,dM]<;>(intros;first|omega|simp_all)
theorem Le(i:SI):TU i=true↔okE ⟨i.op,i.rd,i.rs1,i.rs2,i.imm⟩:=by
 unfold TU okE;simp only[aK,bC];obtain⟨op,rd,rs1,rs2,imm⟩:=i;constructor
 ·rintro ⟨⟨⟨⟨⟨⟨h1,h2⟩,h3⟩,h4⟩,h5⟩,h6⟩,h7⟩;refine⟨h1,h2,?_⟩;generalize yK op (Hm ⟨op,rd,rs1,rs2,imm⟩)=r at h3 h4 h5 h6 h7⊢;obtain⟨a,b,c,d,e⟩:=r;simp only at h3 h4 h5 h6 h7;subst h3 h4 h5 h6 h7;rfl
 ·rintro ⟨h1,h2,h3⟩;simp only at h3;refine⟨⟨⟨⟨⟨⟨h1,h2⟩,?_⟩,?_⟩,?_⟩,?_⟩,?_⟩<;>rw[h3]
theorem TJ(i:SI)(hi:i.imm<4294967296):bY C0 145 [siA i] (.tup [.v (.int .u32 ((if TU i=true then Hm ⟨i.op,i.rd,i.rs1,i.rs2,i.imm⟩else 0:Nat):Int)),.v (.int .i64 (if TU i=true then 0 else 1))]):=by
 by_cases h:TU i=true
 ·rw[if_pos h,if_pos h];exact .of_tupG Tryz.func145 rfl rfl rfl rfl λ S w hG=>Pr BX i.op i.rd i.rs1 i.rs2 i.imm w (BU hG) hi ((Le i).1 h)
 ·rw[if_neg h,if_neg h];exact .of_tupG Tryz.func145 rfl rfl rfl rfl λ S w hG=>Ps BX i.op i.rd i.rs1 i.rs2 i.imm w (BU hG) hi (λ q=>h ((Le i).2 q))
theorem TK(e:Ent)(he:e.ok):bY C0 84 [.agg (enL e)] (vB (vZ e)):=by
 refine bY.intro c0Ok Tryz.func84 rfl rfl (by kernel_rfl) rfl<|cSR<|rAl 0 rfl rfl<|oR 1 rfl<|rE 2<|aE<|cSR<|oR 2 rfl<|rV (vB (decide (e.is<0))) rfl<|oR 1 rfl<|gN rfl<|gS rfl id<|gBS (x:=vB (decide (e.is>3))) rfl id rfl<|cH rfl rfl rfl (by simp) ?_;refine rE 10 ?_;refine aU rfl (λ h1=>?_) (λ h1=>?_)
 ·refine cSR<|oR 1 rfl<|rE 11<|cT ?_;replace h1:=sP h1;exact fT rfl (cY (by unfold vZ;grind [pM,cOr]))
 ·refine aZ<|cSR<|oR 2 rfl<|rV (vB (e.is==1)) rfl<|oR 1 rfl<|rE 14<|aE<|cSR<|oR 2 rfl<|gN rfl<|gS rfl id<|gBS (x:=vB (decide (e.left≤0))) rfl id rfl<|cH rfl rfl rfl (λ h=>h)<|oR 1 rfl ?_;refine gN rfl<|gS rfl id<|gS rfl id<|gN rfl<|gS rfl id<|gBS (x:=vB (e.left != 0)) rfl id rfl<|vK (x:=vB (cA (!(e.is==1)) (e.left != 0) false)) (g:= !(cA (e.is==1) (decide (e.left≤0)) false)) rfl rfl rfl rfl (λ h=>h) rfl rfl (λ hg hc=>by first|(rw[hg,hc];rfl)|simp_all)<|cH rfl rfl rfl (by simp)<|rE 29 ?_;refine aU rfl (λ h2=>?_) (λ h2=>?_)
  ·refine cSR<|oR 1 rfl<|rE 30<|cT ?_;replace h1:=sP h1;replace h2:=sP h2;exact fT rfl (cY (by unfold vZ;grind [pM,cOr]))
  ·refine aZ<|cSR<|oR 2 rfl<|rCi rfl (qG e.i)<|oR 1 rfl<|rE 33<|aE<|cSR<|oR 2 rfl<|rV (vB (e.is==2)) rfl<|oR 1 rfl<|gN rfl<|gBS (x:=vB ((kindOf e.i.op) != 3)) rfl id (okB (neN _ _))<|gS rfl id ?_;refine gN rfl<|gS rfl id<|gS rfl id<|vK (x:=vB (cA ((kindOf e.i.op) != 3) true (!e.known))) (g:=e.is==2) rfl rfl rfl rfl (λ h=>h) rfl rfl (λ hg hc=>by first|(rw[hg,hc];rfl)|simp_all)<|cH rfl rfl rfl (λ h=>h)<|rE 45 ?_;refine aU rfl (λ h3=>?_) (λ h3=>?_)
   ·refine cSR<|oR 1 rfl<|rE 46<|cT ?_;replace h1:=sP h1;replace h2:=sP h2;replace h3:=sP h3;exact fT rfl (cY (by unfold vZ;grind [pM,cOr]))
   ·refine aZ<|aE<|cSR<|oR 2 rfl<|rV (vB (e.halt != 0)) rfl<|oR 1 rfl<|gN rfl<|gS rfl id<|gBS (x:=vB (e.is != 3)) rfl id rfl<|cH rfl rfl rfl (λ h=>h)<|oR 1 rfl<|gN rfl<|gS rfl id<|gN rfl<|gBS (x:=vB ((kindOf e.i.op)==5)) rfl id (okB (eqN _ _)) ?_;refine vK (x:=vB (cA (e.is==1) ((kindOf e.i.op)==5) false)) (g:=cA (e.halt != 0) (e.is != 3) false) rfl rfl rfl rfl (λ h=>h) rfl rfl (λ hg hc=>by first|(rw[hg,hc];rfl)|simp_all)<|gS rfl id<|gN rfl<|gS rfl id<|gBS (x:=vB (e.halt==3)) rfl id rfl<|vK (x:=vB (cA (cA (e.is==1) ((kindOf e.i.op)==5) false) (e.halt==3) false)) (g:=cA (e.halt != 0) (e.is != 3) false) rfl rfl rfl rfl (λ h=>h) rfl rfl (λ hg hc=>by first|(rw[hg,hc];rfl)|simp_all)<|gS rfl id<|cH rfl rfl rfl (λ h=>h)<|rE 66 ?_;refine aU rfl (λ h4=>?_) (λ h4=>?_)
    ·refine cSR<|oR 1 rfl<|rE 67<|cT ?_;replace h1:=sP h1;replace h2:=sP h2;replace h3:=sP h3;replace h4:=sP h4;exact fT rfl (cY (by unfold vZ;grind [pM,cOr]))
    ·refine aZ<|aE<|cSR<|oR 2 rfl<|rCi rfl (TJ e.i (BA he.imm))<|oR 5 rfl<|rE 74<|cSR<|oR 1 rfl<|rV (vB ((if TU e.i=true then 0 else 1) != 0)) rfl<|rE 76 ?_;refine aU rfl (λ h5=>?_) (λ h5=>?_)
     ·have h5p:=vA h5;refine cSR<|oR 2 rfl<|rV (vB (e.halt==1)) rfl<|oR 1 rfl<|gN rfl<|gS rfl id<|gBS (x:=vB (e.halt==2)) rfl id rfl<|cH rfl rfl rfl (by simp)<|oR 1 rfl<|rE 85<|cT ?_;replace h1:=sP h1;replace h2:=sP h2;replace h3:=sP h3;replace h4:=sP h4;replace h5:=sP h5;exact fT rfl (cY (by unfold vZ;grind [pM,cOr]))
     ·have h5p:=vC h5;refine aZ<|cSR<|oR 1 rfl<|rE 77<|cT ?_;replace h1:=sP h1;replace h2:=sP h2;replace h3:=sP h3;replace h4:=sP h4;replace h5:=sP h5;exact fT rfl (cY (by unfold vZ;grind [pM,cOr]))
theorem OA{α:Type}{p:α→Bool}{l:List α}{k:Nat}{x:α}(hx:l[k]?=some x)(hn:p x=false)(h:∀ y∈l.take k,p y=false):∀ y∈l.take (k+1),p y=false:=by
 intro y hy;rw[bX,hx]at hy;rcases al_List_mem_append.1 hy with hy|hy
 ·exact h y hy
 ·simp at hy;subst hy;exact hn
theorem OB{α:Type}{p:α→Bool}{l:List α}{k:Nat}{x:α}(hx:l[k]?=some x)(hp:p x=true)(h:∀ y∈l.take k,p y=false):l.findIdx? p=some k:=by
 rw[List.findIdx?_eq_some_iff_getElem];obtain⟨hk,rfl⟩:=Db.1 hx;refine⟨hk,hp,λ j hj=>?_⟩;have:=h (l[j]'omT) (aB (i:=j) (by rw[cS,if_pos hj,aA omT]));simp[this]
theorem TL{α:Type}{p:α→Bool}{l:List α}{k:Nat}(hk:l.length≤k)(h:∀ y∈l.take k,p y=false):l.findIdx? p=none:=by
 rw[aN hk]at h;rw[List.findIdx?_eq_none_iff];exact h
theorem OC{α:Type}{p:α→Bool}{l:List α}:∀ y∈l.take 0,p y=false:=λ y hy=>by simp at hy
theorem OD(rob:List Ent)(ck:Bool)(hl:rob.length≤1000000)(ho:∀ x∈rob,x.ok):bY C0 103 [.sl 17 (rob.map enL) ck] (vI (CB (wO rob))):=by
 refine dc1 (bY.intro c1Ok Tryz.func103 rfl rfl (by kernel_rfl) rfl ?_);refine cSR<|oR 1 rfl<|rE 1<|aE<|cSR<|oR 1 rfl<|rW (vN rob.length) rfl (bQ enL rob)<|oR 1 rfl<|rE 4<|bI<|kZ (κ:=Nat) (λ k=>⟨cI [(5,.sl 17 (rob.map enL) ck),(6,vN rob.length),(7,vN k)],heapF [],4⟩) (λ k=>k≤rob.length∧∀ y∈rob.take k,Lo y=false) (λ k=>rob.length - k) 0 (λ s=>s) (Weak.of_lists (λ s=>s) wT trivial rfl) (⟨aF _,OC⟩) ?_;intro k hk;have hkn:k≤rob.length:=hk.1;have hkB:k≤1000000:=by omega
 refine cSR<|rW (vB (decide (k<rob.length))) rfl (okB (ltN _ _))<|rE 5<|aE ?_;refine aU rfl (λ h1=>?_) (λ h1=>?_)
 ·have h1p:=of_decide_eq_true h1;refine aZ<|aE<|bI<|cSR<|oR 1 rfl ?_;obtain⟨x,hx⟩:∃ x,rob[k]?=some x:=⟨_,aA omT⟩;have hxo:=ho x (aB hx);refine rIx (enL x) (.dp 17 0 (enL x)) rfl rfl (gJ hx) rfl<|oR 1 rfl<|rAl 8 rfl rfl<|oR 1 rfl<|rSt rfl<|rE 11<|cSR<|oR 2 rfl<|rCi rfl (qG x.i)<|rW (vB ((kindOf x.i.op)==5)) rfl (okB (eqN _ _))<|oR 1 rfl<|gN rfl<|gS rfl id<|cH rfl rfl rfl (λ h=>h)<|oR 1 rfl ?_;refine gN rfl<|gS rfl id<|gN rfl<|gS rfl id<|gBS (x:=vB (x.next != x.guess)) rfl hsT (okB (neN _ _))<|cH rfl rfl rfl (λ h=>h)<|rE 26 ?_;refine aU rfl (λ h2=>?_) (λ h2=>?_)
  ·refine cSR<|oR 2 rfl<|rE 28<|cT ?_;exact fT rfl (Ln (by unfold wO;rw[OB hx (by simpa [Lo,pM,tN]using h2) hk.2];rfl))
  ·refine aZ<|cRg ?_;have b1:k+1≤1000001:=aH hkB (aC 1);refine rW (vN (k+1)) rfl (okI (bS b1 rfl))<|oR 1 rfl<|rE 28 ?_;refine⟨k+1,λ s=>s,Weak.of_lists _ wT trivial rfl,⟨by omega,OA hx (by have z:=h2;unfold Lo;simp only[pM]at z;grind) hk.2⟩,by show rob.length - (k+1)<rob.length - k;omega⟩
 ·have h1p:=aD h1;refine eA<|cSR<|oR 1 rfl<|rE 6<|cT ?_;exact fT rfl (Ln (by unfold wO;rw[TL omT hk.2];rfl))
theorem TM{f:Nat→Bool}{k:Nat}(hp:f k=true)(h:(List.range k).all f=true):(List.range (k+1)).all f=true:=by
 rw[mD,List.all_append,h];simpa using hp
theorem VD{f:Nat→Bool}{k n:Nat}(hk:k<n)(hp:f k=false):(List.range n).all f=false:=by
 rw[List.all_eq_false];exact⟨k,mT.2 hk,by simp[hp]⟩
theorem Rh{rob:List Ent}{k:Nat}(hg:decide (k>0)=true)(hk:k<rob.length)(hl:rob.length≤1000):0≤IntKind.wrap .i64 ((k:Int) - 1)∧(rob.map enL)[(IntKind.wrap .i64 ((k:Int) - 1)).toNat]?=some (enL ((rob[k - 1]?).getD Br)):=by
 have h0:=of_decide_eq_true hg;rw[show IntKind.wrap .i64 ((k:Int) - 1)=((k - 1:Nat):Int)from by rw[wrap_i64 omT omT];omega];refine⟨aI _,?_⟩;show (rob.map enL)[k - 1]?=_;rw[bH,aA (show k - 1<rob.length by omega)];rfl
theorem Lf{rob:List Ent}{k:Nat}{x:Ent}(hx:rob[k]?=some x):GK rob k=((k==0||decide (((rob[k - 1]?).getD Br).no<x.no))&&vZ x):=by
 unfold GK VI;rw[hx];have hk:=(Db.1 hx).1;rw[aA (show k - 1<rob.length by omega)];rfl
theorem TN(rob:List Ent)(ck:Bool)(hl:rob.length≤9223372036854775807)(ho:∀ x∈rob,x.ok):bY C0 47 [.sl 17 (rob.map enL) ck] (vB (DS rob)):=by
 refine dc1 (bY.intro c1Ok Tryz.func47 rfl rfl (by kernel_rfl) rfl ?_);refine cSR<|oR 1 rfl<|rE 1<|aE<|cSR<|oR 1 rfl<|rW (vN rob.length) rfl (bQ enL rob)<|rW (vB (decide (rob.length>8))) rfl (okB (gtN _ _))<|rE 4 ?_;refine aU rfl (λ h1=>?_) (λ h1=>?_)
 ·have h1p:=of_decide_eq_true h1;refine cSR<|oR 1 rfl<|rE 5<|cT ?_;exact fT rfl (cY (by unfold DS;rw[rM omT];rfl))
 ·have h1p:=aD h1;refine aZ<|aE<|cSR<|oR 1 rfl<|rW (vN rob.length) rfl (bQ enL rob)<|oR 1 rfl<|rE 7<|bI<|kZ (κ:=Nat) (λ k=>⟨cI [(0,.sl 17 (rob.map enL) ck),(7,vB (decide (rob.length>8))),(8,.sl 17 (rob.map enL) ck),(9,vN rob.length),(10,vN k)],heapF [],7⟩) (λ k=>k≤rob.length∧(List.range k).all (GK rob)=true) (λ k=>rob.length - k) 0 (λ s=>s) (Weak.of_lists (λ s=>s) wT trivial rfl) (⟨aF _,rfl⟩) ?_;intro k hk;have hkn:k≤rob.length:=hk.1;have hkB:k≤1000000:=by omega
  refine cSR<|rW (vB (decide (k<rob.length))) rfl (okB (ltN _ _))<|rE 8<|aE ?_;refine aU rfl (λ h2=>?_) (λ h2=>?_)
  ·have h2p:=of_decide_eq_true h2;refine aZ<|aE<|bI<|cSR<|oR 1 rfl ?_;obtain⟨x,hx⟩:∃ x,rob[k]?=some x:=⟨_,aA omT⟩;have hxo:=ho x (aB hx);refine rIx (enL x) (.dp 17 0 (enL x)) rfl rfl (gJ hx) rfl<|oR 1 rfl<|rAl 11 rfl rfl<|oR 1 rfl<|rSt rfl<|rE 14<|cSR<|oR 1 rfl<|rW (vB (decide (k>0))) rfl (okB (gtN _ _))<|oR 1 rfl<|gN rfl<|gN rfl<|gBS (x:=vI (IntKind.wrap .i64 ((k:Int) - 1))) rfl id rfl<|JF (enL ((rob[k - 1]?).getD Br)) (x:=.dp 17 0 (enL ((rob[k - 1]?).getD Br))) (g:=decide (k>0)) rfl rfl rfl rfl hsT rfl rfl (λ hg=>Rh hg omT omT) rfl<|gS rfl id ?_;refine gS rfl id<|gN rfl<|gS rfl id<|gBS (x:=vB (decide ((((rob[k - 1]?).getD Br).no)≥x.no))) rfl hsT rfl<|cH rfl rfl rfl (λ h=>h)<|oR 1 rfl<|gN rfl<|jI (args:=[.agg (enL x)]) (x:=vB (vZ x)) (g:= !(cA (decide (k>0)) (decide ((((rob[k - 1]?).getD Br).no)≥x.no)) false)) rfl rfl rfl rfl (λ h=>h) rfl rfl rfl (.inl rfl) rfl (λ hg=>TK x hxo)<|gS rfl id<|cH rfl rfl rfl (by simp)<|rE 32 ?_;refine aU rfl (λ h3=>?_) (λ h3=>?_)
   ·refine cSR<|oR 1 rfl<|rE 33<|cT ?_;exact fT rfl (cY (by unfold DS;rw[VD (k:=k) omT (by rw[Lf hx];have z:=h3;simp only[pM,cOr]at z;grind)];simp))
   ·refine aZ<|cRg ?_;have b1:k+1≤9223372036854775807:=by omega
    refine rW (vN (k+1)) rfl (okI (bS (show k+1≤9223372036854775807 by omega) rfl))<|oR 1 rfl<|rE 34 ?_;refine⟨k+1,λ s=>s,Weak.of_lists _ wT trivial rfl,⟨by omega,TM (by rw[Lf hx];have z:=h3;simp only[pM,cOr]at z;grind) hk.2⟩,by show rob.length - (k+1)<rob.length - k;omega⟩
  ·have h2p:=aD h2;refine eA<|cSR<|oR 1 rfl<|rE 9<|cT ?_;have hkk:k=rob.length:=by omega
   have hall:=hk.2;rw[hkk]at hall;exact fT rfl (cY (by unfold DS;rw[hall,pH omT];rfl))
theorem XF(R:List Ent)(lo n i:Nat)(cl:Bool)(hR:lo+n≤R.length)(hRl:R.length≤900000)(hi:i<n)(ho:∀ x∈R,x.ok):pJ C0.P C0.G 104 [.osl 0 lo n cl,vN i] (heapF [(0,.arr (R.map enL) 17)]) 1 (λ x h'=>x=.osl 1 0 (i+1) false∧h'=heapF [(0,.arr (R.map enL) 17),(1,.arr ((BP ((R.drop lo).take n) i).map enL) 17)]):=by
 refine HCall.intro (C:=C1) (s:=1) c1Ok.at Tryz.func104 rfl rfl (by kernel_rfl) rfl rfl<|cSR<|oR 1 rfl<|rE 2<|aE<|cSR<|oR 1 rfl<|rW (vB (decide (i<0))) rfl (okB (ltN _ _))<|oR 1 rfl<|gN rfl<|gN rfl<|gBS (x:=vI (n:Int)) rfl id rfl<|gBS (x:=vB (decide ((i:Int)≥(n:Int)))) rfl hsT rfl<|cH rfl rfl rfl (by simp) ?_;refine rE 10 ?_;refine aU rfl (λ h1=>by simp[cOr]at h1;omega) (λ _=>?_);refine aZ<|cSR<|oR 2 rfl<|nW (.ptr2 0 (lo+i) 0) rfl rfl ixT ?_;obtain⟨x,hx⟩:∃ x,R[lo+i]?=some x:=⟨_,aA omT⟩;have hxo:=ho x (aB hx);refine rIx (enL x) (.agg (enL x)) rfl rfl (gJ hx) rfl<|rAl 14 rfl rfl<|rSt rfl<|rE 16<|cSR<|oR 3 rfl<|rSt rfl<|rE 20<|cSR<|oR 3 rfl ?_;refine nW (.osl 0 lo i true) rfl (JY (by first|rfl|omega) (by simp only[Option.getD];omega)) (by refine⟨?_,?_,?_,?_⟩;all_goals (first|exact aI _|decide|(apply Eo.2;exact omT)|rfl)) ?_;refine oR 1 rfl<|rV (.sl 17 ([[vI x.no,vU x.pc,vI x.i.op,vI x.i.rd,vI x.i.rs1,vI x.i.rs2,vU x.i.imm,vU x.next,vI x.is,vI x.left,vU x.value,vU x.next,vU x.addr,vI x.halt,vI x.took,vB x.known,vB x.filled]]) true) rfl<|rFx (x:=.osl 26 0 (i+1) false) (h':=upd _ 26 (some (.arr ((((R.drop lo).take i)++([(⟨x.no,x.pc,⟨x.i.op,x.i.rd,x.i.rs1,x.i.rs2,x.i.imm⟩,x.next,x.is,x.left,x.value,x.next,x.addr,x.halt,x.took,x.known,x.filled⟩:Ent)])).map enL) 17))) rfl rfl (Rp enL R ([(⟨x.no,x.pc,⟨x.i.op,x.i.rd,x.i.rs1,x.i.rs2,x.i.imm⟩,x.next,x.is,x.left,x.value,x.next,x.addr,x.halt,x.took,x.known,x.filled⟩:Ent)]) (by simp only[aQ,bA,bN,cW];omega)) (⟨by simp only[aQ,bA,aO,bN,cW,oL];omega,by exact omT,(by show lo+i≤(R.map enL).length;exact omT),trivial⟩)<|oR 1 rfl<|rE 28<|cT ?_;have e:((R.drop lo).take i)++([(⟨x.no,x.pc,⟨x.i.op,x.i.rd,x.i.rs1,x.i.rs2,x.i.imm⟩,x.next,x.is,x.left,x.value,x.next,x.addr,x.halt,x.took,x.known,x.filled⟩:Ent)])=BP ((R.drop lo).take n) i:=by unfold BP;rw[show ((R.drop lo).take n)[i]?=some x from by rw[cS,if_pos hi,dE];exact hx];simp only[List.take_take];rw[rN omT]
 refine oX (rs:=[.osl 26 0 (i+1) false]) rfl (r:=.osl 1 0 (i+1) false) (h':=heapF [(0,.arr (R.map enL) 17),(1,.arr ((BP ((R.drop lo).take n) i).map enL) 17)]) (σ:=λ z=>match z with|1=>26|z=>z) ⟨rfl,rfl⟩ rfl (cF (λ z=>match z with|1=>26|z=>z) rfl rfl ⟨⟨rfl,rfl,rfl⟩,⟨rfl,?_,rfl⟩,trivial⟩ rfl);show some (Blk.arr ((((R.drop lo).take i)++([(⟨x.no,x.pc,⟨x.i.op,x.i.rd,x.i.rs1,x.i.rs2,x.i.imm⟩,x.next,x.is,x.left,x.value,x.next,x.addr,x.halt,x.took,x.known,x.filled⟩:Ent)])).map enL) 17)=some (Blk.arr ((BP ((R.drop lo).take n) i).map enL) 17);rw[e]
theorem JW{prog:List Nat}(hp:∀ x∈prog,x≤4294967295)(pc:Nat):fetchW prog pc≤4294967295:=by
 unfold fetchW fetchP;split
 ·cases h:prog[pc / 4]? with
  |none=>exact aF _
  |some x=>exact hp x (aB h)
 ·exact aF _
theorem DL{b:Bool}(h:(!b)=true):b=false:=by simpa using h
theorem qU{b:Bool}(h:(!b)=false): ¬ b=false:=by cases b<;>simp_all
theorem yB(x:Nat):decE x=0↔ ¬ MX x=0:=by unfold decE;split<;>simp_all
abbrev mcX(c:Co)(R F S T:AV):List AV:=[vI c.conf.mode,vI c.conf.width,vI c.conf.rob,vI c.conf.queue,vI c.conf.stores,vI c.conf.slots,vI c.conf.sets,vI c.conf.ways,.sl 1 (c.conf.lat.map fD) false,vB c.conf.tables,.sl 1 (c.conf.tape.map eJ) false,.sl 1 (c.prog.map eJ) false,vI c.cycle,vU (c.r 0),vU (c.r 1),vU (c.r 2),vU (c.r 3),vU (c.r 4),vU (c.r 5),vU (c.r 6),vU (c.r 7),vU (c.r 8),vU (c.r 9),vU (c.r 10),vU (c.r 11),vU (c.r 12),vU (c.r 13),vU (c.r 14),vU (c.r 15),vU (c.r 16),vU (c.r 17),vU (c.r 18),vU (c.r 19),vU (c.r 20),vU (c.r 21),vU (c.r 22),vU (c.r 23),vU (c.r 24),vU (c.r 25),vU (c.r 26),vU (c.r 27),vU (c.r 28),vU (c.r 29),vU (c.r 30),vU (c.r 31),vU c.fetch,vB c.stop,F,R,vI c.next,S,vI c.data.ways,.sl 1 (c.data.sets.map cB) false,vI c.words.ways,.sl 1 (c.words.sets.map cB) false,.sl 4 (c.bus.map rqL) false,vI c.asked,vI c.guessed,.v (.string c.mem),.sl 2 (c.guess.slots.map gsL) false,vU c.guess.hist,.sl 1 (c.guess.rets.map eJ) false,vI c.halt,T]
structure Co.ok(c:Co)(n:Nat):Prop where
 conf:c.conf.okW
 prog:c.prog.length≤9223372036854775807
 progo:∀ x∈c.prog,x≤4294967295
 r:∀ k,c.r k≤4294967295
 fetch:c.fetch≤4294967295
 fet:c.fetched.length≤9223372036854775807
 feto:∀ x∈c.fetched,x.ok
 rob:c.rob.length≤9223372036854775807
 robo:∀ x∈c.rob,x.ok
 sto:c.stores.length≤9223372036854775807
 stoo:∀ x∈c.stores,x.ok
 data:c.data.ok
 words:c.words.ok
 bus:c.bus.length≤n
 buso:∀ x∈c.bus,x.ok
 asked:c.asked≤9223372036854775807
 guessed:c.guessed≤9223372036854775807
 mem:c.mem.size≤1000000
 guess:c.guess.ok
 ret:c.retired.length≤n
 reto:∀ x∈c.retired,x.ok
theorem Bi(c:Co)(n:Nat)(hok:c.ok n)(hnb:n≤890000):bY C0 23 [.agg (coL c)] (vB (fK c)):=by
 refine dc1 (bY.intro c1Ok Tryz.func23 rfl rfl (by kernel_rfl) rfl ?_);refine cSR<|rAl 0 rfl rfl<|oR 1 rfl<|rE 2<|aE<|cSR<|oR 2 rfl<|rCi rfl (Ri c.conf hok.conf)<|oR 2 rfl<|gN rfl<|gS rfl id<|gBS (x:=vN c.prog.length) rfl id (bQ eJ c.prog)<|gBS (x:=vB (decide (c.prog.length>64))) rfl id (okB (gtN _ _))<|cH rfl rfl rfl (by simp) ?_;refine oR 1 rfl<|gN rfl<|gS rfl id<|gN rfl<|gS rfl id<|jI (args:=[.v (.string c.mem)]) (x:=.v (.string (qQ c.mem))) (g:= !(cA (!(uQ c.conf)) true (decide (c.prog.length>64)))) rfl rfl rfl rfl (λ h=>h) rfl rfl rfl (.inl rfl) rfl (λ hg=>SK c.mem)<|gBS (x:=vB (!(c.mem.toList==(qQ c.mem).toList))) rfl hsT rfl<|cH rfl rfl rfl (by simp)<|rE 20 ?_;refine aU rfl (λ h1=>?_) (λ h1=>?_)
 ·refine cSR<|oR 1 rfl<|rE 21<|cT ?_;exact fT rfl (cY (by unfold fK;have q0:=h1;simp only[pM,cOr]at q0;rw[bT];simp only[aK,bC,cR,qS];grind))
 ·refine aZ<|aE<|cSR<|oR 2 rfl<|rCi rfl (TN c.rob false hok.rob hok.robo)<|oR 2 rfl<|gN rfl<|gS rfl id<|gBS (x:=vN c.rob.length) rfl id (bQ enL c.rob)<|gN rfl<|gS rfl id<|gS rfl id<|gBS (x:=vB (decide (((c.rob.length:Nat):Int)>c.conf.rob))) rfl hsT rfl<|cH rfl rfl rfl (by simp)<|rE 33 ?_;refine aU rfl (λ h2=>?_) (λ h2=>?_)
  ·refine cSR<|oR 1 rfl<|rE 34<|cT ?_;exact fT rfl (cY (by unfold fK;have q0:=h1;have q1:=h2;simp only[pM,cOr]at q0 q1;rw[bT];simp only[aK,bC,cR,qS];grind))
  ·refine aZ<|aE<|cSR<|oR 2 rfl<|rW (vN c.rob.length) rfl (bQ enL c.rob)<|oR 1 rfl<|rE 37<|bI<|kZ (κ:=Nat) (λ k=>⟨cI [(1,.ptr 0 0),(24,vB (cA (cA (!(uQ c.conf)) true (decide (c.prog.length>64))) true (!(c.mem.toList==(qQ c.mem).toList)))),(37,vB (cA (!(DS c.rob)) true (decide (((c.rob.length:Nat):Int)>c.conf.rob)))),(39,.sl 17 (c.rob.map enL) false),(40,vN c.rob.length),(41,vN k)],heapF [(0,.box (coL c))],37⟩) (λ k=>k≤c.rob.length∧(c.rob.take k).all (λ e=>decide (e.no<c.next))=true) (λ k=>c.rob.length - k) 0 (λ s=>s) (Weak.of_lists (λ s=>s) wT wH rfl) (⟨aF _,rfl⟩) ?_;intro k hk;have hkn:k≤c.rob.length:=hk.1;have hkB:k≤9223372036854775807:=by have:=hok.rob;omega
   have hrl:=hok.rob;refine cSR<|rW (vB (decide (k<c.rob.length))) rfl (okB (ltN _ _))<|rE 38<|aE ?_;refine aU rfl (λ h3=>?_) (λ h3=>?_)
   ·have h3p:=of_decide_eq_true h3;refine aZ<|aE<|bI<|cSR ?_;obtain⟨x,hx⟩:∃ x,c.rob[k]?=some x:=⟨_,aA omT⟩;have hxo:=hok.robo x (aB hx);refine rIx (enL x) (.dp 17 0 (enL x)) rfl rfl (gJ hx) rfl<|oR 1 rfl<|rAl 40 rfl rfl<|rSt rfl<|rE 42<|cSR<|oR 4 rfl<|rV (vB (decide (x.no≥c.next))) rfl<|rE 47 ?_;refine aU rfl (λ h4=>?_) (λ h4=>?_)
    ·have h4p:=of_decide_eq_true h4;refine cSR<|oR 1 rfl<|rE 48<|cT ?_;exact fT rfl (cY (by unfold fK;have q0:=h1;have q1:=h2;have q3:=h4;simp only[pM,cOr]at q0 q1;have hz:=GC (p:=λ e:Ent=>decide (e.no<c.next)) hx (by have z:=h4;simpa using z);rw[bT];simp only[aK,bC,cR,qS];grind))
    ·have h4p:=aD h4;refine aZ<|cRg ?_;have b1:k+1≤9223372036854775807:=by omega
     refine rW (vN (k+1)) rfl (okI (bS (show k+1≤9223372036854775807 by omega) rfl))<|oR 1 rfl<|rE 49 ?_;refine⟨k+1,λ s=>s,Weak.of_lists _ wT wH rfl,⟨by omega,CS hx (by have z:=h4;simpa using z) hk.2⟩,by show c.rob.length - (k+1)<c.rob.length - k;omega⟩
   ·have h3p:=aD h3;refine eA<|aE<|cSR<|oR 4 rfl<|rCi rfl (VE c.data c.conf hok.data)<|oR 2 rfl<|gN rfl<|gS rfl id<|gN rfl<|gS rfl id<|jI (args:=[.agg [vI c.words.ways,.sl 1 (c.words.sets.map cB) false],.agg [vI c.conf.mode,vI c.conf.width,vI c.conf.rob,vI c.conf.queue,vI c.conf.stores,vI c.conf.slots,vI c.conf.sets,vI c.conf.ways,.sl 1 (c.conf.lat.map fD) false,vB c.conf.tables,.sl 1 (c.conf.tape.map eJ) false]]) (x:=vB (zK c.words c.conf)) (g:= !(!(zK c.data c.conf))) rfl rfl rfl rfl hsT rfl rfl rfl (.inl rfl) rfl (λ hg=>VE c.words c.conf hok.words)<|gS rfl id<|cH rfl rfl rfl (by simp)<|oR 1 rfl<|gN rfl ?_;refine gS rfl id<|jI (args:=[.agg [.sl 2 (c.guess.slots.map gsL) false,vU c.guess.hist,.sl 1 (c.guess.rets.map eJ) false]]) (x:=vB (rH c.guess)) (g:= !(cA (!(zK c.data c.conf)) true (!(zK c.words c.conf)))) rfl rfl rfl rfl (λ h=>h) rfl rfl rfl (.inl rfl) rfl (λ hg=>Ha c.guess hok.guess)<|gS rfl id<|cH rfl rfl rfl (by simp)<|rE 58 ?_;refine aU rfl (λ h5=>?_) (λ h5=>?_)
    ·refine cSR<|oR 1 rfl<|rE 59<|cT ?_;exact fT rfl (cY (by unfold fK;have q0:=h1;have q1:=h2;have q3:=h5;simp only[pM,cOr]at q0 q1 q3;rw[bT];simp only[aK,bC,cR,qS];grind))
    ·refine aZ<|aE<|cSR<|oR 2 rfl<|rW (vN c.fetched.length) rfl (bQ ftL c.fetched)<|oR 3 rfl<|rV (vB (decide (((c.fetched.length:Nat):Int)>c.conf.queue))) rfl<|oR 1 rfl<|gN rfl<|gS rfl id<|gBS (x:=vN c.stores.length) rfl id (bQ ptL c.stores)<|gN rfl<|gS rfl id<|gS rfl id<|gBS (x:=vB (decide (((c.stores.length:Nat):Int)>c.conf.stores))) rfl hsT rfl ?_;refine cH rfl rfl rfl (by simp)<|rE 74 ?_;refine aU rfl (λ h6=>?_) (λ h6=>?_)
     ·refine cSR<|oR 1 rfl<|rE 75<|cT ?_;exact fT rfl (cY (by unfold fK;have q0:=h1;have q1:=h2;have q3:=h5;have q4:=h6;simp only[pM,cOr]at q0 q1 q3 q4;rw[bT];simp only[aK,bC,cR,qS];grind))
     ·refine aZ<|aE<|cSR<|oR 2 rfl<|rW (vN c.stores.length) rfl (bQ ptL c.stores)<|oR 1 rfl<|rE 78<|bI<|kZ (κ:=Nat) (λ j=>⟨cI [(1,.ptr 0 0),(24,vB (cA (cA (!(uQ c.conf)) true (decide (c.prog.length>64))) true (!(c.mem.toList==(qQ c.mem).toList)))),(37,vB (cA (!(DS c.rob)) true (decide (((c.rob.length:Nat):Int)>c.conf.rob)))),(42,vB (decide (k<c.rob.length))),(70,vB (cA (cA (!(zK c.data c.conf)) true (!(zK c.words c.conf))) true (!(rH c.guess)))),(86,vB (cA (decide (((c.fetched.length:Nat):Int)>c.conf.queue)) true (decide (((c.stores.length:Nat):Int)>c.conf.stores)))),(88,.sl 2 (c.stores.map ptL) false),(89,vN c.stores.length),(90,vN j)],heapF [(0,.box (coL c))],78⟩) (λ j=>j≤c.stores.length∧(c.stores.take j).all (λ p=>oU (c.mem.size:Int) p.addr (p.data.size:Int))=true) (λ j=>c.stores.length - j) 0 (λ s=>s) (Weak.of_lists (λ s=>s) wT wH rfl) (⟨aF _,rfl⟩) ?_;intro j hj;have hjn:j≤c.stores.length:=hj.1;have hjB:j≤9223372036854775807:=by have:=hok.sto;omega
      have hsl:=hok.sto;refine cSR<|rW (vB (decide (j<c.stores.length))) rfl (okB (ltN _ _))<|rE 79<|aE ?_;refine aU rfl (λ h7=>?_) (λ h7=>?_)
      ·have h7p:=of_decide_eq_true h7;refine aZ<|aE<|bI<|cSR ?_;obtain⟨p,hp⟩:∃ x,c.stores[j]?=some x:=⟨_,aA omT⟩;have hpo:=hok.stoo p (aB hp);refine rIx (ptL p) (.dp 2 0 (ptL p)) rfl rfl (gJ hp) rfl<|oR 1 rfl<|rAl 81 rfl rfl<|rSt rfl<|rE 83<|cSR<|oR 2 rfl<|rV (vN c.mem.size) rfl<|oR 4 rfl<|rV (vN p.data.size) rfl<|rCi rfl (OY (c.mem.size:Int) p.addr (p.data.size:Int) (by have:=hok.mem;omega) (BA hpo.addr))<|oR 1 rfl<|rE 93 ?_;refine aU rfl (λ h8=>?_) (λ h8=>?_)
       ·refine cSR<|oR 1 rfl<|rE 94<|cT ?_;exact fT rfl (cY (by unfold fK;have q0:=h1;have q1:=h2;have q3:=h5;have q4:=h6;have q6:=h8;simp only[pM,cOr]at q0 q1 q3 q4;have hz:=GC (p:=λ p:Pt=>oU (c.mem.size:Int) p.addr (p.data.size:Int)) hp (by have z:=h8;simpa using z);rw[bT];simp only[aK,bC,cR,qS];grind))
       ·refine aZ<|cRg ?_;have b2:j+1≤9223372036854775807:=by omega
        refine rW (vN (j+1)) rfl (okI (bS (show j+1≤9223372036854775807 by omega) rfl))<|oR 1 rfl<|rE 95 ?_;refine⟨j+1,λ s=>s,Weak.of_lists _ wT wH rfl,⟨by omega,CS hp (by have z:=h8;simpa using z) hj.2⟩,by show c.stores.length - (j+1)<c.stores.length - j;omega⟩
      ·have h7p:=aD h7;refine eA<|cSR<|oR 1 rfl<|rE 80<|cT ?_;have hz1:=CT (p:=λ e:Ent=>decide (e.no<c.next)) omT hk.2;have hz2:=CT (p:=λ p:Pt=>oU (c.mem.size:Int) p.addr (p.data.size:Int)) omT hj.2;exact fT rfl (cY (by unfold fK;have q0:=h1;have q1:=h2;have q3:=h5;have q4:=h6;simp only[pM,cOr]at q0 q1 q3 q4;rw[bT];simp only[aK,bC,true_iff];grind))
def Pz(h:AH):AV→AV
 | .ptr s c=>match h s with|some (.box cells)=>.dp cells.length c (qB h cells)|_=>.any
 |x=>uJ h x
def IK(h:AH):List AV→List AV
 |[]=>[]
 |x::xs=>Pz h x::IK h xs
def PA(h:AH):AV→Prop
 | .ptr s _=>match h s with|some (.box cells)=>fR (qB h cells)=true∧jH h cells|_=>True
 |x=>jG h x
def Un(h:AH):List AV→Prop
 |[]=>True
 |x::xs=>PA h x∧Un h xs
theorem IL(h:AH):∀ (l:List AV),(IK h l).length=l.length
 |[]=>rfl
 |_::l=>congrArg (· +1) (IL h l)
theorem IM(h:AH):∀ (l:List AV) (i:Nat) (x:AV),(IK h l)[i]?=some x→∃ y,l[i]?=some y∧x=Pz h y
 |[],i,x,hx=>by simp[IK]at hx
 |y::l,0,x,hx=>by simp[IK]at hx;exact⟨y,rfl,hx.symm⟩
 |y::l,i+1,x,hx=>by simp[IK]at hx;exact IM h l i x hx
theorem IP(h:AH):∀ (l:List AV),Un h l→∀ (i:Nat) y,l[i]?=some y→PA h y
 |[],_,i,y,hy=>by simp at hy
 |x::l,hl,0,y,hy=>by simp at hy;subst hy;exact hl.1
 |x::l,hl,i+1,y,hy=>IP h l hl.2 i y (by simpa using hy)
theorem zN(h:AH):∀ (l:List AV),(qB h l).length=l.length
 |[]=>by simp[qB]
 |_::l=>by simp[qB,zN h l]
theorem IQ(h:AH):∀ (l:List AV) (i:Nat) (x:AV),(qB h l)[i]?=some x→∃ y,l[i]?=some y∧x=uJ h y
 |[],i,x,hx=>by simp[qB]at hx
 |y::l,0,x,hx=>by simp[qB]at hx;exact⟨y,rfl,hx.symm⟩
 |y::l,i+1,x,hx=>by simp[qB]at hx;exact IQ h l i x hx
theorem Ed(h:AH):∀ (l:List AV),jH h l→∀ (i:Nat) y,l[i]?=some y→jG h y
 |[],_,i,y,hy=>by simp at hy
 |x::l,hl,0,y,hy=>by simp only[jH]at hl;simp at hy;subst hy;exact hl.1
 |x::l,hl,i+1,y,hy=>by simp only[jH]at hl;exact Ed h l hl.2 i y (by simpa using hy)
section
variable {S:Nat→Prop}{w:World}{β:Bt}{h:AH}{B:Nat}
theorem PB(H:SimH B S w β h){a:AV}{v:Value}(hr:Rep S w β a v)(hl:PA h a):Rep (λ b=>b<w.heap.size) w β (Pz h a) v:=by
 have hS:∀ b,(S b∨(B≤b∧b<w.heap.size))→b<w.heap.size:=λ b hb=>hb.elim (H.lt b) (·.2);by_cases hp:∃ s c,a=.ptr s c
 ·obtain⟨s,c,rfl⟩:=hp
  cases hr with
  |ptr _ _ l hlo=>
  simp only[Pz];simp only[PA]at hl
  cases hs:h s with
  |none=>exact .any _
  | some blk=>
   cases blk with
   |arr rows rs=>exact .any _
   |row cells=>exact .any _
   | box cells=>
    simp only[hs]at hl⊢;obtain⟨l',ds,e',fr',k1,k2,k3,k4,k5,k6⟩:=H.own s _ hs;obtain rfl:l'=l:=by rw[hlo]at k1;exact (Option.some.inj k1).symm
    have hlt:∀ (j:Nat) a,(qB h cells)[j]?=some a→ds[l'.base+j]?=some (ds.getD (l'.base+j) undef)∧(ds.getD (l'.base+j) undef).oneCell'=true∧Rep (λ b=>b<w.heap.size) w noB a (ds.getD (l'.base+j) undef):=by
     intro j a hj;obtain⟨b,hb,rfl⟩:=IQ h cells j a hj;obtain⟨u,q1,q2,q3⟩:=k6 j b hb;have hg:ds.getD (l'.base+j) undef=u:=by rw[aJ,q1];rfl
     rw[hg];exact⟨q1,q2,lM ((AL H q3 (Ed h cells hl.2 j b hb)).mono hS (Evo.refl _ _) (Jk.refl _)) (fQ _ hl.1 j _ hj) _⟩
    refine .dp cells.length c (qB h cells) l'.blk l'.base (λ j=>if j<cells.length then ds.getD (l'.base+j) undef else .bool false) (zN h cells) (fI k2) (λ j a hj=>?_) (λ j=>?_) λ j a hj=>?_
    ·have hjl:j<cells.length:=by rw[←zN h cells];exact (Db.1 hj).1
     rw[if_pos hjl,gM k2];exact (hlt j a hj).1
    ·show (if j<cells.length then ds.getD (l'.base+j) undef else .bool false).oneCell'=true;by_cases hjl:j<cells.length
     ·rw[if_pos hjl];exact (hlt j _ (aA (by rw[zN];exact hjl))).2.1
     ·rw[if_neg hjl];rfl
    ·have hjl:j<cells.length:=by rw[←zN h cells];exact (Db.1 hj).1
     rw[if_pos hjl];exact (hlt j a hj).2.2
 ·have e1:Pz h a=uJ h a:=by cases a<;>first|rfl|exact absurd ⟨_,_,rfl⟩ hp
  have e2:PA h a=jG h a:=by cases a<;>first|rfl|exact absurd ⟨_,_,rfl⟩ hp
  rw[e1];rw[e2]at hl;exact (AL H hr hl).mono hS (Evo.refl _ _) (Jk.refl _)
end
theorem pJ.of_dcall{C:Ctx}{f:FuncId}{args:List AV}{h:AH}{s:Nat}{r:AV}(hD:bY C f (IK h args) r)(hcl:fR (IK h args)=true)(hlk:Un h args)(hfl:AZ r=true):pJ C.P C.G f args h s (λ x h'=>x=r∧h'=h):=by
 obtain⟨hm,hcall⟩:=hD;refine⟨hm,λ B S w β vs H hdom hG hargs=>?_⟩;refine (hcall (λ b=>b<w.heap.size) w vs (λ _ h=>h) (λ g cells hg=>(hG g cells hg).mono H.lt (Evo.refl _ _) (Jk.refl _)) ⟨by rw[IL];exact hargs.1,λ i y u p q=>?_⟩).mono ?_
 ·obtain⟨z,hz,rfl⟩:=IM h args i y p;exact lM (PB H (hargs.2 i z u hz q) (IP h args hlk i z hz)) (fQ _ hcl i _ p) _
 ·rintro e w' ⟨v,he,hB,hr⟩;have hE:Evo S w w':=Evo.of_kept (λ b hb=>hB.block b hb) H.lt;refine⟨v,S,β,r,h,⟨rfl,rfl⟩,he,KJ hr hfl,⟨λ s' blk hs'=>?_,H.inj,λ b hb=>Nat.lt_of_lt_of_le (H.lt b hb) hB.size,aL H.big hB.size⟩,⟨λ _ h=>h,hE,hB.mono H.big,Jk.refl _,λ _ _ hx=>.inl hx,λ b hb=>.inl hb,λ b hb _=>hB.block b hb⟩⟩;obtain⟨l,cs,e',fr,k1,k2,k3,k4,k5,k6⟩:=H.own s' blk hs';exact⟨l,cs,e',fr,k1,(hB.block _ (fI k2)).trans k2,k3,k4,k5,k6.mono (λ _ h=>h) hE (Jk.refl _)⟩
def FrL(ρ:Nat→Nat)(K:AH)(s s2:Nat):List (Nat×Blk)→Prop
 |[]=>True
 |(i,b)::l=>(Nat.blt (ρ i) s2=true∧Nat.blt i s=true∧tC s b=true∧K (ρ i)=some (Ew ρ b))∧FrL ρ K s s2 l
theorem FrL.get{ρ:Nat→Nat}{K:AH}{s s2:Nat}:∀ {l:List (Nat×Blk)},FrL ρ K s s2 l→∀ x blk,heapF l x=some blk→ρ x<s2∧x<s∧tC s blk=true∧K (ρ x)=some (Ew ρ blk)
 |[],_,x,blk,h=>by cases h
 | (i,b)::l,hl,x,blk,h=>by
  simp only[heapF]at h
  cases hq:Nat.beq i x with
  |true=>
   rw[hq]at h;injection h with h;subst h;rw[←aM hq]
   exact⟨aR hl.1.1,aR hl.1.2.1,hl.1.2.2.1,hl.1.2.2.2⟩
  |false=>rw[hq]at h;exact FrL.get hl.2 x blk h
def RI(ρ:Nat→Nat):Nat→Bool
 |0=>true
 |k+1=>(List.range k).all (λ j=> !Nat.beq (ρ j) (ρ k))&&RI ρ k
theorem LE{ρ:Nat→Nat}:∀ {s:Nat},RI ρ s=true→∀ x y,x<s→y<s→ρ x=ρ y→x=y
 |0,_,x,_,hx,_,_=>absurd hx (dX _)
 | k+1,h,x,y,hx,hy,e=>by
  simp only[RI,aK,qI,mT,pR]at h;rcases al_Nat_lt_or_ge x k with h1|h1<;>rcases al_Nat_lt_or_ge y k with h2|h2
  ·exact LE h.2 x y h1 h2 e
  ·have:y=k:=by omega
   subst this;have:=h.1 x h1;rw[e]at this;simp at this
  ·have:x=k:=by omega
   subst this;have:=h.1 y h2;rw[e]at this;simp at this
  ·omega
theorem pJ.frameL{P:Program}{G:Nat→Option (List AV)}{f:FuncId}{args:List AV}{L:List (Nat×Blk)}{s:Nat}{Post:AV→AH→Prop}(H:pJ P G f args (heapF L) s Post)(ρ:Nat→Nat)(K:AH)(s2:Nat)(hfull:CF (heapF L) s=true)(hL:FrL ρ K s s2 L)(hi:RI ρ s=true)(ha:pK s args=true)
  (Post':AV→AH→Prop) (hPost:∀ r h',Post r h'→∃ K',Post' (uK (EJ ρ s s2) r) K'∧∀ y blk,K' y=some blk→(∃ x blk0,h' x=some blk0∧y=EJ ρ s s2 x∧blk=Ew (EJ ρ s s2) blk0)∨(K y=some blk∧∀ x,x<s→ρ x≠y)):pJ P G f (Bz ρ args) K s2 Post':=
 H.frame ρ K s2 hfull (λ x hx=>by
  cases hb:heapF L x with
  |none=>exact absurd hb hx
  |some blk=>exact (hL.get x blk hb).2.1) (λ x blk hx=>let ⟨a,_,c,d⟩:=hL.get x blk hx;⟨a,c,d⟩) (LE hi) ha Post' hPost
mutual
theorem IR{s:Nat}{σ τ:Nat→Nat}(h:∀ x,x<s→σ x=τ x):∀ (a:AV),mW s a=true→uK σ a=uK τ a
 | .ptr x c,hb=>by simp only[uK];rw[h x (by simpa [mW]using hb)]
 | .ptr2 x r c,hb=>by simp only[uK];rw[h x (by simpa [mW]using hb)]
 | .osl x lo n c,hb=>by simp only[uK];rw[h x (by simpa [mW]using hb)]
 | .agg cs,hb=>by simp only[uK];rw[uV h cs (by simpa [mW]using hb)]
 | .tup cs,hb=>by simp only[uK];rw[uV h cs (by simpa [mW]using hb)]
 | .clo f a b,hb=>by
  simp only[mW]at hb;split at hb
  ·rename_i ha;simp only[uK];rw[uV h a ha,uV h b hb]
  ·cases hb
 | .opt g x,hb=>by simp only[uK];rw[IR h x (by simpa [mW]using hb)]
 | .v _,_| .sl _ _ _,_| .dp _ _ _,_| .any,_=>by simp[uK]
theorem uV{s:Nat}{σ τ:Nat→Nat}(h:∀ x,x<s→σ x=τ x):∀ (cs:List AV),pK s cs=true→Bz σ cs=Bz τ cs
 |[],_=>by simp[Bz]
 |c::cs,hb=>by
  simp only[pK]at hb;split at hb
  ·rename_i hc;simp only[Bz];rw[IR h c hc,uV h cs hb]
  ·cases hb
end
theorem wV(ρ:Nat→Nat)(s s2:Nat)(blk:Blk)(hb:tC s blk=true):Ew (EJ ρ s s2) blk=Ew ρ blk:=by
 have hx:∀ x,x<s→EJ ρ s s2 x=ρ x:=λ x hx=>qP ρ omT
 cases blk with
 |box cells=>simp only[Ew];rw[uV hx cells hb]
 |arr rows rs=>rfl
 |row cells=>simp only[Ew];rw[uV hx cells hb]
theorem pJ.frameU{P:Program}{G:Nat→Option (List AV)}{f:FuncId}{args:List AV}{L:List (Nat×Blk)}{s:Nat}{r:AV}(H:pJ P G f args (heapF L) s (λ x h'=>x=r∧h'=heapF L))(ρ:Nat→Nat)(K:AH)(s2:Nat)(hfull:CF (heapF L) s=true)(hL:FrL ρ K s s2 L)(hi:RI ρ s=true)(ha:pK s args=true)(hr:eM r=true):pJ P G f (Bz ρ args) K s2 (λ x h'=>x=r∧h'=K):=by
 refine H.frameL ρ K s2 hfull hL hi ha _ λ r' h' hP=>?_;obtain⟨rfl,rfl⟩:=hP;refine⟨K,⟨xO _ _ hr,rfl⟩,λ y blk hy=>?_⟩;by_cases hx:∃ x,x<s∧ρ x=y
 ·obtain⟨x,hxs,rfl⟩:=hx;obtain⟨blk0,hb0⟩:=CJ.1 (tL hfull x hxs);have hk:=hL.get x blk0 hb0;rw[hk.2.2.2]at hy;injection hy with hy;refine .inl ⟨x,blk0,hb0,(qP ρ omT).symm,?_⟩;rw[←hy];exact (wV ρ s s2 blk0 hk.2.2.1).symm
 ·exact .inr ⟨hy,λ x hxs e=>hx ⟨x,hxs,e⟩⟩
structure FOk(F:Fence)(P:Program):Prop where
 fn:∀ f,F.fn f
 dep:F.depth=none
 calls:∀ {f args w R} (m:Nat),Calls P f args w R→CallsIn F m P f args w R
 rows:∀ {r args w R} (m:Nat),Rows P r args w R→RowsIn F m P r args w R
theorem Eg{n:Nat}{P:Program}{row:String}{args:Array Value}{w:World}{R:Value→World→Prop}(h:Rows P row args w R):RowsIn Fence.wide n P row args w R:=
 λ c cs _=>let ⟨v,w',r,s⟩:=h c cs;⟨v,w',r,stepsIn_wide.2 s⟩
theorem Da(P:Program):FOk Fence.wide P:=⟨λ _=>trivial,rfl,λ _ h=>callsIn_wide.2 h,λ _ h=>Eg h⟩
theorem IW(P:Program)(l:Nat):FOk (Fence.wide.inRound l) P:=⟨λ _=>trivial,rfl,λ _ h=>CallsIn.inRound l (callsIn_wide.2 h),λ m h=>(Eg (n:=m) h:_)⟩
def tmk(kp:Nat→Bool)(a a':Act):Prop:=∀ i,kp i=true→a'.tmps.getD i undef=a.tmps.getD i undef
theorem tmk.refl(kp:Nat→Bool)(a:Act):tmk kp a a:=λ _ _=>rfl
theorem tmk.trans{kp:Nat→Bool}{a b c:Act}(h:tmk kp a b)(k:tmk kp b c):tmk kp a c:=λ i hi=>(k i hi).trans (h i hi)
def PF(o:Oper):Bool:=match o.op with| .defer _=>false|_=>true
def IX(kp:Nat→Bool)(o:Oper):Bool:=match o.dst with|some d=> !kp d|none=>true
def IY(kp:Nat→Bool)(l:List Oper):Bool:=l.all λ o=>PF o&&IX kp o
theorem LH{kp:Nat→Bool}{o:Oper}(hk:IX kp o=true)(a:Act)(ds:List Deferred)(v:Value):tmk kp a ({a with defers:=ds}.put o.dst v):=by
 intro i hi;unfold IX at hk
 cases hd:o.dst with
 |none=>rfl
 |some k=>
  rw[hd]at hk;have hne:i≠k:=λ e=>by subst e;simp[hi]at hk
  simp[Act.put,aJ,cX (Ne.symm hne)]
section
variable {F:Fence}{m:Nat}{P:Program}{ops:Array Oper}{Q Q':Exit→Act→World→Prop}{kp:Nat→Bool}
theorem Uq(hF:FOk F P){o:Oper}(hd:PF o=true)(hno: ¬ LetsOut Q)(hQ:∀ c a w,Q (.panic c) a w→Q' (.panic c) a w){a:Act}{w:World}{K:Act→World→Prop}(h:o.wp P a w K Q):
  o.wpIn F m P a w (λ a' w'=>K a' w'∧∃ v ds,a'={a with defers:=ds}.put o.dst v) Q':=by
 unfold Oper.wpIn;refine⟨λ f _=>hF.fn f,?_⟩;rw[Oper.semAt_eq _ _ _ (λ c hc=>by unfold PF at hd;rw[hc]at hd;cases hd)];unfold Oper.wp at h;generalize (execOp a.eval o).run P w=r at h;have dep:F.depth.isSome=true→1≤m:=λ hd=>by rw[hF.dep]at hd;cases hd
 cases r with
 | ok n w'=>
  cases n with
  |value v=>exact⟨h,v,a.defers,rfl⟩
  |skip=>exact⟨h,undef,a.defers,rfl⟩
  |defer d=>exact⟨h,undef,d::a.defers,rfl⟩
  |enter f args=>
   refine⟨dep,hF.calls _ (Calls.mono h λ e w'' he=>?_)⟩
   cases e with
   |returned v=>exact⟨he,v,a.defers,rfl⟩
   |panicked c=>exact hQ _ _ _ he
   |outgrown=>exact absurd he hno
  |row r args=>exact⟨dep,hF.rows _ (Rows.mono h λ v w'' he=>⟨he,v,a.defers,rfl⟩)⟩
  |_=>exact h.elim
 |halt x w'=>cases x<;>first|exact hQ _ _ _ h|exact h.elim
theorem Kr(hF:FOk F P){o:Oper}(hd:PF o=true)(hk:IX kp o=true)(hno: ¬ LetsOut Q)(hQ:∀ c a w,Q (.panic c) a w→Q' (.panic c) a w){a:Act}{w:World}{K K':Act→World→Prop}
  (h:if Region.wanted o (yielded ops a.tmps)then o.wp P a w K Q∨(o.asks P a w∧LetsOut Q)else K (a.put o.dst undef) w) (hK:∀ a' w',K a' w'→tmk kp a a'→K' a' w'):
  if Region.wanted o (yielded ops a.tmps)then o.wpIn F m P a w K' Q' else (∀ f,o.about P w a.eval=some f→F.fn f)∧K' (a.put o.dst undef) w:=by
 split
 ·rename_i hw;simp only[hw,kK]at h;rcases h with h|⟨_,h⟩
  ·exact Oper.wpIn_mono (λ a' w' ⟨h1,v,ds,e⟩=>hK a' w' h1 (by rw[e];exact LH hk a ds v)) (Uq hF hd hno hQ h)
  ·exact absurd h hno
 ·rename_i hw;simp only[hw]at h;exact⟨λ f _=>hF.fn f,hK _ _ h (LH hk a a.defers undef)⟩
def QTm(kp:Nat→Bool)(a0:Act)(Q:Exit→Act→World→Prop):Exit→Act→World→Prop:=λ e a w=>Q e a w∧(e=.normal→tmk kp a0 a)
theorem Hc(hl:IY kp ops.toList=true){i:Nat}{o:Oper}(ho:ops[i]?=some o):PF o=true∧IX kp o=true:=by
 have:=qI.1 hl o (aB (i:=i) (by rw[bJ];exact ho));simpa using this
theorem Hd(hF:FOk F P)(hl:IY kp ops.toList=true)(hno: ¬ LetsOut Q){a0:Act}:∀ (l:List Nat) (a:Act) (w:World),wpOps P ops Q l a w→tmk kp a0 a→wpOpsIn F m P ops (QTm kp a0 Q) l a w
 |[],a,w,h,ht=>⟨h,λ _=>ht⟩
 | i::l,a,w,h,ht=>by
  simp only[wpOps]at h;simp only[wpOpsIn]
  cases ho:ops[i]? with
  |none=>rw[ho]at h;exact Hd hF hl hno l a w h ht
  |some o=>
   rw[ho]at h;obtain⟨h1,h2⟩:=Hc hl ho;exact Kr (ops:=ops) hF h1 h2 hno (λ c a w q=>⟨q,λ e=>by cases e⟩) h λ a' w' hk hm=>Hd hF hl hno l a' w' hk (ht.trans hm)
theorem Bx(hF:FOk F P)(hl:IY kp ops.toList=true)(hno: ¬ LetsOut Q){a0:Act}:∀ (fuel:Nat) (listed:Array Bool) (a:Act) (w:World),wpAny P .any ops Q fuel listed a w→tmk kp a0 a→wpAnyIn F m P .any ops (QTm kp a0 Q) fuel listed a w
 |0,listed,a,w,h,ht=>⟨h.1,h.2,λ _=>ht⟩
 | fuel+1,listed,a,w,h,ht=>by
  refine⟨λ hr=>⟨h.1 hr,λ _=>ht⟩,λ i hi=>?_⟩;have h1:=h.2 i hi;unfold wpOp at h1;unfold wpOpIn
  cases ho:ops[i]? with
  |none=>rw[ho]at h1;exact Bx hF hl hno fuel _ a w h1 ht
  |some o=>
   rw[ho]at h1;obtain⟨h2,h3⟩:=Hc hl ho;exact Kr (ops:=ops) hF h2 h3 hno (λ c a w q=>⟨q,λ e=>by cases e⟩) h1 λ a' w' hk hm=>Bx hF hl hno fuel _ a' w' hk (ht.trans hm)
end
def Inv.still(fr:Nat)(S00:Nat→Prop)(w00:World):Inv fr:=
  ⟨λ S w _=>(∀ b,S00 b→S b∧w.heap[b]?=w00.heap[b]?)∧w00.heap.size≤w.heap.size,
   λ h K=>⟨λ b hb=>⟨K.hS b (h.1 b hb).1,(K.hE.stable b (h.1 b hb).1).trans (h.1 b hb).2⟩,aL h.2 K.hB.size⟩,
   λ h _=>h,λ h _=>⟨λ b hb=>⟨.inl (h.1 b hb).1,(h.1 b hb).2⟩,h.2⟩,λ h e=>⟨λ b hb=>by rw[e];exact h.1 b hb,by rw[e];exact h.2⟩⟩
def nX(N:Nat)(kp:Nat→Bool):Code→Bool
 | .region _ ops _=>uD N ops.toList&&IY kp ops.toList
 | .seq a b=>nX N kp a&&nX N kp b
 | .cond _ a b=>nX N kp a&&nX N kp b
 | .block _ b=>nX N kp b
 | .loop _=>false
 |_=>true
section
variable {F:Fence}{m:Nat}{C:Ctx}{V:Inv C.fr}{w0:World}{S0:Nat→Prop}{N:Nat}{kp:Nat→Bool}{a0:Act}
def Xz(C:Ctx)(V:Inv C.fr)(w0:World)(S0:Nat→Prop)(N:Nat)(kp:Nat→Bool)(a0:Act)(Q:AEx→ASt→Prop)(e:Exit)(a:Act)(w:World):Prop:=∃ e' st S β,e=ES e'∧Q e' st∧SimD C V w0 S0 N (· <st.n) st.t st.h a w S β∧tmk kp a0 a
theorem AD(hF:FOk F C.P)(hC:CtxOk C):∀ (c:Code),nX N kp c=true→∀ (st:ASt) (Q:AEx→ASt→Prop),gC C (bY C) c st Q→∀ (a:Act) (w:World) (S:Nat→Prop) (β:Bt),SimD C V w0 S0 N (· <st.n) st.t st.h a w S β→tmk kp a0 a→
  c.wpIn F m C.P (Xz C V w0 S0 N kp a0 Q) a w:=by
 intro c
 induction c with
 |skip=>intro _ st Q hq a w S β M ht;exact wpIn_skip ⟨.normal,st,S,β,rfl,hq,M,ht⟩
 |label l=>intro _ st Q hq a w S β M ht;exact wpIn_label ⟨.normal,st,S,β,rfl,hq,M,ht⟩
 |exit id=>intro _ st Q hq a w S β M ht;exact wpIn_exit ⟨.exit id,st,S,β,rfl,hq,M,ht⟩
 |ret=>intro _ st Q hq a w S β M ht;exact wpIn_ret ⟨.ret,st,S,β,rfl,hq,M,ht⟩
 | region id ops dr=>
  intro hk st Q hq a w S β M ht;simp only[nX,aK]at hk;obtain⟨t,h,n⟩:=st;simp only[gC]at hq;obtain⟨Q2,hQ2⟩:∃ Q2:Exit→Act→World→Prop,Q2=λ e a w=>e=.normal∧∃ st S β,Q .normal st∧SimD C V w0 S0 N (· <st.n) st.t st.h a w S β:=⟨_,rfl⟩;have hno: ¬ LetsOut Q2:=by rintro ⟨a,w,h⟩;rw[hQ2]at h;cases h.1
  have fin:∀ e a w,QTm kp a0 Q2 e a w→Xz C V w0 S0 N kp a0 Q e a w:=by
   rintro e a w ⟨h1,h2⟩;rw[hQ2]at h1;obtain⟨rfl,st,S,β,h3,h4⟩:=h1;exact⟨.normal,st,S,β,rfl,h3,h4,h2 rfl⟩
  have mk:∀ st' a' w' S' β',Q .normal st'→SimD C V w0 S0 N (· <st'.n) st'.t st'.h a' w' S' β'→Q2 .normal a' w':=λ st' a' w' S' β' h1 h2=>by rw[hQ2];exact⟨rfl,st',S',β',h1,h2⟩
  cases dr with
  |false=>
   simp only[sM]at hq;have:=Di (Q:=Q2) (K:=Q .normal) hC (ops:=ops) rfl hk.1 ops.toList 0 t h a w S β rfl hq M mk;rw[show List.range' 0 ops.toList.length=List.range ops.size by rw[nD,dO]]at this
   exact wpIn_mono (wpIn_region (Hd hF hk.2 hno _ a w this ht)) fin
  | true=>
   simp only[lP]at hq;refine wpIn_mono (wpIn_region_any hC.mixed (Q:=QTm kp a0 Q2) ?_) fin
   cases hl:HJ ops.toList with
   |true=>
    rw[hl]at hq;rcases hq with hq|⟨_,hq⟩
    rotate_left
    ·exact Bx hF hk.2 hno _ _ _ _ (Df (C:=C.noH) (V:=V) hC.noH (λ _ _ _ _ _ h=>h) hk.1 hq (SimD.noH M) (λ st' a' w' S' β' hk' M'=>mk st' a' w' S' β' hk' (SimD.ofNoH M'))) ht
    have M':=M.drawn (w.drawn+1)
    exact Bx hF hk.2 hno _ _ _ _ (BD (C:=C.noH) (V:=V) hC.noH (λ _ _ _ _ _ h=>h) hk.1 (λ st' a' w' S' β' hk' M'=>mk st' a' w' S' β' hk' (SimD.ofNoH M')) ops.size _ t h a _ S β (by simp) hq ⟨M'.T,M'.H,M'.B,λ y l hy=>.inl (M'.dom y l hy),M'.df,M'.sz,M'.G,M'.nw,M'.iv⟩) ht
   |false=>
   rw[hl]at hq;have hd:HI ops.toList=true:=by simp only[HJ,dT,oV]at hl;exact hl.2
   exact Bx hF hk.2 hno _ _ _ _ (EW (C:=C.noH) (V:=V) hC.noH (λ _ _ _ _ _ h=>h) hk.1 hd hq (SimD.noH M) (λ st' a' w' S' β' hk' M'=>mk st' a' w' S' β' hk' (SimD.ofNoH M'))) ht
 | seq x y ihx ihy=>
  intro hk st Q hq a w S β M ht;simp only[nX,aK]at hk;simp only[gC]at hq;rcases hq with hq|hq|hq
  ·refine wpIn_seq (wpIn_mono (ihx hk.1 st _ hq a w S β M ht) ?_);rintro e a' w' ⟨e',st',S',β',rfl,h1,h2,h3⟩
   cases e' with
   |normal=>exact ihy hk.2 st' Q h1 a' w' S' β' h2 h3
   |exit i=>exact⟨.exit i,st',S',β',rfl,h1,h2,h3⟩
   |ret=>exact⟨.ret,st',S',β',rfl,h1,h2,h3⟩
  ·refine wpIn_seq (wpIn_mono (ihx hk.1 st _ hq a w S β M ht) ?_);rintro e a' w' ⟨e',st',S',β',rfl,h1,h2,h3⟩
   cases e' with
   |normal=>
    obtain⟨st2,g1,g2⟩:=h1;obtain⟨S2,h4⟩:=mV g1 h2
    exact ihy hk.2 st2 Q g2 a' w' S2 β' h4 h3
   |exit i=>exact⟨.exit i,st',S',β',rfl,h1,h2,h3⟩
   |ret=>exact⟨.ret,st',S',β',rfl,h1,h2,h3⟩
  ·refine wpIn_seq (wpIn_mono (ihx hk.1 st _ hq a w S β M ht) ?_);rintro e a' w' ⟨e',st',S',β',rfl,h1,h2,h3⟩
   cases e' with
   |normal=>
    obtain⟨st2,g1,st3,σ,hW,hf,g2⟩:=h1;obtain⟨S2,h4⟩:=mV g1 h2
    exact ihy hk.2 st3 Q g2 a' w' S2 _ (oZ hW hf h4) h3
   |exit i=>exact⟨.exit i,st',S',β',rfl,h1,h2,h3⟩
   |ret=>exact⟨.ret,st',S',β',rfl,h1,h2,h3⟩
 | cond c x y ihx ihy=>
  intro hk st Q hq a w S β M ht;simp only[nX,aK]at hk;simp only[gC]at hq;split at hq
  ·rename_i b hb;obtain⟨h1,h2⟩:=hq;have hv:=tR M c;rw[hb]at hv;refine wpIn_cond_split (kW hv) (λ htt=>ihx hk.1 st Q (h1 htt) a w S β M ht) (λ hf=>ihy hk.2 st Q (h2 hf) a w S β M ht)
  ·exact hq.elim
 | block id b ih=>
  intro hk st Q hq a w S β M ht;simp only[nX]at hk;simp only[gC]at hq;refine wpIn_block (wpIn_mono (ih hk st _ hq a w S β M ht) ?_);rintro e a' w' ⟨e',st',S',β',rfl,h1,h2,h3⟩
  cases e' with
  |normal=>exact⟨.normal,st',S',β',rfl,h1,h2,h3⟩
  |ret=>exact⟨.ret,st',S',β',rfl,h1,h2,h3⟩
  | exit i=>
   show Exit.inBlock id _ (.exit i) a' w';simp only at h1;simp only[Exit.inBlock];by_cases hi:i=id
   ·subst hi;rw[if_pos rfl];rw[show Nat.beq i i=true from mS i]at h1;exact⟨.normal,st',S',β',rfl,h1,h2,h3⟩
   ·rw[if_neg hi];have:Nat.beq i id=false:=by rw[←eI];exact λ e=>hi (aM e)
    rw[this]at h1
    exact⟨.exit i,st',S',β',rfl,h1,h2,h3⟩
 |loop b ih=>intro hk;simp[nX]at hk
 |_=>intro _ st Q hq;exact hq.elim
theorem AE(hF:FOk F C.P)(hC:CtxOk C)(nH:NoH C){ops:Array Oper}{all:List Oper}(hall:ops.toList=all)(hb:uD N all=true)(hl:IY kp all=true){K:ASt→Prop}{Q:Exit→Act→World→Prop}{n:Nat}(post:List Nat):∀ (rest:List Oper) (j:Nat) (t:Nat→AV) (h:AH) (a:Act) (w:World) (S:Nat→Prop) (β:Bt),(∃ q,all.drop j=rest++q)→kL C (bY C) all rest j ⟨t,h,n⟩ K→SimD C V w0 S0 N (· <n+j) t h a w S β→tmk kp a0 a→
  (∀ st a' w' S' β',K st→SimD C V w0 S0 N (· <st.n) st.t st.h a' w' S' β'→tmk kp a0 a'→wpOpsIn F m C.P ops Q post a' w')→wpOpsIn F m C.P ops Q (List.range' j rest.length++post) a w
 |[],j,t,h,a,w,S,β,_,hr,M,ht,hQ=>hQ ⟨t,h,n+j⟩ a w S β hr M ht
 | o::rest,j,t,h,a,w,S,β,⟨q,hdrop⟩,hr,M,ht,hQ=>by
  obtain⟨x,h',h1,h2⟩:=(step_inv hr).resolve_right (λ⟨_,f,args,Post,_,hh,_⟩=>nH _ _ _ _ _ hh);have hj:all[j]?=some o:=by
   have:(all.drop j)[0]?=some o:=by rw[hdrop];rfl
   simpa using this
  have hoj:ops[j]?=some o:=by rw[←hj, ←hall,bJ]
  have hmem:o∈all:=aB hj;have hs:β (n+j)=none:=by
   cases hq:β (n+j)with
   |none=>rfl
   |some l=>have:=M.dom _ _ hq;omega
  obtain⟨l1,l2⟩:=Hc (ops:=ops) (kp:=kp) (by rw[hall];exact hl) hoj;rw[bN,nA,mZ];simp only[wpOpsIn,hoj];obtain⟨Q2,hQ2⟩:∃ Q2:Exit→Act→World→Prop,Q2=λ _ _ _=>False:=⟨_,rfl⟩;refine Kr (ops:=ops) (Q:=Q2) hF l1 l2 (by rintro ⟨a,w,h⟩;rw[hQ2]at h;exact h) (λ c a w h=>by rw[hQ2]at h;exact h.elim)
   (wI (K:=λ a' w'=>∃ S' β',SimD C V w0 S0 N (λ y=>y<n+j∨y=n+j) (yO t o.dst x) h' a' w' S' β') hC M hs hall h1 (vJ hb hmem) (λ i pol d _ hd=>AN hb i d hd) λ a' w' S' β' M'=>⟨S',β',M'⟩) ?_
  rintro a' w' ⟨S',β',M'⟩ hm;refine AE hF hC nH hall hb hl post rest (j+1) _ h' a' w' S' β' ⟨q,?_⟩ h2 ?_ (ht.trans hm) hQ
  ·rw[←kJ,hdrop];rfl
  ·exact⟨M'.T,M'.H,M'.B,λ y l hy=>(M'.dom y l hy).elim (λ (h:y<n+j)=>show y<n+(j+1) by omega) (λ (h:y=n+j)=>show y<n+(j+1) by omega),M'.df,M'.sz,M'.G,M'.nw,M'.iv⟩
end
structure Same(K:Nat→Prop)(w w':World):Prop where
 os:w'.os=w.os
 tape:w'.tape=w.tape
 output:w'.output=w.output
 size:w.heap.size≤w'.heap.size
 block:∀ b,b<w.heap.size→K b→w'.heap[b]?=w.heap[b]?
theorem Same.refl(K:Nat→Prop)(w:World):Same K w w:=⟨rfl,rfl,rfl,aC _,λ _ _ _=>rfl⟩
theorem Same.trans{K:Nat→Prop}{a b c:World}(h:Same K a b)(k:Same K b c):Same K a c:=
 ⟨k.os.trans h.os,k.tape.trans h.tape,k.output.trans h.output,aL h.size k.size,λ x hx hk=>(k.block x (Nat.lt_of_lt_of_le hx h.size) hk).trans (h.block x hx hk)⟩
theorem Same.mono{K K':Nat→Prop}{a b:World}(h:Same K a b)(hk:∀ x,x<a.heap.size→K' x→K x):Same K' a b:=⟨h.os,h.tape,h.output,h.size,λ x hx hx'=>h.block x hx (hk x hx hx')⟩
theorem Same.of_below{K:Nat→Prop}{n:Nat}{a b:World}(h:Below n a b)(hk:∀ x,K x→x<n):Same K a b:=⟨h.os,h.tape,h.output,h.size,λ x _ hx=>h.block x (hk x hx)⟩
theorem Hb{F:Fence}{m:Nat}{P:Program}{ops:Array Oper}{Q:Exit→Act→World→Prop}{i:Nat}{rest:List Nat}{o:Oper}{a:Act}{w:World}(ho:ops[i]?=some o)(hg:o.guard=none)(h:o.wpIn F m P a w (wpOpsIn F m P ops Q rest) Q):wpOpsIn F m P ops Q (i::rest) a w:=by
 have:Region.wanted o (yielded ops a.tmps)=true:=by simp[Region.wanted,hg]
 simp only[wpOpsIn,ho,this,kK];exact h
theorem Kq{F:Fence}{m l:Nat}{P:Program}(hF:FOk F P){o:Oper}{f:Operand}{args:Array Operand}{ats:Array TypeId}{vs:Array Value}{a:Act}{w:World}{K:Act→World→Prop}{Q:Exit→Act→World→Prop}{R:Bool→World→Prop}
  (ho:o.op=.call {callee:=.value f,args:=args,argTypes:=ats}) (hf:a.eval f=.func (.yield l) #[] #[]) (ha:args.map a.eval=vs) (hy:YieldAt F m P l vs w λ e w'=>∃ b,e=.returned (.bool b)∧R b w')
  (hK:∀ b w',R b w'→K (a.put o.dst (.bool b)) w'):o.wpIn F (m+1) P a w K Q:=by
 obtain⟨fn,tmps,assign,body,hy,hR⟩:=hy;unfold Oper.wpIn;refine⟨λ f _=>hF.fn f,?_⟩;rw[Oper.semAt_eq _ _ _ (λ c hc=>by rw[ho]at hc;cases hc)];have he:(execOp a.eval o).run P w=.ok (.round l fn tmps assign body) w:=by
  rw[←hy];simp only[execOp,ho,resolve,Deferred.ofValue,hf,ha];simp[invoke]
 rw[he,Oper.uponIn_round];refine⟨λ hd=>(by rw[hF.dep]at hd;cases hd),hR.mono ?_⟩;rintro e w' ⟨b,rfl,hr⟩;exact hK b w' hr
def Wf{α:Type}(P:Program)(g:Nat)(lb:Array Value)(encs:α→Array Value)(xs:List α)(R:Nat→Prop)(w:World):Prop:=
 ∀ (l:Nat) (J:Bool→(Nat→Prop)→List α→World→Prop) (C0:Nat→Prop) (W:World),
  Same R w W→(∀ b,R b→ ¬ C0 b)→
  (∀ s C pre A B,J s C pre A→Same (λ b=>b<W.heap.size∨C b) A B→J s C pre B)→
  (∀ s C pre A,J s C pre A→∀ b,C b→b<A.heap.size)→
  (∀ C pre x A,J false C pre A→pre++[x] <+: xs→YieldAt Fence.wide 1 P l (encs x) A λ e B=>∃ b,e=.returned (.bool b)∧
   ∃ C',J (!b) C' (pre++[x]) B∧Same (λ b=> ¬ C b) A B∧(∀ b,C' b→C b∨A.heap.size≤b))→
  J false C0 [] W→
  Calls P g (#[.func (.yield l) #[] #[]]++lb) W λ e W'=>(∃ v,e=.returned v)∧((∃ C,J false C xs W')∨∃ C pre,pre <+: xs∧J true C pre W')
theorem Ef{α:Type}{P:Program}{g:Operand}{ps:Array Tmp}{assign body:Code}{Q:Exit→Act→World→Prop}{a:Act}{w:World}
  {gf:Nat} {lb:Array Value} (hg:a.eval g=.func (.func gf) #[] lb) (eg:∀ args w,(callFunc gf args).run P w=.ok (.enter gf args) w)
  {encs:α→Array Value} {xs:List α} {R:Nat→Prop} {w0:World} (hseq:Wf P gf lb encs xs R w0) (hR:Same R w0 w) (hRlt:∀ b,R b→b<w0.heap.size) (hps:∀ x,(encs x).size=ps.size)
  (I Ix:(Nat→Prop)→List α→World→Prop) (IA:(Nat→Prop)→List α→α→Act→World→Prop) (C0:Nat→Prop) (hC0:∀ b,C0 b→b<w.heap.size) (hCR:∀ b,R b→ ¬ C0 b)
  (hI:∀ C pre A B,I C pre A→Same (λ b=>b<w.heap.size∨C b) A B→I C pre B)
  (hIx:∀ C pre A B,Ix C pre A→Same (λ b=>b<w.heap.size∨C b) A B→Ix C pre B)
  (hIA:∀ C pre x a A B,IA C pre x a A→Same (λ b=>b<w.heap.size∨C b) A B→IA C pre x a B)
  (hlt:∀ C pre A,I C pre A→∀ b,C b→b<A.heap.size) (hltx:∀ C pre A,Ix C pre A→∀ b,C b→b<A.heap.size)
  (h0:I C0 [] w)
  (hassign:∀ (l:Nat) (C:Nat→Prop) (pre:List α) (x:α) (A:World),I C pre A→pre++[x] <+: xs→w.heap.size≤A.heap.size→
   assign.wpIn (Fence.wide.inRound l) 1 P (Exit.then (λ a1 B=>∃ C',IA C' pre x a1 B∧Same (λ b=> ¬ C b) A B∧(∀ b,C' b→C b∨A.heap.size≤b)) (λ _ _ _=>False))
    {tmps:=(ps.zip (encs x)).foldl (λ t (p,v)=>t.setIfInBounds p v) a.tmps,defers:=[]} A)
  (hbody:∀ (l:Nat) (C:Nat→Prop) (pre:List α) (x:α) (a1:Act) (A:World),IA C pre x a1 A→pre++[x] <+: xs→w.heap.size≤A.heap.size→
   body.wpIn (Fence.wide.inRound l) 1 P (λ e _ B=>∃ C',Same (λ b=> ¬ C b) A B∧(∀ b,C' b→C b∨A.heap.size≤b)∧((e=.normal∧I C' (pre++[x]) B)∨(e=.ret∧Ix C' (pre++[x]) B))) a1 A)
  (hdone:∀ (D:Nat) (C:Nat→Prop) (W:World),w.heap.size≤D→I C xs W→ ¬ C D→W.heap[D]?=some (.deferred (some []))→Q .normal {a with defers:={target:=.collected D,args:= #[]}::a.defers} W)
  (hstop:∀ (D:Nat) (C:Nat→Prop) (pre:List α) (W:World),w.heap.size≤D→pre <+: xs→Ix C pre W→ ¬ C D→W.heap[D]?=some (.deferred (some []))→Q .ret {a with defers:={target:=.collected D,args:= #[]}::a.defers} W):
  (Code.rangeFunc g ps assign body).wp P Q a w:=by
 refine (wpIn_wide (n:=3)).1 (wpIn_rangeFunc ?_);intro fn hfn;show ∃ _,_;obtain⟨rec,hrec⟩:∃ rec:LoopState→Option Code→Loop,rec=λ st pe=>{state:=st,pending:=pe,fn,tmps:=a.tmps,params:=ps,assign,body,defers:=w.heap.size}:=⟨_,rfl⟩;obtain⟨W1,hW1⟩:∃ W1,(w.alloc (.deferred (some []))).alloc (.loop (rec .ready none))=W1:=⟨_,rfl⟩;have hs1:W1.heap.size=w.heap.size+2:=by rw[←hW1];simp
 have hL1:W1.heap[w.heap.size+1]?=some (.loop (rec .ready none)):=by
  rw[←hW1];have:=World.alloc_heap_new (w.alloc (.deferred (some []))) (.loop (rec .ready none));rwa [World.size_alloc]at this
 have hK1:W1.heap[w.heap.size]?=some (.deferred (some [])):=by
  rw[←hW1];exact (Below.heap_alloc _ _ _ (by simp)).trans (World.alloc_heap_new w _)
 have hb1:Below w.heap.size w W1:=by
  rw[←hW1];exact ((Below.refl _ w).alloc (aC _) _).alloc (by simp) _
 have hput:∀ (K:Nat→Prop) (A:World) (o:Obj), ¬ K (w.heap.size+1)→Same K A (A.putObj (w.heap.size+1) o):=λ K A o hk=>
  ⟨rfl,rfl,rfl,by simp,λ b _ hb=>World.putObj_heap_other (λ e=>hk (e ▸ hb))⟩
 refine⟨w.heap.size+1,[{target:=.collected w.heap.size,args:= #[]}],W1,{target:=.fn (.func gf) lb,args:= #[.func (.yield (w.heap.size+1)) #[] #[]]},W1,gf,
  #[.func (.yield (w.heap.size+1)) #[] #[]]++lb,W1,?_,?_,?_,?_,λ _=>by omega,?_⟩
 ·rw[←hW1,hrec];exact run_enterLoop_outer _ _ _ _ _
 ·simp only[resolve,hg];simp[go_sem]
 ·intro f' _;trivial
 ·simp[invoke,go_sem,eg]
 ·refine callsIn_wide.2 ((hseq (w.heap.size+1)
   (λ s CC pre A=>∃ C,(bif s then Ix else I) C pre A∧(∀ b,CC b↔C b∨b=w.heap.size+1)∧(∀ b,C b→b<w.heap.size∨w.heap.size+1<b)∧A.heap[w.heap.size+1]?=some (.loop (bif s then rec .done (some .ret)else rec .ready none))∧A.heap[w.heap.size]?=some (.deferred (some [])))
   (λ b=>C0 b∨b=w.heap.size+1) W1 ?_ ?_ ?_ ?_ ?_ ?_).mono ?_)
  ·exact hR.trans (Same.of_below hb1 λ x hx=>Nat.lt_of_lt_of_le (hRlt x hx) hR.size)
  ·rintro b hb (h|h)
   ·exact hCR b hb h
   ·have:=hRlt b hb;have:=hR.size;omega
  ·rintro s CC pre A B ⟨C,hi,hc,hcl,hl,hk⟩ hs;have l1:=(CI.1 hl).1;have l2:=(CI.1 hk).1;refine⟨C,?_,hc,hcl,(hs.block _ l1 (.inl (by omega))).trans hl,(hs.block _ l2 (.inl (by omega))).trans hk⟩;have hs':Same (λ b=>b<w.heap.size∨C b) A B:=hs.mono λ x _ hx=>hx.elim (λ h=>.inl (by omega)) (λ h=>.inr ((hc x).2 (.inl h)));cases s
   ·exact hI C pre A B hi hs'
   ·exact hIx C pre A B hi hs'
  ·rintro s CC pre A ⟨C,hi,hc,hcl,hl,hk⟩ b hb;rcases (hc b).1 hb with h|h
   ·cases s
    ·exact hlt C pre A hi b h
    ·exact hltx C pre A hi b h
   ·rw[h];exact (CI.1 hl).1
  ·
   rintro CC pre x A ⟨C,hi,hc,hcl,hl,hk⟩ hpre;have l1:=(CI.1 hl).1;have hnr: ¬ C (w.heap.size+1):=λ h=>by have:=hcl _ h;omega
   have hnd: ¬ C (w.heap.size):=λ h=>by have:=hcl _ h;omega
   have hy:=run_yield (P:=P) (args:=encs x) hl (by rw[hrec];exact hps x);rw[hrec]at hy;refine⟨fn,_,assign,body,hy,roundIn_of_wpIn trivial (wpIn_mono (hassign _ C pre x A hi hpre (by omega)) ?_)⟩;intro e a1 B hB;cases e<;>try exact hB.elim
   obtain⟨C',hia,hsB,hgrow⟩:=hB;have hlB:B.heap[w.heap.size+1]?=some (.loop (rec .ready none)):=(hsB.block _ l1 hnr).trans hl;have hkB:B.heap[w.heap.size]?=some (.deferred (some [])):=(hsB.block _ (by omega) hnd).trans hk;have hnr': ¬ C' (w.heap.size+1):=λ h=>(hgrow _ h).elim hnr (λ h=>by omega);have hnd': ¬ C' (w.heap.size):=λ h=>(hgrow _ h).elim hnd (λ h=>by omega);have lB:=(CI.1 hlB).1;refine⟨_,run_beginRound hlB (by rw[hrec]),?_⟩;have hl2:(B.putObj (w.heap.size+1) (.loop {rec .ready none with state:=.busy})).heap[w.heap.size+1]?=some (.loop {rec .ready none with state:=.busy}):=World.putObj_heap_same lB;have hk2:(B.putObj (w.heap.size+1) (.loop {rec .ready none with state:=.busy})).heap[w.heap.size]?=some (.deferred (some [])):=(World.putObj_heap_other (by omega)).trans hkB;have hia2:=hIA C' pre x a1 B _ hia (hput (λ b=>b<w.heap.size∨C' b) B (.loop {rec .ready none with state:=.busy}) (by rintro (h|h);omega;exact hnr' h));refine wpIn_mono (hbody _ C' pre x a1 _ hia2 hpre (by simp;omega)) ?_;rintro e a3 W3 ⟨C3,hs3,hg3,hi3⟩;have hl3:W3.heap[w.heap.size+1]?=some (.loop {rec .ready none with state:=.busy}):=(hs3.block _ (by simp;omega) hnr').trans hl2;have hk3:W3.heap[w.heap.size]?=some (.deferred (some [])):=(hs3.block _ (by simp;omega) hnd').trans hk2;have l3:=(CI.1 hl3).1;have hnr3: ¬ C3 (w.heap.size+1):=λ h=>(hg3 _ h).elim hnr' (λ h=>by simp at h;omega);have hcl3:∀ b,C3 b→b<w.heap.size∨w.heap.size+1<b:=by
    intro b hb;rcases hg3 b hb with h|h
    ·rcases hgrow b h with h|h
     ·exact hcl b h
     ·right;omega
    ·simp at h;right;omega
   have hcat:∀ o,Same (λ b=> ¬ CC b) A (W3.putObj (w.heap.size+1) o):=λ o=>by
    have q1:Same (λ b=> ¬ CC b) A B:=hsB.mono λ b _ hb h=>hb ((hc b).2 (.inl h));have q2:Same (λ b=> ¬ CC b) B (B.putObj (w.heap.size+1) (.loop {rec .ready none with state:=.busy})):=hput _ _ _ (λ h=>h ((hc _).2 (.inr rfl)));have q4:Same (λ b=> ¬ CC b) W3 _:=hput (λ b=> ¬ CC b) W3 o (λ h=>h ((hc _).2 (.inr rfl)));refine Same.trans ?_ q4;have q3:∀ b,b<A.heap.size→ ¬ CC b→W3.heap[b]?=A.heap[b]? :=λ b hb hcc=>by
     have nC: ¬ C b:=λ h=>hcc ((hc b).2 (.inl h));have nC': ¬ C' b:=λ h=>(hgrow b h).elim nC (λ h=>by omega);rw[hs3.block b (by simp;exact Nat.lt_of_lt_of_le hb hsB.size) nC',q2.block b (Nat.lt_of_lt_of_le hb hsB.size) hcc,q1.block b hb hcc]
    exact⟨hs3.os.trans hsB.os,hs3.tape.trans hsB.tape,hs3.output.trans hsB.output,aL hsB.size (by have:=hs3.size;simpa using this),q3⟩
   have grow:∀ b,(C3 b∨b=w.heap.size+1)→CC b∨A.heap.size≤b:=by
    rintro b (h|h)
    ·rcases hg3 b h with h|h
     ·exact (hgrow b h).imp (λ h=>(hc b).2 (.inl h)) id
     ·exact .inr (aL hsB.size (by simpa using h))
    ·exact .inl ((hc b).2 (.inr h))
   rcases hi3 with ⟨rfl,hi3⟩|⟨rfl,hi3⟩
   ·have hr:=run_endRound (P:=P) (none:Option Code) hl3;refine⟨_,_,hr,true,rfl,λ b=>C3 b∨b=w.heap.size+1,⟨C3,?_,λ b=>Iff.rfl,hcl3,?_,?_⟩,hcat _,grow⟩
    ·exact hI C3 _ W3 _ hi3 (hput _ W3 _ (by rintro (h|h);omega;exact hnr3 h))
    ·rw[World.putObj_heap_same l3,hrec];rfl
    ·exact (World.putObj_heap_other (by omega)).trans hk3
   ·have hr:=run_endRound (P:=P) (some Code.ret) hl3;refine⟨_,_,hr,false,rfl,λ b=>C3 b∨b=w.heap.size+1,⟨C3,?_,λ b=>Iff.rfl,hcl3,?_,?_⟩,hcat _,grow⟩
    ·exact hIx C3 _ W3 _ hi3 (hput _ W3 _ (by rintro (h|h);omega;exact hnr3 h))
    ·rw[World.putObj_heap_same l3,hrec];rfl
    ·exact (World.putObj_heap_other (by omega)).trans hk3
  ·refine⟨C0,hI C0 [] w W1 h0 (Same.of_below hb1 λ x hx=>hx.elim id (hC0 x)),λ b=>Iff.rfl,λ b hb=>.inl (hC0 b hb),hL1,hK1⟩
  ·
   rintro e W2 ⟨⟨v,rfl⟩,⟨CC,C,hi,hc,hcl,hl,hk⟩|⟨CC,pre,hpre,C,hi,hc,hcl,hl,hk⟩⟩
   ·have hnr: ¬ C (w.heap.size+1):=λ h=>by have:=hcl _ h;omega
    have hnd: ¬ C (w.heap.size):=λ h=>by have:=hcl _ h;omega
    refine⟨none,_,by have:=run_endLoop (P:=P) hl (by rw[hrec];simp);rw[hrec]at this;exact this,?_⟩;exact hdone w.heap.size C _ (aC _) (hI C xs W2 _ hi (hput _ W2 _ (by rintro (h|h);omega;exact hnr h))) hnd ((World.putObj_heap_other (by omega)).trans hk)
   ·have hnr: ¬ C (w.heap.size+1):=λ h=>by have:=hcl _ h;omega
    have hnd: ¬ C (w.heap.size):=λ h=>by have:=hcl _ h;omega
    refine⟨some .ret,_,by have:=run_endLoop (P:=P) hl (by rw[hrec];simp);rw[hrec]at this;exact this,wpIn_ret ?_⟩;exact hstop w.heap.size C pre _ (aC _) hpre (hIx C pre W2 _ hi (hput _ W2 _ (by rintro (h|h);omega;exact hnr h))) hnd ((World.putObj_heap_other (by omega)).trans hk)
end Go.Proofs.YtlhofpglndhfaaaGreatDoor
