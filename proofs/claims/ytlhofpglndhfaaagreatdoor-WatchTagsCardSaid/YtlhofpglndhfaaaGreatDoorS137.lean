/- Joined texts. -/
import Derived.Test.YtlhofpglndhfaaaGreatDoorS101
import Derived.Test.YtlhofpglndhfaaaGreatDoorS128
import Derived.Test.YtlhofpglndhfaaaGreatDoorS136
set_option linter.unusedVariables false
set_option linter.unusedSimpArgs false
namespace Go.Proofs.YtlhofpglndhfaaaGreatDoor
set_option maxRecDepth 100000
set_option maxHeartbeats 4000000
open Go.RowKit
structure Seen where
 data:List (List Wy)
 words:List (List Wy)
 bus:List Req
 pcs:List Nat
abbrev seL(s:Seen):List AV:=[.sl 1 (s.data.map bC) false,.sl 1 (s.words.map bC) false,.sl 4 (s.bus.map rqL) false,.sl 1 (s.pcs.map eX) false]
def UD(x:Req):Req:=⟨x.kind,x.line,0,oC⟩
abbrev NO(x:Req):List AV:=[.v (.int .i64 x.kind),.v (.int .u32 (x.line:Int)),.v (.int .i64 0),.v (.string oC)]
abbrev pcL(x:Sp):List AV:=[.v (.int .u32 (x.pc:Int))]
def JW(b:Int):Int:=if 0>b then 0 else b
def YN(c:Co)(before:Int):Seen:=⟨iI c.data,iI c.words,c.bus.map UD,(c.retired.drop (JW before).toNat).map (·.pc)⟩
structure Co.okW(c:Co):Prop where
 data:c.data.ok
 words:c.words.ok
 bus:c.bus.length≤1000000
 busr:∀ x∈c.bus,x.line≤4294967295
 ret:c.retired.length≤1000000
 retr:∀ x∈c.retired,x.pc≤4294967295
theorem Gk{α:Type}(f:α→List AV)(l:List α){j:Nat}(h:j<l.length):(List.take j (List.drop 0 ((l.take j).map f))).length=j:=by simp;omega
theorem WN{α:Type}(f:α→List AV)(l:List α){x:α}(hx:l[0]?=some x):[f x]=(l.take 1).map f:=by
 cases l with
 |nil=>cases hx
 |cons y l=>injection hx with hx;subst hx;rfl
theorem ZQ{α:Type}(f:α→List AV)(l:List α){x:α}{j:Nat}(hx:l[j]?=some x):List.take j (List.drop 0 ((l.take j).map f))++[f x]=(l.take (j+1)).map f:=by
 obtain⟨hj,hx'⟩:=Dq.1 hx;rw[cA,aL (by simp;omega),bR,hx];simp
theorem MB{α:Type}(f:α→List AV)(l:List α){j:Nat}(h:j=l.length):List.take j (List.drop 0 ((l.take j).map f))=l.map f:=by
 subst h;rw[cA,cS,aL (by simp)]
theorem ZR(c:Co)(before:Int)(hok:c.okW):bX C0 79 [.agg (coL c),.v (.int .i64 before)] (.agg (seL (YN c before))):=by
 refine bX.intro c0Ok Tryz.func79 rfl rfl (by kernel_rfl) rfl ?_;obtain⟨B,hB⟩:∃ B:Nat,(if 0>before then 0 else before)=(B:Int):=⟨(JW before).toNat,by unfold JW;split<;>omega⟩;refine cSR<|rAl 0 rfl rfl<|rAl 1 rfl rfl<|rE 2<|cSR<|oR 2 rfl<|rCi rfl (XU c.data false hok.data)<|oR 2 rfl<|rCi rfl (XU c.words false hok.words)<|rV (.agg [.sl 1 ((iI c.data).map bC) false,.sl 1 ((iI c.words).map bC) false,.sl 0 ([]) true,.sl 0 ([]) true]) rfl<|rAl 9 rfl rfl<|rSt rfl<|rE 11<|bW<|cSR<|oR 2 rfl<|rW (vN c.bus.length) rfl (bY rqL c.bus)<|oR 1 rfl<|rE 15<|bK<|mL (κ:=Nat) (λ j=>match j with|0=>⟨slotsF [(1,vI before),(2,.ptr 0 0),(4,.ptr 1 0),(5,.ptr 9 0),(17,.sl 4 (c.bus.map rqL) false),(18,vN c.bus.length),(19,vN 0)],heapF [(0,.box [vI c.conf.mode,vI c.conf.width,vI c.conf.rob,vI c.conf.queue,vI c.conf.stores,vI c.conf.slots,vI c.conf.sets,vI c.conf.ways,.sl 1 (c.conf.lat.map iL) false,vB c.conf.tables,.sl 1 (c.conf.tape.map eX) false,.sl 1 (c.prog.map eX) false,vI c.cycle,vU (c.r 0),vU (c.r 1),vU (c.r 2),vU (c.r 3),vU (c.r 4),vU (c.r 5),vU (c.r 6),vU (c.r 7),vU (c.r 8),vU (c.r 9),vU (c.r 10),vU (c.r 11),vU (c.r 12),vU (c.r 13),vU (c.r 14),vU (c.r 15),vU (c.r 16),vU (c.r 17),vU (c.r 18),vU (c.r 19),vU (c.r 20),vU (c.r 21),vU (c.r 22),vU (c.r 23),vU (c.r 24),vU (c.r 25),vU (c.r 26),vU (c.r 27),vU (c.r 28),vU (c.r 29),vU (c.r 30),vU (c.r 31),vU c.fetch,vB c.stop,.sl 2 (c.fetched.map ftL) false,.sl 17 (c.rob.map enL) false,vI c.next,.sl 2 (c.stores.map ptL) false,vI c.data.ways,.sl 1 (c.data.sets.map bC) false,vI c.words.ways,.sl 1 (c.words.sets.map bC) false,.sl 4 (c.bus.map rqL) false,vI c.asked,vI c.guessed,.v (.string c.mem),.sl 2 (c.guess.slots.map gsL) false,vU c.guess.hist,.sl 1 (c.guess.rets.map eX) false,vI c.halt,.sl 9 (c.retired.map spL) false]),(1,.box [.sl 0 ([]) true,.sl 0 ([]) true,.sl 0 ([]) true,.sl 0 ([]) true]),(9,.box [.sl 1 ((iI c.data).map bC) false,.sl 1 ((iI c.words).map bC) false,.sl 0 ([]) true,.sl 0 ([]) true])],61⟩|j+1=>⟨slotsF [(1,vI before),(2,.ptr 0 0),(4,.ptr 1 0),(5,.ptr 9 0),(17,.sl 4 (c.bus.map rqL) false),(18,vN c.bus.length),(19,vN (j+1))],heapF [(0,.box [vI c.conf.mode,vI c.conf.width,vI c.conf.rob,vI c.conf.queue,vI c.conf.stores,vI c.conf.slots,vI c.conf.sets,vI c.conf.ways,.sl 1 (c.conf.lat.map iL) false,vB c.conf.tables,.sl 1 (c.conf.tape.map eX) false,.sl 1 (c.prog.map eX) false,vI c.cycle,vU (c.r 0),vU (c.r 1),vU (c.r 2),vU (c.r 3),vU (c.r 4),vU (c.r 5),vU (c.r 6),vU (c.r 7),vU (c.r 8),vU (c.r 9),vU (c.r 10),vU (c.r 11),vU (c.r 12),vU (c.r 13),vU (c.r 14),vU (c.r 15),vU (c.r 16),vU (c.r 17),vU (c.r 18),vU (c.r 19),vU (c.r 20),vU (c.r 21),vU (c.r 22),vU (c.r 23),vU (c.r 24),vU (c.r 25),vU (c.r 26),vU (c.r 27),vU (c.r 28),vU (c.r 29),vU (c.r 30),vU (c.r 31),vU c.fetch,vB c.stop,.sl 2 (c.fetched.map ftL) false,.sl 17 (c.rob.map enL) false,vI c.next,.sl 2 (c.stores.map ptL) false,vI c.data.ways,.sl 1 (c.data.sets.map bC) false,vI c.words.ways,.sl 1 (c.words.sets.map bC) false,.sl 4 (c.bus.map rqL) false,vI c.asked,vI c.guessed,.v (.string c.mem),.sl 2 (c.guess.slots.map gsL) false,vU c.guess.hist,.sl 1 (c.guess.rets.map eX) false,vI c.halt,.sl 9 (c.retired.map spL) false]),(1,.box [.sl 0 ([]) true,.sl 0 ([]) true,.sl 0 ([]) true,.sl 0 ([]) true]),(9,.box [.sl 1 ((iI c.data).map bC) false,.sl 1 ((iI c.words).map bC) false,.osl 60 0 (j+1) false,.sl 0 ([]) true]),(60,.arr ((c.bus.take (j+1)).map NO) 4)],61⟩) (λ j=>j≤c.bus.length) (λ j=>c.bus.length - j) 0 (λ s=>s) (Weak.of_lists (λ s=>s) wT wH rfl) (aE _) ?_;intro j hj;rcases j with _|j
 ·refine cSR<|rW (vB (decide (0<c.bus.length))) rfl (okB (ltN _ _))<|rE 62<|bW<|aW rfl (λ h1=>?_) (λ h1=>?_)
  ·refine bB<|bW<|bK<|cSR ?_;obtain⟨x,hx⟩:∃ x,c.bus[0]?=some x:=⟨_,aA (of_decide_eq_true h1)⟩;have hxo:=hok.busr x (aB hx);refine rIx (rqL x) (.dp 4 0 (rqL x)) rfl rfl (iB hx) rfl<|oR 1 rfl<|rAl 64 rfl rfl<|rSt rfl<|rE 66<|cRg<|oR 6 rfl<|rV (.agg [vI x.kind,vU x.line,vI 0,.v (.string (⟨#[]⟩))]) rfl<|rV (.sl 4 ([[vI x.kind,vU x.line,vI 0,.v (.string (⟨#[]⟩))]]) true) rfl<|rFx (x:=.osl 74 0 1 false) (h':=upd _ 74 (some (.arr ([[vI x.kind,vU x.line,vI 0,.v (.string (⟨#[]⟩))]]) 4))) rfl rfl (rfl) (⟨rfl,by simp[kW],by simp[kW],trivial⟩)<|oR 1 rfl<|rSt rfl<|rE 77<|cRg ?_;have b1:0+1≤1:=aH (aC 0) (aC 1);refine rW (vN (0+1)) rfl (okI (bV b1 rfl))<|oR 1 rfl<|rE 79 ?_;refine⟨1,λ s=>match s with|60=>74|s=>s,Weak.of_lists _ wT ⟨⟨rfl,rfl,rfl⟩,⟨rfl,rfl,rfl⟩,⟨rfl,rfl,rfl⟩,⟨rfl,(congrArg (λ z=>some (Blk.arr z 4)) (WN NO c.bus hx)),rfl⟩,trivial⟩ rfl,of_decide_eq_true h1,by have:=of_decide_eq_true h1;show c.bus.length - (1)<c.bus.length - (0);omega⟩
  ·refine eE<|bW<|cSR<|oR 1 rfl<|rV (vI (if 0>before then 0 else before)) rfl<|oR 1 rfl<|rE 65<|bK<|mL (κ:=Nat) (λ k=>match k with|0=>⟨slotsF [(2,.ptr 0 0),(4,.ptr 1 0),(5,.ptr 9 0),(8,vN B)],heapF [(0,.box [vI c.conf.mode,vI c.conf.width,vI c.conf.rob,vI c.conf.queue,vI c.conf.stores,vI c.conf.slots,vI c.conf.sets,vI c.conf.ways,.sl 1 (c.conf.lat.map iL) false,vB c.conf.tables,.sl 1 (c.conf.tape.map eX) false,.sl 1 (c.prog.map eX) false,vI c.cycle,vU (c.r 0),vU (c.r 1),vU (c.r 2),vU (c.r 3),vU (c.r 4),vU (c.r 5),vU (c.r 6),vU (c.r 7),vU (c.r 8),vU (c.r 9),vU (c.r 10),vU (c.r 11),vU (c.r 12),vU (c.r 13),vU (c.r 14),vU (c.r 15),vU (c.r 16),vU (c.r 17),vU (c.r 18),vU (c.r 19),vU (c.r 20),vU (c.r 21),vU (c.r 22),vU (c.r 23),vU (c.r 24),vU (c.r 25),vU (c.r 26),vU (c.r 27),vU (c.r 28),vU (c.r 29),vU (c.r 30),vU (c.r 31),vU c.fetch,vB c.stop,.sl 2 (c.fetched.map ftL) false,.sl 17 (c.rob.map enL) false,vI c.next,.sl 2 (c.stores.map ptL) false,vI c.data.ways,.sl 1 (c.data.sets.map bC) false,vI c.words.ways,.sl 1 (c.words.sets.map bC) false,.sl 4 (c.bus.map rqL) false,vI c.asked,vI c.guessed,.v (.string c.mem),.sl 2 (c.guess.slots.map gsL) false,vU c.guess.hist,.sl 1 (c.guess.rets.map eX) false,vI c.halt,.sl 9 (c.retired.map spL) false]),(1,.box [.sl 0 ([]) true,.sl 0 ([]) true,.sl 0 ([]) true,.sl 0 ([]) true]),(9,.box [.sl 1 ((iI c.data).map bC) false,.sl 1 ((iI c.words).map bC) false,.sl 0 ([]) true,.sl 0 ([]) true])],71⟩|k+1=>⟨slotsF [(2,.ptr 0 0),(4,.ptr 1 0),(5,.ptr 9 0),(8,vN (B+(k+1)))],heapF [(0,.box [vI c.conf.mode,vI c.conf.width,vI c.conf.rob,vI c.conf.queue,vI c.conf.stores,vI c.conf.slots,vI c.conf.sets,vI c.conf.ways,.sl 1 (c.conf.lat.map iL) false,vB c.conf.tables,.sl 1 (c.conf.tape.map eX) false,.sl 1 (c.prog.map eX) false,vI c.cycle,vU (c.r 0),vU (c.r 1),vU (c.r 2),vU (c.r 3),vU (c.r 4),vU (c.r 5),vU (c.r 6),vU (c.r 7),vU (c.r 8),vU (c.r 9),vU (c.r 10),vU (c.r 11),vU (c.r 12),vU (c.r 13),vU (c.r 14),vU (c.r 15),vU (c.r 16),vU (c.r 17),vU (c.r 18),vU (c.r 19),vU (c.r 20),vU (c.r 21),vU (c.r 22),vU (c.r 23),vU (c.r 24),vU (c.r 25),vU (c.r 26),vU (c.r 27),vU (c.r 28),vU (c.r 29),vU (c.r 30),vU (c.r 31),vU c.fetch,vB c.stop,.sl 2 (c.fetched.map ftL) false,.sl 17 (c.rob.map enL) false,vI c.next,.sl 2 (c.stores.map ptL) false,vI c.data.ways,.sl 1 (c.data.sets.map bC) false,vI c.words.ways,.sl 1 (c.words.sets.map bC) false,.sl 4 (c.bus.map rqL) false,vI c.asked,vI c.guessed,.v (.string c.mem),.sl 2 (c.guess.slots.map gsL) false,vU c.guess.hist,.sl 1 (c.guess.rets.map eX) false,vI c.halt,.sl 9 (c.retired.map spL) false]),(1,.box [.sl 0 ([]) true,.sl 0 ([]) true,.sl 0 ([]) true,.sl 0 ([]) true]),(9,.box [.sl 1 ((iI c.data).map bC) false,.sl 1 ((iI c.words).map bC) false,.sl 0 ([]) true,.osl 70 0 (k+1) false]),(70,.arr (((c.retired.drop B).take (k+1)).map pcL) 1)],71⟩) (λ k=>k=0∨B+k≤c.retired.length) (λ k=>c.retired.length - B - k) 0 (λ s=>s) (Weak.of_lists (λ s=>s) ⟨⟨rfl,rfl⟩,⟨rfl,rfl⟩,⟨rfl,rfl⟩,⟨(congrArg (λ z:Int=>AV.v (.int .i64 z)) hB),rfl⟩,trivial⟩ wH rfl) (.inl rfl) ?_;intro k hk;rcases k with _|k
   ·refine bW<|cSR<|oR 3 rfl<|rW (vN c.retired.length) rfl (bY spL c.retired)<|rW (vB (decide (B<c.retired.length))) rfl (okB (ltN _ _))<|rE 76<|aW rfl (λ h2=>?_) (λ h2=>?_)
    ·refine bB<|bW<|bK<|cRg ?_;obtain⟨y,hy⟩:∃ y,c.retired[B]?=some y:=⟨_,aA (of_decide_eq_true h2)⟩;have hyo:=hok.retr y (aB hy);have hy0:(c.retired.drop B)[0]?=some y:=by rw[cJ];exact hy
     refine oR 5 rfl<|rIx (spL y) (.dp 9 0 (spL y)) rfl rfl (iB hy) rfl<|oR 2 rfl<|rV (.sl 1 ([[vU y.pc]]) true) rfl<|rFx (x:=.osl 85 0 1 false) (h':=upd _ 85 (some (.arr ([[vU y.pc]]) 1))) rfl rfl (rfl) (⟨rfl,by simp[kW],by simp[kW],trivial⟩)<|oR 1 rfl<|rSt rfl<|rE 88<|cRg<|oR 1 rfl ?_;have b2:B+1≤1000000:=by have:=of_decide_eq_true h2;have:=hok.ret;omega
     refine rW (vN (B+1)) rfl (okI (bV b2 rfl))<|oR 1 rfl<|rE 91 ?_;refine⟨1,λ s=>match s with|70=>85|s=>s,Weak.of_lists _ wT ⟨⟨rfl,rfl,rfl⟩,⟨rfl,rfl,rfl⟩,⟨rfl,rfl,rfl⟩,⟨rfl,(congrArg (λ z=>some (Blk.arr z 1)) (WN pcL (c.retired.drop B) hy0)),rfl⟩,trivial⟩ rfl,Or.inr (by have:=of_decide_eq_true h2;omega),by have:=of_decide_eq_true h2;show c.retired.length - B - (1)<c.retired.length - B - (0);omega⟩
    ·refine eE<|cSR<|oR 1 rfl<|rSt rfl<|rE 78<|cO ?_;have hB2:(JW before).toNat=B:=by have:JW before=(B:Int):=hB;rw[this];rfl
     have hb0:c.bus=[]:=aX (by have:=aD h1;omega);have hr0:(c.retired.drop B)=[]:=cT (by have:=aD h2;omega);exact⟨_,rfl,tvT,rfl,Sub.agg ⟨Sub.refl _,Sub.refl _,(by show Sub (.sl 0 [] true) (.sl 4 ((c.bus.map UD).map rqL) false);rw[hb0];exact oG 4 false),(by show Sub (.sl 0 [] true) (.sl 1 (((c.retired.drop (JW before).toNat).map (·.pc)).map eX) false);rw[hB2,hr0];exact oG 1 false),trivial⟩⟩
   ·have hkl:B+(k+1)≤c.retired.length:=by omega
    have hkB:B+(k+1)≤1000000:=by have:=hok.ret;omega
    refine bW<|cSR<|oR 3 rfl<|rW (vN c.retired.length) rfl (bY spL c.retired)<|rW (vB (decide ((B+(k+1))<c.retired.length))) rfl (okB (ltN _ _))<|rE 76<|aW rfl (λ h3=>?_) (λ h3=>?_)
    ·refine bB<|bW<|bK<|cRg ?_;obtain⟨y,hy⟩:∃ y,c.retired[B+(k+1)]?=some y:=⟨_,aA (of_decide_eq_true h3)⟩;have hyo:=hok.retr y (aB hy);have hy0:(c.retired.drop B)[k+1]?=some y:=by rw[cJ];exact hy
     refine oR 5 rfl<|rIx (spL y) (.dp 9 0 (spL y)) rfl rfl (iB hy) rfl<|oR 2 rfl<|rV (.sl 1 ([[vU y.pc]]) true) rfl<|rFx (x:=.osl 85 0 (k+1+1) false) (h':=upd (upd _ 70 none) 85 (some (.arr (((c.retired.drop B).take (k+1+1)).map pcL) 1))) rfl rfl (LZ (Gk _ _ (show k+1<(c.retired.drop B).length from by rw[aY];have:=of_decide_eq_true h3;omega)) (ZQ pcL (c.retired.drop B) hy0)) (⟨by rw[Gk _ _ (show k+1<(c.retired.drop B).length from by rw[aY];have:=of_decide_eq_true h3;omega)];have:=hok.ret;show k+1+1≤1000000;have:=of_decide_eq_true h3;omega,by rw[bL];simp;have:=of_decide_eq_true h3;omega,trivial⟩)<|oR 1 rfl<|rSt rfl<|rE 88<|cRg<|oR 1 rfl ?_;have b3:B+(k+1)+1≤1000000:=by have:=of_decide_eq_true h3;have:=hok.ret;omega
     refine rW (vN (B+(k+1)+1)) rfl (okI (bV b3 rfl))<|oR 1 rfl<|rE 91 ?_;refine⟨(k+1)+1,λ s=>match s with|70=>85|s=>s,Weak.of_lists _ wT wH rfl,Or.inr (by have:=of_decide_eq_true h3;omega),by have:=of_decide_eq_true h3;show c.retired.length - B - ((k+1)+1)<c.retired.length - B - (k+1);omega⟩
    ·refine eE<|cSR<|oR 1 rfl<|rSt rfl<|rE 78<|cO ?_;have hB2:(JW before).toNat=B:=by have:JW before=(B:Int):=hB;rw[this];rfl
     have hb0:c.bus=[]:=aX (by have:=aD h1;omega);have hk2:k+1=(c.retired.drop B).length:=by rw[aY];have:=aD h3;omega
     exact⟨_,rfl,⟨trivial,trivial,trivial,(by show 0+(k+1)≤(((c.retired.drop B).take (k+1)).map pcL).length;rw[aF,aN];omega),trivial⟩,rfl,Sub.agg ⟨Sub.refl _,Sub.refl _,(by show Sub (.sl 0 [] true) (.sl 4 ((c.bus.map UD).map rqL) false);rw[hb0];exact oG 4 false),(by show Sub (.sl 1 (List.take (k+1) (List.drop 0 (((c.retired.drop B).take (k+1)).map pcL))) false) (.sl 1 (((c.retired.drop (JW before).toNat).map (·.pc)).map eX) false);rw[hB2,MB pcL (c.retired.drop B) hk2,List.map_map];exact Sub.refl _),trivial⟩⟩
 ·have hjB:j+1≤1000000:=by have:=hok.bus;omega
  refine cSR<|rW (vB (decide ((j+1)<c.bus.length))) rfl (okB (ltN _ _))<|rE 62<|bW<|aW rfl (λ h4=>?_) (λ h4=>?_)
  ·refine bB<|bW<|bK<|cSR ?_;obtain⟨x,hx⟩:∃ x,c.bus[(j+1)]?=some x:=⟨_,aA (of_decide_eq_true h4)⟩;have hxo:=hok.busr x (aB hx);refine rIx (rqL x) (.dp 4 0 (rqL x)) rfl rfl (iB hx) rfl<|oR 1 rfl<|rAl 64 rfl rfl<|rSt rfl<|rE 66<|cRg<|oR 6 rfl<|rV (.agg [vI x.kind,vU x.line,vI 0,.v (.string (⟨#[]⟩))]) rfl<|rV (.sl 4 ([[vI x.kind,vU x.line,vI 0,.v (.string (⟨#[]⟩))]]) true) rfl<|rFx (x:=.osl 74 0 (j+1+1) false) (h':=upd (upd _ 60 none) 74 (some (.arr ((c.bus.take (j+1+1)).map NO) 4))) rfl rfl (LZ (Gk _ _ (of_decide_eq_true h4)) (ZQ NO c.bus hx)) (⟨by rw[Gk _ _ (of_decide_eq_true h4)];have:=hok.bus;show j+1+1≤1000000;have:=of_decide_eq_true h4;omega,by rw[bL];simp;have:=of_decide_eq_true h4;omega,trivial⟩)<|oR 1 rfl<|rSt rfl<|rE 77<|cRg ?_;have b4:(j+1)+1≤1000001:=aH hjB (aC 1);refine rW (vN ((j+1)+1)) rfl (okI (bV b4 rfl))<|oR 1 rfl<|rE 79 ?_;refine⟨(j+1)+1,λ s=>match s with|60=>74|s=>s,Weak.of_lists _ wT wH rfl,of_decide_eq_true h4,by have:=of_decide_eq_true h4;show c.bus.length - ((j+1)+1)<c.bus.length - (j+1);omega⟩
  ·refine eE<|bW<|cSR<|oR 1 rfl<|rV (vI (if 0>before then 0 else before)) rfl<|oR 1 rfl<|rE 65<|bK<|mL (κ:=Nat) (λ k=>match k with|0=>⟨slotsF [(2,.ptr 0 0),(4,.ptr 1 0),(5,.ptr 9 0),(8,vN B)],heapF [(0,.box [vI c.conf.mode,vI c.conf.width,vI c.conf.rob,vI c.conf.queue,vI c.conf.stores,vI c.conf.slots,vI c.conf.sets,vI c.conf.ways,.sl 1 (c.conf.lat.map iL) false,vB c.conf.tables,.sl 1 (c.conf.tape.map eX) false,.sl 1 (c.prog.map eX) false,vI c.cycle,vU (c.r 0),vU (c.r 1),vU (c.r 2),vU (c.r 3),vU (c.r 4),vU (c.r 5),vU (c.r 6),vU (c.r 7),vU (c.r 8),vU (c.r 9),vU (c.r 10),vU (c.r 11),vU (c.r 12),vU (c.r 13),vU (c.r 14),vU (c.r 15),vU (c.r 16),vU (c.r 17),vU (c.r 18),vU (c.r 19),vU (c.r 20),vU (c.r 21),vU (c.r 22),vU (c.r 23),vU (c.r 24),vU (c.r 25),vU (c.r 26),vU (c.r 27),vU (c.r 28),vU (c.r 29),vU (c.r 30),vU (c.r 31),vU c.fetch,vB c.stop,.sl 2 (c.fetched.map ftL) false,.sl 17 (c.rob.map enL) false,vI c.next,.sl 2 (c.stores.map ptL) false,vI c.data.ways,.sl 1 (c.data.sets.map bC) false,vI c.words.ways,.sl 1 (c.words.sets.map bC) false,.sl 4 (c.bus.map rqL) false,vI c.asked,vI c.guessed,.v (.string c.mem),.sl 2 (c.guess.slots.map gsL) false,vU c.guess.hist,.sl 1 (c.guess.rets.map eX) false,vI c.halt,.sl 9 (c.retired.map spL) false]),(1,.box [.sl 0 ([]) true,.sl 0 ([]) true,.sl 0 ([]) true,.sl 0 ([]) true]),(9,.box [.sl 1 ((iI c.data).map bC) false,.sl 1 ((iI c.words).map bC) false,.osl 60 0 (j+1) false,.sl 0 ([]) true]),(60,.arr ((c.bus.take (j+1)).map NO) 4)],71⟩|k+1=>⟨slotsF [(2,.ptr 0 0),(4,.ptr 1 0),(5,.ptr 9 0),(8,vN (B+(k+1)))],heapF [(0,.box [vI c.conf.mode,vI c.conf.width,vI c.conf.rob,vI c.conf.queue,vI c.conf.stores,vI c.conf.slots,vI c.conf.sets,vI c.conf.ways,.sl 1 (c.conf.lat.map iL) false,vB c.conf.tables,.sl 1 (c.conf.tape.map eX) false,.sl 1 (c.prog.map eX) false,vI c.cycle,vU (c.r 0),vU (c.r 1),vU (c.r 2),vU (c.r 3),vU (c.r 4),vU (c.r 5),vU (c.r 6),vU (c.r 7),vU (c.r 8),vU (c.r 9),vU (c.r 10),vU (c.r 11),vU (c.r 12),vU (c.r 13),vU (c.r 14),vU (c.r 15),vU (c.r 16),vU (c.r 17),vU (c.r 18),vU (c.r 19),vU (c.r 20),vU (c.r 21),vU (c.r 22),vU (c.r 23),vU (c.r 24),vU (c.r 25),vU (c.r 26),vU (c.r 27),vU (c.r 28),vU (c.r 29),vU (c.r 30),vU (c.r 31),vU c.fetch,vB c.stop,.sl 2 (c.fetched.map ftL) false,.sl 17 (c.rob.map enL) false,vI c.next,.sl 2 (c.stores.map ptL) false,vI c.data.ways,.sl 1 (c.data.sets.map bC) false,vI c.words.ways,.sl 1 (c.words.sets.map bC) false,.sl 4 (c.bus.map rqL) false,vI c.asked,vI c.guessed,.v (.string c.mem),.sl 2 (c.guess.slots.map gsL) false,vU c.guess.hist,.sl 1 (c.guess.rets.map eX) false,vI c.halt,.sl 9 (c.retired.map spL) false]),(1,.box [.sl 0 ([]) true,.sl 0 ([]) true,.sl 0 ([]) true,.sl 0 ([]) true]),(9,.box [.sl 1 ((iI c.data).map bC) false,.sl 1 ((iI c.words).map bC) false,.osl 60 0 (j+1) false,.osl 70 0 (k+1) false]),(60,.arr ((c.bus.take (j+1)).map NO) 4),(70,.arr (((c.retired.drop B).take (k+1)).map pcL) 1)],71⟩) (λ k=>k=0∨B+k≤c.retired.length) (λ k=>c.retired.length - B - k) 0 (λ s=>s) (Weak.of_lists (λ s=>s) ⟨⟨rfl,rfl⟩,⟨rfl,rfl⟩,⟨rfl,rfl⟩,⟨(congrArg (λ z:Int=>AV.v (.int .i64 z)) hB),rfl⟩,trivial⟩ wH rfl) (.inl rfl) ?_;intro k hk;rcases k with _|k
   ·refine bW<|cSR<|oR 3 rfl<|rW (vN c.retired.length) rfl (bY spL c.retired)<|rW (vB (decide (B<c.retired.length))) rfl (okB (ltN _ _))<|rE 76<|aW rfl (λ h5=>?_) (λ h5=>?_)
    ·refine bB<|bW<|bK<|cRg ?_;obtain⟨y,hy⟩:∃ y,c.retired[B]?=some y:=⟨_,aA (of_decide_eq_true h5)⟩;have hyo:=hok.retr y (aB hy);have hy0:(c.retired.drop B)[0]?=some y:=by rw[cJ];exact hy
     refine oR 5 rfl<|rIx (spL y) (.dp 9 0 (spL y)) rfl rfl (iB hy) rfl<|oR 2 rfl<|rV (.sl 1 ([[vU y.pc]]) true) rfl<|rFx (x:=.osl 85 0 1 false) (h':=upd _ 85 (some (.arr ([[vU y.pc]]) 1))) rfl rfl (rfl) (⟨rfl,by simp[kW],by simp[kW],trivial⟩)<|oR 1 rfl<|rSt rfl<|rE 88<|cRg<|oR 1 rfl ?_;have b5:B+1≤1000000:=by have:=of_decide_eq_true h5;have:=hok.ret;omega
     refine rW (vN (B+1)) rfl (okI (bV b5 rfl))<|oR 1 rfl<|rE 91 ?_;refine⟨1,λ s=>match s with|70=>85|s=>s,Weak.of_lists _ wT ⟨⟨rfl,rfl,rfl⟩,⟨rfl,rfl,rfl⟩,⟨rfl,rfl,rfl⟩,⟨rfl,rfl,rfl⟩,⟨rfl,(congrArg (λ z=>some (Blk.arr z 1)) (WN pcL (c.retired.drop B) hy0)),rfl⟩,trivial⟩ rfl,Or.inr (by have:=of_decide_eq_true h5;omega),by have:=of_decide_eq_true h5;show c.retired.length - B - (1)<c.retired.length - B - (0);omega⟩
    ·refine eE<|cSR<|oR 1 rfl<|rSt rfl<|rE 78<|cO ?_;have hB2:(JW before).toNat=B:=by have:JW before=(B:Int):=hB;rw[this];rfl
     have hj2:j+1=c.bus.length:=by have:=aD h4;omega
     have hr0:(c.retired.drop B)=[]:=cT (by have:=aD h5;omega);exact⟨_,rfl,⟨trivial,trivial,(by show 0+(j+1)≤((c.bus.take (j+1)).map NO).length;rw[aF,aN];omega),trivial,trivial⟩,rfl,Sub.agg ⟨Sub.refl _,Sub.refl _,(by show Sub (.sl 4 (List.take (j+1) (List.drop 0 ((c.bus.take (j+1)).map NO))) false) (.sl 4 ((c.bus.map UD).map rqL) false);rw[MB NO c.bus hj2,List.map_map];exact Sub.refl _),(by show Sub (.sl 0 [] true) (.sl 1 (((c.retired.drop (JW before).toNat).map (·.pc)).map eX) false);rw[hB2,hr0];exact oG 1 false),trivial⟩⟩
   ·have hkl:B+(k+1)≤c.retired.length:=by omega
    have hkB:B+(k+1)≤1000000:=by have:=hok.ret;omega
    refine bW<|cSR<|oR 3 rfl<|rW (vN c.retired.length) rfl (bY spL c.retired)<|rW (vB (decide ((B+(k+1))<c.retired.length))) rfl (okB (ltN _ _))<|rE 76<|aW rfl (λ h6=>?_) (λ h6=>?_)
    ·refine bB<|bW<|bK<|cRg ?_;obtain⟨y,hy⟩:∃ y,c.retired[B+(k+1)]?=some y:=⟨_,aA (of_decide_eq_true h6)⟩;have hyo:=hok.retr y (aB hy);have hy0:(c.retired.drop B)[k+1]?=some y:=by rw[cJ];exact hy
     refine oR 5 rfl<|rIx (spL y) (.dp 9 0 (spL y)) rfl rfl (iB hy) rfl<|oR 2 rfl<|rV (.sl 1 ([[vU y.pc]]) true) rfl<|rFx (x:=.osl 85 0 (k+1+1) false) (h':=upd (upd _ 70 none) 85 (some (.arr (((c.retired.drop B).take (k+1+1)).map pcL) 1))) rfl rfl (LZ (Gk _ _ (show k+1<(c.retired.drop B).length from by rw[aY];have:=of_decide_eq_true h6;omega)) (ZQ pcL (c.retired.drop B) hy0)) (⟨by rw[Gk _ _ (show k+1<(c.retired.drop B).length from by rw[aY];have:=of_decide_eq_true h6;omega)];have:=hok.ret;show k+1+1≤1000000;have:=of_decide_eq_true h6;omega,by rw[bL];simp;have:=of_decide_eq_true h6;omega,trivial⟩)<|oR 1 rfl<|rSt rfl<|rE 88<|cRg<|oR 1 rfl ?_;have b6:B+(k+1)+1≤1000000:=by have:=of_decide_eq_true h6;have:=hok.ret;omega
     refine rW (vN (B+(k+1)+1)) rfl (okI (bV b6 rfl))<|oR 1 rfl<|rE 91 ?_;refine⟨(k+1)+1,λ s=>match s with|70=>85|s=>s,Weak.of_lists _ wT wH rfl,Or.inr (by have:=of_decide_eq_true h6;omega),by have:=of_decide_eq_true h6;show c.retired.length - B - ((k+1)+1)<c.retired.length - B - (k+1);omega⟩
    ·refine eE<|cSR<|oR 1 rfl<|rSt rfl<|rE 78<|cO ?_;have hB2:(JW before).toNat=B:=by have:JW before=(B:Int):=hB;rw[this];rfl
     have hj2:j+1=c.bus.length:=by have:=aD h4;omega
     have hk2:k+1=(c.retired.drop B).length:=by rw[aY];have:=aD h6;omega
     exact⟨_,rfl,⟨trivial,trivial,(by show 0+(j+1)≤((c.bus.take (j+1)).map NO).length;rw[aF,aN];omega),(by show 0+(k+1)≤(((c.retired.drop B).take (k+1)).map pcL).length;rw[aF,aN];omega),trivial⟩,rfl,Sub.agg ⟨Sub.refl _,Sub.refl _,(by show Sub (.sl 4 (List.take (j+1) (List.drop 0 ((c.bus.take (j+1)).map NO))) false) (.sl 4 ((c.bus.map UD).map rqL) false);rw[MB NO c.bus hj2,List.map_map];exact Sub.refl _),(by show Sub (.sl 1 (List.take (k+1) (List.drop 0 (((c.retired.drop B).take (k+1)).map pcL))) false) (.sl 1 (((c.retired.drop (JW before).toNat).map (·.pc)).map eX) false);rw[hB2,MB pcL (c.retired.drop B) hk2,List.map_map];exact Sub.refl _),trivial⟩⟩
def tD{α:Type}(e:α→α→Bool):List α→List α→Bool
 |[],[]=>true
 |x::a,y::b=>e x y&&tD e a b
 |_,_=>false
theorem BQ{α:Type}{e:α→α→Bool}{a b:List α}{j:Nat}{x y:α}(hx:a[j]?=some x)(hy:b[j]?=some y)(he:e x y=true)(h:tD e a b=tD e (a.drop j) (b.drop j)):tD e a b=tD e (a.drop (j+1)) (b.drop (j+1)):=by
 obtain⟨h1,h1'⟩:=Dq.1 hx;obtain⟨h2,h2'⟩:=Dq.1 hy;rw[h,cQ h1,cQ h2,h1',h2'];simp only[tD,he,eG]
theorem Id{α:Type}{e:α→α→Bool}{a b:List α}{j:Nat}{x y:α}(hx:a[j]?=some x)(hy:b[j]?=some y)(he:e x y=false)(h:tD e a b=tD e (a.drop j) (b.drop j)):tD e a b=false:=by
 obtain⟨h1,h1'⟩:=Dq.1 hx;obtain⟨h2,h2'⟩:=Dq.1 hy;rw[h,cQ h1,cQ h2,h1',h2'];simp only[tD,he,pS]
theorem Dp{α:Type}{e:α→α→Bool}{a b:List α}{j:Nat}(ha:a.length≤j)(hb:b.length≤j)(h:tD e a b=tD e (a.drop j) (b.drop j)):tD e a b=true:=by
 rw[h,cT ha,cT hb];rfl
theorem BR{α:Type}{e:α→α→Bool}:∀ {a b:List α},a.length≠b.length→tD e a b=false
 |[],[],h=>absurd rfl h
 |[],_::_,_=>rfl
 |_::_,[],_=>rfl
 |x::a,y::b,h=>by simp only[tD,BR (a:=a) (b:=b) (λ k=>h (by simp[k])),Bool.and_false]
def eqU(x y:Nat):Bool:=x==y
def Ik(x y:Wy):Bool:=(((x.line:Int)==(y.line:Int))&&((x.dirty==y.dirty)&&((x.data==y.data)&&true)))
def TL(x y:Req):Bool:=((x.kind==y.kind)&&(((x.line:Int)==(y.line:Int))&&((x.left==y.left)&&((x.data==y.data)&&true))))
def Gl(x y:Seen):Bool:=tD (tD Ik) x.data y.data&&(tD (tD Ik) x.words y.words&&(tD TL x.bus y.bus&&tD eqU x.pcs y.pcs))
theorem aa6(x y:Nat):bX C0 144 [vU x,vU y] (.v (.bool (eqU x y))):=by
 refine bX.intro c0Ok Tryz.func144 rfl rfl (by kernel_rfl) rfl<|cSR<|oR 1 rfl<|rE 1<|cSR<|oR 2 rfl<|rW (vB (x==y)) rfl (okB (eqN _ _))<|oR 1 rfl<|rE 5<|cO ?_;exact fT rfl rfl
theorem aa7(x y:Wy):bX C0 189 [.agg (wyL x),.agg (wyL y)] (.v (.bool (Ik x y))):=by
 refine bX.intro c0Ok Tryz.func189 rfl rfl (by kernel_rfl) rfl<|cSR<|rAl 0 rfl rfl<|rAl 1 rfl rfl<|oR 1 rfl<|rE 3<|cSR<|oR 2 rfl<|rV (vB ((((x.line:Nat):Int)==((y.line:Nat):Int))&&((x.dirty==y.dirty)&&((x.data==y.data)&&true)))) rfl<|oR 1 rfl<|rE 7<|cO ?_;exact fT rfl rfl
theorem aa8(x y:Req):bX C0 142 [.agg (rqL x),.agg (rqL y)] (.v (.bool (TL x y))):=by
 refine bX.intro c0Ok Tryz.func142 rfl rfl (by kernel_rfl) rfl<|cSR<|rAl 0 rfl rfl<|rAl 1 rfl rfl<|oR 1 rfl<|rE 3<|cSR<|oR 2 rfl<|rV (vB ((x.kind==y.kind)&&((((x.line:Nat):Int)==((y.line:Nat):Int))&&((x.left==y.left)&&((x.data==y.data)&&true))))) rfl<|oR 1 rfl<|rE 7<|cO ?_;exact fT rfl rfl
theorem ZS(a b:List Wy)(ha:a.length≤1000000)(hb:b.length≤1000000):bX C0 188 [.sl 3 (a.map wyL) false,.sl 3 (b.map wyL) false,.clo 189 [] []] (.v (.bool (tD Ik a b))):=by
 refine bX.intro c0Ok Tryz.func188 rfl rfl (by kernel_rfl) rfl<|cSR<|oR 1 rfl<|rE 1<|bW<|cSR<|oR 1 rfl<|rW (vN a.length) rfl (bY wyL a)<|oR 1 rfl<|rW (vN b.length) rfl (bY wyL b)<|rW (vB (a.length != b.length)) rfl (okB (neN _ _))<|rE 6<|aW rfl (λ h1=>?_) (λ h1=>?_)
 ·refine cSR<|oR 1 rfl<|rE 7<|cO ?_;exact fT rfl (congrArg (λ z=>AV.v (.bool z)) (BR (by simpa using h1)).symm)
 ·refine bB<|bW<|cSR<|oR 1 rfl<|rW (vN a.length) rfl (bY wyL a)<|oR 1 rfl<|rE 9<|bK<|mL (κ:=Nat) (λ j=>⟨slotsF [(0,.sl 3 (a.map wyL) false),(1,.sl 3 (b.map wyL) false),(2,.clo 189 [] []),(14,vN a.length),(15,vN j)],heapF [],9⟩) (λ j=>j≤a.length∧tD Ik a b=tD Ik (a.drop j) (b.drop j)) (λ j=>a.length - j) 0 (λ s=>s) (Weak.of_lists (λ s=>s) wT trivial rfl) (⟨aE _,rfl⟩) ?_;intro j hj;have hjB:j≤1000000:=by have:=hj.1;omega
  refine cSR<|rW (vB (decide (j<a.length))) rfl (okB (ltN _ _))<|rE 10<|bW<|aW rfl (λ h2=>?_) (λ h2=>?_)
  ·refine bB<|bW<|bK<|cSR<|oR 2 rfl<|rE 12<|cSR<|oR 3 rfl ?_;have hjl:=of_decide_eq_true h2;obtain⟨x,hx⟩:∃ x,a[j]?=some x:=⟨_,aA hjl⟩;obtain⟨y,hy⟩:∃ y,b[j]?=some y:=⟨_,aA (by have:a.length=b.length:=(by simpa using h1);omega)⟩;refine rIx (wyL x) (.dp 3 0 (wyL x)) rfl rfl (iB hx) rfl<|oR 3 rfl<|rIx (wyL y) (.dp 3 0 (wyL y)) rfl rfl (iB hy) rfl<|oR 1 rfl<|rCi rfl (aa7 x y)<|oR 1 rfl<|rE 23<|aW rfl (λ h3=>?_) (λ h3=>?_)
   ·refine cSR<|oR 1 rfl<|rE 24<|cO ?_;exact fT rfl (congrArg (λ z=>AV.v (.bool z)) (Id hx hy (by simpa using h3) hj.2).symm)
   ·refine bB<|cRg ?_;have b1:j+1≤1000001:=aH hjB (aC 1);refine rW (vN (j+1)) rfl (okI (bV b1 rfl))<|oR 1 rfl<|rE 25 ?_;refine⟨j+1,λ s=>s,Weak.of_lists _ wT trivial rfl,⟨hjl,BQ hx hy (by simpa using h3) hj.2⟩,by show a.length - (j+1)<a.length - j;omega⟩
  ·refine eE<|cSR<|oR 1 rfl<|rE 11<|cO ?_;have hab:a.length=b.length:=(by simpa using h1);have hje:=aD h2;exact fT rfl (congrArg (λ z=>AV.v (.bool z)) (Dp omT omT hj.2).symm)
theorem ZT(a b:List Req)(ha:a.length≤1000000)(hb:b.length≤1000000):bX C0 141 [.sl 4 (a.map rqL) false,.sl 4 (b.map rqL) false,.clo 142 [] []] (.v (.bool (tD TL a b))):=by
 refine bX.intro c0Ok Tryz.func141 rfl rfl (by kernel_rfl) rfl<|cSR<|oR 1 rfl<|rE 1<|bW<|cSR<|oR 1 rfl<|rW (vN a.length) rfl (bY rqL a)<|oR 1 rfl<|rW (vN b.length) rfl (bY rqL b)<|rW (vB (a.length != b.length)) rfl (okB (neN _ _))<|rE 6<|aW rfl (λ h1=>?_) (λ h1=>?_)
 ·refine cSR<|oR 1 rfl<|rE 7<|cO ?_;exact fT rfl (congrArg (λ z=>AV.v (.bool z)) (BR (by simpa using h1)).symm)
 ·refine bB<|bW<|cSR<|oR 1 rfl<|rW (vN a.length) rfl (bY rqL a)<|oR 1 rfl<|rE 9<|bK<|mL (κ:=Nat) (λ j=>⟨slotsF [(0,.sl 4 (a.map rqL) false),(1,.sl 4 (b.map rqL) false),(2,.clo 142 [] []),(14,vN a.length),(15,vN j)],heapF [],9⟩) (λ j=>j≤a.length∧tD TL a b=tD TL (a.drop j) (b.drop j)) (λ j=>a.length - j) 0 (λ s=>s) (Weak.of_lists (λ s=>s) wT trivial rfl) (⟨aE _,rfl⟩) ?_;intro j hj;have hjB:j≤1000000:=by have:=hj.1;omega
  refine cSR<|rW (vB (decide (j<a.length))) rfl (okB (ltN _ _))<|rE 10<|bW<|aW rfl (λ h2=>?_) (λ h2=>?_)
  ·refine bB<|bW<|bK<|cSR<|oR 2 rfl<|rE 12<|cSR<|oR 3 rfl ?_;have hjl:=of_decide_eq_true h2;obtain⟨x,hx⟩:∃ x,a[j]?=some x:=⟨_,aA hjl⟩;obtain⟨y,hy⟩:∃ y,b[j]?=some y:=⟨_,aA (by have:a.length=b.length:=(by simpa using h1);omega)⟩;refine rIx (rqL x) (.dp 4 0 (rqL x)) rfl rfl (iB hx) rfl<|oR 3 rfl<|rIx (rqL y) (.dp 4 0 (rqL y)) rfl rfl (iB hy) rfl<|oR 1 rfl<|rCi rfl (aa8 x y)<|oR 1 rfl<|rE 23<|aW rfl (λ h3=>?_) (λ h3=>?_)
   ·refine cSR<|oR 1 rfl<|rE 24<|cO ?_;exact fT rfl (congrArg (λ z=>AV.v (.bool z)) (Id hx hy (by simpa using h3) hj.2).symm)
   ·refine bB<|cRg ?_;have b1:j+1≤1000001:=aH hjB (aC 1);refine rW (vN (j+1)) rfl (okI (bV b1 rfl))<|oR 1 rfl<|rE 25 ?_;refine⟨j+1,λ s=>s,Weak.of_lists _ wT trivial rfl,⟨hjl,BQ hx hy (by simpa using h3) hj.2⟩,by show a.length - (j+1)<a.length - j;omega⟩
  ·refine eE<|cSR<|oR 1 rfl<|rE 11<|cO ?_;have hab:a.length=b.length:=(by simpa using h1);have hje:=aD h2;exact fT rfl (congrArg (λ z=>AV.v (.bool z)) (Dp omT omT hj.2).symm)
theorem ZU(a b:List Nat)(ha:a.length≤1000000)(hb:b.length≤1000000):bX C0 143 [.sl 1 (a.map eX) false,.sl 1 (b.map eX) false,.clo 144 [] []] (.v (.bool (tD eqU a b))):=by
 refine bX.intro c0Ok Tryz.func143 rfl rfl (by kernel_rfl) rfl<|cSR<|oR 1 rfl<|rE 1<|bW<|cSR<|oR 1 rfl<|rW (vN a.length) rfl (bY eX a)<|oR 1 rfl<|rW (vN b.length) rfl (bY eX b)<|rW (vB (a.length != b.length)) rfl (okB (neN _ _))<|rE 6<|aW rfl (λ h1=>?_) (λ h1=>?_)
 ·refine cSR<|oR 1 rfl<|rE 7<|cO ?_;exact fT rfl (congrArg (λ z=>AV.v (.bool z)) (BR (by simpa using h1)).symm)
 ·refine bB<|bW<|cSR<|oR 1 rfl<|rW (vN a.length) rfl (bY eX a)<|oR 1 rfl<|rE 9<|bK<|mL (κ:=Nat) (λ j=>⟨slotsF [(0,.sl 1 (a.map eX) false),(1,.sl 1 (b.map eX) false),(2,.clo 144 [] []),(14,vN a.length),(15,vN j)],heapF [],9⟩) (λ j=>j≤a.length∧tD eqU a b=tD eqU (a.drop j) (b.drop j)) (λ j=>a.length - j) 0 (λ s=>s) (Weak.of_lists (λ s=>s) wT trivial rfl) (⟨aE _,rfl⟩) ?_;intro j hj;have hjB:j≤1000000:=by have:=hj.1;omega
  refine cSR<|rW (vB (decide (j<a.length))) rfl (okB (ltN _ _))<|rE 10<|bW<|aW rfl (λ h2=>?_) (λ h2=>?_)
  ·refine bB<|bW<|bK<|cSR<|oR 2 rfl<|rE 12<|cSR<|oR 3 rfl ?_;have hjl:=of_decide_eq_true h2;obtain⟨x,hx⟩:∃ x,a[j]?=some x:=⟨_,aA hjl⟩;obtain⟨y,hy⟩:∃ y,b[j]?=some y:=⟨_,aA (by have:a.length=b.length:=(by simpa using h1);omega)⟩;refine rIx (eX x) (.dp 1 0 (eX x)) rfl rfl (iB hx) rfl<|oR 3 rfl<|rIx (eX y) (.dp 1 0 (eX y)) rfl rfl (iB hy) rfl<|oR 1 rfl<|rCi rfl (aa6 x y)<|oR 1 rfl<|rE 23<|aW rfl (λ h3=>?_) (λ h3=>?_)
   ·refine cSR<|oR 1 rfl<|rE 24<|cO ?_;exact fT rfl (congrArg (λ z=>AV.v (.bool z)) (Id hx hy (by simpa using h3) hj.2).symm)
   ·refine bB<|cRg ?_;have b1:j+1≤1000001:=aH hjB (aC 1);refine rW (vN (j+1)) rfl (okI (bV b1 rfl))<|oR 1 rfl<|rE 25 ?_;refine⟨j+1,λ s=>s,Weak.of_lists _ wT trivial rfl,⟨hjl,BQ hx hy (by simpa using h3) hj.2⟩,by show a.length - (j+1)<a.length - j;omega⟩
  ·refine eE<|cSR<|oR 1 rfl<|rE 11<|cO ?_;have hab:a.length=b.length:=(by simpa using h1);have hje:=aD h2;exact fT rfl (congrArg (λ z=>AV.v (.bool z)) (Dp omT omT hj.2).symm)
theorem ZV(a b:List Wy)(ha:a.length≤1000000)(hb:b.length≤1000000):bX C0 140 [.sl 3 (a.map wyL) false,.sl 3 (b.map wyL) false] (.v (.bool (tD Ik a b))):=by
 refine bX.intro c0Ok Tryz.func140 rfl rfl (by kernel_rfl) rfl<|cSR<|oR 1 rfl<|rE 1<|cSR<|oR 2 rfl<|rCi rfl (ZS a b ha hb)<|oR 1 rfl<|rE 5<|cO ?_;exact fT rfl rfl
theorem YC(a b:List (List Wy))(ha:a.length≤1000000)(hb:b.length≤1000000)(hsa:∀ s∈a,s.length≤1000000)(hsb:∀ s∈b,s.length≤1000000):bX C0 139 [.sl 1 (a.map bC) false,.sl 1 (b.map bC) false,.clo 140 [] []] (.v (.bool (tD (tD Ik) a b))):=by
 refine bX.intro c0Ok Tryz.func139 rfl rfl (by kernel_rfl) rfl<|cSR<|oR 1 rfl<|rE 1<|bW<|cSR<|oR 1 rfl<|rW (vN a.length) rfl (bY bC a)<|oR 1 rfl<|rW (vN b.length) rfl (bY bC b)<|rW (vB (a.length != b.length)) rfl (okB (neN _ _))<|rE 6<|aW rfl (λ h1=>?_) (λ h1=>?_)
 ·refine cSR<|oR 1 rfl<|rE 7<|cO ?_;exact fT rfl (congrArg (λ z=>AV.v (.bool z)) (BR (by simpa using h1)).symm)
 ·refine bB<|bW<|cSR<|oR 1 rfl<|rW (vN a.length) rfl (bY bC a)<|oR 1 rfl<|rE 9<|bK<|mL (κ:=Nat) (λ j=>⟨slotsF [(0,.sl 1 (a.map bC) false),(1,.sl 1 (b.map bC) false),(2,.clo 140 [] []),(14,vN a.length),(15,vN j)],heapF [],9⟩) (λ j=>j≤a.length∧tD (tD Ik) a b=tD (tD Ik) (a.drop j) (b.drop j)) (λ j=>a.length - j) 0 (λ s=>s) (Weak.of_lists (λ s=>s) wT trivial rfl) (⟨aE _,rfl⟩) ?_;intro j hj;have hjB:j≤1000000:=by have:=hj.1;omega
  refine cSR<|rW (vB (decide (j<a.length))) rfl (okB (ltN _ _))<|rE 10<|bW<|aW rfl (λ h2=>?_) (λ h2=>?_)
  ·refine bB<|bW<|bK<|cSR<|oR 2 rfl<|rE 12<|cSR<|oR 3 rfl ?_;have hjl:=of_decide_eq_true h2;obtain⟨x,hx⟩:∃ x,a[j]?=some x:=⟨_,aA hjl⟩;obtain⟨y,hy⟩:∃ y,b[j]?=some y:=⟨_,aA (by have:a.length=b.length:=(by simpa using h1);omega)⟩;refine rIx (bC x) (.dp 1 0 (bC x)) rfl rfl (iB hx) rfl<|oR 3 rfl<|rIx (bC y) (.dp 1 0 (bC y)) rfl rfl (iB hy) rfl<|oR 1 rfl<|rCi rfl (ZV x y (hsa x (aB hx)) (hsb y (aB hy)))<|oR 1 rfl<|rE 23<|aW rfl (λ h3=>?_) (λ h3=>?_)
   ·refine cSR<|oR 1 rfl<|rE 24<|cO ?_;exact fT rfl (congrArg (λ z=>AV.v (.bool z)) (Id hx hy (by simpa using h3) hj.2).symm)
   ·refine bB<|cRg ?_;have b1:j+1≤1000001:=aH hjB (aC 1);refine rW (vN (j+1)) rfl (okI (bV b1 rfl))<|oR 1 rfl<|rE 25 ?_;refine⟨j+1,λ s=>s,Weak.of_lists _ wT trivial rfl,⟨hjl,BQ hx hy (by simpa using h3) hj.2⟩,by show a.length - (j+1)<a.length - j;omega⟩
  ·refine eE<|cSR<|oR 1 rfl<|rE 11<|cO ?_;have hab:a.length=b.length:=(by simpa using h1);have hje:=aD h2;exact fT rfl (congrArg (λ z=>AV.v (.bool z)) (Dp omT omT hj.2).symm)
structure Seen.ok(s:Seen):Prop where
 data:s.data.length≤1000000
 dat:∀ x∈s.data,x.length≤1000000
 words:s.words.length≤1000000
 word:∀ x∈s.words,x.length≤1000000
 bus:s.bus.length≤1000000
 pcs:s.pcs.length≤1000000
theorem ZW(x y:Seen)(hx:x.ok)(hy:y.ok):bX C0 81 [.agg (seL x),.agg (seL y)] (.v (.bool (Gl x y))):=by
 refine bX.intro c0Ok Tryz.func81 rfl rfl (by kernel_rfl) rfl<|cSR<|rAl 0 rfl rfl<|rAl 1 rfl rfl<|oR 1 rfl<|rE 3<|cSR<|oR 4 rfl<|rCi rfl (YC x.data y.data hx.data hy.data hx.dat hy.dat)<|oR 1 rfl<|gN rfl<|gS rfl id<|gN rfl<|gS rfl id<|kM (x:=vB (tD (tD Ik) x.words y.words)) (g:=tD (tD Ik) x.data y.data) rfl rfl rfl rfl hsT rfl rfl rfl (.inl rfl) rfl (λ hg=>YC x.words y.words hx.words hy.words hx.word hy.word)<|cV rfl rfl rfl (λ h=>h)<|oR 1 rfl<|gN rfl<|gS rfl id<|gN rfl<|gS rfl id<|kM (x:=vB (tD TL x.bus y.bus)) (g:=cZ (tD (tD Ik) x.data y.data) (tD (tD Ik) x.words y.words) false) rfl rfl rfl rfl hsT rfl rfl rfl (.inl rfl) rfl (λ hg=>ZT x.bus y.bus hx.bus hy.bus)<|cV rfl rfl rfl (λ h=>h)<|oR 1 rfl<|gN rfl<|gS rfl id<|gN rfl<|gS rfl id<|kM (x:=vB (tD eqU x.pcs y.pcs)) (g:=cZ (cZ (tD (tD Ik) x.data y.data) (tD (tD Ik) x.words y.words) false) (tD TL x.bus y.bus) false) rfl rfl rfl rfl hsT rfl rfl rfl (.inl rfl) rfl (λ hg=>ZU x.pcs y.pcs hx.pcs hy.pcs)<|cV rfl rfl rfl (λ h=>h)<|oR 1 rfl<|rE 30<|cO ?_;exact fT rfl (congrArg (λ z=>AV.v (.bool z)) (by simp only[c2,Gl,Bool.and_false,Bool.or_false,mY]))
theorem bX.args{C:Ctx}{f:FuncId}{xs ys:List AV}{r:AV}(h:bX C f ys r)(k:XP xs ys):bX C f xs r:=
 ⟨h.1,λ S w vs hS hG hr=>h.2 S w vs hS hG ⟨k.get.1 ▸ hr.1,λ i a u p q=>by
  have hi:i<xs.length:=by rw[k.get.1];exact (Dq.1 p).1
  exact k.get.2 i xs[i] a (aA hi) p S w u (hr.2 i _ u (aA hi) q)⟩⟩
def cf0:Cf:=⟨0,0,0,0,0,0,0,0,[],false,[]⟩
theorem ZP:bX C0 15 [.agg [.v (.int .i64 0),.v (.int .i64 0),.v (.int .i64 0),.v (.int .i64 0),.v (.int .i64 0),.v (.int .i64 0),.v (.int .i64 0),.v (.int .i64 0),.sl 0 [] true,.v (.bool false),.sl 0 [] true],.sl 0 [] true,.v (.string ⟨#[]⟩)] (.agg (coL (fN cf0 [] ⟨#[]⟩))):=
 (Ui cf0 [] ⟨#[]⟩ ⟨by simp[cf0],by simp[cf0],λ x hx=>by cases hx⟩ (by simp)).args ⟨Sub.agg ⟨Sub.refl _,Sub.refl _,Sub.refl _,Sub.refl _,Sub.refl _,Sub.refl _,Sub.refl _,Sub.refl _,oG 1 false,Sub.refl _,oG 1 false,trivial⟩,oG 1 false,Sub.refl _,trivial⟩
theorem WL(co:Co)(s0:Seen)(hnew:bX C0 15 [.agg [.v (.int .i64 0),.v (.int .i64 0),.v (.int .i64 0),.v (.int .i64 0),.v (.int .i64 0),.v (.int .i64 0),.v (.int .i64 0),.v (.int .i64 0),.sl 0 [] true,.v (.bool false),.sl 0 [] true],.sl 0 [] true,.v (.string ⟨#[]⟩)] (.agg (coL co)))(hsee:bX C0 79 [.agg (coL co),.v (.int .i64 0)] (.agg (seL s0)))(hk:s0.ok)(hd:s0.data.length=1)(hw:s0.words.length=1)(hs:Gl s0 s0=true):bX C0 36 [] (.v (.bool true)):=by
 refine bX.intro c0Ok Tryz.func36 rfl rfl (by kernel_rfl) rfl<|cSR<|oR 1 rfl<|rE 1<|cSR<|rV (.agg [vI 0,vI 0,vI 0,vI 0,vI 0,vI 0,vI 0,vI 0,.sl 0 ([]) true,vB false,.sl 0 ([]) true]) rfl<|rCi rfl (hnew)<|rCi rfl (hsee)<|rAl 4 rfl rfl<|rSt rfl<|rE 6<|cSR<|oR 2 rfl<|rW (vN s0.data.length) rfl (bY bC s0.data)<|rW (vB (s0.data.length==1)) rfl (okB (eqN _ _))<|oR 1 rfl<|gN rfl<|gS rfl id<|gBS (x:=vN s0.words.length) rfl id (bY bC s0.words)<|gBS (x:=vB (s0.words.length==1)) rfl id (okB (eqN _ _))<|cV rfl rfl rfl (λ h=>h)<|oR 1 rfl<|gN rfl<|gN rfl<|kM (x:=vB (Gl s0 s0)) (g:=cZ (s0.data.length==1) (s0.words.length==1) false) rfl rfl rfl rfl hsT rfl rfl rfl (.inl rfl) rfl (λ hg=>ZW s0 s0 hk hk)<|cV rfl rfl rfl (λ h=>h)<|oR 1 rfl<|rE 22<|cO ?_;exact fT rfl (congrArg (λ z=>AV.v (.bool z)) (by rw[hd,hw,hs];rfl))
theorem vG{α:Type}{e:α→α→Bool}(h:∀ x,e x x=true):∀ a:List α,tD e a a=true
 |[]=>rfl
 |x::a=>by simp only[tD,h x,vG h a,Bool.and_self]
theorem Re(a:ByteArray):(a==a)=true:=by
 show (a.data==a.data)=true;simp
theorem JT(x:Wy):Ik x x=true:=by unfold Ik;simp[Re]
theorem Rf(x:Req):TL x x=true:=by unfold TL;simp[Re]
theorem TK(x:Nat):eqU x x=true:=by unfold eqU;simp
theorem Lk(x:Seen):Gl x x=true:=by
 unfold Gl;rw[vG (vG JT),vG (vG JT),vG Rf,vG TK];rfl
theorem Ic(c:Ca):(iI c).length≤4∧∀ s∈iI c,s.length≤2:=by
 unfold iI;split
 ·rename_i h;obtain⟨⟨h1,h2⟩,h3⟩:=(jN c).1 h;refine⟨by rw[aF];omega,λ s hs=>?_⟩;obtain⟨s0,hs0,rfl⟩:=rQ.1 hs;obtain⟨k,hk⟩:=List.getElem?_of_mem hs0;have:=((jU c k s0).1 (h3 k s0 hk)).1;rw[aF];omega
 ·exact⟨aE _,λ s hs=>by cases hs⟩
theorem UB(c:Co)(b:Int)(hb:c.bus.length≤1000000)(hr:c.retired.length≤1000000):(YN c b).ok:=by
 refine⟨?_,λ s hs=>?_,?_,λ s hs=>?_,?_,?_⟩
 ·have:=(Ic c.data).1;show (iI c.data).length≤_;omega
 ·have:=(Ic c.data).2 s hs;omega
 ·have:=(Ic c.words).1;show (iI c.words).length≤_;omega
 ·have:=(Ic c.words).2 s hs;omega
 ·show (c.bus.map UD).length≤_;rw[aF];omega
 ·show ((c.retired.drop (JW b).toNat).map (·.pc)).length≤_;rw[aF,aY];omega
def co0:Co:=fN cf0 [] ⟨#[]⟩
theorem ca0:Av (bP cf0).sets (bP cf0).ways=⟨1,[[]]⟩:=rfl
theorem aaF:co0.data=⟨1,[[]]⟩:=ca0
theorem aaG:co0.words=⟨1,[[]]⟩:=ca0
theorem UC:(⟨1,[[]]⟩:Ca).ok:=⟨by simp,λ s hs=>by simp at hs;subst hs;exact⟨by simp,λ x hx=>by cases hx⟩⟩
theorem YA:co0.okW:=⟨aaF ▸ UC,aaG ▸ UC,by show ([]:List Req).length≤_;simp,λ x hx=>(List.not_mem_nil hx).elim,by show ([]:List Sp).length≤_;simp,λ x hx=>(List.not_mem_nil hx).elim⟩
theorem Co.ok.w{c:Co}{n:Nat}(h:c.ok n)(hn:n≤890000):c.okW:=⟨h.data,h.words,by have:=h.bus;omega,λ x hx=>(h.buso x hx).line,by have:=h.ret;omega,λ x hx=>(h.reto x hx).pc⟩
theorem YB:iI ⟨1,[[]]⟩=[[]]:=rfl
theorem WM:bX C0 36 [] (.v (.bool true)):=
 WL co0 (YN co0 0) ZP (ZR co0 0 YA) (UB co0 0 (by show ([]:List Req).length≤_;simp) (by show ([]:List Sp).length≤_;simp)) (by show (iI co0.data).length=1;rw[aaF,YB];rfl) (by show (iI co0.words).length=1;rw[aaG,YB];rfl) (Lk _)
theorem b4:∀ a b c d:Bool,cZ (cZ (cZ (!a) true (!b)) true c) true d=false→a=true∧b=true∧c=false∧d=false:=by decide
def rP(X:Co)(k:Nat):Seen:=YN (kN (jG X k)) ((jG X k).retired.length:Nat)
def dU(X:Co)(k:Nat):List Seen:=(List.range k).map (rP X)
theorem BP(X:Co)(k:Nat):dU X k++[rP X k]=dU X (k+1):=by
 unfold dU;rw[jZ,eU];rfl
theorem Gj(X:Co)(k:Nat):(dU X k).length=k:=by unfold dU;rw[aF,gT]
theorem TJ{X:Co}(hX:X.ok 0){k:Nat}(hk:10 * k+50≤890000):(rP X k).ok:=by
 have h:=(wN (vR hX k omT) omT).w omT;exact UB _ _ h.bus h.ret
theorem Rd{X:Co}(hX:X.ok 0){k:Nat}(hk:k≤2000):∀ s∈dU X k,s.ok:=λ s hs=>by
 obtain⟨i,hi,rfl⟩:=rQ.1 hs;exact TJ hX (by have:=nA.1 hi;omega)
theorem g2{k m n:Nat}(h:(!(cZ (decide (k≥m)) true (decide (k≥n))))=true):k<m∧k<n:=by
 rw[c2o]at h;simp at h;omega
theorem g1{k n:Nat}(h:(!(decide (k≥n)))=true):k<n:=by simp at h;omega
theorem ZO(c:Cf)(prog:List Nat)(m:ByteArray)(n:Int)(hc:c.ok)(hp:∀ x∈prog,x≤4294967295)(hl:prog.length≤1000):bX C0 33 [.agg (cfL c false false),.sl 1 (prog.map eX) false,.v (.string m),vI n] (.tup [.agg (coL (jG (fN c prog m) (EV n))),.sl 4 ((dU (fN c prog m) (EV n)).map seL) false]):=by
 refine dc1 (bX.intro c1Ok Tryz.func33 rfl rfl (by kernel_rfl) rfl ?_);have hX:=GZ c prog m hc hp;refine cSR<|rAl 0 rfl rfl<|rAl 1 rfl rfl<|oR 1 rfl<|rE 3<|cSR<|oR 1 rfl<|rE 4<|cSR<|oR 3 rfl<|rCi rfl (Ui c prog m hc omT)<|rAl 8 rfl rfl<|rSx 8 (coL (fN c prog m)) rfl rfl rfl<|rE 10<|bW<|cSR<|oR 1 rfl<|rW (vI (min n 2000)) rfl (okI (Xm n 2000))<|oR 1 rfl<|rE 13<|bK<|mL (κ:=Nat×Bool) (λ z_=>match z_ with|(k,false)=>⟨slotsF [(8,.ptr 1 0),(9,.sl 0 ([]) true),(11,.ptr 8 0),(18,vI (min n 2000)),(19,vN k),(10,.sl 0 ([]) true)],heapF [(0,.box [vI c.mode,vI c.width,vI c.rob,vI c.queue,vI c.stores,vI c.slots,vI c.sets,vI c.ways,.sl 1 (c.lat.map iL) false,vB c.tables,.sl 1 (c.tape.map eX) false]),(1,.box zCo),(8,.box (coL (jG (fN c prog m) k)))],14⟩|(k,true)=>⟨slotsF [(8,.ptr 1 0),(9,.sl 0 ([]) true),(11,.ptr 8 0),(18,vI (min n 2000)),(19,vN k),(10,.osl 13 0 ((dU (fN c prog m) k).length) false)],heapF [(0,.box [vI c.mode,vI c.width,vI c.rob,vI c.queue,vI c.stores,vI c.slots,vI c.sets,vI c.ways,.sl 1 (c.lat.map iL) false,vB c.tables,.sl 1 (c.tape.map eX) false]),(1,.box zCo),(8,.box (coL (jG (fN c prog m) k))),(13,.arr ((dU (fN c prog m) k).map seL) 4)],14⟩) (λ z_=>match z_ with|(k,false)=>(k≤EV n∧dU (fN c prog m) k=[])|(k,true)=>(k≤EV n)) (λ z_=>EV n - z_.1) (0,false) (λ s=>s) (Weak.of_lists (λ s=>s) wT wH rfl) (⟨aE _,(show dU (fN c prog m) 0=[]from rfl)⟩) ?_;intro z_ hk;obtain⟨k,b_⟩:=z_;cases b_
 ·have hk_:=hk;have hnn:k≤EV n:=hk_.1;have hkB:k≤2000:=by have:EV n≤2000:=(by unfold EV;omega);omega
  have hNk:dU (fN c prog m) k=[]:=hk_.2;have hN:EV n=(min n 2000).toNat:=rfl;have hso:(kN (jG (fN c prog m) k)).ok (0+10 * k+10):=wN (vR hX k omT) omT;have hnb:0+10 * k+10≤890000:=by omega
  refine cSR<|rV (vB (decide ((k:Int)<(min n 2000)))) rfl<|rE 15<|bW<|aW rfl (λ h1=>?_) (λ h1=>?_)
  ·have h1p:=of_decide_eq_true h1;refine bB<|bW<|bK<|cSR<|oR 2 rfl<|rW (vN (((jG (fN c prog m) k).retired).length)) rfl (bY spL ((jG (fN c prog m) k).retired))<|oR 1 rfl<|rE 19<|cSR<|oR 1 rfl<|rCi rfl (Xt (jG (fN c prog m) k) (0+10 * k) (vR hX k omT) omT)<|rSx 8 (coL (kN (jG (fN c prog m) k))) rfl rfl rfl<|rE 22<|cRg<|oR 3 rfl<|rCi rfl (ZR (kN (jG (fN c prog m) k)) ((jG (fN c prog m) k).retired.length:Nat) ((wN (vR hX k omT) omT).w omT))<|rV (.sl 4 ([[.sl 1 (((rP (fN c prog m) k).data).map bC) false,.sl 1 (((rP (fN c prog m) k).words).map bC) false,.sl 4 (((rP (fN c prog m) k).bus).map rqL) false,.sl 1 (((rP (fN c prog m) k).pcs).map eX) false]]) true) rfl<|rFx (x:=.osl 27 0 1 false) (h':=upd _ 27 (some (.arr (([rP (fN c prog m) k]).map seL) 4))) rfl rfl (Hs omT) (⟨rfl,by exact omT,by exact omT,trivial⟩)<|oR 1 rfl<|rE 29<|cRg ?_;have b1:k+1≤2001:=aH hkB (aC 1);refine rW (vN (k+1)) rfl (okI (bV b1 rfl))<|oR 1 rfl<|rE 31 ?_;refine⟨(k+1,true),λ i=>match i with|13=>27|i=>i,Weak.of_lists _ ⟨⟨rfl,rfl⟩,⟨rfl,rfl⟩,⟨rfl,rfl⟩,⟨rfl,rfl⟩,⟨rfl,rfl⟩,⟨(show AV.osl 27 0 (1) false=AV.osl 27 0 (dU (fN c prog m) (k+1)).length false from by rw[←(show [rP (fN c prog m) k]=dU (fN c prog m) (k+1)from (by rw[←(BP (fN c prog m) k),hNk];rfl))];first|done|rfl|(congr 1<;>(first|exact omT|simp))),rfl⟩,trivial⟩ ⟨⟨rfl,rfl,rfl⟩,⟨rfl,rfl,rfl⟩,⟨rfl,rfl,rfl⟩,⟨rfl,(congrArg (λ z:List Seen=>some (Blk.arr (z.map seL) 4)) (show [rP (fN c prog m) k]=dU (fN c prog m) (k+1)from (by rw[←(BP (fN c prog m) k),hNk];rfl))),rfl⟩,trivial⟩ rfl,by omega,by show EV n - (k+1)<EV n - k;omega⟩
  ·have h1p:=aD h1;refine eE<|cSR<|oR 2 rfl<|rSx 1 (coL (jG (fN c prog m) k)) rfl rfl rfl<|oR 1 rfl<|rE 19<|cO ?_;have hk2:k=EV n:=by omega
   rw[←hk2];exact⟨_,rfl,trivial,rfl,Sub.tup ⟨Sub.refl _,(by show Sub (.sl 0 [] true) (.sl 4 ((dU (fN c prog m) k).map seL) false);rw[hNk];exact oG 4 false),trivial⟩⟩
 ·have hk_:=hk;have hnn:k≤EV n:=hk_;have hkB:k≤2000:=by have:EV n≤2000:=(by unfold EV;omega);omega
  have habk:(dU (fN c prog m) k).length≤2000:=(by rw[Gj];omega);have hN:EV n=(min n 2000).toNat:=rfl;have hso:(kN (jG (fN c prog m) k)).ok (0+10 * k+10):=wN (vR hX k omT) omT;have hnb:0+10 * k+10≤890000:=by omega
  refine cSR<|rV (vB (decide ((k:Int)<(min n 2000)))) rfl<|rE 15<|bW<|aW rfl (λ h2=>?_) (λ h2=>?_)
  ·have h2p:=of_decide_eq_true h2;refine bB<|bW<|bK<|cSR<|oR 2 rfl<|rW (vN (((jG (fN c prog m) k).retired).length)) rfl (bY spL ((jG (fN c prog m) k).retired))<|oR 1 rfl<|rE 19<|cSR<|oR 1 rfl<|rCi rfl (Xt (jG (fN c prog m) k) (0+10 * k) (vR hX k omT) omT)<|rSx 8 (coL (kN (jG (fN c prog m) k))) rfl rfl rfl<|rE 22<|cRg<|oR 3 rfl<|rCi rfl (ZR (kN (jG (fN c prog m) k)) ((jG (fN c prog m) k).retired.length:Nat) ((wN (vR hX k omT) omT).w omT))<|rV (.sl 4 ([[.sl 1 (((rP (fN c prog m) k).data).map bC) false,.sl 1 (((rP (fN c prog m) k).words).map bC) false,.sl 4 (((rP (fN c prog m) k).bus).map rqL) false,.sl 1 (((rP (fN c prog m) k).pcs).map eX) false]]) true) rfl<|rFx (x:=.osl 27 0 ((dU (fN c prog m) k).length+1) false) (h':=upd (upd _ 13 none) 27 (some (.arr (((dU (fN c prog m) k)++([rP (fN c prog m) k])).map seL) 4))) rfl rfl (jL seL (dU (fN c prog m) k) ([rP (fN c prog m) k]) omT omT) (⟨by exact omT,by exact omT,trivial⟩)<|oR 1 rfl<|rE 29<|cRg ?_;have b2:k+1≤2001:=aH hkB (aC 1);refine rW (vN (k+1)) rfl (okI (bV b2 rfl))<|oR 1 rfl<|rE 31 ?_;refine⟨(k+1,true),λ i=>match i with|13=>27|i=>i,Weak.of_lists _ ⟨⟨rfl,rfl⟩,⟨rfl,rfl⟩,⟨rfl,rfl⟩,⟨rfl,rfl⟩,⟨rfl,rfl⟩,⟨(show AV.osl 27 0 ((dU (fN c prog m) k).length+1) false=AV.osl 27 0 (dU (fN c prog m) (k+1)).length false from by rw[←(show (dU (fN c prog m) k)++([rP (fN c prog m) k])=dU (fN c prog m) (k+1)from BP (fN c prog m) k)];first|done|rfl|(congr 1<;>(first|exact omT|simp))),rfl⟩,trivial⟩ ⟨⟨rfl,rfl,rfl⟩,⟨rfl,rfl,rfl⟩,⟨rfl,rfl,rfl⟩,⟨rfl,(congrArg (λ z:List Seen=>some (Blk.arr (z.map seL) 4)) (show (dU (fN c prog m) k)++([rP (fN c prog m) k])=dU (fN c prog m) (k+1)from BP (fN c prog m) k)),rfl⟩,trivial⟩ rfl,by omega,by show EV n - (k+1)<EV n - k;omega⟩
  ·have h2p:=aD h2;refine eE<|cSR<|oR 2 rfl<|rSx 1 (coL (jG (fN c prog m) k)) rfl rfl rfl<|oR 1 rfl<|rE 19<|cO ?_;have hk2:k=EV n:=by omega
   rw[←hk2];exact⟨_,rfl,⟨tvT,(by show 0+((dU (fN c prog m) k).length)≤((dU (fN c prog m) k).map seL).length;exact omT),trivial⟩,rfl,Sub.tup ⟨Sub.refl _,(by show Sub (.sl 4 (List.take (dU (fN c prog m) k).length (List.drop 0 ((dU (fN c prog m) k).map seL))) false) (.sl 4 ((dU (fN c prog m) k).map seL) false);rw[kG seL (dU (fN c prog m) k) (aC _)];exact Sub.refl _),trivial⟩⟩
def Ib(P:Wy→Prop)(c:Ca):Prop:=∀ s∈c.sets,∀ w∈s,P w
theorem AU{P:Wy→Prop}{c:Ca}(h:Ib P c)(k:Nat):∀ w∈oD c k,P w:=by
 intro w hw;unfold oD at hw
 cases hk:c.sets[k]? with
 |none=>rw[hk]at hw;exact absurd hw List.not_mem_nil
 |some s=>rw[hk]at hw;exact h s (aB hk) w hw
theorem zS{P:Wy→Prop}{c:Ca}(h:Ib P c)(k:Nat){s:List Wy}(hs:∀ w∈s,P w):Ib P (oW c k s):=by
 intro t ht;rcases List.mem_or_eq_of_mem_set ht with h1|h1
 ·exact h t h1
 ·subst h1;exact hs
theorem My{P:Wy→Prop}{l:List Wy}{f:Wy→Wy}(h:∀ w∈l,P w)(hf:∀ w,P w→P (f w)):∀ w∈modHd f l,P w:=by
 cases l with
 |nil=>exact h
 |cons x l=>
  intro w hw;rcases al_List_mem_cons.1 hw with h1|h1
  ·subst h1;exact hf x (h x bD)
  ·exact h w (bF _ h1)
theorem Ga{P:Wy→Prop}{c:Ca}(h:Ib P c)(line:Nat):Ib P (mG c line):=by
 unfold mG;split
 ·exact zS h _ (lU (AU h _))
 ·exact h
theorem Mz{P:Wy→Prop}{c:Ca}(h:Ib P c)(line:Nat)(d:ByteArray)(b:Bool)(hn:∀ x,P ⟨lineOf line,b,x⟩)(hm:∀ w x,P w→P {w with data:=x,dirty:=w.dirty||b})(h0:P pO):Ib P (nP c line d b).1∧P (nP c line d b).2.1:=by
 have hc:∀ k (s:List Wy),(∀ w∈s,P w)→Ib P (oW c k (⟨lineOf line,b,dB d⟩::s)):=λ k s hs=>zS h k λ w hw=>by
  rcases al_List_mem_cons.1 hw with h1|h1
  ·subst h1;exact hn _
  ·exact hs w h1
 unfold nP;split
 ·split
  ·exact⟨zS h _ (My (lU (AU h _)) λ w hw=>hm w _ hw),h0⟩
  ·split
   ·refine⟨hc _ _ λ w hw=>AU h _ w ((List.dropLast_sublist _).subset hw),?_⟩;rename_i k _ _
    cases hl:(oD c k).getLast? with
    |none=>exact h0
    |some g=>exact AU h k g (List.mem_of_getLast? hl)
   ·exact⟨hc _ _ (AU h _),h0⟩
 ·exact⟨h,h0⟩
theorem NB{P:Wy→Prop}{c:Ca}(h:Ib P c)(a:Nat)(b:ByteArray)(hm:∀ w x,P w→P {w with data:=x,dirty:=true}):Ib P (qM c a b).1:=by
 unfold qM;split
 ·split
  ·split
   ·exact h
   ·exact zS h _ (My (lU (AU h _)) λ w hw=>hm w _ hw)
  ·exact h
 ·exact h
theorem Gb{P:Wy→Prop}{f:Wy→Wy}(hf:∀ w,P w→P (f w)):∀ (l:List Wy) (j:Nat),(∀ w∈l,P w)→∀ w∈l.modify j f,P w
 |[],j,h=>by cases j<;>exact h
 |x::l,0,h=>λ w hw=>by
  rcases al_List_mem_cons.1 hw with h1|h1
  ·subst h1;exact hf x (h x bD)
  ·exact h w (bF _ h1)
 |x::l,j+1,h=>λ w hw=>by
  rcases al_List_mem_cons.1 hw with h1|h1
  ·subst h1;exact h _ bD
  ·exact Gb hf l j (λ w hw=>h w (bF _ hw)) w h1
theorem NC{P:Wy→Prop}{c:Ca}(h:Ib P c)(line:Nat)(hm:∀ w,P w→P {w with dirty:=false}):Ib P (oH c line):=by
 unfold oH;split
 ·exact zS h _ (Gb hm _ _ (AU h _))
 ·exact h
theorem ND{P:Wy→Prop}{c:Ca}(h:Ib P c){w:Wy}(hw:cM c=some w):P w:=by
 unfold cM at hw;split at hw
 ·obtain⟨s,hs,hm⟩:=List.mem_flatten.1 (List.mem_of_find?_eq_some hw);exact h s hs w hm
 ·cases hw
abbrev YM(w:Wy):Prop:=w.line % 16=0
abbrev cl0(w:Wy):Prop:=w.dirty=false
theorem MA(a:Nat):lineOf a % 16=0:=by unfold lineOf;omega
structure TagI(c:Co):Prop where
 bu:∀ x∈c.bus,x.line % 16=0
 wd:Ib cl0 c.words
 da:Ib YM c.data
theorem QC{q:List Req}(h:∀ x∈q,x.line % 16=0)(k:Int){line:Nat}(hl:line % 16=0)(left:Int)(d:ByteArray):∀ x∈xZ q k line left d,x.line % 16=0:=λ x hx=>by
 rcases al_List_mem_append.1 hx with h1|h1
 ·exact h x h1
 ·rw[tO.1 h1];exact hl
theorem QD{c:Ca}{q:List Req}(hc:Ib YM c)(hq:∀ x∈q,x.line % 16=0)(m:ByteArray)(line:Nat)(left:Int):Ib YM (gC c q m line left).1∧∀ x∈(gC c q m line left).2.1,x.line % 16=0:=by
 unfold gC;split
 ·exact⟨hc,hq⟩
 ·split
  ·exact⟨Ga hc _,hq⟩
  ·have hp:=Mz hc (lineOf line) (El (jI q m) (lineOf line)) false (λ _=>MA _) (λ _ _ h=>h) rfl;split
   rename_i d g w e;rw[e]at hp;split
   ·exact⟨hp.1,QC hq 4 hp.2 _ _⟩
   ·exact⟨hp.1,hq⟩
theorem TagI.bring{c:Co}(h:TagI c)(line:Nat):TagI (eO c line):=by
 have hb:=QD h.da h.bu c.mem line (kQ c.conf c.asked);have hw:=(JP c line).2.2.2.2.1;refine⟨?_,by rw[hw];exact h.wd,?_⟩
 ·unfold eO;exact hb.2
 ·unfold eO;exact hb.1
theorem TagI.same{c d:Co}(h:TagI c)(h1:d.bus=c.bus)(h2:d.words=c.words)(h3:d.data=c.data):TagI d:=⟨h1 ▸ h.bu,h2 ▸ h.wd,h3 ▸ h.da⟩
theorem TagI.ask{c:Co}(h:TagI c)(k:Int){line:Nat}(hl:line % 16=0)(d:ByteArray):TagI (iO c k line d):=⟨QC h.bu k hl _ d,h.wd,h.da⟩
theorem Tp{c:Co}(h:TagI c):TagI (iS c):=by
 have ht:∀ x∈(dX c.bus).1,x.line % 16=0:=by
  have hb:=h.bu;unfold dX;split
  ·exact λ x hx=>absurd hx List.not_mem_nil
  ·rename_i y r e;rw[e]at hb;split
   ·intro x hx;rcases al_List_mem_cons.1 hx with h1|h1
    ·subst h1;exact hb y bD
    ·exact hb x (bF _ h1)
   ·exact λ x hx=>hb x (bF _ hx)
 have hB:TagI (iN c):=⟨ht,h.wd,h.da⟩;rw[gX];split
 ·unfold zO
  repeat' split
  ·exact hB.same rfl rfl rfl
  ·exact⟨hB.bu,(Mz hB.wd _ _ _ (λ _=>rfl) (λ w _ h=>by show (w.dirty||false)=false;rw[show w.dirty=false from h];rfl) rfl).1,hB.da⟩
  ·exact hB.bring _
  ·exact hB.same rfl rfl rfl
  ·exact hB
 ·exact hB
theorem Tq{c:Co}(h:TagI c):TagI (gD c):=by
 unfold gD
 repeat' split
 all_goals exact h.same rfl rfl rfl
theorem EA:∀ (n:Nat) (c:Co),TagI c→TagI (dM n c)
 |0,_,h=>h
 |n+1,c,h=>by
  unfold dM
  repeat' split
  all_goals first|exact h|exact h.same rfl rfl rfl|skip
  refine EA n _ ?_;unfold tL sT;have hp:∀ s,TagI (fD c s):=λ s=>h.same rfl rfl rfl;split
  ·exact ((hp _).bring _).same rfl rfl rfl
  ·exact h.same rfl rfl rfl
theorem TagI.setE{c:Co}(h:TagI c)(i:Nat)(e:Ent):TagI (setE c i e):=h.same rfl rfl rfl
theorem Wu{c:Co}(h:TagI c)(i:Nat):TagI (jT c i):=by
 unfold jT
 repeat' split
 all_goals first|exact h|exact h.setE _ _|exact (h.ask _ (MA _) _).setE _ _
theorem Ts{c:Co}(h:TagI c)(i:Nat):TagI (eP c i):=by
 unfold eP
 repeat' split
 all_goals first|exact h|exact h.setE _ _|exact Wu (h.setE _ _) _
theorem JM:∀ (p:List Nat) (c:Co),TagI c→TagI (p.foldl eP c)
 |[],_,h=>h
 |i::p,c,h=>JM p _ (Ts h i)
theorem Gc:∀ (n:Nat) (c:Co),TagI c→TagI (iT n c)
 |0,_,h=>h
 |n+1,c,h=>by
  unfold iT
  repeat' split
  ·exact h
  ·exact h
  ·exact Gc n _ (h.same rfl rfl rfl)
theorem QE{c:Co}(h:TagI c)(w:Nat):TagI (cH c w).1:=by
 unfold cH
 repeat' split
 all_goals exact h.same rfl rfl rfl
theorem EB:∀ (n:Nat) (c:Co),TagI c→TagI (dW n c)
 |0,_,h=>h
 | n +1,c,h=>by
  unfold dW;split
  ·exact h
  ·split
   ·exact h.same rfl rfl rfl
   ·split
    ·split
     ·exact h.ask _ (MA _) _
     ·exact h
    ·refine EB n _ ?_;have hx:TagI {c with words:=mG c.words (lineOf c.fetch)}:=⟨h.bu,Ga h.wd _,h.da⟩;exact (QE hx (fetchW c.prog c.fetch)).same rfl rfl rfl
theorem QF{c:Co}(h:TagI c):TagI (oV c):=by
 have h1:TagI (aT c):=by
  refine⟨h.bu,h.wd,?_⟩;show Ib YM (mK c.stores c.data).2.1;unfold mK
  repeat' split
  ·exact h.da
  ·exact NB h.da _ _ λ _ _ h=>h
  ·exact h.da
 have hA:∀ {d:Co},TagI d→TagI (lJ d):=λ {d} k=>by
  unfold lJ
  repeat' split
  ·exact k
  ·exact k.ask _ (MA _) _
  ·exact k
 have hB:∀ {d:Co},TagI d→TagI (jM d):=λ {d} k=>by
  unfold jM;split
  ·exact k
  ·unfold lD;split
   ·rename_i w e;split
    ·have q:=k.ask 4 (ND k.da e) w.data;exact⟨q.bu,q.wd,NC k.da _ λ _ h=>h⟩
    ·exact k
   ·exact k
 rw[iR];split
 ·exact hB (hA h1)
 ·exact hB h1
theorem Wv{c:Co}(h:TagI c):TagI (kN c):=by
 unfold kN;split
 ·refine QF ?_;have h1:TagI (dI (gD (iS {c with cycle:=wrap64 (c.cycle+1)}))):=EA _ _ (Tq (Tp (h.same rfl rfl rfl)));have h2:∀ {d:Co},TagI d→TagI (eQ d):=λ {d} k=>by
   unfold eQ;split
   ·exact k
   ·exact JM _ _ k
  have h3:∀ {d:Co},TagI d→TagI (gW d):=λ {d} k=>by
   unfold gW;split
   ·exact k
   ·exact Gc _ _ k
  have h4:∀ {d:Co},TagI d→TagI (dJ d):=λ {d} k=>by
   unfold dJ;split
   ·exact k
   ·exact EB _ _ k
  exact h4 (h3 (h2 h1))
 ·exact h
theorem Yu(cf:Cf)(prog:List Nat)(m:ByteArray):TagI (fN cf prog m):=by
 have h0:∀ (P:Wy→Prop) (a b:Int),Ib P (Av a b):=λ P a b s hs w hw=>by
  have:=(List.mem_replicate.1 hs).2;subst this;exact absurd hw List.not_mem_nil
 exact⟨λ x hx=>absurd hx List.not_mem_nil,h0 _ _ _,h0 _ _ _⟩
theorem Ux{X:Co}(h:TagI X):∀ k,TagI (jG X k)
 |0=>h
 |k+1=>Wv (Ux h k)
structure SeTag(f:Cf)(s:Seen):Prop where
 dl:(s.data.length:Int)=f.sets
 wl:(s.words.length:Int)=f.sets
 dw:∀ t∈s.data,(t.length:Int)≤f.ways
 ww:∀ t∈s.words,(t.length:Int)≤f.ways
 wd:∀ k t,s.words[k]?=some t→∀ w∈t,w.dirty=false∧w.line / 16 % s.words.length=k∧w.data=oC
 wo:∀ t∈s.words,∀ w∈t,w.ok
 bu:∀ x∈s.bus,x.left=0∧x.data=oC∧x.line % 16=0
 rd:(jP s.bus:Int)≤f.slots
theorem JN{c:Ca}(h:fR c=true){k:Nat}{s:List Wy}(hs:c.sets[k]?=some s):(s.length:Int)≤c.ways∧∀ w∈s,wZ c w.line=k:=by
 unfold fR at h;simp only[aI]at h;have hk:=iH.1 h.2 k (nA.2 (Dq.1 hs).1);rw[hs]at hk;unfold uD at hk;simp only[aI,aP]at hk;refine⟨hk.1,λ w hw=>?_⟩;obtain⟨i,hi,e⟩:=eA hw;have:=iH.1 hk.2 i (nA.2 hi);rw[aA hi,e]at this;simp only[aI,aP]at this;exact this.1.1.2
theorem EC{c:Ca}{k:Nat}{t:List Wy}(h:fR c=true)(ht:(iI c)[k]?=some t):∃ s,c.sets[k]?=some s∧t=s.map λ w=>{w with data:=oC}:=by
 unfold iI at ht;rw[if_pos h,aZ]at ht
 cases hs:c.sets[k]? with
 |none=>rw[hs]at ht;cases ht
 |some s=>rw[hs]at ht;injection ht with ht;exact⟨s,rfl,ht.symm⟩
theorem QG(q:List Req):jP (q.map UD)=jP q:=by
 unfold jP;rw[List.filter_map,aF];rfl
theorem Ww{X:Co}{k:Nat}(hG:GdRun X (k+1))(hT:TagI (jG X (k+1))):SeTag X.conf (rP X k):=by
 have hr:=hG.rt;unfold fS at hr;simp only[aI,aP]at hr;obtain⟨⟨⟨⟨⟨⟨-,h7⟩,h8⟩, -⟩, -⟩, -⟩, -⟩:=hr;unfold tM at h7 h8;simp only[aI,aP]at h7 h8;have hc:=hG.bd.conf;rw[hc]at h7 h8;have hw:∀ {c:Ca},fR c=true→c.ways=X.conf.ways→∀ t∈iI c,(t.length:Int)≤X.conf.ways:=λ {c} hr hw t ht=>by
  obtain⟨i,hi,e⟩:=eA ht;obtain⟨s,hs,e2⟩:=EC hr (k:=i) (t:=t) (by rw[aA hi,e]);rw[e2,aF, ←hw];exact (JN hr hs).1
 refine⟨?_,?_,hw h7.1.1 h7.2,hw h8.1.1 h8.2,λ i t ht w hw=>?_,λ t ht w hw=>?_,λ x hx=>?_,?_⟩
 ·show ((iI (jG X (k+1)).data).length:Int)=_;rw[BF h7.1.1];exact h7.1.2
 ·show ((iI (jG X (k+1)).words).length:Int)=_;rw[BF h8.1.1];exact h8.1.2
 ·obtain⟨s,hs,e⟩:=EC h8.1.1 (k:=i) (t:=t) ht;rw[e]at hw;obtain⟨v,hv,rfl⟩:=rQ.1 hw;refine⟨hT.wd s (aB hs) v hv,?_,rfl⟩;show v.line / 16 % (iI (jG X (k+1)).words).length=i;rw[BF h8.1.1];exact (JN h8.1.1 hs).2 v hv
 ·obtain⟨i,hi,e⟩:=eA ht;obtain⟨s,hs,e2⟩:=EC h8.1.1 (k:=i) (t:=t) (by rw[←e];exact aA hi);rw[e2]at hw;obtain⟨v,hv,rfl⟩:=rQ.1 hw;exact⟨((hG.ok.words.set s (aB hs)).2 v hv).line⟩
 ·obtain⟨y,hy,rfl⟩:=rQ.1 hx;exact⟨rfl,rfl,hT.bu y hy⟩
 ·show (jP ((jG X (k+1)).bus.map UD):Int)≤_;rw[QG];exact hG.bd.rd
theorem NE{X:Co}(hG:∀ k,k≤3000→GdRun X k)(hT:TagI X){n:Nat}(hn:n≤2000):∀ s∈dU X n,SeTag X.conf s:=λ s hs=>by
 obtain⟨i,hi,rfl⟩:=rQ.1 hs;have:=nA.1 hi;exact Ww (hG (i+1) omT) (Ux hT (i+1))
theorem TM{k:Nat}(h:k≤2000):EV (k:Int)=k:=by unfold EV;omega
theorem YD(cf:Cf)(prog:List Nat)(m:ByteArray)(k:Nat)(hc:cf.ok)(hp:∀ x∈prog,x≤4294967295)(hl:prog.length≤1000)(hk:k≤2000)(X:Co)(hX:X=fN cf prog m):bX C0 33 [.agg (cfL cf false false),.sl 1 (prog.map eX) false,.v (.string m),vN k] (.tup [.agg (coL (jG X k)),.sl 4 ((dU X k).map seL) false]):=by
 subst hX;have h:=ZO cf prog m (k:Int) hc hp hl;rw[TM hk]at h;exact h
theorem WO(prog:List Nat)(m:ByteArray)(hl:prog.length≤9223372036854775807)(hm:m.size≤9223372036854775807):bX C0 32 [.sl 1 (prog.map eX) false,.v (.string m)] (.tup [.sl 1 ((NL prog).map eX) false,.v (.string (TH m))]):=by
 refine dc1 (bX.intro c1Ok Tryz.func32 rfl rfl (by kernel_rfl) rfl ?_);refine cSR<|oR 2 rfl<|rE 2<|cSR<|oR 2 rfl<|rW (vN prog.length) rfl (bY eX prog)<|rW (vN (min prog.length 64)) rfl (BG prog.length 64)<|nW (.sl 1 ((prog.take (min prog.length 64)).map eX) false) rfl (wU (uX eX prog (min prog.length 64))) slT<|oR 2 rfl<|rV (vN m.size) rfl<|rW (vN (min m.size 300)) rfl (BG m.size 300)<|nW (.v (.string (m.extract 0 (min m.size 300)))) rfl rfl (by refine⟨?_,?_,?_⟩<;>(first|exact aG _|decide|(apply EJ.2;exact omT)))<|oR 2 rfl<|rE 14<|cO ?_;exact fT rfl rfl
theorem Yt{a b:Int}(h:a=b):(a != b)=false:=by rw[h];simp
theorem QB{d:ByteArray}(h:d=oC):(!(d.toList==(⟨#[]⟩:ByteArray).toList))=false:=by subst h;rw[wS];rfl
theorem ZL{a b:Nat}(h:a=b):((a:Int) != (b:Int))=false:=Yt (by rw[h])
theorem NA(cf:Cf)(prog:List Nat)(m:ByteArray)(n:Int)(hc:cf.ok)(hp:∀ x∈prog,x≤4294967295)(hl:prog.length≤9223372036854775807)(hm:m.size≤9223372036854775807):bX C0 13 [.agg (cfL cf false false),.sl 1 (prog.map eX) false,.v (.string m),vI n] (vB true):=by
 refine dc1 (bX.intro c1Ok Tryz.func13 rfl rfl (by kernel_rfl) rfl ?_);obtain⟨N,hNe⟩:∃ N,N=upTo n 200:=⟨_,rfl⟩;have hNi:(if (200:Int)<max n 0 then (200:Int)else max n 0)=(N:Int):=hNe ▸ WK n 200;have hN:N≤200:=hNe ▸ WJ _ _;have hl2:(NL prog).length≤1000:=by unfold NL;rw[aN];omega
 have hp2:=xV (P:=λ x=>x≤4294967295) (n:=min prog.length 64) hp;obtain⟨X,hXe⟩:∃ X,X=fN cf (NL prog) (TH m):=⟨_,rfl⟩;have hX:X.ok 0:=hXe ▸ GZ cf _ _ hc hp2;have hnb:3000≤890000:=by decide
 have hcp:0≤X.conf.rob∧0≤X.conf.queue:=by rw[hXe];exact Rb cf
 have hG:=Uy (Yv cf (NL prog) (TH m) hc hp2 X hXe (hXe ▸ QI _ _ _ (hXe ▸ hX))) hcp;have hT:TagI X:=hXe ▸ Yu _ _ _;have hS:=NE hG hT (n:=N) omT;have hcf:(jG X N).conf=X.conf:=(hG N omT).bd.conf;refine cSR<|rAl 0 rfl rfl<|oR 1 rfl<|rE 2<|cSR<|oR 2 rfl<|rCi rfl (WO prog m hl hm)<|oR 5 rfl<|rE 10<|cSR<|oR 4 rfl<|rW (vI (max n 0)) rfl (okI (Yz n 0))<|rW (vN N) rfl (okI hNi) ?_;refine rCi rfl (YD cf (NL prog) (TH m) N hc hp2 hl2 omT X hXe)<|oR 3 rfl<|rAl 20 rfl rfl<|rSx 20 (coL (jG X N)) rfl rfl rfl<|oR 1 rfl<|rE 23<|bW<|cSR<|oR 1 rfl<|rW (vN ((dU X N).length)) rfl (bY seL (dU X N))<|oR 1 rfl<|rE 26<|bK<|mL (κ:=Nat) (λ k=>⟨slotsF [(9,.ptr 20 0),(35,.sl 4 ((dU X N).map seL) false),(36,vN ((dU X N).length)),(37,vN k)],heapF [(0,.box [vI cf.mode,vI cf.width,vI cf.rob,vI cf.queue,vI cf.stores,vI cf.slots,vI cf.sets,vI cf.ways,.sl 1 (cf.lat.map iL) false,vB cf.tables,.sl 1 (cf.tape.map eX) false]),(20,.box (coL (jG X N)))],26⟩) (λ k=>k≤(dU X N).length) (λ k=>(dU X N).length - k) 0 (λ s=>s) (Weak.of_lists (λ s=>s) wT wH rfl) (aE _) ?_;intro k hk;have hkn:k≤(dU X N).length:=hk;have hkB:k≤2000:=by have:=Gj X N;omega
 refine cSR<|rW (vB (decide (k<((dU X N).length)))) rfl (okB (ltN _ _))<|rE 27<|bW ?_;refine aW rfl (λ h1=>?_) (λ h1=>?_)
 ·have h1p:=of_decide_eq_true h1;refine bB<|bW<|bK<|cSR ?_;obtain⟨s,hs⟩:∃ y_,(dU X N)[k]?=some y_:=⟨_,aA omT⟩;have hso:=(Rd hX omT) s (aB hs);have hst:=hS s (aB hs);refine rIx (seL s) (.dp 4 0 (seL s)) rfl rfl (iB hs) rfl<|oR 1 rfl<|rAl 29 rfl rfl<|rSt rfl<|rE 31<|bW<|cSR<|oR 2 rfl<|rW (vN s.data.length) rfl (bY bC s.data)<|oR 3 rfl<|rW (vB false) rfl (okB (Yt (by rw[hcf];exact hst.dl)))<|oR 1 rfl<|gN rfl<|gS rfl id<|gBS (x:=vN s.words.length) rfl id (bY bC s.words) ?_;refine gN rfl<|gS rfl id<|gS rfl id<|gBS (x:=vB false) rfl hsT (okB (Yt (by rw[hcf];exact hst.wl)))<|cV rfl rfl rfl (by simp)<|rE 47 ?_;refine aW rfl (λ h=>by cases h) (λ _=>?_);refine bB<|bW<|cSR<|oR 2 rfl<|rW (vN s.data.length) rfl (bY bC s.data)<|oR 1 rfl<|rE 51<|bK<|mL (κ:=Nat) (λ j=>⟨slotsF [(9,.ptr 20 0),(35,.sl 4 ((dU X N).map seL) false),(36,vN ((dU X N).length)),(37,vN k),(38,vB (decide (k<((dU X N).length)))),(39,.dp 4 0 (seL s)),(40,.agg (seL s)),(12,.ptr 29 0),(41,.ptr 29 0),(42,.sl 1 (s.data.map bC) false),(43,vN s.data.length),(44,.ptr 20 0),(45,.ptr 20 6),(46,vI ((jG X N).conf.sets)),(47,vB false),(48,vB false),(49,.opt (!false) (.ptr 29 1)),(50,.opt (!false) (.sl 1 (s.words.map bC) false)),(51,.opt (!false) (vN s.words.length)),(52,.opt (!false) (.ptr 20 0)),(53,.opt (!false) (.ptr 20 6)),(54,.opt (!false) (vI ((jG X N).conf.sets))),(55,.opt (!false) (vB false)),(56,vB false),(57,.ptr 29 0),(58,.sl 1 (s.data.map bC) false),(59,vN s.data.length),(60,vN j)],heapF [(0,.box [vI cf.mode,vI cf.width,vI cf.rob,vI cf.queue,vI cf.stores,vI cf.slots,vI cf.sets,vI cf.ways,.sl 1 (cf.lat.map iL) false,vB cf.tables,.sl 1 (cf.tape.map eX) false]),(20,.box (coL (jG X N))),(29,.box [.sl 1 (s.data.map bC) false,.sl 1 (s.words.map bC) false,.sl 4 (s.bus.map rqL) false,.sl 1 (s.pcs.map eX) false])],51⟩) (λ j=>j≤s.data.length) (λ j=>s.data.length - j) 0 (λ s=>s) (Weak.of_lists (λ s=>s) wT wH rfl) (aE _) ?_;intro j hj;have hjn:j≤s.data.length:=hj;have hjB:j≤1000000:=by have:=hso.data;omega
  have hwl:s.words.length=s.data.length:=by have:=hst.wl;have:=hst.dl;omega
  refine cSR<|rW (vB (decide (j<s.data.length))) rfl (okB (ltN _ _))<|rE 52<|bW ?_;refine aW rfl (λ h2=>?_) (λ h2=>?_)
  ·have h2p:=of_decide_eq_true h2;refine bB<|bW<|bK<|cSR<|oR 2 rfl<|rE 54<|bW<|cSR<|oR 3 rfl ?_;obtain⟨dt,hdt⟩:∃ y_,s.data[j]?=some y_:=⟨_,aA omT⟩;refine rIx (bC dt) (.dp 1 0 (bC dt)) rfl rfl (iB hdt) rfl<|oR 1 rfl<|rW (vN dt.length) rfl (bY wyL dt)<|oR 3 rfl<|rW (vB false) rfl (okB (kC (by rw[hcf];have:=hst.dw dt (aB hdt);omega)))<|oR 1 rfl<|gN rfl<|gS rfl id<|gN rfl ?_;obtain⟨wt,hwt⟩:∃ y_,s.words[j]?=some y_:=⟨_,aA omT⟩;have hwto:wt.length≤9223372036854775807∧∀ x∈wt,x.ok:=⟨aM (hso.word wt (aB hwt)) (by decide),hst.wo wt (aB hwt)⟩;refine IG (bC wt) (x:=.dp 1 0 (bC wt)) (g:= !false) rfl rfl rfl rfl hsT rfl rfl (λ hg=>⟨aG _,iB hwt⟩) rfl<|gS rfl id<|gBS (x:=vN wt.length) rfl id (bY wyL wt)<|gN rfl<|gS rfl id<|gS rfl id<|gBS (x:=vB false) rfl hsT (okB (kC (by rw[hcf];have:=hst.ww wt (aB hwt);omega)))<|cV rfl rfl rfl (by simp)<|rE 76 ?_;refine aW rfl (λ h=>by cases h) (λ _=>?_);refine bB<|cSR<|oR 3 rfl<|rIx (bC wt) (.dp 1 0 (bC wt)) rfl rfl (iB hwt) rfl<|oR 1 rfl<|rW (vN wt.length) rfl (bY wyL wt)<|oR 1 rfl<|rE 83<|bK<|mL (κ:=Nat) (λ i=>⟨slotsF [(9,.ptr 20 0),(35,.sl 4 ((dU X N).map seL) false),(36,vN ((dU X N).length)),(37,vN k),(38,vB (decide (k<((dU X N).length)))),(39,.dp 4 0 (seL s)),(40,.agg (seL s)),(12,.ptr 29 0),(41,.ptr 29 0),(42,.sl 1 (s.data.map bC) false),(43,vN s.data.length),(44,.ptr 20 0),(45,.ptr 20 6),(46,vI ((jG X N).conf.sets)),(47,vB false),(48,vB false),(49,.opt (!false) (.ptr 29 1)),(50,.opt (!false) (.sl 1 (s.words.map bC) false)),(51,.opt (!false) (vN s.words.length)),(52,.opt (!false) (.ptr 20 0)),(53,.opt (!false) (.ptr 20 6)),(54,.opt (!false) (vI ((jG X N).conf.sets))),(55,.opt (!false) (vB false)),(56,vB false),(57,.ptr 29 0),(58,.sl 1 (s.data.map bC) false),(59,vN s.data.length),(60,vN j),(61,vB (decide (j<s.data.length))),(62,vN j),(13,vN j),(63,.ptr 29 0),(64,.sl 1 (s.data.map bC) false),(65,vN j),(66,.dp 1 0 (bC dt)),(67,.sl 3 (dt.map wyL) false),(68,vN dt.length),(69,.ptr 20 0),(70,.ptr 20 7),(71,vI ((jG X N).conf.ways)),(72,vB false),(73,vB false),(74,.opt (!false) (.ptr 29 1)),(75,.opt (!false) (.sl 1 (s.words.map bC) false)),(76,.opt (!false) (vN j)),(77,.opt (!false) (.dp 1 0 (bC wt))),(78,.opt (!false) (.sl 3 (wt.map wyL) false)),(79,.opt (!false) (vN wt.length)),(80,.opt (!false) (.ptr 20 0)),(81,.opt (!false) (.ptr 20 7)),(82,.opt (!false) (vI ((jG X N).conf.ways))),(83,.opt (!false) (vB false)),(84,vB false),(85,.ptr 29 1),(86,.sl 1 (s.words.map bC) false),(87,vN j),(88,.dp 1 0 (bC wt)),(89,.sl 3 (wt.map wyL) false),(90,vN wt.length),(91,vN i)],heapF [(0,.box [vI cf.mode,vI cf.width,vI cf.rob,vI cf.queue,vI cf.stores,vI cf.slots,vI cf.sets,vI cf.ways,.sl 1 (cf.lat.map iL) false,vB cf.tables,.sl 1 (cf.tape.map eX) false]),(20,.box (coL (jG X N))),(29,.box [.sl 1 (s.data.map bC) false,.sl 1 (s.words.map bC) false,.sl 4 (s.bus.map rqL) false,.sl 1 (s.pcs.map eX) false])],83⟩) (λ i=>i≤wt.length) (λ i=>wt.length - i) 0 (λ s=>s) (Weak.of_lists (λ s=>s) wT wH rfl) (aE _) ?_;intro i hi;have hin:i≤wt.length:=hi;have hiB:i≤1000000:=by have:=hso.word wt (aB hwt);omega
   refine cSR<|rW (vB (decide (i<wt.length))) rfl (okB (ltN _ _))<|rE 84<|bW ?_;refine aW rfl (λ h3=>?_) (λ h3=>?_)
   ·have h3p:=of_decide_eq_true h3;refine bB<|bW<|bK<|cSR ?_;obtain⟨w,hw⟩:∃ y_,wt[i]?=some y_:=⟨_,aA omT⟩;have hwo:=(hwto).2 w (aB hw);refine rIx (wyL w) (.dp 3 0 (wyL w)) rfl rfl (iB hw) rfl<|oR 1 rfl<|rAl 86 rfl rfl<|rSt rfl<|rE 88<|cSR<|oR 1 rfl<|rW (vB false) rfl (okB ((hst.wd j wt hwt w (aB hw)).1))<|oR 1 rfl<|gN rfl<|gS rfl id ?_;have b1:w.line / 16≤268435455:=jA hwo.line;refine sB (x:=vU (w.line / 16)) (g:= !false) rfl rfl rfl rfl (λ h=>h) rfl (Gr (Ig b1 rfl)) (λ _=>by decide)<|gBS (x:=vN (w.line / 16)) rfl id (okI (bV b1 rfl))<|gN rfl<|gS rfl id<|gBS (x:=vN s.words.length) rfl id (bY bC s.words) ?_;have b2:(w.line / 16) % s.words.length≤268435455:=aM (mE _ _) b1;refine sB (x:=vN ((w.line / 16) % s.words.length)) (g:= !false) rfl rfl rfl rfl hsT rfl (Gr (VH _ _)) (λ _=>by exact omT)<|gN rfl<|gBS (x:=vB false) rfl hsT (okB (ZL (hst.wd j wt hwt w (aB hw)).2.1))<|cV rfl rfl rfl (by simp)<|oR 1 rfl<|gN rfl<|gS rfl id<|gBS (x:=vB false) rfl id (okB (QB (hst.wd j wt hwt w (aB hw)).2.2))<|cV rfl rfl rfl (by simp)<|rE 107 ?_;refine aW rfl (λ h=>by cases h) (λ _=>?_);refine bB<|cRg ?_;have b3:i+1≤1000001:=aH hiB (aC 1);refine rW (vN (i+1)) rfl (okI (bV b3 rfl))<|oR 1 rfl<|rE 109 ?_;refine⟨i+1,λ s=>s,Weak.of_lists _ wT wH rfl,by omega,by show wt.length - (i+1)<wt.length - i;omega⟩
   ·have h3p:=aD h3;refine eE<|cRg ?_;have b4:j+1≤1000001:=aH hjB (aC 1);refine rW (vN (j+1)) rfl (okI (bV b4 rfl))<|oR 1 rfl<|rE 86 ?_;refine⟨j+1,λ s=>s,Weak.of_lists _ wT wH rfl,by omega,by show s.data.length - (j+1)<s.data.length - j;omega⟩
  ·have h2p:=aD h2;refine eE<|cSR<|oR 1 rfl<|rE 53<|bW<|cSR<|oR 2 rfl<|rW (vN s.bus.length) rfl (bY rqL s.bus)<|oR 1 rfl<|rE 57<|bK<|mL (κ:=Nat) (λ q=>⟨slotsF [(9,.ptr 20 0),(35,.sl 4 ((dU X N).map seL) false),(36,vN ((dU X N).length)),(37,vN k),(38,vB (decide (k<((dU X N).length)))),(39,.dp 4 0 (seL s)),(40,.agg (seL s)),(12,.ptr 29 0),(41,.ptr 29 0),(42,.sl 1 (s.data.map bC) false),(43,vN s.data.length),(44,.ptr 20 0),(45,.ptr 20 6),(46,vI ((jG X N).conf.sets)),(47,vB false),(48,vB false),(49,.opt (!false) (.ptr 29 1)),(50,.opt (!false) (.sl 1 (s.words.map bC) false)),(51,.opt (!false) (vN s.words.length)),(52,.opt (!false) (.ptr 20 0)),(53,.opt (!false) (.ptr 20 6)),(54,.opt (!false) (vI ((jG X N).conf.sets))),(55,.opt (!false) (vB false)),(56,vB false),(57,.ptr 29 0),(58,.sl 1 (s.data.map bC) false),(59,vN s.data.length),(60,vN j),(61,vB (decide (j<s.data.length))),(116,.ptr 29 2),(117,.sl 4 (s.bus.map rqL) false),(118,vN s.bus.length),(16,vN (jP (s.bus.take q))),(119,vN q)],heapF [(0,.box [vI cf.mode,vI cf.width,vI cf.rob,vI cf.queue,vI cf.stores,vI cf.slots,vI cf.sets,vI cf.ways,.sl 1 (cf.lat.map iL) false,vB cf.tables,.sl 1 (cf.tape.map eX) false]),(20,.box (coL (jG X N))),(29,.box [.sl 1 (s.data.map bC) false,.sl 1 (s.words.map bC) false,.sl 4 (s.bus.map rqL) false,.sl 1 (s.pcs.map eX) false])],57⟩) (λ q=>q≤s.bus.length) (λ q=>s.bus.length - q) 0 (λ s=>s) (Weak.of_lists (λ s=>s) wT wH rfl) (aE _) ?_;intro q hq;have hqn:q≤s.bus.length:=hq;have hqB:q≤1000000:=by have:=hso.bus;omega
   have hrB:jP (s.bus.take q)≤1000000:=aM (Mt _) (by rw[aN];have:=hso.bus;omega);refine cSR<|rW (vB (decide (q<s.bus.length))) rfl (okB (ltN _ _))<|rE 58<|bW ?_;refine aW rfl (λ h4=>?_) (λ h4=>?_)
   ·have h4p:=of_decide_eq_true h4;refine bB<|bW<|bK<|cSR ?_;obtain⟨x,hx⟩:∃ y_,s.bus[q]?=some y_:=⟨_,aA omT⟩;refine rIx (rqL x) (.dp 4 0 (rqL x)) rfl rfl (iB hx) rfl<|oR 1 rfl<|rAl 60 rfl rfl<|rSt rfl<|rE 62<|bW<|cSR<|oR 2 rfl<|rV (vB (x.kind != 4)) rfl<|rE 65 ?_;refine aW rfl (λ h5=>?_) (λ h5=>?_)
    ·have h5p:=vH h5;refine cRg<|oR 1 rfl ?_;have b5:(jP (s.bus.take q))+1≤1000001:=aH hrB (aC 1);refine rW (vN ((jP (s.bus.take q))+1)) rfl (okI (bV b5 rfl))<|oR 1 rfl<|rE 68<|cSR<|oR 2 rfl<|rW (vB false) rfl (okB (Yt (hst.bu x (aB hx)).1))<|oR 1 rfl<|gN rfl<|gS rfl id<|gBS (x:=vB false) rfl id (okB (QB (hst.bu x (aB hx)).2.1))<|cV rfl rfl rfl (by simp)<|oR 1 rfl<|gN rfl<|gS rfl id ?_;have b6:x.line % 16≤15:=aR (bA _ (by decide));refine sB (x:=vU (x.line % 16)) (g:= !false) rfl rfl rfl rfl (λ h=>h) rfl rfl (λ _=>by decide)<|gBS (x:=vB false) rfl id (okB (ZL (hst.bu x (aB hx)).2.2))<|cV rfl rfl rfl (by simp)<|rE 82 ?_;refine aW rfl (λ h=>by cases h) (λ _=>?_);refine bB<|cRg ?_;have b7:q+1≤1000001:=aH hqB (aC 1);refine rW (vN (q+1)) rfl (okI (bV b7 rfl))<|oR 1 rfl<|rE 84 ?_;refine⟨q+1,λ s=>s,Weak.of_lists _ ⟨⟨rfl,rfl⟩,⟨rfl,rfl⟩,⟨rfl,rfl⟩,⟨rfl,rfl⟩,⟨rfl,rfl⟩,⟨rfl,rfl⟩,⟨rfl,rfl⟩,⟨rfl,rfl⟩,⟨rfl,rfl⟩,⟨rfl,rfl⟩,⟨rfl,rfl⟩,⟨rfl,rfl⟩,⟨rfl,rfl⟩,⟨rfl,rfl⟩,⟨rfl,rfl⟩,⟨rfl,rfl⟩,⟨rfl,rfl⟩,⟨rfl,rfl⟩,⟨rfl,rfl⟩,⟨rfl,rfl⟩,⟨rfl,rfl⟩,⟨rfl,rfl⟩,⟨rfl,rfl⟩,⟨rfl,rfl⟩,⟨rfl,rfl⟩,⟨rfl,rfl⟩,⟨rfl,rfl⟩,⟨rfl,rfl⟩,⟨rfl,rfl⟩,⟨rfl,rfl⟩,⟨rfl,rfl⟩,⟨rfl,rfl⟩,⟨(congrArg (λ z:Nat=>AV.v (.int .i64 (z:Int))) (by rw[Aq hx];have z:=h5;simp at z;simp[z])),rfl⟩,⟨rfl,rfl⟩,trivial⟩ wH rfl,by omega,by show s.bus.length - (q+1)<s.bus.length - q;omega⟩
    ·have h5p:=vJ h5;refine bB<|cSR<|oR 2 rfl<|rW (vB false) rfl (okB (Yt (hst.bu x (aB hx)).1))<|oR 1 rfl<|gN rfl<|gS rfl id<|gBS (x:=vB false) rfl id (okB (QB (hst.bu x (aB hx)).2.1))<|cV rfl rfl rfl (by simp)<|oR 1 rfl<|gN rfl<|gS rfl id ?_;have b8:x.line % 16≤15:=aR (bA _ (by decide));refine sB (x:=vU (x.line % 16)) (g:= !false) rfl rfl rfl rfl (λ h=>h) rfl rfl (λ _=>by decide)<|gBS (x:=vB false) rfl id (okB (ZL (hst.bu x (aB hx)).2.2))<|cV rfl rfl rfl (by simp)<|rE 79 ?_;refine aW rfl (λ h=>by cases h) (λ _=>?_);refine bB<|cRg ?_;have b9:q+1≤1000001:=aH hqB (aC 1);refine rW (vN (q+1)) rfl (okI (bV b9 rfl))<|oR 1 rfl<|rE 81 ?_;refine⟨q+1,λ s=>s,Weak.of_lists _ ⟨⟨rfl,rfl⟩,⟨rfl,rfl⟩,⟨rfl,rfl⟩,⟨rfl,rfl⟩,⟨rfl,rfl⟩,⟨rfl,rfl⟩,⟨rfl,rfl⟩,⟨rfl,rfl⟩,⟨rfl,rfl⟩,⟨rfl,rfl⟩,⟨rfl,rfl⟩,⟨rfl,rfl⟩,⟨rfl,rfl⟩,⟨rfl,rfl⟩,⟨rfl,rfl⟩,⟨rfl,rfl⟩,⟨rfl,rfl⟩,⟨rfl,rfl⟩,⟨rfl,rfl⟩,⟨rfl,rfl⟩,⟨rfl,rfl⟩,⟨rfl,rfl⟩,⟨rfl,rfl⟩,⟨rfl,rfl⟩,⟨rfl,rfl⟩,⟨rfl,rfl⟩,⟨rfl,rfl⟩,⟨rfl,rfl⟩,⟨rfl,rfl⟩,⟨rfl,rfl⟩,⟨rfl,rfl⟩,⟨rfl,rfl⟩,⟨(congrArg (λ z:Nat=>AV.v (.int .i64 (z:Int))) (by rw[Aq hx];have z:=h5;simp at z;simp[z])),rfl⟩,⟨rfl,rfl⟩,trivial⟩ wH rfl,by omega,by show s.bus.length - (q+1)<s.bus.length - q;omega⟩
   ·have h4p:=aD h4;refine eE<|cSR<|oR 4 rfl<|rW (vB false) rfl (okB (kC (by rw[hcf,aL (by have:=aD h4;omega)];have:=hst.rd;omega)))<|rE 63 ?_;refine aW rfl (λ h=>by cases h) (λ _=>?_);refine bB<|cRg ?_;have b10:k+1≤2001:=aH hkB (aC 1);refine rW (vN (k+1)) rfl (okI (bV b10 rfl))<|oR 1 rfl<|rE 65 ?_;refine⟨k+1,λ s=>s,Weak.of_lists _ wT wH rfl,by omega,by show (dU X N).length - (k+1)<(dU X N).length - k;omega⟩
 ·have h1p:=aD h1;refine eE<|cSR<|rCi rfl (WM)<|oR 1 rfl<|rE 29<|cO ?_;exact fT rfl rfl
end Go.Proofs.YtlhofpglndhfaaaGreatDoor
