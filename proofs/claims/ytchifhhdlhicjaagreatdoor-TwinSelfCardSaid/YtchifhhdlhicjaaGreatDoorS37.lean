/- Lemmas. -/
import Derived.Test.YtchifhhdlhicjaaGreatDoorS1
import Derived.Test.YtchifhhdlhicjaaGreatDoorS9
import Derived.Test.YtchifhhdlhicjaaGreatDoorS21
import Derived.Test.YtchifhhdlhicjaaGreatDoorS22
import Derived.Test.YtchifhhdlhicjaaGreatDoorS26
import Derived.Test.YtchifhhdlhicjaaGreatDoorS30
import Derived.Test.YtchifhhdlhicjaaGreatDoorS31
import Derived.Test.YtchifhhdlhicjaaGreatDoorS32
import Derived.Test.YtchifhhdlhicjaaGreatDoorS36
set_option linter.all false
namespace Go.Proofs.YtchifhhdlhicjaaGreatDoor
open Go.Proofs.Tryz
set_option maxRecDepth 100000
set_option maxHeartbeats 4000000
open Go.RowKit
structure Seen where
 data:List (List Wy)
 agO:List (List Wy)
 agS:List Req
 pcs:List Nat
abbrev seL(s:Seen):List AV:=[.sl 1 (s.data.map bX) false,.sl 1 (s.agO.map bX) false,.sl 4 (s.agS.map rqL) false,.sl 1 (s.pcs.map dU) false]
def YL(x:Req):Req:=⟨x.kind,x.agY,0,oZ⟩
abbrev Ps(x:Req):List AV:=[.v (.int .i64 x.kind),.v (.int .u32 (x.agY:Int)),.v (.int .i64 0),.v (.string oZ)]
abbrev pcL(x:Sp):List AV:=[.v (.int .u32 (x.pc:Int))]
def Li(b:Int):Int:=if 0>b then 0 else b
def acU(c:Co)(before:Int):Seen:=⟨kY c.data,kY c.agO,c.agS.map YL,(c.agG.drop (Li before).toNat).map (·.pc)⟩
structure Co.okW(c:Co):Prop where
 data:c.data.ok
 agO:c.agO.ok
 agS:c.agS.length<=1000000
 busr:∀x∈c.agS,x.agY<=4294967295
 ret:c.agG.length<=1000000
 retr:∀x∈c.agG,x.pc<=4294967295
def He{α:Type}(f:α->List AV)(l:List α){j:Nat}(h:j<l.length):(List.take j (List.drop 0 ((l.take j).map f))).length=j:=by simp;omega
def Yl{α:Type}(f:α->List AV)(l:List α){x:α}(hx:l[0]?=some x):[f x]=(l.take 1).map f:=by
 cases l with
 |nil=>cases hx
 |cons y l=>injection hx with hx;subst hx;rfl
def acV{α:Type}(f:α->List AV)(l:List α){x:α}{j:Nat}(hx:l[j]?=some x):List.take j (List.drop 0 ((l.take j).map f))++[f x]=(l.take (j+1)).map f:=by
 obtain⟨hj,hx'⟩:=Em.1 hx;rw[bS,aN (by simp;omega),bW,hx];simp
def NU{α:Type}(f:α->List AV)(l:List α){j:Nat}(h:j=l.length):List.take j (List.drop 0 ((l.take j).map f))=l.map f:=by
 subst h;rw[bS,cH,aN (by simp)]
def adS(c:Co)(before:Int)(hok:c.okW):bI C0 20 [.agg (coL c),.v (.int .i64 before)] (.agg (seL (acU c before))):=by
 refine dIZ func20 rfl ?_;obtain⟨B,hB⟩:∃B:Nat,(if 0>before then 0 else before)=(B:Int):=⟨(Li before).toNat,by unfold Li;split<;>omega⟩;refine zR<|zC (ZQ c.data false hok.data)<|zC (ZQ c.agO false hok.agO)<|zV (.agg [.sl 1 ((kY c.data).map bX) false,.sl 1 ((kY c.agO).map bX) false,.sl 0 ([]) true,.sl 0 ([]) true])<|zW (vN c.agS.length) (cD rqL c.agS)<|jR (κ:=Nat) (λj=>match j with|0=>⟨slotsF [(1,vI before),(2,.ptr 0 0),(4,.ptr 1 0),(5,.ptr 9 0),(17,.sl 4 (c.agS.map rqL) false),(18,vN c.agS.length),(19,vN 0)],heapF [(0,.box [vI c.agL.mode,vI c.agL.agN,vI c.agL.agI,vI c.agL.queue,vI c.agL.agF,vI c.agL.agP,vI c.agL.agJ,vI c.agL.ways,.sl 1 (c.agL.agW.map ae4) false,vB c.agL.tables,.sl 1 (c.agL.tape.map dU) false,.sl 1 (c.prog.map dU) false,vI c.cycle,vU (c.r 0),vU (c.r 1),vU (c.r 2),vU (c.r 3),vU (c.r 4),vU (c.r 5),vU (c.r 6),vU (c.r 7),vU (c.r 8),vU (c.r 9),vU (c.r 10),vU (c.r 11),vU (c.r 12),vU (c.r 13),vU (c.r 14),vU (c.r 15),vU (c.r 16),vU (c.r 17),vU (c.r 18),vU (c.r 19),vU (c.r 20),vU (c.r 21),vU (c.r 22),vU (c.r 23),vU (c.r 24),vU (c.r 25),vU (c.r 26),vU (c.r 27),vU (c.r 28),vU (c.r 29),vU (c.r 30),vU (c.r 31),vU c.agM,vB c.stop,.sl 2 (c.agH.map ftL) false,.sl 17 (c.agI.map enL) false,vI c.next,.sl 2 (c.agF.map ptL) false,vI c.data.ways,.sl 1 (c.data.agJ.map bX) false,vI c.agO.ways,.sl 1 (c.agO.agJ.map bX) false,.sl 4 (c.agS.map rqL) false,vI c.asked,vI c.agT,.v (.string c.mem),.sl 2 (c.agK.agP.map gsL) false,vU c.agK.ag2,.sl 1 (c.agK.rets.map dU) false,vI c.halt,.sl 9 (c.agG.map spL) false]),(1,.box [.sl 0 ([]) true,.sl 0 ([]) true,.sl 0 ([]) true,.sl 0 ([]) true]),(9,.box [.sl 1 ((kY c.data).map bX) false,.sl 1 ((kY c.agO).map bX) false,.sl 0 ([]) true,.sl 0 ([]) true])],61⟩|j+1=>⟨slotsF [(1,vI before),(2,.ptr 0 0),(4,.ptr 1 0),(5,.ptr 9 0),(17,.sl 4 (c.agS.map rqL) false),(18,vN c.agS.length),(19,vN (j+1))],heapF [(0,.box [vI c.agL.mode,vI c.agL.agN,vI c.agL.agI,vI c.agL.queue,vI c.agL.agF,vI c.agL.agP,vI c.agL.agJ,vI c.agL.ways,.sl 1 (c.agL.agW.map ae4) false,vB c.agL.tables,.sl 1 (c.agL.tape.map dU) false,.sl 1 (c.prog.map dU) false,vI c.cycle,vU (c.r 0),vU (c.r 1),vU (c.r 2),vU (c.r 3),vU (c.r 4),vU (c.r 5),vU (c.r 6),vU (c.r 7),vU (c.r 8),vU (c.r 9),vU (c.r 10),vU (c.r 11),vU (c.r 12),vU (c.r 13),vU (c.r 14),vU (c.r 15),vU (c.r 16),vU (c.r 17),vU (c.r 18),vU (c.r 19),vU (c.r 20),vU (c.r 21),vU (c.r 22),vU (c.r 23),vU (c.r 24),vU (c.r 25),vU (c.r 26),vU (c.r 27),vU (c.r 28),vU (c.r 29),vU (c.r 30),vU (c.r 31),vU c.agM,vB c.stop,.sl 2 (c.agH.map ftL) false,.sl 17 (c.agI.map enL) false,vI c.next,.sl 2 (c.agF.map ptL) false,vI c.data.ways,.sl 1 (c.data.agJ.map bX) false,vI c.agO.ways,.sl 1 (c.agO.agJ.map bX) false,.sl 4 (c.agS.map rqL) false,vI c.asked,vI c.agT,.v (.string c.mem),.sl 2 (c.agK.agP.map gsL) false,vU c.agK.ag2,.sl 1 (c.agK.rets.map dU) false,vI c.halt,.sl 9 (c.agG.map spL) false]),(1,.box [.sl 0 ([]) true,.sl 0 ([]) true,.sl 0 ([]) true,.sl 0 ([]) true]),(9,.box [.sl 1 ((kY c.data).map bX) false,.sl 1 ((kY c.agO).map bX) false,.osl 60 0 (j+1) false,.sl 0 ([]) true]),(60,.arr ((c.agS.take (j+1)).map Ps) 4)],61⟩) (λj=>j<=c.agS.length) (λj=>c.agS.length-j) 0 (λs=>s) (wOL (λs=>s) wT wH rfl) (aE _) ?_;intro j hj;rcases j with _|j
 ·refine qS 0 rfl<|zW (vB (decide (0<c.agS.length))) (okB (ltN _ _))<|zB rfl (λh1=>?_) (λh1=>?_)
  ·skip
   obtain⟨x,hx⟩:∃x,c.agS[0]?=some x:=⟨_,aA (af0 h1)⟩;have hxo:=hok.busr x (aB hx);refine zX (rqL x) (.dp 4 0 (rqL x)) rfl (iH hx)<|rV (.agg [vI x.kind,vU x.agY,vI 0,.v (.string (⟨#[]⟩))]) rfl<|rV (.sl 4 ([[vI x.kind,vU x.agY,vI 0,.v (.string (⟨#[]⟩))]]) true) rfl<|zF (x:=.osl 74 0 1 false) (h':=upd _ 74 (some (.arr ([[vI x.kind,vU x.agY,vI 0,.v (.string (⟨#[]⟩))]]) 4))) (rfl) (⟨rfl,by simp[jH],by simp[jH],trivial⟩) ?_;have b1:0+1<=1:=aD (aC 0) (aC 1);refine zW (vN (0+1)) (okI (bH b1 rfl)) ?_;refine⟨1,λs=>match s with|60=>74|s=>s,wOL _ wT ⟨⟨rfl,rfl,rfl⟩,⟨rfl,rfl,rfl⟩,⟨rfl,rfl,rfl⟩,⟨rfl,(af2 (λz=>some (Blk.arr z 4)) (Yl Ps c.agS hx)),rfl⟩,trivial⟩ rfl,af0 h1,by have:=af0 h1;show c.agS.length-(1)<c.agS.length-(0);omega⟩
  refine qX 0 rfl<|zW (vI (if 0>before then 0 else before)) rfl<|jR (κ:=Nat) (λk=>match k with|0=>⟨slotsF [(2,.ptr 0 0),(4,.ptr 1 0),(5,.ptr 9 0),(8,vN B)],heapF [(0,.box [vI c.agL.mode,vI c.agL.agN,vI c.agL.agI,vI c.agL.queue,vI c.agL.agF,vI c.agL.agP,vI c.agL.agJ,vI c.agL.ways,.sl 1 (c.agL.agW.map ae4) false,vB c.agL.tables,.sl 1 (c.agL.tape.map dU) false,.sl 1 (c.prog.map dU) false,vI c.cycle,vU (c.r 0),vU (c.r 1),vU (c.r 2),vU (c.r 3),vU (c.r 4),vU (c.r 5),vU (c.r 6),vU (c.r 7),vU (c.r 8),vU (c.r 9),vU (c.r 10),vU (c.r 11),vU (c.r 12),vU (c.r 13),vU (c.r 14),vU (c.r 15),vU (c.r 16),vU (c.r 17),vU (c.r 18),vU (c.r 19),vU (c.r 20),vU (c.r 21),vU (c.r 22),vU (c.r 23),vU (c.r 24),vU (c.r 25),vU (c.r 26),vU (c.r 27),vU (c.r 28),vU (c.r 29),vU (c.r 30),vU (c.r 31),vU c.agM,vB c.stop,.sl 2 (c.agH.map ftL) false,.sl 17 (c.agI.map enL) false,vI c.next,.sl 2 (c.agF.map ptL) false,vI c.data.ways,.sl 1 (c.data.agJ.map bX) false,vI c.agO.ways,.sl 1 (c.agO.agJ.map bX) false,.sl 4 (c.agS.map rqL) false,vI c.asked,vI c.agT,.v (.string c.mem),.sl 2 (c.agK.agP.map gsL) false,vU c.agK.ag2,.sl 1 (c.agK.rets.map dU) false,vI c.halt,.sl 9 (c.agG.map spL) false]),(1,.box [.sl 0 ([]) true,.sl 0 ([]) true,.sl 0 ([]) true,.sl 0 ([]) true]),(9,.box [.sl 1 ((kY c.data).map bX) false,.sl 1 ((kY c.agO).map bX) false,.sl 0 ([]) true,.sl 0 ([]) true])],71⟩|k+1=>⟨slotsF [(2,.ptr 0 0),(4,.ptr 1 0),(5,.ptr 9 0),(8,vN (B+(k+1)))],heapF [(0,.box [vI c.agL.mode,vI c.agL.agN,vI c.agL.agI,vI c.agL.queue,vI c.agL.agF,vI c.agL.agP,vI c.agL.agJ,vI c.agL.ways,.sl 1 (c.agL.agW.map ae4) false,vB c.agL.tables,.sl 1 (c.agL.tape.map dU) false,.sl 1 (c.prog.map dU) false,vI c.cycle,vU (c.r 0),vU (c.r 1),vU (c.r 2),vU (c.r 3),vU (c.r 4),vU (c.r 5),vU (c.r 6),vU (c.r 7),vU (c.r 8),vU (c.r 9),vU (c.r 10),vU (c.r 11),vU (c.r 12),vU (c.r 13),vU (c.r 14),vU (c.r 15),vU (c.r 16),vU (c.r 17),vU (c.r 18),vU (c.r 19),vU (c.r 20),vU (c.r 21),vU (c.r 22),vU (c.r 23),vU (c.r 24),vU (c.r 25),vU (c.r 26),vU (c.r 27),vU (c.r 28),vU (c.r 29),vU (c.r 30),vU (c.r 31),vU c.agM,vB c.stop,.sl 2 (c.agH.map ftL) false,.sl 17 (c.agI.map enL) false,vI c.next,.sl 2 (c.agF.map ptL) false,vI c.data.ways,.sl 1 (c.data.agJ.map bX) false,vI c.agO.ways,.sl 1 (c.agO.agJ.map bX) false,.sl 4 (c.agS.map rqL) false,vI c.asked,vI c.agT,.v (.string c.mem),.sl 2 (c.agK.agP.map gsL) false,vU c.agK.ag2,.sl 1 (c.agK.rets.map dU) false,vI c.halt,.sl 9 (c.agG.map spL) false]),(1,.box [.sl 0 ([]) true,.sl 0 ([]) true,.sl 0 ([]) true,.sl 0 ([]) true]),(9,.box [.sl 1 ((kY c.data).map bX) false,.sl 1 ((kY c.agO).map bX) false,.sl 0 ([]) true,.osl 70 0 (k+1) false]),(70,.arr (((c.agG.drop B).take (k+1)).map pcL) 1)],71⟩) (λk=>k=0∨B+k<=c.agG.length) (λk=>c.agG.length-B-k) 0 (λs=>s) (wOL (λs=>s) ⟨⟨rfl,rfl⟩,⟨rfl,rfl⟩,⟨rfl,rfl⟩,⟨(af2 (λz:Int=>AV.v (.int .i64 z)) hB),rfl⟩,trivial⟩ wH rfl) (.inl rfl) ?_;intro k hk;rcases k with _|k
  ·refine qS 0 rfl<|rW (vN c.agG.length) rfl (cD spL c.agG)<|zW (vB (decide (B<c.agG.length))) (okB (ltN _ _))<|zB rfl (λh2=>?_) (λh2=>?_)
   ·refine zR ?_;obtain⟨y,hy⟩:∃y,c.agG[B]?=some y:=⟨_,aA (af0 h2)⟩;have hyo:=hok.retr y (aB hy);have hy0:(c.agG.drop B)[0]?=some y:=by rw[cL];exact hy
    refine zX (spL y) (.dp 9 0 (spL y)) rfl (iH hy)<|zV (.sl 1 ([[vU y.pc]]) true)<|zF (x:=.osl 85 0 1 false) (h':=upd _ 85 (some (.arr ([[vU y.pc]]) 1))) (rfl) (⟨rfl,by simp[jH],by simp[jH],trivial⟩) ?_;have b2:B+1<=1000000:=by have:=af0 h2;have:=hok.ret;omega
    refine zW (vN (B+1)) (okI (bH b2 rfl)) ?_;refine⟨1,λs=>match s with|70=>85|s=>s,wOL _ wT ⟨⟨rfl,rfl,rfl⟩,⟨rfl,rfl,rfl⟩,⟨rfl,rfl,rfl⟩,⟨rfl,(af2 (λz=>some (Blk.arr z 1)) (Yl pcL (c.agG.drop B) hy0)),rfl⟩,trivial⟩ rfl,Or.inr (oH (af0 h2)),by have:=af0 h2;show c.agG.length-B-(1)<c.agG.length-B-(0);omega⟩
   refine qXF 0 rfl ?_;have hB2:(Li before).toNat=B:=by have:Li before=(B:Int):=hB;rw[this];rfl
   have hb0:c.agS=[]:=afC (oH (aF h1));have hr0:(c.agG.drop B)=[]:=cB (oH (aF h2));exact⟨_,rfl,tvT,rfl,Sub.agg ⟨Sub.refl _,Sub.refl _,(by show Sub (.sl 0 [] true) (.sl 4 ((c.agS.map YL).map rqL) false);rw[hb0];exact oM 4 false),(by show Sub (.sl 0 [] true) (.sl 1 (((c.agG.drop (Li before).toNat).map (·.pc)).map dU) false);rw[hB2,hr0];exact oM 1 false),trivial⟩⟩
  have hkl:B+(k+1)<=c.agG.length:=oT;have hkB:B+(k+1)<=1000000:=oH hok.ret;refine qS 0 rfl<|rW (vN c.agG.length) rfl (cD spL c.agG)<|zW (vB (decide ((B+(k+1))<c.agG.length))) (okB (ltN _ _))<|zB rfl (λh3=>?_) (λh3=>?_)
  ·refine zR ?_;obtain⟨y,hy⟩:∃y,c.agG[B+(k+1)]?=some y:=⟨_,aA (af0 h3)⟩;have hyo:=hok.retr y (aB hy);have hy0:(c.agG.drop B)[k+1]?=some y:=by rw[cL];exact hy
   refine zX (spL y) (.dp 9 0 (spL y)) rfl (iH hy)<|zV (.sl 1 ([[vU y.pc]]) true)<|zF (x:=.osl 85 0 (k+1+1) false) (h':=upd (upd _ 70 none) 85 (some (.arr (((c.agG.drop B).take (k+1+1)).map pcL) 1))) (Nm (He _ _ (show k+1<(c.agG.drop B).length from by rw[bD];have:=af0 h3;omega)) (acV pcL (c.agG.drop B) hy0)) (⟨by rw[He _ _ (show k+1<(c.agG.drop B).length from by rw[bD];have:=af0 h3;omega)];have:=hok.ret;show k+1+1<=1000000;have:=af0 h3;omega,by rw[bJ];simp;have:=af0 h3;omega,trivial⟩) ?_;have b3:B+(k+1)+1<=1000000:=by have:=af0 h3;have:=hok.ret;omega
   refine zW (vN (B+(k+1)+1)) (okI (bH b3 rfl)) ?_;refine⟨(k+1)+1,λs=>match s with|70=>85|s=>s,wOL _ wT wH rfl,Or.inr (oH (af0 h3)),by have:=af0 h3;show c.agG.length-B-((k+1)+1)<c.agG.length-B-(k+1);omega⟩
  refine qXF 0 rfl ?_;have hB2:(Li before).toNat=B:=by have:Li before=(B:Int):=hB;rw[this];rfl
  have hb0:c.agS=[]:=afC (oH (aF h1));have hk2:k+1=(c.agG.drop B).length:=by rw[bD];have:=aF h3;omega
  exact⟨_,rfl,⟨trivial,trivial,trivial,(by show 0+(k+1)<=(((c.agG.drop B).take (k+1)).map pcL).length;rw[aH,aM];omega),trivial⟩,rfl,Sub.agg ⟨Sub.refl _,Sub.refl _,(by show Sub (.sl 0 [] true) (.sl 4 ((c.agS.map YL).map rqL) false);rw[hb0];exact oM 4 false),(by show Sub (.sl 1 (List.take (k+1) (List.drop 0 (((c.agG.drop B).take (k+1)).map pcL))) false) (.sl 1 (((c.agG.drop (Li before).toNat).map (·.pc)).map dU) false);rw[hB2,NU pcL (c.agG.drop B) hk2,List.map_map];exact Sub.refl _),trivial⟩⟩
 have hjB:j+1<=1000000:=oH hok.agS;refine qS 0 rfl<|zW (vB (decide ((j+1)<c.agS.length))) (okB (ltN _ _))<|zB rfl (λh4=>?_) (λh4=>?_)
 ·skip
  obtain⟨x,hx⟩:∃x,c.agS[(j+1)]?=some x:=⟨_,aA (af0 h4)⟩;have hxo:=hok.busr x (aB hx);refine zX (rqL x) (.dp 4 0 (rqL x)) rfl (iH hx)<|rV (.agg [vI x.kind,vU x.agY,vI 0,.v (.string (⟨#[]⟩))]) rfl<|rV (.sl 4 ([[vI x.kind,vU x.agY,vI 0,.v (.string (⟨#[]⟩))]]) true) rfl<|zF (x:=.osl 74 0 (j+1+1) false) (h':=upd (upd _ 60 none) 74 (some (.arr ((c.agS.take (j+1+1)).map Ps) 4))) (Nm (He _ _ (af0 h4)) (acV Ps c.agS hx)) (⟨by rw[He _ _ (af0 h4)];have:=hok.agS;show j+1+1<=1000000;have:=af0 h4;omega,by rw[bJ];simp;have:=af0 h4;omega,trivial⟩) ?_;have b4:(j+1)+1<=1000001:=aD hjB (aC 1);refine zW (vN ((j+1)+1)) (okI (bH b4 rfl)) ?_;refine⟨(j+1)+1,λs=>match s with|60=>74|s=>s,wOL _ wT wH rfl,af0 h4,by have:=af0 h4;show c.agS.length-((j+1)+1)<c.agS.length-(j+1);omega⟩
 refine qX 0 rfl<|zW (vI (if 0>before then 0 else before)) rfl<|jR (κ:=Nat) (λk=>match k with|0=>⟨slotsF [(2,.ptr 0 0),(4,.ptr 1 0),(5,.ptr 9 0),(8,vN B)],heapF [(0,.box [vI c.agL.mode,vI c.agL.agN,vI c.agL.agI,vI c.agL.queue,vI c.agL.agF,vI c.agL.agP,vI c.agL.agJ,vI c.agL.ways,.sl 1 (c.agL.agW.map ae4) false,vB c.agL.tables,.sl 1 (c.agL.tape.map dU) false,.sl 1 (c.prog.map dU) false,vI c.cycle,vU (c.r 0),vU (c.r 1),vU (c.r 2),vU (c.r 3),vU (c.r 4),vU (c.r 5),vU (c.r 6),vU (c.r 7),vU (c.r 8),vU (c.r 9),vU (c.r 10),vU (c.r 11),vU (c.r 12),vU (c.r 13),vU (c.r 14),vU (c.r 15),vU (c.r 16),vU (c.r 17),vU (c.r 18),vU (c.r 19),vU (c.r 20),vU (c.r 21),vU (c.r 22),vU (c.r 23),vU (c.r 24),vU (c.r 25),vU (c.r 26),vU (c.r 27),vU (c.r 28),vU (c.r 29),vU (c.r 30),vU (c.r 31),vU c.agM,vB c.stop,.sl 2 (c.agH.map ftL) false,.sl 17 (c.agI.map enL) false,vI c.next,.sl 2 (c.agF.map ptL) false,vI c.data.ways,.sl 1 (c.data.agJ.map bX) false,vI c.agO.ways,.sl 1 (c.agO.agJ.map bX) false,.sl 4 (c.agS.map rqL) false,vI c.asked,vI c.agT,.v (.string c.mem),.sl 2 (c.agK.agP.map gsL) false,vU c.agK.ag2,.sl 1 (c.agK.rets.map dU) false,vI c.halt,.sl 9 (c.agG.map spL) false]),(1,.box [.sl 0 ([]) true,.sl 0 ([]) true,.sl 0 ([]) true,.sl 0 ([]) true]),(9,.box [.sl 1 ((kY c.data).map bX) false,.sl 1 ((kY c.agO).map bX) false,.osl 60 0 (j+1) false,.sl 0 ([]) true]),(60,.arr ((c.agS.take (j+1)).map Ps) 4)],71⟩|k+1=>⟨slotsF [(2,.ptr 0 0),(4,.ptr 1 0),(5,.ptr 9 0),(8,vN (B+(k+1)))],heapF [(0,.box [vI c.agL.mode,vI c.agL.agN,vI c.agL.agI,vI c.agL.queue,vI c.agL.agF,vI c.agL.agP,vI c.agL.agJ,vI c.agL.ways,.sl 1 (c.agL.agW.map ae4) false,vB c.agL.tables,.sl 1 (c.agL.tape.map dU) false,.sl 1 (c.prog.map dU) false,vI c.cycle,vU (c.r 0),vU (c.r 1),vU (c.r 2),vU (c.r 3),vU (c.r 4),vU (c.r 5),vU (c.r 6),vU (c.r 7),vU (c.r 8),vU (c.r 9),vU (c.r 10),vU (c.r 11),vU (c.r 12),vU (c.r 13),vU (c.r 14),vU (c.r 15),vU (c.r 16),vU (c.r 17),vU (c.r 18),vU (c.r 19),vU (c.r 20),vU (c.r 21),vU (c.r 22),vU (c.r 23),vU (c.r 24),vU (c.r 25),vU (c.r 26),vU (c.r 27),vU (c.r 28),vU (c.r 29),vU (c.r 30),vU (c.r 31),vU c.agM,vB c.stop,.sl 2 (c.agH.map ftL) false,.sl 17 (c.agI.map enL) false,vI c.next,.sl 2 (c.agF.map ptL) false,vI c.data.ways,.sl 1 (c.data.agJ.map bX) false,vI c.agO.ways,.sl 1 (c.agO.agJ.map bX) false,.sl 4 (c.agS.map rqL) false,vI c.asked,vI c.agT,.v (.string c.mem),.sl 2 (c.agK.agP.map gsL) false,vU c.agK.ag2,.sl 1 (c.agK.rets.map dU) false,vI c.halt,.sl 9 (c.agG.map spL) false]),(1,.box [.sl 0 ([]) true,.sl 0 ([]) true,.sl 0 ([]) true,.sl 0 ([]) true]),(9,.box [.sl 1 ((kY c.data).map bX) false,.sl 1 ((kY c.agO).map bX) false,.osl 60 0 (j+1) false,.osl 70 0 (k+1) false]),(60,.arr ((c.agS.take (j+1)).map Ps) 4),(70,.arr (((c.agG.drop B).take (k+1)).map pcL) 1)],71⟩) (λk=>k=0∨B+k<=c.agG.length) (λk=>c.agG.length-B-k) 0 (λs=>s) (wOL (λs=>s) ⟨⟨rfl,rfl⟩,⟨rfl,rfl⟩,⟨rfl,rfl⟩,⟨(af2 (λz:Int=>AV.v (.int .i64 z)) hB),rfl⟩,trivial⟩ wH rfl) (.inl rfl) ?_;intro k hk;rcases k with _|k
 ·refine qS 0 rfl<|rW (vN c.agG.length) rfl (cD spL c.agG)<|zW (vB (decide (B<c.agG.length))) (okB (ltN _ _))<|zB rfl (λh5=>?_) (λh5=>?_)
  ·refine zR ?_;obtain⟨y,hy⟩:∃y,c.agG[B]?=some y:=⟨_,aA (af0 h5)⟩;have hyo:=hok.retr y (aB hy);have hy0:(c.agG.drop B)[0]?=some y:=by rw[cL];exact hy
   refine zX (spL y) (.dp 9 0 (spL y)) rfl (iH hy)<|zV (.sl 1 ([[vU y.pc]]) true)<|zF (x:=.osl 85 0 1 false) (h':=upd _ 85 (some (.arr ([[vU y.pc]]) 1))) (rfl) (⟨rfl,by simp[jH],by simp[jH],trivial⟩) ?_;have b5:B+1<=1000000:=by have:=af0 h5;have:=hok.ret;omega
   refine zW (vN (B+1)) (okI (bH b5 rfl)) ?_;refine⟨1,λs=>match s with|70=>85|s=>s,wOL _ wT ⟨⟨rfl,rfl,rfl⟩,⟨rfl,rfl,rfl⟩,⟨rfl,rfl,rfl⟩,⟨rfl,rfl,rfl⟩,⟨rfl,(af2 (λz=>some (Blk.arr z 1)) (Yl pcL (c.agG.drop B) hy0)),rfl⟩,trivial⟩ rfl,Or.inr (oH (af0 h5)),by have:=af0 h5;show c.agG.length-B-(1)<c.agG.length-B-(0);omega⟩
  refine qXF 0 rfl ?_;have hB2:(Li before).toNat=B:=by have:Li before=(B:Int):=hB;rw[this];rfl
  have hj2:j+1=c.agS.length:=oH (aF h4);have hr0:(c.agG.drop B)=[]:=cB (oH (aF h5));exact⟨_,rfl,⟨trivial,trivial,(by show 0+(j+1)<=((c.agS.take (j+1)).map Ps).length;rw[aH,aM];omega),trivial,trivial⟩,rfl,Sub.agg ⟨Sub.refl _,Sub.refl _,(by show Sub (.sl 4 (List.take (j+1) (List.drop 0 ((c.agS.take (j+1)).map Ps))) false) (.sl 4 ((c.agS.map YL).map rqL) false);rw[NU Ps c.agS hj2,List.map_map];exact Sub.refl _),(by show Sub (.sl 0 [] true) (.sl 1 (((c.agG.drop (Li before).toNat).map (·.pc)).map dU) false);rw[hB2,hr0];exact oM 1 false),trivial⟩⟩
 have hkl:B+(k+1)<=c.agG.length:=oT;have hkB:B+(k+1)<=1000000:=oH hok.ret;refine qS 0 rfl<|rW (vN c.agG.length) rfl (cD spL c.agG)<|zW (vB (decide ((B+(k+1))<c.agG.length))) (okB (ltN _ _))<|zB rfl (λh6=>?_) (λh6=>?_)
 ·refine zR ?_;obtain⟨y,hy⟩:∃y,c.agG[B+(k+1)]?=some y:=⟨_,aA (af0 h6)⟩;have hyo:=hok.retr y (aB hy);have hy0:(c.agG.drop B)[k+1]?=some y:=by rw[cL];exact hy
  refine zX (spL y) (.dp 9 0 (spL y)) rfl (iH hy)<|zV (.sl 1 ([[vU y.pc]]) true)<|zF (x:=.osl 85 0 (k+1+1) false) (h':=upd (upd _ 70 none) 85 (some (.arr (((c.agG.drop B).take (k+1+1)).map pcL) 1))) (Nm (He _ _ (show k+1<(c.agG.drop B).length from by rw[bD];have:=af0 h6;omega)) (acV pcL (c.agG.drop B) hy0)) (⟨by rw[He _ _ (show k+1<(c.agG.drop B).length from by rw[bD];have:=af0 h6;omega)];have:=hok.ret;show k+1+1<=1000000;have:=af0 h6;omega,by rw[bJ];simp;have:=af0 h6;omega,trivial⟩) ?_;have b6:B+(k+1)+1<=1000000:=by have:=af0 h6;have:=hok.ret;omega
  refine zW (vN (B+(k+1)+1)) (okI (bH b6 rfl)) ?_;refine⟨(k+1)+1,λs=>match s with|70=>85|s=>s,wOL _ wT wH rfl,Or.inr (oH (af0 h6)),by have:=af0 h6;show c.agG.length-B-((k+1)+1)<c.agG.length-B-(k+1);omega⟩
 refine qXF 0 rfl ?_;have hB2:(Li before).toNat=B:=by have:Li before=(B:Int):=hB;rw[this];rfl
 have hj2:j+1=c.agS.length:=oH (aF h4);have hk2:k+1=(c.agG.drop B).length:=by rw[bD];have:=aF h6;omega
 exact⟨_,rfl,⟨trivial,trivial,(by show 0+(j+1)<=((c.agS.take (j+1)).map Ps).length;rw[aH,aM];omega),(by show 0+(k+1)<=(((c.agG.drop B).take (k+1)).map pcL).length;rw[aH,aM];omega),trivial⟩,rfl,Sub.agg ⟨Sub.refl _,Sub.refl _,(by show Sub (.sl 4 (List.take (j+1) (List.drop 0 ((c.agS.take (j+1)).map Ps))) false) (.sl 4 ((c.agS.map YL).map rqL) false);rw[NU Ps c.agS hj2,List.map_map];exact Sub.refl _),(by show Sub (.sl 1 (List.take (k+1) (List.drop 0 (((c.agG.drop B).take (k+1)).map pcL))) false) (.sl 1 (((c.agG.drop (Li before).toNat).map (·.pc)).map dU) false);rw[hB2,NU pcL (c.agG.drop B) hk2,List.map_map];exact Sub.refl _),trivial⟩⟩
def tZ{α:Type}(e:α->α->Bool):List α->List α->Bool
 |[],[]=>true
 |x::a,y::b=>e x y&&tZ e a b
 |_,_=>false
def CD{α:Type}{e:α->α->Bool}{a b:List α}{j:Nat}{x y:α}(hx:a[j]?=some x)(hy:b[j]?=some y)(he:e x y=true)(h:tZ e a b=tZ e (a.drop j) (b.drop j)):tZ e a b=tZ e (a.drop (j+1)) (b.drop (j+1)):=by
 obtain⟨h1,h1'⟩:=Em.1 hx;obtain⟨h2,h2'⟩:=Em.1 hy;rw[h,bF h1,bF h2,h1',h2'];simp only[tZ,he,kL]
def Jm{α:Type}{e:α->α->Bool}{a b:List α}{j:Nat}{x y:α}(hx:a[j]?=some x)(hy:b[j]?=some y)(he:e x y=false)(h:tZ e a b=tZ e (a.drop j) (b.drop j)):tZ e a b=false:=by
 obtain⟨h1,h1'⟩:=Em.1 hx;obtain⟨h2,h2'⟩:=Em.1 hy;rw[h,bF h1,bF h2,h1',h2'];simp only[tZ,he,pW]
def Ei{α:Type}{e:α->α->Bool}{a b:List α}{j:Nat}(ha:a.length<=j)(hb:b.length<=j)(h:tZ e a b=tZ e (a.drop j) (b.drop j)):tZ e a b=true:=by
 rw[h,cB ha,cB hb];rfl
theorem CE{α:Type}{e:α->α->Bool}:∀{a b:List α},a.length≠b.length->tZ e a b=false
 |[],[],h=>absurd rfl h
 |[],_::_,_=>rfl
 |_::_,[],_=>rfl
 |x::a,y::b,h=>by simp only[tZ,CE (a:=a) (b:=b) (λk=>h (by simp[k])),Bool.and_false]
def eqU(x y:Nat):Bool:=x==y
def Jx(x y:Wy):Bool:=(((x.agY:Int)==(y.agY:Int))&&((x.agQ==y.agQ)&&((x.data==y.data)&&true)))
def Vn(x y:Req):Bool:=((x.kind==y.kind)&&(((x.agY:Int)==(y.agY:Int))&&((x.left==y.left)&&((x.data==y.data)&&true))))
def Br(x y:Seen):Bool:=tZ (tZ Jx) x.data y.data&&(tZ (tZ Jx) x.agO y.agO&&(tZ Vn x.agS y.agS&&tZ eqU x.pcs y.pcs))
def aeR(x y:Nat):bI C0 58 [vU x,vU y] (.v (.bool (eqU x y))):=by
 refine dIZ func58 rfl ?_;refine zW _ (okB (eqN _ _)) ?_;exact fT rfl rfl
def aeS(x y:Wy):bI C0 118 [.agg (wyL x),.agg (wyL y)] (.v (.bool (Jx x y))):=by
 refine dIZ func118 rfl ?_;refine zV (vB ((((x.agY:Nat):Int)==((y.agY:Nat):Int))&&((x.agQ==y.agQ)&&((x.data==y.data)&&true)))) ?_;exact fT rfl rfl
def aeT(x y:Req):bI C0 56 [.agg (rqL x),.agg (rqL y)] (.v (.bool (Vn x y))):=by
 refine dIZ func56 rfl ?_;refine zV (vB ((x.kind==y.kind)&&((((x.agY:Nat):Int)==((y.agY:Nat):Int))&&((x.left==y.left)&&((x.data==y.data)&&true))))) ?_;exact fT rfl rfl
def acW(a b:List Wy)(ha:a.length<=1000000)(hb:b.length<=1000000):bI C0 117 [.sl 3 (a.map wyL) false,.sl 3 (b.map wyL) false,.clo 118 [] []] (.v (.bool (tZ Jx a b))):=by
 refine dIZ func117 rfl<|zW _ (cD wyL a)<|rW _ rfl (cD wyL b)<|zWB (okB (neN _ _)) (λh1=>?_) (λh1=>?_)
 ·exact fT rfl (af2 (λz=>AV.v (.bool z)) (CE (sU h1)).symm)
 refine zW _ (cD wyL a)<|zLo (κ:=Nat) (λj=>⟨slotsF [(0,.sl 3 (a.map wyL) false),(1,.sl 3 (b.map wyL) false),(2,.clo 118 [] []),(14,vN a.length),(15,vN j)],heapF [],9⟩) (λj=>j<=a.length∧tZ Jx a b=tZ Jx (a.drop j) (b.drop j)) (λj=>a.length-j) 0 (λs=>s) (wOL (λs=>s) wT trivial rfl) (⟨aE _,rfl⟩) ?_;intro j hj;have hjB:j<=1000000:=oH hj.1;refine zWB (okB (ltN _ _)) (λh2=>?_) (λh2=>?_)
 ·refine zR ?_;have hjl:=af0 h2;obtain⟨x,hx⟩:∃x,a[j]?=some x:=⟨_,aA hjl⟩;obtain⟨y,hy⟩:∃y,b[j]?=some y:=⟨_,aA (by have:a.length=b.length:=(sU h1);omega)⟩;refine zX (wyL x) (.dp 3 0 (wyL x)) rfl (iH hx)<|zX (wyL y) (.dp 3 0 (wyL y)) rfl (iH hy)<|zC (aeS x y)<|zB rfl (λh3=>?_) (λh3=>?_)
  ·exact fT rfl (af2 (λz=>AV.v (.bool z)) (Jm hx hy (sU h3) hj.2).symm)
  skip
  have b1:j+1<=1000001:=aD hjB (aC 1);refine zW _ (okI (bH b1 rfl)) ?_;refine⟨j+1,λs=>s,wOL _ wT trivial rfl,⟨hjl,CD hx hy (sU h3) hj.2⟩,by show a.length-(j+1)<a.length-j;omega⟩
 have hab:a.length=b.length:=(sU h1);have hje:=aF h2;exact fT rfl (af2 (λz=>AV.v (.bool z)) (Ei omT omT hj.2).symm)
def acX(a b:List Req)(ha:a.length<=1000000)(hb:b.length<=1000000):bI C0 55 [.sl 4 (a.map rqL) false,.sl 4 (b.map rqL) false,.clo 56 [] []] (.v (.bool (tZ Vn a b))):=by
 refine dIZ func55 rfl<|zW _ (cD rqL a)<|rW _ rfl (cD rqL b)<|zWB (okB (neN _ _)) (λh1=>?_) (λh1=>?_)
 ·exact fT rfl (af2 (λz=>AV.v (.bool z)) (CE (sU h1)).symm)
 refine zW _ (cD rqL a)<|zLo (κ:=Nat) (λj=>⟨slotsF [(0,.sl 4 (a.map rqL) false),(1,.sl 4 (b.map rqL) false),(2,.clo 56 [] []),(14,vN a.length),(15,vN j)],heapF [],9⟩) (λj=>j<=a.length∧tZ Vn a b=tZ Vn (a.drop j) (b.drop j)) (λj=>a.length-j) 0 (λs=>s) (wOL (λs=>s) wT trivial rfl) (⟨aE _,rfl⟩) ?_;intro j hj;have hjB:j<=1000000:=oH hj.1;refine zWB (okB (ltN _ _)) (λh2=>?_) (λh2=>?_)
 ·refine zR ?_;have hjl:=af0 h2;obtain⟨x,hx⟩:∃x,a[j]?=some x:=⟨_,aA hjl⟩;obtain⟨y,hy⟩:∃y,b[j]?=some y:=⟨_,aA (by have:a.length=b.length:=(sU h1);omega)⟩;refine zX (rqL x) (.dp 4 0 (rqL x)) rfl (iH hx)<|zX (rqL y) (.dp 4 0 (rqL y)) rfl (iH hy)<|zC (aeT x y)<|zB rfl (λh3=>?_) (λh3=>?_)
  ·exact fT rfl (af2 (λz=>AV.v (.bool z)) (Jm hx hy (sU h3) hj.2).symm)
  skip
  have b1:j+1<=1000001:=aD hjB (aC 1);refine zW _ (okI (bH b1 rfl)) ?_;refine⟨j+1,λs=>s,wOL _ wT trivial rfl,⟨hjl,CD hx hy (sU h3) hj.2⟩,by show a.length-(j+1)<a.length-j;omega⟩
 have hab:a.length=b.length:=(sU h1);have hje:=aF h2;exact fT rfl (af2 (λz=>AV.v (.bool z)) (Ei omT omT hj.2).symm)
def acY(a b:List Nat)(ha:a.length<=1000000)(hb:b.length<=1000000):bI C0 57 [.sl 1 (a.map dU) false,.sl 1 (b.map dU) false,.clo 58 [] []] (.v (.bool (tZ eqU a b))):=by
 refine dIZ func57 rfl<|zW _ (cD dU a)<|rW _ rfl (cD dU b)<|zWB (okB (neN _ _)) (λh1=>?_) (λh1=>?_)
 ·exact fT rfl (af2 (λz=>AV.v (.bool z)) (CE (sU h1)).symm)
 refine zW _ (cD dU a)<|zLo (κ:=Nat) (λj=>⟨slotsF [(0,.sl 1 (a.map dU) false),(1,.sl 1 (b.map dU) false),(2,.clo 58 [] []),(14,vN a.length),(15,vN j)],heapF [],9⟩) (λj=>j<=a.length∧tZ eqU a b=tZ eqU (a.drop j) (b.drop j)) (λj=>a.length-j) 0 (λs=>s) (wOL (λs=>s) wT trivial rfl) (⟨aE _,rfl⟩) ?_;intro j hj;have hjB:j<=1000000:=oH hj.1;refine zWB (okB (ltN _ _)) (λh2=>?_) (λh2=>?_)
 ·refine zR ?_;have hjl:=af0 h2;obtain⟨x,hx⟩:∃x,a[j]?=some x:=⟨_,aA hjl⟩;obtain⟨y,hy⟩:∃y,b[j]?=some y:=⟨_,aA (by have:a.length=b.length:=(sU h1);omega)⟩;refine zX (dU x) (.dp 1 0 (dU x)) rfl (iH hx)<|zX (dU y) (.dp 1 0 (dU y)) rfl (iH hy)<|zC (aeR x y)<|zB rfl (λh3=>?_) (λh3=>?_)
  ·exact fT rfl (af2 (λz=>AV.v (.bool z)) (Jm hx hy (sU h3) hj.2).symm)
  skip
  have b1:j+1<=1000001:=aD hjB (aC 1);refine zW _ (okI (bH b1 rfl)) ?_;refine⟨j+1,λs=>s,wOL _ wT trivial rfl,⟨hjl,CD hx hy (sU h3) hj.2⟩,by show a.length-(j+1)<a.length-j;omega⟩
 have hab:a.length=b.length:=(sU h1);have hje:=aF h2;exact fT rfl (af2 (λz=>AV.v (.bool z)) (Ei omT omT hj.2).symm)
def acZ(a b:List Wy)(ha:a.length<=1000000)(hb:b.length<=1000000):bI C0 54 [.sl 3 (a.map wyL) false,.sl 3 (b.map wyL) false] (.v (.bool (tZ Jx a b))):=by
 refine dIZ func54 rfl ?_;refine zC (acW a b ha hb) ?_;exact fT rfl rfl
def aa1(a b:List (List Wy))(ha:a.length<=1000000)(hb:b.length<=1000000)(hsa:∀s∈a,s.length<=1000000)(hsb:∀s∈b,s.length<=1000000):bI C0 53 [.sl 1 (a.map bX) false,.sl 1 (b.map bX) false,.clo 54 [] []] (.v (.bool (tZ (tZ Jx) a b))):=by
 refine dIZ func53 rfl<|zW _ (cD bX a)<|rW _ rfl (cD bX b)<|zWB (okB (neN _ _)) (λh1=>?_) (λh1=>?_)
 ·exact fT rfl (af2 (λz=>AV.v (.bool z)) (CE (sU h1)).symm)
 refine zW _ (cD bX a)<|zLo (κ:=Nat) (λj=>⟨slotsF [(0,.sl 1 (a.map bX) false),(1,.sl 1 (b.map bX) false),(2,.clo 54 [] []),(14,vN a.length),(15,vN j)],heapF [],9⟩) (λj=>j<=a.length∧tZ (tZ Jx) a b=tZ (tZ Jx) (a.drop j) (b.drop j)) (λj=>a.length-j) 0 (λs=>s) (wOL (λs=>s) wT trivial rfl) (⟨aE _,rfl⟩) ?_;intro j hj;have hjB:j<=1000000:=oH hj.1;refine zWB (okB (ltN _ _)) (λh2=>?_) (λh2=>?_)
 ·refine zR ?_;have hjl:=af0 h2;obtain⟨x,hx⟩:∃x,a[j]?=some x:=⟨_,aA hjl⟩;obtain⟨y,hy⟩:∃y,b[j]?=some y:=⟨_,aA (by have:a.length=b.length:=(sU h1);omega)⟩;refine zX (bX x) (.dp 1 0 (bX x)) rfl (iH hx)<|zX (bX y) (.dp 1 0 (bX y)) rfl (iH hy)<|zC (acZ x y (hsa x (aB hx)) (hsb y (aB hy)))<|zB rfl (λh3=>?_) (λh3=>?_)
  ·exact fT rfl (af2 (λz=>AV.v (.bool z)) (Jm hx hy (sU h3) hj.2).symm)
  skip
  have b1:j+1<=1000001:=aD hjB (aC 1);refine zW _ (okI (bH b1 rfl)) ?_;refine⟨j+1,λs=>s,wOL _ wT trivial rfl,⟨hjl,CD hx hy (sU h3) hj.2⟩,by show a.length-(j+1)<a.length-j;omega⟩
 have hab:a.length=b.length:=(sU h1);have hje:=aF h2;exact fT rfl (af2 (λz=>AV.v (.bool z)) (Ei omT omT hj.2).symm)
structure Seen.ok(s:Seen):Prop where
 data:s.data.length<=1000000
 dat:∀x∈s.data,x.length<=1000000
 agO:s.agO.length<=1000000
 word:∀x∈s.agO,x.length<=1000000
 agS:s.agS.length<=1000000
 pcs:s.pcs.length<=1000000
def ac0(x y:Seen)(hx:x.ok)(hy:y.ok):bI C0 21 [.agg (seL x),.agg (seL y)] (.v (.bool (Br x y))):=by
 refine dIZ func21 rfl<|zC (aa1 x.data y.data hx.data hy.data hx.dat hy.dat)<|zG rfl id<|gS rfl id<|jQ (x:=vB (tZ (tZ Jx) x.agO y.agO)) (g:=tZ (tZ Jx) x.data y.data) rfl rfl rfl rfl hsT rfl rfl rfl (.inl rfl) rfl (λhg=>aa1 x.agO y.agO hx.agO hy.agO hx.word hy.word)<|zN rfl (λh=>h)<|zG rfl id<|gS rfl id<|jQ (x:=vB (tZ Vn x.agS y.agS)) (g:=cE (tZ (tZ Jx) x.data y.data) (tZ (tZ Jx) x.agO y.agO) false) rfl rfl rfl rfl hsT rfl rfl rfl (.inl rfl) rfl (λhg=>acX x.agS y.agS hx.agS hy.agS)<|zN rfl (λh=>h)<|zG rfl id<|gS rfl id<|jQ (x:=vB (tZ eqU x.pcs y.pcs)) (g:=cE (cE (tZ (tZ Jx) x.data y.data) (tZ (tZ Jx) x.agO y.agO) false) (tZ Vn x.agS y.agS) false) rfl rfl rfl rfl hsT rfl rfl rfl (.inl rfl) rfl (λhg=>acY x.pcs y.pcs hx.pcs hy.pcs)<|zN rfl (λh=>h) ?_;exact fT rfl (af2 (λz=>AV.v (.bool z)) (by simp only[c2,Br,Bool.and_false,Bool.or_false,lG]))
theorem bI.args{C:Ctx}{f:FuncId}{xs ys:List AV}{r:AV}(h:bI C f ys r)(k:ZK xs ys):bI C f xs r:=
 ⟨h.1,λS w vs hS hG hr=>h.2 S w vs hS hG ⟨k.get.1 ▸ hr.1,λi a u p q=>by
  have hi:i<xs.length:=by rw[k.get.1];exact(Em.1 p).1
  exact k.get.2 i xs[i] a (aA hi) p S w u (hr.2 i _ u (aA hi) q)⟩⟩
def cf0:Cf:=⟨0,0,0,0,0,0,0,0,[],false,[]⟩
theorem wK{α:Type}{e:α->α->Bool}(h:∀x,e x x=true):∀a:List α,tZ e a a=true
 |[]=>rfl
 |x::a=>by simp only[tZ,h x,wK h a,Bool.and_self]
def So(a:ByteArray):(a==a)=true:=by
 show(a.data==a.data)=true;simp
def KY(x:Wy):Jx x x=true:=by unfold Jx;simp[So]
def Sq(x:Req):Vn x x=true:=by unfold Vn;simp[So]
def Vm(x:Nat):eqU x x=true:=by unfold eqU;simp
def Mo(x:Seen):Br x x=true:=by
 unfold Br;rw[wK (wK KY),wK (wK KY),wK Sq,wK Vm];rfl
def Jl(c:Ca):(kY c).length<=4∧∀s∈kY c,s.length<=2:=by
 unfold kY;split
 ·rename_i h;obtain⟨⟨h1,h2⟩,h3⟩:=(jL c).1 h;refine⟨by rw[aH];omega,λs hs=>?_⟩;obtain⟨s0,hs0,rfl⟩:=pG.1 hs;obtain⟨k,hk⟩:=List.getElem?_of_mem hs0;have:=((jX c k s0).1 (h3 k s0 hk)).1;rw[aH];omega
 exact⟨aE _,λs hs=>by cases hs⟩
def aa0(c:Co)(b:Int)(hb:c.agS.length<=1000000)(hr:c.agG.length<=1000000):(acU c b).ok:=by
 refine⟨?_,λs hs=>?_,?_,λs hs=>?_,?_,?_⟩
 ·have:=(Jl c.data).1;show(kY c.data).length<=_;omega
 ·have:=(Jl c.data).2 s hs;omega
 ·have:=(Jl c.agO).1;show(kY c.agO).length<=_;omega
 ·have:=(Jl c.agO).2 s hs;omega
 ·show(c.agS.map YL).length<=_;rw[aH];omega
 show((c.agG.drop (Li b).toNat).map (·.pc)).length<=_;rw[aH,bD];omega
theorem Co.ok.w{c:Co}{n:Nat}(h:c.ok n)(hn:n<=890000):c.okW:=⟨h.data,h.agO,oH h.agS,λx hx=>(h.buso x hx).agY,oH h.ret,λx hx=>(h.reto x hx).pc⟩
def tC(X:Co)(k:Nat):Seen:=acU (uG (uN X k)) ((uN X k).agG.length:Nat)
def fQ(X:Co)(k:Nat):List Seen:=(List.range k).map (tC X)
def CB(X:Co)(k:Nat):fQ X k++[tC X k]=fQ X (k+1):=by
 unfold fQ;rw[gZ,dH];rfl
def Dk(X:Co)(k:Nat):(fQ X k).length=k:=by unfold fQ;rw[aH,fV]
def Vj{X:Co}(hX:X.ok 0){k:Nat}(hk:10*k+50<=890000):(tC X k).ok:=by
 have h:=(xX (wW hX k omT) omT).w omT;exact aa0 _ _ h.agS h.ret
def KX{X:Co}(hX:X.ok 0){k:Nat}(hk:k<=2000):∀s∈fQ X k,s.ok:=λs hs=>by
 obtain⟨i,hi,rfl⟩:=pG.1 hs;exact Vj hX (oH (lI.1 hi))
def uI:List Seen->List Seen->Nat->Int
 |[],[],_=> -1
 |x::a,y::b,k=>if Br x y=true then uI a b (k+1)else k
 |_,_,k=>k
def Mn{a b:List Seen}{k:Nat}{x y:Seen}(hx:a[k]?=some x)(hy:b[k]?=some y)(he:Br x y=true):uI (a.drop k) (b.drop k) k=uI (a.drop (k+1)) (b.drop (k+1)) (k+1):=by
 obtain⟨h1,h1'⟩:=Em.1 hx;obtain⟨h2,h2'⟩:=Em.1 hy;rw[bF h1,bF h2,h1',h2'];exact af1 he
def Sn{a b:List Seen}{k:Nat}{x y:Seen}(hx:a[k]?=some x)(hy:b[k]?=some y)(he:Br x y=false):uI (a.drop k) (b.drop k) k=k:=by
 obtain⟨h1,h1'⟩:=Em.1 hx;obtain⟨h2,h2'⟩:=Em.1 hy;rw[bF h1,bF h2,h1',h2'];exact dZ (by rw[he];decide)
def Vk{a b:List Seen}{k:Nat}(ha:a.length<=k)(hb:k<b.length):uI (a.drop k) (b.drop k) k=k:=by
 rw[cB ha,bF hb];rfl
def Vl{a b:List Seen}{k:Nat}(ha:k<a.length)(hb:b.length<=k):uI (a.drop k) (b.drop k) k=k:=by
 rw[cB hb,bF ha];rfl
def Pj{a b:List Seen}{k:Nat}(ha:a.length<=k)(hb:b.length<=k):uI (a.drop k) (b.drop k) k= -1:=by
 rw[cB ha,cB hb];rfl
def aaX(a b:Nat):(if(b:Int)>(a:Int)then(b:Int)else(a:Int))=((max a b:Nat):Int):=by split<;>omega
def Wd{l:List Seen}(hl:∀s∈l,s.ok)(k:Nat):∃y,y.ok∧(k<l.length->l[k]?=some y):=by
 cases h:l[k]? with
 |none=>exact⟨⟨[],[],[],[]⟩,⟨aE _,λx hx=>(List.not_mem_nil hx).elim,aE _,λx hx=>(List.not_mem_nil hx).elim,aE _,aE _⟩,λhk=>by rw[aA hk]at h;cases h⟩
 |some y=>exact⟨y,hl y (aB h),λ_=>rfl⟩
def g2{k m n:Nat}(h:(!(cE (decide (k>=m)) true (decide (k>=n))))=true):k<m∧k<n:=by
 rw[c2o]at h;simp at h;omega
def g1{k n:Nat}(h:(!(decide (k>=n)))=true):k<n:=by simp at h;omega
def aaY{a b:List Seen}{k:Nat}{x y:Seen}(hk:k<a.length∨k<b.length)(hx:k<a.length->a[k]?=some x)(hy:k<b.length->b[k]?=some y){p:Bool}(h:cE p true (!(Br x y))=true)(hp:p=true->a.length<=k∨b.length<=k):uI (a.drop k) (b.drop k) k=k:=by
 by_cases h1:a.length<=k
 ·exact Vk h1 omT
 ·by_cases h2:b.length<=k
  ·exact Vl omT h2
  ·refine Sn (hx omT) (hy omT) ?_
   cases p with
   |true=>exact absurd (hp rfl) omT
   |false=>rw[c2o]at h;simpa using h
def Yj{a b:List Seen}{k:Nat}{x y:Seen}(hx:k<a.length->a[k]?=some x)(hy:k<b.length->b[k]?=some y){p:Bool}(h:cE p true (!(Br x y))=false)(hp:p=false->k<a.length∧k<b.length):uI (a.drop k) (b.drop k) k=uI (a.drop (k+1)) (b.drop (k+1)) (k+1):=by
 rw[c2o]at h;simp only[dP,mJ]at h;exact Mn (hx (hp h.1).1) (hy (hp h.1).2) h.2
def aaZ(c:Cf)(prog:List Nat)(m:ByteArray)(n:Int)(hc:c.ok)(hp:∀x∈prog,x<=4294967295)(hl:prog.length<=1000):bI C0 10 [.agg (cfL c false false),.sl 1 (prog.map dU) false,.v (.string m),vI n] (.tup [.agg (coL (uN (fX c prog m) (Cd n))),.sl 4 ((fQ (fX c prog m) (Cd n)).map seL) false]):=by
 refine dJZ func10 rfl ?_;have hX:=Id c prog m hc hp;refine rCi rfl (ZO c prog m hc omT)<|qRN 0 rfl<|rSt rfl<|qR 0 rfl<|zW _ (okI (Qk n 2000))<|jR (κ:=Nat×Bool) (λz_=>match z_ with|(k,false)=>⟨slotsF [(8,.ptr 1 0),(9,.sl 0 ([]) true),(11,.ptr 8 0),(18,vI (min n 2000)),(19,vN k),(10,.sl 0 ([]) true)],heapF [(0,.box [vI c.mode,vI c.agN,vI c.agI,vI c.queue,vI c.agF,vI c.agP,vI c.agJ,vI c.ways,.sl 1 (c.agW.map ae4) false,vB c.tables,.sl 1 (c.tape.map dU) false]),(1,.box zCo),(8,.box (coL (uN (fX c prog m) k)))],14⟩|(k,true)=>⟨slotsF [(8,.ptr 1 0),(9,.sl 0 ([]) true),(11,.ptr 8 0),(18,vI (min n 2000)),(19,vN k),(10,.osl 13 0 ((fQ (fX c prog m) k).length) false)],heapF [(0,.box [vI c.mode,vI c.agN,vI c.agI,vI c.queue,vI c.agF,vI c.agP,vI c.agJ,vI c.ways,.sl 1 (c.agW.map ae4) false,vB c.tables,.sl 1 (c.tape.map dU) false]),(1,.box zCo),(8,.box (coL (uN (fX c prog m) k))),(13,.arr ((fQ (fX c prog m) k).map seL) 4)],14⟩) (λz_=>match z_ with|(k,false)=>(k<=Cd n∧fQ (fX c prog m) k=[])|(k,true)=>(k<=Cd n)) (λz_=>Cd n-z_.1) (0,false) (λs=>s) (wOL (λs=>s) wT wH rfl) (⟨aE _,(show fQ (fX c prog m) 0=[]from rfl)⟩) ?_;intro z_ hk;obtain⟨k,b_⟩:=z_;cases b_
 all_goals
  have hk_:=hk
  first|have hnn:k<=Cd n:=hk_.1|have hnn:k<=Cd n:=hk_
  have hkB:k<=2000:=by have:Cd n<=2000:=(by unfold Cd;omega);omega
  first|have hNk:fQ (fX c prog m) k=[]:=hk_.2|(have habk:(fQ (fX c prog m) k).length<=2000:=(by rw[Dk];omega))
  have hN:Cd n=(min n 2000).toNat:=rfl;have hso:(uG (uN (fX c prog m) k)).ok (0+10*k+10):=xX (wW hX k omT) omT;have hnb:0+10*k+10<=890000:=oT;refine qS 0 rfl<|zVB (decide ((k:Int)<(min n 2000))) (λh1=>?_) (λh1=>?_)
  ·have h1p:=af0 h1;refine zW _ (cD spL ((uN (fX c prog m) k).agG))<|rCi rfl (Zj (uN (fX c prog m) k) (0+10*k) (wW hX k omT) omT)<|rSt rfl<|qR 0 rfl<|rCi rfl (adS (uG (uN (fX c prog m) k)) ((uN (fX c prog m) k).agG.length:Nat) ((xX (wW hX k omT) omT).w omT))<|rV (.sl 4 ([[.sl 1 (((tC (fX c prog m) k).data).map bX) false,.sl 1 (((tC (fX c prog m) k).agO).map bX) false,.sl 4 (((tC (fX c prog m) k).agS).map rqL) false,.sl 1 (((tC (fX c prog m) k).pcs).map dU) false]]) true) rfl ?_
   first|refine zF (x:=.osl 27 0 1 false) (h':=upd _ 27 (some (.arr (([tC (fX c prog m) k]).map seL) 4))) (Iw omT) (⟨rfl,by exact omT,by exact omT,trivial⟩) ?_|refine zF (x:=.osl 27 0 ((fQ (fX c prog m) k).length+1) false) (h':=upd (upd _ 13 none) 27 (some (.arr (((fQ (fX c prog m) k)++([tC (fX c prog m) k])).map seL) 4))) (iP seL (fQ (fX c prog m) k) ([tC (fX c prog m) k]) omT omT) (⟨by exact omT,by exact omT,trivial⟩) ?_
   have b1:k+1<=2001:=aD hkB (aC 1);refine zW _ (okI (bH b1 rfl)) ?_
   first|(refine⟨(k+1,true),λi=>match i with|13=>27|i=>i,wOL _ ⟨⟨rfl,rfl⟩,⟨rfl,rfl⟩,⟨rfl,rfl⟩,⟨rfl,rfl⟩,⟨rfl,rfl⟩,⟨(show AV.osl 27 0 (1) false=AV.osl 27 0 (fQ (fX c prog m) (k+1)).length false from by rw[<-(show [tC (fX c prog m) k]=fQ (fX c prog m) (k+1)from(by rw[<-(CB (fX c prog m) k),hNk];rfl))];first|done|rfl|(congr 1<;>(first|exact omT|simp))),rfl⟩,trivial⟩ ⟨⟨rfl,rfl,rfl⟩,⟨rfl,rfl,rfl⟩,⟨rfl,rfl,rfl⟩,⟨rfl,(af2 (λz:List Seen=>some (Blk.arr (z.map seL) 4)) (show [tC (fX c prog m) k]=fQ (fX c prog m) (k+1)from(by rw[<-(CB (fX c prog m) k),hNk];rfl))),rfl⟩,trivial⟩ rfl,oT,by show Cd n-(k+1)<Cd n-k;omega⟩)|(refine⟨(k+1,true),λi=>match i with|13=>27|i=>i,wOL _ ⟨⟨rfl,rfl⟩,⟨rfl,rfl⟩,⟨rfl,rfl⟩,⟨rfl,rfl⟩,⟨rfl,rfl⟩,⟨(show AV.osl 27 0 ((fQ (fX c prog m) k).length+1) false=AV.osl 27 0 (fQ (fX c prog m) (k+1)).length false from by rw[<-(show(fQ (fX c prog m) k)++([tC (fX c prog m) k])=fQ (fX c prog m) (k+1)from CB (fX c prog m) k)];first|done|rfl|(congr 1<;>(first|exact omT|simp))),rfl⟩,trivial⟩ ⟨⟨rfl,rfl,rfl⟩,⟨rfl,rfl,rfl⟩,⟨rfl,rfl,rfl⟩,⟨rfl,(af2 (λz:List Seen=>some (Blk.arr (z.map seL) 4)) (show(fQ (fX c prog m) k)++([tC (fX c prog m) k])=fQ (fX c prog m) (k+1)from CB (fX c prog m) k)),rfl⟩,trivial⟩ rfl,oT,by show Cd n-(k+1)<Cd n-k;omega⟩)
  have h1p:=aF h1;refine qXN 0 rfl<|rSt rfl<|qRF 0 rfl ?_;have hk2:k=Cd n:=oT;rw[<-hk2]
  first|(exact⟨_,rfl,trivial,rfl,Sub.tup ⟨Sub.refl _,(by show Sub (.sl 0 [] true) (.sl 4 ((fQ (fX c prog m) k).map seL) false);rw[hNk];exact oM 4 false),trivial⟩⟩)|(exact⟨_,rfl,⟨tvT,(by show 0+((fQ (fX c prog m) k).length)<=((fQ (fX c prog m) k).map seL).length;exact omT),trivial⟩,rfl,Sub.tup ⟨Sub.refl _,(by show Sub (.sl 4 (List.take (fQ (fX c prog m) k).length (List.drop 0 ((fQ (fX c prog m) k).map seL))) false) (.sl 4 ((fQ (fX c prog m) k).map seL) false);rw[jW seL (fQ (fX c prog m) k) (aC _)];exact Sub.refl _),trivial⟩⟩)
def Yk(a b:List Seen)(ha:a.length<=2000)(hb:b.length<=2000)(hao:∀s∈a,s.ok)(hbo:∀s∈b,s.ok):bI C0 11 [.sl 4 (a.map seL) false,.sl 4 (b.map seL) false] (vI (uI a b 0)):=by
 refine dIZ func11 rfl<|zW _ (cD seL a)<|rW _ rfl (cD seL b)<|zW _ (okI (aaX a.length b.length))<|zLo (κ:=Nat) (λk=>⟨slotsF [(0,.sl 4 (a.map seL) false),(1,.sl 4 (b.map seL) false),(10,vN (max a.length b.length)),(11,vN k)],heapF [],7⟩) (λk=>k<=(max a.length b.length)∧uI a b 0=uI (a.drop k) (b.drop k) k) (λk=>(max a.length b.length)-k) 0 (λs=>s) (wOL (λs=>s) wT trivial rfl) (⟨aE _,rfl⟩) ?_;intro k hk;have hkn:k<=(max a.length b.length):=hk.1;have hkB:k<=2000:=oT;obtain⟨x1,hx1o,hx1⟩:=Wd hao k;obtain⟨x2,hx2o,hx2⟩:=Wd hbo k;refine zWB (okB (ltN _ _)) (λh1=>?_) (λh1=>?_)
 ·have h1p:=af0 h1;refine cRg<|oR 2 rfl<|rW _ rfl (cD seL a)<|rW _ rfl (okB (geN _ _))<|oR 1 rfl<|gN rfl<|gN rfl<|gBS rfl id (cD seL b)<|gBS rfl hsT (okB (geN _ _))<|bO rfl rfl rfl (by simp)<|oR 1 rfl<|gN rfl<|gN rfl<|DK (seL x1) (x:=.dp 4 0 (seL x1)) (g:= !(cE (decide (k>=a.length)) true (decide (k>=b.length)))) rfl rfl rfl rfl hsT rfl rfl (λhg=>⟨aG _,iH (hx1 (g2 hg).1)⟩) rfl<|gS rfl id<|gN rfl<|gN rfl<|DK (seL x2) (x:=.dp 4 0 (seL x2)) (g:= !(cE (decide (k>=a.length)) true (decide (k>=b.length)))) rfl rfl rfl rfl hsT rfl rfl (λhg=>⟨aG _,iH (hx2 (g2 hg).2)⟩) rfl<|gS rfl id<|jQ (x:=vB (Br x1 x2)) (g:= !(cE (decide (k>=a.length)) true (decide (k>=b.length)))) rfl rfl rfl rfl hsT rfl rfl rfl (.inl rfl) rfl (λhg=>ac0 x1 x2 hx1o hx2o)<|gS rfl id<|bO rfl rfl rfl (by simp)<|rE 32<|qXC 0 rfl<|zB rfl (λh2=>?_) (λh2=>?_)
  ·exact fT rfl (af2 (λz:Int=>AV.v (.int .i64 z)) (hk.2.trans (aaY omT hx1 hx2 h2 (λz=>by rw[c2o]at z;simp at z;omega))).symm)
  skip
  have b1:k+1<=2001:=aD hkB (aC 1);refine zW _ (okI (bH b1 rfl)) ?_;refine⟨k+1,λs=>s,wOL _ wT trivial rfl,⟨oT,hk.2.trans (Yj hx1 hx2 h2 (λz=>by rw[c2o]at z;simp at z;omega))⟩,by show(max a.length b.length)-(k+1)<(max a.length b.length)-k;omega⟩
 have h1p:=aF h1;exact fT rfl (af2 (λz:Int=>AV.v (.int .i64 z)) (hk.2.trans (Pj omT omT)).symm)
def Bj(prog:List Nat):List Nat:=prog.take (min prog.length 64)
def Bk(m:ByteArray):ByteArray:=m.extract 0 (min m.size 300)
def upTo(a:Int)(hi:Nat):Nat:=(min (max a 0) hi).toNat
def Ym(a:Int)(hi:Nat):upTo a hi<=hi:=by unfold upTo;omega
def Yn(a:Int)(hi:Nat):(if(hi:Int)<max a 0 then(hi:Int)else max a 0)=((upTo a hi:Nat):Int):=by unfold upTo;split<;>omega
def We(a b:Int):(if b>a then b else a)=max a b:=by split<;>omega
structure EvnT where
 pc:Nat
 agZ:Nat
 size:Int
 agV:Int
 loaded:Nat
 halt:Int
abbrev evL(e:EvnT):List AV:=[.v (.int .u32 (e.pc:Int)),.v (.int .u32 (e.agZ:Int)),.v (.int .i64 e.size),.v (.int .i64 e.agV),.v (.int .u32 (e.loaded:Int)),.v (.int .i64 e.halt)]
def evP(ld:Bool)(x:Sp):EvnT:=⟨x.pc,x.agZ,x.size,x.agV,if ld=true∧0<x.size∧x.store=false then x.value else 0,x.halt⟩
def Ye(a b:EvnT):Bool:=((a.pc:Int)==b.pc)&&(((a.agZ:Int)==b.agZ)&&((a.size==b.size)&&((a.agV==b.agV)&&(((a.loaded:Int)==b.loaded)&&((a.halt==b.halt)&&true)))))
def Ve(a b:EvnT):Ye a b=true↔a=b:=by
 obtain⟨a1,a2,a3,a4,a5,a6⟩:=a;obtain⟨b1,b2,b3,b4,b5,b6⟩:=b;simp[Ye];omega
def sameP:List EvnT->List EvnT->Nat
 |a::l,b::m=>if Ye a b=true then sameP l m+1 else 0
 |_,_=>0
theorem Di:∀l,sameP l l=l.length
 |[]=>rfl
 |a::l=>by simp only[sameP,(Ve a a).2 rfl,fD,Di l,bN]
theorem Eh:∀l m,sameP l m<=l.length∧sameP l m<=m.length
 |[],m=>by simp[sameP]
 |a::l,[]=>by simp[sameP]
 |a::l,b::m=>by
  have:=Eh l m;simp only[sameP];split<;>simp<;>omega
abbrev ev0:EvnT:=⟨0,0,0,0,0,0⟩
def Wa{ld:Bool}{x:Sp}(h:cE (cE ld (decide (x.size>0)) false) (!x.store) false=true):(⟨x.pc,x.agZ,x.size,x.agV,x.value,x.halt⟩:EvnT)=evP ld x:=by
 have:ld=true∧0<x.size∧x.store=false:=by
  cases ld<;>cases hs:x.store<;>by_cases hz:0<x.size<;>simp[cE,hs,hz]at h⊢
 unfold evP;rw[af1 this]
def aaP{ld:Bool}{x:Sp}(h:cE (cE ld (decide (x.size>0)) false) (!x.store) false=false):(⟨x.pc,x.agZ,x.size,x.agV,0,x.halt⟩:EvnT)=evP ld x:=by
 have: ¬(ld=true∧0<x.size∧x.store=false):=by
  rintro⟨rfl,h2,h3⟩;simp[cE,h2,h3]at h
 unfold evP;rw[dZ this]
def Jh{l:List Sp}{ld:Bool}{k:Nat}{x:Sp}{e:EvnT}(hx:l[k]?=some x)(he:e=evP ld x):(l.take k).map (evP ld)++[e]=(l.take (k+1)).map (evP ld):=by
 rw[bW,hx,he];simp
def Sa(l:List EvnT)(k:Nat):∃y,k<l.length->l[k]?=some y:=by
 cases h:l[k]? with
 |none=>exact⟨ev0,λhk=>by rw[aA hk]at h;cases h⟩
 |some y=>exact⟨y,λ_=>rfl⟩
def Sb{a b:List EvnT}{k:Nat}{x y:EvnT}(hx:a[k]?=some x)(hy:b[k]?=some y)(he:Ye x y=true)(h:sameP a b=k+sameP (a.drop k) (b.drop k)):sameP a b=k+1+sameP (a.drop (k+1)) (b.drop (k+1)):=by
 obtain⟨h1,h1'⟩:=Em.1 hx;obtain⟨h2,h2'⟩:=Em.1 hy;rw[h,bF h1,bF h2,h1',h2'];show k+(if Ye x y=true then sameP _ _+1 else 0)=_;rw[af1 he];omega
def Sc{a b:List EvnT}{k:Nat}{x y:EvnT}(hx:k<a.length->a[k]?=some x)(hy:k<b.length->b[k]?=some y)(h: ¬((k<a.length∧k<b.length)∧Ye x y=true)):sameP (a.drop k) (b.drop k)=0:=by
 by_cases h1:k<a.length
 ·by_cases h2:k<b.length
  ·obtain⟨q1,q2⟩:=Em.1 (hx h1);obtain⟨q3,q4⟩:=Em.1 (hy h2);rw[bF h1,bF h2,q2,q4];exact dZ λq=>h ⟨⟨h1,h2⟩,q⟩
  rw[cB (l:=b) omT];cases a.drop k<;>rfl
 rw[cB (l:=a) omT];cases b.drop k<;>rfl
def CJ(prog:List Nat)(m:ByteArray)(n:Int)(ld:Bool):List EvnT:=((xsN prog (newSt m) (cntN prog (min n 10000).toNat (newSt m))).map Prod.snd).map (evP ld)
def Ji(prog:List Nat)(m:ByteArray)(n:Int)(ld:Bool):(CJ prog m n ld).length<=10000:=by
 unfold CJ;rw[aH,aH,afO];have:=AB prog (min n 10000).toNat (newSt m);omega
def yM(c:Cf)(n:Int):Int:=(bZ c).agN*min (max n 0) 2000+(bZ c).agI
def Mk{x:Int}(h1: -9223372036854775808<=x)(h2:x<9223372036854775808):wrap64 x=x:=by unfold wrap64;omega
def NS(n lo hi:Int)(h:lo<=hi):lo<=bV n lo hi∧bV n lo hi<=hi:=by unfold bV;(repeat' split)<;>omega
def Sd(c:Cf)(n:Int):0<=(bZ c).agN*min (max n 0) 2000∧(bZ c).agN*min (max n 0) 2000<=4000:=by
 have h:1<=(bZ c).agN∧(bZ c).agN<=2:=NS c.agN 1 2 dT;have h2:(bZ c).agN=1∨(bZ c).agN=2:=oT;rcases h2 with h2|h2<;>rw[h2]<;>omega
def Se(c:Cf):2<=(bZ c).agI∧(bZ c).agI<=8:=NS c.agI 2 8 dT
def Vf(A B:List EvnT)(far:Int)(p q:Nat):Bool:=
 if p≠q then false else if((sameP A B:Nat):Int)>=far then true else(sameP A B==A.length)&&((sameP A B==B.length)&&(decide (0<sameP A B)&&((A[sameP A B-1]?).getD ev0).halt != 0))
def Sf{a b:Bool}:cE a b false=(a&&b):=by cases a<;>rfl
def dOf(l:List Sp)(ld:Bool)(hl:l.length<=10000):bI C0 39 [.sl 9 (l.map spL) false,vB ld] (.sl 6 ((l.map (evP ld)).map evL) false):=by
 refine dIZ func39 rfl ?_;refine rW _ rfl (cD spL l)<|zF (x:=.osl 3 0 0 false) (h':=upd _ 3 (some (.arr (([]:List EvnT).map evL) 6))) (rfl) (⟨dT,FG.2 omT,by show((l.length:Nat):Int)<=1000000;omega⟩) ?_;refine zW _ (cD spL l)<|zLo (κ:=Nat) (λk=>⟨slotsF [(1,vB ld),(4,.sl 0 ([]) true),(12,.sl 9 (l.map spL) false),(13,vN l.length),(14,vN k),(5,.osl 8 0 (((l.take k).map (evP ld)).length) false)],heapF [(8,.arr (((l.take k).map (evP ld)).map evL) 6)],9⟩) (λk=>k<=l.length) (λk=>l.length-k) 0 (λi=>match i with|8=>3|i=>i) (wOL (λi=>match i with|8=>3|i=>i) ⟨⟨rfl,rfl⟩,⟨rfl,rfl⟩,⟨rfl,rfl⟩,⟨rfl,rfl⟩,⟨rfl,rfl⟩,⟨(show AV.osl 3 0 (0) false=AV.osl 3 0 ((l.take 0).map (evP ld)).length false from by rw[<-(show([]:List EvnT)=(l.take 0).map (evP ld)from rfl)];first|done|rfl),rfl⟩,trivial⟩ ⟨⟨rfl,(af2 (λz:List EvnT=>some (Blk.arr (z.map evL) 6)) (show([]:List EvnT)=(l.take 0).map (evP ld)from rfl)),rfl⟩,trivial⟩ rfl) (aE _) ?_;intro k hk;have hk_:=hk;have hnn:k<=l.length:=hk_;have hkB:k<=10000:=oT;have habk:((l.take k).map (evP ld)).length<=10000:=(by rw[aH,aM];omega);refine zWB (okB (ltN _ _)) (λh1=>?_) (λh1=>?_)
 ·have h1p:=af0 h1;obtain⟨x,hx⟩:∃y_,l[k]?=some y_:=⟨_,aA omT⟩;refine zX (spL x) (.dp 9 0 (spL x)) rfl (iH hx)<|zV (.agg [vU x.pc,vU x.agZ,vI x.size,vI x.agV,.v (.int .u32 0),vI x.halt]) ?_;refine gS rfl id<|gBS (x:=vB (decide (x.size>0))) rfl id rfl<|zN rfl (λh=>h)<|gS rfl id<|gS rfl id<|zN rfl (λh=>h) ?_;refine zB rfl (λh2=>?_) (λh2=>?_)
  ·refine rV (.sl 6 ([[vU x.pc,vU x.agZ,vI x.size,vI x.agV,vU x.value,vI x.halt]]) true) rfl<|zF (x:=.osl 45 0 (((l.take k).map (evP ld)).length+1) false) (h':=upd (upd _ 8 none) 45 (some (.arr ((((l.take k).map (evP ld))++([(⟨x.pc,x.agZ,x.size,x.agV,x.value,x.halt⟩:EvnT)])).map evL) 6))) (iP evL ((l.take k).map (evP ld)) ([(⟨x.pc,x.agZ,x.size,x.agV,x.value,x.halt⟩:EvnT)]) omT omT) (⟨by exact omT,by exact omT,trivial⟩) ?_;have b1:k+1<=10001:=aD hkB (aC 1);refine zW _ (okI (bH b1 rfl)) ?_;refine⟨k+1,λi=>match i with|8=>45|i=>i,wOL _ ⟨⟨rfl,rfl⟩,⟨rfl,rfl⟩,⟨rfl,rfl⟩,⟨rfl,rfl⟩,⟨rfl,rfl⟩,⟨(show AV.osl 45 0 (((l.take k).map (evP ld)).length+1) false=AV.osl 45 0 ((l.take (k+1)).map (evP ld)).length false from by rw[<-(show((l.take k).map (evP ld))++([(⟨x.pc,x.agZ,x.size,x.agV,x.value,x.halt⟩:EvnT)])=(l.take (k+1)).map (evP ld)from Jh hx (Wa h2))];first|done|rfl|(congr 1<;>(first|exact omT|simp))),rfl⟩,trivial⟩ ⟨⟨rfl,(af2 (λz:List EvnT=>some (Blk.arr (z.map evL) 6)) (show((l.take k).map (evP ld))++([(⟨x.pc,x.agZ,x.size,x.agV,x.value,x.halt⟩:EvnT)])=(l.take (k+1)).map (evP ld)from Jh hx (Wa h2))),rfl⟩,trivial⟩ rfl,oT,by show l.length-(k+1)<l.length-k;omega⟩
  refine rV (.sl 6 ([[vU x.pc,vU x.agZ,vI x.size,vI x.agV,.v (.int .u32 0),vI x.halt]]) true) rfl<|zF (x:=.osl 41 0 (((l.take k).map (evP ld)).length+1) false) (h':=upd (upd _ 8 none) 41 (some (.arr ((((l.take k).map (evP ld))++([(⟨x.pc,x.agZ,x.size,x.agV,0,x.halt⟩:EvnT)])).map evL) 6))) (iP evL ((l.take k).map (evP ld)) ([(⟨x.pc,x.agZ,x.size,x.agV,0,x.halt⟩:EvnT)]) omT omT) (⟨by exact omT,by exact omT,trivial⟩) ?_;have b2:k+1<=10001:=aD hkB (aC 1);refine zW _ (okI (bH b2 rfl)) ?_;refine⟨k+1,λi=>match i with|8=>41|i=>i,wOL _ ⟨⟨rfl,rfl⟩,⟨rfl,rfl⟩,⟨rfl,rfl⟩,⟨rfl,rfl⟩,⟨rfl,rfl⟩,⟨(show AV.osl 41 0 (((l.take k).map (evP ld)).length+1) false=AV.osl 41 0 ((l.take (k+1)).map (evP ld)).length false from by rw[<-(show((l.take k).map (evP ld))++([(⟨x.pc,x.agZ,x.size,x.agV,0,x.halt⟩:EvnT)])=(l.take (k+1)).map (evP ld)from Jh hx (aaP h2))];first|done|rfl|(congr 1<;>(first|exact omT|simp))),rfl⟩,trivial⟩ ⟨⟨rfl,(af2 (λz:List EvnT=>some (Blk.arr (z.map evL) 6)) (show((l.take k).map (evP ld))++([(⟨x.pc,x.agZ,x.size,x.agV,0,x.halt⟩:EvnT)])=(l.take (k+1)).map (evP ld)from Jh hx (aaP h2))),rfl⟩,trivial⟩ rfl,oT,by show l.length-(k+1)<l.length-k;omega⟩
 have h1p:=aF h1;have hke:k=l.length:=oT;refine dK rfl (by show 0+(((l.take k).map (evP ld)).length)<=(((l.take k).map (evP ld)).map evL).length;exact omT) rfl ?_;show AV.sl 6 (List.take ((l.take k).map (evP ld)).length (List.drop 0 (((l.take k).map (evP ld)).map evL))) false=_;rw[jW evL _ (aC _),hke,cH]
def Yf{a b:Bool}(h:a=true)(k:b=true):cE a b false=true:=by rw[h,k];rfl
def aaQ(a b:List EvnT)(ha:a.length<=10000)(hb:b.length<=10000):bI C0 16 [.sl 6 (a.map evL) false,.sl 6 (b.map evL) false] (vN (sameP a b)):=by
 refine dIZ func16 rfl ?_;refine zLo (κ:=Nat) (λk=>⟨slotsF [(0,.sl 6 (a.map evL) false),(1,.sl 6 (b.map evL) false),(5,vN k)],heapF [],2⟩) (λk=>k<=a.length∧k<=b.length∧sameP a b=k+sameP (a.drop k) (b.drop k)) (λk=>a.length-k) 0 (λs=>s) (wOL (λs=>s) wT trivial rfl) (⟨aE _,aE _,(bJ _).symm⟩) ?_;intro k hk;have hkB:k<=10000:=oT;obtain⟨x1,hx1⟩:=Sa a k;obtain⟨x2,hx2⟩:=Sa b k;refine cRg<|oR 2 rfl<|rW _ rfl (cD evL a)<|rW _ rfl (okB (ltN _ _))<|oR 1 rfl<|gN rfl<|gN rfl<|gBS (x:=vN b.length) rfl id (cD evL b)<|gBS (x:=vB (decide (k<b.length))) rfl hsT (okB (ltN _ _))<|bO rfl rfl rfl (λh=>h)<|oR 1 rfl<|gN rfl<|gN rfl<|DK (evL x1) (x:=.dp 6 0 (evL x1)) (g:=cE (decide (k<a.length)) (decide (k<b.length)) false) rfl rfl rfl rfl hsT rfl rfl (λhg=>⟨aG _,iH (hx1 (af0 (vD hg).1))⟩) rfl ?_;refine gS rfl id<|gN rfl<|gN rfl<|DK (evL x2) (x:=.dp 6 0 (evL x2)) (g:=cE (decide (k<a.length)) (decide (k<b.length)) false) rfl rfl rfl rfl hsT rfl rfl (λhg=>⟨aG _,iH (hx2 (af0 (vD hg).2))⟩) rfl<|gS rfl id<|gBS (x:=vB (Ye x1 x2)) rfl hsT rfl<|bO rfl rfl rfl (λh=>h)<|rE 23 ?_;refine qXC 0 rfl<|zB rfl (λh1=>?_) (λh1=>?_)
 ·skip
  have b1:k+1<=10001:=aD hkB (aC 1);refine zW _ (okI (bH b1 rfl)) ?_;refine⟨k+1,λs=>s,wOL _ wT trivial rfl,by have q:=vD h1;have q2:=vD q.1;have q3:=af0 q2.1;have q4:=af0 q2.2;exact⟨oT,oT,Sb (hx1 q3) (hx2 q4) q.2 hk.2.2⟩,by have q:=vD h1;have q2:=vD q.1;have q3:=af0 q2.1;have q4:=af0 q2.2;show a.length-(k+1)<a.length-k;omega⟩
 exact fT rfl (af2 (λn:Nat=>AV.v (.int .i64 (n:Int))) (by rw[hk.2.2,Sc hx1 hx2 (λq=>Sk h1 ⟨Yf (jP q.1.1) (jP q.1.2),q.2⟩)];rfl))
def aaR(prog:List Nat)(m:ByteArray)(n:Int)(ld:Bool)(hp:∀x∈prog,x<=4294967295)(hl:prog.length<=1000):bI C0 15 [.sl 1 (prog.map dU) false,.v (.string m),vI n,vB ld] (.sl 6 ((CJ prog m n ld).map evL) false):=by
 refine dIZ func15 rfl ?_;have hlx:((xsN prog (newSt m) (cntN prog (min n 10000).toNat (newSt m))).map Prod.snd).length<=10000:=by rw[aH,afO];have:=AB prog (min n 10000).toNat (newSt m);omega
 refine zC (aaW prog m n false hp hl) ?_;refine zC (dOf ((xsN prog (newSt m) (cntN prog (min n 10000).toNat (newSt m))).map Prod.snd) ld hlx) ?_;exact fT rfl rfl
def adR(c:Cf)(n:Int)(hc:c.ok):bI C0 7 [.agg (cfL c false false),vI n] (vI (yM c n)):=by
 refine dIZ func7 rfl ?_;have hm:=Sd c n;have hr:=Se c;refine zC (Eb c false false hc)<|rW _ rfl (okI (We n 0))<|rW _ rfl (okI (Qk (max n 0) 2000)) ?_;refine zW _ (okI ((w64 _).trans (Mk omT omT)))<|zW _ (okI ((w64 _).trans (Mk omT omT))) ?_;exact fT rfl rfl
def Vg{A B:List EvnT}{y:EvnT}(hy:(0<sameP A B∧sameP A B<=A.length)->A[sameP A B-1]?=some y):((sameP A B==A.length)&&((sameP A B==B.length)&&(decide (0<sameP A B)&&((A[sameP A B-1]?).getD ev0).halt != 0)))=cE (cE (cE (sameP A B==A.length) (sameP A B==B.length) false) (decide (sameP A B>0)) false) (y.halt != 0) false:=by
 have h1:=(Eh A B).1;rw[Sf,Sf,Sf];by_cases h:0<sameP A B
 ·rw[hy ⟨h,h1⟩];simp[lG]
 simp[h]
def Wb(c:Cf)(prog:List Nat)(m w:ByteArray)(n:Int)(ld:Bool)(hc:c.ok)(hp:∀x∈prog,x<=4294967295)(hl:prog.length<=1000):bI C0 9 [.agg (cfL c false false),.sl 1 (prog.map dU) false,.v (.string m),.v (.string w),vI n,vB ld] (.tup [vN (sameP (CJ prog m (yM c n) ld) (CJ prog w (yM c n) ld)),vB (Vf (CJ prog m (yM c n) ld) (CJ prog w (yM c n) ld) (yM c n) (jB m).size (jB w).size)]):=by
 refine dI func9 ?_;obtain⟨A,hAe⟩:∃A,A=CJ prog m (yM c n) ld:=⟨_,rfl⟩;obtain⟨B,hBe⟩:∃B,B=CJ prog w (yM c n) ld:=⟨_,rfl⟩;obtain⟨p,hpe⟩:∃p,p=(jB m).size:=⟨_,rfl⟩;obtain⟨q,hqe⟩:∃q,q=(jB w).size:=⟨_,rfl⟩;rw[<-hAe, <-hBe, <-hpe, <-hqe];have hAl:A.length<=10000:=by rw[hAe];exact Ji ..
 have hBl:B.length<=10000:=by rw[hBe];exact Ji ..
 have hsl:sameP A B<=10000:=aL (Eh A B).1 hAl;have hs1:=Eh A B;have hpz:p<=300:=by rw[hpe,wE];exact aL (RA _) dT
 have hqz:q<=300:=by rw[hqe,wE];exact aL (RA _) dT
 obtain⟨y,hy⟩:∃y,(0<sameP A B∧sameP A B<=A.length)->A[sameP A B-1]?=some y:=(Sa A (sameP A B-1)).imp λy h k=>h omT;refine qS 0 rfl<|zC (adR c n hc)<|zC (x:=.sl 6 (A.map evL) false) ((by rw[hAe];exact aaR prog m (yM c n) ld hp hl)) ?_;refine zC (x:=.sl 6 (B.map evL) false) ((by rw[hBe];exact aaR prog w (yM c n) ld hp hl))<|zC (aaQ A B hAl hBl) ?_;refine rCi rfl (KF m)<|zW (vN p) (okI (by rw[hpe]))<|rCi rfl (KF w)<|rW (vN q) rfl (okI (by rw[hqe]))<|zW (vB (p != q)) (okB (neN _ _)) ?_;refine zB rfl (λh1=>?_) (λh1=>?_)
 ·have h1p:=wM h1;have e:Vf A B (yM c n) p q=false:=af1 (sU h1);rw[e];exact fT rfl rfl
 have h1p:=wN h1;refine zVB (decide (((sameP A B:Nat):Int)>=(yM c n))) (λh2=>?_) (λh2=>?_)
 ·have h2p:=af0 h2;have e:Vf A B (yM c n) p q=true:=(dZ (sU h1)).trans (af1 (sU h2));rw[e];exact fT rfl rfl
 have h2p:=aF h2;refine rW (vN A.length) rfl (cD evL A)<|zW (vB ((sameP A B)==A.length)) (okB (eqN _ _))<|gBS (x:=vN B.length) rfl id (cD evL B)<|gBS (x:=vB ((sameP A B)==B.length)) rfl hsT (okB (eqN _ _))<|zN rfl (λh=>h)<|cRg ?_;refine oR 3 rfl<|gN rfl<|gBS (x:=vB (decide ((sameP A B)>0))) rfl id (okB (gtN _ _))<|bO rfl rfl rfl (λh=>h)<|oR 1 rfl<|gN rfl<|gN rfl<|gBS (x:=vI (((sameP A B:Nat):Int)-1)) rfl id (okI ((w64 _).trans (Mk omT omT))) ?_;refine DK (evL y) (x:=.dp 6 0 (evL y)) (g:=cE (cE ((sameP A B)==A.length) ((sameP A B)==B.length) false) (decide ((sameP A B)>0)) false) rfl rfl rfl rfl hsT rfl rfl (λhg=>by have q:=vD hg;have q1:=af0 q.2;exact⟨by show(0:Int)<=((sameP A B:Nat):Int)-1;omega,by rw[aX,(oT:(((sameP A B:Nat):Int)-1).toNat=sameP A B-1),hy omT];rfl⟩) rfl ?_;refine gS rfl id<|gS rfl id<|gBS (x:=vB (y.halt != 0)) rfl id rfl<|bO rfl rfl rfl (λh=>h)<|oR 2 rfl<|rE 61<|qXF 0 rfl ?_;have e:Vf A B (yM c n) p q=cE (cE (cE (sameP A B==A.length) (sameP A B==B.length) false) (decide (sameP A B>0)) false) (y.halt != 0) false:=(dZ (sU h1)).trans ((dZ (sU h2)).trans (Vg hy));rw[e];exact fT rfl rfl
def acT(c:Cf)(prog:List Nat)(m w:ByteArray)(n:Int)(ld:Bool)(hc:c.ok)(hp:∀x∈prog,x<=4294967295)(hl:prog.length<=1000):bI C0 5 [.agg (cfL c false false),.sl 1 (prog.map dU) false,.v (.string m),.v (.string w),vI n,vB ld] (.agg [vN (sameP (CJ prog m (yM c n) ld) (CJ prog w (yM c n) ld)),vB (Vf (CJ prog m (yM c n) ld) (CJ prog w (yM c n) ld) (yM c n) (jB m).size (jB w).size),vI (uI (fQ (fX c prog m) (Cd n)) (fQ (fX c prog w) (Cd n)) 0)]):=by
 refine dIZ func5 rfl ?_;have hrn:Cd n<=2000:=by unfold Cd;omega
 refine zC (Wb c prog m w n ld hc hp hl)<|rCi rfl (aaZ c prog m n hc hp hl) ?_;refine qRN 0 rfl<|rSx 22 (coL (uN (fX c prog m) (Cd n))) rfl rfl rfl<|qR 0 rfl<|rCi rfl (aaZ c prog w n hc hp hl)<|qRN 0 rfl<|rSx 33 (coL (uN (fX c prog w) (Cd n))) rfl rfl rfl ?_;refine qR 0 rfl<|rCi rfl (Yk (fQ (fX c prog m) (Cd n)) (fQ (fX c prog w) (Cd n)) (by rw[Dk];exact hrn) (by rw[Dk];exact hrn) (KX (Id c prog m hc hp) hrn) (KX (Id c prog w hc hp) hrn))<|zV (.agg [vN (sameP (CJ prog m (yM c n) ld) (CJ prog w (yM c n) ld)),vB (Vf (CJ prog m (yM c n) ld) (CJ prog w (yM c n) ld) (yM c n) (jB m).size (jB w).size),vI (uI (fQ (fX c prog m) (Cd n)) (fQ (fX c prog w) (Cd n)) 0)]) ?_;exact dK rfl tvT rfl rfl
def acS:sameP (CJ [1048691] ⟨#[]⟩ (yM cf0 4) true) (CJ [1048691] ⟨#[]⟩ (yM cf0 4) true)=1∧Vf (CJ [1048691] ⟨#[]⟩ (yM cf0 4) true) (CJ [1048691] ⟨#[]⟩ (yM cf0 4) true) (yM cf0 4) (jB ⟨#[]⟩).size (jB ⟨#[]⟩).size=true:=by
 decide+kernel
def Yb:bI C0 9 [.agg [vI 0,vI 0,vI 0,vI 0,vI 0,vI 0,vI 0,vI 0,.sl 0 [] true,vB false,.sl 0 [] true],.sl 1 [[vU 1048691]] true,.v (.string ⟨#[]⟩),.v (.string ⟨#[]⟩),vI 4,vB true] (.tup [vN 1,vB true]):=by
 have h:=Wb cf0 [1048691] ⟨#[]⟩ ⟨#[]⟩ 4 true ⟨by simp[cf0],by simp[cf0],λx hx=>by cases hx⟩ (λx hx=>by rw[uJ.1 hx];decide) dT;rw[acS.1,acS.2]at h;exact h.args ⟨Sub.agg ⟨Sub.refl _,Sub.refl _,Sub.refl _,Sub.refl _,Sub.refl _,Sub.refl _,Sub.refl _,Sub.refl _,oM 1 false,Sub.refl _,oM 1 false,trivial⟩,Sub.clip _ _ _,Sub.refl _,Sub.refl _,Sub.refl _,Sub.refl _,trivial⟩
def Yc:bI C0 8 [] (vB true):=by
 refine dIZ func8 rfl ?_;refine rV (.agg [vI 0,vI 0,vI 0,vI 0,vI 0,vI 0,vI 0,vI 0,.sl 0 ([]) true,vB false,.sl 0 ([]) true]) rfl<|rV (.sl 1 ([[.v (.int .u32 1048691)]]) true) rfl<|zC (Yb)<|zW _ (okB (eqN _ _)) ?_;refine zN rfl (λh=>h) ?_;exact fT rfl rfl
def Yd(prog:List Nat)(m w:ByteArray)(hl:prog.length<=9223372036854775807)(hm:m.size<=9223372036854775807)(hw:w.size<=9223372036854775807):bI C0 4 [.sl 1 (prog.map dU) false,.v (.string m),.v (.string w)] (.tup [.sl 1 ((Bj prog).map dU) false,.v (.string (Bk m)),.v (.string (Bk w))]):=by
 refine dJZ func4 rfl ?_;refine zR<|zW _ (cD dU prog)<|zW _ (Bo prog.length 64) ?_;refine zM _ (yB (vY dU prog (min prog.length 64))) slT ?_;refine zV (vN m.size)<|zW _ (Bo m.size 300) ?_;refine zM (.v (.string (m.extract 0 (min m.size 300)))) rfl (by refine⟨?_,?_,?_⟩<;>(first|exact aG _|decide|(apply FG.2;exact omT))) ?_;refine zV (vN w.size)<|zW _ (Bo w.size 300) ?_;refine zM (.v (.string (w.extract 0 (min w.size 300)))) rfl (by refine⟨?_,?_,?_⟩<;>(first|exact aG _|decide|(apply FG.2;exact omT))) ?_;exact fT rfl rfl
def YA(a b:Nat)(ha:a<=4294967295)(hb:b<=4294967295):(((a/65536)*(b/65536))+((((a%65536)*(b/65536))+(((a%65536)*(b%65536))/65536))/65536)+((((a/65536)*(b%65536))+((((a%65536)*(b/65536))+(((a%65536)*(b%65536))/65536))%65536))/65536))%4294967296=a*b/4294967296:=by
 have e:a*b=4294967296*((a/65536)*(b/65536))+65536*((a/65536)*(b%65536))+65536*((a%65536)*(b/65536))+(a%65536)*(b%65536):=by
  have h1:a=65536*(a/65536)+a%65536:=oT;have h2:b=65536*(b/65536)+b%65536:=oT;generalize a/65536=x at h1⊢;generalize a%65536=y at h1⊢;generalize b/65536=z at h2⊢;generalize b%65536=t at h2⊢;subst h1 h2;simp only[Nat.mul_add,cG];have e1:65536*x*(65536*z)=4294967296*(x*z):=by rw[Nat.mul_mul_mul_comm]
  have e2:65536*x*t=65536*(x*t):=by rw[Nat.mul_assoc]
  have e3:y*(65536*z)=65536*(y*z):=by rw[Nat.mul_left_comm]
  omega
 have hle:a*b<=4294967295*4294967295:=cJ ha hb;rw[e]at hle⊢;generalize (a/65536)*(b/65536)=p at hle⊢;generalize (a/65536)*(b%65536)=q at hle⊢;generalize (a%65536)*(b/65536)=r at hle⊢;generalize (a%65536)*(b%65536)=s at hle⊢;omega
def adG(a b:Nat)(ha:a<=4294967295)(hb:b<=4294967295):bI C0 122 [.v (.int .u32 (a:Int)),.v (.int .u32 (b:Int))] (.v (.int .u32 ((a*b/4294967296:Nat):Int))):=by
 refine dIZ func122 rfl ?_;have b1:a%65536<=65535:=aI (aQ _ dT);refine nW (.v (.int .u32 ((a%65536:Nat):Int))) rfl rfl dT<|zW _ (okI (nJ b1 rfl)) ?_;have b2:a/65536<=65535:=eG ha;refine nW _ rfl (Bd (nJ b2 rfl)) dT<|zW _ (okI (nJ b2 rfl)) ?_;have b3:b%65536<=65535:=aI (aQ _ dT);refine nW (.v (.int .u32 ((b%65536:Nat):Int))) rfl rfl dT<|zW _ (okI (nJ b3 rfl)) ?_;have b4:b/65536<=65535:=eG hb;refine nW _ rfl (Bd (nJ b4 rfl)) dT<|zW _ (okI (nJ b4 rfl)) ?_;have b5:(a%65536)*(b%65536)<=4294836225:=cJ b1 b3;refine zW _ (okI (nJ b5 rfl)) ?_;have b6:(a%65536)*(b/65536)<=4294836225:=cJ b1 b4;refine zW _ (okI (nJ b6 rfl)) ?_;have b7:((a%65536)*(b%65536))/65536<=65534:=eG b5;refine nW _ rfl (Bd (nJ b7 rfl)) dT ?_;have b8:((a%65536)*(b/65536))+(((a%65536)*(b%65536))/65536)<=4294901759:=aD b6 b7;refine zW _ (okI (nJ b8 rfl)) ?_;have b9:(a/65536)*(b%65536)<=4294836225:=cJ b2 b3;refine zW _ (okI (nJ b9 rfl)) ?_;have b10:(((a%65536)*(b/65536))+(((a%65536)*(b%65536))/65536))%65536<=65535:=aI (aQ _ dT);refine nW (.v (.int .u64 (((((a%65536)*(b/65536))+(((a%65536)*(b%65536))/65536))%65536:Nat):Int))) rfl rfl dT ?_;have b11:((a/65536)*(b%65536))+((((a%65536)*(b/65536))+(((a%65536)*(b%65536))/65536))%65536)<=4294901760:=aD b9 b10;refine zW _ (okI (nJ b11 rfl)) ?_;have b12:(a/65536)*(b/65536)<=4294836225:=cJ b2 b4;refine zW _ (okI (nJ b12 rfl)) ?_;have b13:(((a%65536)*(b/65536))+(((a%65536)*(b%65536))/65536))/65536<=65534:=eG b8;refine nW _ rfl (Bd (nJ b13 rfl)) dT ?_;have b14:((a/65536)*(b/65536))+((((a%65536)*(b/65536))+(((a%65536)*(b%65536))/65536))/65536)<=4294901759:=aD b12 b13;refine zW _ (okI (nJ b14 rfl)) ?_;have b15:(((a/65536)*(b%65536))+((((a%65536)*(b/65536))+(((a%65536)*(b%65536))/65536))%65536))/65536<=65535:=eG b11;refine nW _ rfl (Bd (nJ b15 rfl)) dT ?_;have b16:(((a/65536)*(b/65536))+((((a%65536)*(b/65536))+(((a%65536)*(b%65536))/65536))/65536))+((((a/65536)*(b%65536))+((((a%65536)*(b/65536))+(((a%65536)*(b%65536))/65536))%65536))/65536)<=4294967294:=aD b14 b15;refine rW _ rfl (okI (nJ b16 rfl)) ?_;have b17:((((a/65536)*(b/65536))+((((a%65536)*(b/65536))+(((a%65536)*(b%65536))/65536))/65536))+((((a/65536)*(b%65536))+((((a%65536)*(b/65536))+(((a%65536)*(b%65536))/65536))%65536))/65536))%4294967296<=4294967295:=aI (aQ _ dT);refine nW (.v (.int .u64 ((((((a/65536)*(b/65536))+((((a%65536)*(b/65536))+(((a%65536)*(b%65536))/65536))/65536))+((((a/65536)*(b%65536))+((((a%65536)*(b/65536))+(((a%65536)*(b%65536))/65536))%65536))/65536))%4294967296:Nat):Int))) rfl rfl dT<|zW _ (okI (nJ b17 rfl)) ?_;exact qY rfl trivial rfl (af2 (λn:Nat=>AV.v (.int .u32 (n:Int))) (YA a b ha hb))
def wL(a:Nat)(ha:a<=4294967295):bI C0 123 [.v (.int .u32 (a:Int))] (.v (.int .i64 (sgn a))):=by
 refine dIZ func123 rfl ?_;refine zW (.v (.bool (decide (a>=2147483648)))) (okB (geN _ _)) ?_;refine zB rfl (λh1=>?_) (λh1=>?_)
 ·refine rW (.v (.int .i64 (a:Int))) rfl (okI (bH ha rfl))<|zV (.v (.int .i64 (IntKind.wrap .i64 ((a:Int)-4294967296)))) ?_;exact qY rfl trivial rfl (af2 (λn:Int=>AV.v (.int .i64 n)) (by have:=af0 h1;unfold sgn;rw[dZ omT];exact wrap_i64 omT omT))
 refine zW (.v (.int .i64 (a:Int))) (okI (bH ha rfl)) ?_;exact qY rfl trivial rfl (af2 (λn:Int=>AV.v (.int .i64 n)) (by have:=aF h1;unfold sgn;rw[af1 omT]))
def sS(op:Int):((op=11∨op=14∨op=16)∧sizeOf' op=1)∨((op=12∨op=15∨op=17)∧sizeOf' op=2)∨((op=13∨op=18)∧sizeOf' op=4)∨((op<11∨18<op)∧sizeOf' op=0):=by
 unfold sizeOf'
 (repeat' split)<;>first|(simp;done)|(simp;omega)
def letterOf(op:Int):Nat:=
 if op<1∨48<op then 0 else if op<=2 then 85 else if op=3 then 74 else if op=4 then 73 else if op<=10 then 66 else if op<=15 then 73 else if op<=18 then 83
 else if op<=24 then 73 else if op<=27 then 84 else if op<=45 then 82 else 87
def dN(op:Int):((op<1∨48<op)∧letterOf op=0)∨((1<=op∧op<=2)∧letterOf op=85)∨((op=3)∧letterOf op=74)∨((op=4)∧letterOf op=73)∨((5<=op∧op<=10)∧letterOf op=66)∨((11<=op∧op<=15)∧letterOf op=73)∨((16<=op∧op<=18)∧letterOf op=83)∨((19<=op∧op<=24)∧letterOf op=73)∨((25<=op∧op<=27)∧letterOf op=84)∨((28<=op∧op<=45)∧letterOf op=82)∨((46<=op∧op<=48)∧letterOf op=87):=by
 unfold letterOf
 (repeat' split)<;>first|(simp;done)|(simp;omega)
def oG(op:Int):((3<=op∧op<=10)∧kindOf op=5)∨((11<=op∧op<=15)∧kindOf op=3)∨((16<=op∧op<=18)∧kindOf op=4)∨((38<=op∧op<=41)∧kindOf op=1)∨((42<=op∧op<=45)∧kindOf op=2)∨((op=47∨op=48)∧kindOf op=6)∨((op<3∨(19<=op∧op<=37)∨op=46∨48<op)∧kindOf op=0):=by
 unfold kindOf
 (repeat' split)<;>first|(simp;done)|(simp;omega)
def Dl(i:SI):((letterOf i.op=82∨letterOf i.op=73∨letterOf i.op=84∨letterOf i.op=85∨letterOf i.op=74)∧wr i=i.rd)∨(¬(letterOf i.op=82∨letterOf i.op=73∨letterOf i.op=84∨letterOf i.op=85∨letterOf i.op=74)∧wr i=0):=by
 unfold wr;have:yW (cW i.op)=decide (letterOf i.op=82∨letterOf i.op=73∨letterOf i.op=84∨letterOf i.op=85∨letterOf i.op=74):=by
  unfold cW letterOf
  (repeat' split)<;>first|rfl|(exfalso;omega)
 rw[this];simp only[aY];split<;>omega
def abK(op:Int):bI C0 28 [vI op] (.v (.int .i64 ((sizeOf' op:Nat):Int))):=by
 refine dIZ func28 rfl ?_;refine zE2 op 11 (λh1=>?_) (λh1=>?_)
 ·refine zT (pEq.2 h1) ?_;exact fI rfl (oH (sS op))
 refine zE2 op 14 (λh2=>?_) (λh2=>?_)
 ·refine zT (pEq.2 h2) ?_;exact fI rfl (oH (sS op))
 refine zE2 op 16 (λh3=>?_) (λh3=>?_)
 ·exact fI rfl (oH (sS op))
 refine zE2 op 12 (λh4=>?_) (λh4=>?_)
 ·refine zT (pEq.2 h4) ?_;exact fI rfl (oH (sS op))
 refine zE2 op 15 (λh5=>?_) (λh5=>?_)
 ·refine zT (pEq.2 h5) ?_;exact fI rfl (oH (sS op))
 refine zE2 op 17 (λh6=>?_) (λh6=>?_)
 ·exact fI rfl (oH (sS op))
 refine zE2 op 13 (λh7=>?_) (λh7=>?_)
 ·refine zT (pEq.2 h7) ?_;exact fI rfl (oH (sS op))
 refine zE2 op 18 (λh8=>?_) (λh8=>?_)
 ·exact fI rfl (oH (sS op))
 exact fI rfl (oH (sS op))
def Vs(op : Int):bI C0 60 [vI op] (.v (.int .u8 ((letterOf op:Nat):Int))):=by
 refine dIZ func60 rfl ?_;refine zE2 op 1 (λh1=>?_) (λh1=>?_)
 ·refine zT (pEq.2 h1) ?_;exact fI rfl (oH (dN op))
 refine zE2 op 2 (λh2=>?_) (λh2=>?_)
 ·exact fI rfl (oH (dN op))
 refine zE2 op 3 (λh3=>?_) (λh3=>?_)
 ·exact fI rfl (oH (dN op))
 refine zE2 op 5 (λh4=>?_) (λh4=>?_)
 ·refine zT (pEq.2 h4) ?_;exact fI rfl (oH (dN op))
 refine zE2 op 6 (λh5=>?_) (λh5=>?_)
 ·refine zT (pEq.2 h5) ?_;exact fI rfl (oH (dN op))
 refine zE2 op 7 (λh6=>?_) (λh6=>?_)
 ·refine zT (pEq.2 h6) ?_;exact fI rfl (oH (dN op))
 refine zE2 op 8 (λh7=>?_) (λh7=>?_)
 ·refine zT (pEq.2 h7) ?_;exact fI rfl (oH (dN op))
 refine zE2 op 9 (λh8=>?_) (λh8=>?_)
 ·refine zT (pEq.2 h8) ?_;exact fI rfl (oH (dN op))
 refine zE2 op 10 (λh9=>?_) (λh9=>?_)
 ·exact fI rfl (oH (dN op))
 refine zE2 op 16 (λh10=>?_) (λh10=>?_)
 ·refine zT (pEq.2 h10) ?_;exact fI rfl (oH (dN op))
 refine zE2 op 17 (λh11=>?_) (λh11=>?_)
 ·refine zT (pEq.2 h11) ?_;exact fI rfl (oH (dN op))
 refine zE2 op 18 (λh12=>?_) (λh12=>?_)
 ·exact fI rfl (oH (dN op))
 refine zE2 op 25 (λh13=>?_) (λh13=>?_)
 ·refine zT (pEq.2 h13) ?_;exact fI rfl (oH (dN op))
 refine zE2 op 26 (λh14=>?_) (λh14=>?_)
 ·refine zT (pEq.2 h14) ?_;exact fI rfl (oH (dN op))
 refine zE2 op 27 (λh15=>?_) (λh15=>?_)
 ·exact fI rfl (oH (dN op))
 refine zE2 op 46 (λh16=>?_) (λh16=>?_)
 ·refine zT (pEq.2 h16) ?_;exact fI rfl (oH (dN op))
 refine zE2 op 47 (λh17=>?_) (λh17=>?_)
 ·refine zT (pEq.2 h17) ?_;exact fI rfl (oH (dN op))
 refine zE2 op 48 (λh18=>?_) (λh18=>?_)
 ·exact fI rfl (oH (dN op))
 refine zV (vB (op==4))<|gBS (x:=vB (decide (op>=11))) rfl id rfl<|zG rfl id<|gBS (x:=vB (decide (op<=15))) rfl id rfl<|pB (x:=vB (cE (decide (op>=11)) (decide (op<=15)) false)) (g:= !(op==4)) rfl rfl rfl rfl (λh=>h) rfl rfl (λhg hc=>by first|(rw[hg,hc];rfl)|simp_all)<|zN rfl (by simp) ?_;refine gBS (x:=vB (decide (op>=19))) rfl id rfl<|zG rfl id<|gBS (x:=vB (decide (op<=24))) rfl id rfl<|pB (x:=vB (cE (decide (op>=19)) (decide (op<=24)) false)) (g:= !(cE (op==4) true (cE (decide (op>=11)) (decide (op<=15)) false))) rfl rfl rfl rfl (λh=>h) rfl rfl (λhg hc=>by first|(rw[hg,hc];rfl)|simp_all)<|zN rfl (by simp) ?_;refine zPr ((op=4∨(op>=11∧op<=15))∨(op>=19∧op<=24)) (wP _ _ (wP _ _ pEq (uA _ _ qW qW)) (uA _ _ qW qW)) (λh19=>?_) (λh19=>?_)
 ·exact fI rfl (oH (dN op))
 refine zV (vB (decide (op>=28)))<|gBS (x:=vB (decide (op<=45))) rfl id rfl<|zN rfl (λh=>h) ?_;refine zPr (op>=28∧op<=45) (uA _ _ qW qW) (λh20=>?_) (λh20=>?_)
 ·exact fI rfl (oH (dN op))
 exact fI rfl (oH (dN op))
def SE(op:Int):bI C0 25 [vI op] (.v (.int .i64 ((kindOf op:Nat):Int))):=by
 refine dIZ func25 rfl ?_;refine zC (Vs _)<|zW _ (okB (eqN _ _)) ?_;refine zEq (letterOf op) 83 (λh1=>?_) (λh1=>?_)
 ·exact fI rfl (by have:=dN op;have:=oG op;omega)
 refine zW _ (okB (eqN _ _))<|gBS (x:=vB ((letterOf op)==74)) rfl id (okB (eqN _ _))<|zN rfl (by simp)<|gBS (x:=vB (op==4)) rfl id rfl<|zN rfl (by simp) ?_;refine zPr (((letterOf op)=66∨(letterOf op)=74)∨op=4) (wP _ _ (wP _ _ pEq pEq) pEq) (λh2=>?_) (λh2=>?_)
 ·exact fI rfl (by have:=dN op;have:=oG op;omega)
 refine zV (vB (decide (op>=11)))<|gBS (x:=vB (decide (op<=15))) rfl id rfl<|zN rfl (λh=>h) ?_;refine zPr (op>=11∧op<=15) (uA _ _ qW qW) (λh3=>?_) (λh3=>?_)
 ·exact fI rfl (by have:=dN op;have:=oG op;omega)
 refine zV (vB (decide (op>=38)))<|gBS (x:=vB (decide (op<=41))) rfl id rfl<|zN rfl (λh=>h) ?_;refine zPr (op>=38∧op<=41) (uA _ _ qW qW) (λh4=>?_) (λh4=>?_)
 ·exact fI rfl (by have:=dN op;have:=oG op;omega)
 refine zV (vB (decide (op>=42)))<|gBS (x:=vB (decide (op<=45))) rfl id rfl<|zN rfl (λh=>h) ?_;refine zPr (op>=42∧op<=45) (uA _ _ qW qW) (λh5=>?_) (λh5=>?_)
 ·exact fI rfl (by have:=dN op;have:=oG op;omega)
 refine zV (vB (op==47))<|gBS (x:=vB (op==48)) rfl id rfl<|zN rfl (by simp) ?_;refine zPr (op=47∨op=48) (wP _ _ pEq pEq) (λh6=>?_) (λh6=>?_)
 ·exact fI rfl (by have:=dN op;have:=oG op;omega)
 exact fI rfl (by have:=dN op;have:=oG op;omega)
def Yw(i:SI):bI C0 26 [siA i] (.v (.int .i64 (wr i))):=by
 refine dIZ func26 rfl ?_;refine zC (Vs _) ?_;refine zW _ (okB (eqN _ _)) ?_;refine zEq (letterOf i.op) 82 (λh1=>?_) (λh1=>?_)
 ·refine zT (pEq.2 h1) ?_;exact fI rfl (oH (Dl i))
 refine zW _ (okB (eqN _ _)) ?_;refine zEq (letterOf i.op) 73 (λh2=>?_) (λh2=>?_)
 ·refine zT (pEq.2 h2) ?_;exact fI rfl (oH (Dl i))
 refine zW _ (okB (eqN _ _)) ?_;refine zEq (letterOf i.op) 84 (λh3=>?_) (λh3=>?_)
 ·refine zT (pEq.2 h3) ?_;exact fI rfl (oH (Dl i))
 refine zW _ (okB (eqN _ _)) ?_;refine zEq (letterOf i.op) 85 (λh4=>?_) (λh4=>?_)
 ·refine zT (pEq.2 h4) ?_;exact fI rfl (oH (Dl i))
 refine zW _ (okB (eqN _ _)) ?_;refine zEq (letterOf i.op) 74 (λh5=>?_) (λh5=>?_)
 ·exact fI rfl (oH (Dl i))
 exact fI rfl (oH (Dl i))
def abV(is:Bool):bI C0 128 [vB is] (.v (.int .u32 (((if is=true then 1 else 0:Nat)):Int))):=by
 refine dIZ func128 rfl ?_;refine zPr (is=true) Iff.rfl (λh1=>?_) (λh1=>?_)
 ·exact fI rfl (by rw[af1 h1];rfl)
 exact fI rfl (by rw[dZ h1];rfl)
def abL(op:Int)(a b:Nat)(ha:a<=4294967295)(hb:b<=4294967295):bI C0 69 [vI op,vU a,vU b] (.v (.bool (tB op a b))):=by
 refine dIZ func69 rfl ?_;refine zE2 op 5 (λh1=>?_) (λh1=>?_)
 ·refine zW _ (okB (eqN _ _)) ?_;exact fB rfl (by unfold tB;(repeat' split)<;>first|rfl|(exfalso;omega)|(rw[bB];simp;done)|(rw[bB];simp;omega))
 refine zE2 op 6 (λh2=>?_) (λh2=>?_)
 ·refine zW _ (okB (eqN _ _)) ?_;exact fB rfl (by unfold tB;(repeat' split)<;>first|rfl|(exfalso;omega)|(rw[bB];simp;done)|(rw[bB];simp;omega))
 refine zE2 op 7 (λh3=>?_) (λh3=>?_)
 ·refine zC (wL a ha)<|rCi rfl (wL b hb)<|zV (vB (decide ((sgn a)<(sgn b)))) ?_;exact fB rfl (by unfold tB;(repeat' split)<;>first|rfl|(exfalso;omega)|(rw[bB];simp;done)|(rw[bB];simp;omega))
 refine zE2 op 8 (λh4=>?_) (λh4=>?_)
 ·refine zC (wL a ha)<|rCi rfl (wL b hb)<|zV (vB (decide ((sgn a)<(sgn b)))) ?_;exact fB rfl (by unfold tB;(repeat' split)<;>first|rfl|(exfalso;omega)|(rw[bB];simp;done)|(rw[bB];simp;omega))
 refine zE2 op 9 (λh5=>?_) (λh5=>?_)
 ·refine zW _ (okB (ltN _ _)) ?_;exact fB rfl (by unfold tB;(repeat' split)<;>first|rfl|(exfalso;omega)|(rw[bB];simp;done)|(rw[bB];simp;omega))
 refine zE2 op 10 (λh6=>?_) (λh6=>?_)
 all_goals
  first|(refine zW _ (okB (ltN _ _)) ?_)|skip
  exact fB rfl (by unfold tB;(repeat' split)<;>first|rfl|(exfalso;omega)|(rw[bB];simp;done)|(rw[bB];simp;omega))
def Yx(a b:Nat)(ha:a<=4294967295)(hb:b<=4294967295):sgn a*sgn b=((a*b:Nat):Int)-4294967296*((if a>=2147483648 then(b:Int)else 0)+(if b>=2147483648 then(a:Int)else 0))+(if a>=2147483648∧b>=2147483648 then 18446744073709551616 else 0):=by
 have e:((a*b:Nat):Int)=(a:Int)*b:=Int.natCast_mul a b;rw[e];unfold sgn;have h1:((a:Int)-4294967296)*b=a*b-4294967296*b:=Int.sub_mul ..;have h2:(a:Int)*(b-4294967296)=a*b-a*4294967296:=Int.mul_sub ..;have h3:((a:Int)-4294967296)*(b-4294967296)=a*b-4294967296*b-(a*4294967296-18446744073709551616):=by rw[Int.mul_sub,Int.sub_mul,Int.sub_mul];omega
 (repeat' split)<;>first|(exfalso;omega)|(simp only[h1,h2,h3];omega)|omega
def Yy(a b:Nat)(ha:a<=4294967295)(hb:b<=4294967295):sgn a*b=((a*b:Nat):Int)-4294967296*(if a>=2147483648 then(b:Int)else 0):=by
 have e:((a*b:Nat):Int)=(a:Int)*b:=Int.natCast_mul a b;rw[e];unfold sgn;have h1:((a:Int)-4294967296)*b=a*b-4294967296*b:=Int.sub_mul ..
 (repeat' split)<;>first|(exfalso;omega)|(simp only[h1];omega)|omega
def YN(a b:Nat)(ha:a<=4294967295)(hb:b<=4294967295)(op:Int)(x:Int)(h:(op=38∧x=((a*b%4294967296:Nat):Int))∨(op=39∧x=(((a*b/4294967296:Nat):Int)-(if a>=2147483648 then(b:Int)else 0)-(if b>=2147483648 then(a:Int)else 0))%4294967296)∨(op=40∧x=(((a*b/4294967296:Nat):Int)-(if a>=2147483648 then(b:Int)else 0))%4294967296)∨
  (op=41∧x=((a*b/4294967296:Nat):Int))∨(¬op=38∧ ¬op=39∧ ¬op=40∧ ¬op=41∧x=0)):x=((mulP op a b:Nat):Int):=by
 have hle:a*b<=4294967295*4294967295:=cJ ha hb;unfold mulP wordOf;rw[Yx a b ha hb,Yy a b ha hb];generalize a*b=p at *
 (repeat' split at h)<;>(repeat' split)<;>omega
def ae0(op:Int)(a b:Nat)(ha:a<=4294967295)(hb:b<=4294967295):bI C0 64 [vI op,vU a,vU b] (.v (.int .u32 ((mulP op a b:Nat):Int))):=by
 refine dIZ func64 rfl ?_;have hhi:a*b/4294967296<=4294967295:=oH (cJ ha hb);refine zC (adG a b ha hb)<|zV (vB (op==39)) ?_;refine gBS (x:=vB (op==40)) rfl id rfl<|zN rfl (by simp)<|gBS (x:=vB (decide (a>=2147483648))) rfl id (okB (geN _ _))<|zN rfl (λh=>h) ?_;refine zPr ((op=39∨op=40)∧a>=2147483648) (uA _ _ (wP _ _ pEq pEq) qW) (λh1=>?_) (λh1=>?_)
 all_goals
  first|(skip;have b1:((a*b/4294967296)+4294967296-b)%4294967296<=4294967295:=aI (aQ _ dT);refine zW _ (okI (Gn hb rfl)) ?_)|skip
  refine zV (vB (op==39))<|gBS (x:=vB (decide (b>=2147483648))) rfl id (okB (geN _ _))<|zN rfl (λh=>h) ?_;refine zPr (op=39∧b>=2147483648) (uA _ _ pEq qW) (λh2=>?_) (λh2=>?_)
  all_goals
   first
    |skip
     first|(have b2:((((a*b/4294967296)+4294967296-b)%4294967296)+4294967296-a)%4294967296<=4294967295:=aI (aQ _ dT);refine zW _ (okI (Gn ha rfl)) ?_)|(have b2:((a*b/4294967296)+4294967296-a)%4294967296<=4294967295:=aI (aQ _ dT);refine zW _ (okI (Gn ha rfl)) ?_)
    |skip
   refine zV (vB (op==39))<|gBS (x:=vB (op==40)) rfl id rfl<|zN rfl (by simp)<|gBS (x:=vB (op==41)) rfl id rfl<|zN rfl (by simp) ?_
   first
    |refine zPr ((op=39∨op=40)∨op=41) (wP _ _ (wP _ _ pEq pEq) pEq) (λh3=>?_) (λh3=>absurd h3 omT);exact fI rfl (YN a b ha hb op _ omT)
    |refine zPr ((op=39∨op=40)∨op=41) (wP _ _ (wP _ _ pEq pEq) pEq) (λh3=>?_) (λh3=>?_)
     ·exact fI rfl (YN a b ha hb op _ omT)
     ·refine zE2 op 38 (λh8=>?_) (λh8=>?_)
      ·refine zW _ (okI (nJ ha rfl))<|rW _ rfl (okI (nJ hb rfl)) ?_;have b4:a*b<=18446744065119617025:=cJ ha hb;refine rW _ rfl (okI (nJ b4 rfl)) ?_;have b5:(a*b)%4294967296<=4294967295:=aI (aQ _ dT);refine nW (.v (.int .u64 (((a*b)%4294967296:Nat):Int))) rfl rfl dT<|zW _ (okI (nJ b5 rfl)) ?_;exact fI rfl (YN a b ha hb op _ omT)
      ·exact fI rfl (YN a b ha hb op _ omT)
def adB(i:SI)(pc a b:Nat)(hi:i.agR<=4294967295)(hpc:pc<=4294967295)(ha:a<=4294967295)(hb:b<=4294967295):bI C0 35 [siA i,.v (.int .u32 (pc:Int)),.v (.int .u32 (a:Int)),.v (.int .u32 (b:Int))] (.v (.int .u32 ((qP i.op i.agR pc a b:Nat):Int))):=by
 refine dIZ func35 rfl ?_;refine zE2 i.op 4 (λh1=>?_) (λh1=>?_)
 ·skip;have b1:(a+i.agR)%4294967296<=4294967295:=aI (aQ _ dT);refine zV (vU ((a+i.agR)%4294967296)) ?_;have b2:((a+i.agR)%4294967296)%2<=1:=aI (aQ _ dT);refine nW (vU (((a+i.agR)%4294967296)%2)) rfl rfl dT ?_;have b3:(((a+i.agR)%4294967296)+4294967296-(((a+i.agR)%4294967296)%2))%4294967296<=4294967295:=aI (aQ _ dT);refine zW _ (okI (Gn b2 rfl)) ?_;exact fI rfl (by have t4:i.op=4->tB i.op a b=false:=(λe=>by rw[e];rfl);unfold qP;(repeat' split)<;>first|omega|(simp_all;done)|(simp_all;omega))
 refine zV (vB (i.op==3))<|zG rfl id<|jQ (args:=[vI i.op,vU a,vU b]) (x:=vB (tB i.op a b)) (g:= !(i.op==3)) rfl rfl rfl rfl hsT rfl rfl rfl (.inl rfl) rfl (λhg=>abL i.op a b ha hb)<|zN rfl (by simp) ?_;refine zPr (i.op=3∨(tB i.op a b)=true) (wP _ _ pEq Iff.rfl) (λh2=>?_) (λh2=>?_)
 all_goals
  skip
  first|(have b4:(pc+i.agR)%4294967296<=4294967295:=aI (aQ _ dT);refine zV (vU ((pc+i.agR)%4294967296)) ?_)|(have b4:(pc+4)%4294967296<=4294967295:=aI (aQ _ dT);refine zV (vU ((pc+4)%4294967296)) ?_)
  exact fI rfl (by have t4:i.op=4->tB i.op a b=false:=(λe=>by rw[e];rfl);unfold qP;(repeat' split)<;>first|omega|(simp_all;done)|(simp_all;omega))
def Ek(op:Int)(x:Nat)(hx:x<=4294967295):((sizeP op x:Nat):Int)=if op=42∨op=44 then(if sgn x<0 then-sgn x else sgn x)else(x:Int):=by
 unfold sizeP sgn
 (repeat' split)<;>omega
def FC(x:Nat)(hx:x<=4294967295): -2147483648<=sgn x∧sgn x<=2147483647:=by unfold sgn;split<;>omega
def Wg(op:Int)(a:Nat)(ha:a<=4294967295):bI C0 70 [vI op,vU a] (.v (.int .i64 ((sizeP op a:Nat):Int))):=by
 refine dIZ func70 rfl ?_;refine zW (vI (a:Int)) (okI (wrap_i64 omT omT))<|zV (vB (op==42)) ?_;refine gBS (x:=vB (op==44)) rfl id rfl<|zN rfl (by simp) ?_;refine zPr (op=42∨op=44) (wP _ _ pEq pEq) (λh1=>?_) (λh1=>?_)
 ·refine zC (wL a ha)<|zV (vB (decide ((sgn a)<0))) ?_;refine zPr ((sgn a)<0) qW (λh2=>?_) (λh2=>?_)
  ·refine zW (vI (-(sgn a))) (okI (by rw[Int.zero_sub];exact wrap_i64 (oH (FC a ha)) (oH (FC a ha)))) ?_;exact fI rfl (by rw[Ek op a ha];(repeat' split)<;>omega)
  exact fI rfl (by rw[Ek op a ha];(repeat' split)<;>omega)
 refine zV (vB (decide ((a:Int)<0))) ?_;refine zPr ((a:Int)<0) qW (λh3=>?_) (λh3=>?_)
 ·refine zW (vI (-(a:Int))) (okI (by rw[Int.zero_sub];exact wrap_i64 (oH (FC a ha)) (oH (FC a ha)))) ?_;exact fI rfl (by rw[Ek op a ha];(repeat' split)<;>omega)
 exact fI rfl (by rw[Ek op a ha];(repeat' split)<;>omega)
def SF(n:Int)(h: ¬(Int.tmod n 4294967296<0)):IntKind.wrap .u32 (Int.tmod n 4294967296)=((wordOf n:Nat):Int):=by
 rw[tP];simp only[IntKind.wrap,IntKind.signed,IntKind.bits];have:=Int.mul_tdiv_add_tmod n 4294967296;simp;omega
def Po(n:Int)(h:Int.tmod n 4294967296<0):IntKind.wrap .u32 (Int.tmod n 4294967296+4294967296)=((wordOf n:Nat):Int):=by
 rw[tP];simp only[IntKind.wrap,IntKind.signed,IntKind.bits];have:=Int.mul_tdiv_add_tmod n 4294967296;simp;omega
def Vt(n:Int):bI C0 124 [vI n] (.v (.int .u32 ((wordOf n:Nat):Int))):=by
 refine dIZ func124 rfl ?_;refine zM (vI (Int.tmod n 4294967296)) rfl dT<|zV (vB (decide ((Int.tmod n 4294967296)<0))) ?_;refine zPr ((Int.tmod n 4294967296)<0) qW (λh1=>?_) (λh1=>?_)
 ·refine zW _ (okI (wrap_i64 (by have:=Int.tmod_lt_of_pos n (dT:(0:Int)<4294967296);have:=Int.lt_tmod_of_pos n (dT:(0:Int)<4294967296);omega) (by have:=Int.tmod_lt_of_pos n (dT:(0:Int)<4294967296);omega)))<|zW _ (okI (Po n h1)) ?_;exact fT rfl rfl
 refine zW _ (okI (SF n h1)) ?_;exact fT rfl rfl
def ad4(a b:Nat)(_ha:a<=4294967295)(hb:b<=4294967295)(h: ¬b=0):sgn b≠0:=by unfold sgn;split<;>omega
def ad5(a b:Nat)(_ha:a<=4294967295)(_hb:b<=4294967295)(h: ¬b=0):(b:Int)≠0:=oT
def SG(x y:Int)(h1: -4294967295<=x)(h2:x<=4294967295): -4294967295<=Int.tdiv x y∧Int.tdiv x y<=4294967295:=by
 have:=Int.natAbs_tdiv_le_natAbs x y;omega
def ae1(a b:Nat)(ha:a<=4294967295)(_hb:b<=4294967295):IntKind.wrap .i64 (Int.tdiv (sgn a) (sgn b))=Int.tdiv (sgn a) (sgn b):=by
 have:=FC a ha;have:=SG (sgn a) (sgn b) omT omT;exact wrap_i64 omT omT
def ae2(a b:Nat)(ha:a<=4294967295)(_hb:b<=4294967295):IntKind.wrap .i64 (Int.tdiv (a:Int) (b:Int))=Int.tdiv (a:Int) (b:Int):=by
 have:=SG (a:Int) (b:Int) omT omT;exact wrap_i64 omT omT
def Yz(a b:Nat)(ha:a<=4294967295)(hb:b<=4294967295):2147483648<=a^^^b↔ ¬(2147483648<=a↔2147483648<=b):=by
 have tb:∀x:Nat,x<=4294967295->(2147483648<=x↔x.testBit 31=true):=by
  intro x hx;rw[Nat.testBit_eq_decide_div_mod_eq];simp;omega
 have hx:a^^^b<2 ^ 32:=iM (n:=32) omT omT;rw[tb a ha,tb b hb,tb (a^^^b) omT,Nat.testBit_xor];cases a.testBit 31<;>cases b.testBit 31<;>simp
def adC(op:Int)(a b:Nat)(ha:a<=4294967295)(hb:b<=4294967295)(h0: ¬b=0)(ho:op=42):wordOf (Int.tdiv (sgn a) (sgn b))=divP op a b:=by
 subst ho;unfold divP zI sizeP;simp only[h0,eE,true_or,fD,true_and,Yz a b ha hb];unfold wordOf sgn;have key:∀x y:Nat,(x:Int).tdiv (y:Int)=((x/y:Nat):Int):=λx y=>rfl;have n1:∀x:Nat,2147483648<=x->x<=4294967295->(x:Int)-4294967296= -((4294967296-x:Nat):Int):=λx h1 h2=>by omega
 by_cases h1:2147483648<=a<;>by_cases h2:2147483648<=b
 ·rw[dZ omT,dZ omT,n1 a h1 ha,n1 b h2 hb,Int.neg_tdiv,Int.tdiv_neg,Int.neg_neg,key];have:=cO (4294967296-a) (4294967296-b);simp only[h1,h2,iff_self,not_true,eE,fD];generalize (4294967296-a)/(4294967296-b)=q at *;omega
 ·rw[dZ omT,af1 omT,n1 a h1 ha,Int.neg_tdiv,key];have:=cO (4294967296-a) b;simp only[h1,h2,iff_false,not_true,not_false_iff,eE,fD];omega
 ·rw[af1 omT,dZ omT,n1 b h2 hb,Int.tdiv_neg,key];have:=cO a (4294967296-b);simp only[h1,h2,pI,not_true,not_false_iff,eE,fD];omega
 rw[af1 omT,af1 omT,key];have:=cO a b;simp only[h1,h2,iff_self,not_true,eE];generalize a/b=q at *;omega
def adD(op:Int)(a b:Nat)(ha:a<=4294967295)(_hb:b<=4294967295)(h0: ¬b=0)(ho:op=43):wordOf (Int.tdiv (a:Int) (b:Int))=divP op a b:=by
 subst ho;have d:divP 43 a b=a/b:=by unfold divP zI sizeP;simp[h0]
 rw[d];unfold wordOf;have e:(a:Int).tdiv (b:Int)=((a/b:Nat):Int):=rfl;rw[e];have:=cO a b;generalize a/b=q at *;omega
def adE(op:Int)(a b:Nat)(ha:a<=4294967295)(hb:b<=4294967295)(h0: ¬b=0)(ho:op=44):wordOf (Int.tmod (sgn a) (sgn b))=divP op a b:=by
 subst ho;unfold divP zI sizeP;simp only[h0,eE,or_true,true_or,fD,true_and,(dT:¬((44:Int)=42∨(44:Int)=43))];unfold wordOf sgn;have key:∀x y:Nat,(x:Int).tmod (y:Int)=((x%y:Nat):Int):=λx y=>rfl;have n1:∀x:Nat,2147483648<=x->x<=4294967295->(x:Int)-4294967296= -((4294967296-x:Nat):Int):=λx h1 h2=>by omega
 by_cases h1:2147483648<=a<;>by_cases h2:2147483648<=b
 ·rw[dZ omT,dZ omT,n1 a h1 ha,n1 b h2 hb,Int.neg_tmod,Int.tmod_neg,key];have:=gR (4294967296-a) (4294967296-b);simp only[h1,h2,fD];omega
 ·rw[dZ omT,af1 omT,n1 a h1 ha,Int.neg_tmod,key];have:=gR (4294967296-a) b;simp only[h1,h2,eE,fD];omega
 ·rw[af1 omT,dZ omT,n1 b h2 hb,Int.tmod_neg,key];have:=gR a (4294967296-b);simp only[h1,h2,eE,fD];omega
 rw[af1 omT,af1 omT,key];have:=gR a b;simp only[h1,h2,eE];omega
def adF(op:Int)(a b:Nat)(ha:a<=4294967295)(_hb:b<=4294967295)(h0: ¬b=0)(ho:op=45):wordOf (Int.tmod (a:Int) (b:Int))=divP op a b:=by
 subst ho;have d:divP 45 a b=a%b:=by unfold divP zI sizeP;simp[h0]
 rw[d];unfold wordOf;have e:(a:Int).tmod (b:Int)=((a%b:Nat):Int):=rfl;rw[e];have:=gR a b;generalize a%b=q at *;omega
def ae3(op:Int)(a b:Nat)(ha:a<=4294967295)(hb:b<=4294967295):bI C0 65 [vI op,vU a,vU b] (.v (.int .u32 ((divP op a b:Nat):Int))):=by
 refine dIZ func65 rfl ?_;refine zV (vB (decide (op<42)))<|gBS (x:=vB (decide (op>45))) rfl id rfl<|zN rfl (by simp) ?_;refine zPr (op<42∨op>45) (wP _ _ qW qW) (λh1=>?_) (λh1=>?_)
 ·exact fI rfl (by unfold divP;(repeat' split)<;>omega)
 refine zV (vB (op==42))<|gBS (x:=vB (op==43)) rfl id rfl<|zN rfl (by simp)<|zW _ (okB (eqN _ _)) ?_;refine zEq b 0 (λh2=>?_) (λh2=>?_)
 ·skip
  refine zPr (op=42∨op=43) (wP _ _ pEq pEq) (λh3=>?_) (λh3=>?_)
  ·exact fI rfl (by unfold divP;(repeat' split)<;>omega)
  exact fI rfl (by unfold divP;(repeat' split)<;>omega)
 refine zW _ (okI (wrap_i64 omT omT))<|zW _ (okI (wrap_i64 omT omT)) ?_;refine zV (vB (op==42))<|gBS (x:=vB (op==44)) rfl id rfl<|zN rfl (by simp) ?_;refine zPr (op=42∨op=44) (wP _ _ pEq pEq) (λh4=>?_) (λh4=>?_)
 ·refine zC (wL a ha)<|zC (wL b hb) ?_;refine zPr (op=42∨op=43) (wP _ _ pEq pEq) (λh5=>?_) (λh5=>?_)
  ·refine nW _ rfl (Bd (ae1 a b ha hb)) (ad4 a b ha hb h2)<|zC (Vt _) ?_;exact fN rfl (adC op a b ha hb omT omT)
  refine nW (vI (Int.tmod (sgn a) (sgn b))) rfl rfl (ad4 a b ha hb h2)<|zC (Vt _) ?_;exact fN rfl (adE op a b ha hb omT omT)
 skip
 refine zPr (op=42∨op=43) (wP _ _ pEq pEq) (λh6=>?_) (λh6=>?_)
 ·refine nW _ rfl (Bd (ae2 a b ha hb)) (ad5 a b ha hb h2)<|zC (Vt _) ?_;exact fN rfl (adD op a b ha hb omT omT)
 refine nW (vI (Int.tmod (a:Int) (b:Int))) rfl rfl (ad5 a b ha hb h2)<|zC (Vt _) ?_;exact fN rfl (adF op a b ha hb omT omT)
def ofB:List Nat->Nat
 |[]=>0
 |b::l=>(2*ofB l+b)%4294967296
theorem Jq:∀(l:List Nat),(∀b∈l,b<2)->l.length<=32->ofB l=ofN l
 |[],_,_=>rfl
 |b::l,hb,hl=>by
  have hl':l.length<=31:=by simp at hl;omega
  have ih:=Jq l (λx hx=>hb x (bY _ hx)) oT;have h1:=SM l (λx hx=>hb x (bY _ hx));have h2:=hb b bT;have h3:2 ^ l.length<=2 ^ 31:=bU dT hl';show(2*ofB l+b)%4294967296=2*ofN l+b;rw[ih];omega
def upto{α:Type}(g:Nat->α)(k:Nat):List α:=(List.range k).map g
def afQ{α:Type}(g:Nat->α)(k:Nat):(upto g k).length=k:=by simp[upto]
def SH{α:Type}(g:Nat->α)(k:Nat):upto g (k+1)=upto g k++[g k]:=by simp[upto,gZ]
def Vu(g:Nat->Nat)(k j:Nat)(h:j<k):(upto g k).getD j 0=g j:=by simp[upto,h]
def NZ{α:Type}{g:Nat->α}{k:Nat}{p:α->Prop}(h:∀i,i<k->p (g i)):∀b∈upto g k,p b:=by
 intro b hb;simp only[upto,pG,lI]at hb;obtain⟨i,hi,rfl⟩:=hb;exact h i hi
def tbD(a i:Nat):a.testBit i=decide (a/2 ^ i%2=1):=Nat.testBit_eq_decide_div_mod_eq
def abM{a i:Nat}(ha:a<4294967296)(hi:32<=i):a.testBit i=false:=
 Nat.testBit_lt_two_pow (af3 ha (bU (n:=2) dT hi))
def Bc(g:Nat->Nat)(x:Nat)(hg:∀i,i<32->g i<2)(hx:x<4294967296)(h:∀i,i<32->(g i=1↔x.testBit i=true)):ofB (upto g 32)=x:=by
 have hb:∀b∈upto g 32,b<2:=NZ hg;rw[Jq _ hb (by rw[afQ];exact aC _)];refine Nat.eq_of_testBit_eq λj=>?_;rw[Oc _ hb];by_cases hj:j<32
 ·rw[Vu g 32 j hj];have:=h j hj;cases hx:x.testBit j<;>simp_all
 rw[aR,bE (by rw[afQ];omega),abM hx oT];rfl
def uP(rule:Int)(a b i:Nat):Nat:=if((rule=1∧a/2 ^ i%2+b/2 ^ i%2=2)∨(rule=2∧a/2 ^ i%2+b/2 ^ i%2>0))∨(rule=3∧a/2 ^ i%2+b/2 ^ i%2=1)then 1 else 0
def El(rule:Int)(a b i:Nat):uP rule a b i<2:=by unfold uP;split<;>omega
def Oa(a b:Nat)(ha:a<=4294967295)(_hb:b<=4294967295):ofB (upto (uP 1 a b) 32)=a&&&b:=by
 refine Bc _ _ (λi _=>El ..) (bL kE oT) λi _=>?_;rw[Nat.testBit_and,tbD,tbD];unfold uP;rcases al_Nat_mod_two_eq_zero_or_one (a/2 ^ i)with h1|h1<;>rcases al_Nat_mod_two_eq_zero_or_one (b/2 ^ i)with h2|h2<;>simp[h1,h2]
def SJ(a b:Nat)(ha:a<=4294967295)(hb:b<=4294967295):ofB (upto (uP 2 a b) 32)=a ||| b:=by
 refine Bc _ _ (λi _=>El ..) (kQ (n:=32) oT oT) λi _=>?_;rw[Nat.testBit_or,tbD,tbD];unfold uP;rcases al_Nat_mod_two_eq_zero_or_one (a/2 ^ i)with h1|h1<;>rcases al_Nat_mod_two_eq_zero_or_one (b/2 ^ i)with h2|h2<;>simp[h1,h2]
def Ob(a b:Nat)(ha:a<=4294967295)(hb:b<=4294967295):ofB (upto (uP 3 a b) 32)=a^^^b:=by
 refine Bc _ _ (λi _=>El ..) (iM (n:=32) oT oT) λi _=>?_;rw[Nat.testBit_xor,tbD,tbD];unfold uP;rcases al_Nat_mod_two_eq_zero_or_one (a/2 ^ i)with h1|h1<;>rcases al_Nat_mod_two_eq_zero_or_one (b/2 ^ i)with h2|h2<;>simp[h1,h2]
def af9(a:Nat)(n:Int)(fill i:Nat):Nat:=if((i:Int)-n<0∨(i:Int)-n>31)then fill else a/2 ^ ((i:Int)-n).toNat%2
def CF(a:Nat)(n:Int){fill:Nat}(hf:fill<2)(i:Nat):af9 a n fill i<2:=by unfold af9;split<;>omega
def La(a s:Nat)(_ha:a<=4294967295)(hs:s<32):ofB (upto (af9 a (s:Int) 0) 32)=a*2 ^ s%4294967296:=by
 refine Bc _ _ (λi _=>CF _ _ dT _) (aQ _ dT) λi hi=>?_;rw[show(4294967296:Nat)=2 ^ 32 from rfl,eB,fK];unfold af9;by_cases h:i<s
 ·rw[af1 (.inl oT)];simp;omega
 rw[dZ oT,(oT:((i:Int)-(s:Int)).toNat=i-s),tbD];simp;omega
def FD(a s:Nat)(ha:a<=4294967295)(_hs:s<32):ofB (upto (af9 a (-(s:Int)) 0) 32)=a/2 ^ s:=by
 refine Bc _ _ (λi _=>CF _ _ dT _) (bL (cO _ _) oT) λi hi=>?_;rw[Nat.testBit_div_two_pow];unfold af9;by_cases h:i+s>31
 ·rw[af1 (.inr oT),abM oT oT];simp
 rw[dZ oT,(oT:((i:Int) - -(s:Int)).toNat=i+s),tbD];simp
def YB(a s:Nat)(ha:a<=4294967295)(hs:s<32):wordOf (sgn a/2 ^ s)=if a<2147483648 then a/2 ^ s else 2 ^ (32-s)*(2 ^ s-1)+a/2 ^ s:=by
 have hp:(2:Nat) ^ 32=2 ^ (32-s)*2 ^ s:=by rw[<-Nat.pow_add];congr 1;omega
 have hd:a/2 ^ s<2 ^ (32-s):=fO (by rw[fR, <-hp];omega);have hK:2 ^ (32-s)<=2 ^ 32:=bU dT oT;have hpos:0<2 ^ s:=eI s;unfold wordOf sgn;have hc:((2:Int) ^ s)=((2 ^ s:Nat):Int):=by simp
 split
 ·rw[hc];have e:((a:Int)/((2 ^ s:Nat):Int))=((a/2 ^ s:Nat):Int):=rfl;have:=cO a (2 ^ s);rw[e];generalize a/2 ^ s=q at *;omega
 have e:((a:Int)-4294967296)/2 ^ s=((a/2 ^ s:Nat):Int)-((2 ^ (32-s):Nat):Int):=by
  have h1:(a:Int)-4294967296=(a:Int)+(-((2 ^ (32-s):Nat):Int))*((2 ^ s:Nat):Int):=by
   have:((2 ^ (32-s):Nat):Int)*((2 ^ s:Nat):Int)=4294967296:=by rw[<-Int.natCast_mul, <-hp];rfl
   rw[Int.neg_mul,this];omega
  rw[hc,h1,Int.add_mul_ediv_right _ _ oT];have e:((a:Int)/((2 ^ s:Nat):Int))=((a/2 ^ s:Nat):Int):=rfl;rw[e];omega
 rw[e,Nat.mul_sub, <-hp,iD];generalize a/2 ^ s=q at *;generalize 2 ^ (32-s)=K at *;omega
def Lb(a s:Nat)(ha:a<=4294967295)(hs:s<32):ofB (upto (af9 a (-(s:Int)) (a/2 ^ 31%2)) 32)=wordOf (sgn a/2 ^ s):=by
 have hp:(2:Nat) ^ 32=2 ^ (32-s)*2 ^ s:=by rw[<-Nat.pow_add];congr 1;omega
 have hd:a/2 ^ s<2 ^ (32-s):=fO (by rw[fR, <-hp];omega);rw[YB a s ha hs];by_cases h2:a<2147483648
 ·rw[af1 h2,(oT:a/2 ^ 31%2=0)];exact FD a s ha hs
 rw[dZ h2,(oT:a/2 ^ 31%2=1)];have hpos:0<2 ^ s:=eI s;refine Bc _ _ (λi _=>CF _ _ dT _) (by rw[Nat.mul_sub, <-hp];have:2 ^ (32-s)<=2 ^ 32:=bU dT oT;omega) λi hi=>?_;rw[Nat.testBit_two_pow_mul_add _ hd];unfold af9;by_cases h:i+s>31
 ·rw[af1 (.inr oT),dZ oT,dX];simp;omega
 rw[dZ oT,af1 oT,Nat.testBit_div_two_pow,(oT:((i:Int) - -(s:Int)).toNat=i+s),tbD];simp
theorem Lc:∀(l:List Int) (b:ByteArray),(l.foldl (λr m=>r.push (UInt8.ofNat m.toNat)) b).data.toList=b.data.toList++l.map λm=>UInt8.ofNat m.toNat
 |[],b=>by simp
 |m::l,b=>by
  rw[mK,Lc l];show(b.data.push (UInt8.ofNat m.toNat)).toList++_=_;simp
def xM(x i:Nat):UInt8:=UInt8.ofNat (field x (8*i) 8)
def YC(j:Nat):256 ^ j=2 ^ (8*j):=by rw[Nat.pow_mul]
def SK(x n:Nat):(⟨(upto (xM x) n).toArray⟩:ByteArray)=oF x n:=by
 have h:(oF x n).data.toList=upto (xM x) n:=by
  unfold oF;rw[Lc];simp only[ByteArray.empty,upto,List.map_map];show []++_=_;rw[iA];refine iB λj _=>?_;simp only[Function.comp,xM,field,Int.toNat_natCast];rw[YC]
 rw[<-h]
theorem FE(b:UInt8)(l:List UInt8):∀k,joinTo (b::l) (k+1)=b.toNat+256*joinTo l k
 |0=>by simp[joinTo]
 |k+1=>by
  show joinTo (b::l) (k+1)+256 ^ (k+1)*((b::l).getD (k+1) 0).toNat=b.toNat+256*(joinTo l k+256 ^ k*(l.getD k 0).toNat);rw[FE b l k,Nat.mul_add,show(b::l).getD (k+1) 0=l.getD k 0 from rfl,Nat.pow_succ, <-Nat.mul_assoc,fR 256 (256 ^ k)];omega
def SL(l:List UInt8)(k:Nat)(hk:k<l.length):joinTo (l.drop (l.length-(k+1))) (k+1)=256*joinTo (l.drop (l.length-k)) k+(l.getD (l.length-1-k) 0).toNat:=by
 have h1:l.length-(k+1)<l.length:=oT;rw[bF h1,FE,(oT:l.length-(k+1)+1=l.length-k),(oT:l.length-1-k=l.length-(k+1)),aR,aA h1];simp;omega
def uU(m b:ByteArray)(agZ i:Nat):UInt8:=if((i:Int)-(agZ:Int)>=0∧(i:Int)-(agZ:Int)<(b.size:Int))then b.data.toList.getD ((i:Int)-(agZ:Int)).toNat 0 else m.data.toList.getD i 0
def Ld(m b:ByteArray)(agZ:Nat)(h:agZ+b.size<=m.size):(⟨(upto (uU m b agZ) m.size).toArray⟩:ByteArray)=DD m agZ b:=by
 unfold DD;congr 2;have hm:m.data.toList.length=m.size:=cV;have hb:b.data.toList.length=b.size:=cV;refine dD λi=>?_;unfold upto;rw[aX];by_cases hi:i<m.size
 ·rw[eZ hi];simp only[dF,uU];by_cases h1:i<agZ
  ·rw[dZ oT,eD,cF (by rw[aM];omega),List.getElem?_take_of_lt h1,aR,aA oT];rfl
  by_cases h2:i<agZ+b.size
  ·rw[af1 oT,eD,bM (by rw[aM];omega),aM,cF oT,aR,(oT:((i:Int)-(agZ:Int)).toNat=i-min agZ m.data.toList.length),aA oT];rfl
  rw[dZ oT,bM (by rw[aU,aM];omega),aU,aM,cL,(oT:agZ+b.size+(i-(min agZ m.data.toList.length+b.data.toList.length))=i),aR,aA oT];rfl
 rw[bE (sU hi),bE (by simp only[aU,aM,bD];omega)];rfl
abbrev Sx(b:UInt8):List AV:=[.v (.int .u8 (b.toNat:Int))]
section
variable {α:Type}{g:Nat->α}{row:α->List AV}{k:Nat}
def gT:List.take (k+1) (List.drop 0 ((upto g (k+1)).map row))=(upto g (k+1)).map row:=by
 rw[bS,aN (by rw[aH,afQ];exact aC _)]
def gC{r:List AV}(h:k+2<=1000000):(List.take (k+1) (List.drop 0 ((upto g (k+1)).map row))).length+([r]:List (List AV)).length<=jH:=by
 rw[gT,aH,afQ];exact h
def gF:0+(k+1)=((upto g (k+1)).map row).length:=by rw[aH,afQ];omega
def gL{r:List AV}:(List.take (k+1) (List.drop 0 ((upto g (k+1)).map row))).length+([r]:List (List AV)).length=k+1+1:=by rw[gT,aH,afQ];rfl
def Jp{x:α}(h:x=g 0):[row x]=(upto g (0+1)).map row:=by rw[h];rfl
def Gh{x:α}(h:x=g (k+1)):List.take (k+1) (List.drop 0 ((upto g (k+1)).map row))++[row x]=(upto g (k+1+1)).map row:=by
 rw[gT,h,SH g (k+1),dH];rfl
end
def okN{x y:Int}{k:IntKind}(h:x=y):Res.ok (.v (.int k x))=.ok (.v (.int k y)):=by rw[h]
def Pu(a i:Nat)(ha:a<=4294967295)(hi:i<=1000):bI C0 127 [vU a,vN i] (.v (.int .u32 ((a/2 ^ i%2:Nat):Int))):=by
 refine dIZ func127 rfl ?_;refine rW _ rfl (okI (nJ hi rfl)) ?_;have b1:a/2 ^ i<=4294967295:=aL (cO _ _) ha;refine nW _ rfl (Bd (YP i ha rfl)) (aG _) ?_;have b2:(a/2 ^ i)%2<=1:=aI (aQ _ dT);refine zM (vU ((a/2 ^ i)%2)) rfl dT ?_;exact fT rfl rfl
def Sy(l:List Nat)(k:Nat)(hk:k<l.length):l.drop (l.length-(k+1))=l.getD (l.length-1-k) 0::l.drop (l.length-k):=by
 have h1:l.length-(k+1)<l.length:=oT;rw[bF h1,(oT:l.length-(k+1)+1=l.length-k),(oT:l.length-1-k=l.length-(k+1)),aR,aA h1];rfl
def Yv{l:List Nat}{B:Nat}(h:∀n∈l,n<=B)(i:Nat):l.getD i 0<=B:=by
 rw[aR];rcases al_Nat_lt_or_ge i l.length with k|k
 ·rw[aA k];exact h _ (jO k)
 rw[bE k];exact aE _
def rOf(l:List Nat)(hb:∀n∈l,n<=4294967295)(hl:l.length<=1000000):bI C0 130 [.sl 1 (l.map dU) false] (.v (.int .u32 ((ofB l:Nat):Int))):=by
 refine dIZ func130 rfl ?_;refine rV (vI ((l.map dU).length:Int)) rfl<|zV (vI (IntKind.wrap .i64 (((l.map dU).length:Int)-1))) ?_;refine zLo (κ:=Nat) (λk=>⟨slotsF [(0,.sl 1 (l.map dU) false),(3,vU (ofB (l.drop (l.length-k)))),(4,vI ((l.length:Int)-1-(k:Int)))],heapF [],6⟩) (λk=>k<=l.length) (λk=>l.length-k) 0 (λs=>s) (wOL (λs=>s) ⟨⟨rfl,rfl⟩,⟨by show AV.v (.int .u32 0)=.v (.int .u32 ((ofB (l.drop (l.length-0)):Nat):Int));simp[ofB],rfl⟩,⟨by show AV.v (.int .i64 (IntKind.wrap .i64 (((l.map dU).length:Int)-1)))=.v (.int .i64 ((l.length:Int)-1-((0:Nat):Int)));rw[aH,wrap_i64 omT omT];simp,rfl⟩,trivial⟩ trivial rfl) (aE _) ?_;intro k hk;have hg:l.getD (l.length-1-k) 0<=4294967295:=Yv hb _;refine zV (vB (decide (((l.length:Int)-1-(k:Int))>=0))) ?_;refine zPr (((l.length:Int)-1-(k:Int))>=0) qW (λh1=>?_) (λh1=>?_)
 ·skip
  have b1:(2*(ofB (l.drop (l.length-k))))%4294967296<=4294967295:=aI (aQ _ dT);refine zV (vU ((2*(ofB (l.drop (l.length-k))))%4294967296)) ?_;refine FO (dU (l.getD (l.length-1-k) 0)) (x:=.dp 1 0 (dU (l.getD (l.length-1-k) 0))) rfl rfl rfl (⟨oT,by rw[(oT:((l.length:Int)-1-(k:Int)).toNat=l.length-1-k),aX,aA omT,aR,aA omT];rfl⟩) rfl ?_;have b2:(((2*(ofB (l.drop (l.length-k))))%4294967296)+(l.getD (l.length-1-k) 0))%4294967296<=4294967295:=aI (aQ _ dT);refine qR 0 rfl<|zV (vU ((((2*(ofB (l.drop (l.length-k))))%4294967296)+(l.getD (l.length-1-k) 0))%4294967296))<|zV (vI (IntKind.wrap .i64 (((l.length:Int)-1-(k:Int))-1))) ?_;refine⟨k+1,λs=>s,wOL (λs=>s) ⟨⟨rfl,rfl⟩,⟨acJ (by rw[Sy l k omT];simp only[ofB];omega),rfl⟩,⟨by show AV.v (.int .i64 (IntKind.wrap .i64 ((l.length:Int)-1-(k:Int)-1)))=.v (.int .i64 ((l.length:Int)-1-((k+1:Nat):Int)));rw[wrap_i64 omT omT];congr 2;omega,rfl⟩,trivial⟩ trivial rfl,omT,omT⟩
 exact fN rfl (by rw[(oT:l.length-k=0)];simp)
def abG(a:Nat)(z:Int)(ha:a<=4294967295)(h0:0<=z)(h1:z<=31):bI C0 127 [.v (.int .u32 (a:Int)),.v (.int .i64 z)] (.v (.int .u32 ((a/2 ^ z.toNat%2:Nat):Int))):=by
 have e:((z.toNat:Nat):Int)=z:=lU h0;have:bI C0 127 [.v (.int .u32 (a:Int)),.v (.int .i64 ((z.toNat:Nat):Int))] (.v (.int .u32 ((a/2 ^ z.toNat%2:Nat):Int))):=Pu a z.toNat ha omT
 rwa [e]at this
def ac9(n:Nat){g:Nat->Nat}{k:Nat}(hg:∀i,g i<=4294967295)(hk:k+1=n∧n<=32):bI C0 130 [.sl 1 (List.take (k+1) (List.drop 0 ((upto g (k+1)).map dU))) false] (.v (.int .u32 ((ofB (upto g n):Nat):Int))):=by
 rw[gT,hk.1];exact rOf _ (NZ λi _=>hg i) (by rw[afQ];omega)
def ad3{g:Nat->Nat}{k:Nat}(hg:∀i,g i<=4294967295)(hk:k+1=32):bI C0 130 [.sl 1 (List.take (k+1) (List.drop 0 ((upto g (k+1)).map dU))) false] (.v (.int .u32 ((ofB (upto g 32):Nat):Int))):=ac9 32 hg ⟨hk,dT⟩
def ofl{h:AH}{k:Nat}{g:Nat->Nat}(e:h 0=some (.arr ((upto g (k+1)).map dU) 1)):jV h [.osl 0 0 (k+1) false]:=by
 show(match h 0 with|some (.arr rows _)=>0+(k+1)<=rows.length|_=>False)∧True;rw[e];exact⟨Nat.le_of_eq gF,trivial⟩
def adA(a n:Nat)(e1:1<=n)(e2:a+n<=32):bI C0 129 [vN a,vN n] (.v (.bool true)):=by
 refine dIZ func129 rfl ?_;refine zW _ (okB (geN _ _))<|gBS (x:=vB (decide (a<=31))) rfl id (okB (leN _ _))<|zN rfl (λh=>h)<|gBS (x:=vB (decide (n>=1))) rfl id (okB (geN _ _)) ?_;refine zN rfl (λh=>h)<|gBS (x:=vI ((32:Int)-a)) rfl id (okN (wrap_i64 omT omT))<|gBS (x:=vB (decide ((n:Int)<=((32:Int)-a)))) rfl hsT rfl<|zN rfl (λh=>h) ?_;exact fB rfl (by have e3:a<=31:=omT;have e4:(n:Int)<=32-a:=omT;simp[cE,e1,e3,e4])
def Sz(x a n:Nat)(h:n<=32):ofB (upto (λi=>x/2 ^ (a+i)%2) n)=field x a n:=by
 rw[<-YD];exact Jq _ (Od x a n) (by simp[upto];omega)
def abH(x n:Nat)(h1:1<=n)(h2:n<=32):ofB (upto (yN x n) 32)=sext x n:=by
 rw[<-YE x n h1 h2];exact Jq _ (Js x n 32) (by simp[upto])
def SB(x a i:Nat):x/2 ^ (a+i)%2<=4294967295:=oT
def Vq(x n i:Nat):yN x n i<=4294967295:=oH (Oe x n i)
def fle(x a n k:Nat)(h:2 ^ n=k+1):field x a n<=k:=by have:=iR x a n;rw[h]at this;exact aI this
def gQ{x a n k:Nat}(h:2 ^ n=k+1):field x a n<=k:=by have:=iR x a n;rw[h]at this;exact aI this
def SC(x a n:Nat)(hx:x<=4294967295)(e1:1<=n)(e2:a+n<=32):bI C0 67 [vU x,vN a,vN n] (.v (.int .u32 ((field x a n:Nat):Int))):=by
 refine dIZ func67 rfl ?_;refine rCi rfl (adA a n e1 e2) ?_;refine qR 1 rfl<|zV (.sl 1 ([]) true)<|jR (κ:=Nat) (λk=>match k with|0=>⟨slotsF [(0,vU x),(1,vN a),(2,vN n),(7,.sl 1 ([]) true),(8,vN 0)],heapF [],8⟩|k+1=>⟨slotsF [(0,vU x),(1,vN a),(2,vN n),(7,.osl 0 0 (k+1) false),(8,vN (k+1))],heapF [(0,.arr ((upto (λi=>x/2 ^ (a+i)%2) (k+1)).map dU) 1)],8⟩) (λk=>k<=n) (λk=>n-k) 0 (λs=>s) (wOL (λs=>s) wT trivial rfl) (aE _) ?_;intro k hk;rcases k with _|k
 ·have hkB:0<=1000000:=dT;refine qS 0 rfl<|zW _ (okB (ltN _ _)) ?_;refine zPr (0<n) qW (λh1=>?_) (λh1=>by omega);have b1:a+0<=1000032:=aD omT hkB;refine rW _ rfl (okI (bH b1 rfl))<|rCi rfl (Pu x (a+0) hx omT)<|rV (.sl 1 ([[vU (x/2 ^ (a+0)%2)]]) true) rfl<|zF (x:=.osl 18 0 1 false) (h':=upd _ 18 (some (.arr (([])++([[vU (x/2 ^ (a+0)%2)]])) 1))) (rfl) (⟨by exact aJ rfl,by exact aJ rfl,trivial,trivial⟩) ?_;have b2:0+1<=1000001:=aD hkB (aC 1);refine zW _ (okI (bH b2 rfl)) ?_;refine⟨0+1,λs=>match s with|0=>18|s=>s,wOL (λs=>match s with|0=>18|s=>s) wT ⟨⟨rfl,af2 (λz=>some (Blk.arr z 1)) (Jp (g:=λi=>x/2 ^ (a+i)%2) (row:=dU) (x:=x/2 ^ (a+0)%2) (rfl)),rfl⟩,trivial⟩ rfl,omT,omT⟩
 have hkB:k+1<=1000000:=oT;refine qS 0 rfl<|zW _ (okB (ltN _ _)) ?_;refine zPr ((k+1)<n) qW (λh2=>?_) (λh2=>?_)
 ·skip
  have b3:a+(k+1)<=1000032:=aD omT hkB;refine rW _ rfl (okI (bH b3 rfl))<|rCi rfl (Pu x (a+(k+1)) hx omT)<|rV (.sl 1 ([[vU (x/2 ^ (a+(k+1))%2)]]) true) rfl ?_;refine zF (x:=.osl 18 0 ((List.take (k+1) (List.drop 0 ((upto (λi=>x/2 ^ (a+i)%2) (k+1)).map dU))).length+([[vU (x/2 ^ (a+(k+1))%2)]]:List (List AV)).length) false) (h':=upd (upd _ 0 none) 18 (some (.arr (List.take (k+1) (List.drop 0 ((upto (λi=>x/2 ^ (a+i)%2) (k+1)).map dU))++[[vU (x/2 ^ (a+(k+1))%2)]]) 1))) (rfl) (⟨gC omT,gF,trivial⟩) ?_;have b4:(k+1)+1<=1000001:=aD hkB (aC 1);refine zW _ (okI (bH b4 rfl)) ?_;refine⟨(k+1)+1,λs=>match s with|0=>18|s=>s,wOL (λs=>match s with|0=>18|s=>s) ⟨⟨rfl,rfl⟩,⟨rfl,rfl⟩,⟨rfl,rfl⟩,⟨af2 (λz=>AV.osl 18 0 z false) gL,rfl⟩,⟨rfl,rfl⟩,trivial⟩ ⟨⟨rfl,af2 (λz=>some (Blk.arr z 1)) (Gh (g:=λi=>x/2 ^ (a+i)%2) (row:=dU) (x:=x/2 ^ (a+(k+1))%2) (rfl)),rfl⟩,trivial⟩ rfl,omT,omT⟩
 refine qX 0 rfl<|zL rfl (.inr ⟨rfl,ofl (g:=λi=>x/2 ^ (a+i)%2) rfl⟩) (ac9 n (g:=λi=>x/2 ^ (a+i)%2) (SB x a) omT) ?_;exact fN rfl (Sz x a n omT)
def Pm(x n:Nat)(hx:x<=4294967295)(e1:1<=n)(e2:n<=32):bI C0 68 [vU x,vN n] (.v (.int .u32 ((sext x n:Nat):Int))):=by
 refine dIZ func68 rfl ?_;refine zW _ (okB (ltN _ _))<|gBS (x:=vB (decide (n>32))) rfl id (okB (gtN _ _))<|zN rfl (by simp) ?_;refine zPr (n<1∨n>32) (wP _ _ qW qW) (λh1=>by omega) (λh1=>?_);refine zV (.sl 1 ([]) true)<|jR (κ:=Nat) (λk=>match k with|0=>⟨slotsF [(0,vU x),(1,vN n),(5,.sl 1 ([]) true),(6,vN 0)],heapF [],10⟩|k+1=>⟨slotsF [(0,vU x),(1,vN n),(5,.osl 0 0 (k+1) false),(6,vN (k+1))],heapF [(0,.arr ((upto (yN x n) (k+1)).map dU) 1)],10⟩) (λk=>k<=32) (λk=>32-k) 0 (λs=>s) (wOL (λs=>s) wT trivial rfl) (aE _) ?_;intro k hk;rcases k with _|k
 ·have hkB:0<=1000000:=dT;refine qS 0 rfl<|zW _ (okB (ltN _ _)) ?_;refine zPr (0<32) qW (λh2=>?_) (λh2=>by omega);refine zW _ (okB (ltN _ _)) ?_;refine zPr (0<n) qW (λh3=>?_) (λh3=>by omega);refine rCi rfl (Pu x 0 hx omT)<|rV (.sl 1 ([[vU (x/2 ^ 0%2)]]) true) rfl<|zF (x:=.osl 20 0 1 false) (h':=upd _ 20 (some (.arr (([])++([[vU (x/2 ^ 0%2)]])) 1))) (rfl) (⟨by exact aJ rfl,by exact aJ rfl,trivial,trivial⟩) ?_;have b1:0+1<=1000001:=aD hkB (aC 1);refine zW _ (okI (bH b1 rfl)) ?_;refine⟨0+1,λs=>match s with|0=>20|s=>s,wOL (λs=>match s with|0=>20|s=>s) wT ⟨⟨rfl,af2 (λz=>some (Blk.arr z 1)) (Jp (g:=yN x n) (row:=dU) (x:=x/2 ^ 0%2) (by unfold yN;rw[af1 omT])),rfl⟩,trivial⟩ rfl,omT,omT⟩
 have hkB:k+1<=1000000:=oT;refine qS 0 rfl<|zW _ (okB (ltN _ _)) ?_;refine zPr ((k+1)<32) qW (λh4=>?_) (λh4=>?_)
 ·refine zW _ (okB (ltN _ _)) ?_;refine zPr ((k+1)<n) qW (λh5=>?_) (λh5=>?_)
  ·refine rCi rfl (Pu x (k+1) hx omT)<|rV (.sl 1 ([[vU (x/2 ^ (k+1)%2)]]) true) rfl ?_;refine zF (x:=.osl 20 0 ((List.take (k+1) (List.drop 0 ((upto (yN x n) (k+1)).map dU))).length+([[vU (x/2 ^ (k+1)%2)]]:List (List AV)).length) false) (h':=upd (upd _ 0 none) 20 (some (.arr (List.take (k+1) (List.drop 0 ((upto (yN x n) (k+1)).map dU))++[[vU (x/2 ^ (k+1)%2)]]) 1))) (rfl) (⟨gC omT,gF,trivial⟩) ?_;have b2:(k+1)+1<=1000001:=aD hkB (aC 1);refine zW _ (okI (bH b2 rfl)) ?_;refine⟨(k+1)+1,λs=>match s with|0=>20|s=>s,wOL (λs=>match s with|0=>20|s=>s) ⟨⟨rfl,rfl⟩,⟨rfl,rfl⟩,⟨af2 (λz=>AV.osl 20 0 z false) gL,rfl⟩,⟨rfl,rfl⟩,trivial⟩ ⟨⟨rfl,af2 (λz=>some (Blk.arr z 1)) (Gh (g:=yN x n) (row:=dU) (x:=x/2 ^ (k+1)%2) (by unfold yN;rw[af1 h5])),rfl⟩,trivial⟩ rfl,omT,omT⟩
  refine rW _ rfl (okN (by rw[wrap_i64 omT omT];omega))<|rCi rfl (Pu x (n-1) hx omT)<|rV (.sl 1 ([[vU (x/2 ^ (n-1)%2)]]) true) rfl ?_;refine zF (x:=.osl 21 0 ((List.take (k+1) (List.drop 0 ((upto (yN x n) (k+1)).map dU))).length+([[vU (x/2 ^ (n-1)%2)]]:List (List AV)).length) false) (h':=upd (upd _ 0 none) 21 (some (.arr (List.take (k+1) (List.drop 0 ((upto (yN x n) (k+1)).map dU))++[[vU (x/2 ^ (n-1)%2)]]) 1))) (rfl) (⟨gC omT,gF,trivial⟩) ?_;have b3:(k+1)+1<=1000001:=aD hkB (aC 1);refine zW _ (okI (bH b3 rfl)) ?_;refine⟨(k+1)+1,λs=>match s with|0=>21|s=>s,wOL (λs=>match s with|0=>21|s=>s) ⟨⟨rfl,rfl⟩,⟨rfl,rfl⟩,⟨af2 (λz=>AV.osl 21 0 z false) gL,rfl⟩,⟨rfl,rfl⟩,trivial⟩ ⟨⟨rfl,af2 (λz=>some (Blk.arr z 1)) (Gh (g:=yN x n) (row:=dU) (x:=x/2 ^ (n-1)%2) (by unfold yN;rw[dZ h5])),rfl⟩,trivial⟩ rfl,omT,omT⟩
 refine qX 0 rfl<|zL rfl (.inr ⟨rfl,ofl (g:=yN x n) rfl⟩) (ac9 32 (g:=yN x n) (Vq x n) omT) ?_;exact fN rfl (abH x n e1 e2)
def Vr(rule:Int)(a b i:Nat):uP rule a b i<=4294967295:=oH (El rule a b i)
def SD(a:Nat)(n:Int){fill:Nat}(hf:fill<2)(i:Nat):af9 a n fill i<=4294967295:=oH (CF a n hf i)
def Pn(rule:Int)(a b:Nat)(ha:a<=4294967295)(hb:b<=4294967295):bI C0 125 [vI rule,vU a,vU b] (.v (.int .u32 ((ofB (upto (uP rule a b) 32):Nat):Int))):=by
 refine dIZ func125 rfl ?_;refine zV (.sl 1 ([]) true) ?_;refine jR (κ:=Nat) (λk=>match k with|0=>⟨slotsF [(0,vI rule),(1,vU a),(2,vU b),(7,.sl 1 ([]) true),(8,vN 0)],heapF [],4⟩|k+1=>⟨slotsF [(0,vI rule),(1,vU a),(2,vU b),(7,.osl 0 0 (k+1) false),(8,vN (k+1))],heapF [(0,.arr ((upto (uP rule a b) (k+1)).map dU) 1)],4⟩) (λk=>k<=32) (λk=>32-k) 0 (λs=>s) (wOL (λs=>s) wT trivial rfl) (aE _) ?_;intro k hk;rcases k with _|k
 ·have hkB:0<=1000000:=dT;refine qS 0 rfl<|zW _ (okB (ltN _ _)) ?_;refine zPr (0<32) qW (λh1=>?_) (λh1=>by omega);refine zC (Pu a 0 ha omT)<|rCi rfl (Pu b 0 hb omT) ?_;have b1:(a/2 ^ 0%2)+(b/2 ^ 0%2)<=2:=aD (aI (aQ _ dT)) (aI (aQ _ dT));refine zW _ (okI (nJ b1 rfl))<|zV (vB (rule==1))<|gBS (x:=vB (((a/2 ^ 0%2)+(b/2 ^ 0%2))==2)) rfl id (okB (eqN _ _))<|zN rfl (λh=>h)<|gBS (x:=vB (rule==2)) rfl id rfl<|zG rfl id ?_;refine gBS (x:=vB (decide (((a/2 ^ 0%2)+(b/2 ^ 0%2))>0))) rfl id (okB (gtN _ _))<|pB (x:=vB (cE (rule==2) (decide (((a/2 ^ 0%2)+(b/2 ^ 0%2))>0)) false)) (g:= !(cE (rule==1) (((a/2 ^ 0%2)+(b/2 ^ 0%2))==2) false)) rfl rfl rfl rfl (λh=>h) rfl rfl (λhg hc=>by first|(rw[hg,hc];rfl)|simp_all)<|zN rfl (by simp)<|gBS (x:=vB (rule==3)) rfl id rfl<|zG rfl id<|gBS (x:=vB (((a/2 ^ 0%2)+(b/2 ^ 0%2))==1)) rfl id (okB (eqN _ _))<|pB (x:=vB (cE (rule==3) (((a/2 ^ 0%2)+(b/2 ^ 0%2))==1) false)) (g:= !(cE (cE (rule==1) (((a/2 ^ 0%2)+(b/2 ^ 0%2))==2) false) true (cE (rule==2) (decide (((a/2 ^ 0%2)+(b/2 ^ 0%2))>0)) false))) rfl rfl rfl rfl (λh=>h) rfl rfl (λhg hc=>by first|(rw[hg,hc];rfl)|simp_all)<|zN rfl (by simp) ?_;refine zPr (((rule=1∧((a/2 ^ 0%2)+(b/2 ^ 0%2))=2)∨(rule=2∧((a/2 ^ 0%2)+(b/2 ^ 0%2))>0))∨(rule=3∧((a/2 ^ 0%2)+(b/2 ^ 0%2))=1)) (wP _ _ (wP _ _ (uA _ _ pEq pEq) (uA _ _ pEq qW)) (uA _ _ pEq pEq)) (λh2=>?_) (λh2=>?_)
  ·refine rV (.sl 1 ([[.v (.int .u32 1)]]) true) rfl<|zF (x:=.osl 40 0 1 false) (h':=upd _ 40 (some (.arr (([])++([[.v (.int .u32 1)]])) 1))) (rfl) (⟨dT,dT,trivial,trivial⟩) ?_;have b2:0+1<=1000001:=aD hkB (aC 1);refine zW _ (okI (bH b2 rfl)) ?_;refine⟨0+1,λs=>match s with|0=>40|s=>s,wOL (λs=>match s with|0=>40|s=>s) wT ⟨⟨rfl,af2 (λz=>some (Blk.arr z 1)) (Jp (g:=uP rule a b) (row:=dU) (x:=1) (by unfold uP;rw[af1 h2])),rfl⟩,trivial⟩ rfl,omT,omT⟩
  refine rV (.sl 1 ([[.v (.int .u32 0)]]) true) rfl<|zF (x:=.osl 40 0 1 false) (h':=upd _ 40 (some (.arr (([])++([[.v (.int .u32 0)]])) 1))) (rfl) (⟨dT,dT,trivial,trivial⟩) ?_;have b3:0+1<=1000001:=aD hkB (aC 1);refine zW _ (okI (bH b3 rfl)) ?_;refine⟨0+1,λs=>match s with|0=>40|s=>s,wOL (λs=>match s with|0=>40|s=>s) wT ⟨⟨rfl,af2 (λz=>some (Blk.arr z 1)) (Jp (g:=uP rule a b) (row:=dU) (x:=0) (by unfold uP;rw[dZ h2])),rfl⟩,trivial⟩ rfl,omT,omT⟩
 have hkB:k+1<=1000000:=oT;refine qS 0 rfl<|zW _ (okB (ltN _ _)) ?_;refine zPr ((k+1)<32) qW (λh3=>?_) (λh3=>?_)
 ·refine zC (Pu a (k+1) ha omT)<|rCi rfl (Pu b (k+1) hb omT) ?_;have b4:(a/2 ^ (k+1)%2)+(b/2 ^ (k+1)%2)<=2:=aD (aI (aQ _ dT)) (aI (aQ _ dT));refine zW _ (okI (nJ b4 rfl))<|zV (vB (rule==1))<|gBS (x:=vB (((a/2 ^ (k+1)%2)+(b/2 ^ (k+1)%2))==2)) rfl id (okB (eqN _ _))<|zN rfl (λh=>h)<|gBS (x:=vB (rule==2)) rfl id rfl<|zG rfl id ?_;refine gBS (x:=vB (decide (((a/2 ^ (k+1)%2)+(b/2 ^ (k+1)%2))>0))) rfl id (okB (gtN _ _))<|pB (x:=vB (cE (rule==2) (decide (((a/2 ^ (k+1)%2)+(b/2 ^ (k+1)%2))>0)) false)) (g:= !(cE (rule==1) (((a/2 ^ (k+1)%2)+(b/2 ^ (k+1)%2))==2) false)) rfl rfl rfl rfl (λh=>h) rfl rfl (λhg hc=>by first|(rw[hg,hc];rfl)|simp_all)<|zN rfl (by simp)<|gBS (x:=vB (rule==3)) rfl id rfl<|zG rfl id<|gBS (x:=vB (((a/2 ^ (k+1)%2)+(b/2 ^ (k+1)%2))==1)) rfl id (okB (eqN _ _))<|pB (x:=vB (cE (rule==3) (((a/2 ^ (k+1)%2)+(b/2 ^ (k+1)%2))==1) false)) (g:= !(cE (cE (rule==1) (((a/2 ^ (k+1)%2)+(b/2 ^ (k+1)%2))==2) false) true (cE (rule==2) (decide (((a/2 ^ (k+1)%2)+(b/2 ^ (k+1)%2))>0)) false))) rfl rfl rfl rfl (λh=>h) rfl rfl (λhg hc=>by first|(rw[hg,hc];rfl)|simp_all)<|zN rfl (by simp) ?_;refine zPr (((rule=1∧((a/2 ^ (k+1)%2)+(b/2 ^ (k+1)%2))=2)∨(rule=2∧((a/2 ^ (k+1)%2)+(b/2 ^ (k+1)%2))>0))∨(rule=3∧((a/2 ^ (k+1)%2)+(b/2 ^ (k+1)%2))=1)) (wP _ _ (wP _ _ (uA _ _ pEq pEq) (uA _ _ pEq qW)) (uA _ _ pEq pEq)) (λh4=>?_) (λh4=>?_)
  ·refine rV (.sl 1 ([[.v (.int .u32 1)]]) true) rfl ?_;refine zF (x:=.osl 40 0 ((List.take (k+1) (List.drop 0 ((upto (uP rule a b) (k+1)).map dU))).length+([[.v (.int .u32 1)]]:List (List AV)).length) false) (h':=upd (upd _ 0 none) 40 (some (.arr (List.take (k+1) (List.drop 0 ((upto (uP rule a b) (k+1)).map dU))++[[.v (.int .u32 1)]]) 1))) (rfl) (⟨gC omT,gF,trivial⟩) ?_;have b5:(k+1)+1<=1000001:=aD hkB (aC 1);refine zW _ (okI (bH b5 rfl)) ?_;refine⟨(k+1)+1,λs=>match s with|0=>40|s=>s,wOL (λs=>match s with|0=>40|s=>s) ⟨⟨rfl,rfl⟩,⟨rfl,rfl⟩,⟨rfl,rfl⟩,⟨af2 (λz=>AV.osl 40 0 z false) gL,rfl⟩,⟨rfl,rfl⟩,trivial⟩ ⟨⟨rfl,af2 (λz=>some (Blk.arr z 1)) (Gh (g:=uP rule a b) (row:=dU) (x:=1) (by unfold uP;rw[af1 h4])),rfl⟩,trivial⟩ rfl,omT,omT⟩
  refine rV (.sl 1 ([[.v (.int .u32 0)]]) true) rfl ?_;refine zF (x:=.osl 40 0 ((List.take (k+1) (List.drop 0 ((upto (uP rule a b) (k+1)).map dU))).length+([[.v (.int .u32 0)]]:List (List AV)).length) false) (h':=upd (upd _ 0 none) 40 (some (.arr (List.take (k+1) (List.drop 0 ((upto (uP rule a b) (k+1)).map dU))++[[.v (.int .u32 0)]]) 1))) (rfl) (⟨gC omT,gF,trivial⟩) ?_;have b6:(k+1)+1<=1000001:=aD hkB (aC 1);refine zW _ (okI (bH b6 rfl)) ?_;refine⟨(k+1)+1,λs=>match s with|0=>40|s=>s,wOL (λs=>match s with|0=>40|s=>s) ⟨⟨rfl,rfl⟩,⟨rfl,rfl⟩,⟨rfl,rfl⟩,⟨af2 (λz=>AV.osl 40 0 z false) gL,rfl⟩,⟨rfl,rfl⟩,trivial⟩ ⟨⟨rfl,af2 (λz=>some (Blk.arr z 1)) (Gh (g:=uP rule a b) (row:=dU) (x:=0) (by unfold uP;rw[dZ h4])),rfl⟩,trivial⟩ rfl,omT,omT⟩
 refine qX 0 rfl<|zL rfl (.inr ⟨rfl,ofl (g:=uP rule a b) rfl⟩) (ad3 (g:=uP rule a b) (Vr rule a b) omT) ?_;exact fT rfl rfl
def Hg(a:Nat)(n:Int)(fill:Nat)(ha:a<=4294967295)(hn1: -32<=n)(hn2:n<=32)(hf:fill<2):bI C0 126 [vU a,vI n,vU fill] (.v (.int .u32 ((ofB (upto (af9 a n fill) 32):Nat):Int))):=by
 refine dIZ func126 rfl ?_;refine zV (.sl 1 ([]) true) ?_;refine jR (κ:=Nat) (λk=>match k with|0=>⟨slotsF [(0,vU a),(1,vI n),(2,vU fill),(7,.sl 1 ([]) true),(8,vN 0)],heapF [],4⟩|k+1=>⟨slotsF [(0,vU a),(1,vI n),(2,vU fill),(7,.osl 0 0 (k+1) false),(8,vN (k+1))],heapF [(0,.arr ((upto (af9 a n fill) (k+1)).map dU) 1)],4⟩) (λk=>k<=32) (λk=>32-k) 0 (λs=>s) (wOL (λs=>s) wT trivial rfl) (aE _) ?_;intro k hk;rcases k with _|k
 ·have hkB:0<=1000000:=dT;refine qS 0 rfl<|zW _ (okB (ltN _ _)) ?_;refine zPr (0<32) qW (λh1=>?_) (λh1=>by omega);refine rW _ rfl (okN (wrap_i64 omT omT))<|zV (vB (decide ((((0:Nat):Int)-n)<0)))<|gBS (x:=vI (((0:Nat):Int)-n)) rfl hsT (okN (wrap_i64 omT omT))<|gBS (x:=vB (decide ((((0:Nat):Int)-n)>31))) rfl id rfl<|zN rfl (by simp) ?_;refine zPr ((((0:Nat):Int)-n)<0∨(((0:Nat):Int)-n)>31) (wP _ _ qW qW) (λh2=>?_) (λh2=>?_)
  ·refine rV (.sl 1 ([[vU fill]]) true) rfl<|zF (x:=.osl 19 0 1 false) (h':=upd _ 19 (some (.arr (([])++([[vU fill]])) 1))) (rfl) (⟨by exact aJ rfl,by exact aJ rfl,trivial,trivial⟩) ?_;have b1:0+1<=1000001:=aD hkB (aC 1);refine zW _ (okI (bH b1 rfl)) ?_;refine⟨0+1,λs=>match s with|0=>19|s=>s,wOL (λs=>match s with|0=>19|s=>s) wT ⟨⟨rfl,af2 (λz=>some (Blk.arr z 1)) (Jp (g:=af9 a n fill) (row:=dU) (x:=fill) (by unfold af9;rw[af1 h2])),rfl⟩,trivial⟩ rfl,omT,omT⟩
  refine rW _ rfl (okN (wrap_i64 omT omT))<|rCi rfl (abG a _ ha omT omT)<|rV (.sl 1 ([[vU (a/2 ^ (((0:Nat):Int)-n).toNat%2)]]) true) rfl<|zF (x:=.osl 23 0 1 false) (h':=upd _ 23 (some (.arr (([])++([[vU (a/2 ^ (((0:Nat):Int)-n).toNat%2)]])) 1))) (rfl) (⟨by exact aJ rfl,by exact aJ rfl,trivial,trivial⟩) ?_;have b2:0+1<=1000001:=aD hkB (aC 1);refine zW _ (okI (bH b2 rfl)) ?_;refine⟨0+1,λs=>match s with|0=>23|s=>s,wOL (λs=>match s with|0=>23|s=>s) wT ⟨⟨rfl,af2 (λz=>some (Blk.arr z 1)) (Jp (g:=af9 a n fill) (row:=dU) (x:=a/2 ^ (((0:Nat):Int)-n).toNat%2) (by unfold af9;rw[dZ h2])),rfl⟩,trivial⟩ rfl,omT,omT⟩
 have hkB:k+1<=1000000:=oT;refine qS 0 rfl<|zW _ (okB (ltN _ _)) ?_;refine zPr ((k+1)<32) qW (λh3=>?_) (λh3=>?_)
 ·refine rW _ rfl (okN (wrap_i64 omT omT))<|zV (vB (decide (((((k+1):Nat):Int)-n)<0)))<|gBS (x:=vI ((((k+1):Nat):Int)-n)) rfl hsT (okN (wrap_i64 omT omT))<|gBS (x:=vB (decide (((((k+1):Nat):Int)-n)>31))) rfl id rfl<|zN rfl (by simp) ?_;refine zPr (((((k+1):Nat):Int)-n)<0∨((((k+1):Nat):Int)-n)>31) (wP _ _ qW qW) (λh4=>?_) (λh4=>?_)
  ·refine rV (.sl 1 ([[vU fill]]) true) rfl ?_;refine zF (x:=.osl 19 0 ((List.take (k+1) (List.drop 0 ((upto (af9 a n fill) (k+1)).map dU))).length+([[vU fill]]:List (List AV)).length) false) (h':=upd (upd _ 0 none) 19 (some (.arr (List.take (k+1) (List.drop 0 ((upto (af9 a n fill) (k+1)).map dU))++[[vU fill]]) 1))) (rfl) (⟨gC omT,gF,trivial⟩) ?_;have b3:(k+1)+1<=1000001:=aD hkB (aC 1);refine zW _ (okI (bH b3 rfl)) ?_;refine⟨(k+1)+1,λs=>match s with|0=>19|s=>s,wOL (λs=>match s with|0=>19|s=>s) ⟨⟨rfl,rfl⟩,⟨rfl,rfl⟩,⟨rfl,rfl⟩,⟨af2 (λz=>AV.osl 19 0 z false) gL,rfl⟩,⟨rfl,rfl⟩,trivial⟩ ⟨⟨rfl,af2 (λz=>some (Blk.arr z 1)) (Gh (g:=af9 a n fill) (row:=dU) (x:=fill) (by unfold af9;rw[af1 h4])),rfl⟩,trivial⟩ rfl,omT,omT⟩
  refine rW _ rfl (okN (wrap_i64 omT omT))<|rCi rfl (abG a _ ha omT omT)<|rV (.sl 1 ([[vU (a/2 ^ ((((k+1):Nat):Int)-n).toNat%2)]]) true) rfl ?_;refine zF (x:=.osl 23 0 ((List.take (k+1) (List.drop 0 ((upto (af9 a n fill) (k+1)).map dU))).length+([[vU (a/2 ^ ((((k+1):Nat):Int)-n).toNat%2)]]:List (List AV)).length) false) (h':=upd (upd _ 0 none) 23 (some (.arr (List.take (k+1) (List.drop 0 ((upto (af9 a n fill) (k+1)).map dU))++[[vU (a/2 ^ ((((k+1):Nat):Int)-n).toNat%2)]]) 1))) (rfl) (⟨gC omT,gF,trivial⟩) ?_;have b4:(k+1)+1<=1000001:=aD hkB (aC 1);refine zW _ (okI (bH b4 rfl)) ?_;refine⟨(k+1)+1,λs=>match s with|0=>23|s=>s,wOL (λs=>match s with|0=>23|s=>s) ⟨⟨rfl,rfl⟩,⟨rfl,rfl⟩,⟨rfl,rfl⟩,⟨af2 (λz=>AV.osl 23 0 z false) gL,rfl⟩,⟨rfl,rfl⟩,trivial⟩ ⟨⟨rfl,af2 (λz=>some (Blk.arr z 1)) (Gh (g:=af9 a n fill) (row:=dU) (x:=a/2 ^ ((((k+1):Nat):Int)-n).toNat%2) (by unfold af9;rw[dZ h4])),rfl⟩,trivial⟩ rfl,omT,omT⟩
 refine qX 0 rfl<|zL rfl (.inr ⟨rfl,ofl (g:=af9 a n fill) rfl⟩) (ad3 (g:=af9 a n fill) (SD a n hf) omT) ?_;exact fT rfl rfl
def abI(x i:Nat):IntKind.wrap .u8 ((field x (8*i) 8:Nat):Int)=(((xM x i).toNat:Nat):Int):=by
 simp only[IntKind.wrap,IntKind.signed,IntKind.bits,xM,field];simp
def abJ(x n:Nat)(hx:x<=4294967295)(hn:n<=4):bI C0 30 [vU x,vN n] (.tup [.v (.string (oF x n)),.v (.int .i64 0)]):=by
 refine dIZ func30 rfl ?_;refine zW _ (okB (ltN _ _))<|gBS (x:=vB (decide (n>4))) rfl id (okB (gtN _ _))<|zN rfl (by simp) ?_;refine zPr (n<0∨n>4) (wP _ _ qW qW) (λh1=>by omega) (λh1=>?_);refine zV (.sl 1 ([]) true)<|jR (κ:=Nat) (λk=>match k with|0=>⟨slotsF [(0,vU x),(1,vN n),(6,.sl 1 ([]) true),(7,vN 0)],heapF [],11⟩|k+1=>⟨slotsF [(0,vU x),(1,vN n),(6,.osl 0 0 (k+1) false),(7,vN (k+1))],heapF [(0,.arr ((upto (xM x) (k+1)).map Sx) 1)],11⟩) (λk=>k<=n) (λk=>n-k) 0 (λs=>s) (wOL (λs=>s) wT trivial rfl) (aE _) ?_;intro k hk;rcases k with _|k
 ·have hkB:0<=1000000:=dT;refine qS 0 rfl<|zW _ (okB (ltN _ _)) ?_;refine zPr (0<n) qW (λh2=>?_) (λh2=>?_)
  ·skip
   have b1:8*0<=8000000:=cJ (aC 8) hkB;refine rW _ rfl (okI (bH b1 rfl))<|rCi rfl (SC x (8*0) 8 hx dT omT)<|rW _ rfl (okN (abI x 0))<|rV (.sl 1 ([[.v (.int .u8 (((xM x 0).toNat:Nat):Int))]]) true) rfl<|zF (x:=.osl 21 0 1 false) (h':=upd _ 21 (some (.arr (([])++([[.v (.int .u8 (((xM x 0).toNat:Nat):Int))]])) 1))) (rfl) (⟨by exact aJ rfl,by exact aJ rfl,trivial,trivial⟩) ?_;have b2:0+1<=1000001:=aD hkB (aC 1);refine zW _ (okI (bH b2 rfl)) ?_;refine⟨0+1,λs=>match s with|0=>21|s=>s,wOL (λs=>match s with|0=>21|s=>s) wT ⟨⟨rfl,af2 (λz=>some (Blk.arr z 1)) (Jp (g:=xM x) (row:=Sx) (x:=xM x 0) (rfl)),rfl⟩,trivial⟩ rfl,omT,omT⟩
  refine qX 0 rfl<|SV (([]:List UInt8)) (d:=29) rfl rfl rfl (trivial) (rfl)<|qRF 0 rfl ?_;exact fT rfl (by rw[(oT:n=0)];rfl)
 have hkB:k+1<=1000000:=oT;refine qS 0 rfl<|zW _ (okB (ltN _ _)) ?_;refine zPr ((k+1)<n) qW (λh3=>?_) (λh3=>?_)
 ·skip
  have b3:8*(k+1)<=8000000:=cJ (aC 8) hkB;refine rW _ rfl (okI (bH b3 rfl))<|rCi rfl (SC x (8*(k+1)) 8 hx dT omT)<|rW _ rfl (okN (abI x (k+1)))<|rV (.sl 1 ([[.v (.int .u8 (((xM x (k+1)).toNat:Nat):Int))]]) true) rfl ?_;refine zF (x:=.osl 21 0 ((List.take (k+1) (List.drop 0 ((upto (xM x) (k+1)).map Sx))).length+([[.v (.int .u8 (((xM x (k+1)).toNat:Nat):Int))]]:List (List AV)).length) false) (h':=upd (upd _ 0 none) 21 (some (.arr (List.take (k+1) (List.drop 0 ((upto (xM x) (k+1)).map Sx))++[[.v (.int .u8 (((xM x (k+1)).toNat:Nat):Int))]]) 1))) (rfl) (⟨gC omT,gF,trivial⟩) ?_;have b4:(k+1)+1<=1000001:=aD hkB (aC 1);refine zW _ (okI (bH b4 rfl)) ?_;refine⟨(k+1)+1,λs=>match s with|0=>21|s=>s,wOL (λs=>match s with|0=>21|s=>s) ⟨⟨rfl,rfl⟩,⟨rfl,rfl⟩,⟨af2 (λz=>AV.osl 21 0 z false) gL,rfl⟩,⟨rfl,rfl⟩,trivial⟩ ⟨⟨rfl,af2 (λz=>some (Blk.arr z 1)) (Gh (g:=xM x) (row:=Sx) (x:=xM x (k+1)) (rfl)),rfl⟩,trivial⟩ rfl,omT,omT⟩
 refine qX 0 rfl<|SV (upto (xM x) (k+1)) (d:=29) rfl rfl rfl (Nat.le_of_eq gF) (by rw[gT];exact lN _)<|qRF 0 rfl ?_;exact fT rfl (by rw[show oF x n=(⟨(upto (xM x) (k+1)).toArray⟩:ByteArray) by rw[(oT:k+1=n)];exact(SK x n).symm];rfl)
end Go.Proofs.YtchifhhdlhicjaaGreatDoor
