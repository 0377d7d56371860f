/- Joined texts. -/
import Derived.Test.YtgleompefdogkaaGreatDoorS1
import Derived.Test.YtgleompefdogkaaGreatDoorS28
import Derived.Test.YtgleompefdogkaaGreatDoorS35
set_option linter.unusedVariables false
set_option linter.unusedSimpArgs false
set_option linter.defProp false
namespace Go.Proofs.YtgleompefdogkaaGreatDoor
set_option maxRecDepth 100000
set_option maxHeartbeats 4000000
open Go.RowKit
def YJ(c:Ca)(line:Nat)(ck:Bool)(h0:0<c.sets.length)(hl:c.sets.length<=1000000)(hline:line<=4294967295):cA C0 124 [.agg (caL c ck),vU line] (vN (tU c line)):=by
 refine cA.intro c0Ok Tryz.func124 rfl rfl (by kernel_rfl) rfl ?_;have b1:line/16<=268435455:=jA hline;refine qS 0 rfl<|nW (vU (line/16)) rfl (IK (IC b1 rfl)) (by decide)<|rW (vN (line/16)) rfl (okI (bJ b1 rfl))<|qR 0 rfl<|rW (vN c.sets.length) rfl (bT aV c.sets)<|nW (vI (Int.tmod ((line/16:Nat):Int) ((c.sets.length:Nat):Int))) rfl rfl omT<|qRF 0 rfl ?_;exact fT rfl rfl
def LE{s:List Wy}{line:Nat}:jG s line=none↔∀(q:Nat) z,s[q]?=some z->z.line≠line:=by
 induction s with
 |nil=>exact⟨λ_ q z h=>by simp at h,λ_=>rfl⟩
 | cons w l ih=>
  unfold jG;by_cases h:w.line=line
  ·rw[if_pos h];exact⟨λk=>(by cases k),λk=>absurd h (k 0 w rfl)⟩
  ·rw[if_neg h,Option.map_eq_none_iff,ih];refine⟨λk q z hz=>?_,λk q z hz=>k (q+1) z hz⟩
   cases q with
   |zero=>injection hz with hz;subst hz;exact h
   |succ q=>exact k q z hz
def WE{s:List Wy}{line j:Nat}:jG (s.take j) line=none↔∀(q:Nat) z,q<j->s[q]?=some z->z.line≠line:=by
 rw[LE];constructor
 ·intro h q z hq hz;exact h q z (by rw[cL,if_pos hq];exact hz)
 ·intro h q z hz;rw[cL]at hz;split at hz
  ·rename_i hq;exact h q z hq hz
  ·cases hz
def Kf(a:Nat):lineOf a=a↔a%16=0:=by unfold lineOf;omega
def b5:∀a b c d:Bool,cR (cR a true b) true (cR c d false)=false->a=false∧b=false∧(c=false∨d=false):=by decide
def LF{c:Ca}{k:Nat}{x:Wy}(h:cR (cR (x.line%16 != 0) true (tU c x.line != k)) true (cR ((x.data.size:Int) != 0) ((x.data.size:Int) != 16) false)=false):lineOf x.line=x.line∧tU c x.line=k∧(x.data.size=0∨x.data.size=16):=by
 rw[Kf];obtain⟨h1,h2,h3⟩:=b5 _ _ _ _ h;refine⟨by simpa using h1,by simpa using h2,?_⟩;rcases h3 with h3|h3
 ·left;have:(x.data.size:Int)=0:=by simpa using h3
  omega
 ·right;have:(x.data.size:Int)=16:=by simpa using h3
  omega
def WF{c:Ca}{k:Nat}{x:Wy}(h:cR (cR (x.line%16 != 0) true (tU c x.line != k)) true (cR ((x.data.size:Int) != 0) ((x.data.size:Int) != 16) false)=true): ¬(lineOf x.line=x.line∧tU c x.line=k∧(x.data.size=0∨x.data.size=16)):=by
 rw[Kf];rintro⟨h1,h2,h3|h3⟩<;>simp[cR,h1,h2,h3]at h
def YK(c:Ca)(ck:Bool)(hok:c.ok):cA C0 83 [.agg (caL c ck)] (vB (fS c)):=by
 refine cA.intro c0Ok Tryz.func83 rfl rfl (by kernel_rfl) rfl<|qS 0 rfl<|rW (vN c.sets.length) rfl (bT aV c.sets) ?_;refine qR 0 rfl<|rW (vB (c.sets.length != 1)) rfl (okB (neN _ _))<|qR 0 rfl<|gBS (x:=vB (c.sets.length != 2)) rfl id (okB (neN _ _))<|cU rfl rfl rfl (λh=>h)<|qR 0 rfl<|gBS (x:=vB (c.sets.length != 4)) rfl id (okB (neN _ _))<|cU rfl rfl rfl (λh=>h)<|qR 0 rfl<|gS rfl id<|gBS (x:=vB (c.ways != 1)) rfl id rfl<|gS rfl id<|qR 0 rfl<|gS rfl id ?_;refine gBS (x:=vB (c.ways != 2)) rfl id rfl<|uV (x:=vB (cR (c.ways != 1) (c.ways != 2) false)) (g:= !(cR (cR (c.sets.length != 1) (c.sets.length != 2) false) (c.sets.length != 4) false)) rfl rfl rfl rfl (λh=>h) rfl rfl (λhg hc=>by first|(rw[hg,hc];rfl)|simp_all)<|cU rfl rfl rfl (by simp) ?_;refine qRC 0 rfl<|aS rfl (λh1=>?_) (λh1=>?_)
 ·refine qCF 0 rfl ?_;exact fB (x:=false) rfl (pU (c:=c) (λq=>Dp h1 ((eS c).1 q).1)).symm
 ·refine qC 0 rfl<|rW (vN c.sets.length) rfl (bT aV c.sets)<|qRC 0 rfl<|jX (κ:=Nat) (λk=>⟨slotsF [(1,.ptr 0 0),(33,.sl 1 (c.sets.map aV) ck),(34,vN c.sets.length),(35,vN k)],heapF [(0,.box [vI c.ways,.sl 1 (c.sets.map aV) ck])],30⟩) (λk=>k<=c.sets.length∧∀i s,i<k->c.sets[i]?=some s->vD c i s=true) (λk=>c.sets.length-k) 0 (λs=>s) (Weak.of_lists (λs=>s) wT wH rfl) (⟨aE _,λi s h=>absurd h (dD i)⟩) ?_;intro k hk;have hkB:k<=1000000:=by have:=hk.1;have:=(rX h1).1;omega
  refine qS 0 rfl<|rW (vB (decide (k<c.sets.length))) rfl (okB (ltN _ _)) ?_;refine qRC 0 rfl<|aS rfl (λh2=>?_) (λh2=>?_)
  ·skip
   obtain⟨s,hs⟩:∃s,c.sets[k]?=some s:=⟨_,aA (of_decide_eq_true h2)⟩;have hso:=hok.set s (aB hs);refine qC 0 rfl<|rIx (aV s) (.dp 1 0 (aV s)) rfl rfl (fW hs) rfl<|qR 0 rfl<|rW (vN s.length) rfl (bT wyL s)<|qR 0 rfl<|rV (vB (decide (((s.length:Nat):Int)>c.ways))) rfl ?_;refine qRC 0 rfl<|aS rfl (λh3=>?_) (λh3=>?_)
   ·refine qCF 0 rfl<|qXF 0 rfl ?_;exact fB (x:=false) rfl (pU (c:=c) (λq=>absurd ((fN c k s).1 (((eS c).1 q).2 k s hs)).1 (by have:=of_decide_eq_true h3;omega))).symm
   ·refine qC 0 rfl<|rW (vN s.length) rfl (bT wyL s)<|qRC 0 rfl<|jX (κ:=Nat) (λj=>⟨slotsF [(1,.ptr 0 0),(33,.sl 1 (c.sets.map aV) ck),(34,vN c.sets.length),(35,vN k),(4,vN k),(5,.sl 3 (s.map wyL) false),(45,.sl 3 (s.map wyL) false),(46,vN s.length),(47,vN j)],heapF [(0,.box [vI c.ways,.sl 1 (c.sets.map aV) ck])],44⟩) (λj=>j<=s.length∧∀i x,i<j->s[i]?=some x->EI c k s i x) (λj=>s.length-j) 0 (λs=>s) (Weak.of_lists (λs=>s) wT wH rfl) (⟨aE _,λi s h=>absurd h (dD i)⟩) ?_;intro j hj;have hjB:j<=1000000:=by have:=hj.1;have:=(rX h1).2;have:=aD h3;omega
    refine qS 0 rfl<|rW (vB (decide (j<s.length))) rfl (okB (ltN _ _)) ?_;refine qRC 0 rfl<|aS rfl (λh4=>?_) (λh4=>?_)
    ·skip
     obtain⟨x,hx⟩:∃x,s[j]?=some x:=⟨_,aA (of_decide_eq_true h4)⟩;have hxo:=hso.2 x (aB hx);refine qC 0 rfl<|rIx (wyL x) (.dp 3 0 (wyL x)) rfl rfl (fW hx) rfl ?_;have b1:x.line%16<=15:=aY (bE _ (by decide));refine qR 0 rfl<|nW (vU (x.line%16)) rfl rfl (by decide)<|rW (vB ((x.line%16) != 0)) rfl (okB (neN _ _))<|qR 0 rfl<|gS rfl id<|jU (args:=[.agg [vI c.ways,.sl 1 (c.sets.map aV) ck],vU x.line]) (x:=vN (tU c x.line)) (g:= !((x.line%16) != 0)) rfl rfl rfl rfl hsT rfl rfl rfl (.inl rfl) rfl (λhg=>YJ c x.line ck (by have:=of_decide_eq_true h2;omega) (by have:=(rX h1).1;omega) hxo.line)<|qR 0 rfl<|gBS (x:=vB ((tU c x.line) != k)) rfl hsT (okB (neN _ _))<|cU rfl rfl rfl (by simp)<|qR 0 rfl<|gS rfl id<|gBS (x:=vI (x.data.size:Int)) rfl id rfl<|gBS (x:=vB ((x.data.size:Int) != 0)) rfl id rfl<|gS rfl id ?_;refine qR 0 rfl<|gS rfl id<|gBS (x:=vI (x.data.size:Int)) rfl id rfl<|gBS (x:=vB ((x.data.size:Int) != 16)) rfl id rfl<|uV (x:=vB (cR ((x.data.size:Int) != 0) ((x.data.size:Int) != 16) false)) (g:= !(cR ((x.line%16) != 0) true ((tU c x.line) != k))) rfl rfl rfl rfl (λh=>h) rfl rfl (λhg hc=>by first|(rw[hg,hc];rfl)|simp_all)<|cU rfl rfl rfl (by simp) ?_;refine qRC 0 rfl<|aS rfl (λh5=>?_) (λh5=>?_)
     ·refine qCF 0 rfl<|qXF 0 rfl<|qXF 0 rfl ?_;exact fB (x:=false) rfl (pU (c:=c) (λq=>by have z:=((fN c k s).1 (((eS c).1 q).2 k s hs)).2 j x hx;exact WF h5 ⟨z.1,z.2.1,z.2.2.1⟩)).symm
     ·refine qCC 0 rfl<|jX (κ:=Nat) (λi=>⟨slotsF [(1,.ptr 0 0),(33,.sl 1 (c.sets.map aV) ck),(34,vN c.sets.length),(35,vN k),(4,vN k),(5,.sl 3 (s.map wyL) false),(45,.sl 3 (s.map wyL) false),(46,vN s.length),(47,vN j),(6,vN j),(7,.ptr 48 0),(8,vN i)],heapF [(0,.box [vI c.ways,.sl 1 (c.sets.map aV) ck]),(48,.box [vU x.line,vB x.dirty,.v (.string x.data)])],76⟩) (λi=>i<=j∧∀(q:Nat) z,q<i->s[q]?=some z->z.line≠x.line) (λi=>j-i) 0 (λs=>s) (Weak.of_lists (λs=>s) wT wH rfl) (⟨aE _,λq z h=>absurd h (dD q)⟩) ?_;intro i hi;have hiB:i<=1000000:=by have:=hi.1;omega
      refine qS 0 rfl<|rW (vB (decide (i<j))) rfl (okB (ltN _ _)) ?_;refine qRC 0 rfl<|aS rfl (λh6=>?_) (λh6=>?_)
      ·refine qCC 0 rfl<|cRg<|oR 2 rfl ?_;have hil:=of_decide_eq_true h6;obtain⟨z,hz⟩:∃z,s[i]?=some z:=⟨_,aA (by have:=of_decide_eq_true h4;omega)⟩;refine rIx (wyL z) (.dp 3 0 (wyL z)) rfl rfl (fW hz) rfl<|oR 4 rfl<|rW (vB (z.line==x.line)) rfl (okB (eqN _ _))<|rE 87 ?_;refine qXC 0 rfl<|aS rfl (λh7=>?_) (λh7=>?_)
       ·refine qCF 0 rfl<|qXF 0 rfl<|qXF 0 rfl<|qXF 0 rfl ?_;exact fB (x:=false) rfl (pU (c:=c) (λq=>by have y:=(((fN c k s).1 (((eS c).1 q).2 k s hs)).2 j x hx).2.2.2;exact WE.1 y i z hil hz (by simpa using h7))).symm
       ·skip
        have b2:i+1<=1000001:=aF hiB (aC 1);refine qC 0 rfl<|rW (vN (i+1)) rfl (okI (bJ b2 rfl)) ?_;refine qRF 0 rfl<|⟨i+1,λs=>s,Weak.of_lists _ wT wH rfl,⟨hil,λq y hq hy=>by rcases al_Nat_lt_or_ge q i with e|e;exact hi.2 q y e hy;obtain rfl:q=i:=omT;rw[hz]at hy;injection hy with hy;subst hy;simpa using h7⟩,by show j-(i+1)<j-i;omega⟩
      ·refine qCF 0 rfl ?_;have b3:j+1<=1000001:=aF hjB (aC 1);refine qX 0 rfl<|rW (vN (j+1)) rfl (okI (bJ b3 rfl)) ?_;refine qRF 0 rfl<|⟨j+1,λs=>s,Weak.of_lists _ wT wH rfl,⟨of_decide_eq_true h4,MA hx ⟨(LF h5).1,(LF h5).2.1,(LF h5).2.2,WE.2 (λq z hq=>hi.2 q z (by have:=aD h6;omega))⟩ hj.2⟩,by have:=of_decide_eq_true h4;show s.length-(j+1)<s.length-j;omega⟩
    ·refine qCF 0 rfl ?_;have b4:k+1<=1000001:=aF hkB (aC 1);refine qX 0 rfl<|rW (vN (k+1)) rfl (okI (bJ b4 rfl)) ?_;refine qRF 0 rfl<|⟨k+1,λs=>s,Weak.of_lists _ wT wH rfl,⟨of_decide_eq_true h2,Gx hs ((fN c k s).2 ⟨by have:=aD h3;omega,λq y hy=>hj.2 q y (by have:=(DS.1 hy).1;have:=aD h4;omega) hy⟩) hk.2⟩,by have:=of_decide_eq_true h2;show c.sets.length-(k+1)<c.sets.length-k;omega⟩
  ·refine qCF 0 rfl<|qXF 0 rfl ?_;exact fB (x:=true) rfl ((eS c).2 ⟨rX h1,λi s hs=>hk.2 i s (by have:=(DS.1 hs).1;have:=aD h2;omega) hs⟩).symm
abbrev tgR(s:List Wy):List AV:=[Rz (s.map yE)]
def WG{c:Ca}(h:fS c=true):fE c=c.sets.map λs=>s.map yE:=by unfold fE;rw[if_pos h];rfl
def YL(c:Ca)(hok:c.ok):cA C0 33 [.agg (caL c false)] (.sl 1 ((fE c).map aV) false):=by
 refine cA.intro c0Ok Tryz.func33 rfl rfl (by kernel_rfl) rfl<|qS 0 rfl<|rV (.sl 1 ([]) true) rfl<|qR 0 rfl<|rCi rfl (YK c false hok) ?_;refine qRC 0 rfl<|aS rfl (λh1=>?_) (λh1=>?_)
 ·refine qCF 0 rfl ?_;exact⟨_,rfl,trivial,rfl,by show Sub (.sl 1 [] true) (.sl 1 ((fE c).map aV) false);rw[show fE c=[]from if_neg (by simpa using h1)];exact Sub.clip 1 [] true⟩
 ·skip
  have hR:fS c=true:=by simpa using h1
  have hR1:=((eS c).1 hR).1;have hsl4:c.sets.length<=1000000:=by have:=hR1.1;omega
  refine qC 0 rfl<|rW (vN c.sets.length) rfl (bT aV c.sets)<|qRC 0 rfl<|jX (κ:=Nat) (λk=>match k with|0=>⟨slotsF [(1,.ptr 0 0),(15,.sl 1 (c.sets.map aV) false),(16,vN c.sets.length),(3,.sl 1 ([]) true),(17,vN 0)],heapF [(0,.box [vI c.ways,.sl 1 (c.sets.map aV) false])],61⟩|k+1=>⟨slotsF [(1,.ptr 0 0),(15,.sl 1 (c.sets.map aV) false),(16,vN c.sets.length),(3,.osl 60 0 (k+1) false),(17,vN (k+1))],heapF [(0,.box [vI c.ways,.sl 1 (c.sets.map aV) false]),(60,.arr ((c.sets.take (k+1)).map tgR) 1)],61⟩) (λk=>k<=c.sets.length) (λk=>c.sets.length-k) 0 (λs=>s) (Weak.of_lists (λs=>s) wT wH rfl) (aE _) ?_;intro k hk;rcases k with _|k
  ·refine qS 0 rfl<|rW (vB (decide (0<c.sets.length))) rfl (okB (ltN _ _)) ?_;refine qRC 0 rfl<|aS rfl (λh2=>?_) (λh2=>?_)
   ·skip
    obtain⟨s,hs⟩:∃s,c.sets[0]?=some s:=⟨_,aA (of_decide_eq_true h2)⟩;have hso:=hok.set s (aB hs);have hsl:s.length<=2:=by have:=((fN c 0 s).1 (((eS c).1 hR).2 0 s hs)).1;have:=hR1.2;omega
    refine qC 0 rfl<|rIx (aV s) (.dp 1 0 (aV s)) rfl rfl (fW hs) rfl<|qR 0 rfl<|rV (.sl 3 ([]) true) rfl ?_;refine qRJ 0 0 rfl<|CO (κ:=Unit) (λu_=>⟨slotsF [(1,.ptr 0 0),(3,.sl 1 ([]) true),(15,.sl 1 (c.sets.map aV) false),(16,vN c.sets.length),(17,vN 0),(6,.sl 3 ((s.map yE).map wyL) false)],heapF [(0,.box [vI c.ways,.sl 1 (c.sets.map aV) false])],71⟩) (λu_=>True) ?_ ?_
    ·refine qS 0 rfl<|rW (vN s.length) rfl (bT wyL s)<|qRC 0 rfl<|jX (κ:=Nat) (λj=>match j with|0=>⟨slotsF [(1,.ptr 0 0),(3,.sl 1 ([]) true),(15,.sl 1 (c.sets.map aV) false),(16,vN c.sets.length),(17,vN 0),(22,.sl 3 (s.map wyL) false),(23,vN s.length),(6,.sl 3 ([]) true),(24,vN 0)],heapF [(0,.box [vI c.ways,.sl 1 (c.sets.map aV) false])],71⟩|j+1=>⟨slotsF [(1,.ptr 0 0),(3,.sl 1 ([]) true),(15,.sl 1 (c.sets.map aV) false),(16,vN c.sets.length),(17,vN 0),(22,.sl 3 (s.map wyL) false),(23,vN s.length),(6,.osl 70 0 (j+1) false),(24,vN (j+1))],heapF [(0,.box [vI c.ways,.sl 1 (c.sets.map aV) false]),(70,.arr (((s.take (j+1)).map yE).map wyL) 3)],71⟩) (λj=>j<=s.length) (λj=>s.length-j) 0 (λs=>s) (Weak.of_lists (λs=>s) wT wH rfl) (aE _) ?_;intro j hj;rcases j with _|j
     ·refine qS 0 rfl<|rW (vB (decide (0<s.length))) rfl (okB (ltN _ _)) ?_;refine qRC 0 rfl<|aS rfl (λh3=>?_) (λh3=>?_)
      ·skip
       obtain⟨x,hx⟩:∃x,s[0]?=some x:=⟨_,aA (of_decide_eq_true h3)⟩;have hxo:=hso.2 x (aB hx);refine qC 0 rfl<|rIx (wyL x) (.dp 3 0 (wyL x)) rfl rfl (fW hx) rfl<|qR 0 rfl<|rV (.agg [vU x.line,vB x.dirty,.v (.string (⟨#[]⟩))]) rfl<|rV (.sl 3 ([[vU x.line,vB x.dirty,.v (.string (⟨#[]⟩))]]) true) rfl<|rFx (x:=.osl 83 0 1 false) (h':=upd _ 83 (some (.arr (([])++([[vU x.line,vB x.dirty,.v (.string (⟨#[]⟩))]])) 3))) rfl rfl (rfl) (⟨by simp[gJ],by simp[gJ],trivial,trivial⟩) ?_;have b1:0+1<=1:=aF (aC 0) (aC 1);refine qR 0 rfl<|rW (vN (0+1)) rfl (okI (bJ b1 rfl)) ?_;refine qRF 0 rfl<|⟨1,λs=>match s with|70=>83|s=>s,Weak.of_lists _ wT ⟨⟨rfl,rfl,rfl⟩,⟨rfl,(congrArg (λz=>some (Blk.arr z 3)) (Ib s hx)),rfl⟩,trivial⟩ rfl,of_decide_eq_true h3,by have:=of_decide_eq_true h3;show s.length-(1)<s.length-(0);omega⟩
      ·refine qCF 0 rfl ?_;have hs0:s=[]:=aR (by have:=aD h3;omega);refine qXF 0 rfl<| .mk _ (.step none (Ghost.of_lists (l:=[(1,.ptr 0 0),(3,.sl 1 ([]) true),(15,.sl 1 (c.sets.map aV) false),(16,vN c.sets.length),(17,vN 0),(6,.sl 3 ((s.map yE).map wyL) false)]) (hp:=[(0,.box [vI c.ways,.sl 1 (c.sets.map aV) false])]) trivial ⟨.refl _,.refl _,.refl _,.refl _,.refl _,(by rw[hs0];exact .clip 3 []),trivial⟩ ⟨⟨trivial,_,rfl,.refl _⟩,trivial⟩) (.refl _)) ⟨(),λs=>s,Weak.of_lists _ wT wH rfl,rfl,trivial⟩
     ·have hjB:j+1<=1000000:=by omega
      refine qS 0 rfl<|rW (vB (decide ((j+1)<s.length))) rfl (okB (ltN _ _)) ?_;refine qRC 0 rfl<|aS rfl (λh4=>?_) (λh4=>?_)
      ·skip
       obtain⟨x,hx⟩:∃x,s[(j+1)]?=some x:=⟨_,aA (of_decide_eq_true h4)⟩;have hxo:=hso.2 x (aB hx);refine qC 0 rfl<|rIx (wyL x) (.dp 3 0 (wyL x)) rfl rfl (fW hx) rfl<|qR 0 rfl<|rV (.agg [vU x.line,vB x.dirty,.v (.string (⟨#[]⟩))]) rfl<|rV (.sl 3 ([[vU x.line,vB x.dirty,.v (.string (⟨#[]⟩))]]) true) rfl<|rFx (x:=.osl 83 0 (j+1+1) false) (h':=upd (upd _ 70 none) 83 (some (.arr (((s.take (j+1+1)).map yE).map wyL) 3))) rfl rfl (Bf (CI (of_decide_eq_true h4)) (Le s hx)) (⟨by rw[CI (of_decide_eq_true h4)];show j+1+1<=1000000;have:=of_decide_eq_true h4;omega,by rw[bF];simp;have:=of_decide_eq_true h4;omega,trivial⟩) ?_;have b2:(j+1)+1<=1000001:=aF hjB (aC 1);refine qR 0 rfl<|rW (vN ((j+1)+1)) rfl (okI (bJ b2 rfl)) ?_;refine qRF 0 rfl<|⟨(j+1)+1,λs=>match s with|70=>83|s=>s,Weak.of_lists _ wT wH rfl,of_decide_eq_true h4,by have:=of_decide_eq_true h4;show s.length-((j+1)+1)<s.length-(j+1);omega⟩
      ·refine qCF 0 rfl ?_;have hjl:j+1=s.length:=by have:=aD h4;omega
       refine qXF 0 rfl<| .mk _ (.step (some (70,3,((s.take (j+1)).map yE).map wyL)) (Ghost.of_lists (l:=[(1,.ptr 0 0),(3,.sl 1 ([]) true),(15,.sl 1 (c.sets.map aV) false),(16,vN c.sets.length),(17,vN 0),(6,.sl 3 ((s.map yE).map wyL) false)]) (hp:=[(0,.box [vI c.ways,.sl 1 (c.sets.map aV) false])]) rfl ⟨.refl _,.refl _,.refl _,.refl _,.refl _,(Lf hjl),trivial⟩ rbT) (.refl _)) ⟨(),λs=>s,Weak.of_lists _ wT wH rfl,rfl,trivial⟩
    ·intro u_ _;refine qC 0 rfl<|rV (.sl 1 ([[.sl 3 ((s.map yE).map wyL) false]]) true) rfl<|rFx (x:=.osl 74 0 1 false) (h':=upd _ 74 (some (.arr (([])++([[.sl 3 ((s.map yE).map wyL) false]])) 1))) rfl rfl (rfl) (⟨by simp[gJ],by simp[gJ],trivial,trivial⟩) ?_;have b3:0+1<=1:=aF (aC 0) (aC 1);refine qR 0 rfl<|rW (vN (0+1)) rfl (okI (bJ b3 rfl)) ?_;refine qRF 0 rfl<|⟨1,λs=>match s with|60=>74|s=>s,Weak.of_lists _ wT ⟨⟨rfl,rfl,rfl⟩,⟨rfl,(congrArg (λz=>some (Blk.arr z 1)) (KM tgR c.sets hs)),rfl⟩,trivial⟩ rfl,of_decide_eq_true h2,by have:=of_decide_eq_true h2;show c.sets.length-(1)<c.sets.length-(0);omega⟩
   ·refine qCF 0 rfl<|qXF 0 rfl ?_;exact absurd (aD h2) (by have:=hR1.1;omega)
  ·have hkB:k+1<=1000000:=by omega
   refine qS 0 rfl<|rW (vB (decide ((k+1)<c.sets.length))) rfl (okB (ltN _ _)) ?_;refine qRC 0 rfl<|aS rfl (λh5=>?_) (λh5=>?_)
   ·skip
    obtain⟨s,hs⟩:∃s,c.sets[(k+1)]?=some s:=⟨_,aA (of_decide_eq_true h5)⟩;have hso:=hok.set s (aB hs);have hsl:s.length<=2:=by have:=((fN c (k+1) s).1 (((eS c).1 hR).2 (k+1) s hs)).1;have:=hR1.2;omega
    refine qC 0 rfl<|rIx (aV s) (.dp 1 0 (aV s)) rfl rfl (fW hs) rfl<|qR 0 rfl<|rV (.sl 3 ([]) true) rfl ?_;refine qRJ 0 0 rfl<|CO (κ:=Unit) (λu_=>⟨slotsF [(1,.ptr 0 0),(3,.osl 60 0 (k+1) false),(15,.sl 1 (c.sets.map aV) false),(16,vN c.sets.length),(17,vN (k+1)),(6,.sl 3 ((s.map yE).map wyL) false)],heapF [(0,.box [vI c.ways,.sl 1 (c.sets.map aV) false]),(60,.arr ((c.sets.take (k+1)).map tgR) 1)],71⟩) (λu_=>True) ?_ ?_
    ·refine qS 0 rfl<|rW (vN s.length) rfl (bT wyL s)<|qRC 0 rfl<|jX (κ:=Nat) (λj=>match j with|0=>⟨slotsF [(1,.ptr 0 0),(3,.osl 60 0 (k+1) false),(15,.sl 1 (c.sets.map aV) false),(16,vN c.sets.length),(17,vN (k+1)),(22,.sl 3 (s.map wyL) false),(23,vN s.length),(6,.sl 3 ([]) true),(24,vN 0)],heapF [(0,.box [vI c.ways,.sl 1 (c.sets.map aV) false]),(60,.arr ((c.sets.take (k+1)).map tgR) 1)],71⟩|j+1=>⟨slotsF [(1,.ptr 0 0),(3,.osl 60 0 (k+1) false),(15,.sl 1 (c.sets.map aV) false),(16,vN c.sets.length),(17,vN (k+1)),(22,.sl 3 (s.map wyL) false),(23,vN s.length),(6,.osl 70 0 (j+1) false),(24,vN (j+1))],heapF [(0,.box [vI c.ways,.sl 1 (c.sets.map aV) false]),(60,.arr ((c.sets.take (k+1)).map tgR) 1),(70,.arr (((s.take (j+1)).map yE).map wyL) 3)],71⟩) (λj=>j<=s.length) (λj=>s.length-j) 0 (λs=>s) (Weak.of_lists (λs=>s) wT wH rfl) (aE _) ?_;intro j hj;rcases j with _|j
     ·refine qS 0 rfl<|rW (vB (decide (0<s.length))) rfl (okB (ltN _ _)) ?_;refine qRC 0 rfl<|aS rfl (λh6=>?_) (λh6=>?_)
      ·skip
       obtain⟨x,hx⟩:∃x,s[0]?=some x:=⟨_,aA (of_decide_eq_true h6)⟩;have hxo:=hso.2 x (aB hx);refine qC 0 rfl<|rIx (wyL x) (.dp 3 0 (wyL x)) rfl rfl (fW hx) rfl<|qR 0 rfl<|rV (.agg [vU x.line,vB x.dirty,.v (.string (⟨#[]⟩))]) rfl<|rV (.sl 3 ([[vU x.line,vB x.dirty,.v (.string (⟨#[]⟩))]]) true) rfl<|rFx (x:=.osl 83 0 1 false) (h':=upd _ 83 (some (.arr (([])++([[vU x.line,vB x.dirty,.v (.string (⟨#[]⟩))]])) 3))) rfl rfl (rfl) (⟨by simp[gJ],by simp[gJ],trivial,trivial⟩) ?_;have b4:0+1<=1:=aF (aC 0) (aC 1);refine qR 0 rfl<|rW (vN (0+1)) rfl (okI (bJ b4 rfl)) ?_;refine qRF 0 rfl<|⟨1,λs=>match s with|70=>83|s=>s,Weak.of_lists _ wT ⟨⟨rfl,rfl,rfl⟩,⟨rfl,rfl,rfl⟩,⟨rfl,(congrArg (λz=>some (Blk.arr z 3)) (Ib s hx)),rfl⟩,trivial⟩ rfl,of_decide_eq_true h6,by have:=of_decide_eq_true h6;show s.length-(1)<s.length-(0);omega⟩
      ·refine qCF 0 rfl ?_;have hs0:s=[]:=aR (by have:=aD h6;omega);refine qXF 0 rfl<| .mk _ (.step none (Ghost.of_lists (l:=[(1,.ptr 0 0),(3,.osl 60 0 (k+1) false),(15,.sl 1 (c.sets.map aV) false),(16,vN c.sets.length),(17,vN (k+1)),(6,.sl 3 ((s.map yE).map wyL) false)]) (hp:=[(0,.box [vI c.ways,.sl 1 (c.sets.map aV) false]),(60,.arr ((c.sets.take (k+1)).map tgR) 1)]) trivial ⟨.refl _,.refl _,.refl _,.refl _,.refl _,(by rw[hs0];exact .clip 3 []),trivial⟩ ⟨⟨trivial,_,rfl,.refl _⟩,⟨trivial,_,rfl,.refl _⟩,trivial⟩) (.refl _)) ⟨(),λs=>s,Weak.of_lists _ wT wH rfl,rfl,trivial⟩
     ·have hjB:j+1<=1000000:=by omega
      refine qS 0 rfl<|rW (vB (decide ((j+1)<s.length))) rfl (okB (ltN _ _)) ?_;refine qRC 0 rfl<|aS rfl (λh7=>?_) (λh7=>?_)
      ·skip
       obtain⟨x,hx⟩:∃x,s[(j+1)]?=some x:=⟨_,aA (of_decide_eq_true h7)⟩;have hxo:=hso.2 x (aB hx);refine qC 0 rfl<|rIx (wyL x) (.dp 3 0 (wyL x)) rfl rfl (fW hx) rfl<|qR 0 rfl<|rV (.agg [vU x.line,vB x.dirty,.v (.string (⟨#[]⟩))]) rfl<|rV (.sl 3 ([[vU x.line,vB x.dirty,.v (.string (⟨#[]⟩))]]) true) rfl<|rFx (x:=.osl 83 0 (j+1+1) false) (h':=upd (upd _ 70 none) 83 (some (.arr (((s.take (j+1+1)).map yE).map wyL) 3))) rfl rfl (Bf (CI (of_decide_eq_true h7)) (Le s hx)) (⟨by rw[CI (of_decide_eq_true h7)];show j+1+1<=1000000;have:=of_decide_eq_true h7;omega,by rw[bF];simp;have:=of_decide_eq_true h7;omega,trivial⟩) ?_;have b5:(j+1)+1<=1000001:=aF hjB (aC 1);refine qR 0 rfl<|rW (vN ((j+1)+1)) rfl (okI (bJ b5 rfl)) ?_;refine qRF 0 rfl<|⟨(j+1)+1,λs=>match s with|70=>83|s=>s,Weak.of_lists _ wT wH rfl,of_decide_eq_true h7,by have:=of_decide_eq_true h7;show s.length-((j+1)+1)<s.length-(j+1);omega⟩
      ·refine qCF 0 rfl ?_;have hjl:j+1=s.length:=by have:=aD h7;omega
       refine qXF 0 rfl<| .mk _ (.step (some (70,3,((s.take (j+1)).map yE).map wyL)) (Ghost.of_lists (l:=[(1,.ptr 0 0),(3,.osl 60 0 (k+1) false),(15,.sl 1 (c.sets.map aV) false),(16,vN c.sets.length),(17,vN (k+1)),(6,.sl 3 ((s.map yE).map wyL) false)]) (hp:=[(0,.box [vI c.ways,.sl 1 (c.sets.map aV) false]),(60,.arr ((c.sets.take (k+1)).map tgR) 1)]) rfl ⟨.refl _,.refl _,.refl _,.refl _,.refl _,(Lf hjl),trivial⟩ rbT) (.refl _)) ⟨(),λs=>s,Weak.of_lists _ wT wH rfl,rfl,trivial⟩
    ·intro u_ _;refine qC 0 rfl<|rV (.sl 1 ([[.sl 3 ((s.map yE).map wyL) false]]) true) rfl<|rFx (x:=.osl 74 0 (k+1+1) false) (h':=upd (upd _ 60 none) 74 (some (.arr ((c.sets.take (k+1+1)).map tgR) 1))) rfl rfl (Bf (wP _ _ (of_decide_eq_true h5)) (Vh tgR c.sets hs)) (⟨by rw[wP _ _ (of_decide_eq_true h5)];show k+1+1<=1000000;have:=of_decide_eq_true h5;omega,by rw[bF];simp;have:=of_decide_eq_true h5;omega,trivial⟩) ?_;have b6:(k+1)+1<=1000001:=aF hkB (aC 1);refine qR 0 rfl<|rW (vN ((k+1)+1)) rfl (okI (bJ b6 rfl)) ?_;refine qRF 0 rfl<|⟨(k+1)+1,λs=>match s with|60=>74|s=>s,Weak.of_lists _ wT wH rfl,of_decide_eq_true h5,by have:=of_decide_eq_true h5;show c.sets.length-((k+1)+1)<c.sets.length-(k+1);omega⟩
   ·refine qCF 0 rfl<|qXF 0 rfl ?_;have hke:k+1=c.sets.length:=by have:=aD h5;omega
    refine⟨_,rfl,(by show 0+(k+1)<=((c.sets.take (k+1)).map tgR).length;rw[aG,aL];omega),rfl,?_⟩;show Sub (.sl 1 (List.take (k+1) (List.drop 0 ((c.sets.take (k+1)).map tgR))) false) (.sl 1 ((fE c).map aV) false);rw[BS tgR c.sets hke,WG hR,List.map_map];exact Sub.refl _
def abS(c:Co)(before:Int)(hok:c.okW):cA C0 11 [.agg (coL c),.v (.int .i64 before)] (.agg (seL (Xz c before))):=by
 refine cA.intro c0Ok Tryz.func11 rfl rfl (by kernel_rfl) rfl ?_;obtain⟨B,hB,hB1⟩:∃B:Nat,Ct before=(B:Int)∧((B:Int)=before∨(B=0∧before<0)):=⟨(Ct before).toNat,by unfold Ct;split<;>omega,by unfold Ct;split<;>omega⟩;refine qSC 0 rfl<|cRg<|oR 2 rfl<|rCi rfl (YL c.data hok.data)<|oR 2 rfl<|rCi rfl (YL c.words hok.words)<|rV (.agg [.sl 1 ((fE c.data).map aV) false,.sl 1 ((fE c.words).map aV) false,.sl 0 ([]) true,.sl 0 ([]) true]) rfl<|rAl 9 rfl rfl<|rSt rfl<|rE 11 ?_;refine qX 0 rfl<|rW (vN c.bus.length) rfl (bT rqL c.bus)<|qRC 0 rfl<|jX (κ:=Nat) (λj=>match j with|0=>⟨slotsF [(1,vI before),(2,.ptr 0 0),(4,.ptr 1 0),(5,.ptr 9 0),(18,.sl 4 (c.bus.map rqL) false),(19,vN c.bus.length),(20,vN 0)],heapF [(0,.box [vI c.conf.mode,vI c.conf.width,vI c.conf.rob,vI c.conf.queue,vI c.conf.stores,vI c.conf.slots,vI c.conf.sets,vI c.conf.ways,.sl 1 (c.conf.lat.map iK) false,vB c.conf.tables,.sl 1 (c.conf.tape.map eE) false,.sl 1 (c.prog.map eE) false,vI c.cycle,vU (c.r 0),vU (c.r 1),vU (c.r 2),vU (c.r 3),vU (c.r 4),vU (c.r 5),vU (c.r 6),vU (c.r 7),vU (c.r 8),vU (c.r 9),vU (c.r 10),vU (c.r 11),vU (c.r 12),vU (c.r 13),vU (c.r 14),vU (c.r 15),vU (c.r 16),vU (c.r 17),vU (c.r 18),vU (c.r 19),vU (c.r 20),vU (c.r 21),vU (c.r 22),vU (c.r 23),vU (c.r 24),vU (c.r 25),vU (c.r 26),vU (c.r 27),vU (c.r 28),vU (c.r 29),vU (c.r 30),vU (c.r 31),vU c.fetch,vB c.stop,.sl 2 (c.fetched.map ftL) false,.sl 17 (c.rob.map enL) false,vI c.next,.sl 2 (c.stores.map ptL) false,vI c.data.ways,.sl 1 (c.data.sets.map aV) false,vI c.words.ways,.sl 1 (c.words.sets.map aV) false,.sl 4 (c.bus.map rqL) false,vI c.asked,vI c.guessed,.v (.string c.mem),.sl 2 (c.guess.slots.map gsL) false,vU c.guess.hist,.sl 1 (c.guess.rets.map eE) false,vI c.halt,.sl 9 (c.retired.map spL) false]),(1,.box [.sl 0 ([]) true,.sl 0 ([]) true,.sl 0 ([]) true,.sl 0 ([]) true]),(9,.box [.sl 1 ((fE c.data).map aV) false,.sl 1 ((fE c.words).map aV) false,.sl 0 ([]) true,.sl 0 ([]) true])],61⟩|j+1=>⟨slotsF [(1,vI before),(2,.ptr 0 0),(4,.ptr 1 0),(5,.ptr 9 0),(18,.sl 4 (c.bus.map rqL) false),(19,vN c.bus.length),(20,vN (j+1))],heapF [(0,.box [vI c.conf.mode,vI c.conf.width,vI c.conf.rob,vI c.conf.queue,vI c.conf.stores,vI c.conf.slots,vI c.conf.sets,vI c.conf.ways,.sl 1 (c.conf.lat.map iK) false,vB c.conf.tables,.sl 1 (c.conf.tape.map eE) false,.sl 1 (c.prog.map eE) false,vI c.cycle,vU (c.r 0),vU (c.r 1),vU (c.r 2),vU (c.r 3),vU (c.r 4),vU (c.r 5),vU (c.r 6),vU (c.r 7),vU (c.r 8),vU (c.r 9),vU (c.r 10),vU (c.r 11),vU (c.r 12),vU (c.r 13),vU (c.r 14),vU (c.r 15),vU (c.r 16),vU (c.r 17),vU (c.r 18),vU (c.r 19),vU (c.r 20),vU (c.r 21),vU (c.r 22),vU (c.r 23),vU (c.r 24),vU (c.r 25),vU (c.r 26),vU (c.r 27),vU (c.r 28),vU (c.r 29),vU (c.r 30),vU (c.r 31),vU c.fetch,vB c.stop,.sl 2 (c.fetched.map ftL) false,.sl 17 (c.rob.map enL) false,vI c.next,.sl 2 (c.stores.map ptL) false,vI c.data.ways,.sl 1 (c.data.sets.map aV) false,vI c.words.ways,.sl 1 (c.words.sets.map aV) false,.sl 4 (c.bus.map rqL) false,vI c.asked,vI c.guessed,.v (.string c.mem),.sl 2 (c.guess.slots.map gsL) false,vU c.guess.hist,.sl 1 (c.guess.rets.map eE) false,vI c.halt,.sl 9 (c.retired.map spL) false]),(1,.box [.sl 0 ([]) true,.sl 0 ([]) true,.sl 0 ([]) true,.sl 0 ([]) true]),(9,.box [.sl 1 ((fE c.data).map aV) false,.sl 1 ((fE c.words).map aV) false,.osl 60 0 (j+1) false,.sl 0 ([]) true]),(60,.arr ((c.bus.take (j+1)).map DI) 4)],61⟩) (λj=>j<=c.bus.length) (λj=>c.bus.length-j) 0 (λs=>s) (Weak.of_lists (λs=>s) wT wH rfl) (aE _) ?_;intro j hj;rcases j with _|j
 ·refine qS 0 rfl<|rW (vB (decide (0<c.bus.length))) rfl (okB (ltN _ _)) ?_;refine qRC 0 rfl<|aS rfl (λh1=>?_) (λh1=>?_)
  ·skip
   obtain⟨x,hx⟩:∃x,c.bus[0]?=some x:=⟨_,aA (of_decide_eq_true h1)⟩;have hxo:=hok.busr x (aB hx);refine qC 0 rfl<|rIx (rqL x) (.dp 4 0 (rqL x)) rfl rfl (fW hx) rfl<|qR 0 rfl<|rV (.agg [vI x.kind,vU x.line,vI 0,.v (.string (⟨#[]⟩))]) rfl<|rV (.sl 4 ([[vI x.kind,vU x.line,vI 0,.v (.string (⟨#[]⟩))]]) true) rfl<|rFx (x:=.osl 74 0 1 false) (h':=upd _ 74 (some (.arr ([[vI x.kind,vU x.line,vI 0,.v (.string (⟨#[]⟩))]]) 4))) rfl rfl (rfl) (⟨rfl,by simp[gJ],by simp[gJ],trivial⟩) ?_;have b1:0+1<=1:=aF (aC 0) (aC 1);refine qR 0 rfl<|rW (vN (0+1)) rfl (okI (bJ b1 rfl)) ?_;refine qRF 0 rfl<|⟨1,λs=>match s with|60=>74|s=>s,Weak.of_lists _ wT ⟨⟨rfl,rfl,rfl⟩,⟨rfl,rfl,rfl⟩,⟨rfl,rfl,rfl⟩,⟨rfl,(congrArg (λz=>some (Blk.arr z 4)) (KM DI c.bus hx)),rfl⟩,trivial⟩ rfl,of_decide_eq_true h1,by have:=of_decide_eq_true h1;show c.bus.length-(1)<c.bus.length-(0);omega⟩
  ·refine qCF 0 rfl<|qX 0 rfl<|rW (vN c.retired.length) rfl (bT spL c.retired)<|qRC 0 rfl<|jX (κ:=Nat×Nat) (λz=>match z with|(k,0)=>⟨slotsF [(1,vI before),(2,.ptr 0 0),(4,.ptr 1 0),(5,.ptr 9 0),(36,.sl 9 (c.retired.map spL) false),(37,vN c.retired.length),(38,vN k)],heapF [(0,.box [vI c.conf.mode,vI c.conf.width,vI c.conf.rob,vI c.conf.queue,vI c.conf.stores,vI c.conf.slots,vI c.conf.sets,vI c.conf.ways,.sl 1 (c.conf.lat.map iK) false,vB c.conf.tables,.sl 1 (c.conf.tape.map eE) false,.sl 1 (c.prog.map eE) false,vI c.cycle,vU (c.r 0),vU (c.r 1),vU (c.r 2),vU (c.r 3),vU (c.r 4),vU (c.r 5),vU (c.r 6),vU (c.r 7),vU (c.r 8),vU (c.r 9),vU (c.r 10),vU (c.r 11),vU (c.r 12),vU (c.r 13),vU (c.r 14),vU (c.r 15),vU (c.r 16),vU (c.r 17),vU (c.r 18),vU (c.r 19),vU (c.r 20),vU (c.r 21),vU (c.r 22),vU (c.r 23),vU (c.r 24),vU (c.r 25),vU (c.r 26),vU (c.r 27),vU (c.r 28),vU (c.r 29),vU (c.r 30),vU (c.r 31),vU c.fetch,vB c.stop,.sl 2 (c.fetched.map ftL) false,.sl 17 (c.rob.map enL) false,vI c.next,.sl 2 (c.stores.map ptL) false,vI c.data.ways,.sl 1 (c.data.sets.map aV) false,vI c.words.ways,.sl 1 (c.words.sets.map aV) false,.sl 4 (c.bus.map rqL) false,vI c.asked,vI c.guessed,.v (.string c.mem),.sl 2 (c.guess.slots.map gsL) false,vU c.guess.hist,.sl 1 (c.guess.rets.map eE) false,vI c.halt,.sl 9 (c.retired.map spL) false]),(1,.box [.sl 0 ([]) true,.sl 0 ([]) true,.sl 0 ([]) true,.sl 0 ([]) true]),(9,.box [.sl 1 ((fE c.data).map aV) false,.sl 1 ((fE c.words).map aV) false,.sl 0 ([]) true,.sl 0 ([]) true])],71⟩|(k,m+1)=>⟨slotsF [(1,vI before),(2,.ptr 0 0),(4,.ptr 1 0),(5,.ptr 9 0),(36,.sl 9 (c.retired.map spL) false),(37,vN c.retired.length),(38,vN k)],heapF [(0,.box [vI c.conf.mode,vI c.conf.width,vI c.conf.rob,vI c.conf.queue,vI c.conf.stores,vI c.conf.slots,vI c.conf.sets,vI c.conf.ways,.sl 1 (c.conf.lat.map iK) false,vB c.conf.tables,.sl 1 (c.conf.tape.map eE) false,.sl 1 (c.prog.map eE) false,vI c.cycle,vU (c.r 0),vU (c.r 1),vU (c.r 2),vU (c.r 3),vU (c.r 4),vU (c.r 5),vU (c.r 6),vU (c.r 7),vU (c.r 8),vU (c.r 9),vU (c.r 10),vU (c.r 11),vU (c.r 12),vU (c.r 13),vU (c.r 14),vU (c.r 15),vU (c.r 16),vU (c.r 17),vU (c.r 18),vU (c.r 19),vU (c.r 20),vU (c.r 21),vU (c.r 22),vU (c.r 23),vU (c.r 24),vU (c.r 25),vU (c.r 26),vU (c.r 27),vU (c.r 28),vU (c.r 29),vU (c.r 30),vU (c.r 31),vU c.fetch,vB c.stop,.sl 2 (c.fetched.map ftL) false,.sl 17 (c.rob.map enL) false,vI c.next,.sl 2 (c.stores.map ptL) false,vI c.data.ways,.sl 1 (c.data.sets.map aV) false,vI c.words.ways,.sl 1 (c.words.sets.map aV) false,.sl 4 (c.bus.map rqL) false,vI c.asked,vI c.guessed,.v (.string c.mem),.sl 2 (c.guess.slots.map gsL) false,vU c.guess.hist,.sl 1 (c.guess.rets.map eE) false,vI c.halt,.sl 9 (c.retired.map spL) false]),(1,.box [.sl 0 ([]) true,.sl 0 ([]) true,.sl 0 ([]) true,.sl 0 ([]) true]),(9,.box [.sl 1 ((fE c.data).map aV) false,.sl 1 ((fE c.words).map aV) false,.sl 0 ([]) true,.osl 70 0 (m+1) false]),(70,.arr (((c.retired.drop B).take (m+1)).map pcL) 1)],71⟩) (λz=>z.2=z.1-B∧z.1<=c.retired.length) (λz=>c.retired.length-z.1) (0,0) (λs=>s) (Weak.of_lists (λs=>s) wT wH rfl) (⟨(Nat.zero_sub _).symm,aE _⟩) ?_;intro z hk;obtain⟨k,_|m⟩:=z
   ·have hk1:0=k-B:=hk.1;have hk2:k<=c.retired.length:=hk.2;have hkB:k<=1000000:=by have:=hok.ret;omega
    refine qS 0 rfl<|rW (vB (decide (k<c.retired.length))) rfl (okB (ltN _ _)) ?_;refine qRC 0 rfl<|aS rfl (λh2=>?_) (λh2=>?_)
    ·skip
     obtain⟨y,hy⟩:∃y,c.retired[k]?=some y:=⟨_,aA (of_decide_eq_true h2)⟩;have hyo:=hok.retr y (aB hy);refine qC 0 rfl<|rIx (spL y) (.dp 9 0 (spL y)) rfl rfl (fW hy) rfl<|qR 0 rfl<|rV (vB (decide ((k:Int)>=before))) rfl ?_;refine qRC 0 rfl<|aS rfl (λh3=>?_) (λh3=>?_)
     ·skip
      have hge:=of_decide_eq_true h3;have hy0:(c.retired.drop B)[0]?=some y:=by rw[cE,show B+(0)=k from by omega];exact hy
      refine qC 0 rfl<|rV (.sl 1 ([[vU y.pc]]) true) rfl<|rFx (x:=.osl 86 0 1 false) (h':=upd _ 86 (some (.arr ([[vU y.pc]]) 1))) rfl rfl (rfl) (⟨rfl,by simp[gJ],by simp[gJ],trivial⟩) ?_;have b2:k+1<=1000001:=aF hkB (aC 1);refine qR 0 rfl<|rW (vN (k+1)) rfl (okI (bJ b2 rfl)) ?_;refine qRF 0 rfl<|⟨(k+1,1),λs=>match s with|70=>86|s=>s,Weak.of_lists _ wT ⟨⟨rfl,rfl,rfl⟩,⟨rfl,rfl,rfl⟩,⟨rfl,rfl,rfl⟩,⟨rfl,(congrArg (λz=>some (Blk.arr z 1)) (KM pcL (c.retired.drop B) hy0)),rfl⟩,trivial⟩ rfl,⟨by have q:=of_decide_eq_true h3;show 0+1=k+1-B;omega,of_decide_eq_true h2⟩,by have:=of_decide_eq_true h2;show c.retired.length-(k+1)<c.retired.length-k;omega⟩
     ·skip
      have b3:k+1<=1000001:=aF hkB (aC 1);refine qC 0 rfl<|rW (vN (k+1)) rfl (okI (bJ b3 rfl)) ?_;refine qRF 0 rfl<|⟨(k+1,0),λs=>s,Weak.of_lists _ wT wH rfl,⟨by have q:=aD h3;show 0=k+1-B;omega,of_decide_eq_true h2⟩,by have:=of_decide_eq_true h2;show c.retired.length-(k+1)<c.retired.length-k;omega⟩
    ·refine qCF 0 rfl<|qXF 0 rfl ?_;have hB2:(Ct before).toNat=B:=by rw[hB];rfl
     have hb0:c.bus=[]:=aR (by have:=aD h1;omega);have hr0:(c.retired.drop B)=[]:=cC (by have:=aD h2;omega);exact⟨_,rfl,tvT,rfl,Sub.agg ⟨Sub.refl _,Sub.refl _,(by show Sub (.sl 0 [] true) (.sl 4 ((c.bus.map Rx).map rqL) false);rw[hb0];exact lP 4 false),(by show Sub (.sl 0 [] true) (.sl 1 (((c.retired.drop (Ct before).toNat).map (·.pc)).map eE) false);rw[hB2,hr0];exact lP 1 false),trivial⟩⟩
   ·have hk1:m+1=k-B:=hk.1;have hk2:k<=c.retired.length:=hk.2;have hkB:k<=1000000:=by have:=hok.ret;omega
    refine qS 0 rfl<|rW (vB (decide (k<c.retired.length))) rfl (okB (ltN _ _)) ?_;refine qRC 0 rfl<|aS rfl (λh4=>?_) (λh4=>?_)
    ·skip
     obtain⟨y,hy⟩:∃y,c.retired[k]?=some y:=⟨_,aA (of_decide_eq_true h4)⟩;have hyo:=hok.retr y (aB hy);refine qC 0 rfl<|rIx (spL y) (.dp 9 0 (spL y)) rfl rfl (fW hy) rfl<|qR 0 rfl<|rV (vB (decide ((k:Int)>=before))) rfl ?_;refine qRC 0 rfl<|aS rfl (λh5=>?_) (λh5=>?_)
     ·skip
      have hge:=of_decide_eq_true h5;have hy0:(c.retired.drop B)[m+1]?=some y:=by rw[cE,show B+(m+1)=k from by omega];exact hy
      refine qC 0 rfl<|rV (.sl 1 ([[vU y.pc]]) true) rfl<|rFx (x:=.osl 86 0 (m+1+1) false) (h':=upd (upd _ 70 none) 86 (some (.arr (((c.retired.drop B).take (m+1+1)).map pcL) 1))) rfl rfl (Bf (wP _ _ (show m+1<(c.retired.drop B).length from by rw[aU];have:=of_decide_eq_true h4;omega)) (Vh pcL (c.retired.drop B) hy0)) (⟨by rw[wP _ _ (show m+1<(c.retired.drop B).length from by rw[aU];have:=of_decide_eq_true h4;omega)];have:=hok.ret;show m+1+1<=1000000;have:=of_decide_eq_true h4;omega,by rw[bF];simp;have:=of_decide_eq_true h4;omega,trivial⟩) ?_;have b4:k+1<=1000001:=aF hkB (aC 1);refine qR 0 rfl<|rW (vN (k+1)) rfl (okI (bJ b4 rfl)) ?_;refine qRF 0 rfl<|⟨(k+1,(m+1)+1),λs=>match s with|70=>86|s=>s,Weak.of_lists _ wT wH rfl,⟨by have q:=of_decide_eq_true h5;show m+1+1=k+1-B;omega,of_decide_eq_true h4⟩,by have:=of_decide_eq_true h4;show c.retired.length-(k+1)<c.retired.length-k;omega⟩
     ·skip
      have b5:k+1<=1000001:=aF hkB (aC 1);refine qC 0 rfl<|rW (vN (k+1)) rfl (okI (bJ b5 rfl)) ?_;refine qRF 0 rfl<|⟨(k+1,m+1),λs=>s,Weak.of_lists _ wT wH rfl,⟨by have q:=aD h5;show m+1=k+1-B;omega,of_decide_eq_true h4⟩,by have:=of_decide_eq_true h4;show c.retired.length-(k+1)<c.retired.length-k;omega⟩
    ·refine qCF 0 rfl<|qXF 0 rfl ?_;have hB2:(Ct before).toNat=B:=by rw[hB];rfl
     have hb0:c.bus=[]:=aR (by have:=aD h1;omega);have hk3:m+1=(c.retired.drop B).length:=by rw[aU];have:=aD h4;omega
     exact⟨_,rfl,⟨trivial,trivial,trivial,(by show 0+(m+1)<=(((c.retired.drop B).take (m+1)).map pcL).length;rw[aG,aL];omega),trivial⟩,rfl,Sub.agg ⟨Sub.refl _,Sub.refl _,(by show Sub (.sl 0 [] true) (.sl 4 ((c.bus.map Rx).map rqL) false);rw[hb0];exact lP 4 false),(by show Sub (.sl 1 (List.take (m+1) (List.drop 0 (((c.retired.drop B).take (m+1)).map pcL))) false) (.sl 1 (((c.retired.drop (Ct before).toNat).map (·.pc)).map eE) false);rw[hB2,BS pcL (c.retired.drop B) hk3,List.map_map];exact Sub.refl _),trivial⟩⟩
 ·have hjB:j+1<=1000000:=by have:=hok.bus;omega
  refine qS 0 rfl<|rW (vB (decide ((j+1)<c.bus.length))) rfl (okB (ltN _ _)) ?_;refine qRC 0 rfl<|aS rfl (λh6=>?_) (λh6=>?_)
  ·skip
   obtain⟨x,hx⟩:∃x,c.bus[(j+1)]?=some x:=⟨_,aA (of_decide_eq_true h6)⟩;have hxo:=hok.busr x (aB hx);refine qC 0 rfl<|rIx (rqL x) (.dp 4 0 (rqL x)) rfl rfl (fW hx) rfl<|qR 0 rfl<|rV (.agg [vI x.kind,vU x.line,vI 0,.v (.string (⟨#[]⟩))]) rfl<|rV (.sl 4 ([[vI x.kind,vU x.line,vI 0,.v (.string (⟨#[]⟩))]]) true) rfl<|rFx (x:=.osl 74 0 (j+1+1) false) (h':=upd (upd _ 60 none) 74 (some (.arr ((c.bus.take (j+1+1)).map DI) 4))) rfl rfl (Bf (wP _ _ (of_decide_eq_true h6)) (Vh DI c.bus hx)) (⟨by rw[wP _ _ (of_decide_eq_true h6)];have:=hok.bus;show j+1+1<=1000000;have:=of_decide_eq_true h6;omega,by rw[bF];simp;have:=of_decide_eq_true h6;omega,trivial⟩) ?_;have b6:(j+1)+1<=1000001:=aF hjB (aC 1);refine qR 0 rfl<|rW (vN ((j+1)+1)) rfl (okI (bJ b6 rfl)) ?_;refine qRF 0 rfl<|⟨(j+1)+1,λs=>match s with|60=>74|s=>s,Weak.of_lists _ wT wH rfl,of_decide_eq_true h6,by have:=of_decide_eq_true h6;show c.bus.length-((j+1)+1)<c.bus.length-(j+1);omega⟩
  ·refine qCF 0 rfl<|qX 0 rfl<|rW (vN c.retired.length) rfl (bT spL c.retired)<|qRC 0 rfl<|jX (κ:=Nat×Nat) (λz=>match z with|(k,0)=>⟨slotsF [(1,vI before),(2,.ptr 0 0),(4,.ptr 1 0),(5,.ptr 9 0),(36,.sl 9 (c.retired.map spL) false),(37,vN c.retired.length),(38,vN k)],heapF [(0,.box [vI c.conf.mode,vI c.conf.width,vI c.conf.rob,vI c.conf.queue,vI c.conf.stores,vI c.conf.slots,vI c.conf.sets,vI c.conf.ways,.sl 1 (c.conf.lat.map iK) false,vB c.conf.tables,.sl 1 (c.conf.tape.map eE) false,.sl 1 (c.prog.map eE) false,vI c.cycle,vU (c.r 0),vU (c.r 1),vU (c.r 2),vU (c.r 3),vU (c.r 4),vU (c.r 5),vU (c.r 6),vU (c.r 7),vU (c.r 8),vU (c.r 9),vU (c.r 10),vU (c.r 11),vU (c.r 12),vU (c.r 13),vU (c.r 14),vU (c.r 15),vU (c.r 16),vU (c.r 17),vU (c.r 18),vU (c.r 19),vU (c.r 20),vU (c.r 21),vU (c.r 22),vU (c.r 23),vU (c.r 24),vU (c.r 25),vU (c.r 26),vU (c.r 27),vU (c.r 28),vU (c.r 29),vU (c.r 30),vU (c.r 31),vU c.fetch,vB c.stop,.sl 2 (c.fetched.map ftL) false,.sl 17 (c.rob.map enL) false,vI c.next,.sl 2 (c.stores.map ptL) false,vI c.data.ways,.sl 1 (c.data.sets.map aV) false,vI c.words.ways,.sl 1 (c.words.sets.map aV) false,.sl 4 (c.bus.map rqL) false,vI c.asked,vI c.guessed,.v (.string c.mem),.sl 2 (c.guess.slots.map gsL) false,vU c.guess.hist,.sl 1 (c.guess.rets.map eE) false,vI c.halt,.sl 9 (c.retired.map spL) false]),(1,.box [.sl 0 ([]) true,.sl 0 ([]) true,.sl 0 ([]) true,.sl 0 ([]) true]),(9,.box [.sl 1 ((fE c.data).map aV) false,.sl 1 ((fE c.words).map aV) false,.osl 60 0 (j+1) false,.sl 0 ([]) true]),(60,.arr ((c.bus.take (j+1)).map DI) 4)],71⟩|(k,m+1)=>⟨slotsF [(1,vI before),(2,.ptr 0 0),(4,.ptr 1 0),(5,.ptr 9 0),(36,.sl 9 (c.retired.map spL) false),(37,vN c.retired.length),(38,vN k)],heapF [(0,.box [vI c.conf.mode,vI c.conf.width,vI c.conf.rob,vI c.conf.queue,vI c.conf.stores,vI c.conf.slots,vI c.conf.sets,vI c.conf.ways,.sl 1 (c.conf.lat.map iK) false,vB c.conf.tables,.sl 1 (c.conf.tape.map eE) false,.sl 1 (c.prog.map eE) false,vI c.cycle,vU (c.r 0),vU (c.r 1),vU (c.r 2),vU (c.r 3),vU (c.r 4),vU (c.r 5),vU (c.r 6),vU (c.r 7),vU (c.r 8),vU (c.r 9),vU (c.r 10),vU (c.r 11),vU (c.r 12),vU (c.r 13),vU (c.r 14),vU (c.r 15),vU (c.r 16),vU (c.r 17),vU (c.r 18),vU (c.r 19),vU (c.r 20),vU (c.r 21),vU (c.r 22),vU (c.r 23),vU (c.r 24),vU (c.r 25),vU (c.r 26),vU (c.r 27),vU (c.r 28),vU (c.r 29),vU (c.r 30),vU (c.r 31),vU c.fetch,vB c.stop,.sl 2 (c.fetched.map ftL) false,.sl 17 (c.rob.map enL) false,vI c.next,.sl 2 (c.stores.map ptL) false,vI c.data.ways,.sl 1 (c.data.sets.map aV) false,vI c.words.ways,.sl 1 (c.words.sets.map aV) false,.sl 4 (c.bus.map rqL) false,vI c.asked,vI c.guessed,.v (.string c.mem),.sl 2 (c.guess.slots.map gsL) false,vU c.guess.hist,.sl 1 (c.guess.rets.map eE) false,vI c.halt,.sl 9 (c.retired.map spL) false]),(1,.box [.sl 0 ([]) true,.sl 0 ([]) true,.sl 0 ([]) true,.sl 0 ([]) true]),(9,.box [.sl 1 ((fE c.data).map aV) false,.sl 1 ((fE c.words).map aV) false,.osl 60 0 (j+1) false,.osl 70 0 (m+1) false]),(60,.arr ((c.bus.take (j+1)).map DI) 4),(70,.arr (((c.retired.drop B).take (m+1)).map pcL) 1)],71⟩) (λz=>z.2=z.1-B∧z.1<=c.retired.length) (λz=>c.retired.length-z.1) (0,0) (λs=>s) (Weak.of_lists (λs=>s) wT wH rfl) (⟨(Nat.zero_sub _).symm,aE _⟩) ?_;intro z hk;obtain⟨k,_|m⟩:=z
   ·have hk1:0=k-B:=hk.1;have hk2:k<=c.retired.length:=hk.2;have hkB:k<=1000000:=by have:=hok.ret;omega
    refine qS 0 rfl<|rW (vB (decide (k<c.retired.length))) rfl (okB (ltN _ _)) ?_;refine qRC 0 rfl<|aS rfl (λh7=>?_) (λh7=>?_)
    ·skip
     obtain⟨y,hy⟩:∃y,c.retired[k]?=some y:=⟨_,aA (of_decide_eq_true h7)⟩;have hyo:=hok.retr y (aB hy);refine qC 0 rfl<|rIx (spL y) (.dp 9 0 (spL y)) rfl rfl (fW hy) rfl<|qR 0 rfl<|rV (vB (decide ((k:Int)>=before))) rfl ?_;refine qRC 0 rfl<|aS rfl (λh8=>?_) (λh8=>?_)
     ·skip
      have hge:=of_decide_eq_true h8;have hy0:(c.retired.drop B)[0]?=some y:=by rw[cE,show B+(0)=k from by omega];exact hy
      refine qC 0 rfl<|rV (.sl 1 ([[vU y.pc]]) true) rfl<|rFx (x:=.osl 86 0 1 false) (h':=upd _ 86 (some (.arr ([[vU y.pc]]) 1))) rfl rfl (rfl) (⟨rfl,by simp[gJ],by simp[gJ],trivial⟩) ?_;have b7:k+1<=1000001:=aF hkB (aC 1);refine qR 0 rfl<|rW (vN (k+1)) rfl (okI (bJ b7 rfl)) ?_;refine qRF 0 rfl<|⟨(k+1,1),λs=>match s with|70=>86|s=>s,Weak.of_lists _ wT ⟨⟨rfl,rfl,rfl⟩,⟨rfl,rfl,rfl⟩,⟨rfl,rfl,rfl⟩,⟨rfl,rfl,rfl⟩,⟨rfl,(congrArg (λz=>some (Blk.arr z 1)) (KM pcL (c.retired.drop B) hy0)),rfl⟩,trivial⟩ rfl,⟨by have q:=of_decide_eq_true h8;show 0+1=k+1-B;omega,of_decide_eq_true h7⟩,by have:=of_decide_eq_true h7;show c.retired.length-(k+1)<c.retired.length-k;omega⟩
     ·skip
      have b8:k+1<=1000001:=aF hkB (aC 1);refine qC 0 rfl<|rW (vN (k+1)) rfl (okI (bJ b8 rfl)) ?_;refine qRF 0 rfl<|⟨(k+1,0),λs=>s,Weak.of_lists _ wT wH rfl,⟨by have q:=aD h8;show 0=k+1-B;omega,of_decide_eq_true h7⟩,by have:=of_decide_eq_true h7;show c.retired.length-(k+1)<c.retired.length-k;omega⟩
    ·refine qCF 0 rfl<|qXF 0 rfl ?_;have hB2:(Ct before).toNat=B:=by rw[hB];rfl
     have hj2:j+1=c.bus.length:=by have:=aD h6;omega
     have hr0:(c.retired.drop B)=[]:=cC (by have:=aD h7;omega);exact⟨_,rfl,⟨trivial,trivial,(by show 0+(j+1)<=((c.bus.take (j+1)).map DI).length;rw[aG,aL];omega),trivial,trivial⟩,rfl,Sub.agg ⟨Sub.refl _,Sub.refl _,(by show Sub (.sl 4 (List.take (j+1) (List.drop 0 ((c.bus.take (j+1)).map DI))) false) (.sl 4 ((c.bus.map Rx).map rqL) false);rw[BS DI c.bus hj2,List.map_map];exact Sub.refl _),(by show Sub (.sl 0 [] true) (.sl 1 (((c.retired.drop (Ct before).toNat).map (·.pc)).map eE) false);rw[hB2,hr0];exact lP 1 false),trivial⟩⟩
   ·have hk1:m+1=k-B:=hk.1;have hk2:k<=c.retired.length:=hk.2;have hkB:k<=1000000:=by have:=hok.ret;omega
    refine qS 0 rfl<|rW (vB (decide (k<c.retired.length))) rfl (okB (ltN _ _)) ?_;refine qRC 0 rfl<|aS rfl (λh9=>?_) (λh9=>?_)
    ·skip
     obtain⟨y,hy⟩:∃y,c.retired[k]?=some y:=⟨_,aA (of_decide_eq_true h9)⟩;have hyo:=hok.retr y (aB hy);refine qC 0 rfl<|rIx (spL y) (.dp 9 0 (spL y)) rfl rfl (fW hy) rfl<|qR 0 rfl<|rV (vB (decide ((k:Int)>=before))) rfl ?_;refine qRC 0 rfl<|aS rfl (λh10=>?_) (λh10=>?_)
     ·skip
      have hge:=of_decide_eq_true h10;have hy0:(c.retired.drop B)[m+1]?=some y:=by rw[cE,show B+(m+1)=k from by omega];exact hy
      refine qC 0 rfl<|rV (.sl 1 ([[vU y.pc]]) true) rfl<|rFx (x:=.osl 86 0 (m+1+1) false) (h':=upd (upd _ 70 none) 86 (some (.arr (((c.retired.drop B).take (m+1+1)).map pcL) 1))) rfl rfl (Bf (wP _ _ (show m+1<(c.retired.drop B).length from by rw[aU];have:=of_decide_eq_true h9;omega)) (Vh pcL (c.retired.drop B) hy0)) (⟨by rw[wP _ _ (show m+1<(c.retired.drop B).length from by rw[aU];have:=of_decide_eq_true h9;omega)];have:=hok.ret;show m+1+1<=1000000;have:=of_decide_eq_true h9;omega,by rw[bF];simp;have:=of_decide_eq_true h9;omega,trivial⟩) ?_;have b9:k+1<=1000001:=aF hkB (aC 1);refine qR 0 rfl<|rW (vN (k+1)) rfl (okI (bJ b9 rfl)) ?_;refine qRF 0 rfl<|⟨(k+1,(m+1)+1),λs=>match s with|70=>86|s=>s,Weak.of_lists _ wT wH rfl,⟨by have q:=of_decide_eq_true h10;show m+1+1=k+1-B;omega,of_decide_eq_true h9⟩,by have:=of_decide_eq_true h9;show c.retired.length-(k+1)<c.retired.length-k;omega⟩
     ·skip
      have b10:k+1<=1000001:=aF hkB (aC 1);refine qC 0 rfl<|rW (vN (k+1)) rfl (okI (bJ b10 rfl)) ?_;refine qRF 0 rfl<|⟨(k+1,m+1),λs=>s,Weak.of_lists _ wT wH rfl,⟨by have q:=aD h10;show m+1=k+1-B;omega,of_decide_eq_true h9⟩,by have:=of_decide_eq_true h9;show c.retired.length-(k+1)<c.retired.length-k;omega⟩
    ·refine qCF 0 rfl<|qXF 0 rfl ?_;have hB2:(Ct before).toNat=B:=by rw[hB];rfl
     have hj2:j+1=c.bus.length:=by have:=aD h6;omega
     have hk3:m+1=(c.retired.drop B).length:=by rw[aU];have:=aD h9;omega
     exact⟨_,rfl,⟨trivial,trivial,(by show 0+(j+1)<=((c.bus.take (j+1)).map DI).length;rw[aG,aL];omega),(by show 0+(m+1)<=(((c.retired.drop B).take (m+1)).map pcL).length;rw[aG,aL];omega),trivial⟩,rfl,Sub.agg ⟨Sub.refl _,Sub.refl _,(by show Sub (.sl 4 (List.take (j+1) (List.drop 0 ((c.bus.take (j+1)).map DI))) false) (.sl 4 ((c.bus.map Rx).map rqL) false);rw[BS DI c.bus hj2,List.map_map];exact Sub.refl _),(by show Sub (.sl 1 (List.take (m+1) (List.drop 0 (((c.retired.drop B).take (m+1)).map pcL))) false) (.sl 1 (((c.retired.drop (Ct before).toNat).map (·.pc)).map eE) false);rw[hB2,BS pcL (c.retired.drop B) hk3,List.map_map];exact Sub.refl _),trivial⟩⟩
def Oj{x:Int}(h1: -9223372036854775808<=x)(h2:x<9223372036854775808):wrap64 x=x:=by unfold wrap64;omega
def GJ(q:List Req)(k:Int)(line:Nat)(left:Int)(data:ByteArray):mZ (xK q k line left data)=mZ q+if k=4 then 0 else 1:=by
 unfold mZ xK;rw[jW,aQ];by_cases h:k=4<;>simp[h]
def Ok(q:List Req):mZ (eA q).1<=mZ q:=by
 cases q with
 |nil=>exact aC _
 |cons x r=>
  unfold eA;dsimp only;split
  ·unfold mZ;simp only[List.filter_cons];by_cases h:x.kind=4<;>simp[h]
  ·unfold mZ;simp only[List.filter_cons];by_cases h:x.kind=4<;>simp[h]
structure Bd(f:Cf)(a:Nat)(c:Co):Prop where
 conf:c.conf=f
 rob:(c.rob.length:Int)<=f.rob
 fet:(c.fetched.length:Int)<=f.queue
 sto:(c.stores.length:Int)<=f.stores
 rd:(mZ c.bus:Int)<=f.slots
 ret:c.retired.length=a
def bring_bus(c:Co)(line:Nat):((fC c line).bus=c.bus∧(fC c line).asked=c.asked)∨∃l d,(fC c line).bus=xK c.bus 4 l (kM c.conf c.asked) d∧(fC c line).asked=wrap64 (c.asked+1):=by
 unfold fC;rcases hB:gV c.data c.bus c.mem line (kM c.conf c.asked)with ⟨d,q,asked⟩;show(q=c.bus∧(if asked=true then wrap64 (c.asked+1)else c.asked)=c.asked)∨∃l d,q=xK c.bus 4 l (kM c.conf c.asked) d∧(if asked=true then wrap64 (c.asked+1)else c.asked)=wrap64 (c.asked+1);unfold gV at hB;split at hB
 ·cases hB;exact .inl ⟨rfl,rfl⟩
 ·split at hB
  ·cases hB;exact .inl ⟨rfl,rfl⟩
  ·split at hB
   split at hB
   ·cases hB;exact .inr ⟨_,_,rfl,rfl⟩
   ·cases hB;exact .inl ⟨rfl,rfl⟩
def LM(c:Co)(line:Nat):mZ (fC c line).bus<=mZ c.bus:=by
 rcases bring_bus c line with ⟨h, -⟩|⟨l,d,h, -⟩
 ·rw[h];exact aC _
 ·rw[h,GJ,if_pos rfl];exact aC _
def Ol(c:Co)(line:Nat):(fC c line).conf=c.conf∧(fC c line).rob=c.rob∧(fC c line).fetched=c.fetched∧(fC c line).stores=c.stores∧(fC c line).retired=c.retired:=by
 rw[<-oU];exact⟨rfl,rfl,rfl,rfl,rfl⟩
theorem Bd.bring{f:Cf}{a:Nat}{c:Co}(h:Bd f a c)(line:Nat):Bd f a (fC c line):=by
 obtain⟨h1,h2,h3,h4,h5⟩:=Ol c line;have:=LM c line;exact⟨h1.trans h.conf,h2 ▸ h.rob,h3 ▸ h.fet,h4 ▸ h.sto,by have:=h.rd;omega,h5 ▸ h.ret⟩
def WL{c:Co}{b:Bool}(h:qZ c b=true):(mZ c.bus:Int)<c.conf.slots:=by
 unfold qZ at h;split at h
 ·exact of_decide_eq_true h
 ·have:=of_decide_eq_true h;omega
theorem Bd.ask{f:Cf}{a:Nat}{c:Co}(h:Bd f a c){k:Int}{b:Bool}(hr:qZ c b=true∨k=4)(line:Nat)(data:ByteArray):Bd f a (iU c k line data):=by
 refine⟨h.conf,h.rob,h.fet,h.sto,?_,h.ret⟩;show((mZ (xK c.bus k line _ data):Nat):Int)<=_;rw[GJ];have h1:=h.rd;rcases hr with hr|hr
 ·have:=WL hr;rw[h.conf]at this;split<;>omega
 ·rw[if_pos hr];omega
def TV{f:Cf}{a:Nat}{c:Co}(h:Bd f a c):Bd f a (jO c):=by
 have hb:Bd f a (iS c):=⟨h.conf,h.rob,h.fet,h.sto,by have:=Ok c.bus;have:=h.rd;show((mZ (eA c.bus).1:Nat):Int)<=_;omega,h.ret⟩;rw[iL];split
 ·unfold Bp
  repeat' split
  ·exact⟨hb.conf,by show((List.map _ _).length:Int)<=_;rw[aG];exact hb.rob,hb.fet,hb.sto,hb.rd,hb.ret⟩
  ·exact⟨hb.conf,hb.rob,hb.fet,hb.sto,hb.rd,hb.ret⟩
  ·exact hb.bring _
  ·exact⟨hb.conf,hb.rob,hb.fet,hb.sto,hb.rd,hb.ret⟩
  ·exact hb
 ·exact hb
def WM(l:List Ent)(i:Nat):(Ce l i).length<=l.length:=by
 unfold Ce;split
 ·rename_i e he;have:=(DS.1 he).1;rw[aQ,aL];simp;omega
 ·exact aC _
def TW{f:Cf}{a:Nat}{c:Co}(h:Bd f a c)(hq:0<=f.queue):Bd f a (gZ c):=by
 have hl:=mB c;unfold gZ;split
 ·exact h
 ·split
  ·rename_i i _;exact⟨h.conf,by have:=WM (dA c) i;have:=h.rob;show((Ce (dA c) i).length:Int)<=_;omega,hq,h.sto,h.rd,h.ret⟩
  ·exact⟨h.conf,by have:=h.rob;show((dA c).length:Int)<=_;omega,h.fet,h.sto,h.rd,h.ret⟩
def UL{f:Cf}{a:Nat}{c:Co}(h:Bd f a c)(s:Sp)(hs: ¬(s.store=true∧(c.stores.length:Int)>=c.conf.stores)):Bd f (a+1) (fM c s):=by
 refine⟨h.conf,h.rob,h.fet,?_,h.rd,by show(c.retired++[s]).length=_;rw[aQ,h.ret];rfl⟩;show(((match gD s with|some p=>c.stores++[p]|none=>c.stores).length:Nat):Int)<=_;split
 ·rename_i p hp;have hst:s.store=true:=by
   unfold gD at hp;split at hp
   ·cases hp
   ·rename_i q;cases hb:s.store with
    |true=>rfl
    |false=>exact absurd (.inl hb) q
  have h1: ¬(c.stores.length:Int)>=c.conf.stores:=λq=>hs ⟨hst,q⟩;rw[h.conf]at h1;rw[aQ];show((c.stores.length+1:Nat):Int)<=_;omega
 ·exact h.sto
def Rm{f:Cf}{a:Nat}{c:Co}(h:Bd f a c)(e:Ent)(hs: ¬((bS e).store=true∧(c.stores.length:Int)>=c.conf.stores)):Bd f (a+1) (xX c e):=by
 have k:=UL h (bS e) hs;exact⟨k.conf,by have:=h.rob;show((c.rob.drop 1).length:Int)<=_;rw[aU];omega,k.fet,k.sto,k.rd,k.ret⟩
def Rn{f:Cf}{a:Nat}{c:Co}(h:Bd f a c)(e:Ent)(hs: ¬((bS e).store=true∧(c.stores.length:Int)>=c.conf.stores)):Bd f (a+1) (Et c e):=by
 have k:=(UL h (bS e) hs).bring (bS e).addr;rw[<-oU]at k;exact⟨k.conf,by have:=h.rob;show((c.rob.drop 1).length:Int)<=_;rw[aU];omega,k.fet,k.sto,k.rd,k.ret⟩
theorem BD{f:Cf}(h0:0<=f.rob∧0<=f.queue):∀(n:Nat) (c:Co) (a:Nat),Bd f a c->∃b,a<=b∧b<=a+n∧Bd f b (dW n c)
 |0,c,a,h=>⟨a,aC _,aC _,h⟩
 | n + 1,c,a,h=>by
  by_cases hz:c.halt≠0∨c.rob.length=0
  ·rw[jF hz];exact⟨a,aC _,by omega,h⟩
  ·have hx:c.rob[0]?=some (c.rob[0]'omT):=aA omT;rw[gO omT (λq=>hz (.inl q)) hx];split
   ·exact⟨a,aC _,by omega,h⟩
   ·split
    ·exact⟨a+1,by omega,by omega,⟨h.conf,h0.1,h0.2,h.sto,h.rd,by show(c.retired++[_]).length=_;rw[aQ,h.ret];rfl⟩⟩
    ·split
     ·exact⟨a,aC _,by omega,h⟩
     ·rename_i hs;rw[gG];by_cases hk:kindOf (c.rob[0]'omT).i.op=3
      ·rw[Ao hk];obtain⟨b,h1,h2,h3⟩:=BD h0 n _ _ (Rn h _ hs);exact⟨b,by omega,by omega,h3⟩
      ·rw[uJ hk];obtain⟨b,h1,h2,h3⟩:=BD h0 n _ _ (Rm h _ hs);exact⟨b,by omega,by omega,h3⟩
theorem Bd.setE{f:Cf}{a:Nat}{c:Co}(h:Bd f a c)(i:Nat)(e:Ent):Bd f a (setE c i e):=⟨h.conf,by show((c.rob.set i e).length:Int)<=_;rw[bY];exact h.rob,h.fet,h.sto,h.rd,h.ret⟩
def WN{f:Cf}{a:Nat}{c:Co}(h:Bd f a c)(i:Nat):Bd f a (kL c i):=by
 unfold kL
 cases c.rob[i]? with
 |none=>exact h
 |some e=>
  dsimp only
  repeat' split
  all_goals first|exact h|exact h.setE _ _|(rename_i q;exact(h.ask (.inl q.1) _ _).setE _ _)
def TX{f:Cf}{a:Nat}{c:Co}(h:Bd f a c)(i:Nat):Bd f a (fD c i):=by
 unfold fD
 cases c.rob[i]? with
 |none=>exact h
 | some e=>
  dsimp only;split
  ·exact h.setE _ _
  ·split
   ·exact WN (h.setE _ _) i
   ·exact h.setE _ _
theorem Ki{f:Cf}{a:Nat}:∀(p:List Nat) (c:Co),Bd f a c->Bd f a (p.foldl fD c)
 |[],_,h=>h
 |i::p,_,h=>Ki p _ (TX h i)
def Ro{f:Cf}{a:Nat}{c:Co}(h:Bd f a c):Bd f a (eW c):=by
 unfold eW;split
 ·exact h
 ·exact Ki _ c h
theorem GK{f:Cf}{a:Nat}:∀(n:Nat) (c:Co),Bd f a c->Bd f a (jP n c)
 |0,_,h=>h
 | n+1,c,h=>by
  by_cases h0:(c.rob.length:Int)>=c.conf.rob∨c.fetched.length=0
  ·rw[rP h0];exact h
  ·have hx:c.fetched[0]?=some (c.fetched[0]'omT):=aA omT;have e:=vF (n:=n+1) (k:=0) omT (λq=>h0 (.inl q)) hx;rw[show n+1-(0+1)=n by omega,show n+1-0=n+1 by omega]at e;rw[<-e];have hc:=h.conf;refine GK n _ ⟨h.conf,?_,?_,h.sto,h.rd,h.ret⟩
   ·show((c.rob++[_]).length:Int)<=_;rw[aQ];show((c.rob.length+1:Nat):Int)<=_;rw[hc]at h0;omega
   ·have:=h.fet;show((c.fetched.drop 1).length:Int)<=_;rw[aU];omega
def Rp{f:Cf}{a:Nat}{c:Co}(h:Bd f a c):Bd f a (iP c):=by
 unfold iP;split
 ·exact h
 ·exact GK _ c h
theorem Fg{f:Cf}{a:Nat}:∀(n:Nat) (c:Co),Bd f a c->Bd f a (eC n c)
 |0,_,h=>h
 | n +1,c,h=>by
  by_cases h0:c.stop=true∨(c.fetched.length:Int)>=c.conf.queue
  ·rw[pP h0];exact h
  ·have hl:((c.fetched.length+1:Nat):Int)<=f.queue:=by have:=h.conf;rw[this]at h0;omega
   by_cases hf:(fetchP c.prog c.fetch).isSome=false
   ·rw[rQ omT h0 hf];exact⟨h.conf,h.rob,by show((c.fetched++[_]).length:Int)<=_;rw[aQ];exact hl,h.sto,h.rd,h.ret⟩
   ·by_cases hw:(bG c.words (lineOf c.fetch)).2.isSome=false
    ·rw[nM omT h0 hf hw];split
     ·rename_i q;exact h.ask (.inl q.2) _ _
     ·exact h
    ·have e:=tO (n:=n+1) (k:=0) omT h0 hf hw;rw[show n+1-(0+1)=n by omega,show n+1-0=n+1 by omega]at e;rw[<-e];refine Fg n _ ?_;have hb:∀w,(cN (gK c) w).1.conf=c.conf∧(cN (gK c) w).1.rob=c.rob∧(cN (gK c) w).1.fetched=c.fetched∧(cN (gK c) w).1.stores=c.stores∧(cN (gK c) w).1.bus=c.bus∧(cN (gK c) w).1.retired=c.retired:=by
      intro w;unfold cN
      repeat' split
      all_goals exact⟨rfl,rfl,rfl,rfl,rfl,rfl⟩
     obtain⟨b1,b2,b3,b4,b5,b6⟩:=hb (fetchW c.prog c.fetch);refine⟨b1.trans h.conf,?_,?_,?_,?_,?_⟩
     ·show(((cN (gK c) (fetchW c.prog c.fetch)).1.rob.length:Nat):Int)<=_;rw[b2];exact h.rob
     ·show((((cN (gK c) (fetchW c.prog c.fetch)).1.fetched++[_]).length:Nat):Int)<=_;rw[b3,aQ];exact hl
     ·show(((cN (gK c) (fetchW c.prog c.fetch)).1.stores.length:Nat):Int)<=_;rw[b4];exact h.sto
     ·show((mZ (cN (gK c) (fetchW c.prog c.fetch)).1.bus:Nat):Int)<=_;rw[b5];exact h.rd
     ·show(cN (gK c) (fetchW c.prog c.fetch)).1.retired.length=_;rw[b6];exact h.ret
def Om{f:Cf}{a:Nat}{c:Co}(h:Bd f a c):Bd f a (dS c):=by
 unfold dS;split
 ·exact h
 ·exact Fg _ c h
def Rq{f:Cf}{a:Nat}{c:Co}(h:Bd f a c):Bd f a (pT c):=by
 have h1:Bd f a (aZ c):=by
  refine⟨h.conf,h.rob,h.fet,?_,h.rd,h.ret⟩;have:=h.sto;show(((nO c.stores c.data).1.length:Nat):Int)<=_;unfold nO
  repeat' split
  all_goals first|omega|(rename_i hs _;rw[hs]at this;simp at this⊢;omega)|(rename_i hs;simp[hs]at this⊢;omega)|(simp at this⊢;omega)
 have hA:∀{d:Co},Bd f a d->Bd f a (mO d):=λ{d} k=>by
  unfold mO;split
  ·exact k
  ·split
   ·rename_i q;exact k.ask (.inl q.2) _ _
   ·exact k
 have hB:∀{d:Co},Bd f a d->Bd f a (kH d):=λ{d} k=>by
  unfold kH;split
  ·exact k
  ·unfold mD;split
   ·split
    ·rename_i w _ _;have q:=k.ask (k:=4) (b:=true) (.inr rfl) w.line w.data;exact⟨q.conf,q.rob,q.fet,q.sto,q.rd,q.ret⟩
    ·exact k
   ·exact k
 rw[jL];split
 ·exact hB (hA h1)
 ·exact hB h1
def WO{f:Cf}(h0:0<=f.rob∧0<=f.queue){c:Co}{a:Nat}(h:Bd f a c):∃b,a<=b∧b<=a+f.width.toNat∧Bd f b (lM c):=by
 unfold lM;split
 ·have hs:Bd f a (s0 c):=⟨h.conf,h.rob,h.fet,h.sto,h.rd,h.ret⟩;have hw:=TW (TV hs) h0.2;obtain⟨b,h1,h2,h3⟩:=BD h0 (gZ (jO (s0 c))).conf.width.toNat _ a hw;rw[hw.conf]at h2;exact⟨b,h1,h2,Rq (Om (Rp (Ro h3)))⟩
 ·exact⟨a,aC _,by omega,h⟩
def fF(e:Ent):tR e=true↔((0<=e.is∧e.is<=3)∧(e.is=1->0<e.left)∧(e.is≠1->e.left=0)∧(e.is=2->kindOf e.i.op=3∧e.known=true)∧(e.halt≠0->e.is=3∨(e.is=1∧kindOf e.i.op=5∧e.halt=3))∧(Ry e.i=true∨e.halt=1∨e.halt=2)):=by
 unfold tR;by_cases h1:e.is<0∨e.is>3
 ·rw[if_pos h1];exact⟨λh=>(by cases h),λh=>by omega⟩
 rw[if_neg h1];by_cases h2:(e.is=1∧e.left<=0)∨(e.is≠1∧e.left≠0)
 ·rw[if_pos h2];refine⟨λh=>(by cases h),λ⟨_,a,b,_⟩=>?_⟩;rcases h2 with ⟨x,y⟩|⟨x,y⟩
  ·have:=a x;omega
  ·exact absurd (b x) y
 rw[if_neg h2];by_cases h3:e.is=2∧(kindOf e.i.op≠3∨e.known=false)
 ·rw[if_pos h3];refine⟨λh=>(by cases h),λ⟨_,_,_,a,_⟩=>?_⟩;have:=a h3.1;rcases h3.2 with x|x
  ·exact absurd this.1 x
  ·rw[this.2]at x;cases x
 rw[if_neg h3];by_cases h4:e.halt≠0∧e.is≠3∧ ¬(e.is=1∧kindOf e.i.op=5∧e.halt=3)
 ·rw[if_pos h4];refine⟨λh=>(by cases h),λ⟨_,_,_,_,a,_⟩=>?_⟩;rcases a h4.1 with x|x
  ·exact absurd x h4.2.1
  ·exact absurd x h4.2.2
 rw[if_neg h4];have q3:e.is=2->kindOf e.i.op=3∧e.known=true:=λx=>by
  refine⟨Classical.byContradiction λy=>h3 ⟨x,.inl y⟩,?_⟩
  cases hk:e.known with
  |true=>rfl
  |false=>exact absurd ⟨x,.inr hk⟩ h3
 have q4:e.halt≠0->e.is=3∨(e.is=1∧kindOf e.i.op=5∧e.halt=3):=λx=>Classical.byContradiction λy=>h4 ⟨x,λz=>y (.inl z),λz=>y (.inr z)⟩;have q2:e.is=1->0<e.left:=λx=>Classical.byContradiction λy=>h2 (.inl ⟨x,by omega⟩);have q5:e.is≠1->e.left=0:=λx=>Classical.byContradiction λy=>h2 (.inr ⟨x,y⟩);by_cases h5:Ry e.i=true
 ·rw[if_pos h5];exact⟨λ_=>⟨by omega,q2,q5,q3,q4,.inl h5⟩,λ_=>rfl⟩
 ·rw[if_neg h5];refine⟨λh=>⟨by omega,q2,q5,q3,q4,.inr (by simpa using h)⟩,λ⟨_,_,_,_,_,a⟩=>?_⟩;rcases a with a|a
  ·exact absurd a h5
  ·simpa using a
structure EvEnt(M:Int)(e:Ent):Prop where
 st:tR e=true
 kn:e.known=true->kindOf e.i.op=3∨kindOf e.i.op=4->iR M e.addr (bC e.i.op)=true
 s4:kindOf e.i.op=4->e.is=0∨e.is=3
 k4:kindOf e.i.op=4->e.is=3->e.halt=0->e.known=true
theorem EvEnt.go{M:Int}{e:Ent}(h:EvEnt M e):EvEnt M (goE e):=by
 obtain⟨h1,h2,h3,h4,h5,h6⟩:=(fF e).1 h.st;unfold goE;by_cases hi:e.is≠1
 ·rw[if_pos hi];exact h
 rw[if_neg hi];have hi:e.is=1:=Classical.not_not.1 hi;have n4:kindOf e.i.op≠4:=λq=>by rcases h.s4 q with x|x<;>omega
 by_cases hl:wrap64 (e.left-1)<=0
 ·rw[if_pos hl];refine⟨(fF _).2 ⟨by simp,λq=>absurd q (by simp),λ_=>rfl,λq=>absurd q (by simp),λ_=>.inl rfl,h6⟩,λa b=>?_,λq=>absurd q n4,λq=>absurd q n4⟩;refine h.kn ?_ b;have a:(if kindOf e.i.op=5∧e.halt=0 then true else e.known)=true:=a;have b:kindOf e.i.op=3∨kindOf e.i.op=4:=b
  rwa [if_neg omT]at a
 ·rw[if_neg hl];refine⟨(fF _).2 ⟨h1,λ_=>by show 0<wrap64 (e.left-1);omega,λq=>absurd hi q,h4,h5,h6⟩,h.kn,h.s4,h.k4⟩
def TQ{op:Int}{a b:Nat}(hk:kindOf op=2)(ha:a<=4294967295)(hb:b<=4294967295):0<pW op a b:=by
 have ho:42<=op∧op<=45:=by
  unfold kindOf at hk
  (repeat' split at hk)<;>omega
 unfold pW;rw[if_neg omT];split
 ·decide
 ·rename_i q;have h1:kQ op b<=kQ op a:=by omega
  have h2:=yH op b omT (λz=>q (.inl z));have:=JI (kQ op b) (kQ op a) (pX op b omT) (pX op a omT) h1 omT;omega
theorem EvEnt.start{M:Int}{e:Ent}(h:EvEnt M e){a b:Nat}(ha:a<=4294967295)(hb:b<=4294967295):EvEnt M (oW e a b):=by
 obtain⟨h1,h2,h3,h4,h5,h6⟩:=(fF e).1 h.st;unfold oW;by_cases hi:e.is≠0∨kindOf e.i.op=3∨kindOf e.i.op=4
 ·rw[if_pos hi];exact h
 rw[if_neg hi];have hh:e.halt=0:=Classical.byContradiction λq=>by rcases h5 q with x|x<;>omega
 have n4:kindOf e.i.op≠4:=λq=>hi (.inr (.inr q));have n3: ¬(kindOf e.i.op=3∨kindOf e.i.op=4):=λq=>hi (.inr q);by_cases k1:kindOf e.i.op=1
 ·rw[if_pos k1];exact⟨(fF _).2 ⟨by simp,λ_=>by simp,λq=>absurd rfl q,λq=>absurd q (by simp),λq=>absurd hh q,h6⟩,λ_ q=>absurd q n3,λq=>absurd q n4,λq=>absurd q n4⟩
 rw[if_neg k1];by_cases k2:kindOf e.i.op=2
 ·rw[if_pos k2];exact⟨(fF _).2 ⟨by simp,λ_=>by have:=TQ k2 ha hb;show(0:Int)<((pW e.i.op a b:Nat):Int);omega,λq=>absurd rfl q,λq=>absurd q (by simp),λq=>absurd hh q,h6⟩,λ_ q=>absurd q n3,λq=>absurd q n4,λq=>absurd q n4⟩
 rw[if_neg k2];by_cases k5:kindOf e.i.op=5
 ·rw[if_pos k5];split
  ·exact⟨(fF _).2 ⟨by simp,λ_=>by simp,λq=>absurd rfl q,λq=>absurd q (by simp),λq=>absurd hh q,h6⟩,λ_ q=>absurd q n3,λq=>absurd q n4,λq=>absurd q n4⟩
  ·refine⟨(fF _).2 ⟨by simp,λ_=>by simp,λq=>absurd rfl q,λq=>absurd q (by simp),λ_=>.inr ⟨rfl,k5,rfl⟩,?_⟩,λ_ q=>absurd q n3,λq=>absurd q n4,λq=>absurd q n4⟩;rcases h6 with x|x|x
   ·exact .inl x
   ·omega
   ·omega
 ·rw[if_neg k5];exact⟨(fF _).2 ⟨by simp,λ_=>by simp,λq=>absurd rfl q,λq=>absurd q (by simp),λq=>absurd hh q,h6⟩,λ_ q=>absurd q n3,λq=>absurd q n4,λq=>absurd q n4⟩
theorem EvEnt.addr{M:Int}{e:Ent}(h:EvEnt M e)(a:Nat):EvEnt M (rI e M a):=by
 obtain⟨h1,h2,h3,h4,h5,h6⟩:=(fF e).1 h.st;unfold rI;by_cases hi:(kindOf e.i.op≠3∧kindOf e.i.op≠4)∨e.is≠0∨e.known=true
 ·rw[if_pos hi];exact h
 rw[if_neg hi];have i0:e.is=0:=Classical.byContradiction λq=>hi (.inr (.inl q));have hh:e.halt=0:=Classical.byContradiction λq=>by rcases h5 q with x|x<;>omega
 have hl:e.left=0:=h3 omT;split
 ·rename_i hr;exact⟨(fF _).2 ⟨h1,h2,h3,λq=>absurd (show e.is=2 from q) omT,h5,h6⟩,λ_ _=>hr,h.s4,λ_ _ _=>rfl⟩
 ·have hk:e.known=false:=by cases hq:e.known with
   |false=>rfl
   |true=>exact absurd (.inr (.inr hq)) hi
  refine⟨(fF _).2 ⟨by simp,λq=>absurd q (by simp),λ_=>hl,λq=>absurd q (by simp),λ_=>.inl rfl,?_⟩,λq=>(by rw[show e.known=true from q]at hk;cases hk),λ_=>.inr rfl,λ_ _ q=>?_⟩
  ·rcases h6 with x|x|x
   ·exact .inl x
   ·omega
   ·omega
  ·have q:(if kindOf e.i.op=4 then(5:Int)else 4)=0:=q;split at q<;>omega
theorem EvEnt.take{M:Int}{e:Ent}(h:EvEnt M e)(s:ByteArray):EvEnt M (sQ e s):=by
 obtain⟨h1,h2,h3,h4,h5,h6⟩:=(fF e).1 h.st;unfold sQ;by_cases hi:kindOf e.i.op≠3∨e.known=false∨(e.is≠0∧e.is≠2)
 ·rw[if_pos hi];exact h
 rw[if_neg hi];have k3:kindOf e.i.op=3:=Classical.byContradiction λq=>hi (.inl q);have hh:e.halt=0:=Classical.byContradiction λq=>by rcases h5 q with x|x<;>omega
 exact⟨(fF _).2 ⟨by simp,λ_=>by simp,λq=>absurd rfl q,λq=>absurd q (by simp),λq=>absurd hh q,h6⟩,h.kn,λq=>absurd (show kindOf e.i.op=4 from q) omT,λq=>absurd (show kindOf e.i.op=4 from q) omT⟩
theorem EvEnt.store{M:Int}{e:Ent}(h:EvEnt M e)(b:Nat):EvEnt M (qY e b):=by
 obtain⟨h1,h2,h3,h4,h5,h6⟩:=(fF e).1 h.st;unfold qY;by_cases hi:kindOf e.i.op≠4∨e.known=false∨e.is≠0
 ·rw[if_pos hi];exact h
 rw[if_neg hi];have i0:e.is=0:=Classical.byContradiction λq=>hi (.inr (.inr q))
 have hk:e.known=true:=by cases hq:e.known with
  |true=>rfl
  |false=>exact absurd (.inr (.inl hq)) hi
 exact⟨(fF _).2 ⟨by simp,λq=>absurd q (by simp),λ_=>h3 omT,λq=>absurd q (by simp),λ_=>.inl rfl,h6⟩,h.kn,λ_=>.inr rfl,λ_ _ _=>hk⟩
theorem EvEnt.fill{M:Int}{e:Ent}(h:EvEnt M e)(c:Co)(line:Nat):EvEnt M (uL c line e):=by
 unfold uL;split
 ·exact EvEnt.take (e:={e with filled:=true}) ⟨h.st,h.kn,h.s4,h.k4⟩ _
 ·exact h
theorem EvEnt.wait{M:Int}{e:Ent}(h:EvEnt M e)(h3:kindOf e.i.op=3)(hk:e.known=true)(h0:e.is=0∨e.is=2):EvEnt M {e with is:=2}:=by
 obtain⟨h1,h2,hl,h4,h5,h6⟩:=(fF e).1 h.st;have hh:e.halt=0:=Classical.byContradiction λq=>by rcases h5 q with x|x<;>omega
 exact⟨(fF _).2 ⟨by simp,λq=>absurd q (by simp),λ_=>hl omT,λ_=>⟨h3,hk⟩,λq=>absurd hh q,h6⟩,h.kn,λq=>absurd (show kindOf e.i.op=4 from q) omT,λq=>absurd (show kindOf e.i.op=4 from q) omT⟩
def aaK(e:Ent):(goE e).no=e.no:=by unfold goE;(repeat' split)<;>rfl
def TR(e:Ent)(a b:Nat):(oW e a b).no=e.no:=by unfold oW;(repeat' split)<;>rfl
def Rl(e:Ent)(M:Int)(a:Nat):(rI e M a).no=e.no:=by unfold rI;(repeat' split)<;>rfl
def LL(e:Ent)(s:ByteArray):(sQ e s).no=e.no:=by unfold sQ;split<;>rfl
def TS(e:Ent)(b:Nat):(qY e b).no=e.no:=by unfold qY;split<;>rfl
def TU(c:Co)(line:Nat)(e:Ent):(uL c line e).no=e.no:=by
 unfold uL;split
 ·rw[LL]
 ·rfl
structure RoLst(M nx:Int)(l:List Ent):Prop where
 ev:∀e∈l,EvEnt M e∧e.no<nx
 up:(l.map (·.no)).Pairwise (· < ·)
theorem RoLst.nil{M nx:Int}:RoLst M nx []:=⟨λ_ h=>(List.not_mem_nil h).elim,.nil⟩
theorem RoLst.map{M nx:Int}{l:List Ent}(h:RoLst M nx l){f:Ent->Ent}(hf:∀e,EvEnt M e->EvEnt M (f e))(hn:∀e,(f e).no=e.no):RoLst M nx (l.map f):=by
 refine⟨λe he=>?_,?_⟩
 ·obtain⟨x,hx,rfl⟩:=sY.1 he;exact⟨hf x (h.ev x hx).1,by rw[hn];exact(h.ev x hx).2⟩
 ·rw[List.map_map,show((λe:Ent=>e.no)∘f)=λe=>e.no from funext hn];exact h.up
theorem RoLst.set{M nx:Int}{l:List Ent}(h:RoLst M nx l){i:Nat}{x e:Ent}(hx:l[i]?=some x)(he:EvEnt M e)(hn:e.no=x.no):RoLst M nx (l.set i e):=by
 refine⟨λy hy=>?_,?_⟩
 ·rcases List.mem_or_eq_of_mem_set hy with q|rfl
  ·exact h.ev y q
  ·exact⟨he,by rw[hn];exact(h.ev x (aB hx)).2⟩
 ·rw[List.map_set,hn];rw[show(l.map (·.no)).set i x.no=l.map (·.no)from ?_]
  ·exact h.up
  ·refine dC λj=>?_;by_cases hj:i=j
   ·subst hj;have hl:=(DS.1 hx).1;rw[aT (by rw[aG];exact hl),bD,hx];rfl
   ·rw[gQ hj]
theorem RoLst.sub{M nx:Int}{l k:List Ent}(h:RoLst M nx l)(hs:k.Sublist l):RoLst M nx k:=
 ⟨λe he=>h.ev e (hs.mem he),h.up.sublist (hs.map _)⟩
theorem RoLst.cut{M nx:Int}{l:List Ent}(h:RoLst M nx l)(i:Nat):RoLst M nx (Ce l i):=by
 unfold Ce;split
 ·rename_i e he;have hi:=(DS.1 he).1;have hs:(l.take i++[{e with guess:=e.next}])=(l.set i {e with guess:=e.next}).take (i+1):=by
   rw[bV,aT hi,List.take_set_of_le (aC _)];rfl
  rw[hs];have hev:=(h.ev e (aB he)).1;exact(h.set he (e:={e with guess:=e.next}) ⟨hev.st,hev.kn,hev.s4,hev.k4⟩ rfl).sub (List.take_sublist _ _)
 ·exact h
theorem RoLst.push{M nx:Int}{l:List Ent}(h:RoLst M nx l){e:Ent}(he:EvEnt M e)(hn:e.no=nx):RoLst M (nx+1) (l++[e]):=by
 refine⟨λy hy=>?_,?_⟩
 ·rcases al_List_mem_append.1 hy with q|q
  ·have:=h.ev y q;exact⟨this.1,by omega⟩
  ·rw[uO.1 q];exact⟨he,by omega⟩
 ·rw[dY,List.pairwise_append];refine⟨h.up,List.pairwise_singleton _ _,λa ha b hb=>?_⟩;obtain⟨y,hy,rfl⟩:=sY.1 ha;have:=(h.ev y hy).2;have hb:b=e.no:=by simpa using hb
  omega
theorem RoLst.right{M nx:Int}{l:List Ent}(h:RoLst M nx l)(h8:l.length<=8):Cg l=true:=by
 unfold Cg;rw[aJ,lE];refine⟨nG h8,λi hi=>?_⟩;unfold EF;split
 ·rename_i e he;rw[aJ];refine⟨?_,(h.ev e (aB he)).1.st⟩
  cases i with
  |zero=>rfl
  |succ i=>
   have hl:=(DS.1 he).1;have hx:l[i]?=some (l[i]'omT):=aA omT;have:=List.pairwise_iff_getElem.1 h.up i (i+1) (by rw[aG];omega) (by rw[aG];omega) omT;rw[List.getElem_map,List.getElem_map]at this;have e2:l[i+1]=e:=(DS.1 he).2;rw[e2]at this;unfold VQ;rw[show i+1-1=i by omega,hx];simp[this]
 ·rfl
theorem RoLst.stores{M nx:Int}{r:Nat->Nat}{l:List Ent}(h:RoLst M nx l):∀k,RoLst M nx (cK r l k)
 |0=>h
 | k+1=>by
  have ih:=RoLst.stores (r:=r) h k;show RoLst M nx (storeAt r (cK r l k) k);unfold storeAt;split
  ·rename_i e he;split
   ·split
    ·exact ih.set he ((ih.ev e (aB he)).1.store _) (TS _ _)
    ·exact ih
   ·exact ih
  ·exact ih
def yJ(c:Ca)(k:Nat)(s:List Wy):(qJ c k s).sets.length=c.sets.length∧(qJ c k s).ways=c.ways:=⟨bY,rfl⟩
def Fe(c:Ca)(line:Nat):(oK c line).sets.length=c.sets.length∧(oK c line).ways=c.ways:=by
 unfold oK;split
 ·exact yJ _ _ _
 ·exact⟨rfl,rfl⟩
def Kg(c:Ca)(line:Nat)(d:ByteArray)(b:Bool):(pC c line d b).1.sets.length=c.sets.length∧(pC c line d b).1.ways=c.ways:=by
 unfold pC;split
 ·split
  ·exact yJ _ _ _
  ·split<;>exact yJ _ _ _
 ·exact⟨rfl,rfl⟩
def LH(c:Ca)(a:Nat)(b:ByteArray):(tV c a b).1.sets.length=c.sets.length∧(tV c a b).1.ways=c.ways:=by
 unfold tV;split
 ·split
  ·split
   ·exact⟨rfl,rfl⟩
   ·exact yJ _ _ _
  ·exact⟨rfl,rfl⟩
 ·exact⟨rfl,rfl⟩
def LI(c:Ca)(line:Nat):(qO c line).sets.length=c.sets.length∧(qO c line).ways=c.ways:=by
 unfold qO;split
 ·exact yJ _ _ _
 ·exact⟨rfl,rfl⟩
def LJ(c:Co)(line:Nat):(fC c line).data.sets.length=c.data.sets.length∧(fC c line).data.ways=c.data.ways:=by
 have hp:=Kg c.data (lineOf line) (Fl (jR c.bus c.mem) (lineOf line)) false;unfold fC;rcases hB:gV c.data c.bus c.mem line (kM c.conf c.asked)with ⟨d,q,asked⟩;show d.sets.length=_∧d.ways=_;unfold gV at hB;split at hB
 ·cases hB;exact⟨rfl,rfl⟩
 ·split at hB
  ·cases hB;exact Fe _ _
  ·split at hB
   rename_i hq;rw[hq]at hp;split at hB<;>(cases hB;exact hp)
structure RcCor(q:Int)(c:Co):Prop where
 ro:RoLst c.mem.size c.next c.rob
 lo:0<=c.next
 nx:c.next<=q
 da:(c.data.sets.length:Int)=c.conf.sets∧c.data.ways=c.conf.ways
 wo:(c.words.sets.length:Int)=c.conf.sets∧c.words.ways=c.conf.ways
 sp:∀p∈c.stores,iR c.mem.size p.addr p.data.size=true
 pg:c.prog.length<=64
def Rf(c:Co)(line:Nat):(fC c line).mem=c.mem∧(fC c line).next=c.next∧(fC c line).rob=c.rob∧(fC c line).conf=c.conf∧(fC c line).words=c.words∧(fC c line).stores=c.stores∧(fC c line).prog=c.prog:=by
 rw[<-oU];exact⟨rfl,rfl,rfl,rfl,rfl,rfl,rfl⟩
theorem RcCor.bring{q:Int}{c:Co}(h:RcCor q c)(line:Nat):RcCor q (fC c line):=by
 obtain⟨h1,h2,h3,h4,h5,h6,h7⟩:=Rf c line;have hs:=LJ c line;exact⟨by rw[h1,h2,h3];exact h.ro,by rw[h2];exact h.lo,by rw[h2];exact h.nx,by rw[hs.1,hs.2,h4];exact h.da,by rw[h5,h4];exact h.wo,by rw[h6,h1];exact h.sp,by rw[h7];exact h.pg⟩
theorem RcCor.rob{q:Int}{c d:Co}(h:RcCor q c)(hr:RoLst c.mem.size c.next d.rob)(h1:d.mem=c.mem)(h2:d.next=c.next)(h3:d.data=c.data)(h4:d.words=c.words)(h5:d.conf=c.conf)(h6:d.stores=c.stores)(h7:d.prog=c.prog):RcCor q d:=
 ⟨by rw[h1,h2];exact hr,by rw[h2];exact h.lo,by rw[h2];exact h.nx,by rw[h3,h5];exact h.da,by rw[h4,h5];exact h.wo,by rw[h6,h1];exact h.sp,by rw[h7];exact h.pg⟩
def TM{q:Int}{c:Co}(h:RcCor q c):RcCor q (jO c):=by
 have hb:RcCor q (iS c):=⟨h.ro,h.lo,h.nx,h.da,h.wo,h.sp,h.pg⟩;rw[iL];split
 ·unfold Bp
  repeat' split
  ·exact hb.rob (hb.ro.map (λe he=>he.fill _ _) (λe=>TU _ _ e)) rfl rfl rfl rfl rfl rfl rfl
  ·have:=Kg (iS c).words (eA c.bus).2.1.line oX false;exact⟨hb.ro,hb.lo,hb.nx,hb.da,by show((pC _ _ _ _).1.sets.length:Int)=_∧(pC _ _ _ _).1.ways=_;rw[this.1,this.2];exact hb.wo,hb.sp,hb.pg⟩
  ·exact hb.bring _
  ·have e:(qP (iS c).mem [⟨(eA c.bus).2.1.line,(eA c.bus).2.1.data⟩]).size=(iS c).mem.size:=gW ..;exact⟨by show RoLst ((qP _ _).size:Int) _ _;rw[e];exact hb.ro,hb.lo,hb.nx,hb.da,hb.wo,by show ∀p∈_,iR ((qP _ _).size:Int) _ _=true;rw[e];exact hb.sp,hb.pg⟩
  ·exact hb
 ·exact hb
def TN{q:Int}{c:Co}(h:RcCor q c):RcCor q (gZ c):=by
 have hw:RoLst c.mem.size c.next (dA c):=RoLst.stores (h.ro.map (λe he=>he.go) aaK) _;unfold gZ;split
 ·exact h
 ·split
  ·rename_i i _;exact h.rob (hw.cut i) rfl rfl rfl rfl rfl rfl rfl
  ·exact h.rob hw rfl rfl rfl rfl rfl rfl rfl
def Rg(x n:Nat)(h:n=1∨n=2∨n=4):(jH x n).size=n:=by
 rcases h with rfl|rfl|rfl<;>rfl
def UK{q:Int}{c:Co}(h:RcCor q c){e:Ent}(he:e∈c.rob)(h3:e.is=3):RcCor q (fM c (bS e)):=by
 refine⟨h.ro,h.lo,h.nx,h.da,h.wo,?_,h.pg⟩;show ∀p∈(match gD (bS e)with|some p=>c.stores++[p]|none=>c.stores),_;split
 ·rename_i p hp;intro y hy;rcases al_List_mem_append.1 hy with r|r
  ·exact h.sp y r
  ·rw [uO.1 r];have hev:=(h.ro.ev e he).1;unfold gD at hp;split at hp
   ·cases hp
   ·rename_i hn;have hz:(bS e).store=true:=by
     cases hb:(bS e).store with
     |true=>rfl
     |false=>exact absurd (.inl hb) hn
    have hk:e.halt=0∧kindOf e.i.op=4:=by
     unfold bS at hz;by_cases q1:e.halt≠0
     ·rw[if_pos q1]at hz;exact absurd (show false=true from hz) (by simp)
     ·by_cases q2:kindOf e.i.op=4
      ·exact⟨Classical.not_not.1 q1,q2⟩
      ·rw[if_neg q1,if_neg q2]at hz
       repeat' split at hz
       all_goals exact absurd (show false=true from hz) (by simp)
    have ht:bS e=⟨e.pc,up4 e.pc,wr e.i,e.value,e.addr,(bC e.i.op:Nat),true,0,0⟩:=by
     unfold bS;rw[if_neg (λz=>z hk.1),if_pos hk.2]
    rw[ht]at hp hn;injection hp with hp;have hr:=hev.kn (hev.k4 hk.2 h3 hk.1) (.inr hk.2);have hsz:bC e.i.op=1∨bC e.i.op=2∨bC e.i.op=4:=by
     have hn: ¬(((bC e.i.op:Nat):Int)≠1∧((bC e.i.op:Nat):Int)≠2∧((bC e.i.op:Nat):Int)≠4):=λz=>hn (.inr (.inr z));omega
    have hb:p.data.size=bC e.i.op:=by rw[<-hp];exact Rg _ _ hsz
    rw[show p.addr=e.addr by rw[<-hp],hb];exact hr
 ·exact h.sp
def Rh{q:Int}{c:Co}(h:RcCor q c){e:Ent}(he:e∈c.rob)(h3:e.is=3):RcCor q (xX c e):=by
 have k:=UK h he h3;exact⟨k.ro.sub (List.drop_sublist _ _),k.lo,k.nx,k.da,k.wo,k.sp,k.pg⟩
def Ri{q:Int}{c:Co}(h:RcCor q c){e:Ent}(he:e∈c.rob)(h3:e.is=3):RcCor q (Et c e):=by
 have k:=(UK h he h3).bring (bS e).addr;rw[<-oU]at k;exact⟨RoLst.sub (l:=c.rob) k.ro (List.drop_sublist _ _),k.lo,k.nx,k.da,k.wo,k.sp,k.pg⟩
theorem BC{q:Int}:∀(n:Nat) (c:Co),RcCor q c->RcCor q (dW n c)
 |0,_,h=>h
 | n +1,c,h=>by
  by_cases hz:c.halt≠0∨c.rob.length=0
  ·rw[jF hz];exact h
  ·have hx:c.rob[0]?=some (c.rob[0]'omT):=aA omT;have hm:=aB hx;rw[gO omT (λr=>hz (.inl r)) hx];split
   ·exact h
   ·rename_i h3;have h3:=Classical.not_not.1 h3;split
    ·exact⟨RoLst.nil,h.lo,h.nx,h.da,h.wo,h.sp,h.pg⟩
    ·split
     ·exact h
     ·rw[gG];by_cases hk:kindOf (c.rob[0]'omT).i.op=3
      ·rw[Ao hk];exact BC n _ (Ri h hm h3)
      ·rw[uJ hk];exact BC n _ (Rh h hm h3)
theorem RcCor.setE{q:Int}{c:Co}(h:RcCor q c){i:Nat}{x e:Ent}(hx:c.rob[i]?=some x)(he:EvEnt c.mem.size e)(hn:e.no=x.no):RcCor q (setE c i e):=h.rob (h.ro.set hx he hn) rfl rfl rfl rfl rfl rfl rfl
def WJ(e:Ent)(M:Int)(a:Nat)(h0:e.is=0):(rI e M a).known=true->(rI e M a).is=0∨e.known=false∧(rI e M a).is=0:=by
 intro hk;unfold rI at hk⊢;split
 ·exact .inl h0
 ·rename_i h1;rw[if_neg h1]at hk;split
  ·exact .inl h0
  ·rename_i h2;rw[if_neg h2]at hk;exact absurd (show e.known=true from hk) (λz=>h1 (.inr (.inr z)))
def WK{q:Int}{c:Co}(h:RcCor q c){i:Nat}{x:Ent}(hx:c.rob[i]?=some x)(hk3:kindOf x.i.op=3)(hi:x.known=true->x.is=0):RcCor q (kL c i):=by
 have hev:=(h.ro.ev x (aB hx)).1;unfold kL;rw[hx];dsimp only;split
 ·exact h
 ·rename_i hkn
  have hk:x.known=true:=by cases hq:x.known with
   |true=>rfl
   |false=>exact absurd hq hkn
  have hw:=hev.wait hk3 hk (.inl (hi hk))
  repeat' split
  ·exact h.setE hx (hev.take _) (LL _ _)
  ·exact h
  ·exact h.setE hx (hev.take _) (LL _ _)
  ·exact h.setE hx hw rfl
  ·exact RcCor.setE (c:=iU c 1 (lineOf x.addr) oX) ⟨h.ro,h.lo,h.nx,h.da,h.wo,h.sp,h.pg⟩ hx hw rfl
  ·exact h
def YM{l:List Ent}{i:Nat}{x e:Ent}(hx:l[i]?=some x):(l.set i e)[i]?=some e:=aT (DS.1 hx).1
def TO{q:Int}{c:Co}{n:Nat}(hm:c.okM n)(h:RcCor q c){i:Nat}(hi:∀e,c.rob[i]?=some e->e.is=0):RcCor q (fD c i):=by
 have hb:=AK hm.ok.robo hm.ok.r i;unfold fD
 cases hx:c.rob[i]? with
 |none=>exact h
 | some e=>
  have hev:=(h.ro.ev e (aB hx)).1;have h0:=hi e hx;dsimp only;split
  ·exact h.setE hx (hev.addr _) (Rl _ _ _)
  ·split
   ·rename_i k3;have hk:kindOf (rI e c.mem.size (lK c.rob c.r i).1).i.op=3:=by
     unfold rI
     (repeat' split)<;>exact k3
    exact WK (h.setE hx (hev.addr _) (Rl _ _ _)) (YM hx) hk (λz=>(WJ e _ _ h0 z).elim id (·.2))
   ·exact h.setE hx (hev.start hb.1 hb.2) (TR _ _ _)
def set_other{l:List Ent}{i j:Nat}{e:Ent}(h:i≠j):(l.set i e)[j]?=l[j]? :=gQ h
def Oi(c:Co){i j:Nat}(h:i≠j):(kL c i).rob[j]?=c.rob[j]? :=by
 unfold kL;split
 ·rfl
 ·(try dsimp only)
  repeat' split
  all_goals first|rfl|exact set_other h
def LK(c:Co){i j:Nat}(h:i≠j):(fD c i).rob[j]?=c.rob[j]? :=by
 unfold fD;split
 ·rfl
 ·(try dsimp only)
  split
  ·exact set_other h
  ·split
   ·rw[Oi _ h];exact set_other h
   ·exact set_other h
theorem Kh{q:Int}:∀(p:List Nat) (c:Co) (n:Nat),c.okM n->n+p.length<=890000->RcCor q c->p.Pairwise (· < ·)->(∀i∈p,∀e,c.rob[i]?=some e->e.is=0)->RcCor q (p.foldl fD c)
 |[],_,_,_,_,h,_,_=>h
 |i::p,c,n,hm,hb,h,hp,hi=>by
  have hl:(i::p).length=p.length+1:=rfl;rw[hl]at hb;obtain⟨h1,h2⟩:=List.pairwise_cons.1 hp;refine Kh p _ (n+1) (vW hm omT i).1 omT (TO hm h (hi i (bI ..))) h2 (λj hj e he=>?_);have:=h1 j hj;rw[LK c omT]at he;exact hi j (bP _ hj) e he
theorem GG{width:Int}{busy:Bool}{kinds:List Int}{can:List Bool}:∀k,(∀i∈(iB width busy kinds can k).out,i<k∧can.getD i false=true)∧(iB width busy kinds can k).out.Pairwise (· < ·)
 |0=>⟨λi hi=>(List.not_mem_nil hi).elim,.nil⟩
 | k + 1=>by
  have ih:=GG (width:=width) (busy:=busy) (kinds:=kinds) (can:=can) k;have keep:(∀i∈(iB width busy kinds can k).out,i<k+1∧can.getD i false=true)∧(iB width busy kinds can k).out.Pairwise (· < ·):=⟨λi hi=>⟨by have:=(ih.1 i hi).1;omega,(ih.1 i hi).2⟩,ih.2⟩;show(∀i∈(DB width kinds (iB width busy kinds can k) k (can.getD k false)).out,_)∧(DB width kinds (iB width busy kinds can k) k (can.getD k false)).out.Pairwise _;unfold DB;split
  ·exact keep
  ·split
   ·exact keep
   ·rename_i hr;split
    ·exact keep
    ·refine⟨λi hi=>?_,?_⟩
     ·rcases al_List_mem_append.1 hi with r|r
      ·exact keep.1 i r
      ·rw[uO.1 r]
       exact⟨by omega,by cases hc:can.getD k false with
        |true=>rfl
        |false=>exact absurd hc hr⟩
     ·show((iB width busy kinds can k).out++[k]).Pairwise _;rw[List.pairwise_append];refine⟨ih.2,List.pairwise_singleton _ _,λa ha b hb=>?_⟩;rw[uO.1 hb];exact(ih.1 a ha).1
def YN{c:Co}{i:Nat}{e:Ent}(h:Ci c i=true)(he:c.rob[i]?=some e):e.is=0:=by
 unfold Ci at h;rw[he]at h;dsimp only at h;split at h
 ·cases h
 ·rename_i q;exact Classical.not_not.1 q
def Rj{q:Int}{c:Co}{n:Nat}(hm:c.okM n)(hb:n+2<=890000)(h:RcCor q c):RcCor q (eW c):=by
 by_cases hh:c.halt≠0
 ·rw[show eW c=c from if_pos hh];exact h
 ·have hw:=nN hm.cf;have hl:=Pr (width:=c.conf.width) (busy:=c.rob.any Dy) (kinds:=Aw c) (can:=zN c) omT (zN c).length;have hf:=GG (width:=c.conf.width) (busy:=c.rob.any Dy) (kinds:=Aw c) (can:=zN c) (zN c).length;rw[show eW c=(iB c.conf.width (c.rob.any Dy) (Aw c) (zN c) (zN c).length).out.foldl fD c from if_neg hh];refine Kh _ c n hm omT h hf.2 (λi hi e he=>?_);have hc:=(hf.1 i hi).2;have hlt:=(DS.1 he).1;refine YN (i:=i) ?_ he;unfold zN at hc;rw[bL,bD,gX hlt]at hc;exact hc
def TP{M:Int}(no:Int){f:Ft}{prog:List Nat}(hp:∀x∈prog,x<=4294967295):EvEnt M (oG no f prog)∧(oG no f prog).no=no:=by
 have hx:fetchW prog f.pc<4294967296:=Cd (HE hp f.pc);have n4: ¬kindOf 0=4:=by decide
 unfold oG;split
 ·exact⟨⟨(fF _).2 ⟨by simp,λq=>absurd q (by simp),λ_=>rfl,λq=>absurd q (by simp),λ_=>.inl rfl,.inr (.inl rfl)⟩,λq=>absurd (show false=true from q) (by simp),λq=>absurd (show kindOf 0=4 from q) n4,λq=>absurd (show kindOf 0=4 from q) n4⟩,rfl⟩
 ·split
  ·exact⟨⟨(fF _).2 ⟨by simp,λq=>absurd q (by simp),λ_=>rfl,λq=>absurd q (by simp),λ_=>.inl rfl,.inr (.inr rfl)⟩,λq=>absurd (show false=true from q) (by simp),λq=>absurd (show kindOf 0=4 from q) n4,λq=>absurd (show kindOf 0=4 from q) n4⟩,rfl⟩
  ·rename_i ho;have hs:Ry (kJ (fetchW prog f.pc))=true:=(HD _).2 (Wk _ ho hx);split
   ·exact⟨⟨(fF _).2 ⟨by simp,λq=>absurd q (by simp),λ_=>rfl,λq=>absurd q (by simp),λ_=>.inl rfl,.inl hs⟩,λq=>absurd (show false=true from q) (by simp),λ_=>.inr rfl,λ_ _ q=>absurd (show(6:Int)=0 from q) (by simp)⟩,rfl⟩
   ·split
    ·exact⟨⟨(fF _).2 ⟨by simp,λq=>absurd q (by simp),λ_=>rfl,λq=>absurd q (by simp),λ_=>.inl rfl,.inl hs⟩,λq=>absurd (show false=true from q) (by simp),λ_=>.inr rfl,λ_ _ q=>absurd (show(7:Int)=0 from q) (by simp)⟩,rfl⟩
    ·exact⟨⟨(fF _).2 ⟨(show(0:Int)<=0∧(0:Int)<=3 from⟨by simp,by simp⟩),λq=>absurd (show(0:Int)=1 from q) (by simp),λ_=>rfl,λq=>absurd (show(0:Int)=2 from q) (by simp),λq=>absurd rfl q,.inl hs⟩,λq=>absurd (show false=true from q) (by simp),λ_=>.inl rfl,λ_ q=>absurd (show(0:Int)=3 from q) (by simp)⟩,rfl⟩
theorem GI:∀(n:Nat) (q:Int) (c:Co),(∀x∈c.prog,x<=4294967295)->q+n<=9000000->RcCor q c->RcCor (q+n) (jP n c)
 |0,q,c,_,_,h=>by rw[show q+((0:Nat):Int)=q by omega];exact h
 | n+1,q,c,hp,hb,h=>by
  by_cases h0:(c.rob.length:Int)>=c.conf.rob∨c.fetched.length=0
  ·rw[rP h0];exact⟨h.ro,h.lo,by have:=h.nx;omega,h.da,h.wo,h.sp,h.pg⟩
  ·have hx:c.fetched[0]?=some (c.fetched[0]'omT):=aA omT;have e:=vF (n:=n+1) (k:=0) omT (λr=>h0 (.inl r)) hx;rw[show n+1-(0+1)=n by omega,show n+1-0=n+1 by omega]at e;rw[<-e,show q+((n+1:Nat):Int)=(q+1)+(n:Nat) by omega];have hw:wrap64 (c.next+1)=c.next+1:=Oj (by have:=h.lo;omega) (by have:=h.nx;omega);have he:=TP (M:=c.mem.size) c.next (f:=c.fetched[0]'omT) hp;refine GI n (q+1) _ hp omT ⟨?_,?_,?_,h.da,h.wo,h.sp,h.pg⟩
   ·show RoLst c.mem.size (wrap64 (c.next+1)) (c.rob++[_]);rw[hw];exact h.ro.push he.1 he.2
   ·show 0<=wrap64 (c.next+1);rw[hw];have:=h.lo;omega
   ·show wrap64 (c.next+1)<=_;rw[hw];have:=h.nx;omega
theorem Ff{q:Int}:∀(n:Nat) (c:Co),RcCor q c->RcCor q (eC n c)
 |0,_,h=>h
 | n +1,c,h=>by
  by_cases h0:c.stop=true∨(c.fetched.length:Int)>=c.conf.queue
  ·rw[pP h0];exact h
  ·by_cases hf:(fetchP c.prog c.fetch).isSome=false
   ·rw[rQ omT h0 hf];exact⟨h.ro,h.lo,h.nx,h.da,h.wo,h.sp,h.pg⟩
   ·by_cases hw:(bG c.words (lineOf c.fetch)).2.isSome=false
    ·rw[nM omT h0 hf hw];split
     ·exact⟨h.ro,h.lo,h.nx,h.da,h.wo,h.sp,h.pg⟩
     ·exact h
    ·have e:=tO (n:=n+1) (k:=0) omT h0 hf hw;rw[show n+1-(0+1)=n by omega,show n+1-0=n+1 by omega]at e;rw[<-e];refine Ff n _ ?_;have ht:=Fe c.words (lineOf c.fetch);have hT:RcCor q (gK c):=⟨h.ro,h.lo,h.nx,h.da,by show((oK _ _).sets.length:Int)=_∧(oK _ _).ways=_;rw[ht.1,ht.2];exact h.wo,h.sp,h.pg⟩;have hb:∀w,RcCor q (cN (gK c) w).1:=by
      intro w;unfold cN
      repeat' split
      all_goals exact⟨hT.ro,hT.lo,hT.nx,hT.da,hT.wo,hT.sp,hT.pg⟩
     have k:=hb (fetchW c.prog c.fetch);exact⟨k.ro,k.lo,k.nx,k.da,k.wo,k.sp,k.pg⟩
def Rk{q:Int}{c:Co}(h:RcCor q c):RcCor q (pT c):=by
 have h1:RcCor q (aZ c):=by
  refine⟨h.ro,h.lo,h.nx,?_,h.wo,?_,h.pg⟩
  ·show((nO c.stores c.data).2.1.sets.length:Int)=_∧(nO c.stores c.data).2.1.ways=_;unfold nO;split
   ·exact h.da
   ·rename_i p l _;have:=LH c.data p.addr p.data;split
    ·rw[this.1,this.2];exact h.da
    ·exact h.da
  ·show ∀p∈(nO c.stores c.data).1,_;unfold nO;split
   ·exact h.sp
   ·rename_i p l hs;split
    ·exact λy hy=>h.sp y (by rw[hs];exact bP _ hy)
    ·exact h.sp
 have hA:∀{d:Co},RcCor q d->RcCor q (mO d):=λ{d} k=>by
  unfold mO;split
  ·exact k
  ·split
   ·exact⟨k.ro,k.lo,k.nx,k.da,k.wo,k.sp,k.pg⟩
   ·exact k
 have hB:∀{d:Co},RcCor q d->RcCor q (kH d):=λ{d} k=>by
  unfold kH;split
  ·exact k
  ·unfold mD;split
   ·split
    ·rename_i w _ _;have:=LI d.data w.line;exact⟨k.ro,k.lo,k.nx,by show((qO _ _).sets.length:Int)=_∧(qO _ _).ways=_;rw[this.1,this.2];exact k.da,k.wo,k.sp,k.pg⟩
    ·exact k
   ·exact k
 rw[jL];split
 ·exact hB (hA h1)
 ·exact hB h1
def ab6(n lo hi:Int)(h:0<=lo∧lo<=hi):0<=bW n lo hi:=by unfold bW;(repeat' split)<;>omega
def aeZ(c:Cf)(prog:List Nat)(m:ByteArray):Bd (cD c) 0 (gP c prog m):=
 ⟨rfl,ab6 _ 2 8 (by decide),ab6 _ 1 4 (by decide),ab6 _ 1 4 (by decide),ab6 _ 2 6 (by decide),rfl⟩
def adM(c:Cf):0<=(cD c).rob∧0<=(cD c).queue:=⟨ab6 _ 2 8 (by decide),ab6 _ 1 4 (by decide)⟩
def aaL{f:Cf}(h0:0<=f.rob∧0<=f.queue){c:Co}(h:Bd f c.retired.length c):Bd f (lM c).retired.length (lM c)∧c.retired.length<=(lM c).retired.length∧(lM c).retired.length<=c.retired.length+f.width.toNat:=by
 obtain⟨b,h1,h2,h3⟩:=WO h0 h;have:=h3.ret;subst this;exact⟨h3,h1,h2⟩
theorem RcCor.mono{q r:Int}{c:Co}(h:RcCor q c)(hq:q<=r):RcCor r c:=⟨h.ro,h.lo,by have:=h.nx;omega,h.da,h.wo,h.sp,h.pg⟩
def WI{q:Int}{c:Co}{n:Nat}(hm:c.okM n)(hb:n+20<=890000)(hq:q+2<=9000000)(h:RcCor q c):RcCor (q+2) (Qd c):=by
 have hk:=Jh hm hb;have h0:RcCor q (s0 c):=⟨h.ro,h.lo,h.nx,h.da,h.wo,h.sp,h.pg⟩;have h3:RcCor q (s3 c):=BC _ _ (TN (TM h0));have h4:RcCor q (s4 c):=Rj hk.k3 omT h3;have h5:RcCor (q+2) (s5 c):=by
  show RcCor (q+2) (iP (s4 c));have hw:=nN hk.k4.cf;unfold iP;split
  ·exact h4.mono omT
  ·exact(GI _ q _ hk.k4.ok.progo omT h4).mono omT
 have h6:RcCor (q+2) (s6 c):=by
  show RcCor (q+2) (dS (s5 c));unfold dS;split
  ·exact h5
  ·exact Ff _ _ h5
 exact Rk h6
def LG{x:ByteArray}(h:∃n,x.size=upS n):sW x=x:=by
 obtain⟨n,hn⟩:=h;have hu:x.size=16∨x.size=32∨x.size=64∨x.size=128∨x.size=256:=by rw[hn];unfold upS;(repeat' split)<;>omega
 unfold sW;rw[show min x.size 256=x.size by omega,show upS x.size-x.size=0 by rcases hu with e|e|e|e|e<;>rw[e]<;>rfl,List.replicate_zero,dR,show x.extract 0 x.size=x by simp]
 try (cases x;simp)
def Re{f:Cf}{a n:Nat}{q:Int}{c:Co}(hm:c.okM n)(hB:Bd f a c)(h:RcCor q c)(hs:∃n,c.mem.size=upS n):iA c=true:=by
 have hc:=nN hm.cf;have b1:=hB.rob;have b2:=hB.fet;have b3:=hB.sto;rw[<-hB.conf]at b1 b2 b3;unfold iA;simp only[aJ,bB,lE];refine⟨⟨⟨⟨⟨⟨⟨⟨⟨⟨⟨hm.cf,h.pg⟩,?_⟩,h.ro.right omT⟩,b1⟩,λe he=>(h.ro.ev e he).2⟩,?_⟩,?_⟩,hm.guess⟩,b2⟩,b3⟩,h.sp⟩
 ·rw[LG hs];simp
 ·unfold yC;simp only[aJ,bB];exact⟨⟨hm.data,h.da.1⟩,h.da.2⟩
 ·unfold yC;simp only[aJ,bB];exact⟨⟨hm.words,h.wo.1⟩,h.wo.2⟩
structure GdRun(X:Co)(k:Nat):Prop where
 ok:(pB X k).ok (10*k)
 bd:Bd X.conf (pB X k).retired.length (pB X k)
 rc:RcCor (1+2*k) (pB X k)
 ms:∃n,(pB X k).mem.size=upS n
 rt:iA (pB X k)=true
def aeY(cf:Cf)(prog:List Nat)(m:ByteArray)(hc:cf.ok)(hp:∀x∈prog,x<=4294967295)(X:Co)(hX:X=gP cf prog m)(hr:iA X=true):GdRun X 0:=by
 have h0:=Sw cf prog m hc hp;subst hX;refine⟨h0,aeZ cf prog m,⟨RoLst.nil,(show(0:Int)<=1 from by decide),(show(1:Int)<=1+2*((0:Nat):Int)from by decide),?_,?_,λp hp=>(List.not_mem_nil hp).elim,?_⟩,⟨_,EW m⟩,hr⟩
 ·unfold iA at hr;simp only[aJ,bB]at hr;obtain⟨⟨⟨⟨⟨⟨-,h7⟩, -⟩, -⟩, -⟩, -⟩, -⟩:=hr;unfold yC at h7;simp only[aJ,bB]at h7;exact⟨h7.1.2,h7.2⟩
 ·unfold iA at hr;simp only[aJ,bB]at hr;obtain⟨⟨⟨⟨⟨-,h8⟩, -⟩, -⟩, -⟩, -⟩:=hr;unfold yC at h8;simp only[aJ,bB]at h8;exact⟨h8.1.2,h8.2⟩
 ·show(prog.take (min prog.length 64)).length<=64;rw[aL];omega
theorem GdRun.next{X:Co}{k:Nat}(h:GdRun X k)(hk:k<=3000)(h0:0<=X.conf.rob∧0<=X.conf.queue):GdRun X (k+1):=by
 have hm:=BT h.ok omT h.rt;have hs:lM (pB X k)=Qd (pB X k):=if_pos h.rt;have hB:=(aaL h0 h.bd).1;have hR:=WI hm omT omT h.rc;have hM:∃n,(pB X (k+1)).mem.size=upS n:=by
  obtain⟨n,hn⟩:=h.ms;exact⟨n,(Vk h.rt).2.2.trans hn⟩
 have hk7:=(Jh hm omT).k7;have hR2:RcCor (1+2*((k+1:Nat):Int)) (pB X (k+1)):=by
  show RcCor _ (lM (pB X k));rw[hs,show 1+2*((k+1:Nat):Int)=1+2*(k:Int)+2 by omega];exact hR
 have hk8:(pB X (k+1)).okM (10*k+10):=by show(lM (pB X k)).okM _;rw[hs];exact hk7
 exact⟨by rw[show 10*(k+1)=10*k+10 by omega];exact hk8.ok,hB,hR2,hM,Re hk8 hB hR2 hM⟩
theorem UJ{X:Co}(h:GdRun X 0)(h0:0<=X.conf.rob∧0<=X.conf.queue):∀k,k<=3000->GdRun X k
 |0,_=>h
 |k+1,hk=>(UJ h h0 k omT).next omT h0
def adL(cf:Cf)(prog:List Nat)(m:ByteArray)(h0:(gP cf prog m).ok 0):iA (gP cf prog m)=true:=by
 have hc:∀n lo hi:Int,lo<=hi->lo<=bW n lo hi∧bW n lo hi<=hi:=λn lo hi h=>by unfold bW;(repeat' split)<;>omega
 have hcf:wA (cD cf)=true:=by
  unfold wA inI cD;have h1:=hc cf.mode 0 2 (by decide);have h2:=hc cf.width 1 2 (by decide);have h3:=hc cf.rob 2 8 (by decide);have h4:=hc cf.queue 1 4 (by decide);have h5:=hc cf.stores 1 4 (by decide);have h6:=hc cf.slots 2 6 (by decide);have h7:=hc cf.sets 1 4 (by decide);have h8:=hc cf.ways 1 2 (by decide);have h9:(1<=(if bW cf.sets 1 4=3 then 2 else bW cf.sets 1 4))∧(if bW cf.sets 1 4=3 then 2 else bW cf.sets 1 4)<=4∧(if bW cf.sets 1 4=3 then 2 else bW cf.sets 1 4)≠3:=by split<;>omega
  simp only[aJ,bB,lE,ge_iff_le,ne_eq];refine⟨⟨⟨⟨⟨⟨⟨⟨⟨⟨⟨λx hx=>?_,h1⟩,h2⟩,h3⟩,h4⟩,h5⟩,h6⟩,⟨h9.1,h9.2.1⟩⟩,h9.2.2⟩,h8⟩,?_⟩,?_⟩
  ·obtain⟨y,_,rfl⟩:=sY.1 hx;exact hc y 1 8 (by decide)
  ·rw[aG,aL];omega
  ·rw[aL];omega
 have hcl:=nN hcf;have hCa:∀s w:Int,(s=1∨s=2∨s=4)->(w=1∨w=2)->yC (Cl s w) { (cD cf)with sets:=s,ways:=w}=true:=by
  intro s w hs hw;rcases hs with rfl|rfl|rfl<;>rcases hw with rfl|rfl<;>rfl
 have hsets:(cD cf).sets=1∨(cD cf).sets=2∨(cD cf).sets=4:=by
  have:=hc cf.sets 1 4 (by decide);show(if bW cf.sets 1 4=3 then 2 else bW cf.sets 1 4)=1∨(if bW cf.sets 1 4=3 then 2 else bW cf.sets 1 4)=2∨(if bW cf.sets 1 4=3 then 2 else bW cf.sets 1 4)=4;split<;>omega
 have hways:(cD cf).ways=1∨(cD cf).ways=2:=by
  have:=hc cf.ways 1 2 (by decide);show bW cf.ways 1 2=1∨bW cf.ways 1 2=2;omega
 have hf:=hCa _ _ hsets hways;unfold iA;have hm:(gP cf prog m).mem=sW m:=rfl;rw[show sW (gP cf prog m).mem=(gP cf prog m).mem from LG ⟨_,EW m⟩];simp only[aJ,bB,lE];refine⟨⟨⟨⟨⟨⟨⟨⟨⟨⟨⟨hcf,?_⟩,by simp⟩,rfl⟩,?_⟩,λe he=>(List.not_mem_nil he).elim⟩,hf⟩,hf⟩,rfl⟩,?_⟩,?_⟩,λe he=>(List.not_mem_nil he).elim⟩
 ·show(prog.take (min prog.length 64)).length<=64;rw[aL];omega
 ·show((0:Nat):Int)<=(cD cf).rob;omega
 ·show((0:Nat):Int)<=(cD cf).queue;omega
 ·show((0:Nat):Int)<=(cD cf).stores;omega
def ad6{k:Nat}(h:k<=2000):Hs (k:Int)=k:=by unfold Hs;omega
def aeW(cf:Cf)(prog:List Nat)(m:ByteArray)(k:Nat)(hc:cf.ok)(hp:∀x∈prog,x<=4294967295)(hl:prog.length<=1000)(hk:k<=2000)(X:Co)(hX:X=gP cf prog m):cA C0 7 [.agg (cfL cf false false),.sl 1 (prog.map eE) false,.v (.string m),vN k] (.tup [.agg (coL (pB X k)),.sl 4 ((iH X k).map seL) false]):=by
 subst hX;have h:=Zj cf prog m (k:Int) hc hp hl;rw[ad6 hk]at h;exact h
def aeX(X:Co)(k:Nat):(pB X k).retired <+: (pB X (k+1)).retired:=by
 show _ <+: (lM (pB X k)).retired
 cases h:iA (pB X k)with
 |true=>exact(Vk h).2.1
 |false=>rw[adE h];exact List.prefix_refl _
def acJ(X:Co)(k:Nat):(pB X k).retired.map Sp.pc++(uH X k).pcs=(pB X (k+1)).retired.map Sp.pc:=by
 obtain⟨t,ht⟩:=aeX X k;have e:(uH X k).pcs=((pB X (k+1)).retired.drop (Ct ((pB X k).retired.length:Nat)).toNat).map Sp.pc:=rfl;rw[e,show(Ct (((pB X k).retired.length:Nat):Int)).toNat=(pB X k).retired.length by unfold Ct;split<;>omega, <-ht,List.drop_left,dY]
def lcase(l:List Nat):l=[]∨∃p q,l=p::q:=by cases l with|nil=>exact .inl rfl|cons p q=>exact .inr ⟨p,q,rfl⟩
theorem aeJ{X:Co}(h:∀k,k<=3000->GdRun X k)(h0:X.cycle=0):∀k,k<=3000->(pB X k).cycle=k
 |0,_=>h0
 |k+1,hk=>by
  have ih:=aeJ h h0 k omT;show(lM (pB X k)).cycle=_;rw[(Vk (h k omT).rt).1,ih,Oj omT omT];omega
def aeO(prog:List Nat)(m:ByteArray)(hl:prog.length<=9223372036854775807)(hm:m.size<=9223372036854775807):cA C0 6 [.sl 1 (prog.map eE) false,.v (.string m)] (.tup [.sl 1 ((abX prog).map eE) false,.v (.string (abW m))]):=by
 refine dc1 (cA.intro c1Ok Tryz.func6 rfl rfl (by kernel_rfl) rfl ?_);refine qSC 0 rfl<|cRg<|oR 2 rfl<|rW (vN prog.length) rfl (bT eE prog)<|rW (vN (min prog.length 64)) rfl (EK prog.length 64)<|nW (.sl 1 ((prog.take (min prog.length 64)).map eE) false) rfl (zB (wX eE prog (min prog.length 64))) slT<|oR 2 rfl<|rV (vN m.size) rfl<|rW (vN (min m.size 300)) rfl (EK m.size 300)<|nW (.v (.string (m.extract 0 (min m.size 300)))) rfl rfl (by refine⟨?_,?_,?_⟩<;>(first|exact aH _|decide|(apply Fj.2;exact omT)))<|oR 2 rfl<|rE 14<|qXF 0 rfl ?_;exact fT rfl rfl
def adD(cf:Cf)(prog:List Nat)(m:ByteArray)(n:Int)(hc:cf.ok)(hp:∀x∈prog,x<=4294967295)(hl:prog.length<=9223372036854775807)(hm:m.size<=9223372036854775807):cA C0 3 [.agg (cfL cf false false),.sl 1 (prog.map eE) false,.v (.string m),vI n] (vB true):=by
 refine dc1 (cA.intro c1Ok Tryz.func3 rfl rfl (by kernel_rfl) rfl ?_);obtain⟨N,hNe⟩:∃N,N=upTo n 300:=⟨_,rfl⟩;have hNi:(if(300:Int)<max n 0 then(300:Int)else max n 0)=(N:Int):=hNe ▸ ac0 n 300;have hN:N<=300:=hNe ▸ acZ _ _;have hl2:(abX prog).length<=1000:=by unfold abX;rw[aL];omega
 have hp2:=AQ (P:=λx=>x<=4294967295) (n:=min prog.length 64) hp;obtain⟨X,hXe⟩:∃X,X=gP cf (abX prog) (abW m):=⟨_,rfl⟩;have hX:X.ok 0:=hXe ▸ Sw cf _ _ hc hp2;have hr0:iA X=true:=hXe ▸ adL cf _ _ (Sw cf _ _ hc hp2);have hG:=UJ (aeY cf _ _ hc hp2 X hXe hr0) (by rw[hXe];exact adM cf);have hcy:X.cycle=0:=by rw[hXe];rfl
 have hso_:=acK hX (k:=N) omT;have hnb:3010<=890000:=by decide
 have hcN:=aeJ hG hcy N omT;have hsl:=Nv X N;have hrN:(pB X N).retired.length<=890000:=aN (yW hX N omT).ret omT;refine cSR<|rAl 0 rfl rfl<|oR 1 rfl<|rE 2<|cSR<|oR 2 rfl<|rCi rfl (aeO prog m hl hm)<|oR 5 rfl<|rE 10<|cSR<|oR 1 rfl<|rW (vI (max n 0)) rfl (okI (ac7 n 0))<|rW (vN N) rfl (okI hNi) ?_;refine oR 1 rfl<|rE 14<|cSR<|oR 4 rfl<|rCi rfl (aeW cf (abX prog) (abW m) N hc hp2 hl2 omT X hXe)<|oR 3 rfl<|rAl 22 rfl rfl<|rSx 22 (coL (pB X N)) rfl rfl rfl<|oR 1 rfl<|rE 25<|cSR<|oR 3 rfl<|rCl (x:=.agg (coL X)) rfl (.inl rfl) ((show cA C0 8 [.agg (cfL cf false false),.sl 1 ((abX prog).map eE) false,.v (.string (abW m))] (.agg (coL X))from hXe ▸ Uu cf (abX prog) (abW m) hc omT))<|rAl 29 rfl rfl ?_;refine rSx 29 (coL X) rfl rfl rfl<|rE 31<|fZ<|cSR<|oR 1 rfl<|rW (vN ((iH X N).length)) rfl (bT seL (iH X N))<|oR 1 rfl<|rW (vB (((iH X N).length) != N)) rfl (okB (neN _ _))<|rE 35 ?_;refine aS rfl (λh1=>by rw[hsl]at h1;simp at h1) (λ_=>?_);refine mH<|Fs<|cRg<|oR 1 rfl<|rE 36<| .mk _ (.step none (Ghost.of_lists (l:=[(3,vN N),(8,vB false),(9,.ptr 22 0),(10,.sl 4 ((iH X N).map seL) false),(11,.ptr 29 0),(41,vB (((iH X N).length) != N)),(12,.sl 1 ([]) true)]) (hp:=[(0,.box [vI cf.mode,vI cf.width,vI cf.rob,vI cf.queue,vI cf.stores,vI cf.slots,vI cf.sets,vI cf.ways,.sl 1 (cf.lat.map iK) false,vB cf.tables,.sl 1 (cf.tape.map eE) false]),(22,.box (coL (pB X N))),(29,.box (coL X))]) trivial ⟨.refl _,.refl _,.refl _,.refl _,.refl _,.refl _,.nil 1 true,trivial⟩ ⟨⟨trivial,_,rfl,.refl _⟩,⟨trivial,_,rfl,.refl _⟩,⟨trivial,_,rfl,.refl _⟩,trivial⟩) (.refl _))<|fZ<|cSR<|oR 2 rfl<|rE 38<|qV<|jX (κ:=Nat×Bool) (λz_=>match z_ with|(k,false)=>⟨slotsF [(3,vN N),(9,.ptr 22 0),(10,.sl 4 ((iH X N).map seL) false),(11,.ptr 29 0),(41,vB (((iH X N).length) != N)),(42,vN N),(43,vN k),(12,.sl 1 ([]) true)],heapF [(0,.box [vI cf.mode,vI cf.width,vI cf.rob,vI cf.queue,vI cf.stores,vI cf.slots,vI cf.sets,vI cf.ways,.sl 1 (cf.lat.map iK) false,vB cf.tables,.sl 1 (cf.tape.map eE) false]),(22,.box (coL (pB X N))),(29,.box (coL (pB X k)))],39⟩|(k,true)=>⟨slotsF [(3,vN N),(9,.ptr 22 0),(10,.sl 4 ((iH X N).map seL) false),(11,.ptr 29 0),(41,vB (((iH X N).length) != N)),(42,vN N),(43,vN k),(12,.osl 38 0 (((pB X k).retired.map Sp.pc).length) false)],heapF [(0,.box [vI cf.mode,vI cf.width,vI cf.rob,vI cf.queue,vI cf.stores,vI cf.slots,vI cf.sets,vI cf.ways,.sl 1 (cf.lat.map iK) false,vB cf.tables,.sl 1 (cf.tape.map eE) false]),(22,.box (coL (pB X N))),(29,.box (coL (pB X k))),(38,.arr (((pB X k).retired.map Sp.pc).map eE) 1)],39⟩) (λz_=>match z_ with|(k,false)=>(k<=N∧(pB X k).retired.map Sp.pc=[])|(k,true)=>(k<=N)) (λz_=>N-z_.1) (0,false) (λs=>s) (Weak.of_lists (λs=>s) wT wH rfl) (⟨aE _,(show(pB X 0).retired.map Sp.pc=[]from(by show X.retired.map Sp.pc=[];rw[hXe];rfl))⟩) ?_;intro z_ hk;obtain⟨k,b_⟩:=z_;cases b_
 ·have hk_:=hk;have hnn:k<=N:=hk_.1;have hkB:k<=300:=by omega
  have hNk:(pB X k).retired.map Sp.pc=[]:=hk_.2;have hso:(lM (pB X k)).ok (0+10*k+10):=Ah (yW hX k omT) omT;have hnb:0+10*k+10<=890000:=by omega
  have hsk:=acY hX (k:=k) omT;have hpl:(pB X k).retired.length+(uH X k).pcs.length=(pB X (k+1)).retired.length:=by have:=congrArg List.length (acJ X k);simpa using this
  have hrl:(pB X k).retired.length<=890000:=aN (yW hX k omT).ret omT;have hrl2:(pB X (k+1)).retired.length<=890000:=aN (yW hX (k+1) omT).ret omT;refine cSR<|rW (vB (decide (k<N))) rfl (okB (ltN _ _))<|rE 40<|fZ ?_;refine aS rfl (λh2=>?_) (λh2=>?_)
  ·have h2p:=of_decide_eq_true h2;refine mH<|fZ<|qV<|cSR<|oR 2 rfl<|rE 42<|cSR<|oR 2 rfl<|rW (vN (((pB X k).retired).length)) rfl (bT spL ((pB X k).retired))<|oR 1 rfl<|rE 46<|cSR<|oR 1 rfl ?_;refine rCi rfl (abT (pB X k) (0+10*k) (yW hX k omT) omT)<|rSx 29 (coL (lM (pB X k))) rfl rfl rfl<|rE 49<|fZ<|cSR<|oR 2 rfl<|rIx (seL (uH X k)) (.dp 4 0 (seL (uH X k))) rfl rfl (fW (ab4 omT)) rfl<|oR 3 rfl<|rCi rfl (abS (lM (pB X k)) ((pB X k).retired.length:Nat) (hso.w omT))<|rCi rfl (aaJ (uH X k) (uH X k) hsk hsk)<|oR 1 rfl<|rE 58 ?_;refine aS rfl (λh3=>by rw[KL]at h3;cases h3) (λ_=>?_);refine mH ?_;rcases lcase (uH X k).pcs with hP|⟨p0,ps,hP⟩
   ·rw[hP]at hpl;refine cRg<|oR 3 rfl<|rIx (seL (uH X k)) (.dp 4 0 (seL (uH X k))) rfl rfl (fW (ab4 omT)) rfl<|oR 1 rfl<|rW (.sl 1 ([]) false) rfl ((congrArg (λz:List Nat=>Res.ok (AV.sl 1 (z.map eE) false)) hP))<|nW (.sl 1 ([]) true) rfl rfl (⟨trivial,trivial⟩)<|oR 1 rfl<|rE 66<|cRg ?_;have b1:k+1<=301:=aF hkB (aC 1);refine rW (vN (k+1)) rfl (okI (bJ b1 rfl))<|oR 1 rfl<|rE 68 ?_;refine⟨(k+1,false),λi=>i,Weak.of_lists _ wT wH rfl,⟨by omega,(by rw[<-((show(pB X k).retired.map Sp.pc=(pB X (k+1)).retired.map Sp.pc from by rw[<-acJ X k,hP,dR]))];exact hNk)⟩,by show N-(k+1)<N-k;omega⟩
   ·rw[hP]at hpl;have hpq:(p0::ps).length=ps.length+1:=rfl;refine cRg<|oR 3 rfl<|rIx (seL (uH X k)) (.dp 4 0 (seL (uH X k))) rfl rfl (fW (ab4 omT)) rfl<|oR 1 rfl<|rW (.sl 1 ((p0::ps).map eE) false) rfl ((congrArg (λz:List Nat=>Res.ok (AV.sl 1 (z.map eE) false)) hP))<|rFx (x:=.osl 64 0 ((p0::ps).length) false) (h':=upd _ 64 (some (.arr ((p0::ps).map eE) 1))) rfl rfl (At eE ([]:List Nat) (p0::ps) omT) (⟨by exact omT,by exact omT,trivial,trivial⟩)<|oR 1 rfl<|rE 66<|cRg ?_;have b2:k+1<=301:=aF hkB (aC 1);refine rW (vN (k+1)) rfl (okI (bJ b2 rfl))<|oR 1 rfl<|rE 68 ?_;refine⟨(k+1,true),λi=>match i with|38=>64|i=>i,Weak.of_lists _ ⟨⟨rfl,rfl⟩,⟨rfl,rfl⟩,⟨rfl,rfl⟩,⟨rfl,rfl⟩,⟨rfl,rfl⟩,⟨rfl,rfl⟩,⟨rfl,rfl⟩,⟨(show AV.osl 64 0 ((p0::ps).length) false=AV.osl 64 0 ((pB X (k+1)).retired.map Sp.pc).length false from by rw[<-(show p0::ps=(pB X (k+1)).retired.map Sp.pc from(by rw[<-((show(pB X k).retired.map Sp.pc++p0::ps=(pB X (k+1)).retired.map Sp.pc from by rw[<-acJ X k,hP])),hNk];rfl))];first|done|rfl|(congr 1<;>(first|exact omT|simp))),rfl⟩,trivial⟩ ⟨⟨rfl,rfl,rfl⟩,⟨rfl,rfl,rfl⟩,⟨rfl,rfl,rfl⟩,⟨rfl,(congrArg (λz:List Nat=>some (Blk.arr (z.map eE) 1)) (show p0::ps=(pB X (k+1)).retired.map Sp.pc from(by rw[<-((show(pB X k).retired.map Sp.pc++p0::ps=(pB X (k+1)).retired.map Sp.pc from by rw[<-acJ X k,hP])),hNk];rfl))),rfl⟩,trivial⟩ rfl,by omega,by show N-(k+1)<N-k;omega⟩
  ·have h2p:=aD h2;refine Je<|fZ<|cSR<|oR 1 rfl<|rV (vI 0) rfl<|oR 2 rfl<|rW (vN (((pB X N).retired).length)) rfl (bT spL ((pB X N).retired))<|rW (vB (0 != (((pB X N).retired).length))) rfl (okB (neN _ _))<|oR 1 rfl<|gN rfl<|gBS (x:=vI 0) rfl id rfl<|gN rfl<|gS rfl id<|gBS (x:=vN (((pB X k).retired).length)) rfl id (bT spL ((pB X k).retired))<|gBS (x:=vB (0 != (((pB X k).retired).length))) rfl hsT (okB (neN _ _)) ?_;refine cU rfl rfl rfl (by simp)<|rE 54 ?_;refine aS rfl (λh4=>by have e:=congrArg List.length hNk;rw[aG]at e;rw[show k=N by omega]at e h4;rw[cW]at e;rw[e]at h4;simp[c2o]at h4) (λ_=>?_);refine mH<|fZ<|cSR<|oR 2 rfl<|rW (vN (((pB X N).retired).length)) rfl (bT spL ((pB X N).retired))<|oR 1 rfl<|rE 58<|qV<|jX (κ:=Nat) (λj=>⟨slotsF [(3,vN N),(9,.ptr 22 0),(11,.ptr 29 0),(41,vB (((iH X N).length) != N)),(12,.sl 1 ([]) true),(44,vB (decide (k<N))),(81,vB (cR (0 != (((pB X N).retired).length)) true (0 != (((pB X k).retired).length)))),(83,.sl 9 (((pB X N).retired).map spL) false),(84,vN (((pB X N).retired).length)),(85,vN j)],heapF [(0,.box [vI cf.mode,vI cf.width,vI cf.rob,vI cf.queue,vI cf.stores,vI cf.slots,vI cf.sets,vI cf.ways,.sl 1 (cf.lat.map iK) false,vB cf.tables,.sl 1 (cf.tape.map eE) false]),(22,.box (coL (pB X N))),(29,.box (coL (pB X k)))],58⟩) (λj=>j<=((pB X N).retired).length) (λj=>((pB X N).retired).length-j) 0 (λs=>s) (Weak.of_lists (λs=>s) wT wH rfl) (aE _) ?_;intro j hj;have hjn:j<=((pB X N).retired).length:=hj;have hjB:j<=890000:=by omega
   have hkl:(pB X k).retired.length=(pB X N).retired.length:=by rw[show k=N by omega]
   refine cSR<|rW (vB (decide (j<(((pB X N).retired).length)))) rfl (okB (ltN _ _))<|rE 59<|fZ ?_;refine aS rfl (λh5=>by have z:=of_decide_eq_true h5;rw[<-aG (f:=Sp.pc), <-(show k=N by omega),hNk]at z;exact absurd z (dD _)) (λ_=>?_);refine Je<|cSR<|rCi rfl (Vg)<|oR 1 rfl<|gN rfl<|gS rfl id<|gN rfl<|gBS (x:=vB (((pB X N).cycle)==(N:Int))) rfl hsT rfl<|cU rfl rfl rfl (λh=>h)<|oR 1 rfl<|rE 67<|rL ?_;exact fT rfl (dM (by rw[hcN];simp[c2a]))
 ·have hk_:=hk;have hnn:k<=N:=hk_;have hkB:k<=300:=by omega
  have habk:((pB X k).retired.map Sp.pc).length<=890000:=(by rw[aG];exact aN (yW hX k omT).ret omT);have hso:(lM (pB X k)).ok (0+10*k+10):=Ah (yW hX k omT) omT;have hnb:0+10*k+10<=890000:=by omega
  have hsk:=acY hX (k:=k) omT;have hpl:(pB X k).retired.length+(uH X k).pcs.length=(pB X (k+1)).retired.length:=by have:=congrArg List.length (acJ X k);simpa using this
  have hrl:(pB X k).retired.length<=890000:=aN (yW hX k omT).ret omT;have hrl2:(pB X (k+1)).retired.length<=890000:=aN (yW hX (k+1) omT).ret omT;refine cSR<|rW (vB (decide (k<N))) rfl (okB (ltN _ _))<|rE 40<|fZ ?_;refine aS rfl (λh6=>?_) (λh6=>?_)
  ·have h6p:=of_decide_eq_true h6;refine mH<|fZ<|qV<|cSR<|oR 2 rfl<|rE 42<|cSR<|oR 2 rfl<|rW (vN (((pB X k).retired).length)) rfl (bT spL ((pB X k).retired))<|oR 1 rfl<|rE 46<|cSR<|oR 1 rfl ?_;refine rCi rfl (abT (pB X k) (0+10*k) (yW hX k omT) omT)<|rSx 29 (coL (lM (pB X k))) rfl rfl rfl<|rE 49<|fZ<|cSR<|oR 2 rfl<|rIx (seL (uH X k)) (.dp 4 0 (seL (uH X k))) rfl rfl (fW (ab4 omT)) rfl<|oR 3 rfl<|rCi rfl (abS (lM (pB X k)) ((pB X k).retired.length:Nat) (hso.w omT))<|rCi rfl (aaJ (uH X k) (uH X k) hsk hsk)<|oR 1 rfl<|rE 58 ?_;refine aS rfl (λh7=>by rw[KL]at h7;cases h7) (λ_=>?_);refine mH<|cRg<|oR 3 rfl<|rIx (seL (uH X k)) (.dp 4 0 (seL (uH X k))) rfl rfl (fW (ab4 omT)) rfl<|oR 2 rfl<|rFx (x:=.osl 64 0 (((pB X k).retired.map Sp.pc).length+((uH X k).pcs).length) false) (h':=upd (upd _ 38 none) 64 (some (.arr ((((pB X k).retired.map Sp.pc)++((uH X k).pcs)).map eE) 1))) rfl rfl (jN eE ((pB X k).retired.map Sp.pc) ((uH X k).pcs) omT omT) (⟨by exact omT,by exact omT,trivial⟩)<|oR 1 rfl<|rE 66<|cRg ?_;have b3:k+1<=301:=aF hkB (aC 1);refine rW (vN (k+1)) rfl (okI (bJ b3 rfl))<|oR 1 rfl<|rE 68 ?_;refine⟨(k+1,true),λi=>match i with|38=>64|i=>i,Weak.of_lists _ ⟨⟨rfl,rfl⟩,⟨rfl,rfl⟩,⟨rfl,rfl⟩,⟨rfl,rfl⟩,⟨rfl,rfl⟩,⟨rfl,rfl⟩,⟨rfl,rfl⟩,⟨(show AV.osl 64 0 (((pB X k).retired.map Sp.pc).length+((uH X k).pcs).length) false=AV.osl 64 0 ((pB X (k+1)).retired.map Sp.pc).length false from by rw[<-(show((pB X k).retired.map Sp.pc)++((uH X k).pcs)=(pB X (k+1)).retired.map Sp.pc from acJ X k)];first|done|rfl|(congr 1<;>(first|exact omT|simp))),rfl⟩,trivial⟩ ⟨⟨rfl,rfl,rfl⟩,⟨rfl,rfl,rfl⟩,⟨rfl,rfl,rfl⟩,⟨rfl,(congrArg (λz:List Nat=>some (Blk.arr (z.map eE) 1)) (show((pB X k).retired.map Sp.pc)++((uH X k).pcs)=(pB X (k+1)).retired.map Sp.pc from acJ X k)),rfl⟩,trivial⟩ rfl,by omega,by show N-(k+1)<N-k;omega⟩
  ·have h6p:=aD h6;refine Je<|fZ<|cSR<|oR 1 rfl<|rV (vN (((pB X k).retired.map Sp.pc).length)) rfl<|oR 2 rfl<|rW (vN (((pB X N).retired).length)) rfl (bT spL ((pB X N).retired))<|rW (vB ((((pB X k).retired.map Sp.pc).length) != (((pB X N).retired).length))) rfl (okB (neN _ _))<|oR 1 rfl<|gN rfl<|gBS (x:=vN (((pB X k).retired.map Sp.pc).length)) rfl id rfl<|gN rfl<|gS rfl id<|gBS (x:=vN (((pB X k).retired).length)) rfl id (bT spL ((pB X k).retired))<|gBS (x:=vB ((((pB X k).retired.map Sp.pc).length) != (((pB X k).retired).length))) rfl hsT (okB (neN _ _)) ?_;refine cU rfl rfl rfl (by simp)<|rE 54 ?_;refine aS rfl (λh8=>by rw[show k=N by omega]at h8;simp[c2o]at h8) (λ_=>?_);refine mH<|fZ<|cSR<|oR 2 rfl<|rW (vN (((pB X N).retired).length)) rfl (bT spL ((pB X N).retired))<|oR 1 rfl<|rE 58<|qV<|jX (κ:=Nat) (λj=>⟨slotsF [(3,vN N),(9,.ptr 22 0),(11,.ptr 29 0),(41,vB (((iH X N).length) != N)),(12,.osl 38 0 (((pB X k).retired.map Sp.pc).length) false),(44,vB (decide (k<N))),(81,vB (cR ((((pB X k).retired.map Sp.pc).length) != (((pB X N).retired).length)) true ((((pB X k).retired.map Sp.pc).length) != (((pB X k).retired).length)))),(83,.sl 9 (((pB X N).retired).map spL) false),(84,vN (((pB X N).retired).length)),(85,vN j)],heapF [(0,.box [vI cf.mode,vI cf.width,vI cf.rob,vI cf.queue,vI cf.stores,vI cf.slots,vI cf.sets,vI cf.ways,.sl 1 (cf.lat.map iK) false,vB cf.tables,.sl 1 (cf.tape.map eE) false]),(22,.box (coL (pB X N))),(29,.box (coL (pB X k))),(38,.arr (((pB X k).retired.map Sp.pc).map eE) 1)],58⟩) (λj=>j<=((pB X N).retired).length) (λj=>((pB X N).retired).length-j) 0 (λs=>s) (Weak.of_lists (λs=>s) wT wH rfl) (aE _) ?_;intro j hj;have hjn:j<=((pB X N).retired).length:=hj;have hjB:j<=890000:=by omega
   have hkl:(pB X k).retired.length=(pB X N).retired.length:=by rw[show k=N by omega]
   refine cSR<|rW (vB (decide (j<(((pB X N).retired).length)))) rfl (okB (ltN _ _))<|rE 59<|fZ ?_;refine aS rfl (λh9=>?_) (λh9=>?_)
   ·have h9p:=of_decide_eq_true h9;refine mH<|fZ<|qV<|cSR<|oR 1 rfl ?_;obtain⟨x1,hx1⟩:∃y_,((pB X N).retired)[j]?=some y_:=⟨_,aA omT⟩;have hx1o:=(yW hX N omT).reto x1 (aB hx1);refine rIx (spL x1) (.dp 9 0 (spL x1)) rfl rfl (fW hx1) rfl<|oR 1 rfl<|rAl 62 rfl rfl<|oR 1 rfl<|rSt rfl<|rE 65<|cSR<|oR 4 rfl<|nW (.ptr2 38 (0+j) 0) rfl rfl (⟨aH _,Fi.2 (by show j<((pB X k).retired.map Sp.pc).length;exact omT)⟩) ?_;obtain⟨x2,hx2⟩:∃y_,((pB X k).retired.map Sp.pc)[j]?=some y_:=⟨_,aA omT⟩;refine rIx (eE x2) (vU x2) rfl rfl (IE (fW hx2)) rfl<|rW (vB (x1.pc != x2)) rfl (okB (neN _ _))<|oR 1 rfl<|gN rfl<|gN rfl<|gS rfl id<|gN rfl ?_;obtain⟨x3,hx3⟩:∃y_,((pB X k).retired)[j]?=some y_:=⟨_,aA omT⟩;have hx3o:=(yW hX k omT).reto x3 (aB hx3);refine Hp (spL x3) (x:=.dp 9 0 (spL x3)) (g:= !(x1.pc != x2)) rfl rfl rfl rfl hsT rfl rfl (λhg=>⟨aH _,fW hx3⟩) rfl<|gS rfl id<|gBS (x:=vB (!((((x1.pc:Nat):Int)==((x3.pc:Nat):Int))&&((((x1.next:Nat):Int)==((x3.next:Nat):Int))&&((x1.rd==x3.rd)&&((((x1.value:Nat):Int)==((x3.value:Nat):Int))&&((((x1.addr:Nat):Int)==((x3.addr:Nat):Int))&&((x1.size==x3.size)&&((x1.store==x3.store)&&((x1.halt==x3.halt)&&((x1.took==x3.took)&&true))))))))))) rfl hsT rfl<|cU rfl rfl rfl (by simp)<|rE 81 ?_;refine aS rfl (λh10=>by rw[show k=N by omega]at hx2 hx3;obtain rfl:=Option.some.inj (hx1.symm.trans hx3);rw[bD,hx1]at hx2;obtain rfl:=Option.some.inj hx2;simp[c2o]at h10) (λ_=>?_);refine mH<|cRg ?_;have b4:j+1<=890001:=aF hjB (aC 1);refine rW (vN (j+1)) rfl (okI (bJ b4 rfl))<|oR 1 rfl<|rE 83 ?_;refine⟨j+1,λs=>s,Weak.of_lists _ wT wH rfl,by omega,by show((pB X N).retired).length-(j+1)<((pB X N).retired).length-j;omega⟩
   ·have h9p:=aD h9;refine Je<|cSR<|rCi rfl (Vg)<|oR 1 rfl<|gN rfl<|gS rfl id<|gN rfl<|gBS (x:=vB (((pB X N).cycle)==(N:Int))) rfl hsT rfl<|cU rfl rfl rfl (λh=>h)<|oR 1 rfl<|rE 67<|rL ?_;exact fT rfl (dM (by rw[hcN];simp[c2a]))
end Go.Proofs.YtgleompefdogkaaGreatDoor
