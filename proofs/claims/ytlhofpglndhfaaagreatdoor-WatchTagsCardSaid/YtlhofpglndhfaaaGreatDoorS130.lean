/- Joined texts. -/
import Derived.Test.YtlhofpglndhfaaaGreatDoorS101
import Derived.Test.YtlhofpglndhfaaaGreatDoorS122
import Derived.Test.YtlhofpglndhfaaaGreatDoorS124
import Derived.Test.YtlhofpglndhfaaaGreatDoorS128
import Derived.Test.YtlhofpglndhfaaaGreatDoorS129
set_option linter.unusedVariables false
set_option linter.unusedSimpArgs false
namespace Go.Proofs.YtlhofpglndhfaaaGreatDoor
set_option maxRecDepth 100000
set_option maxHeartbeats 4000000
open Go.RowKit
theorem Mn(l:List Nat)(k:Nat):(l.take k).sum≤l.sum:=by
 have:=congrArg List.sum (fZ k l);rw[List.sum_append]at this;omega
noncomputable def CIR:Ctx:={P:=Tryz.prog,ty:=tys.find,G:=λ _=>none,H:=pV Tryz.prog (λ _=>none)}
theorem cirOk:CtxOk CIR:=⟨TT.find_ok tys Yb,by kernel_rfl,λ _ _ _ _ _ h=>h⟩
def WV(p:Nat×Nat):List AV:=[vN p.1,vN p.2]
def YK(f:Nat):Nat:=if 2≤f∧f≤7 then 2 else 0
theorem Wd(op:Int):bX CIR 190 [vI op] (vN (cN op)):=.of_flat Tryz.func190 rfl rfl rfl rfl λ w=>(Bn op w).mono λ _ _ ⟨a,b⟩=>⟨a,b ▸ qQ _⟩
theorem Yf(f:Nat)(hf:f≤8):bX CIR 193 [vN f] (.tup [vB (tR f),vB (pB f),vB (pX f)]):=.of_tup Tryz.func193 rfl rfl rfl rfl λ w=>(Kt f hf w).mono λ _ _ ⟨a,b⟩=>⟨a,b ▸ qQ _⟩
theorem Dn(x a n:Nat)(h1:1≤n)(h2:a+n≤32)(hx:x<4294967296):bX CIR 215 [vU x,vN a,vN n] (vU (field x a n)):=.of_flat Tryz.func215 rfl rfl rfl rfl λ w=>OB x a n w h1 h2 hx
theorem Yg(x a n v:Nat)(h1:1≤n)(h2:a+n≤32)(hx:x<4294967296)(hv:v<4294967296):bX CIR 194 [vU x,vN a,vN n,vU v] (vU (setf x a n v)):=.of_flat Tryz.func194 rfl rfl rfl rfl λ w=>OC x a n v w h1 h2 hx hv
theorem We(x n:Nat)(h1:1≤n)(h2:n≤32)(hx:x<4294967296):bX CIR 197 [vU x,vN n] (vU (sext x n)):=.of_flat Tryz.func197 rfl rfl rfl rfl λ w=>GY x n w h1 h2 hx
theorem SY:bX CIR 197 [vU 0,vN 0] (vU 0):=.of_flat Tryz.func197 rfl rfl rfl rfl λ w=>Ox w
theorem Yh(f:Nat)(hf:f≤8):bX CIR 191 [vN f] (.tup [.sl (YK f) ((eB f).map WV) true,vN (nM f)]):=by
 refine bX.intro cirOk Tryz.func191 rfl rfl (by kernel_rfl) rfl<|cSR<|oR 2 rfl<|rE 2<|bW<|cSR<|oR 1 rfl<|rE 3<|bK<|cSR<|rW (vB (f==2)) rfl (okB (eqN _ _))<|oR 1 rfl<|rE 5<|aW rfl (λ h1=>?_) (λ h1=>?_)
 ·refine cSR<|rV (.agg [vI 20,vI 12]) rfl<|rV (.sl 2 ([[vI 20,vI 12]]) true) rfl<|oR 2 rfl<|rE 9<|cO ?_;obtain rfl:f=2:=by have z:=h1;simp at z;omega
  exact fG rfl rcT rfl rfl
 ·refine cSR<|rW (vB (f==3)) rfl (okB (eqN _ _))<|oR 1 rfl<|rE 7<|aW rfl (λ h2=>?_) (λ h2=>?_)
  ·refine cSR<|rV (.agg [vI 20,vI 5]) rfl<|rV (.sl 2 ([[vI 20,vI 5]]) true) rfl<|oR 2 rfl<|rE 11<|cO ?_;obtain rfl:f=3:=by have z:=h2;simp at z;omega
   exact fG rfl rcT rfl rfl
  ·refine cSR<|rW (vB (f==4)) rfl (okB (eqN _ _))<|oR 1 rfl<|rE 9<|aW rfl (λ h3=>?_) (λ h3=>?_)
   ·refine cSR<|rV (.agg [vI 7,vI 5]) rfl<|rV (.agg [vI 25,vI 7]) rfl<|rV (.sl 2 ([[vI 7,vI 5],[vI 25,vI 7]]) true) rfl<|oR 2 rfl<|rE 14<|cO ?_;obtain rfl:f=4:=by have z:=h3;simp at z;omega
    exact fG rfl rcT rfl rfl
   ·refine cSR<|rW (vB (f==5)) rfl (okB (eqN _ _))<|oR 1 rfl<|rE 11<|aW rfl (λ h4=>?_) (λ h4=>?_)
    ·refine cSR<|rV (.agg [vI 8,vI 4]) rfl<|rV (.agg [vI 25,vI 6]) rfl<|rV (.agg [vI 7,vI 1]) rfl<|rV (.agg [vI 31,vI 1]) rfl<|rV (.sl 2 ([[vI 8,vI 4],[vI 25,vI 6],[vI 7,vI 1],[vI 31,vI 1]]) true) rfl<|oR 2 rfl<|rE 18<|cO ?_;obtain rfl:f=5:=by have z:=h4;simp at z;omega
     exact fG rfl rcT rfl rfl
    ·refine cSR<|rW (vB (f==6)) rfl (okB (eqN _ _))<|oR 1 rfl<|rE 13<|aW rfl (λ h5=>?_) (λ h5=>?_)
     ·refine cSR<|rV (.agg [vI 12,vI 20]) rfl<|rV (.sl 2 ([[vI 12,vI 20]]) true) rfl<|oR 2 rfl<|rE 17<|cO ?_;obtain rfl:f=6:=by have z:=h5;simp at z;omega
      exact fG rfl rcT rfl rfl
     ·refine cSR<|rW (vB (f==7)) rfl (okB (eqN _ _))<|oR 1 rfl<|rE 15<|aW rfl (λ h6=>?_) (λ h6=>?_)
      ·refine cSR<|rV (.agg [vI 21,vI 10]) rfl<|rV (.agg [vI 20,vI 1]) rfl<|rV (.agg [vI 12,vI 8]) rfl<|rV (.agg [vI 31,vI 1]) rfl<|rV (.sl 2 ([[vI 21,vI 10],[vI 20,vI 1],[vI 12,vI 8],[vI 31,vI 1]]) true) rfl<|oR 2 rfl<|rE 22<|cO ?_;obtain rfl:f=7:=by have z:=h6;simp at z;omega
       exact fG rfl rcT rfl rfl
      ·refine bB<|cSR<|oR 2 rfl<|rE 17<|cO ?_;have hz:f=0∨f=1∨f=8:=by simp at h1 h2 h3 h4 h5 h6;omega
       rcases hz with rfl|rfl|rfl<;>exact fG rfl rcT rfl rfl
theorem Yi(x rs:Nat)(ps:List (Nat×Nat))(ck:Bool)(hx:x<4294967296)(hrs:ps≠[]→rs=2)(hok:Ks ps)(hl:ps.length≤100):bX CIR 216 [vU x,.sl rs (ps.map WV) ck] (.tup [vU (nL x ps).1,vN (nL x ps).2]):=by
 refine bX.intro cirOk Tryz.func216 rfl rfl (by kernel_rfl) rfl<|cSR<|oR 2 rfl<|rE 2<|cSR<|oR 2 rfl<|rE 4<|bW<|cSR<|oR 1 rfl<|rW (vN ps.length) rfl (bY WV ps)<|oR 1 rfl<|rE 7<|bK<|mL (κ:=Nat) (λ k=>⟨slotsF [(0,vU x),(10,.sl rs (ps.map WV) ck),(11,vN ps.length),(12,vN k),(6,vU (((ps.take k).foldl (uQ x) (0,0)).1)),(7,vN (((ps.take k).foldl (uQ x) (0,0)).2))],heapF [],7⟩) (λ k=>k≤ps.length) (λ k=>ps.length - k) 0 (λ s=>s) (Weak.of_lists (λ s=>s) wT trivial rfl) (aE _) ?_;intro k hk;have hkB:k≤100:=by omega
 have hsk:tQ (ps.take k)≤32:=aM (by unfold tQ;rw[fV];exact Mn _ _) hok.2;have hi:=Cb x (ps.take k) (0,0) (by show 0<4294967296;omega) (λ p hp=>hok.1 p (cL hp)) omT;have hu:((ps.take k).foldl (uQ x) (0,0)).1≤4294967295:=by omega
 have hv2:((ps.take k).foldl (uQ x) (0,0)).2=tQ (ps.take k):=hi.2.trans (bL _);have hv:((ps.take k).foldl (uQ x) (0,0)).2≤32:=by omega
 refine cSR<|rW (vB (decide (k<ps.length))) rfl (okB (ltN _ _))<|rE 8<|bW<|aW rfl (λ h1=>?_) (λ h1=>?_)
 ·refine bB<|bW<|bK<|cSR ?_;obtain⟨p,hp⟩:∃ p,ps[k]?=some p:=⟨_,aA (of_decide_eq_true h1)⟩;obtain rfl:=hrs (λ z=>by subst z;cases hp);obtain⟨p1,p2⟩:=hok.1 p (aB hp);have hp1:p.1≤32:=by omega
  have hp2:p.2≤32:=by omega
  have hsz:tQ (ps.take (k+1))≤32:=aM (by unfold tQ;rw[fV];exact Mn _ _) hok.2;have hs2:tQ (ps.take (k+1))=tQ (ps.take k)+p.2:=by rw[bR,hp];simp[tQ]
  have hfl:field x p.1 p.2<4294967296:=Nat.lt_of_lt_of_le (Bo _ _ _) (vQ omT);refine rIx (WV p) (.dp 2 0 (WV p)) rfl rfl (iB hp) rfl<|oR 1 rfl<|rAl 10 rfl rfl<|rSt rfl<|rE 12<|cSR<|oR 9 rfl<|rCi rfl (Dn x p.1 p.2 p1 p2 hx)<|rCi rfl (Yg ((ps.take k).foldl (uQ x) (0,0)).1 ((ps.take k).foldl (uQ x) (0,0)).2 p.2 (field x p.1 p.2) p1 omT omT hfl)<|oR 1 rfl<|rE 24<|cRg<|oR 3 rfl ?_;have b1:(((ps.take k).foldl (uQ x) (0,0)).2)+p.2≤64:=aH hv hp2;refine rW (vN ((((ps.take k).foldl (uQ x) (0,0)).2)+p.2)) rfl (okI (bV b1 rfl))<|oR 1 rfl<|rE 29<|cRg ?_;have b2:k+1≤101:=aH hkB (aC 1);refine rW (vN (k+1)) rfl (okI (bV b2 rfl))<|oR 1 rfl<|rE 31 ?_;refine⟨k+1,λ s=>s,Weak.of_lists (λ s=>s) ⟨⟨rfl,rfl⟩,⟨rfl,rfl⟩,⟨rfl,rfl⟩,⟨rfl,rfl⟩,⟨(congrArg (λ z:Nat×Nat=>AV.v (.int .u32 (z.1:Int))) (DJ (uQ x) (0,0) ps k p hp).symm),rfl⟩,⟨(congrArg (λ z:Nat×Nat=>AV.v (.int .i64 (z.2:Int))) (DJ (uQ x) (0,0) ps k p hp).symm),rfl⟩,trivial⟩ trivial rfl,of_decide_eq_true h1,by have:=of_decide_eq_true h1;show ps.length - (k+1)<ps.length - k;omega⟩
 ·refine eE<|cSR<|oR 4 rfl<|rE 12<|cO ?_;have hke:=aD h1;exact fG rfl rcT rfl (by rw[aL (show ps.length≤k by omega)];rfl)
theorem ZG{x c:Nat}(h:c≤32):IntKind.wrap .u32 ((x:Int) * 2 ^ (min (Int.toNat (c:Int)) (IntKind.bits .u32)))=((x * 2 ^ c % 4294967296:Nat):Int):=by
 rw[Int.toNat_natCast,show min c (IntKind.bits .u32)=c from rX h];show ((x:Int) * 2 ^ c) % 4294967296=_;have e:((x * 2 ^ c % 4294967296:Nat):Int)=((x * 2 ^ c:Nat):Int) % ((4294967296:Nat):Int):=Int.natCast_emod _ _;rw[e,Int.natCast_mul,Int.natCast_pow];rfl
theorem Yj(f:Nat):nM f≤12:=by unfold nM;split<;>decide
theorem SZ(f x:Nat)(hf1:1≤f)(hf:f≤8)(h3:(f != 3)=true):bX CIR 197 [vU ((nL x (eB f)).1 * 2 ^ nM f % 4294967296),vN ((nL x (eB f)).2+nM f)] (vU (AF f x)):=by
 have h3:f≠3:=by simpa using h3
 rw[(AG x f).1];unfold AF;rw[if_neg h3];by_cases h:f=1∨f=8
 ·rw[if_pos h];rcases h with rfl|rfl<;>exact SY
 ·rw[if_neg h];have hs:1≤tQ (eB f)+nM f∧tQ (eB f)+nM f≤32:=by
   have:f=2∨f=4∨f=5∨f=6∨f=7:=by omega
   rcases this with rfl|rfl|rfl|rfl|rfl<;>decide
  exact We _ _ hs.1 hs.2 omT
theorem Wf(op:Int)(x f:Nat)(hfo:cN op=f)(hf1:1≤f)(hf:f≤8)(hx:x<4294967296):bX CIR 195 [vI op,vU x] (.agg [vI op,vN (cond (tR f) (field x 7 5) 0),vN (cond (pB f) (field x 15 5) 0),vN (cond (pX f) (field x 20 5) 0),vU (AF f x)]):=by
 refine bX.intro cirOk Tryz.func195 rfl rfl (by kernel_rfl) rfl ?_;have hfrd:field x 7 5≤31:=aR (Bo x 7 5);have hfrs1:field x 15 5≤31:=aR (Bo x 15 5);have hfrs2:field x 20 5≤31:=aR (Bo x 20 5);have hZ:(nL x (eB f)).2≤32:=by rw[(AG x f).1];exact (uF f).2
 have hpl:(eB f).length≤100:=by unfold eB;split<;>decide
 have hne:eB f≠[]→YK f=2:=by unfold eB YK;intro h;split at h<;>first|rfl|exact absurd rfl h
 refine cSR<|rAl 0 rfl rfl<|rE 1<|cSR<|oR 1 rfl<|rCi rfl (hfo ▸ Wd op)<|oR 1 rfl<|rE 4<|cSR<|oR 1 rfl<|rV (.agg [vI op,vI 0,vI 0,vI 0,.v (.int .u32 0)]) rfl<|rAl 6 rfl rfl<|rSt rfl<|rE 8<|cSR<|oR 1 rfl<|rCi rfl (Yf f hf)<|oR 7 rfl<|rE 17<|Es (κ:=Unit) (λ u_=>⟨slotsF [(1,vU x),(4,.ptr 0 0),(5,vN f),(6,.ptr 6 0),(8,vB (pB f)),(9,vB (pX f))],heapF [(0,.box [vI 0,vI 0,vI 0,vI 0,.v (.int .u32 0)]),(6,.box [vI op,vN (cond (tR f) (field x 7 5) 0),vI 0,vI 0,.v (.int .u32 0)])],17⟩) (λ u_=>True) ?_ ?_
 ·refine cSR<|oR 1 rfl<|rE 18<|aW rfl (λ h1=>?_) (λ h1=>?_)
  ·refine cRg<|oR 1 rfl<|rCi rfl (Dn x 7 5 (by decide) (by decide) hx)<|rW (vN (field x 7 5)) rfl (okI (bV hfrd rfl))<|oR 1 rfl<|rSt rfl<|rE 23<|.mk _ (.refl _) ⟨(),λ s=>s,Weak.of_lists (λ s=>s) wT ⟨⟨rfl,rfl,rfl⟩,⟨rfl,(by rw[h1];rfl),rfl⟩,trivial⟩ rfl,rfl,trivial⟩
  ·refine bB<|.mk _ (.refl _) ⟨(),λ s=>s,Weak.of_lists (λ s=>s) wT ⟨⟨rfl,rfl,rfl⟩,⟨rfl,(by rw[h1];rfl),rfl⟩,trivial⟩ rfl,rfl,trivial⟩
 ·intro u_ _;refine Es (κ:=Unit) (λ u_=>⟨slotsF [(1,vU x),(4,.ptr 0 0),(5,vN f),(6,.ptr 6 0),(9,vB (pX f))],heapF [(0,.box [vI 0,vI 0,vI 0,vI 0,.v (.int .u32 0)]),(6,.box [vI op,vN (cond (tR f) (field x 7 5) 0),vN (cond (pB f) (field x 15 5) 0),vI 0,.v (.int .u32 0)])],17⟩) (λ u_=>True) ?_ ?_
  ·refine cSR<|oR 1 rfl<|rE 18<|aW rfl (λ h2=>?_) (λ h2=>?_)
   ·refine cRg<|oR 1 rfl<|rCi rfl (Dn x 15 5 (by decide) (by decide) hx)<|rW (vN (field x 15 5)) rfl (okI (bV hfrs1 rfl))<|oR 1 rfl<|rSt rfl<|rE 23<|.mk _ (.refl _) ⟨(),λ s=>s,Weak.of_lists (λ s=>s) wT ⟨⟨rfl,rfl,rfl⟩,⟨rfl,(by rw[h2];rfl),rfl⟩,trivial⟩ rfl,rfl,trivial⟩
   ·refine bB<|.mk _ (.refl _) ⟨(),λ s=>s,Weak.of_lists (λ s=>s) wT ⟨⟨rfl,rfl,rfl⟩,⟨rfl,(by rw[h2];rfl),rfl⟩,trivial⟩ rfl,rfl,trivial⟩
  ·intro u_ _;refine Es (κ:=Unit) (λ u_=>⟨slotsF [(1,vU x),(4,.ptr 0 0),(5,vN f),(6,.ptr 6 0)],heapF [(0,.box [vI 0,vI 0,vI 0,vI 0,.v (.int .u32 0)]),(6,.box [vI op,vN (cond (tR f) (field x 7 5) 0),vN (cond (pB f) (field x 15 5) 0),vN (cond (pX f) (field x 20 5) 0),.v (.int .u32 0)])],17⟩) (λ u_=>True) ?_ ?_
   ·refine cSR<|oR 1 rfl<|rE 18<|aW rfl (λ h3=>?_) (λ h3=>?_)
    ·refine cRg<|oR 1 rfl<|rCi rfl (Dn x 20 5 (by decide) (by decide) hx)<|rW (vN (field x 20 5)) rfl (okI (bV hfrs2 rfl))<|oR 1 rfl<|rSt rfl<|rE 23<|.mk _ (.refl _) ⟨(),λ s=>s,Weak.of_lists (λ s=>s) wT ⟨⟨rfl,rfl,rfl⟩,⟨rfl,(by rw[h3];rfl),rfl⟩,trivial⟩ rfl,rfl,trivial⟩
    ·refine bB<|.mk _ (.refl _) ⟨(),λ s=>s,Weak.of_lists (λ s=>s) wT ⟨⟨rfl,rfl,rfl⟩,⟨rfl,(by rw[h3];rfl),rfl⟩,trivial⟩ rfl,rfl,trivial⟩
   ·intro u_ _;refine cSR<|oR 1 rfl<|rCi rfl (Yh f hf)<|oR 5 rfl<|rE 24<|cSR<|oR 2 rfl<|rCi rfl (Yi x (YK f) (eB f) true hx hne (uF f) hpl)<|oR 5 rfl<|rE 32<|cSR<|oR 2 rfl<|nW (vU ((nL x (eB f)).1 * 2 ^ nM f % 4294967296)) rfl (Gr (ZG (aM (Yj f) (by decide)))) (aG _)<|oR 1 rfl<|rSt rfl<|rE 37<|Es (κ:=Unit) (λ u_=>⟨slotsF [(4,.ptr 0 0),(6,.ptr 6 0)],heapF [(0,.box [vI 0,vI 0,vI 0,vI 0,.v (.int .u32 0)]),(6,.box [vI op,vN (cond (tR f) (field x 7 5) 0),vN (cond (pB f) (field x 15 5) 0),vN (cond (pX f) (field x 20 5) 0),vU (AF f x)])],37⟩) (λ u_=>True) ?_ ?_
    ·refine cSR<|oR 1 rfl<|rW (vB (f != 3)) rfl (okB (neN _ _))<|rE 39<|aW rfl (λ h4=>?_) (λ h4=>?_)
     ·refine cRg<|oR 4 rfl ?_;have b1:((nL x (eB f)).2)+(nM f)≤44:=aH hZ (Yj f);refine rW (vN (((nL x (eB f)).2)+(nM f))) rfl (okI (bV b1 rfl))<|rCi rfl (SZ f x hf1 hf h4)<|oR 1 rfl<|rSt rfl<|rE 47<|.mk _ (.refl _) ⟨(),λ s=>s,Weak.of_lists (λ s=>s) wT wH rfl,rfl,trivial⟩
     ·refine bB<|.mk _ (.refl _) ⟨(),λ s=>s,Weak.of_lists (λ s=>s) wT ⟨⟨rfl,rfl,rfl⟩,⟨rfl,(by rw[show f=3 by simpa using h4];rfl),rfl⟩,trivial⟩ rfl,rfl,trivial⟩
    ·intro u_ _;refine cSR<|oR 1 rfl<|rSt rfl<|rE 39<|cO ?_;exact fG rfl rcT rfl rfl
theorem Cl:Ow:=λ op x w hop hx=>by
 have h2:cN op≠0:=by unfold cN;repeat' (split<;>try omega)
 have h:=bX.flat (Wf op x (cN op) rfl (eS h2) (uR op) hx) (λ _ _ _ _ h=>by cases h) rfl rfl w;refine h.mono λ e w' ⟨he,hB⟩=>⟨he.trans ?_,hB⟩;show Ending.returned (.agg #[.int .i64 op,.int .i64 _,.int .i64 _,.int .i64 _,.int .u32 _])=_;unfold SI.val lZ;cases tR (cN op)<;>cases pB (cN op)<;>cases pX (cN op)<;>rfl
theorem KU(x:Nat)(hx:x<4294967296):bX C0 169 [.v (.int .u32 (x:Int))] (.tup [siA (lN x),.v (.int .i64 ((decE x:Nat):Int))]):=
 .of_tupG Tryz.func169 rfl rfl rfl rfl λ S w hG=>MS Cl x w (Ci hG) hx
def isK(e:Ent)(k:Nat):Bool:=decide (kindOf e.i.op=k)
def tJ(e:Ent)(a b:Nat):Nat:=if wr e.i=0 then 0 else PQ e.i.op e.i.imm e.pc a b
def oU(e:Ent)(a b:Nat):Ent:=
 if e.is≠0∨kindOf e.i.op=3∨kindOf e.i.op=4 then e
 else if kindOf e.i.op=1 then {e with is:=1,value:=tJ e a b,next:=up4 e.pc,left:=3}
 else if kindOf e.i.op=2 then {e with is:=1,value:=tJ e a b,next:=up4 e.pc,took:=yO e.i.op a b,left:=yO e.i.op a b}
 else if kindOf e.i.op=5 then
  if wF e.i.op e.i.imm e.pc a b % 4=0 then {e with is:=1,value:=tJ e a b,next:=wF e.i.op e.i.imm e.pc a b,left:=1}
  else {e with is:=1,value:=0,next:=up4 e.pc,left:=1,halt:=3}
 else {e with is:=1,value:=tJ e a b,next:=up4 e.pc,left:=1}
def goE(e:Ent):Ent:=
 if e.is≠1 then e
 else if wrap64 (e.left - 1)≤0 then {e with left:=0,is:=3,known:=if kindOf e.i.op=5∧e.halt=0 then true else e.known}
 else {e with left:=wrap64 (e.left - 1)}
def qL(e:Ent)(size:Int)(a:Nat):Ent:=
 if (kindOf e.i.op≠3∧kindOf e.i.op≠4)∨e.is≠0∨e.known=true then e
 else if nK size ((a+e.i.imm) % 4294967296) (dC e.i.op)=true then {e with addr:=(a+e.i.imm) % 4294967296,known:=true}
 else {e with addr:=(a+e.i.imm) % 4294967296,halt:=if kindOf e.i.op=4 then 5 else 4,is:=3}
def rL(e:Ent)(s:ByteArray):Ent:=
 if kindOf e.i.op≠3∨e.known=false∨(e.is≠0∧e.is≠2)then e
 else {e with is:=1,left:=1,value:=if wr e.i=0 then 0 else loadP e.i.op s}
def qH(e:Ent)(b:Nat):Ent:=
 if kindOf e.i.op≠4∨e.known=false∨e.is≠0 then e else {e with is:=3,value:=valB b (dC e.i.op)}
def bZ(e:Ent):Sp:=
 if e.halt≠0 then ⟨e.pc,e.pc,0,0,if e.halt=4∨e.halt=5 then e.addr else 0,0,false,e.halt,0⟩
 else if kindOf e.i.op=4 then ⟨e.pc,up4 e.pc,wr e.i,e.value,e.addr,(dC e.i.op:Nat),true,0,0⟩
 else if kindOf e.i.op=3 then ⟨e.pc,up4 e.pc,wr e.i,if wr e.i≠0 then e.value else 0,e.addr,(dC e.i.op:Nat),false,0,0⟩
 else if kindOf e.i.op=2 then ⟨e.pc,up4 e.pc,wr e.i,if wr e.i≠0 then e.value else 0,0,0,false,0,e.took⟩
 else if kindOf e.i.op=5 then ⟨e.pc,e.next,wr e.i,if wr e.i≠0 then e.value else 0,0,0,false,0,0⟩
 else ⟨e.pc,up4 e.pc,wr e.i,if wr e.i≠0 then e.value else 0,0,0,false,0,0⟩
def CS(o:Option Nat):Int:=match o with|some k=>k|none=> -1
def LW(e:Ent):Bool:=decide (kindOf e.i.op=5)&&e.known&&decide (e.next≠e.guess)
def wV(rob:List Ent):Option Nat:=rob.findIdx? LW
def BB(rob:List Ent)(i:Nat):List Ent:=match rob[i]? with|some e=>rob.take i++[{e with guess:=e.next}]|none=>rob
def Rh(i:SI):Bool:=decide (1≤i.op)&&decide (i.op≤48)&&decide ((lZ i.op (vZ i)).op=i.op)&&decide ((lZ i.op (vZ i)).rd=i.rd)&&decide ((lZ i.op (vZ i)).rs1=i.rs1)&&decide ((lZ i.op (vZ i)).rs2=i.rs2)&&decide ((lZ i.op (vZ i)).imm=i.imm)
def sR(e:Ent):Bool:=
 if e.is<0∨e.is>3 then false
 else if (e.is=1∧e.left≤0)∨(e.is≠1∧e.left≠0)then false
 else if e.is=2∧(kindOf e.i.op≠3∨e.known=false)then false
 else if e.halt≠0∧e.is≠3∧ ¬ (e.is=1∧kindOf e.i.op=5∧e.halt=3)then false
 else if Rh e.i=true then true else decide (e.halt=1)||decide (e.halt=2)
def VI(rob:List Ent)(i:Nat):Int:=match rob[i]? with|some e=>e.no|none=>0
def Eg(rob:List Ent)(i:Nat):Bool:=match rob[i]? with|some e=>(i==0||decide (VI rob (i - 1)<e.no))&&sR e|none=>true
def BC(rob:List Ent):Bool:=decide (rob.length≤8)&&(List.range rob.length).all (Eg rob)
def qI(no:Int)(f:Ft)(prog:List Nat):Ent:=
 if (fetchP prog f.pc).isSome=false then {BI with no:=no,pc:=f.pc,guess:=f.guess,halt:=1,is:=3}
 else if EU (fetchW prog f.pc)=0 then {BI with no:=no,pc:=f.pc,guess:=f.guess,halt:=2,is:=3}
 else if (lN (fetchW prog f.pc)).op=47 then {BI with no:=no,pc:=f.pc,guess:=f.guess,i:=lN (fetchW prog f.pc),halt:=6,is:=3}
 else if (lN (fetchW prog f.pc)).op=48 then {BI with no:=no,pc:=f.pc,guess:=f.guess,i:=lN (fetchW prog f.pc),halt:=7,is:=3}
 else {BI with no:=no,pc:=f.pc,guess:=f.guess,i:=lN (fetchW prog f.pc)}
def KI(rob:List Ent)(reg:Int)(k:Nat):Bool:=match rob[k]? with|some e=>decide (wr e.i=reg)|none=>false
def zM(rob:List Ent)(reg:Int):Nat→Option Nat
 |0=>none
 |n+1=>if KI rob reg n=true then some n else zM rob reg n
def gV(rob:List Ent)(i:Nat)(reg:Int):Option Nat:=if reg<1∨reg>31 then none else zM rob reg (min i rob.length)
def kY(rob:List Ent)(r:Nat→Nat)(i:Nat)(reg:Int):Option Nat:=
 if reg=0 then some 0
 else if reg<0∨reg>31 then none
 else match gV rob i reg with
  |none=>some (r reg.toNat)
  |some k=>match rob[k]? with
   |some e=>if e.is=3∧e.halt=0 then some e.value else none
   |none=>none
def lL(rob:List Ent)(r:Nat→Nat)(i:Nat):Nat×Nat×Bool:=
 match rob[i]? with
 |some e=>((kY rob r i e.i.rs1).getD 0,(kY rob r i e.i.rs2).getD 0,(kY rob r i e.i.rs1).isSome&&(kY rob r i e.i.rs2).isSome)
 |none=>(0,0,false)
def KJ(e:Ent):Bool:=if e.halt≠0 then false else if kindOf e.i.op=6 then false else if kindOf e.i.op=3∨kindOf e.i.op=4∨kindOf e.i.op=5 then e.known else true
def BD(rob:List Ent):Nat:=rob.findIdx λ e=> !KJ e
def uC(rob:List Ent)(i:Nat):Bool:=decide (i≤rob.length)&&decide (i≤BD rob)
def sE(roots:List Int)(k:Option Nat):Int:=match k with|some k=>roots.getD k (-1)|none=> -1
def CH(rob:List Ent)(roots:List Int)(k:Nat):Int:=
 match rob[k]? with
 |some e=>if kindOf e.i.op≠3 then max (sE roots (gV rob k e.i.rs1)) (sE roots (gV rob k e.i.rs2))else if k>BD rob then k else -1
 |none=> -1
def eN(rob:List Ent):Nat→List Int
 |0=>[]
 |k+1=>eN rob k++[CH rob (eN rob k) k]
def yJ(rob:List Ent):List Int:=eN rob rob.length
def Hv(rob:List Ent)(i:Nat)(reg:Int):Bool:=match gV rob i reg with|some k=>decide (0≤(yJ rob).getD k (-1))|none=>false
def CI(e:Ent):Bool:=decide (kindOf e.i.op=3∨kindOf e.i.op=4∨kindOf e.i.op=2∨kindOf e.i.op=5)
def pZ(e:Ent):List Int:=if kindOf e.i.op=3∨kindOf e.i.op=4 then [e.i.rs1]else [e.i.rs1,e.i.rs2]
def NN(mode:Int)(rob:List Ent)(i:Nat):Bool:=
 match rob[i]? with
 |none=>false
 |some e=>if CI e=false then true
  else if mode=0 then true
  else if mode=1 then (pZ e).all λ reg=> !Hv rob i reg
  else if mode=2 then uC rob i
  else false
structure Std where
 addr:Nat
 size:Nat
 data:ByteArray
 there:Bool
def Eh(e:Ent):Std:=⟨e.addr,dC e.i.op,rN e.value (dC e.i.op),decide (e.is=3)⟩
def Ch(p:Pt):Std:=⟨p.addr,p.data.size,p.data,true⟩
def EY(rob:List Ent)(stores:List Pt):List Std:=((rob.filter λ e=>isK e 4).map Eh).reverse++(stores.map Ch).reverse
def EZ(a n b m:Nat):Bool:=decide (0<n)&&decide (0<m)&&decide (a<b+m)&&decide (b<a+n)
def Ei(a n b m:Nat):Bool:=decide (0<m)&&decide (a≤b)&&decide (b+m≤a+n)
def wE(at_ n:Nat):List Std→Int×ByteArray
 |[]=>(2,oC)
 |s::l=>if EZ s.addr s.size at_ n=false then wE at_ n l
  else if Ei s.addr s.size at_ n=false∨s.there=false then (0,oC)
  else (1,s.data.extract (at_ - s.addr) (at_ - s.addr+n))
def zN(e:Ent):Bool:=isK e 4&&(!e.known||decide (e.halt≠0))
def kZ(rob:List Ent)(stores:List Pt)(i:Nat):Int×ByteArray:=
 match rob[i]? with
 |none=>(0,oC)
 |some e=>if kindOf e.i.op≠3 then (0,oC)
  else if (rob.take i).any zN=true then (0,oC)
  else wE e.addr (dC e.i.op) (EY (rob.take i) stores)
def sF(r:Nat→Nat)(s:Sp):Nat→Nat:=if 1≤s.rd∧s.rd≤31∧s.halt=0 then VR r s.rd.toNat s.value else r
def gA(s:Sp):Option Pt:=if s.store=false∨s.halt≠0∨(s.size≠1∧s.size≠2∧s.size≠4)then none else some ⟨s.addr,rN s.value s.size.toNat⟩
def gC(c:Ca)(q:List Req)(m:ByteArray)(line:Nat)(left:Int):Ca×List Req×Bool:=
 if fR c=false then (c,q,false)
 else if (bE c (lineOf line)).2.isSome=true then (mG c (lineOf line),q,false)
 else match nP c (lineOf line) (El (jI q m) (lineOf line)) false with
  |(d,gone,went)=>if went=true∧gone.dirty=true∧gone.data.size≠0 then (d,xZ q 4 gone.line left gone.data,true)else (d,q,false)
def mK(stores:List Pt)(c:Ca):List Pt×Ca×Bool:=
 match stores with
 |[]=>(stores,c,false)
 |p::l=>if (qM c p.addr p.data).2=true then (l,(qM c p.addr p.data).1,true)else (stores,c,false)
def iO(c:Co)(kind:Int)(line:Nat)(data:ByteArray):Co:={c with bus:=xZ c.bus kind line (kQ c.conf c.asked) data,asked:=wrap64 (c.asked+1)}
def qJ(c:Co)(first:Bool):Bool:=if first=true then decide ((jP c.bus:Int)<c.conf.slots)else decide ((jP c.bus:Int)<c.conf.slots - 1)
def eO(c:Co)(line:Nat):Co:=
 match gC c.data c.bus c.mem line (kQ c.conf c.asked)with
 |(d,q,asked)=>{c with data:=d,bus:=q,asked:=if asked=true then wrap64 (c.asked+1)else c.asked}
def VJ(c:Co):ByteArray:=XW c.stores c.data c.bus c.mem
def oF(c:Co)(e:Ent):ByteArray:=if nK ((VJ c).size:Int) e.addr (dC e.i.op:Nat)=true then VS (VJ c) e.addr (dC e.i.op)else oC
def tK(c:Co)(line:Nat)(e:Ent):Ent:=if e.is=2∧lineOf e.addr=line then rL {e with filled:=true} (oF c e)else e
def zO(c:Co)(x:Req):Co:=
 if x.kind=1 then {c with rob:=c.rob.map (tK c x.line)}
 else if x.kind=2 then {c with words:=(nP c.words x.line oC false).1}
 else if x.kind=3 then eO c x.line
 else if x.kind=4 then {c with mem:=qC c.mem [⟨x.line,x.data⟩]}
 else c
def iS(c:Co):Co:=
 match dX c.bus with
 |(q,x,ok)=>if ok=true then zO {c with bus:=q} x else {c with bus:=q}
def storeAt(r:Nat→Nat)(rob:List Ent)(i:Nat):List Ent:=
 match rob[i]? with
 |some e=>if kindOf e.i.op=4 then (match kY rob r i e.i.rs2 with|some b=>rob.set i (qH e b)|none=>rob)else rob
 |none=>rob
def cG(r:Nat→Nat)(rob:List Ent):Nat→List Ent
 |0=>rob
 |k+1=>storeAt r (cG r rob k) k
def dA(c:Co):List Ent:=cG c.r (c.rob.map goE) c.rob.length
def gD(c:Co):Co:=
 if c.halt≠0 then c
 else match wV (dA c)with
  |some i=>{c with rob:=BB (dA c) i,fetch:=(match (dA c)[i]? with|some e=>e.next|none=>0),fetched:=[],stop:=false}
  |none=>{c with rob:=dA c}
def sS(c:Co)(s:Sp):Co:={c with retired:=c.retired++[s],halt:=s.halt,rob:=[],fetched:=[],stop:=true}
def sT(c:Co)(e:Ent)(s:Sp):Co:=if kindOf e.i.op=3 then eO c s.addr else c
def fD(c:Co)(s:Sp):Co:={c with retired:=c.retired++[s],stores:=(match gA s with|some p=>c.stores++[p]|none=>c.stores)}
def tL(c:Co)(e:Ent)(s:Sp)(l:List Ent):Co:=
 {sT (fD c s) e s with r:=sF c.r s,guess:=gQ c.guess s.pc s.next e.i,rob:=l}
def dM:Nat→Co→Co
 |0,c=>c
 | n+1,c=>
  if c.halt≠0 then c
  else match c.rob with
   |[]=>c
   |e::l=>
    if e.is≠3 then c
    else if (bZ e).halt≠0 then sS c (bZ e)
    else if (bZ e).store=true∧(c.stores.length:Int)≥c.conf.stores then c
    else dM n (tL c e (bZ e) l)
def dI(c:Co):Co:=dM c.conf.width.toNat c
def BE(c:Co)(i:Nat):Bool:=
 match c.rob[i]? with
 |none=>false
 |some e=>
  if e.is≠0 then false
  else if kindOf e.i.op=3 then e.known||((kY c.rob c.r i e.i.rs1).isSome&&NN c.conf.mode c.rob i)
  else if kindOf e.i.op=4 then !e.known&&(kY c.rob c.r i e.i.rs1).isSome&&NN c.conf.mode c.rob i
  else (lL c.rob c.r i).2.2&&NN c.conf.mode c.rob i
def Jm(c:Co)(line:Nat):Bool:=(bE c.data line).2.isSome||c.rob.any λ e=>e.filled&&decide (lineOf e.addr=line)
def setE(c:Co)(i:Nat)(e:Ent):Co:={c with rob:=c.rob.set i e}
def jT(c:Co)(i:Nat):Co:=
 match c.rob[i]? with
 |none=>c
 |some e=>
  if e.known=false then c
  else if (kZ c.rob c.stores i).1=1 then setE c i (rL e (kZ c.rob c.stores i).2)
  else if (kZ c.rob c.stores i).1≠2 then c
  else if Jm c (lineOf e.addr)=true then setE c i (rL e (oF c e))
  else if Dl c.bus (lineOf e.addr) 1=true then setE c i {e with is:=2}
  else if qJ c (uC c.rob i)=true∧Dl c.bus (lineOf e.addr) 3=false then setE (iO c 1 (lineOf e.addr) oC) i {e with is:=2}
  else c
def eP(c:Co)(i:Nat):Co:=
 match c.rob[i]? with
 |none=>c
 |some e=>
  if kindOf e.i.op=4 then setE c i (qL e c.mem.size (lL c.rob c.r i).1)
  else if kindOf e.i.op=3 then jT (setE c i (qL e c.mem.size (lL c.rob c.r i).1)) i
  else setE c i (oU e (lL c.rob c.r i).1 (lL c.rob c.r i).2.1)
def CT(e:Ent):Bool:=decide (kindOf e.i.op=2)&&decide (e.is=1)
def zP(c:Co):List Int:=c.rob.map λ e=>(kindOf e.i.op:Int)
def yK(c:Co):List Bool:=(List.range c.rob.length).map (BE c)
def eQ(c:Co):Co:=if c.halt≠0 then c else (pickOf c.conf.width (c.rob.any CT) (zP c) (yK c)).foldl eP c
def iT:Nat→Co→Co
 |0,c=>c
 | n+1,c=>
  if (c.rob.length:Int)≥c.conf.rob then c
  else match c.fetched with
   |[]=>c
   |f::l=>iT n {c with rob:=c.rob++[qI c.next f c.prog],next:=wrap64 (c.next+1),fetched:=l}
def gW(c:Co):Co:=if c.halt≠0 then c else iT c.conf.width.toNat c
def cH(c:Co)(w:Nat):Co×Nat:=
 if EU w=0∨kindOf (lN w).op≠5 then (c,up4 c.fetch)
 else if c.conf.tables=true then (c,vX c.guess c.fetch (lN w))
 else ({c with guessed:=wrap64 (c.guessed+1)},wY c.conf c.guessed c.fetch)
def KL(c:Co)(n:Nat):Co:={c with fetched:=c.fetched++[⟨c.fetch,n⟩],fetch:=n}
def dW:Nat→Co→Co
 |0,c=>c
 | n+1,c=>
  if c.stop=true∨(c.fetched.length:Int)≥c.conf.queue then c
  else if (fetchP c.prog c.fetch).isSome=false then {c with fetched:=c.fetched++[⟨c.fetch,up4 c.fetch⟩],stop:=true}
  else if (bE c.words (lineOf c.fetch)).2.isSome=false then
   (if Dl c.bus (lineOf c.fetch) 2=false∧qJ c false=true then iO c 2 (lineOf c.fetch) oC else c)
  else
   dW n (KL (cH {c with words:=mG c.words (lineOf c.fetch)} (fetchW c.prog c.fetch)).1 (cH {c with words:=mG c.words (lineOf c.fetch)} (fetchW c.prog c.fetch)).2)
def dJ(c:Co):Co:=if c.halt≠0 then c else dW c.conf.width.toNat c
def aT(c:Co):Co:={c with stores:=(mK c.stores c.data).1,data:=(mK c.stores c.data).2.1}
def lJ(c:Co):Co:=
 match c.stores with
 |[]=>c
 |p::_=>if Dl c.bus (lineOf p.addr) 3=false∧qJ c true=true then iO c 3 (lineOf p.addr) oC else c
def lD(c:Co):Co:=
 match cM c.data with
 |some w=>if w.data.size≠0 then {iO c 4 w.line w.data with data:=oH c.data w.line}else c
 |none=>c
def jM(c:Co):Co:=if c.stores≠[]∨c.halt=0 then c else lD c
def oV(c:Co):Co:=
 match c.stores with
 |[]=>jM (aT c)
 |_::_=>if (mK c.stores c.data).2.2=true then jM (aT c)else jM (lJ (aT c))
def tM(c:Ca)(f:Cf):Bool:=fR c&&decide ((c.sets.length:Int)=f.sets)&&decide (c.ways=f.ways)
def fS(c:Co):Bool:=
 sW c.conf&&decide (c.prog.length≤64)&&(c.mem.toList==(qK c.mem).toList)&&BC c.rob&&decide ((c.rob.length:Int)≤c.conf.rob)&&(c.rob.all λ e=>decide (e.no<c.next))&&tM c.data c.conf&&tM c.words c.conf&&rM c.guess&&decide ((c.fetched.length:Int)≤c.conf.queue)&&decide ((c.stores.length:Int)≤c.conf.stores)&&c.stores.all λ p=>nK c.mem.size p.addr p.data.size
def PG(c:Co):Co:=oV (dJ (gW (eQ (dI (gD (iS {c with cycle:=wrap64 (c.cycle+1)}))))))
def kN(c:Co):Co:=if fS c=true then PG c else c
def jG(c:Co):Nat→Co
 |0=>c
 |n+1=>kN (jG c n)
noncomputable def C1:Ctx:={C0 with lt:=true}
theorem c1Ok:CtxOk C1:=⟨c0Ok.1,c0Ok.2,c0Ok.3⟩
theorem dc1{f:FuncId}{args:List AV}{r:AV}(h:bX C1 f args r):bX C0 f args r:=h
theorem w64(x:Int):IntKind.wrap .i64 x=wrap64 x:=by rw[IntKind.wrap_i64];simp only[wrap64]
theorem cOr(c y:Bool):cZ c true y=(c||y):=by cases c<;>rfl
theorem pY(c x:Bool):cZ c x false=(c&&x):=by cases c<;>rfl
theorem sP{p q:Prop}(h:p)(t:p→q:=by intro h;(try simp only[w64,cOr,pY,dF,aI,dV,kD,pQ,pT,ne_eq,aU,iA,aP,lO,eJ,Bool.not_eq_false,Bool.not_eq_eq_eq_not,lV,Bool.not_false,Decidable.not_not]at h);exact h):q:=t h
abbrev zCo:List AV:=[vI 0,vI 0,vI 0,vI 0,vI 0,vI 0,vI 0,vI 0,.sl 0 ([]) true,vB false,.sl 0 ([]) true,.sl 0 ([]) true,vI 0,zU,zU,zU,zU,zU,zU,zU,zU,zU,zU,zU,zU,zU,zU,zU,zU,zU,zU,zU,zU,zU,zU,zU,zU,zU,zU,zU,zU,zU,zU,zU,zU,zU,vB false,.sl 0 ([]) true,.sl 0 ([]) true,vI 0,.sl 0 ([]) true,vI 0,.sl 0 ([]) true,vI 0,.sl 0 ([]) true,.sl 0 ([]) true,vI 0,vI 0,.v (.string (⟨#[]⟩:ByteArray)),.sl 0 ([]) true,zU,.sl 0 ([]) true,vI 0,.sl 0 ([]) true]
theorem mU{α:Type}[BEq α][LawfulBEq α]{a b:α}(h:(a==b)=true):a=b:=eq_of_beq h
theorem mV{α:Type}[BEq α][LawfulBEq α]{a b:α}(h:(a==b)=false): ¬ a=b:=λ e=>by rw[e,beq_self_eq_true]at h;cases h
theorem vH{α:Type}[BEq α][LawfulBEq α]{a b:α}(h:(a != b)=true): ¬ a=b:=λ e=>by rw[e]at h;simp at h
theorem vJ{α:Type}[BEq α][LawfulBEq α]{a b:α}(h:(a != b)=false):a=b:=by simpa using h
theorem uV{α:Type}(f:α→List AV)(l:List α){n:Nat}(h:l.length=n):Res.ok (.v (.int .i64 ((l.map f).length:Int)))=.ok (.v (.int .i64 (n:Int))):=by rw[aF,h]
theorem Ii{α:Type}{l:List α}{k:Nat}{x:α}(h:l[k]?=some x):l[0+k]?=some x:=by rwa [bL]
theorem PF{p:Prop}{x:AV}{h:AH}{b rs:Nat}{r r':List (List AV)}(e:r=r'):Res.fx p x (upd h b (some (.arr r rs)))=.fx p x (upd h b (some (.arr r' rs))):=by rw[e]
theorem uW{α:Type}{f:α→List AV}{l:List α}{k:Nat}{x:α}{h:AH}{b rs:Nat}:some (upd h b (some (.arr ((l.map f).set (0+k) (f x)) rs)))=some (upd h b (some (.arr ((l.set k x).map f) rs))):=by rw[bL,List.map_set]
theorem wU{p:Prop}{rs:Nat}{r r':List (List AV)}{c:Bool}(e:r=r'):Res.need p (.sl rs r c)=.need p (.sl rs r' c):=by rw[e]
theorem KH{p:Prop}{s lo lo' n n':Nat}{c:Bool}(e:lo=lo')(e':n=n'):Res.need p (.osl s lo n c)=.need p (.osl s lo' n' c):=by rw[e,e']
section
variable {α:Type}(f:α→List AV)
section
variable (l:List α)
theorem uX(H:Nat):List.drop 0 (List.take H (l.map f))=(l.take H).map f:=by rw[cA,fV]
theorem Jk(L:Nat):List.drop L (List.take (l.map f).length (l.map f))=(l.drop L).map f:=by rw[cS,lX]
theorem Hs{p:Prop}{H:AH}{s rs m:Nat}{c:List (List AV)}(hl:c.length=m):Res.fx p (.osl s 0 c.length false) (upd H s (some (.arr c rs)))=.fx p (.osl s 0 m false) (upd H s (some (.arr c rs))):=by rw[hl]
theorem jL{p:Prop}{H:AH}{s rs n m:Nat}(B:List α)(h1:l.length=n)(h2:l.length+B.length=m):
  Res.fx p (.osl s 0 ((List.take n (List.drop 0 (l.map f))).length+(B.map f).length) false) (upd H s (some (.arr (List.take n (List.drop 0 (l.map f))++B.map f) rs)))=.fx p (.osl s 0 m false) (upd H s (some (.arr ((l++B).map f) rs))):=by
 rw[cA,aL (by rw[aF,h1];exact aC _),aF,aF,h2,eU]
theorem zL{p:Prop}{H:AH}{s rs m:Nat}(B:List α)(h2:l.length+B.length=m):
  Res.fx p (.osl s 0 ((l.map f).length+(B.map f).length) false) (upd H s (some (.arr (l.map f++B.map f) rs)))=.fx p (.osl s 0 m false) (upd H s (some (.arr ((l++B).map f) rs))):=by
 rw[aF,aF,h2,eU]
theorem SB{p:Prop}{H:AH}{s rs lo n m:Nat}(B:List α)(h2:((l.drop lo).take n).length+B.length=m):
  Res.fx p (.osl s 0 ((List.take n (List.drop lo (l.map f))).length+(B.map f).length) false) (upd H s (some (.arr (List.take n (List.drop lo (l.map f))++B.map f) rs)))=.fx p (.osl s 0 m false) (upd H s (some (.arr ((((l.drop lo).take n)++B).map f) rs))):=by
 rw[←h2,eU,fV,lX,aF];simp only[aN,aY,aF]
end
theorem Di{n:Nat}(X:List (List AV))(B:List α)(hB:B.length=n)(hX:X.length=n):X.take 0++(B.map f).take (min (B.map f).length n)++X.drop (0+min (B.map f).length n)=B.map f:=by
 rw[aF,hB,Nat.min_self,pR,iZ,cT (by omega),dQ,aL (by rw[aF];omega)]
section
variable (l:List α)
theorem Bz{lo n:Nat}{M:List α}(h:(l.drop lo).take n=M):List.take n (List.drop lo (l.map f))=M.map f:=by rw[←h,fV,lX]
theorem kG{n:Nat}(h:l.length≤n):List.take n (List.drop 0 (l.map f))=l.map f:=by rw[cA,aL (by rw[aF];exact h)]
end
end
theorem Ht{α:Type}{f:α→List AV}{l:List α}{b rs lo n:Nat}{c:Bool}(h:lo+n≤l.length):LeZ (some (b,rs,l.map f)) (.osl b lo n c) (.sl rs (((l.drop lo).take n).map f) false):=by
 have:=LeZ.frz (fz:=some (b,rs,l.map f)) b rs lo n (l.map f) c false rfl (by rw[aF];exact h) (λ h=>by cases h);rw[fV,lX];exact this
theorem mW{α:Type}{f:α→List AV}{l:List α}{b rs n:Nat}{c:Bool}(h:l.length=n):LeZ (some (b,rs,l.map f)) (.osl b 0 n c) (.sl rs (l.map f) false):=by
 have:=Ht (f:=f) (b:=b) (rs:=rs) (c:=c) (l:=l) (lo:=0) (n:=n) (by omega)
 rwa [cA,aL (by omega)]at this
theorem rfT{p:Prop}(h:p:=by repeat (first|exact trivial|refine⟨.refl _,?_⟩|refine⟨Ht (by exact omT),?_⟩|refine⟨mW (by exact omT),?_⟩)):p:=h
theorem xV{α:Type}{P:α→Prop}{l:List α}{n:Nat}(h:∀ x∈l,P x):∀ x∈l.take n,P x:=λ x hx=>h x (cL hx)
theorem Hu{α:Type}{P:α→Prop}{l:List α}{n:Nat}(h:∀ x∈l,P x):∀ x∈l.drop n,P x:=λ x hx=>h x (eR hx)
theorem rJ{α:Type}{P:α→Prop}{l m:List α}(h:∀ x∈l,P x)(h':∀ x∈m,P x):∀ x∈l++m,P x:=λ x hx=>(al_List_mem_append.1 hx).elim (h x) (h' x)
theorem rK{α:Type}{P:α→Prop}{y:α}(h:P y):∀ x∈[y],P x:=λ x hx=>by rw[tO]at hx;rw[hx];exact h
theorem xW{α:Type}{P:α→Prop}{l:List α}{k:Nat}{y:α}(h:∀ x∈l,P x)(h':P y):∀ x∈l.set k y,P x:=λ x hx=>(List.mem_or_eq_of_mem_set hx).elim (h x) λ e=>e ▸ h'
theorem pV.frame0{P:Program}{G:Nat→Option (List AV)}{f:FuncId}{args:List AV}{rows:List (List AV)}{rs lo n:Nat}{cl:Bool}(H:pV P G f args (heapF []) 0 (λ x h'=>x=.osl 0 lo n cl∧h'=heapF [(0,.arr rows rs)]))(K:AH)(s2:Nat)(ha:eV args=true):
  pV P G f args K s2 (λ x h'=>x=.osl s2 lo n cl∧h'=upd K s2 (some (.arr rows rs))):=by
 have:=H.frame (λ x=>x) K s2 rfl (λ x hx=>absurd rfl hx) (λ x blk hx=>by cases hx) (λ x y hx=>absurd hx (dY _)) (kJ 0 args ha) (λ x h'=>x=.osl s2 lo n cl∧h'=upd K s2 (some (.arr rows rs))) λ r h' hP=>?_
 ·rwa [nO _ args ha]at this
 ·obtain⟨rfl,rfl⟩:=hP;refine⟨_,⟨by simp[tY,uZ],rfl⟩,λ y blk hy=>?_⟩;by_cases he:y=s2
  ·subst he;rw[cY]at hy;injection hy with hy;exact .inl ⟨0,.arr rows rs,rfl,(uZ _ _ _).symm,by subst hy;rfl⟩
  ·rw[cD _ _ he]at hy;exact .inr ⟨hy,λ x hx=>absurd hx (dY _)⟩
theorem pV.frameO{P:Program}{G:Nat→Option (List AV)}{f:FuncId}{args:List AV}{rows rows2:List (List AV)}{rs rs2 n:Nat}(H:pV P G f args (heapF [(0,.arr rows rs)]) 1 (λ x h'=>x=.osl 1 0 n false∧h'=heapF [(0,.arr rows rs),(1,.arr rows2 rs2)]))(b:Nat)(K:AH)(s2:Nat)(hb:Nat.blt b s2=true)(hK:K b=some (.arr rows rs))(ha:mJ 1 args=true):
  pV P G f (Au (λ _=>b) args) K s2 (λ x h'=>x=.osl s2 0 n false∧h'=upd K s2 (some (.arr rows2 rs2))):=by
 have hb:=aO hb;refine H.frame (λ _=>b) K s2 rfl (λ x hx=>?_) (λ x blk0 hx=>?_) (λ x y hx hy _=>by omega) ha _ λ r' h' hP=>?_
 ·cases x with
  |zero=>omega
  |succ x=>exact absurd rfl hx
 ·cases x with
  |zero=>injection hx with hx;subst hx;exact⟨hb,rfl,hK⟩
  |succ x=>cases hx
 ·obtain⟨rfl,rfl⟩:=hP;refine⟨_,⟨by simp[tY,uZ],rfl⟩,λ y blk0 hy=>?_⟩;by_cases he:y=s2
  ·subst he;rw[cY]at hy;injection hy with hy;exact .inl ⟨1,.arr rows2 rs2,rfl,(uZ _ _ _).symm,by subst hy;rfl⟩
  ·rw[cD _ _ he]at hy;by_cases hyb:y=b
   ·subst hyb;rw[hK]at hy;injection hy with hy;exact .inl ⟨0,.arr rows rs,rfl,rfl,by subst hy;rfl⟩
   ·exact .inr ⟨hy,λ x hx e=>hyb e.symm⟩
abbrev yN(b:Bool):List AV:=[.v (.bool b)]
structure Ent.ok(e:Ent):Prop where
 pc:e.pc≤4294967295
 imm:e.i.imm≤4294967295
 guess:e.guess≤4294967295
 value:e.value≤4294967295
 next:e.next≤4294967295
 addr:e.addr≤4294967295
structure Req.ok(x:Req):Prop where
 line:x.line≤4294967295
structure Pt.ok(x:Pt):Prop where
 addr:x.addr≤4294967295
structure Ft.ok(x:Ft):Prop where
 pc:x.pc≤4294967295
 guess:x.guess≤4294967295
structure Gs.ok(x:Gs):Prop where
 pc:x.pc≤4294967295
 next:x.next≤4294967295
structure Sp.ok(x:Sp):Prop where
 pc:x.pc≤4294967295
 next:x.next≤4294967295
 value:x.value≤4294967295
 addr:x.addr≤4294967295
theorem CG{a b B:Nat}(h:b≤a)(h2:a≤B)(hB:Nat.ble B 9223372036854775807=true):IntKind.wrap .i64 ((a:Int) - (b:Int))=((a - b:Nat):Int):=by
 have:=aO hB;rw[wrap_i64 (by omega) (by omega)];omega
theorem VH(a b:Nat):Int.tmod (a:Int) (b:Int)=((a % b:Nat):Int):=pU a b |>.symm
theorem BA{a:Nat}(h:a≤4294967295):a<4294967296:=kH h
theorem oT{e e':Ent}(h:e=e'):AV.agg (enL e)=.agg (enL e'):=by rw[h]
theorem CR{e e':Sp}(h:e=e'):AV.agg (spL e)=.agg (spL e'):=by rw[h]
theorem dL{b b':Bool}(h:b=b'):AV.v (.bool b)=.v (.bool b'):=by rw[h]
theorem LV{b b':Int}(h:b=b'):AV.v (.int .i64 b)=.v (.int .i64 b'):=by rw[h]
theorem FR{b b':Nat}(h:b=b'):AV.v (.int .u32 (b:Int))=.v (.int .u32 (b':Int)):=by rw[h]
abbrev Jl(r:Nat→Nat):List AV:=[.v (.int .u32 (r 0:Int)),.v (.int .u32 (r 1:Int)),.v (.int .u32 (r 2:Int)),.v (.int .u32 (r 3:Int)),.v (.int .u32 (r 4:Int)),.v (.int .u32 (r 5:Int)),.v (.int .u32 (r 6:Int)),.v (.int .u32 (r 7:Int)),.v (.int .u32 (r 8:Int)),.v (.int .u32 (r 9:Int)),.v (.int .u32 (r 10:Int)),.v (.int .u32 (r 11:Int)),.v (.int .u32 (r 12:Int)),.v (.int .u32 (r 13:Int)),.v (.int .u32 (r 14:Int)),.v (.int .u32 (r 15:Int)),.v (.int .u32 (r 16:Int)),.v (.int .u32 (r 17:Int)),.v (.int .u32 (r 18:Int)),.v (.int .u32 (r 19:Int)),.v (.int .u32 (r 20:Int)),.v (.int .u32 (r 21:Int)),.v (.int .u32 (r 22:Int)),.v (.int .u32 (r 23:Int)),.v (.int .u32 (r 24:Int)),.v (.int .u32 (r 25:Int)),.v (.int .u32 (r 26:Int)),.v (.int .u32 (r 27:Int)),.v (.int .u32 (r 28:Int)),.v (.int .u32 (r 29:Int)),.v (.int .u32 (r 30:Int)),.v (.int .u32 (r 31:Int))]
theorem ldL(r:Nat→Nat)(n:Nat)(hn:n<32):okO (Lw (Jl r) (0+n * 1))=.ok (.v (.int .u32 (r n:Int))):=by
 have:∀ (n:_root_.Fin 32),okO (Lw (Jl r) (0+n.1 * 1))=.ok (.v (.int .u32 (r n.1:Int))):=by
  intro n
  match n with
  |⟨0,_⟩=>rfl
  |⟨1,_⟩=>rfl
  |⟨2,_⟩=>rfl
  |⟨3,_⟩=>rfl
  |⟨4,_⟩=>rfl
  |⟨5,_⟩=>rfl
  |⟨6,_⟩=>rfl
  |⟨7,_⟩=>rfl
  |⟨8,_⟩=>rfl
  |⟨9,_⟩=>rfl
  |⟨10,_⟩=>rfl
  |⟨11,_⟩=>rfl
  |⟨12,_⟩=>rfl
  |⟨13,_⟩=>rfl
  |⟨14,_⟩=>rfl
  |⟨15,_⟩=>rfl
  |⟨16,_⟩=>rfl
  |⟨17,_⟩=>rfl
  |⟨18,_⟩=>rfl
  |⟨19,_⟩=>rfl
  |⟨20,_⟩=>rfl
  |⟨21,_⟩=>rfl
  |⟨22,_⟩=>rfl
  |⟨23,_⟩=>rfl
  |⟨24,_⟩=>rfl
  |⟨25,_⟩=>rfl
  |⟨26,_⟩=>rfl
  |⟨27,_⟩=>rfl
  |⟨28,_⟩=>rfl
  |⟨29,_⟩=>rfl
  |⟨30,_⟩=>rfl
  |⟨31,_⟩=>rfl
  |⟨k+32,h⟩=>exact absurd h (by omega)
 exact this ⟨n,hn⟩
theorem Zm(r:Nat→Nat)(n v:Nat)(hn:n<32):yV (0+n * 1) [.v (.int .u32 (v:Int))] (Jl r)=Jl (VR r n v):=by
 have:∀ (n:_root_.Fin 32),yV (0+n.1 * 1) [.v (.int .u32 (v:Int))] (Jl r)=Jl (VR r n.1 v):=by
  intro n
  match n with
  |⟨0,_⟩=>rfl
  |⟨1,_⟩=>rfl
  |⟨2,_⟩=>rfl
  |⟨3,_⟩=>rfl
  |⟨4,_⟩=>rfl
  |⟨5,_⟩=>rfl
  |⟨6,_⟩=>rfl
  |⟨7,_⟩=>rfl
  |⟨8,_⟩=>rfl
  |⟨9,_⟩=>rfl
  |⟨10,_⟩=>rfl
  |⟨11,_⟩=>rfl
  |⟨12,_⟩=>rfl
  |⟨13,_⟩=>rfl
  |⟨14,_⟩=>rfl
  |⟨15,_⟩=>rfl
  |⟨16,_⟩=>rfl
  |⟨17,_⟩=>rfl
  |⟨18,_⟩=>rfl
  |⟨19,_⟩=>rfl
  |⟨20,_⟩=>rfl
  |⟨21,_⟩=>rfl
  |⟨22,_⟩=>rfl
  |⟨23,_⟩=>rfl
  |⟨24,_⟩=>rfl
  |⟨25,_⟩=>rfl
  |⟨26,_⟩=>rfl
  |⟨27,_⟩=>rfl
  |⟨28,_⟩=>rfl
  |⟨29,_⟩=>rfl
  |⟨30,_⟩=>rfl
  |⟨31,_⟩=>rfl
  |⟨k+32,h⟩=>exact absurd h (by omega)
 exact this ⟨n,hn⟩
theorem aaQ{ev:Operand→AV}{h:AH}{s b n v:Nat}{a x:Operand}{r:Nat→Nat}(ha:ev a=.ptr b (0+n * 1))(hb:h b=some (.box (Jl r)))(hx:ev x=.v (.int .u32 (v:Int)))(hn:n<32):
  opA C0 ev h s (.store 26 a x)=.fx True .any (upd h b (some (.box (Jl (VR r n v))))):=by
 have hty:C0.ty 26=some aaB:=rfl;have hc:(0+n * 1+([.v (.int .u32 (v:Int))]:List AV).length).ble (Jl r).length=true:=jY (by simp;omega);simp only[opA,hty,hx,kL,ha,hb];rw[show ([AV.v (Value.int IntKind.u32 (v:Int))].length.beq 1)=true from rfl];simp only;rw[hc];simp only;rw[Zm _ _ _ hn]
theorem pM{α:Type}{l:List α}{k:Nat}(h:k<l.length):(eY l k).length=l.length:=by
 unfold eY;rw[aA h];simp;omega
theorem Bw{α:Type}{l:List α}{k:Nat}{x:α}(h:l[k]?=some x):eY l k=[x]++l.take k++l.drop (k+1):=by unfold eY;rw[h]
theorem lU{α:Type}{P:α→Prop}{l:List α}{k:Nat}(h:∀ x∈l,P x):∀ x∈eY l k,P x:=by
 intro x hx;unfold eY at hx;rcases al_List_mem_append.1 hx with hx|hx
 ·rcases al_List_mem_append.1 hx with hx|hx
  ·split at hx
   ·rename_i y hy;simp at hx;subst hx;exact h _ (aB hy)
   ·simp at hx
  ·exact h _ (cL hx)
 ·exact h _ (eR hx)
theorem kE{c:Ca}(h:fR c=true):0<c.sets.length∧c.sets.length≤4∧c.ways≤2∧1≤c.ways∧∀ s∈c.sets,(s.length:Int)≤c.ways:=by
 obtain⟨⟨h1,h2⟩,h3⟩:=(jN c).1 h;refine⟨by omega,by omega,by omega,by omega,λ s hs=>?_⟩;obtain⟨k,hk,rfl⟩:=eA hs;exact ((jU c k _).1 (h3 k _ (aA hk))).1
theorem Ee:∀ {l:List Wy} {line j:Nat},jV l line=some j→j<l.length
 |[],_,_,h=>by cases h
 | w::l,line,j,h=>by
  simp only[jV]at h;split at h
  ·injection h with h;subst h;simp
  ·obtain⟨i,hi,rfl⟩:=Fg.1 h;have:=Ee hi;simp;omega
theorem uB{c:Ca}{k:Nat}{s:List Wy}(h:c.sets[k]?=some s):oD c k=s:=by unfold oD;rw[h];rfl
theorem Ah{c:Ca}(h:0<c.sets.length)(line:Nat):wZ c line<c.sets.length:=bA _ h
theorem qV{c:Ca}{line:Nat}(h:fR c=true):bE c line=(wZ c (lineOf line),jV (oD c (wZ c (lineOf line))) (lineOf line)):=if_pos h
theorem pN{c:Ca}{line:Nat}(h:(bE c line).2.isSome=true):fR c=true∧(bE c line).1=wZ c (lineOf line)∧(bE c line).1<c.sets.length∧(bE c line).2.getD 0<(oD c (bE c line).1).length:=by
 by_cases hr:fR c=true
 ·rw[qV hr]at h⊢;obtain⟨j,hj⟩:=EK.1 h;have hj':jV (oD c (wZ c (lineOf line))) (lineOf line)=some j:=hj;refine⟨hr,rfl,Ah (kE hr).1 _,?_⟩;show (jV (oD c (wZ c (lineOf line))) (lineOf line)).getD 0<_;rw[hj'];exact Ee hj'
 ·unfold bE at h;rw[if_neg hr]at h;cases h
theorem CB{c:Ca}{line:Nat}(h:(bE c line).2.isSome=true):mG c line=oW c (bE c line).1 (eY (oD c (bE c line).1) ((bE c line).2.getD 0)):=by
 unfold mG;obtain⟨j,hj⟩:=EK.1 h;have e:bE c line=((bE c line).1,some j):=by rw[←hj]
 rw[e];rfl
theorem CD{c:Ca}{line:Nat}(h:(bE c line).2.isSome=false):mG c line=c:=by
 unfold mG;have hj:(bE c line).2=none:=by simpa using h
 have e:bE c line=((bE c line).1,none):=by rw[←hj]
 rw[e]
theorem Zl(a b:Int):max a b=if b>a then b else a:=by omega
theorem LT(q:List Req)(kind:Int)(line:Nat)(left:Int)(data:ByteArray)(ck:Bool)(hq:q.length≤900000)(ho:∀ x∈q,x.ok)(hline:line≤4294967295):bX C0 171 [.sl 4 (q.map rqL) ck,vI kind,vU line,vI left,.v (.string data)] (.sl 4 ((xZ q kind line left data).map rqL) false):=by
 refine bX.intro c0Ok Tryz.func171 rfl rfl (by kernel_rfl) rfl<|cSR<|oR 1 rfl<|rE 1<|cSR<|oR 1 rfl<|rW (vN q.length) rfl (bY rqL q) ?_;have b1:q.length+1≤900001:=aH hq (aC 1);refine rW (vN (q.length+1)) rfl (okI (bV b1 rfl))<|rFx (x:=.osl 4 0 0 false) (h':=upd _ 4 (some (.arr (([]:List Req).map rqL) 4))) rfl rfl (rfl) (⟨by decide,EJ.2 omT,by show (((q.length+1):Nat):Int)≤1000000;omega⟩)<|oR 1 rfl<|rE 6<|cSR<|oR 2 rfl<|rFx (x:=.osl 8 0 q.length false) (h':=upd (upd _ 4 none) 8 (some (.arr (q.map rqL) 4))) rfl rfl (jL rqL ([]:List Req) q omT omT) (⟨by exact omT,by exact omT,trivial⟩)<|oR 1 rfl<|rE 10<|cSR<|oR 4 rfl<|rV (vI (if 1>left then 1 else left)) rfl<|oR 1 rfl<|rV (.agg [vI kind,vU line,vI (if 1>left then 1 else left),.v (.string data)]) rfl<|rV (.sl 4 ([[vI kind,vU line,vI (if 1>left then 1 else left),.v (.string data)]]) true) rfl<|rFx (x:=.osl 18 0 (q.length+1) false) (h':=upd (upd _ 8 none) 18 (some (.arr ((q++([(⟨kind,line,if 1>left then 1 else left,data⟩:Req)])).map rqL) 4))) rfl rfl (jL rqL q ([(⟨kind,line,if 1>left then 1 else left,data⟩:Req)]) omT omT) (⟨by exact omT,by exact omT,trivial⟩)<|oR 1 rfl<|rE 20<|cO<|fG rfl (by show 0+(q.length+1)≤((q++([(⟨kind,line,if 1>left then 1 else left,data⟩:Req)])).map rqL).length;exact omT) rfl ?_;show AV.sl 4 (List.take (q.length+1) (List.drop 0 ((q++([(⟨kind,line,if 1>left then 1 else left,data⟩:Req)])).map rqL))) false=_;rw[kG rqL (q++([(⟨kind,line,if 1>left then 1 else left,data⟩:Req)])) omT];rw[show xZ q kind line left data=q++([(⟨kind,line,if 1>left then 1 else left,data⟩:Req)])from by unfold xZ;congr 3;exact Zl left 1]
abbrev tkA(t:List Req×Req×Bool):AV:=.tup [.sl 4 (t.1.map rqL) false,.agg (rqL t.2.1),vB t.2.2]
theorem Uf(q:List Req)(ck:Bool)(hq:q.length≤900000)(ho:∀ x∈q,x.ok):bX C0 91 [.sl 4 (q.map rqL) ck] (tkA (dX q)):=by
 refine dc1 (bX.intro c1Ok Tryz.func91 rfl rfl (by kernel_rfl) rfl ?_);refine cSR<|oR 1 rfl<|rAl 1 rfl rfl<|oR 1 rfl<|rE 3<|bW<|cSR<|oR 1 rfl<|rW (vN q.length) rfl (bY rqL q)<|rW (vB (q.length==0)) rfl (okB (eqN _ _))<|rE 6<|aW rfl (λ h1=>?_) (λ h1=>?_)
 ·have h1p:=mU h1;refine cSR<|oR 1 rfl<|rV (.agg [vI 0,.v (.int .u32 0),vI 0,.v (.string (⟨#[]⟩:ByteArray))]) rfl<|oR 1 rfl<|rSt rfl<|oR 1 rfl<|rE 11<|cO ?_;have q0:q=[]:=aX h1p;subst q0;exact⟨_,rfl,trivial,rfl,Sub.tup ⟨Sub.clip 4 _ ck,Sub.refl _,Sub.refl _,trivial⟩⟩
 ·have h1p:=mV h1;refine bB<|cSR<|oR 1 rfl<|rW (vN q.length) rfl (bY rqL q)<|rFx (x:=.osl 8 0 q.length false) (h':=upd _ 8 (some (.arr ((List.replicate q.length Nm).map rqL) 4))) rfl rfl (PF (fP (f:=rqL) (a:=Nm)).symm) (⟨aG _,EJ.2 omT,by show ((q.length:Nat):Int)≤1000000;omega⟩)<|oR 1 rfl<|rE 10<|cSR<|oR 2 rfl<|rFx (x:=vI ((min ((q.map rqL).length) (q.length):Nat):Int)) (h':=upd _ 8 (some (.arr (q.map rqL) 4))) rfl rfl (Hy (Di rqL ((List.replicate q.length Nm).map rqL) q omT omT)) (⟨by exact omT,trivial⟩)<|rE 13<|cSR<|oR 1 rfl<|nW (.ptr2 8 (0+0) 0) rfl rfl (⟨by decide,EI.2 (by show 0<q.length;exact omT)⟩)<|oR 1 rfl ?_;obtain⟨x,hx⟩:∃ y_,q[0]?=some y_:=⟨_,aA omT⟩;have hxo:=ho x (aB hx);refine Ih (rqL x) (x:=vI x.left) rfl rfl rfl (⟨by decide,Ii (iB hx)⟩) rfl<|rV (vI (IntKind.wrap .i64 (x.left - 1))) rfl<|nW (.ptr2 8 (0+0) 0) rfl rfl (⟨by decide,EI.2 (by show 0<q.length;exact omT)⟩)<|oR 1 rfl ?_;have hx1:(q.set 0 (⟨x.kind,x.line,IntKind.wrap .i64 (x.left - 1),x.data⟩:Req))[0]?=some (⟨x.kind,x.line,IntKind.wrap .i64 (x.left - 1),x.data⟩:Req):=aQ omT;refine nI (rqL x) (h':=upd _ 8 (some (.arr ((q.set 0 (⟨x.kind,x.line,IntKind.wrap .i64 (x.left - 1),x.data⟩:Req)).map rqL) 4))) rfl rfl rfl (⟨by decide,Ii (iB hx)⟩) (uW (f:=rqL) (l:=q) (k:=0) (x:=(⟨x.kind,x.line,IntKind.wrap .i64 (x.left - 1),x.data⟩:Req)))<|rE 21<|bW<|cSR<|oR 1 rfl<|nW (.ptr2 8 (0+0) 0) rfl rfl (⟨by decide,EI.2 (by show 0<q.length;exact omT)⟩)<|oR 1 rfl<|Ih (rqL (⟨x.kind,x.line,IntKind.wrap .i64 (x.left - 1),x.data⟩:Req)) (x:=vI (IntKind.wrap .i64 (x.left - 1))) rfl rfl rfl (⟨by decide,Ii (iB hx1)⟩) rfl<|rV (vB (decide ((IntKind.wrap .i64 (x.left - 1))>0))) rfl<|rE 26<|aW rfl (λ h2=>?_) (λ h2=>?_)
  ·have h2p:=of_decide_eq_true h2;refine cSR<|oR 1 rfl<|rV (.agg [vI 0,.v (.int .u32 0),vI 0,.v (.string (⟨#[]⟩:ByteArray))]) rfl<|oR 1 rfl<|rSt rfl<|oR 1 rfl<|rE 31<|cO ?_
   try simp only[w64]at h2p
   obtain⟨l,hql⟩:∃ l,q=x::l:=by cases q with|nil=>cases hx|cons y l=>injection hx with hx;subst hx;exact⟨l,rfl⟩
   have hT:dX q=({x with left:=wrap64 (x.left - 1)}::l,Nm,false):=by rw[hql];unfold dX;simp only[if_pos h2p]
   rw[hT];refine fG rfl ⟨(by show 0+q.length≤((q.set 0 (⟨x.kind,x.line,IntKind.wrap .i64 (x.left - 1),x.data⟩:Req)).map rqL).length;exact omT),tvT,trivial,trivial⟩ rfl ?_;show AV.tup [.sl 4 (List.take q.length (List.drop 0 ((q.set 0 (⟨x.kind,x.line,IntKind.wrap .i64 (x.left - 1),x.data⟩:Req)).map rqL))) false,.agg [vI 0,.v (.int .u32 0),vI 0,.v (.string (⟨#[]⟩:ByteArray))],vB false]=_;rw[kG rqL (q.set 0 (⟨x.kind,x.line,IntKind.wrap .i64 (x.left - 1),x.data⟩:Req)) omT];rw[hql];simp only[w64,gI]
   try rfl
  ·have h2p:=aD h2;refine bB<|bW<|ES rfl rfl<|oR 1 rfl<|nW (.osl 8 1 (q.length - 1) false) rfl (KH (by first|rfl|omega) (by simp only[Option.getD];omega)) slT<|oR 1 rfl<|nW (.ptr2 8 (0+0) 0) rfl rfl (⟨by decide,EI.2 (by show 0<q.length;exact omT)⟩)<|Ih (rqL (⟨x.kind,x.line,IntKind.wrap .i64 (x.left - 1),x.data⟩:Req)) (x:=.agg (rqL (⟨x.kind,x.line,IntKind.wrap .i64 (x.left - 1),x.data⟩:Req))) rfl rfl rfl (⟨by decide,Ii (iB hx1)⟩) rfl<|oR 1 rfl<|rSt rfl<|oR 1 rfl<|rE 34<|And.intro (by kernel_rfl)<|cO ?_
   try simp only[w64]at h2p
   obtain⟨l,hql⟩:∃ l,q=x::l:=by cases q with|nil=>cases hx|cons y l=>injection hx with hx;subst hx;exact⟨l,rfl⟩
   have hT:dX q=(l,{x with left:=wrap64 (x.left - 1)},true):=by rw[hql];unfold dX;simp only[if_neg h2p]
   rw[hT];refine fG rfl ⟨(by show 1+(q.length - 1)≤((q.set 0 (⟨x.kind,x.line,IntKind.wrap .i64 (x.left - 1),x.data⟩:Req)).map rqL).length;exact omT),tvT,trivial,trivial⟩ rfl ?_;show AV.tup [.sl 4 (List.take (q.length - 1) (List.drop 1 ((q.set 0 (⟨x.kind,x.line,IntKind.wrap .i64 (x.left - 1),x.data⟩:Req)).map rqL))) false,.agg [vI x.kind,vU x.line,vI (IntKind.wrap .i64 (x.left - 1)),.v (.string x.data)],vB true]=_;rw[Bz (M:=(q.set 0 (⟨x.kind,x.line,IntKind.wrap .i64 (x.left - 1),x.data⟩:Req)).drop 1) rqL (q.set 0 (⟨x.kind,x.line,IntKind.wrap .i64 (x.left - 1),x.data⟩:Req)) (aL omT)];rw[hql];simp only[w64,gI,List.drop_succ_cons,cA]
   try rfl
theorem PA(s:List Wy)(k:Nat)(ck:Bool)(hk:k<s.length)(hs:s.length≤900000)(ho:∀ x∈s,x.ok):bX C0 153 [.sl 3 (s.map wyL) ck,vN k] (.sl 3 ((eY s k).map wyL) false):=by
 refine bX.intro c0Ok Tryz.func153 rfl rfl (by kernel_rfl) rfl<|cSR<|oR 1 rfl<|rE 1<|cSR<|oR 1 rfl<|rW (vN s.length) rfl (bY wyL s)<|rFx (x:=.osl 3 0 0 false) (h':=upd _ 3 (some (.arr (([]:List Wy).map wyL) 3))) rfl rfl (rfl) (⟨by decide,EJ.2 omT,by show ((s.length:Nat):Int)≤1000000;omega⟩)<|oR 1 rfl<|rE 5<|cSR<|oR 3 rfl ?_;obtain⟨x,hx⟩:∃ y_,s[k]?=some y_:=⟨_,aA omT⟩;refine rIx (wyL x) (.dp 3 0 (wyL x)) rfl rfl (iB hx) rfl<|oR 1 rfl<|rV (.sl 3 ([[vU x.line,vB x.dirty,.v (.string x.data)]]) true) rfl<|rFx (x:=.osl 11 0 1 false) (h':=upd (upd _ 3 none) 11 (some (.arr (([x]).map wyL) 3))) rfl rfl (jL wyL ([]:List Wy) ([x]) omT omT) (⟨by exact omT,by exact omT,trivial⟩)<|oR 1 rfl<|rE 13<|cSR<|oR 3 rfl<|nW (.sl 3 ((s.take k).map wyL) (ck&&false)) rfl (wU (uX wyL s k)) slT<|rFx (x:=.osl 17 0 (1+k) false) (h':=upd (upd _ 11 none) 17 (some (.arr ((([x])++(s.take k)).map wyL) 3))) rfl rfl (jL wyL ([x]) (s.take k) omT omT) (⟨by exact omT,by exact omT,trivial⟩)<|oR 1 rfl<|rE 19<|cSR<|oR 3 rfl ?_;have b1:k+1≤900001:=aH omT (aC 1);refine rW (vN (k+1)) rfl (okI (bV b1 rfl))<|nW (.sl 3 ((s.drop (k+1)).map wyL) (ck&&true)) rfl (wU (Jk wyL s (k+1))) slT<|rFx (x:=.osl 24 0 (1+k+s.length - (k+1)) false) (h':=upd (upd _ 17 none) 24 (some (.arr (((([x])++(s.take k))++(s.drop (k+1))).map wyL) 3))) rfl rfl (jL wyL (([x])++(s.take k)) (s.drop (k+1)) omT omT) (⟨by exact omT,by exact omT,trivial⟩)<|oR 1 rfl<|rE 26<|cO<|fG rfl (by show 0+(1+k+s.length - (k+1))≤(((([x])++(s.take k))++(s.drop (k+1))).map wyL).length;exact omT) rfl ?_;show AV.sl 3 (List.take (1+k+s.length - (k+1)) (List.drop 0 (((([x])++(s.take k))++(s.drop (k+1))).map wyL))) false=_;rw[kG wyL ((([x])++(s.take k))++(s.drop (k+1))) omT];rw[Bw hx]
theorem Ug(s:List Wy)(k:Nat)(ck:Bool)(hk:k<s.length)(hs:s.length≤900000)(ho:∀ x∈s,x.ok):pV C0.P C0.G 153 [.sl 3 (s.map wyL) ck,vN k] (heapF []) 0 (λ x h'=>x=.osl 0 0 s.length false∧h'=heapF [(0,.arr ((eY s k).map wyL) 3)]):=by
 refine HCall.intro (C:=C0) (s:=0) c0Ok.at Tryz.func153 rfl rfl (by kernel_rfl) rfl rfl<|cSR<|oR 1 rfl<|rE 1<|cSR<|oR 1 rfl<|rW (vN s.length) rfl (bY wyL s)<|rFx (x:=.osl 3 0 0 false) (h':=upd _ 3 (some (.arr (([]:List Wy).map wyL) 3))) rfl rfl (rfl) (⟨by decide,EJ.2 omT,by show ((s.length:Nat):Int)≤1000000;omega⟩)<|oR 1 rfl<|rE 5<|cSR<|oR 3 rfl ?_;obtain⟨x,hx⟩:∃ y_,s[k]?=some y_:=⟨_,aA omT⟩;refine rIx (wyL x) (.dp 3 0 (wyL x)) rfl rfl (iB hx) rfl<|oR 1 rfl<|rV (.sl 3 ([[vU x.line,vB x.dirty,.v (.string x.data)]]) true) rfl<|rFx (x:=.osl 11 0 1 false) (h':=upd (upd _ 3 none) 11 (some (.arr (([x]).map wyL) 3))) rfl rfl (jL wyL ([]:List Wy) ([x]) omT omT) (⟨by exact omT,by exact omT,trivial⟩)<|oR 1 rfl<|rE 13<|cSR<|oR 3 rfl<|nW (.sl 3 ((s.take k).map wyL) (ck&&false)) rfl (wU (uX wyL s k)) slT<|rFx (x:=.osl 17 0 (1+k) false) (h':=upd (upd _ 11 none) 17 (some (.arr ((([x])++(s.take k)).map wyL) 3))) rfl rfl (jL wyL ([x]) (s.take k) omT omT) (⟨by exact omT,by exact omT,trivial⟩)<|oR 1 rfl<|rE 19<|cSR<|oR 3 rfl ?_;have b1:k+1≤900001:=aH omT (aC 1);refine rW (vN (k+1)) rfl (okI (bV b1 rfl))<|nW (.sl 3 ((s.drop (k+1)).map wyL) (ck&&true)) rfl (wU (Jk wyL s (k+1))) slT<|rFx (x:=.osl 24 0 (1+k+s.length - (k+1)) false) (h':=upd (upd _ 17 none) 24 (some (.arr (((([x])++(s.take k))++(s.drop (k+1))).map wyL) 3))) rfl rfl (jL wyL (([x])++(s.take k)) (s.drop (k+1)) omT omT) (⟨by exact omT,by exact omT,trivial⟩)<|oR 1 rfl<|rE 26<|cO ?_;have e:(([x])++(s.take k))++(s.drop (k+1))=eY s k:=(Bw hx).symm;have e2:1+k+s.length - (k+1)=s.length:=by omega
 refine pG (rs:=[.osl 24 0 (1+k+s.length - (k+1)) false]) rfl (r:=.osl 0 0 s.length false) (h':=heapF [(0,.arr ((eY s k).map wyL) 3)]) (σ:=λ _=>24) ⟨rfl,rfl⟩ rfl (cE (λ _=>24) ?_ rfl ⟨⟨rfl,?_,rfl⟩,trivial⟩ rfl)
 ·show AV.osl 24 0 (1+k+s.length - (k+1)) false=.osl 24 0 s.length false;rw[e2]
 ·show some (Blk.arr (((([x])++(s.take k))++(s.drop (k+1))).map wyL) 3)=some (Blk.arr ((eY s k).map wyL) 3);rw[e]
theorem KF(c:Ca)(k:Nat)(s:List Wy)(hok:c.ok)(hk:k<c.sets.length)(hl:c.sets.length≤900000)(hs:s.length≤900000)(ho:∀ x∈s,x.ok):bX C0 154 [.agg (caL c false),vN k,.sl 3 (s.map wyL) false] (.agg (caL (oW c k s) false)):=by
 refine bX.intro c0Ok Tryz.func154 rfl rfl (by kernel_rfl) rfl<|cSR<|rAl 0 rfl rfl<|rAl 1 rfl rfl<|rE 2<|cSR<|oR 2 rfl<|rW (vN c.sets.length) rfl (bY bC c.sets)<|rFx (x:=.osl 5 0 c.sets.length false) (h':=upd _ 5 (some (.arr (List.replicate c.sets.length [.sl 0 ([]) true]) 1))) rfl rfl (rfl) (⟨aG _,jR _,by show ((c.sets.length:Nat):Int)≤1000000;have:=hl;omega⟩)<|oR 1 rfl<|rE 7<|cSR<|oR 3 rfl<|rFx (x:=vI ((min ((c.sets.map bC).length) (c.sets.length):Nat):Int)) (h':=upd _ 5 (some (.arr (c.sets.map bC) 1))) rfl rfl (Hy (Di bC (List.replicate c.sets.length [.sl 0 ([]) true]) c.sets omT omT)) (⟨by exact omT,trivial⟩)<|rE 11<|cSR<|oR 3 rfl<|nW (.ptr2 5 (0+k) 0) rfl rfl ixT ?_;obtain⟨x1,hx1⟩:∃ y_,c.sets[k]?=some y_:=⟨_,aA omT⟩;refine nI (bC x1) (h':=upd _ 5 (some (.arr ((c.sets.set k s).map bC) 1))) rfl rfl rfl (⟨aG _,Ii (iB hx1)⟩) (uW (f:=bC) (l:=c.sets) (k:=k) (x:=s))<|rE 16<|cSR<|oR 3 rfl<|rV (.agg [vI c.ways,.osl 5 0 c.sets.length false]) rfl<|rSt rfl<|rE 21<|cO<|fG rfl ⟨trivial,(by show 0+c.sets.length≤((c.sets.set k s).map bC).length;exact omT),trivial⟩ rfl ?_;show AV.agg [vI c.ways,.sl 1 (List.take c.sets.length (List.drop 0 ((c.sets.set k s).map bC))) false]=_;rw[kG bC (c.sets.set k s) omT];refine congrArg (λ z=>AV.agg ((λ z=>caL z false) z)) (?_:(⟨c.ways,c.sets.set k s⟩:Ca)=oW c k s);rfl
theorem zJ(c:Ca)(line:Nat)(hok:c.ok)(hline:line≤4294967295):bX C0 114 [.agg (caL c false),vU line] (.tup [vN (bE c line).1,vN ((bE c line).2.getD 0),vB (bE c line).2.isSome]):=by
 refine bX.intro c0Ok Tryz.func114 rfl rfl (by kernel_rfl) rfl<|cSR<|rAl 0 rfl rfl<|oR 3 rfl<|rE 4<|bW<|cSR<|oR 1 rfl<|rCi rfl (Am c false hok)<|oR 1 rfl<|rE 7<|aW rfl (λ h1=>?_) (λ h1=>?_)
 ·refine cSR<|oR 3 rfl<|rE 10<|cO ?_;have hR:fR c=false:=by simpa using h1
  exact fT rfl (by unfold bE;rw[if_neg (by rw[hR];decide)];rfl)
 ·have hR:fR c=true:=by simpa using h1
  obtain⟨hs0,hs4,hw2,hw1,hsw⟩:=kE hR;have hkl:=Ah hs0 (lineOf line);refine bB<|cSR<|oR 1 rfl<|rCi rfl (sU line hline)<|oR 1 rfl<|rE 10<|cSR<|oR 2 rfl<|rCi rfl (Uj c (lineOf line) false hs0 omT (dR hline))<|oR 1 rfl<|rE 14<|cSR<|oR 3 rfl ?_;obtain⟨s,hs⟩:∃ y_,c.sets[(wZ c (lineOf line))]?=some y_:=⟨_,aA omT⟩;have hso:=hok.set s (aB hs);have hsl:s.length≤2:=by have:=hsw s (aB hs);omega
  refine rIx (bC s) (.dp 1 0 (bC s)) rfl rfl (iB hs) rfl<|oR 2 rfl<|rCi rfl (Uk s (lineOf line) false omT hso.2 (dR hline))<|oR 5 rfl<|rE 26<|cSR<|oR 6 rfl<|rE 32<|cO ?_;exact fT rfl (by rw[qV hR,uB hs];rfl)
theorem Ai(c:Ca)(line:Nat):(bE c line).1≤4∧(bE c line).2.getD 0≤2:=by
 by_cases h:fR c=true
 ·obtain⟨h0,h4,h2,h1,hw⟩:=kE h;rw[qV h];have hlt:=Ah h0 (lineOf line);refine⟨by show wZ _ _≤4;omega,?_⟩;show (jV _ _).getD 0≤2
  cases hp:jV (oD c (wZ c (lineOf line))) (lineOf line)with
  |none=>exact aE _
  |some j=>
   have:=Ee hp;rw[uB (aA hlt)]at this;have h3:=hw _ (lG hlt);show j≤2;omega
 ·unfold bE;rw[if_neg h];exact⟨aE _,aE _⟩
theorem Hp(c:Ca)(line:Nat)(hok:c.ok)(hline:line≤4294967295):bX C0 118 [.agg (caL c false),vU line] (.agg (caL (mG c line) false)):=by
 refine dc1 (bX.intro c1Ok Tryz.func118 rfl rfl (by kernel_rfl) rfl ?_);have hFb:=Ai c line;refine cSR<|rAl 0 rfl rfl<|rAl 1 rfl rfl<|rE 2<|cSR<|oR 2 rfl<|rCi rfl (zJ c line hok hline)<|oR 7 rfl<|rE 12<|bW<|cSR<|oR 2 rfl<|rE 14<|aW rfl (λ h1=>?_) (λ h1=>?_)
 ·have hF:(bE c line).2.isSome=false:=by simpa using h1
  refine cSR<|oR 1 rfl<|rSt rfl<|rE 16<|cO ?_;exact fG rfl ⟨trivial,trivial,trivial⟩ rfl (by rw[CD hF];rfl)
 ·have hF:(bE c line).2.isSome=true:=by simpa using h1
  obtain⟨hR,hF1,hF2,hF3⟩:=pN hF;obtain⟨hs0,hs4,hw2,hw1,hsw⟩:=kE hR;refine bB<|cSR<|oR 5 rfl ?_;obtain⟨s,hs⟩:∃ y_,c.sets[((bE c line).1)]?=some y_:=⟨_,aA omT⟩;have hso:=hok.set s (aB hs);have hse:=uB hs;rw[hse]at hF3;have hsl:s.length≤2:=by have:=hsw s (aB hs);omega
  refine rIx (bC s) (.dp 1 0 (bC s)) rfl rfl (iB hs) rfl<|oR 2 rfl<|rCi rfl (PA s ((bE c line).2.getD 0) false hF3 omT hso.2)<|rCi rfl (KF c ((bE c line).1) (eY s ((bE c line).2.getD 0)) hok hF2 omT (by rw[pM hF3];omega) (lU hso.2))<|rSt rfl<|rE 25<|cO ?_;exact fG rfl ⟨trivial,trivial,trivial⟩ rfl (by rw[CB hF,hse];rfl)
theorem Ef{α:Type}{f:α→α}{l:List α}{x:α}(h:l[0]?=some x):modHd f l=l.set 0 (f x):=by
 cases l with
 |nil=>cases h
 |cons y l=>injection h with h;subst h;rfl
theorem FP{α:Type}(l:List α)(x:α)(n:Nat)(hn:n=l.length):eY (l++[x]) n=x::l:=by
 subst hn;rw[Bw (x:=x) (by simp)];simp
theorem LU{c:Ca}(h:fR c=false)(line:Nat)(d:ByteArray)(b:Bool):nP c line d b=(c,pO,false):=by unfold nP;rw[if_neg (by rw[h];decide)]
theorem Bx{c:Ca}{line:Nat}(hF:(bE c line).2.isSome=true)(d:ByteArray)(b:Bool):nP c line d b=(oW c (bE c line).1 (modHd (λ w=>{w with data:=if (dB d).size=0 then w.data else dB d,dirty:=w.dirty||b}) (eY (oD c (bE c line).1) ((bE c line).2.getD 0))),pO,false):=by
 unfold nP;obtain⟨j,hj⟩:=EK.1 hF;have e:bE c line=((bE c line).1,some j):=by rw[←hj]
 rw[if_pos (pN hF).1,e];rfl
theorem Aj{c:Ca}{line:Nat}(hR:fR c=true)(hF:(bE c line).2.isSome=false)(d:ByteArray)(b:Bool):nP c line d b=if ((oD c (bE c line).1).length:Int)=c.ways then (oW c (bE c line).1 (⟨lineOf line,b,dB d⟩::(oD c (bE c line).1).dropLast),(oD c (bE c line).1).getLast?.getD pO,true)else (oW c (bE c line).1 (⟨lineOf line,b,dB d⟩::oD c (bE c line).1),pO,false):=by
 unfold nP;have hj:(bE c line).2=none:=by simpa using hF
 have e:bE c line=((bE c line).1,none):=by rw[←hj]
 rw[if_pos hR,e]
abbrev aaP(p:Ca×Wy×Bool):AV:=.tup [.agg (caL p.1 false),.agg (wyL p.2.1),vB p.2.2]
theorem xU(d:ByteArray):d.toList.length=d.size:=by
 rw[ByteArray.toList_eq];exact dP
theorem Sw{d:ByteArray}(h: ¬ d.size=0):(!(d.toList==(⟨#[]⟩:ByteArray).toList))=true:=by
 cases hd:d.toList==(⟨#[]⟩:ByteArray).toList with
 |false=>rfl
 |true=>
  have:=congrArg List.length (eq_of_beq hd);rw[xU,xU]at this;exact absurd this h
theorem wS(d:ByteArray):(d.toList==(⟨#[]⟩:ByteArray).toList)=decide (d.size=0):=by
 by_cases h:d.size=0
 ·rw[nD h];have e:d.toList=(⟨#[]⟩:ByteArray).toList:=by rw[ByteArray.toList_eq,ByteArray.toList_eq];exact aX (by rw[dP];exact h)
  rw[e];exact beq_self_eq_true _
 ·rw[kC h];have:=Sw h;simpa using this
theorem XN{d:ByteArray}(h:(!(d.toList==(⟨#[]⟩:ByteArray).toList))=true): ¬ d.size=0:=by rw[wS]at h;simpa using h
theorem XO{d:ByteArray}(h:(!(d.toList==(⟨#[]⟩:ByteArray).toList))=false):d.size=0:=by rw[wS]at h;simpa using h
theorem Nh{d:ByteArray}(h: ¬ d.size=16):dB d=oC:=if_neg h
theorem KG{d:ByteArray}(h:d.size=16):dB d=d:=if_pos h
theorem PB(c:Ca)(line:Nat)(data:ByteArray)(dirty:Bool)(hok:c.ok)(hline:line≤4294967295):bX C0 95 [.agg (caL c false),vU line,.v (.string data),.v (.bool dirty)] (aaP (nP c line data dirty)):=by
 refine dc1 (bX.intro c1Ok Tryz.func95 rfl rfl (by kernel_rfl) rfl ?_);have hFb:=Ai c line;refine cSR<|rAl 0 rfl rfl<|rAl 1 rfl rfl<|rAl 2 rfl rfl<|oR 1 rfl<|rE 4<|bW<|cSR<|oR 1 rfl<|rCi rfl (Am c false hok)<|oR 1 rfl<|rE 7<|aW rfl (λ h1=>?_) (λ h1=>?_)
 ·have hR:fR c=false:=by simpa using h1
  refine cSR<|oR 1 rfl<|rV (.agg [zU,vB false,.v (.string (⟨#[]⟩:ByteArray))]) rfl<|rSt rfl<|rSt rfl<|oR 1 rfl<|rE 12<|cO ?_;rw[LU hR];exact fT rfl rfl
 ·have hR:fR c=true:=by simpa using h1
  obtain⟨hs0,hs4,hw2,hw1,hsw⟩:=kE hR;have hF2:(bE c line).1<c.sets.length:=by rw[qV hR];exact Ah hs0 _
  refine bB<|Es (κ:=Unit) (λ u_=>⟨slotsF [(1,vU line),(2,.v (.string (dB data))),(3,vB dirty),(4,.ptr 0 0),(8,.ptr 1 0),(9,.ptr 2 0),(10,vB false)],heapF [(0,.box [vI c.ways,.sl 1 (c.sets.map bC) false]),(1,.box [vI 0,.sl 0 ([]) true]),(2,.box [zU,vB false,.v (.string (⟨#[]⟩:ByteArray))])],7⟩) (λ u_=>True) ?_ ?_
  ·refine cSR<|oR 1 rfl<|rV (vN data.size) rfl<|rW (vB (data.size != 16)) rfl (okB (neN _ _))<|rE 10<|aW rfl (λ h2=>?_) (λ h2=>?_)
   ·have h2p:=vH h2;refine cRg<|oR 1 rfl<|rE 11<|.mk _ (.refl _) ⟨(),λ s=>s,Weak.of_lists _ ⟨⟨rfl,rfl⟩,⟨(congrArg (λ z=>AV.v (.string z)) (show (⟨#[]⟩:ByteArray)=dB data from (Nh omT).symm)),rfl⟩,⟨rfl,rfl⟩,⟨rfl,rfl⟩,⟨rfl,rfl⟩,⟨rfl,rfl⟩,⟨rfl,rfl⟩,trivial⟩ wH rfl,rfl,trivial⟩
   ·have h2p:=vJ h2;refine bB<|.mk _ (.refl _) ⟨(),λ s=>s,Weak.of_lists _ ⟨⟨rfl,rfl⟩,⟨(congrArg (λ z=>AV.v (.string z)) (show data=dB data from (KG omT).symm)),rfl⟩,⟨rfl,rfl⟩,⟨rfl,rfl⟩,⟨rfl,rfl⟩,⟨rfl,rfl⟩,⟨rfl,rfl⟩,trivial⟩ wH rfl,rfl,trivial⟩
  ·intro u_ _;refine cSR<|oR 2 rfl<|rCi rfl (zJ c line hok hline)<|oR 7 rfl<|rE 17<|bW<|cSR<|oR 1 rfl<|rE 18<|aW rfl (λ h3=>?_) (λ h3=>?_)
   ·have hF:(bE c line).2.isSome=true:=by simpa using h3
    have hF3:=(pN hF).2.2.2;refine cSR<|oR 3 rfl ?_;obtain⟨s,hs⟩:∃ y_,c.sets[((bE c line).1)]?=some y_:=⟨_,aA omT⟩;have hso:=hok.set s (aB hs);have hse:=uB hs;have hsl:s.length≤2:=by have:=hsw s (aB hs);omega
    rw[hse]at hF3;have hfl:=pM hF3;refine rIx (bC s) (.dp 1 0 (bC s)) rfl rfl (iB hs) rfl<|oR 2 rfl<|fW _ rfl rfl rfl ((Ug s ((bE c line).2.getD 0) false omT omT hso.2).frame0 _ _ rfl) ?_;rintro _ _ ⟨rfl,rfl⟩;refine oR 1 rfl<|rE 26<|bW<|cSR<|oR 1 rfl<|rV (vB (!((dB data).toList==(⟨#[]⟩:ByteArray).toList))) rfl<|rE 28<|aW rfl (λ h4=>?_) (λ h4=>?_)
    ·refine cRg<|oR 2 rfl<|nW (.ptr2 24 (0+0) 0) rfl rfl (⟨by decide,EI.2 (by show 0<s.length;exact omT)⟩)<|oR 1 rfl ?_;obtain⟨w,hw⟩:∃ y_,(eY s ((bE c line).2.getD 0))[0]?=some y_:=⟨_,aA omT⟩;have hwo:=(lU hso.2) w (aB hw);have hx1:((eY s ((bE c line).2.getD 0)).set 0 (⟨w.line,w.dirty,(dB data)⟩:Wy))[0]?=some (⟨w.line,w.dirty,(dB data)⟩:Wy):=aQ omT;refine nI (wyL w) (h':=upd _ 24 (some (.arr (((eY s ((bE c line).2.getD 0)).set 0 (⟨w.line,w.dirty,(dB data)⟩:Wy)).map wyL) 3))) rfl rfl rfl (⟨by decide,Ii (iB hw)⟩) (uW (f:=wyL) (l:=eY s ((bE c line).2.getD 0)) (k:=0) (x:=(⟨w.line,w.dirty,(dB data)⟩:Wy)))<|rE 33<|ER<|cRg<|oR 2 rfl<|nW (.ptr2 24 (0+0) 0) rfl rfl (⟨by decide,EI.2 (by show 0<s.length;exact omT)⟩)<|oR 1 rfl<|Ih (wyL (⟨w.line,w.dirty,(dB data)⟩:Wy)) (x:=vB w.dirty) rfl rfl rfl (⟨by decide,Ii (iB hx1)⟩) rfl<|oR 1 rfl<|gN rfl<|cV rfl rfl rfl (by simp)<|nW (.ptr2 24 (0+0) 0) rfl rfl (⟨by decide,EI.2 (by show 0<s.length;exact omT)⟩)<|oR 1 rfl ?_;have hx2:(((eY s ((bE c line).2.getD 0)).set 0 (⟨w.line,w.dirty,(dB data)⟩:Wy)).set 0 (⟨w.line,cZ w.dirty true dirty,(dB data)⟩:Wy))[0]?=some (⟨w.line,cZ w.dirty true dirty,(dB data)⟩:Wy):=aQ omT;refine nI (wyL (⟨w.line,w.dirty,(dB data)⟩:Wy)) (h':=upd _ 24 (some (.arr ((((eY s ((bE c line).2.getD 0)).set 0 (⟨w.line,w.dirty,(dB data)⟩:Wy)).set 0 (⟨w.line,cZ w.dirty true dirty,(dB data)⟩:Wy)).map wyL) 3))) rfl rfl rfl (⟨by decide,Ii (iB hx1)⟩) (uW (f:=wyL) (l:=(eY s ((bE c line).2.getD 0)).set 0 (⟨w.line,w.dirty,(dB data)⟩:Wy)) (k:=0) (x:=(⟨w.line,cZ w.dirty true dirty,(dB data)⟩:Wy)))<|rE 44<| .mk _ (.step (some (24,3,(((eY s ((bE c line).2.getD 0)).set 0 (⟨w.line,w.dirty,(dB data)⟩:Wy)).set 0 (⟨w.line,cZ w.dirty true dirty,(dB data)⟩:Wy)).map wyL)) (Ghost.of_lists (l:=[(1,vU line),(2,.v (.string (dB data))),(3,vB dirty),(4,.ptr 0 0),(8,.ptr 1 0),(9,.ptr 2 0),(10,vB false),(11,vN ((bE c line).1)),(35,vB ((bE c line).2.isSome)),(14,.sl 3 ((((eY s ((bE c line).2.getD 0)).set 0 (⟨w.line,w.dirty,(dB data)⟩:Wy)).set 0 (⟨w.line,cZ w.dirty true dirty,(dB data)⟩:Wy)).map wyL) false),(44,vB (!((dB data).toList==(⟨#[]⟩:ByteArray).toList)))]) (hp:=[(0,.box [vI c.ways,.sl 1 (c.sets.map bC) false]),(1,.box [vI 0,.sl 0 ([]) true]),(2,.box [zU,vB false,.v (.string (⟨#[]⟩:ByteArray))])]) rfl rfT rbT) (.refl _))<|cSR<|oR 3 rfl<|rCi rfl (KF c ((bE c line).1) (((eY s ((bE c line).2.getD 0)).set 0 (⟨w.line,w.dirty,(dB data)⟩:Wy)).set 0 (⟨w.line,cZ w.dirty true dirty,(dB data)⟩:Wy)) hok hF2 omT (by first|exact omT|(rw[pM omT];exact omT)) (xW (P:=Wy.ok) (xW (P:=Wy.ok) (lU hso.2) ⟨hwo.line⟩) ⟨hwo.line⟩))<|rV (.agg [zU,vB false,.v (.string (⟨#[]⟩:ByteArray))]) rfl<|rSt rfl<|rSt rfl<|oR 1 rfl<|rE 52<|cO ?_;rw[Bx hF,hse,Ef hw,if_neg (XN h4)]
     try rw[lH]
     try rw[lH]
     exact fT rfl (by simp only[cOr,lH];rfl)
    ·refine bB<|ER<|cRg<|oR 2 rfl<|nW (.ptr2 24 (0+0) 0) rfl rfl (⟨by decide,EI.2 (by show 0<s.length;exact omT)⟩)<|oR 1 rfl ?_;obtain⟨w,hw⟩:∃ y_,(eY s ((bE c line).2.getD 0))[0]?=some y_:=⟨_,aA omT⟩;have hwo:=(lU hso.2) w (aB hw);refine Ih (wyL w) (x:=vB w.dirty) rfl rfl rfl (⟨by decide,Ii (iB hw)⟩) rfl<|oR 1 rfl<|gN rfl<|cV rfl rfl rfl (by simp)<|nW (.ptr2 24 (0+0) 0) rfl rfl (⟨by decide,EI.2 (by show 0<s.length;exact omT)⟩)<|oR 1 rfl ?_;have hx3:((eY s ((bE c line).2.getD 0)).set 0 (⟨w.line,cZ w.dirty true dirty,w.data⟩:Wy))[0]?=some (⟨w.line,cZ w.dirty true dirty,w.data⟩:Wy):=aQ omT;refine nI (wyL w) (h':=upd _ 24 (some (.arr (((eY s ((bE c line).2.getD 0)).set 0 (⟨w.line,cZ w.dirty true dirty,w.data⟩:Wy)).map wyL) 3))) rfl rfl rfl (⟨by decide,Ii (iB hw)⟩) (uW (f:=wyL) (l:=eY s ((bE c line).2.getD 0)) (k:=0) (x:=(⟨w.line,cZ w.dirty true dirty,w.data⟩:Wy)))<|rE 39<| .mk _ (.step (some (24,3,((eY s ((bE c line).2.getD 0)).set 0 (⟨w.line,cZ w.dirty true dirty,w.data⟩:Wy)).map wyL)) (Ghost.of_lists (l:=[(1,vU line),(2,.v (.string (dB data))),(3,vB dirty),(4,.ptr 0 0),(8,.ptr 1 0),(9,.ptr 2 0),(10,vB false),(11,vN ((bE c line).1)),(35,vB ((bE c line).2.isSome)),(14,.sl 3 (((eY s ((bE c line).2.getD 0)).set 0 (⟨w.line,cZ w.dirty true dirty,w.data⟩:Wy)).map wyL) false),(44,vB (!((dB data).toList==(⟨#[]⟩:ByteArray).toList)))]) (hp:=[(0,.box [vI c.ways,.sl 1 (c.sets.map bC) false]),(1,.box [vI 0,.sl 0 ([]) true]),(2,.box [zU,vB false,.v (.string (⟨#[]⟩:ByteArray))])]) rfl rfT rbT) (.refl _))<|cSR<|oR 3 rfl<|rCi rfl (KF c ((bE c line).1) ((eY s ((bE c line).2.getD 0)).set 0 (⟨w.line,cZ w.dirty true dirty,w.data⟩:Wy)) hok hF2 omT (by first|exact omT|(rw[pM omT];exact omT)) (xW (P:=Wy.ok) (lU hso.2) ⟨hwo.line⟩))<|rV (.agg [zU,vB false,.v (.string (⟨#[]⟩:ByteArray))]) rfl<|rSt rfl<|rSt rfl<|oR 1 rfl<|rE 47<|cO ?_;rw[Bx hF,hse,Ef hw,if_pos (XO h4)]
     try rw[lH]
     exact fT rfl (by simp only[cOr,lH];rfl)
   ·have hF:(bE c line).2.isSome=false:=by simpa using h3
    refine bB<|cSR<|oR 3 rfl ?_;obtain⟨s,hs⟩:∃ y_,c.sets[((bE c line).1)]?=some y_:=⟨_,aA omT⟩;have hso:=hok.set s (aB hs);have hse:=uB hs;have hsl:s.length≤2:=by have:=hsw s (aB hs);omega
    refine rIx (bC s) (.dp 1 0 (bC s)) rfl rfl (iB hs) rfl<|oR 2 rfl<|rE 24<|bW<|ES rfl rfl<|rV (.agg [zU,vB false,.v (.string (⟨#[]⟩:ByteArray))]) rfl<|oR 1 rfl<|rW (vN s.length) rfl (bY wyL s)<|oR 2 rfl<|rV (vB (((s.length:Nat):Int)==c.ways)) rfl<|rAl 30 rfl rfl<|rSt rfl<|oR 1 rfl<|rE 33<|And.intro (by kernel_rfl)<|bW<|cSR<|oR 1 rfl<|rE 34<|aW rfl (λ h5=>?_) (λ h5=>?_)
    ·have h5p:=mU h5
     try have hq:(s.length:Int)=c.ways:=by simpa using h5
     try have hq: ¬ (s.length:Int)=c.ways:=by simpa using h5
     refine cSR<|oR 1 rfl<|rW (vN s.length) rfl (bY wyL s) ?_;have b1:s.length - 1≤2:=aM (jQ _ _) hsl;refine rW (vN (s.length - 1)) rfl (okI (CG omT hsl rfl))<|oR 1 rfl<|rE 38<|ES rfl rfl<|oR 2 rfl ?_;obtain⟨g,hg⟩:∃ y_,s[(s.length - 1)]?=some y_:=⟨_,aA omT⟩;have hgo:=hso.2 g (aB hg);refine rIx (wyL g) (.dp 3 0 (wyL g)) rfl rfl (iB hg) rfl<|oR 3 rfl<|nW (.sl 3 ((s.take (s.length - 1)).map wyL) false) rfl (wU (uX wyL s (s.length - 1))) slT<|rSt rfl<|oR 1 rfl<|rE 47<|And.intro (by kernel_rfl)<|cSR<|oR 1 rfl<|rW (vN (s.length - 1)) rfl (uV wyL (s.take (s.length - 1)) omT) ?_;have b2:(s.length - 1)+1≤3:=aH (by have:=hsl;exact omT) (aC 1);refine rW (vN ((s.length - 1)+1)) rfl (okI (bV b2 rfl))<|rFx (x:=.osl 50 0 0 false) (h':=upd _ 50 (some (.arr (([]:List Wy).map wyL) 3))) rfl rfl (rfl) (⟨by decide,EJ.2 omT,by show ((((s.length - 1)+1):Nat):Int)≤1000000;omega⟩)<|oR 1 rfl<|rE 52<|cSR<|oR 2 rfl<|rFx (x:=.osl 54 0 (s.length - 1) false) (h':=upd (upd _ 50 none) 54 (some (.arr ((s.take (s.length - 1)).map wyL) 3))) rfl rfl (jL wyL ([]:List Wy) (s.take (s.length - 1)) omT omT) (⟨by exact omT,by exact omT,trivial⟩)<|oR 1 rfl<|rE 56<|ER<|cRg<|oR 2 rfl<|rCi rfl (sU line hline)<|oR 2 rfl<|rV (.agg [vU (lineOf line),vB dirty,.v (.string (dB data))]) rfl<|rV (.sl 3 ([[vU (lineOf line),vB dirty,.v (.string (dB data))]]) true) rfl<|rFx (x:=.osl 63 0 ((s.length - 1)+1) false) (h':=upd (upd _ 54 none) 63 (some (.arr (((s.take (s.length - 1))++([(⟨lineOf line,dirty,(dB data)⟩:Wy)])).map wyL) 3))) rfl rfl (jL wyL (s.take (s.length - 1)) ([(⟨lineOf line,dirty,(dB data)⟩:Wy)]) omT omT) (⟨by exact omT,by exact omT,trivial⟩)<|oR 1 rfl<|rE 65<| .mk _ (.step (some (63,3,((s.take (s.length - 1))++([(⟨lineOf line,dirty,(dB data)⟩:Wy)])).map wyL)) (Ghost.of_lists (l:=[(4,.ptr 0 0),(8,.ptr 1 0),(9,.ptr 2 0),(10,vB false),(11,vN ((bE c line).1)),(35,vB ((bE c line).2.isSome)),(15,.sl 3 ((s.take (s.length - 1)).map wyL) false),(16,.ptr 30 0),(17,vB (((s.length:Nat):Int)==c.ways)),(75,vB (((s.length:Nat):Int)==c.ways)),(19,.sl 3 (((s.take (s.length - 1))++([(⟨lineOf line,dirty,(dB data)⟩:Wy)])).map wyL) false)]) (hp:=[(0,.box [vI c.ways,.sl 1 (c.sets.map bC) false]),(1,.box [vI 0,.sl 0 ([]) true]),(2,.box [zU,vB false,.v (.string (⟨#[]⟩:ByteArray))]),(30,.box (wyL g))]) rfl rfT rbT) (.refl _))<|bW<|ES rfl rfl<|oR 4 rfl<|rW (vN (s.length - 1)) rfl (uV wyL (s.take (s.length - 1)) omT)<|rCi rfl (PA ((s.take (s.length - 1))++([(⟨lineOf line,dirty,(dB data)⟩:Wy)])) (s.length - 1) false omT omT (rJ (xV hso.2) (rK (P:=Wy.ok) ⟨(dR hline)⟩)))<|rCi rfl (KF c ((bE c line).1) (eY ((s.take (s.length - 1))++([(⟨lineOf line,dirty,(dB data)⟩:Wy)])) (s.length - 1)) hok hF2 omT (by first|exact omT|(rw[pM omT];exact omT)) (lU (rJ (xV hso.2) (rK (P:=Wy.ok) ⟨(dR hline)⟩))))<|oR 2 rfl<|rSt rfl<|rSt rfl<|oR 1 rfl<|rE 77<|And.intro (by kernel_rfl)<|cO ?_;rw[Aj hR hF,hse,if_pos hq];refine fT rfl ?_;show AV.tup [.agg [vI ((oW c ((bE c line).1) (eY ((s.take (s.length - 1))++([(⟨lineOf line,dirty,(dB data)⟩:Wy)])) (s.length - 1))).ways),.sl 1 (((oW c ((bE c line).1) (eY ((s.take (s.length - 1))++([(⟨lineOf line,dirty,(dB data)⟩:Wy)])) (s.length - 1))).sets).map bC) false],.agg (wyL g),vB (((s.length:Nat):Int)==c.ways)]=_;rw[FP _ _ _ omT,h5];rw[←dZ,show s.getLast?.getD pO=g from by rw[oY,hg];rfl]
     try rfl
    ·have h5p:=mV h5
     try have hq:(s.length:Int)=c.ways:=by simpa using h5
     try have hq: ¬ (s.length:Int)=c.ways:=by simpa using h5
     refine bB<|cSR<|oR 1 rfl<|rW (vN s.length) rfl (bY wyL s) ?_;have b3:s.length+1≤3:=aH hsl (aC 1);refine rW (vN (s.length+1)) rfl (okI (bV b3 rfl))<|rFx (x:=.osl 37 0 0 false) (h':=upd _ 37 (some (.arr (([]:List Wy).map wyL) 3))) rfl rfl (rfl) (⟨by decide,EJ.2 omT,by show (((s.length+1):Nat):Int)≤1000000;omega⟩)<|oR 1 rfl<|rE 39<|cSR<|oR 2 rfl<|rFx (x:=.osl 41 0 s.length false) (h':=upd (upd _ 37 none) 41 (some (.arr (s.map wyL) 3))) rfl rfl (jL wyL ([]:List Wy) s omT omT) (⟨by exact omT,by exact omT,trivial⟩)<|oR 1 rfl<|rE 43<|ER<|cRg<|oR 2 rfl<|rCi rfl (sU line hline)<|oR 2 rfl<|rV (.agg [vU (lineOf line),vB dirty,.v (.string (dB data))]) rfl<|rV (.sl 3 ([[vU (lineOf line),vB dirty,.v (.string (dB data))]]) true) rfl<|rFx (x:=.osl 50 0 (s.length+1) false) (h':=upd (upd _ 41 none) 50 (some (.arr ((s++([(⟨lineOf line,dirty,(dB data)⟩:Wy)])).map wyL) 3))) rfl rfl (jL wyL s ([(⟨lineOf line,dirty,(dB data)⟩:Wy)]) omT omT) (⟨by exact omT,by exact omT,trivial⟩)<|oR 1 rfl<|rE 52<| .mk _ (.step (some (50,3,(s++([(⟨lineOf line,dirty,(dB data)⟩:Wy)])).map wyL)) (Ghost.of_lists (l:=[(4,.ptr 0 0),(8,.ptr 1 0),(9,.ptr 2 0),(10,vB false),(11,vN ((bE c line).1)),(35,vB ((bE c line).2.isSome)),(15,.sl 3 (s.map wyL) false),(16,.ptr 30 0),(17,vB (((s.length:Nat):Int)==c.ways)),(75,vB (((s.length:Nat):Int)==c.ways)),(19,.sl 3 ((s++([(⟨lineOf line,dirty,(dB data)⟩:Wy)])).map wyL) false)]) (hp:=[(0,.box [vI c.ways,.sl 1 (c.sets.map bC) false]),(1,.box [vI 0,.sl 0 ([]) true]),(2,.box [zU,vB false,.v (.string (⟨#[]⟩:ByteArray))]),(30,.box [zU,vB false,.v (.string (⟨#[]⟩:ByteArray))])]) rfl rfT rbT) (.refl _))<|bW<|ES rfl rfl<|oR 4 rfl<|rW (vN s.length) rfl (bY wyL s)<|rCi rfl (PA (s++([(⟨lineOf line,dirty,(dB data)⟩:Wy)])) s.length false omT omT (rJ hso.2 (rK (P:=Wy.ok) ⟨(dR hline)⟩)))<|rCi rfl (KF c ((bE c line).1) (eY (s++([(⟨lineOf line,dirty,(dB data)⟩:Wy)])) s.length) hok hF2 omT (by first|exact omT|(rw[pM omT];exact omT)) (lU (rJ hso.2 (rK (P:=Wy.ok) ⟨(dR hline)⟩))))<|oR 2 rfl<|rSt rfl<|rSt rfl<|oR 1 rfl<|rE 64<|And.intro (by kernel_rfl)<|cO ?_;rw[Aj hR hF,hse,if_neg hq];refine fT rfl ?_;show AV.tup [.agg [vI ((oW c ((bE c line).1) (eY (s++([(⟨lineOf line,dirty,(dB data)⟩:Wy)])) s.length)).ways),.sl 1 (((oW c ((bE c line).1) (eY (s++([(⟨lineOf line,dirty,(dB data)⟩:Wy)])) s.length)).sets).map bC) false],.agg [zU,vB false,.v (.string (⟨#[]⟩:ByteArray))],vB (((s.length:Nat):Int)==c.ways)]=_;rw[FP _ _ _ omT,h5]
     try rfl
theorem VE{a:Nat}(h:a≤4294967295):IntKind.wrap .u32 ((a:Int) - ((lineOf a:Nat):Int))=((a % 16:Nat):Int):=by
 rw[TN (B:=4294967295) (dR h) rfl];have:(a+4294967296 - lineOf a) % 4294967296=a % 16:=by unfold lineOf;omega
 rw[this]
theorem Sx{c:Ca}{k j:Nat}{s:List Wy}{x:Wy}(hR:fR c=true)(hs:c.sets[k]?=some s)(hx:s[j]?=some x):x.data.size=0∨x.data.size=16:=
 (((jU c k s).1 (((jN c).1 hR).2 k s hs)).2 j x hx).2.2.1
theorem FQ{c:Ca}{addr:Nat}(b:ByteArray)(hF:(bE c addr).2.isSome=false):qM c addr b=(c,false):=by
 unfold qM;have hj:(bE c addr).2=none:=by simpa using hF
 have e:bE c addr=((bE c addr).1,none):=by rw[←hj]
 rw[e]
theorem zK{c:Ca}{addr:Nat}{s:List Wy}{x:Wy}(b:ByteArray)(hF:(bE c addr).2.isSome=true)(hs:oD c (bE c addr).1=s)(hx:s[(bE c addr).2.getD 0]?=some x):
  qM c addr b=if x.data.size=0∨b.size+addr % 16>16 then (c,false)else (oW c (bE c addr).1 (modHd (λ w=>{w with data:=Ek w.data (addr % 16) b,dirty:=true}) (eY s ((bE c addr).2.getD 0))),true):=by
 unfold qM;obtain⟨j,hj⟩:=EK.1 hF;have e:bE c addr=((bE c addr).1,some j):=by rw[←hj]
 rw[hj]at hx⊢;have hx':(oD c (bE c addr).1)[j]?=some x:=by rw[hs];exact hx
 rw[e];have hx2:s[j]?=some x:=hx;simp only[hs,hx2];rfl
theorem PC{α:Type}{l:List α}{k:Nat}{x:α}(h:l[k]?=some x):(eY l k)[0]?=some x:=by rw[Bw h];rfl
abbrev wrA(p:Ca×Bool):AV:=.tup [.agg (caL p.1 false),vB p.2]
theorem Sy(c:Ca)(addr:Nat)(bytes:ByteArray)(hok:c.ok)(hline:addr≤4294967295):bX C0 174 [.agg (caL c false),vU addr,.v (.string bytes)] (wrA (qM c addr bytes)):=by
 refine dc1 (bX.intro c1Ok Tryz.func174 rfl rfl (by kernel_rfl) rfl ?_);have hFb:=Ai c addr;refine cSR<|rAl 0 rfl rfl<|rAl 1 rfl rfl<|oR 1 rfl<|rE 3<|cSR<|oR 2 rfl<|rCi rfl (zJ c addr hok hline)<|oR 7 rfl<|rE 13<|bW<|cSR<|oR 2 rfl<|rE 15<|aW rfl (λ h1=>?_) (λ h1=>?_)
 ·have hF:(bE c addr).2.isSome=false:=by simpa using h1
  refine cSR<|oR 1 rfl<|rSt rfl<|oR 1 rfl<|rE 18<|cO ?_;rw[FQ bytes hF];exact fT rfl rfl
 ·have hF:(bE c addr).2.isSome=true:=by simpa using h1
  obtain⟨hR,hF1,hF2,hF3⟩:=pN hF;obtain⟨hs0,hs4,hw2,hw1,hsw⟩:=kE hR;refine bB<|cSR<|oR 3 rfl ?_;obtain⟨s,hs⟩:∃ y_,c.sets[((bE c addr).1)]?=some y_:=⟨_,aA omT⟩;have hso:=hok.set s (aB hs);have hse:=uB hs;rw[hse]at hF3;have hsl:s.length≤2:=by have:=hsw s (aB hs);omega
  have hfl:=pM hF3;refine rIx (bC s) (.dp 1 0 (bC s)) rfl rfl (iB hs) rfl<|oR 2 rfl ?_;obtain⟨x,hx⟩:∃ y_,s[((bE c addr).2.getD 0)]?=some y_:=⟨_,aA omT⟩;have hxo:=hso.2 x (aB hx);have hxs:=Sx hR hs hx;refine rIx (wyL x) (.dp 3 0 (wyL x)) rfl rfl (iB hx) rfl<|oR 3 rfl<|rE 25<|cSR<|oR 2 rfl<|rCi rfl (sU addr hline) ?_;have b1:addr % 16≤15:=by omega
  refine rW (vU (addr % 16)) rfl (okI (VE hline))<|rW (vN (addr % 16)) rfl (okI (bV b1 rfl))<|oR 1 rfl<|rE 31<|bW<|cSR<|oR 1 rfl<|rV (vB (x.data.toList==(⟨#[]⟩:ByteArray).toList)) rfl<|oR 1 rfl<|gN rfl<|gBS (x:=vN bytes.size) rfl id rfl<|gN rfl ?_;have b2:16 - (addr % 16)≤16:=aM (jQ _ _) (aC 16);refine gBS (x:=vN (16 - (addr % 16))) rfl id (okI (CG omT (aC 16) rfl))<|gBS (x:=vB (decide (bytes.size>(16 - (addr % 16))))) rfl hsT (okB (gtN _ _))<|cV rfl rfl rfl (by simp)<|rE 40<|aW rfl (λ h2=>?_) (λ h2=>?_)
  ·have hq:(x.data.size=0∨bytes.size>16 - addr % 16):=by have z:=h2;rw[wS]at z;simp only[cOr,dF,aP,dV,lO]at z;omega
   refine cSR<|oR 1 rfl<|rSt rfl<|oR 1 rfl<|rE 43<|cO ?_;rw[zK bytes hF hse hx,if_pos omT];exact fT rfl rfl
  ·have hq: ¬ (x.data.size=0∨bytes.size>16 - addr % 16):=by have z:=h2;rw[wS]at z;simp only[cOr,dF,aP,dV,lO]at z;omega
   have hx16:x.data.size=16:=by omega
   have hb16:bytes.size≤16 - addr % 16:=by omega
   refine bB<|cSR<|oR 3 rfl<|rIx (bC s) (.dp 1 0 (bC s)) rfl rfl (iB hs) rfl<|oR 2 rfl<|fW _ rfl rfl rfl ((Ug s ((bE c addr).2.getD 0) false omT omT hso.2).frame0 _ _ rfl) ?_;rintro _ _ ⟨rfl,rfl⟩;refine oR 1 rfl<|rE 48<|cSR<|oR 3 rfl<|nW (.v (.string (x.data.extract 0 (addr % 16)))) rfl rfl (by refine⟨?_,?_,?_⟩<;>(first|exact aG _|decide|(apply EJ.2;exact omT)))<|oR 1 rfl<|nW (.v (.string ((x.data.extract 0 (addr % 16))++bytes))) rfl rfl (by show (_:Int)≤9223372036854775807;simp[kB,eF];omega)<|oR 3 rfl<|rV (vN bytes.size) rfl ?_;have b3:(addr % 16)+bytes.size≤31:=aH b1 (show bytes.size≤16 by omega);refine rW (vN ((addr % 16)+bytes.size)) rfl (okI (bV b3 rfl))<|nW (.v (.string (x.data.extract ((addr % 16)+bytes.size) x.data.size))) rfl rfl (by refine⟨?_,?_,?_⟩<;>(first|exact aG _|decide|(apply EJ.2;exact omT)))<|nW (.v (.string (((x.data.extract 0 (addr % 16))++bytes)++(x.data.extract ((addr % 16)+bytes.size) x.data.size)))) rfl rfl (by show (_:Int)≤9223372036854775807;simp[kB,eF];omega)<|nW (.ptr2 46 (0+0) 0) rfl rfl (⟨by decide,EI.2 (by show 0<s.length;exact omT)⟩)<|oR 1 rfl ?_;obtain⟨w,hw⟩:∃ y_,(eY s ((bE c addr).2.getD 0))[0]?=some y_:=⟨_,aA omT⟩;have hwo:=(lU hso.2) w (aB hw);have hxw:w=x:=Option.some.inj (hw.symm.trans (PC hx));have hx1:((eY s ((bE c addr).2.getD 0)).set 0 (⟨w.line,w.dirty,((x.data.extract 0 (addr % 16))++bytes)++(x.data.extract ((addr % 16)+bytes.size) x.data.size)⟩:Wy))[0]?=some (⟨w.line,w.dirty,((x.data.extract 0 (addr % 16))++bytes)++(x.data.extract ((addr % 16)+bytes.size) x.data.size)⟩:Wy):=aQ omT;refine nI (wyL w) (h':=upd _ 46 (some (.arr (((eY s ((bE c addr).2.getD 0)).set 0 (⟨w.line,w.dirty,((x.data.extract 0 (addr % 16))++bytes)++(x.data.extract ((addr % 16)+bytes.size) x.data.size)⟩:Wy)).map wyL) 3))) rfl rfl rfl (⟨by decide,Ii (iB hw)⟩) (uW (f:=wyL) (l:=eY s ((bE c addr).2.getD 0)) (k:=0) (x:=(⟨w.line,w.dirty,((x.data.extract 0 (addr % 16))++bytes)++(x.data.extract ((addr % 16)+bytes.size) x.data.size)⟩:Wy)))<|rE 64<|ER<|cRg<|oR 1 rfl<|nW (.ptr2 46 (0+0) 0) rfl rfl (⟨by decide,EI.2 (by show 0<s.length;exact omT)⟩)<|oR 1 rfl ?_;have hx2:(((eY s ((bE c addr).2.getD 0)).set 0 (⟨w.line,w.dirty,((x.data.extract 0 (addr % 16))++bytes)++(x.data.extract ((addr % 16)+bytes.size) x.data.size)⟩:Wy)).set 0 (⟨w.line,true,((x.data.extract 0 (addr % 16))++bytes)++(x.data.extract ((addr % 16)+bytes.size) x.data.size)⟩:Wy))[0]?=some (⟨w.line,true,((x.data.extract 0 (addr % 16))++bytes)++(x.data.extract ((addr % 16)+bytes.size) x.data.size)⟩:Wy):=aQ omT
   refine nI (wyL (⟨w.line,w.dirty,((x.data.extract 0 (addr % 16))++bytes)++(x.data.extract ((addr % 16)+bytes.size) x.data.size)⟩:Wy)) (h':=upd _ 46 (some (.arr ((((eY s ((bE c addr).2.getD 0)).set 0 (⟨w.line,w.dirty,((x.data.extract 0 (addr % 16))++bytes)++(x.data.extract ((addr % 16)+bytes.size) x.data.size)⟩:Wy)).set 0 (⟨w.line,true,((x.data.extract 0 (addr % 16))++bytes)++(x.data.extract ((addr % 16)+bytes.size) x.data.size)⟩:Wy)).map wyL) 3))) rfl rfl rfl (⟨by decide,Ii (iB hx1)⟩) (uW (f:=wyL) (l:=(eY s ((bE c addr).2.getD 0)).set 0 (⟨w.line,w.dirty,((x.data.extract 0 (addr % 16))++bytes)++(x.data.extract ((addr % 16)+bytes.size) x.data.size)⟩:Wy)) (k:=0) (x:=(⟨w.line,true,((x.data.extract 0 (addr % 16))++bytes)++(x.data.extract ((addr % 16)+bytes.size) x.data.size)⟩:Wy)))<|rE 68<| .mk _ (.step (some (46,3,(((eY s ((bE c addr).2.getD 0)).set 0 (⟨w.line,w.dirty,((x.data.extract 0 (addr % 16))++bytes)++(x.data.extract ((addr % 16)+bytes.size) x.data.size)⟩:Wy)).set 0 (⟨w.line,true,((x.data.extract 0 (addr % 16))++bytes)++(x.data.extract ((addr % 16)+bytes.size) x.data.size)⟩:Wy)).map wyL)) (Ghost.of_lists (l:=[(3,.ptr 0 0),(6,.ptr 1 0),(7,vB false),(8,vN ((bE c addr).1)),(22,vB (!((bE c addr).2.isSome))),(46,vB (cZ (x.data.toList==(⟨#[]⟩:ByteArray).toList) true (decide (bytes.size>(16 - (addr % 16)))))),(13,.sl 3 ((((eY s ((bE c addr).2.getD 0)).set 0 (⟨w.line,w.dirty,((x.data.extract 0 (addr % 16))++bytes)++(x.data.extract ((addr % 16)+bytes.size) x.data.size)⟩:Wy)).set 0 (⟨w.line,true,((x.data.extract 0 (addr % 16))++bytes)++(x.data.extract ((addr % 16)+bytes.size) x.data.size)⟩:Wy)).map wyL) false)]) (hp:=[(0,.box [vI c.ways,.sl 1 (c.sets.map bC) false]),(1,.box [vI 0,.sl 0 ([]) true])]) rfl rfT rbT) (.refl _))<|cSR<|oR 3 rfl<|rCi rfl (KF c ((bE c addr).1) (((eY s ((bE c addr).2.getD 0)).set 0 (⟨w.line,w.dirty,((x.data.extract 0 (addr % 16))++bytes)++(x.data.extract ((addr % 16)+bytes.size) x.data.size)⟩:Wy)).set 0 (⟨w.line,true,((x.data.extract 0 (addr % 16))++bytes)++(x.data.extract ((addr % 16)+bytes.size) x.data.size)⟩:Wy)) hok hF2 omT (by first|exact omT|(rw[pM omT];exact omT)) (xW (P:=Wy.ok) (xW (P:=Wy.ok) (lU hso.2) ⟨hwo.line⟩) ⟨hwo.line⟩))<|rSt rfl<|oR 1 rfl<|rE 74<|cO ?_;subst hxw;rw[zK bytes hF hse hx,if_neg omT,Ef hw];exact fT rfl (by first|rfl|(simp only[lH];rfl))
theorem Ni{α:Type}{f:α→α}{l:List α}{k:Nat}{x:α}(h:l[k]?=some x):l.modify k f=l.set k (f x):=by
 apply dD;intro i;rw[oA,mN];obtain⟨hk,rfl⟩:=Dq.1 h;by_cases e:k=i
 ·subst e;simp[hk]
 ·simp[e]
theorem CE{c:Ca}{line:Nat}{s:List Wy}(hF:(bE c line).2.isSome=true)(hs:oD c (bE c line).1=s):oH c line=oW c (bE c line).1 (s.modify ((bE c line).2.getD 0) λ w=>{w with dirty:=false}):=by
 unfold oH;obtain⟨j,hj⟩:=EK.1 hF;have e:bE c line=((bE c line).1,some j):=by rw[←hj]
 rw[hj,e];simp only[hs];rfl
theorem CF{c:Ca}{line:Nat}(hF:(bE c line).2.isSome=false):oH c line=c:=by
 unfold oH;have hj:(bE c line).2=none:=by simpa using hF
 have e:bE c line=((bE c line).1,none):=by rw[←hj]
 rw[e]
theorem Hq(c:Ca)(line:Nat)(hok:c.ok)(hline:line≤4294967295):bX C0 122 [.agg (caL c false),vU line] (.agg (caL (oH c line) false)):=by
 refine dc1 (bX.intro c1Ok Tryz.func122 rfl rfl (by kernel_rfl) rfl ?_);have hFb:=Ai c line;refine cSR<|rAl 0 rfl rfl<|rAl 1 rfl rfl<|rE 2<|cSR<|oR 2 rfl<|rCi rfl (zJ c line hok hline)<|oR 7 rfl<|rE 12<|bW<|cSR<|oR 2 rfl<|rE 14<|aW rfl (λ h1=>?_) (λ h1=>?_)
 ·have hF:(bE c line).2.isSome=false:=by simpa using h1
  refine cSR<|oR 1 rfl<|rSt rfl<|rE 16<|cO ?_;rw[CF hF];exact fG rfl ⟨trivial,trivial,trivial⟩ rfl rfl
 ·have hF:(bE c line).2.isSome=true:=by simpa using h1
  obtain⟨hR,hF1,hF2,hF3⟩:=pN hF;obtain⟨hs0,hs4,hw2,hw1,hsw⟩:=kE hR;refine bB<|cSR<|oR 3 rfl ?_;obtain⟨s,hs⟩:∃ y_,c.sets[((bE c line).1)]?=some y_:=⟨_,aA omT⟩;have hso:=hok.set s (aB hs);have hse:=uB hs;rw[hse]at hF3;have hsl:s.length≤2:=by have:=hsw s (aB hs);omega
  have hfl:=pM hF3;refine rIx (bC s) (.dp 1 0 (bC s)) rfl rfl (iB hs) rfl<|oR 1 rfl<|rW (vN s.length) rfl (bY wyL s)<|rFx (x:=.osl 20 0 s.length false) (h':=upd _ 20 (some (.arr ((List.replicate s.length pO).map wyL) 3))) rfl rfl (PF (fP (f:=wyL) (a:=pO)).symm) (⟨aG _,EJ.2 omT,by show ((s.length:Nat):Int)≤1000000;omega⟩)<|oR 1 rfl<|rE 22<|cSR<|oR 4 rfl<|rIx (bC s) (.dp 1 0 (bC s)) rfl rfl (iB hs) rfl<|oR 1 rfl<|rFx (x:=vI ((min ((s.map wyL).length) (s.length):Nat):Int)) (h':=upd _ 20 (some (.arr (s.map wyL) 3))) rfl rfl (Hy (Di wyL ((List.replicate s.length pO).map wyL) s omT omT)) (⟨by exact omT,trivial⟩)<|rE 29<|ER<|cRg<|oR 2 rfl<|nW (.ptr2 20 (0+((bE c line).2.getD 0)) 0) rfl rfl (⟨aG _,EI.2 (by show ((bE c line).2.getD 0)<s.length;exact omT)⟩)<|oR 1 rfl ?_;obtain⟨x,hx⟩:∃ y_,s[((bE c line).2.getD 0)]?=some y_:=⟨_,aA omT⟩;have hxo:=hso.2 x (aB hx);have hx1:(s.set ((bE c line).2.getD 0) (⟨x.line,false,x.data⟩:Wy))[((bE c line).2.getD 0)]?=some (⟨x.line,false,x.data⟩:Wy):=aQ omT;refine nI (wyL x) (h':=upd _ 20 (some (.arr ((s.set ((bE c line).2.getD 0) (⟨x.line,false,x.data⟩:Wy)).map wyL) 3))) rfl rfl rfl (⟨aG _,Ii (iB hx)⟩) (uW (f:=wyL) (l:=s) (k:=((bE c line).2.getD 0)) (x:=(⟨x.line,false,x.data⟩:Wy)))<|rE 34<| .mk _ (.step (some (20,3,(s.set ((bE c line).2.getD 0) (⟨x.line,false,x.data⟩:Wy)).map wyL)) (Ghost.of_lists (l:=[(2,.ptr 0 0),(4,.ptr 1 0),(5,vN ((bE c line).1)),(17,vB (!((bE c line).2.isSome))),(8,.sl 3 ((s.set ((bE c line).2.getD 0) (⟨x.line,false,x.data⟩:Wy)).map wyL) false)]) (hp:=[(0,.box [vI c.ways,.sl 1 (c.sets.map bC) false]),(1,.box [vI 0,.sl 0 ([]) true])]) rfl rfT rbT) (.refl _))<|cSR<|oR 3 rfl<|rCi rfl (KF c ((bE c line).1) (s.set ((bE c line).2.getD 0) (⟨x.line,false,x.data⟩:Wy)) hok hF2 omT omT (xW (P:=Wy.ok) hso.2 ⟨hxo.line⟩))<|rSt rfl<|rE 39<|cO ?_;rw[CE hF hse,Ni hx];exact fG rfl ⟨trivial,trivial,trivial⟩ rfl rfl
section
variable {α:Type}{p:α→Bool}
theorem PD{l:List α}{k:Nat}{x:α}(hx:l[k]?=some x)(hn:p x=false)(h:(l.take k).find? p=none):(l.take (k+1)).find? p=none:=by
 rw[bR,hx,jC,h];simp[hn]
theorem PE{l:List α}{k:Nat}{x:α}(hx:l[k]?=some x)(hp:p x=true)(h:(l.take k).find? p=none):l.find? p=some x:=by
 have e:l=l.take (k+1)++l.drop (k+1):=(fZ _ _).symm;rw[e,jC,bR,hx,jC,h];simp[hp]
theorem Sz{l:List α}{k:Nat}(hk:l.length≤k)(h:(l.take k).find? p=none):l.find? p=none:=by rwa [aL hk]at h
theorem VF{L:List (List α)}{k:Nat}{s:List α}(hs:L[k]?=some s)(hn:s.find? p=none)(h:(L.take k).flatten.find? p=none):(L.take (k+1)).flatten.find? p=none:=by
 rw[bR,hs,oO,jC,h];simpa using hn
theorem VG{L:List (List α)}{k:Nat}{s:List α}{x:α}(hs:L[k]?=some s)(hn:s.find? p=some x)(h:(L.take k).flatten.find? p=none):L.flatten.find? p=some x:=by
 have e:L=L.take (k+1)++L.drop (k+1):=(fZ _ _).symm;rw[e,oO,jC,bR,hs,oO,jC,h];simp[hn]
end
abbrev drA(o:Option Wy):AV:=.tup [.agg (wyL (o.getD pO)),vB o.isSome]
theorem Hr(c:Ca)(hok:c.ok):bX C0 121 [.agg (caL c false)] (drA (cM c)):=by
 refine bX.intro c0Ok Tryz.func121 rfl rfl (by kernel_rfl) rfl<|cSR<|rAl 0 rfl rfl<|rAl 1 rfl rfl<|oR 1 rfl<|rE 3<|bW<|cSR<|oR 1 rfl<|rCi rfl (Am c false hok)<|oR 1 rfl<|rE 6<|aW rfl (λ h1=>?_) (λ h1=>?_)
 ·have hR:fR c=false:=by simpa using h1
  refine cSR<|rV (.agg [.v (.int .u32 0),vB false,.v (.string (⟨#[]⟩:ByteArray))]) rfl<|rSt rfl<|oR 1 rfl<|rE 9<|cO ?_;rw[show cM c=none from by unfold cM;rw[if_neg (by rw[hR];decide)]];exact fT rfl rfl
 ·have hR:fR c=true:=by simpa using h1
  obtain⟨hs0,hs4,hw2,hw1,hsw⟩:=kE hR;refine bB<|bW<|cSR<|oR 2 rfl<|rW (vN c.sets.length) rfl (bY bC c.sets)<|oR 1 rfl<|rE 10<|bK<|mL (κ:=Nat) (λ k=>⟨slotsF [(2,.ptr 1 0),(10,vB (!(fR c))),(13,.sl 1 (c.sets.map bC) false),(14,vN c.sets.length),(15,vN k)],heapF [(0,.box [vI c.ways,.sl 1 (c.sets.map bC) false]),(1,.box [.v (.int .u32 0),vB false,.v (.string (⟨#[]⟩:ByteArray))])],10⟩) (λ k=>k≤c.sets.length∧(c.sets.take k).flatten.find? (·.dirty)=none) (λ k=>c.sets.length - k) 0 (λ s=>s) (Weak.of_lists (λ s=>s) wT wH rfl) (⟨aE _,rfl⟩) ?_;intro k hk;have hkn:k≤c.sets.length:=hk.1;have hkB:k≤1000000:=by omega
  refine cSR<|rW (vB (decide (k<c.sets.length))) rfl (okB (ltN _ _))<|rE 11<|bW<|aW rfl (λ h2=>?_) (λ h2=>?_)
  ·have h2p:=of_decide_eq_true h2;refine bB<|bW<|bK<|cSR ?_;obtain⟨s,hs⟩:∃ y_,c.sets[k]?=some y_:=⟨_,aA omT⟩;have hso:=hok.set s (aB hs);have hsl:s.length≤2:=by have:=hsw s (aB hs);omega
   refine rIx (bC s) (.dp 1 0 (bC s)) rfl rfl (iB hs) rfl<|oR 2 rfl<|rE 14<|cSR<|oR 1 rfl<|rW (vN s.length) rfl (bY wyL s)<|oR 1 rfl<|rE 17<|bK<|mL (κ:=Nat) (λ j=>⟨slotsF [(2,.ptr 1 0),(10,vB (!(fR c))),(13,.sl 1 (c.sets.map bC) false),(14,vN c.sets.length),(15,vN k),(16,vB (decide (k<c.sets.length))),(17,.dp 1 0 (bC s)),(18,.sl 3 (s.map wyL) false),(5,.sl 3 (s.map wyL) false),(19,.sl 3 (s.map wyL) false),(20,vN s.length),(21,vN j)],heapF [(0,.box [vI c.ways,.sl 1 (c.sets.map bC) false]),(1,.box [.v (.int .u32 0),vB false,.v (.string (⟨#[]⟩:ByteArray))])],17⟩) (λ j=>j≤s.length∧(s.take j).find? (·.dirty)=none) (λ j=>s.length - j) 0 (λ s=>s) (Weak.of_lists (λ s=>s) wT wH rfl) (⟨aE _,rfl⟩) ?_;intro j hj;have hjn:j≤s.length:=hj.1;have hjB:j≤1000000:=by omega
   refine cSR<|rW (vB (decide (j<s.length))) rfl (okB (ltN _ _))<|rE 18<|bW<|aW rfl (λ h3=>?_) (λ h3=>?_)
   ·have h3p:=of_decide_eq_true h3;refine bB<|bW<|bK<|cSR ?_;obtain⟨x,hx⟩:∃ y_,s[j]?=some y_:=⟨_,aA omT⟩;have hxo:=hso.2 x (aB hx);refine rIx (wyL x) (.dp 3 0 (wyL x)) rfl rfl (iB hx) rfl<|oR 1 rfl<|rAl 20 rfl rfl<|rSt rfl<|rE 22<|cSR<|oR 2 rfl<|rE 24<|aW rfl (λ h4=>?_) (λ h4=>?_)
    ·refine cSR<|oR 1 rfl<|rSt rfl<|oR 1 rfl<|rE 27<|cO ?_;rw[show cM c=some x from by unfold cM;rw[if_pos hR];exact VG hs (PE hx h4 hj.2) hk.2];exact fT rfl rfl
    ·refine bB<|cRg ?_;have b1:j+1≤1000001:=aH hjB (aC 1);refine rW (vN (j+1)) rfl (okI (bV b1 rfl))<|oR 1 rfl<|rE 26 ?_;refine⟨j+1,λ s=>s,Weak.of_lists _ wT wH rfl,⟨by omega,PD hx h4 hj.2⟩,by show s.length - (j+1)<s.length - j;omega⟩
   ·have h3p:=aD h3;refine eE<|cRg ?_;have b2:k+1≤1000001:=aH hkB (aC 1);refine rW (vN (k+1)) rfl (okI (bV b2 rfl))<|oR 1 rfl<|rE 20 ?_;refine⟨k+1,λ s=>s,Weak.of_lists _ wT wH rfl,⟨by omega,VF hs (Sz omT hj.2) hk.2⟩,by show c.sets.length - (k+1)<c.sets.length - k;omega⟩
  ·have h2p:=aD h2;refine eE<|cSR<|rV (.agg [.v (.int .u32 0),vB false,.v (.string (⟨#[]⟩:ByteArray))]) rfl<|rSt rfl<|oR 1 rfl<|rE 14<|cO ?_;rw[show cM c=none from by unfold cM;rw[if_pos hR];have z:=hk.2;rwa [aL omT]at z];exact fT rfl rfl
end Go.Proofs.YtlhofpglndhfaaaGreatDoor
