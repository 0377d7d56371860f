/- Joined texts. -/
import Derived.Test.YtlhofpglndhfaaaGreatDoorS801
import Derived.Test.YtlhofpglndhfaaaGreatDoorS822
import Derived.Test.YtlhofpglndhfaaaGreatDoorS824
import Derived.Test.YtlhofpglndhfaaaGreatDoorS828
import Derived.Test.YtlhofpglndhfaaaGreatDoorS829
set_option linter.unusedVariables false
set_option linter.unusedSimpArgs false
namespace Go.Proofs.YtlhofpglndhfaaaGreatDoor
set_option maxRecDepth 100000
set_option maxHeartbeats 4000000
open Go.RowKit
theorem MT(l:List Nat)(k:Nat):(l.take k).sum≤l.sum:=by
 have:=congrArg List.sum (gF k l);rw[List.sum_append]at this;omega
noncomputable def CIR:Ctx:={P:=Tryz.prog,ty:=tys.find,G:=λ _=>none,H:=qF Tryz.prog (λ _=>none)}
theorem cirOk:CtxOk CIR:=⟨TT.find_ok tys YB,by kernel_rfl,λ _ _ _ _ _ h=>h⟩
def Xy(p:Nat×Nat):List AV:=[vN p.1,vN p.2]
def Zo(f:Nat):Nat:=if 2≤f∧f≤7 then 2 else 0
theorem WL(op:Int):bV CIR 190 [vI op] (vN (cU op)):=.of_flat Tryz.func190 rfl rfl rfl rfl λ w=>(BH op w).mono λ _ _ ⟨a,b⟩=>⟨a,b ▸ rD _⟩
theorem YF(f:Nat)(hf:f≤8):bV CIR 193 [vN f] (.tup [vB (uG f),vB (pJ f),vB (qH f)]):=.of_tup Tryz.func193 rfl rfl rfl rfl λ w=>(KU f hf w).mono λ _ _ ⟨a,b⟩=>⟨a,b ▸ rD _⟩
theorem DK(x a n:Nat)(h1:1≤n)(h2:a+n≤32)(hx:x<4294967296):bV CIR 215 [vU x,vN a,vN n] (vU (field x a n)):=.of_flat Tryz.func215 rfl rfl rfl rfl λ w=>Pk x a n w h1 h2 hx
theorem YG(x a n v:Nat)(h1:1≤n)(h2:a+n≤32)(hx:x<4294967296)(hv:v<4294967296):bV CIR 194 [vU x,vN a,vN n,vU v] (vU (setf x a n v)):=.of_flat Tryz.func194 rfl rfl rfl rfl λ w=>Pl x a n v w h1 h2 hx hv
theorem WM(x n:Nat)(h1:1≤n)(h2:n≤32)(hx:x<4294967296):bV CIR 197 [vU x,vN n] (vU (sext x n)):=.of_flat Tryz.func197 rfl rfl rfl rfl λ w=>Hp x n w h1 h2 hx
theorem TE:bV CIR 197 [vU 0,vN 0] (vU 0):=.of_flat Tryz.func197 rfl rfl rfl rfl λ w=>Pg w
theorem YH(f:Nat)(hf:f≤8):bV CIR 191 [vN f] (.tup [.sl (Zo f) ((eE f).map Xy) true,vN (nZ f)]):=by
 refine bV.intro cirOk Tryz.func191 rfl rfl (by kernel_rfl) rfl<|cSR<|oR 2 rfl<|rE 2<|bI<|cSR<|oR 1 rfl<|rE 3<|bE<|cSR<|rW (vB (f==2)) rfl (okB (eqN _ _))<|oR 1 rfl<|rE 5 ?_;refine aQ rfl (λ h1=>?_) (λ h1=>?_)
 ·refine cSR<|rV (.agg [vI 20,vI 12]) rfl<|rV (.sl 2 ([[vI 20,vI 12]]) true) rfl<|oR 2 rfl<|rE 9<|cM ?_;obtain rfl:f=2:=by have z:=h1;simp at z;omega
  exact eW rfl rcT rfl rfl
 ·refine cSR<|rW (vB (f==3)) rfl (okB (eqN _ _))<|oR 1 rfl<|rE 7 ?_;refine aQ rfl (λ h2=>?_) (λ h2=>?_)
  ·refine cSR<|rV (.agg [vI 20,vI 5]) rfl<|rV (.sl 2 ([[vI 20,vI 5]]) true) rfl<|oR 2 rfl<|rE 11<|cM ?_;obtain rfl:f=3:=by have z:=h2;simp at z;omega
   exact eW rfl rcT rfl rfl
  ·refine cSR<|rW (vB (f==4)) rfl (okB (eqN _ _))<|oR 1 rfl<|rE 9 ?_;refine aQ rfl (λ h3=>?_) (λ h3=>?_)
   ·refine cSR<|rV (.agg [vI 7,vI 5]) rfl<|rV (.agg [vI 25,vI 7]) rfl<|rV (.sl 2 ([[vI 7,vI 5],[vI 25,vI 7]]) true) rfl<|oR 2 rfl<|rE 14<|cM ?_;obtain rfl:f=4:=by have z:=h3;simp at z;omega
    exact eW rfl rcT rfl rfl
   ·refine cSR<|rW (vB (f==5)) rfl (okB (eqN _ _))<|oR 1 rfl<|rE 11 ?_;refine aQ rfl (λ h4=>?_) (λ h4=>?_)
    ·refine cSR<|rV (.agg [vI 8,vI 4]) rfl<|rV (.agg [vI 25,vI 6]) rfl<|rV (.agg [vI 7,vI 1]) rfl<|rV (.agg [vI 31,vI 1]) rfl<|rV (.sl 2 ([[vI 8,vI 4],[vI 25,vI 6],[vI 7,vI 1],[vI 31,vI 1]]) true) rfl<|oR 2 rfl<|rE 18<|cM ?_;obtain rfl:f=5:=by have z:=h4;simp at z;omega
     exact eW rfl rcT rfl rfl
    ·refine cSR<|rW (vB (f==6)) rfl (okB (eqN _ _))<|oR 1 rfl<|rE 13 ?_;refine aQ rfl (λ h5=>?_) (λ h5=>?_)
     ·refine cSR<|rV (.agg [vI 12,vI 20]) rfl<|rV (.sl 2 ([[vI 12,vI 20]]) true) rfl<|oR 2 rfl<|rE 17<|cM ?_;obtain rfl:f=6:=by have z:=h5;simp at z;omega
      exact eW rfl rcT rfl rfl
     ·refine cSR<|rW (vB (f==7)) rfl (okB (eqN _ _))<|oR 1 rfl<|rE 15 ?_;refine aQ rfl (λ h6=>?_) (λ h6=>?_)
      ·refine cSR<|rV (.agg [vI 21,vI 10]) rfl<|rV (.agg [vI 20,vI 1]) rfl<|rV (.agg [vI 12,vI 8]) rfl<|rV (.agg [vI 31,vI 1]) rfl<|rV (.sl 2 ([[vI 21,vI 10],[vI 20,vI 1],[vI 12,vI 8],[vI 31,vI 1]]) true) rfl<|oR 2 rfl<|rE 22<|cM ?_;obtain rfl:f=7:=by have z:=h6;simp at z;omega
       exact eW rfl rcT rfl rfl
      ·refine aY<|cSR<|oR 2 rfl<|rE 17<|cM ?_;have hz:f=0∨f=1∨f=8:=by simp at h1 h2 h3 h4 h5 h6;omega
       rcases hz with rfl|rfl|rfl<;>exact eW rfl rcT rfl rfl
theorem YI(x rs:Nat)(ps:List (Nat×Nat))(ck:Bool)(hx:x<4294967296)(hrs:ps≠[]→rs=2)(hok:KT ps)(hl:ps.length≤100):bV CIR 216 [vU x,.sl rs (ps.map Xy) ck] (.tup [vU (nY x ps).1,vN (nY x ps).2]):=by
 refine bV.intro cirOk Tryz.func216 rfl rfl (by kernel_rfl) rfl<|cSR<|oR 2 rfl<|rE 2<|cSR<|oR 2 rfl<|rE 4<|bI<|cSR<|oR 1 rfl<|rW (vN ps.length) rfl (bJ Xy ps)<|oR 1 rfl<|rE 7 ?_;refine bE<|jG (κ:=Nat) (λ k=>⟨slotsF [(0,vU x),(10,.sl rs (ps.map Xy) ck),(11,vN ps.length),(12,vN k),(6,vU (((ps.take k).foldl (vJ x) (0,0)).1)),(7,vN (((ps.take k).foldl (vJ x) (0,0)).2))],heapF [],7⟩) (λ k=>k≤ps.length) (λ k=>ps.length - k) 0 (λ s=>s) (Weak.of_lists (λ s=>s) wT trivial rfl) (aE _) ?_;intro k hk;have hkB:k≤100:=by omega
 have hsk:uF (ps.take k)≤32:=aN (by unfold uF;rw[fZ];exact MT _ _) hok.2;have hi:=Cx x (ps.take k) (0,0) (by show 0<4294967296;omega) (λ p hp=>hok.1 p (cS hp)) omT;have hu:((ps.take k).foldl (vJ x) (0,0)).1≤4294967295:=by omega
 have hv2:((ps.take k).foldl (vJ x) (0,0)).2=uF (ps.take k):=hi.2.trans (bO _);have hv:((ps.take k).foldl (vJ x) (0,0)).2≤32:=by omega
 refine cSR<|rW (vB (decide (k<ps.length))) rfl (okB (ltN _ _))<|rE 8<|bI ?_;refine aQ rfl (λ h1=>?_) (λ h1=>?_)
 ·refine aY<|bI<|bE<|cSR ?_;obtain⟨p,hp⟩:∃ p,ps[k]?=some p:=⟨_,aA (of_decide_eq_true h1)⟩;obtain rfl:=hrs (λ z=>by subst z;cases hp);obtain⟨p1,p2⟩:=hok.1 p (aB hp);have hp1:p.1≤32:=by omega
  have hp2:p.2≤32:=by omega
  have hsz:uF (ps.take (k+1))≤32:=aN (by unfold uF;rw[fZ];exact MT _ _) hok.2;have hs2:uF (ps.take (k+1))=uF (ps.take k)+p.2:=by rw[bS,hp];simp[uF]
  have hfl:field x p.1 p.2<4294967296:=Nat.lt_of_lt_of_le (BI _ _ _) (wF omT);refine rIx (Xy p) (.dp 2 0 (Xy p)) rfl rfl (fM hp) rfl<|oR 1 rfl<|rAl 10 rfl rfl<|rSt rfl<|rE 12<|cSR<|oR 9 rfl<|rCi rfl (DK x p.1 p.2 p1 p2 hx)<|rCi rfl (YG ((ps.take k).foldl (vJ x) (0,0)).1 ((ps.take k).foldl (vJ x) (0,0)).2 p.2 (field x p.1 p.2) p1 omT omT hfl)<|oR 1 rfl<|rE 24<|cRg<|oR 3 rfl ?_;have b1:(((ps.take k).foldl (vJ x) (0,0)).2)+p.2≤64:=aF hv hp2;refine rW (vN ((((ps.take k).foldl (vJ x) (0,0)).2)+p.2)) rfl (okI (bL b1 rfl))<|oR 1 rfl<|rE 29<|cRg ?_;have b2:k+1≤101:=aF hkB (aC 1);refine rW (vN (k+1)) rfl (okI (bL b2 rfl))<|oR 1 rfl<|rE 31 ?_;refine⟨k+1,λ s=>s,Weak.of_lists (λ s=>s) ⟨⟨rfl,rfl⟩,⟨rfl,rfl⟩,⟨rfl,rfl⟩,⟨rfl,rfl⟩,⟨(congrArg (λ z:Nat×Nat=>AV.v (.int .u32 (z.1:Int))) (Eh (vJ x) (0,0) ps k p hp).symm),rfl⟩,⟨(congrArg (λ z:Nat×Nat=>AV.v (.int .i64 (z.2:Int))) (Eh (vJ x) (0,0) ps k p hp).symm),rfl⟩,trivial⟩ trivial rfl,of_decide_eq_true h1,by have:=of_decide_eq_true h1;show ps.length - (k+1)<ps.length - k;omega⟩
 ·refine dR<|cSR<|oR 4 rfl<|rE 12<|cM ?_;have hke:=aD h1;exact eW rfl rcT rfl (by rw[aI (show ps.length≤k by omega)];rfl)
theorem aaK{x c:Nat}(h:c≤32):IntKind.wrap .u32 ((x:Int) * 2 ^ (min (Int.toNat (c:Int)) (IntKind.bits .u32)))=((x * 2 ^ c % 4294967296:Nat):Int):=by
 rw[Int.toNat_natCast,show min c (IntKind.bits .u32)=c from pF h];show ((x:Int) * 2 ^ c) % 4294967296=_;have e:((x * 2 ^ c % 4294967296:Nat):Int)=((x * 2 ^ c:Nat):Int) % ((4294967296:Nat):Int):=Int.natCast_emod _ _;rw[e,Int.natCast_mul,Int.natCast_pow];rfl
theorem YJ(f:Nat):nZ f≤12:=by unfold nZ;split<;>decide
theorem TF(f x:Nat)(hf1:1≤f)(hf:f≤8)(h3:(f != 3)=true):bV CIR 197 [vU ((nY x (eE f)).1 * 2 ^ nZ f % 4294967296),vN ((nY x (eE f)).2+nZ f)] (vU (AX f x)):=by
 have h3:f≠3:=by simpa using h3
 rw[(AY x f).1];unfold AX;rw[if_neg h3];by_cases h:f=1∨f=8
 ·rw[if_pos h];rcases h with rfl|rfl<;>exact TE
 ·rw[if_neg h];have hs:1≤uF (eE f)+nZ f∧uF (eE f)+nZ f≤32:=by
   have:f=2∨f=4∨f=5∨f=6∨f=7:=by omega
   rcases this with rfl|rfl|rfl|rfl|rfl<;>decide
  exact WM _ _ hs.1 hs.2 omT
theorem WN(op:Int)(x f:Nat)(hfo:cU op=f)(hf1:1≤f)(hf:f≤8)(hx:x<4294967296):bV CIR 195 [vI op,vU x] (.agg [vI op,vN (cond (uG f) (field x 7 5) 0),vN (cond (pJ f) (field x 15 5) 0),vN (cond (qH f) (field x 20 5) 0),vU (AX f x)]):=by
 refine bV.intro cirOk Tryz.func195 rfl rfl (by kernel_rfl) rfl ?_;have hfrd:field x 7 5≤31:=aT (BI x 7 5);have hfrs1:field x 15 5≤31:=aT (BI x 15 5);have hfrs2:field x 20 5≤31:=aT (BI x 20 5);have hV:=aT (AY x f).2;have hZ:(nY x (eE f)).2≤32:=by rw[(AY x f).1];exact (uT f).2
 have hpl:(eE f).length≤100:=by unfold eE;split<;>decide
 have hne:eE f≠[]→Zo f=2:=by unfold eE Zo;intro h;split at h<;>first|rfl|exact absurd rfl h
 refine cSR<|rAl 0 rfl rfl<|rE 1<|cSR<|oR 1 rfl<|rCi rfl (hfo ▸ WL op)<|oR 1 rfl<|rE 4<|cSR<|oR 1 rfl<|rV (.agg [vI op,vI 0,vI 0,vI 0,.v (.int .u32 0)]) rfl<|rAl 6 rfl rfl<|rSt rfl ?_;refine rE 8<|cSR<|oR 1 rfl<|rCi rfl (YF f hf)<|oR 7 rfl<|rE 17 ?_;refine CG (κ:=Unit) (λ u_=>⟨slotsF [(1,vU x),(4,.ptr 0 0),(5,vN f),(6,.ptr 6 0),(8,vB (pJ f)),(9,vB (qH f))],heapF [(0,.box [vI 0,vI 0,vI 0,vI 0,.v (.int .u32 0)]),(6,.box [vI op,vN (cond (uG f) (field x 7 5) 0),vI 0,vI 0,.v (.int .u32 0)])],17⟩) (λ u_=>True) ?_ ?_
 ·refine cSR<|oR 1 rfl<|rE 18 ?_;refine aQ rfl (λ h1=>?_) (λ h1=>?_)
  ·refine cRg<|oR 1 rfl<|rCi rfl (DK x 7 5 (by decide) (by decide) hx)<|rW (vN (field x 7 5)) rfl (okI (bL hfrd rfl))<|oR 1 rfl<|rSt rfl<|rE 23 ?_;refine .mk _ (.refl _) ⟨(),λ s=>s,Weak.of_lists (λ s=>s) wT ⟨⟨rfl,rfl,rfl⟩,⟨rfl,(by rw[h1];rfl),rfl⟩,trivial⟩ rfl,rfl,trivial⟩
  ·refine aY ?_;refine .mk _ (.refl _) ⟨(),λ s=>s,Weak.of_lists (λ s=>s) wT ⟨⟨rfl,rfl,rfl⟩,⟨rfl,(by rw[h1];rfl),rfl⟩,trivial⟩ rfl,rfl,trivial⟩
 ·intro u_ _;refine CG (κ:=Unit) (λ u_=>⟨slotsF [(1,vU x),(4,.ptr 0 0),(5,vN f),(6,.ptr 6 0),(9,vB (qH f))],heapF [(0,.box [vI 0,vI 0,vI 0,vI 0,.v (.int .u32 0)]),(6,.box [vI op,vN (cond (uG f) (field x 7 5) 0),vN (cond (pJ f) (field x 15 5) 0),vI 0,.v (.int .u32 0)])],17⟩) (λ u_=>True) ?_ ?_
  ·refine cSR<|oR 1 rfl<|rE 18 ?_;refine aQ rfl (λ h2=>?_) (λ h2=>?_)
   ·refine cRg<|oR 1 rfl<|rCi rfl (DK x 15 5 (by decide) (by decide) hx)<|rW (vN (field x 15 5)) rfl (okI (bL hfrs1 rfl))<|oR 1 rfl<|rSt rfl<|rE 23 ?_;refine .mk _ (.refl _) ⟨(),λ s=>s,Weak.of_lists (λ s=>s) wT ⟨⟨rfl,rfl,rfl⟩,⟨rfl,(by rw[h2];rfl),rfl⟩,trivial⟩ rfl,rfl,trivial⟩
   ·refine aY ?_;refine .mk _ (.refl _) ⟨(),λ s=>s,Weak.of_lists (λ s=>s) wT ⟨⟨rfl,rfl,rfl⟩,⟨rfl,(by rw[h2];rfl),rfl⟩,trivial⟩ rfl,rfl,trivial⟩
  ·intro u_ _;refine CG (κ:=Unit) (λ u_=>⟨slotsF [(1,vU x),(4,.ptr 0 0),(5,vN f),(6,.ptr 6 0)],heapF [(0,.box [vI 0,vI 0,vI 0,vI 0,.v (.int .u32 0)]),(6,.box [vI op,vN (cond (uG f) (field x 7 5) 0),vN (cond (pJ f) (field x 15 5) 0),vN (cond (qH f) (field x 20 5) 0),.v (.int .u32 0)])],17⟩) (λ u_=>True) ?_ ?_
   ·refine cSR<|oR 1 rfl<|rE 18 ?_;refine aQ rfl (λ h3=>?_) (λ h3=>?_)
    ·refine cRg<|oR 1 rfl<|rCi rfl (DK x 20 5 (by decide) (by decide) hx)<|rW (vN (field x 20 5)) rfl (okI (bL hfrs2 rfl))<|oR 1 rfl<|rSt rfl<|rE 23 ?_;refine .mk _ (.refl _) ⟨(),λ s=>s,Weak.of_lists (λ s=>s) wT ⟨⟨rfl,rfl,rfl⟩,⟨rfl,(by rw[h3];rfl),rfl⟩,trivial⟩ rfl,rfl,trivial⟩
    ·refine aY ?_;refine .mk _ (.refl _) ⟨(),λ s=>s,Weak.of_lists (λ s=>s) wT ⟨⟨rfl,rfl,rfl⟩,⟨rfl,(by rw[h3];rfl),rfl⟩,trivial⟩ rfl,rfl,trivial⟩
   ·intro u_ _;refine cSR<|oR 1 rfl<|rCi rfl (YH f hf)<|oR 5 rfl<|rE 24<|cSR<|oR 2 rfl<|rCi rfl (YI x (Zo f) (eE f) true hx hne (uT f) hpl)<|oR 5 rfl<|rE 32<|cSR<|oR 2 rfl<|nW (vU ((nY x (eE f)).1 * 2 ^ nZ f % 4294967296)) rfl (Ky (aaK (aN (YJ f) (by decide)))) (aG _) ?_;refine oR 1 rfl<|rSt rfl<|rE 37 ?_;refine CG (κ:=Unit) (λ u_=>⟨slotsF [(4,.ptr 0 0),(6,.ptr 6 0)],heapF [(0,.box [vI 0,vI 0,vI 0,vI 0,.v (.int .u32 0)]),(6,.box [vI op,vN (cond (uG f) (field x 7 5) 0),vN (cond (pJ f) (field x 15 5) 0),vN (cond (qH f) (field x 20 5) 0),vU (AX f x)])],37⟩) (λ u_=>True) ?_ ?_
    ·refine cSR<|oR 1 rfl<|rW (vB (f != 3)) rfl (okB (neN _ _))<|rE 39 ?_;refine aQ rfl (λ h4=>?_) (λ h4=>?_)
     ·refine cRg<|oR 4 rfl ?_;have b1:((nY x (eE f)).2)+(nZ f)≤44:=aF hZ (YJ f);refine rW (vN (((nY x (eE f)).2)+(nZ f))) rfl (okI (bL b1 rfl))<|rCi rfl (TF f x hf1 hf h4)<|oR 1 rfl<|rSt rfl<|rE 47 ?_;refine .mk _ (.refl _) ⟨(),λ s=>s,Weak.of_lists (λ s=>s) wT wH rfl,rfl,trivial⟩
     ·refine aY ?_;refine .mk _ (.refl _) ⟨(),λ s=>s,Weak.of_lists (λ s=>s) wT ⟨⟨rfl,rfl,rfl⟩,⟨rfl,(by rw[show f=3 by simpa using h4];rfl),rfl⟩,trivial⟩ rfl,rfl,trivial⟩
    ·intro u_ _;refine cSR<|oR 1 rfl<|rSt rfl<|rE 39<|cM ?_;exact eW rfl rcT rfl rfl
theorem CI:Pf:=λ op x w hop hx=>by
 have h2:cU op≠0:=by unfold cU;repeat' (split<;>try omega)
 have h:=bV.flat (WN op x (cU op) rfl (eY h2) (vK op) hx) (λ _ _ _ _ h=>by cases h) rfl rfl w;refine h.mono λ e w' ⟨he,hB⟩=>⟨he.trans ?_,hB⟩;show Ending.returned (.agg #[.int .i64 op,.int .i64 _,.int .i64 _,.int .i64 _,.int .u32 _])=_;unfold SI.val mF;cases uG (cU op)<;>cases pJ (cU op)<;>cases qH (cU op)<;>rfl
theorem Lt(x:Nat)(hx:x<4294967296):bV C0 169 [.v (.int .u32 (x:Int))] (.tup [siA (fP x),.v (.int .i64 ((decE x:Nat):Int))]):=
 .of_tupG Tryz.func169 rfl rfl rfl rfl λ S w hG=>NF CI x w (CE hG) hx
def isK(e:Ent)(k:Nat):Bool:=decide (kindOf e.i.op=k)
def tZ(e:Ent)(a b:Nat):Nat:=if wr e.i=0 then 0 else Qw e.i.op e.i.imm e.pc a b
def pD(e:Ent)(a b:Nat):Ent:=
 if e.is≠0∨kindOf e.i.op=3∨kindOf e.i.op=4 then e
 else if kindOf e.i.op=1 then {e with is:=1,value:=tZ e a b,next:=up4 e.pc,left:=3}
 else if kindOf e.i.op=2 then {e with is:=1,value:=tZ e a b,next:=up4 e.pc,took:=zH e.i.op a b,left:=zH e.i.op a b}
 else if kindOf e.i.op=5 then
  if xA e.i.op e.i.imm e.pc a b % 4=0 then {e with is:=1,value:=tZ e a b,next:=xA e.i.op e.i.imm e.pc a b,left:=1}
  else {e with is:=1,value:=0,next:=up4 e.pc,left:=1,halt:=3}
 else {e with is:=1,value:=tZ e a b,next:=up4 e.pc,left:=1}
def goE(e:Ent):Ent:=
 if e.is≠1 then e
 else if wrap64 (e.left - 1)≤0 then {e with left:=0,is:=3,known:=if kindOf e.i.op=5∧e.halt=0 then true else e.known}
 else {e with left:=wrap64 (e.left - 1)}
def qY(e:Ent)(size:Int)(a:Nat):Ent:=
 if (kindOf e.i.op≠3∧kindOf e.i.op≠4)∨e.is≠0∨e.known=true then e
 else if nX size ((a+e.i.imm) % 4294967296) (dE e.i.op)=true then {e with addr:=(a+e.i.imm) % 4294967296,known:=true}
 else {e with addr:=(a+e.i.imm) % 4294967296,halt:=if kindOf e.i.op=4 then 5 else 4,is:=3}
def sJ(e:Ent)(s:ByteArray):Ent:=
 if kindOf e.i.op≠3∨e.known=false∨(e.is≠0∧e.is≠2)then e
 else {e with is:=1,left:=1,value:=if wr e.i=0 then 0 else loadP e.i.op s}
def qS(e:Ent)(b:Nat):Ent:=
 if kindOf e.i.op≠4∨e.known=false∨e.is≠0 then e else {e with is:=3,value:=valB b (dE e.i.op)}
def bH(e:Ent):Sp:=
 if e.halt≠0 then ⟨e.pc,e.pc,0,0,if e.halt=4∨e.halt=5 then e.addr else 0,0,false,e.halt,0⟩
 else if kindOf e.i.op=4 then ⟨e.pc,up4 e.pc,wr e.i,e.value,e.addr,(dE e.i.op:Nat),true,0,0⟩
 else if kindOf e.i.op=3 then ⟨e.pc,up4 e.pc,wr e.i,if wr e.i≠0 then e.value else 0,e.addr,(dE e.i.op:Nat),false,0,0⟩
 else if kindOf e.i.op=2 then ⟨e.pc,up4 e.pc,wr e.i,if wr e.i≠0 then e.value else 0,0,0,false,0,e.took⟩
 else if kindOf e.i.op=5 then ⟨e.pc,e.next,wr e.i,if wr e.i≠0 then e.value else 0,0,0,false,0,0⟩
 else ⟨e.pc,up4 e.pc,wr e.i,if wr e.i≠0 then e.value else 0,0,0,false,0,0⟩
def Do(o:Option Nat):Int:=match o with|some k=>k|none=> -1
def MB(e:Ent):Bool:=decide (kindOf e.i.op=5)&&e.known&&decide (e.next≠e.guess)
def xN(rob:List Ent):Option Nat:=rob.findIdx? MB
def BZ(rob:List Ent)(i:Nat):List Ent:=match rob[i]? with|some e=>rob.take i++[{e with guess:=e.next}]|none=>rob
def RR(i:SI):Bool:=decide (1≤i.op)&&decide (i.op≤48)&&decide ((mF i.op (wQ i)).op=i.op)&&decide ((mF i.op (wQ i)).rd=i.rd)&&decide ((mF i.op (wQ i)).rs1=i.rs1)&&decide ((mF i.op (wQ i)).rs2=i.rs2)&&decide ((mF i.op (wQ i)).imm=i.imm)
def tI(e:Ent):Bool:=
 if e.is<0∨e.is>3 then false
 else if (e.is=1∧e.left≤0)∨(e.is≠1∧e.left≠0)then false
 else if e.is=2∧(kindOf e.i.op≠3∨e.known=false)then false
 else if e.halt≠0∧e.is≠3∧ ¬ (e.is=1∧kindOf e.i.op=5∧e.halt=3)then false
 else if RR e.i=true then true else decide (e.halt=1)||decide (e.halt=2)
def Wo(rob:List Ent)(i:Nat):Int:=match rob[i]? with|some e=>e.no|none=>0
def EF(rob:List Ent)(i:Nat):Bool:=match rob[i]? with|some e=>(i==0||decide (Wo rob (i - 1)<e.no))&&tI e|none=>true
def Cb(rob:List Ent):Bool:=decide (rob.length≤8)&&(List.range rob.length).all (EF rob)
def qT(no:Int)(f:Ft)(prog:List Nat):Ent:=
 if (fetchP prog f.pc).isSome=false then {Cg with no:=no,pc:=f.pc,guess:=f.guess,halt:=1,is:=3}
 else if Fs (fetchW prog f.pc)=0 then {Cg with no:=no,pc:=f.pc,guess:=f.guess,halt:=2,is:=3}
 else if (fP (fetchW prog f.pc)).op=47 then {Cg with no:=no,pc:=f.pc,guess:=f.guess,i:=fP (fetchW prog f.pc),halt:=6,is:=3}
 else if (fP (fetchW prog f.pc)).op=48 then {Cg with no:=no,pc:=f.pc,guess:=f.guess,i:=fP (fetchW prog f.pc),halt:=7,is:=3}
 else {Cg with no:=no,pc:=f.pc,guess:=f.guess,i:=fP (fetchW prog f.pc)}
def Li(rob:List Ent)(reg:Int)(k:Nat):Bool:=match rob[k]? with|some e=>decide (wr e.i=reg)|none=>false
def Ad(rob:List Ent)(reg:Int):Nat→Option Nat
 |0=>none
 |n+1=>if Li rob reg n=true then some n else Ad rob reg n
def gZ(rob:List Ent)(i:Nat)(reg:Int):Option Nat:=if reg<1∨reg>31 then none else Ad rob reg (min i rob.length)
def lG(rob:List Ent)(r:Nat→Nat)(i:Nat)(reg:Int):Option Nat:=
 if reg=0 then some 0
 else if reg<0∨reg>31 then none
 else match gZ rob i reg with
  |none=>some (r reg.toNat)
  |some k=>match rob[k]? with
   |some e=>if e.is=3∧e.halt=0 then some e.value else none
   |none=>none
def lQ(rob:List Ent)(r:Nat→Nat)(i:Nat):Nat×Nat×Bool:=
 match rob[i]? with
 |some e=>((lG rob r i e.i.rs1).getD 0,(lG rob r i e.i.rs2).getD 0,(lG rob r i e.i.rs1).isSome&&(lG rob r i e.i.rs2).isSome)
 |none=>(0,0,false)
def Lj(e:Ent):Bool:=if e.halt≠0 then false else if kindOf e.i.op=6 then false else if kindOf e.i.op=3∨kindOf e.i.op=4∨kindOf e.i.op=5 then e.known else true
def Cc(rob:List Ent):Nat:=rob.findIdx λ e=> !Lj e
def uQ(rob:List Ent)(i:Nat):Bool:=decide (i≤rob.length)&&decide (i≤Cc rob)
def sY(roots:List Int)(k:Option Nat):Int:=match k with|some k=>roots.getD k (-1)|none=> -1
def De(rob:List Ent)(roots:List Int)(k:Nat):Int:=
 match rob[k]? with
 |some e=>if kindOf e.i.op≠3 then max (sY roots (gZ rob k e.i.rs1)) (sY roots (gZ rob k e.i.rs2))else if k>Cc rob then k else -1
 |none=> -1
def eV(rob:List Ent):Nat→List Int
 |0=>[]
 |k+1=>eV rob k++[De rob (eV rob k) k]
def zA(rob:List Ent):List Int:=eV rob rob.length
def HP(rob:List Ent)(i:Nat)(reg:Int):Bool:=match gZ rob i reg with|some k=>decide (0≤(zA rob).getD k (-1))|none=>false
def Df(e:Ent):Bool:=decide (kindOf e.i.op=3∨kindOf e.i.op=4∨kindOf e.i.op=2∨kindOf e.i.op=5)
def qJ(e:Ent):List Int:=if kindOf e.i.op=3∨kindOf e.i.op=4 then [e.i.rs1]else [e.i.rs1,e.i.rs2]
def OA(mode:Int)(rob:List Ent)(i:Nat):Bool:=
 match rob[i]? with
 |none=>false
 |some e=>if Df e=false then true
  else if mode=0 then true
  else if mode=1 then (qJ e).all λ reg=> !HP rob i reg
  else if mode=2 then uQ rob i
  else false
structure Std where
 addr:Nat
 size:Nat
 data:ByteArray
 there:Bool
def EG(e:Ent):Std:=⟨e.addr,dE e.i.op,sL e.value (dE e.i.op),decide (e.is=3)⟩
def CD(p:Pt):Std:=⟨p.addr,p.data.size,p.data,true⟩
def Fw(rob:List Ent)(stores:List Pt):List Std:=((rob.filter λ e=>isK e 4).map EG).reverse++(stores.map CD).reverse
def Fx(a n b m:Nat):Bool:=decide (0<n)&&decide (0<m)&&decide (a<b+m)&&decide (b<a+n)
def EH(a n b m:Nat):Bool:=decide (0<m)&&decide (a≤b)&&decide (b+m≤a+n)
def wZ(at_ n:Nat):List Std→Int×ByteArray
 |[]=>(2,mR)
 |s::l=>if Fx s.addr s.size at_ n=false then wZ at_ n l
  else if EH s.addr s.size at_ n=false∨s.there=false then (0,mR)
  else (1,s.data.extract (at_ - s.addr) (at_ - s.addr+n))
def Ae(e:Ent):Bool:=isK e 4&&(!e.known||decide (e.halt≠0))
def lH(rob:List Ent)(stores:List Pt)(i:Nat):Int×ByteArray:=
 match rob[i]? with
 |none=>(0,mR)
 |some e=>if kindOf e.i.op≠3 then (0,mR)
  else if (rob.take i).any Ae=true then (0,mR)
  else wZ e.addr (dE e.i.op) (Fw (rob.take i) stores)
def qU(r:Nat→Nat)(s:Sp):Nat→Nat:=if 1≤s.rd∧s.rd≤31∧s.halt=0 then Wx r s.rd.toNat s.value else r
def gG(s:Sp):Option Pt:=if s.store=false∨s.halt≠0∨(s.size≠1∧s.size≠2∧s.size≠4)then none else some ⟨s.addr,sL s.value s.size.toNat⟩
def iA(c:Ca)(q:List Req)(m:ByteArray)(line:Nat)(left:Int):Ca×List Req×Bool:=
 if fI c=false then (c,q,false)
 else if (bF c (lineOf line)).2.isSome=true then (oT c (lineOf line),q,false)
 else match pH c (lineOf line) (Fj (jQ q m) (lineOf line)) false with
  |(d,gone,went)=>if went=true∧gone.dirty=true∧gone.data.size≠0 then (d,zG q 4 gone.line left gone.data,true)else (d,q,false)
def nU(stores:List Pt)(c:Ca):List Pt×Ca×Bool:=
 match stores with
 |[]=>(stores,c,false)
 |p::l=>if (tL c p.addr p.data).2=true then (l,(tL c p.addr p.data).1,true)else (stores,c,false)
def iT(c:Co)(kind:Int)(line:Nat)(data:ByteArray):Co:={c with bus:=zG c.bus kind line (lJ c.conf c.asked) data,asked:=wrap64 (c.asked+1)}
def qV(c:Co)(first:Bool):Bool:=if first=true then decide ((nI c.bus:Int)<c.conf.slots)else decide ((nI c.bus:Int)<c.conf.slots - 1)
def eI(c:Co)(line:Nat):Co:=
 match iA c.data c.bus c.mem line (lJ c.conf c.asked)with
 |(d,q,asked)=>{c with data:=d,bus:=q,asked:=if asked=true then wrap64 (c.asked+1)else c.asked}
def Wp(c:Co):ByteArray:=Yy c.stores c.data c.bus c.mem
def oS(c:Co)(e:Ent):ByteArray:=if nX ((Wp c).size:Int) e.addr (dE e.i.op:Nat)=true then Wz (Wp c) e.addr (dE e.i.op)else mR
def uA(c:Co)(line:Nat)(e:Ent):Ent:=if e.is=2∧lineOf e.addr=line then sJ {e with filled:=true} (oS c e)else e
def Be(c:Co)(x:Req):Co:=
 if x.kind=1 then {c with rob:=c.rob.map (uA c x.line)}
 else if x.kind=2 then {c with words:=(pH c.words x.line mR false).1}
 else if x.kind=3 then eI c x.line
 else if x.kind=4 then {c with mem:=qO c.mem [⟨x.line,x.data⟩]}
 else c
def jL(c:Co):Co:=
 match eF c.bus with
 |(q,x,ok)=>if ok=true then Be {c with bus:=q} x else {c with bus:=q}
def storeAt(r:Nat→Nat)(rob:List Ent)(i:Nat):List Ent:=
 match rob[i]? with
 |some e=>if kindOf e.i.op=4 then (match lG rob r i e.i.rs2 with|some b=>rob.set i (qS e b)|none=>rob)else rob
 |none=>rob
def cK(r:Nat→Nat)(rob:List Ent):Nat→List Ent
 |0=>rob
 |k+1=>storeAt r (cK r rob k) k
def dD(c:Co):List Ent:=cK c.r (c.rob.map goE) c.rob.length
def iD(c:Co):Co:=
 if c.halt≠0 then c
 else match xN (dD c)with
  |some i=>{c with rob:=BZ (dD c) i,fetch:=(match (dD c)[i]? with|some e=>e.next|none=>0),fetched:=[],stop:=false}
  |none=>{c with rob:=dD c}
def tJ(c:Co)(s:Sp):Co:={c with retired:=c.retired++[s],halt:=s.halt,rob:=[],fetched:=[],stop:=true}
def uX(c:Co)(e:Ent)(s:Sp):Co:=if kindOf e.i.op=3 then eI c s.addr else c
def dP(c:Co)(s:Sp):Co:={c with retired:=c.retired++[s],stores:=(match gG s with|some p=>c.stores++[p]|none=>c.stores)}
def vQ(c:Co)(e:Ent)(s:Sp)(l:List Ent):Co:=
 {uX (dP c s) e s with r:=qU c.r s,guess:=gE c.guess s.pc s.next e.i,rob:=l}
def eB:Nat→Co→Co
 |0,c=>c
 | n+1,c=>
  if c.halt≠0 then c
  else match c.rob with
   |[]=>c
   |e::l=>
    if e.is≠3 then c
    else if (bH e).halt≠0 then tJ c (bH e)
    else if (bH e).store=true∧(c.stores.length:Int)≥c.conf.stores then c
    else eB n (vQ c e (bH e) l)
def dV(c:Co):Co:=eB c.conf.width.toNat c
def Cd(c:Co)(i:Nat):Bool:=
 match c.rob[i]? with
 |none=>false
 |some e=>
  if e.is≠0 then false
  else if kindOf e.i.op=3 then e.known||((lG c.rob c.r i e.i.rs1).isSome&&OA c.conf.mode c.rob i)
  else if kindOf e.i.op=4 then !e.known&&(lG c.rob c.r i e.i.rs1).isSome&&OA c.conf.mode c.rob i
  else (lQ c.rob c.r i).2.2&&OA c.conf.mode c.rob i
def JF(c:Co)(line:Nat):Bool:=(bF c.data line).2.isSome||c.rob.any λ e=>e.filled&&decide (lineOf e.addr=line)
def setE(c:Co)(i:Nat)(e:Ent):Co:={c with rob:=c.rob.set i e}
def kL(c:Co)(i:Nat):Co:=
 match c.rob[i]? with
 |none=>c
 |some e=>
  if e.known=false then c
  else if (lH c.rob c.stores i).1=1 then setE c i (sJ e (lH c.rob c.stores i).2)
  else if (lH c.rob c.stores i).1≠2 then c
  else if JF c (lineOf e.addr)=true then setE c i (sJ e (oS c e))
  else if DI c.bus (lineOf e.addr) 1=true then setE c i {e with is:=2}
  else if qV c (uQ c.rob i)=true∧DI c.bus (lineOf e.addr) 3=false then setE (iT c 1 (lineOf e.addr) mR) i {e with is:=2}
  else c
def fH(c:Co)(i:Nat):Co:=
 match c.rob[i]? with
 |none=>c
 |some e=>
  if kindOf e.i.op=4 then setE c i (qY e c.mem.size (lQ c.rob c.r i).1)
  else if kindOf e.i.op=3 then kL (setE c i (qY e c.mem.size (lQ c.rob c.r i).1)) i
  else setE c i (pD e (lQ c.rob c.r i).1 (lQ c.rob c.r i).2.1)
def Dp(e:Ent):Bool:=decide (kindOf e.i.op=2)&&decide (e.is=1)
def Af(c:Co):List Int:=c.rob.map λ e=>(kindOf e.i.op:Int)
def zB(c:Co):List Bool:=(List.range c.rob.length).map (Cd c)
def fF(c:Co):Co:=if c.halt≠0 then c else (pickOf c.conf.width (c.rob.any Dp) (Af c) (zB c)).foldl fH c
def jM:Nat→Co→Co
 |0,c=>c
 | n+1,c=>
  if (c.rob.length:Int)≥c.conf.rob then c
  else match c.fetched with
   |[]=>c
   |f::l=>jM n {c with rob:=c.rob++[qT c.next f c.prog],next:=wrap64 (c.next+1),fetched:=l}
def iP(c:Co):Co:=if c.halt≠0 then c else jM c.conf.width.toNat c
def cQ(c:Co)(w:Nat):Co×Nat:=
 if Fs w=0∨kindOf (fP w).op≠5 then (c,up4 c.fetch)
 else if c.conf.tables=true then (c,wO c.guess c.fetch (fP w))
 else ({c with guessed:=wrap64 (c.guessed+1)},xQ c.conf c.guessed c.fetch)
def Lk(c:Co)(n:Nat):Co:={c with fetched:=c.fetched++[⟨c.fetch,n⟩],fetch:=n}
def eG:Nat→Co→Co
 |0,c=>c
 | n+1,c=>
  if c.stop=true∨(c.fetched.length:Int)≥c.conf.queue then c
  else if (fetchP c.prog c.fetch).isSome=false then {c with fetched:=c.fetched++[⟨c.fetch,up4 c.fetch⟩],stop:=true}
  else if (bF c.words (lineOf c.fetch)).2.isSome=false then
   (if DI c.bus (lineOf c.fetch) 2=false∧qV c false=true then iT c 2 (lineOf c.fetch) mR else c)
  else
   eG n (Lk (cQ {c with words:=oT c.words (lineOf c.fetch)} (fetchW c.prog c.fetch)).1 (cQ {c with words:=oT c.words (lineOf c.fetch)} (fetchW c.prog c.fetch)).2)
def dY(c:Co):Co:=if c.halt≠0 then c else eG c.conf.width.toNat c
def aU(c:Co):Co:={c with stores:=(nU c.stores c.data).1,data:=(nU c.stores c.data).2.1}
def mV(c:Co):Co:=
 match c.stores with
 |[]=>c
 |p::_=>if DI c.bus (lineOf p.addr) 3=false∧qV c true=true then iT c 3 (lineOf p.addr) mR else c
def mI(c:Co):Co:=
 match cV c.data with
 |some w=>if w.data.size≠0 then {iT c 4 w.line w.data with data:=qN c.data w.line}else c
 |none=>c
def kJ(c:Co):Co:=if c.stores≠[]∨c.halt=0 then c else mI c
def pX(c:Co):Co:=
 match c.stores with
 |[]=>kJ (aU c)
 |_::_=>if (nU c.stores c.data).2.2=true then kJ (aU c)else kJ (mV (aU c))
def wL(c:Ca)(f:Cf):Bool:=fI c&&decide ((c.sets.length:Int)=f.sets)&&decide (c.ways=f.ways)
def gH(c:Co):Bool:=
 tK c.conf&&decide (c.prog.length≤64)&&(c.mem.toList==(lK c.mem).toList)&&Cb c.rob&&decide ((c.rob.length:Int)≤c.conf.rob)&&(c.rob.all λ e=>decide (e.no<c.next))&&wL c.data c.conf&&wL c.words c.conf&&sK c.guess&&decide ((c.fetched.length:Int)≤c.conf.queue)&&decide ((c.stores.length:Int)≤c.conf.stores)&&c.stores.all λ p=>nX c.mem.size p.addr p.data.size
def Qm(c:Co):Co:=pX (dY (iP (fF (dV (iD (jL {c with cycle:=wrap64 (c.cycle+1)}))))))
def lI(c:Co):Co:=if gH c=true then Qm c else c
def jN(c:Co):Nat→Co
 |0=>c
 |n+1=>lI (jN c n)
noncomputable def C1:Ctx:={C0 with lt:=true}
theorem c1Ok:CtxOk C1:=⟨c0Ok.1,c0Ok.2,c0Ok.3⟩
theorem dc1{f:FuncId}{args:List AV}{r:AV}(h:bV C1 f args r):bV C0 f args r:=h
theorem w64(x:Int):IntKind.wrap .i64 x=wrap64 x:=by rw[IntKind.wrap_i64];simp only[wrap64]
theorem cOr(c y:Bool):cJ c true y=(c||y):=by cases c<;>rfl
theorem qI(c x:Bool):cJ c x false=(c&&x):=by cases c<;>rfl
theorem sP{p q:Prop}(h:p)(t:p→q:=by intro h;(try simp only[w64,cOr,qI,dM,aK,dL,kG,qA,qD,ne_eq,aV,iC,aZ,lY,eP,Bool.not_eq_false,Bool.not_eq_eq_eq_not,mC,Bool.not_false,Decidable.not_not]at h);exact h):q:=t h
abbrev zCo:List AV:=[vI 0,vI 0,vI 0,vI 0,vI 0,vI 0,vI 0,vI 0,.sl 0 ([]) true,vB false,.sl 0 ([]) true,.sl 0 ([]) true,vI 0,zU,zU,zU,zU,zU,zU,zU,zU,zU,zU,zU,zU,zU,zU,zU,zU,zU,zU,zU,zU,zU,zU,zU,zU,zU,zU,zU,zU,zU,zU,zU,zU,zU,vB false,.sl 0 ([]) true,.sl 0 ([]) true,vI 0,.sl 0 ([]) true,vI 0,.sl 0 ([]) true,vI 0,.sl 0 ([]) true,.sl 0 ([]) true,vI 0,vI 0,.v (.string (⟨#[]⟩:ByteArray)),.sl 0 ([]) true,zU,.sl 0 ([]) true,vI 0,.sl 0 ([]) true]
theorem mO{α:Type}[BEq α][LawfulBEq α]{a b:α}(h:(a==b)=true):a=b:=eq_of_beq h
theorem mP{α:Type}[BEq α][LawfulBEq α]{a b:α}(h:(a==b)=false): ¬ a=b:=λ e=>by rw[e,iL]at h;cases h
theorem wX{α:Type}[BEq α][LawfulBEq α]{a b:α}(h:(a != b)=true): ¬ a=b:=λ e=>by rw[e]at h;simp at h
theorem wY{α:Type}[BEq α][LawfulBEq α]{a b:α}(h:(a != b)=false):a=b:=by simpa using h
theorem qM{α:Type}(f:α→List AV)(l:List α){n:Nat}(h:l.length=n):Res.ok (.v (.int .i64 ((l.map f).length:Int)))=.ok (.v (.int .i64 (n:Int))):=by rw[aH,h]
theorem Iz{α:Type}{l:List α}{k:Nat}{x:α}(h:l[k]?=some x):l[0+k]?=some x:=by rwa [bO]
theorem NT{p:Prop}{x:AV}{h:AH}{b rs:Nat}{r r':List (List AV)}(e:r=r'):Res.fx p x (upd h b (some (.arr r rs)))=.fx p x (upd h b (some (.arr r' rs))):=by rw[e]
theorem vP{α:Type}{f:α→List AV}{l:List α}{k:Nat}{x:α}{h:AH}{b rs:Nat}:some (upd h b (some (.arr ((l.map f).set (0+k) (f x)) rs)))=some (upd h b (some (.arr ((l.set k x).map f) rs))):=by rw[bO,List.map_set]
theorem uI{p:Prop}{rs:Nat}{r r':List (List AV)}{c:Bool}(e:r=r'):Res.need p (.sl rs r c)=.need p (.sl rs r' c):=by rw[e]
theorem Lh{p:Prop}{s lo lo' n n':Nat}{c:Bool}(e:lo=lo')(e':n=n'):Res.need p (.osl s lo n c)=.need p (.osl s lo' n' c):=by rw[e,e']
section
variable {α:Type}(f:α→List AV)
section
variable (l:List α)
theorem rL(H:Nat):List.drop 0 (List.take H (l.map f))=(l.take H).map f:=by rw[cB,fZ]
theorem JD(L:Nat):List.drop L (List.take (l.map f).length (l.map f))=(l.drop L).map f:=by rw[cX,mD]
theorem CB{p:Prop}{H:AH}{s rs m:Nat}{c:List (List AV)}(hl:c.length=m):Res.fx p (.osl s 0 c.length false) (upd H s (some (.arr c rs)))=.fx p (.osl s 0 m false) (upd H s (some (.arr c rs))):=by rw[hl]
theorem gV{p:Prop}{H:AH}{s rs n m:Nat}(B:List α)(h1:l.length=n)(h2:l.length+B.length=m):
  Res.fx p (.osl s 0 ((List.take n (List.drop 0 (l.map f))).length+(B.map f).length) false) (upd H s (some (.arr (List.take n (List.drop 0 (l.map f))++B.map f) rs)))=.fx p (.osl s 0 m false) (upd H s (some (.arr ((l++B).map f) rs))):=by
 rw[cB,aI (by rw[aH,h1];exact aC _),aH,aH,h2,eZ]
theorem Ab{p:Prop}{H:AH}{s rs m:Nat}(B:List α)(h2:l.length+B.length=m):
  Res.fx p (.osl s 0 ((l.map f).length+(B.map f).length) false) (upd H s (some (.arr (l.map f++B.map f) rs)))=.fx p (.osl s 0 m false) (upd H s (some (.arr ((l++B).map f) rs))):=by
 rw[aH,aH,h2,eZ]
theorem Tg{p:Prop}{H:AH}{s rs lo n m:Nat}(B:List α)(h2:((l.drop lo).take n).length+B.length=m):
  Res.fx p (.osl s 0 ((List.take n (List.drop lo (l.map f))).length+(B.map f).length) false) (upd H s (some (.arr (List.take n (List.drop lo (l.map f))++B.map f) rs)))=.fx p (.osl s 0 m false) (upd H s (some (.arr ((((l.drop lo).take n)++B).map f) rs))):=by
 rw[←h2,eZ,fZ,mD,aH];simp only[aL,aX,aH]
end
theorem DF{n:Nat}(X:List (List AV))(B:List α)(hB:B.length=n)(hX:X.length=n):X.take 0++(B.map f).take (min (B.map f).length n)++X.drop (0+min (B.map f).length n)=B.map f:=by
 rw[aH,hB,Nat.min_self,qB,iZ,cD (by omega),dX,aI (by rw[aH];omega)]
section
variable (l:List α)
theorem BV{lo n:Nat}{M:List α}(h:(l.drop lo).take n=M):List.take n (List.drop lo (l.map f))=M.map f:=by rw[←h,fZ,mD]
theorem kI{n:Nat}(h:l.length≤n):List.take n (List.drop 0 (l.map f))=l.map f:=by rw[cB,aI (by rw[aH];exact h)]
end
end
theorem HJ{α:Type}{f:α→List AV}{l:List α}{b rs lo n:Nat}{c:Bool}(h:lo+n≤l.length):LeZ (some (b,rs,l.map f)) (.osl b lo n c) (.sl rs (((l.drop lo).take n).map f) false):=by
 have:=LeZ.frz (fz:=some (b,rs,l.map f)) b rs lo n (l.map f) c false rfl (by rw[aH];exact h) (λ h=>by cases h);rw[fZ,mD];exact this
theorem lV{α:Type}{f:α→List AV}{l:List α}{b rs n:Nat}{c:Bool}(h:l.length=n):LeZ (some (b,rs,l.map f)) (.osl b 0 n c) (.sl rs (l.map f) false):=by
 have:=HJ (f:=f) (b:=b) (rs:=rs) (c:=c) (l:=l) (lo:=0) (n:=n) (by omega)
 rwa [cB,aI (by omega)]at this
theorem rfT{p:Prop}(h:p:=by repeat (first|exact trivial|refine⟨.refl _,?_⟩|refine⟨HJ (by exact omT),?_⟩|refine⟨lV (by exact omT),?_⟩)):p:=h
theorem pW{α:Type}{P:α→Prop}{l:List α}{n:Nat}(h:∀ x∈l,P x):∀ x∈l.take n,P x:=λ x hx=>h x (cS hx)
theorem HL{α:Type}{P:α→Prop}{l:List α}{n:Nat}(h:∀ x∈l,P x):∀ x∈l.drop n,P x:=λ x hx=>h x (eX hx)
theorem oP{α:Type}{P:α→Prop}{l m:List α}(h:∀ x∈l,P x)(h':∀ x∈m,P x):∀ x∈l++m,P x:=λ x hx=>(al_List_mem_append.1 hx).elim (h x) (h' x)
theorem oQ{α:Type}{P:α→Prop}{y:α}(h:P y):∀ x∈[y],P x:=λ x hx=>by rw[uD]at hx;rw[hx];exact h
theorem yN{α:Type}{P:α→Prop}{l:List α}{k:Nat}{y:α}(h:∀ x∈l,P x)(h':P y):∀ x∈l.set k y,P x:=λ x hx=>(List.mem_or_eq_of_mem_set hx).elim (h x) λ e=>e ▸ h'
theorem qF.frame0{P:Program}{G:Nat→Option (List AV)}{f:FuncId}{args:List AV}{rows:List (List AV)}{rs lo n:Nat}{cl:Bool}(H:qF P G f args (heapF []) 0 (λ x h'=>x=.osl 0 lo n cl∧h'=heapF [(0,.arr rows rs)]))(K:AH)(s2:Nat)(ha:eT args=true):
  qF P G f args K s2 (λ x h'=>x=.osl s2 lo n cl∧h'=upd K s2 (some (.arr rows rs))):=by
 have:=H.frame (λ x=>x) K s2 rfl (λ x hx=>absurd rfl hx) (λ x blk hx=>by cases hx) (λ x y hx=>absurd hx (eD _)) (kO 0 args ha) (λ x h'=>x=.osl s2 lo n cl∧h'=upd K s2 (some (.arr rows rs))) λ r h' hP=>?_
 ·rwa [oC _ args ha]at this
 ·obtain⟨rfl,rfl⟩:=hP;refine⟨_,⟨by simp[uM,vS],rfl⟩,λ y blk hy=>?_⟩;by_cases he:y=s2
  ·subst he;rw[dC]at hy;injection hy with hy;exact .inl ⟨0,.arr rows rs,rfl,(vS _ _ _).symm,by subst hy;rfl⟩
  ·rw[cG _ _ he]at hy;exact .inr ⟨hy,λ x hx=>absurd hx (eD _)⟩
theorem qF.frameO{P:Program}{G:Nat→Option (List AV)}{f:FuncId}{args:List AV}{rows rows2:List (List AV)}{rs rs2 n:Nat}(H:qF P G f args (heapF [(0,.arr rows rs)]) 1 (λ x h'=>x=.osl 1 0 n false∧h'=heapF [(0,.arr rows rs),(1,.arr rows2 rs2)]))(b:Nat)(K:AH)(s2:Nat)(hb:Nat.blt b s2=true)(hK:K b=some (.arr rows rs))(ha:mU 1 args=true):
  qF P G f (AG (λ _=>b) args) K s2 (λ x h'=>x=.osl s2 0 n false∧h'=upd K s2 (some (.arr rows2 rs2))):=by
 have hb:=aO hb;refine H.frame (λ _=>b) K s2 rfl (λ x hx=>?_) (λ x blk0 hx=>?_) (λ x y hx hy _=>by omega) ha _ λ r' h' hP=>?_
 ·cases x with
  |zero=>omega
  |succ x=>exact absurd rfl hx
 ·cases x with
  |zero=>injection hx with hx;subst hx;exact⟨hb,rfl,hK⟩
  |succ x=>cases hx
 ·obtain⟨rfl,rfl⟩:=hP;refine⟨_,⟨by simp[uM,vS],rfl⟩,λ y blk0 hy=>?_⟩;by_cases he:y=s2
  ·subst he;rw[dC]at hy;injection hy with hy;exact .inl ⟨1,.arr rows2 rs2,rfl,(vS _ _ _).symm,by subst hy;rfl⟩
  ·rw[cG _ _ he]at hy;by_cases hyb:y=b
   ·subst hyb;rw[hK]at hy;injection hy with hy;exact .inl ⟨0,.arr rows rs,rfl,rfl,by subst hy;rfl⟩
   ·exact .inr ⟨hy,λ x hx e=>hyb e.symm⟩
abbrev zF(b:Bool):List AV:=[.v (.bool b)]
structure Ent.ok(e:Ent):Prop where
 pc:e.pc≤4294967295
 imm:e.i.imm≤4294967295
 guess:e.guess≤4294967295
 value:e.value≤4294967295
 next:e.next≤4294967295
 addr:e.addr≤4294967295
structure Req.ok(x:Req):Prop where
 line:x.line≤4294967295
structure Pt.ok(x:Pt):Prop where
 addr:x.addr≤4294967295
structure Ft.ok(x:Ft):Prop where
 pc:x.pc≤4294967295
 guess:x.guess≤4294967295
structure Gs.ok(x:Gs):Prop where
 pc:x.pc≤4294967295
 next:x.next≤4294967295
structure Sp.ok(x:Sp):Prop where
 pc:x.pc≤4294967295
 next:x.next≤4294967295
 value:x.value≤4294967295
 addr:x.addr≤4294967295
theorem BW{a b B:Nat}(h:b≤a)(h2:a≤B)(hB:Nat.ble B 9223372036854775807=true):IntKind.wrap .i64 ((a:Int) - (b:Int))=((a - b:Nat):Int):=by
 have:=aO hB;rw[wrap_i64 (by omega) (by omega)];omega
theorem Yr(a b:Nat):Int.tmod (a:Int) (b:Int)=((a % b:Nat):Int):=qE a b |>.symm
theorem BX{a:Nat}(h:a≤4294967295):a<4294967296:=kM h
theorem pC{e e':Ent}(h:e=e'):AV.agg (enL e)=.agg (enL e'):=by rw[h]
theorem Dn{e e':Sp}(h:e=e'):AV.agg (spL e)=.agg (spL e'):=by rw[h]
theorem dH{b b':Bool}(h:b=b'):AV.v (.bool b)=.v (.bool b'):=by rw[h]
theorem MA{b b':Int}(h:b=b'):AV.v (.int .i64 b)=.v (.int .i64 b'):=by rw[h]
theorem Gp{b b':Nat}(h:b=b'):AV.v (.int .u32 (b:Int))=.v (.int .u32 (b':Int)):=by rw[h]
abbrev JE(r:Nat→Nat):List AV:=[.v (.int .u32 (r 0:Int)),.v (.int .u32 (r 1:Int)),.v (.int .u32 (r 2:Int)),.v (.int .u32 (r 3:Int)),.v (.int .u32 (r 4:Int)),.v (.int .u32 (r 5:Int)),.v (.int .u32 (r 6:Int)),.v (.int .u32 (r 7:Int)),.v (.int .u32 (r 8:Int)),.v (.int .u32 (r 9:Int)),.v (.int .u32 (r 10:Int)),.v (.int .u32 (r 11:Int)),.v (.int .u32 (r 12:Int)),.v (.int .u32 (r 13:Int)),.v (.int .u32 (r 14:Int)),.v (.int .u32 (r 15:Int)),.v (.int .u32 (r 16:Int)),.v (.int .u32 (r 17:Int)),.v (.int .u32 (r 18:Int)),.v (.int .u32 (r 19:Int)),.v (.int .u32 (r 20:Int)),.v (.int .u32 (r 21:Int)),.v (.int .u32 (r 22:Int)),.v (.int .u32 (r 23:Int)),.v (.int .u32 (r 24:Int)),.v (.int .u32 (r 25:Int)),.v (.int .u32 (r 26:Int)),.v (.int .u32 (r 27:Int)),.v (.int .u32 (r 28:Int)),.v (.int .u32 (r 29:Int)),.v (.int .u32 (r 30:Int)),.v (.int .u32 (r 31:Int))]
theorem ldL(r:Nat→Nat)(n:Nat)(hn:n<32):okO (LX (JE r) (0+n * 1))=.ok (.v (.int .u32 (r n:Int))):=by
 have:∀ (n:_root_.Fin 32),okO (LX (JE r) (0+n.1 * 1))=.ok (.v (.int .u32 (r n.1:Int))):=by
  intro n
  match n with
  |⟨0,_⟩=>rfl
  |⟨1,_⟩=>rfl
  |⟨2,_⟩=>rfl
  |⟨3,_⟩=>rfl
  |⟨4,_⟩=>rfl
  |⟨5,_⟩=>rfl
  |⟨6,_⟩=>rfl
  |⟨7,_⟩=>rfl
  |⟨8,_⟩=>rfl
  |⟨9,_⟩=>rfl
  |⟨10,_⟩=>rfl
  |⟨11,_⟩=>rfl
  |⟨12,_⟩=>rfl
  |⟨13,_⟩=>rfl
  |⟨14,_⟩=>rfl
  |⟨15,_⟩=>rfl
  |⟨16,_⟩=>rfl
  |⟨17,_⟩=>rfl
  |⟨18,_⟩=>rfl
  |⟨19,_⟩=>rfl
  |⟨20,_⟩=>rfl
  |⟨21,_⟩=>rfl
  |⟨22,_⟩=>rfl
  |⟨23,_⟩=>rfl
  |⟨24,_⟩=>rfl
  |⟨25,_⟩=>rfl
  |⟨26,_⟩=>rfl
  |⟨27,_⟩=>rfl
  |⟨28,_⟩=>rfl
  |⟨29,_⟩=>rfl
  |⟨30,_⟩=>rfl
  |⟨31,_⟩=>rfl
  |⟨k+32,h⟩=>exact absurd h (by omega)
 exact this ⟨n,hn⟩
theorem ZQ(r:Nat→Nat)(n v:Nat)(hn:n<32):zN (0+n * 1) [.v (.int .u32 (v:Int))] (JE r)=JE (Wx r n v):=by
 have:∀ (n:_root_.Fin 32),zN (0+n.1 * 1) [.v (.int .u32 (v:Int))] (JE r)=JE (Wx r n.1 v):=by
  intro n
  match n with
  |⟨0,_⟩=>rfl
  |⟨1,_⟩=>rfl
  |⟨2,_⟩=>rfl
  |⟨3,_⟩=>rfl
  |⟨4,_⟩=>rfl
  |⟨5,_⟩=>rfl
  |⟨6,_⟩=>rfl
  |⟨7,_⟩=>rfl
  |⟨8,_⟩=>rfl
  |⟨9,_⟩=>rfl
  |⟨10,_⟩=>rfl
  |⟨11,_⟩=>rfl
  |⟨12,_⟩=>rfl
  |⟨13,_⟩=>rfl
  |⟨14,_⟩=>rfl
  |⟨15,_⟩=>rfl
  |⟨16,_⟩=>rfl
  |⟨17,_⟩=>rfl
  |⟨18,_⟩=>rfl
  |⟨19,_⟩=>rfl
  |⟨20,_⟩=>rfl
  |⟨21,_⟩=>rfl
  |⟨22,_⟩=>rfl
  |⟨23,_⟩=>rfl
  |⟨24,_⟩=>rfl
  |⟨25,_⟩=>rfl
  |⟨26,_⟩=>rfl
  |⟨27,_⟩=>rfl
  |⟨28,_⟩=>rfl
  |⟨29,_⟩=>rfl
  |⟨30,_⟩=>rfl
  |⟨31,_⟩=>rfl
  |⟨k+32,h⟩=>exact absurd h (by omega)
 exact this ⟨n,hn⟩
theorem abL{ev:Operand→AV}{h:AH}{s b n v:Nat}{a x:Operand}{r:Nat→Nat}(ha:ev a=.ptr b (0+n * 1))(hb:h b=some (.box (JE r)))(hx:ev x=.v (.int .u32 (v:Int)))(hn:n<32):
  opA C0 ev h s (.store 26 a x)=.fx True .any (upd h b (some (.box (JE (Wx r n v))))):=by
 have hty:C0.ty 26=some aa6:=rfl;have hc:(0+n * 1+([.v (.int .u32 (v:Int))]:List AV).length).ble (JE r).length=true:=kA (by simp;omega);simp only[opA,hty,hx,kV,ha,hb];rw[show ([AV.v (Value.int IntKind.u32 (v:Int))].length.beq 1)=true from rfl];simp only;rw[hc];simp only;rw[ZQ _ _ _ hn]
theorem mB{α:Type}{l:List α}{k:Nat}(h:k<l.length):(eO l k).length=l.length:=by
 unfold eO;rw[aA h];simp;omega
theorem BT{α:Type}{l:List α}{k:Nat}{x:α}(h:l[k]?=some x):eO l k=[x]++l.take k++l.drop (k+1):=by unfold eO;rw[h]
theorem nG{α:Type}{P:α→Prop}{l:List α}{k:Nat}(h:∀ x∈l,P x):∀ x∈eO l k,P x:=by
 intro x hx;unfold eO at hx;rcases al_List_mem_append.1 hx with hx|hx
 ·rcases al_List_mem_append.1 hx with hx|hx
  ·split at hx
   ·rename_i y hy;simp at hx;subst hx;exact h _ (aB hy)
   ·simp at hx
  ·exact h _ (cS hx)
 ·exact h _ (eX hx)
theorem kH{c:Ca}(h:fI c=true):0<c.sets.length∧c.sets.length≤4∧c.ways≤2∧1≤c.ways∧∀ s∈c.sets,(s.length:Int)≤c.ways:=by
 obtain⟨⟨h1,h2⟩,h3⟩:=(jO c).1 h;refine⟨by omega,by omega,by omega,by omega,λ s hs=>?_⟩;obtain⟨k,hk,rfl⟩:=gC hs;exact ((jV c k _).1 (h3 k _ (aA hk))).1
theorem ED:∀ {l:List Wy} {line j:Nat},jW l line=some j→j<l.length
 |[],_,_,h=>by cases h
 | w::l,line,j,h=>by
  simp only[jW]at h;split at h
  ·injection h with h;subst h;simp
  ·obtain⟨i,hi,rfl⟩:=FH.1 h;have:=ED hi;simp;omega
theorem sI{c:Ca}{k:Nat}{s:List Wy}(h:c.sets[k]?=some s):pM c k=s:=by unfold pM;rw[h];rfl
theorem Aw{c:Ca}(h:0<c.sets.length)(line:Nat):yQ c line<c.sets.length:=bG _ h
theorem rK{c:Ca}{line:Nat}(h:fI c=true):bF c line=(yQ c (lineOf line),jW (pM c (yQ c (lineOf line))) (lineOf line)):=if_pos h
theorem oO{c:Ca}{line:Nat}(h:(bF c line).2.isSome=true):fI c=true∧(bF c line).1=yQ c (lineOf line)∧(bF c line).1<c.sets.length∧(bF c line).2.getD 0<(pM c (bF c line).1).length:=by
 by_cases hr:fI c=true
 ·rw[rK hr]at h⊢;obtain⟨j,hj⟩:=Fh.1 h;have hj':jW (pM c (yQ c (lineOf line))) (lineOf line)=some j:=hj;refine⟨hr,rfl,Aw (kH hr).1 _,?_⟩;show (jW (pM c (yQ c (lineOf line))) (lineOf line)).getD 0<_;rw[hj'];exact ED hj'
 ·unfold bF at h;rw[if_neg hr]at h;cases h
theorem Da{c:Ca}{line:Nat}(h:(bF c line).2.isSome=true):oT c line=nV c (bF c line).1 (eO (pM c (bF c line).1) ((bF c line).2.getD 0)):=by
 unfold oT;obtain⟨j,hj⟩:=Fh.1 h;have e:bF c line=((bF c line).1,some j):=by rw[←hj]
 rw[e];rfl
theorem Db{c:Ca}{line:Nat}(h:(bF c line).2.isSome=false):oT c line=c:=by
 unfold oT;have hj:(bF c line).2=none:=by simpa using h
 have e:bF c line=((bF c line).1,none):=by rw[←hj]
 rw[e]
theorem ZP(a b:Int):max a b=if b>a then b else a:=by omega
theorem Mx(q:List Req)(kind:Int)(line:Nat)(left:Int)(data:ByteArray)(ck:Bool)(hq:q.length≤900000)(ho:∀ x∈q,x.ok)(hline:line≤4294967295):bV C0 171 [.sl 4 (q.map rqL) ck,vI kind,vU line,vI left,.v (.string data)] (.sl 4 ((zG q kind line left data).map rqL) false):=by
 refine bV.intro c0Ok Tryz.func171 rfl rfl (by kernel_rfl) rfl<|cSR<|oR 1 rfl<|rE 1<|cSR<|oR 1 rfl<|rW (vN q.length) rfl (bJ rqL q) ?_;have b1:q.length+1≤900001:=aF hq (aC 1);refine rW (vN (q.length+1)) rfl (okI (bL b1 rfl))<|rFx (x:=.osl 4 0 0 false) (h':=upd _ 4 (some (.arr (([]:List Req).map rqL) 4))) rfl rfl (rfl) (⟨by decide,Fg.2 omT,by show (((q.length+1):Nat):Int)≤1000000;omega⟩)<|oR 1 rfl<|rE 6<|cSR<|oR 2 rfl<|rFx (x:=.osl 8 0 q.length false) (h':=upd (upd _ 4 none) 8 (some (.arr (q.map rqL) 4))) rfl rfl (gV rqL ([]:List Req) q omT omT) (⟨by exact omT,by exact omT,trivial⟩)<|oR 1 rfl<|rE 10<|cSR<|oR 4 rfl<|rV (vI (if 1>left then 1 else left)) rfl<|oR 1 rfl<|rV (.agg [vI kind,vU line,vI (if 1>left then 1 else left),.v (.string data)]) rfl ?_;refine rV (.sl 4 ([[vI kind,vU line,vI (if 1>left then 1 else left),.v (.string data)]]) true) rfl<|rFx (x:=.osl 18 0 (q.length+1) false) (h':=upd (upd _ 8 none) 18 (some (.arr ((q++([(⟨kind,line,if 1>left then 1 else left,data⟩:Req)])).map rqL) 4))) rfl rfl (gV rqL q ([(⟨kind,line,if 1>left then 1 else left,data⟩:Req)]) omT omT) (⟨by exact omT,by exact omT,trivial⟩)<|oR 1 rfl<|rE 20<|cM<|eW rfl (by show 0+(q.length+1)≤((q++([(⟨kind,line,if 1>left then 1 else left,data⟩:Req)])).map rqL).length;exact omT) rfl ?_;show AV.sl 4 (List.take (q.length+1) (List.drop 0 ((q++([(⟨kind,line,if 1>left then 1 else left,data⟩:Req)])).map rqL))) false=_;rw[kI rqL (q++([(⟨kind,line,if 1>left then 1 else left,data⟩:Req)])) omT];rw[show zG q kind line left data=q++([(⟨kind,line,if 1>left then 1 else left,data⟩:Req)])from by unfold zG;congr 3;exact ZP left 1]
abbrev tkA(t:List Req×Req×Bool):AV:=.tup [.sl 4 (t.1.map rqL) false,.agg (rqL t.2.1),vB t.2.2]
theorem UP(q:List Req)(ck:Bool)(hq:q.length≤900000)(ho:∀ x∈q,x.ok):bV C0 91 [.sl 4 (q.map rqL) ck] (tkA (eF q)):=by
 refine dc1 (bV.intro c1Ok Tryz.func91 rfl rfl (by kernel_rfl) rfl ?_);refine cSR<|oR 1 rfl<|rAl 1 rfl rfl<|oR 1 rfl<|rE 3<|bI<|cSR<|oR 1 rfl<|rW (vN q.length) rfl (bJ rqL q)<|rW (vB (q.length==0)) rfl (okB (eqN _ _))<|rE 6 ?_;refine aQ rfl (λ h1=>?_) (λ h1=>?_)
 ·have h1p:=mO h1;refine cSR<|oR 1 rfl<|rV (.agg [vI 0,.v (.int .u32 0),vI 0,.v (.string (⟨#[]⟩:ByteArray))]) rfl<|oR 1 rfl<|rSt rfl<|oR 1 rfl<|rE 11<|cM ?_;have q0:q=[]:=bB h1p;subst q0;exact⟨_,rfl,trivial,rfl,Sub.tup ⟨Sub.clip 4 _ ck,Sub.refl _,Sub.refl _,trivial⟩⟩
 ·have h1p:=mP h1;refine aY<|cSR<|oR 1 rfl<|rW (vN q.length) rfl (bJ rqL q)<|rFx (x:=.osl 8 0 q.length false) (h':=upd _ 8 (some (.arr ((List.replicate q.length NY).map rqL) 4))) rfl rfl (NT (eK (f:=rqL) (a:=NY)).symm) (⟨aG _,Fg.2 omT,by show ((q.length:Nat):Int)≤1000000;omega⟩)<|oR 1 rfl<|rE 10<|cSR<|oR 2 rfl<|rFx (x:=vI ((min ((q.map rqL).length) (q.length):Nat):Int)) (h':=upd _ 8 (some (.arr (q.map rqL) 4))) rfl rfl (Ia (DF rqL ((List.replicate q.length NY).map rqL) q omT omT)) (⟨by exact omT,trivial⟩)<|rE 13<|cSR<|oR 1 rfl ?_;refine nW (.ptr2 8 (0+0) 0) rfl rfl (⟨by decide,Ff.2 (by show 0<q.length;exact omT)⟩)<|oR 1 rfl ?_;obtain⟨x,hx⟩:∃ y_,q[0]?=some y_:=⟨_,aA omT⟩;have hxo:=ho x (aB hx);refine Fi (rqL x) (x:=vI x.left) rfl rfl rfl (⟨by decide,Iz (fM hx)⟩) rfl<|rV (vI (IntKind.wrap .i64 (x.left - 1))) rfl<|nW (.ptr2 8 (0+0) 0) rfl rfl (⟨by decide,Ff.2 (by show 0<q.length;exact omT)⟩)<|oR 1 rfl ?_;have hx1:(q.set 0 (⟨x.kind,x.line,IntKind.wrap .i64 (x.left - 1),x.data⟩:Req))[0]?=some (⟨x.kind,x.line,IntKind.wrap .i64 (x.left - 1),x.data⟩:Req):=aR omT;refine nP (rqL x) (h':=upd _ 8 (some (.arr ((q.set 0 (⟨x.kind,x.line,IntKind.wrap .i64 (x.left - 1),x.data⟩:Req)).map rqL) 4))) rfl rfl rfl (⟨by decide,Iz (fM hx)⟩) (vP (f:=rqL) (l:=q) (k:=0) (x:=(⟨x.kind,x.line,IntKind.wrap .i64 (x.left - 1),x.data⟩:Req)))<|rE 21<|bI<|cSR<|oR 1 rfl<|nW (.ptr2 8 (0+0) 0) rfl rfl (⟨by decide,Ff.2 (by show 0<q.length;exact omT)⟩)<|oR 1 rfl<|Fi (rqL (⟨x.kind,x.line,IntKind.wrap .i64 (x.left - 1),x.data⟩:Req)) (x:=vI (IntKind.wrap .i64 (x.left - 1))) rfl rfl rfl (⟨by decide,Iz (fM hx1)⟩) rfl<|rV (vB (decide ((IntKind.wrap .i64 (x.left - 1))>0))) rfl<|rE 26 ?_;refine aQ rfl (λ h2=>?_) (λ h2=>?_)
  ·have h2p:=of_decide_eq_true h2;refine cSR<|oR 1 rfl<|rV (.agg [vI 0,.v (.int .u32 0),vI 0,.v (.string (⟨#[]⟩:ByteArray))]) rfl<|oR 1 rfl<|rSt rfl<|oR 1 rfl<|rE 31<|cM ?_
   try simp only[w64]at h2p
   obtain⟨l,hql⟩:∃ l,q=x::l:=by cases q with|nil=>cases hx|cons y l=>injection hx with hx;subst hx;exact⟨l,rfl⟩
   have hT:eF q=({x with left:=wrap64 (x.left - 1)}::l,NY,false):=by rw[hql];unfold eF;simp only[if_pos h2p]
   rw[hT];refine eW rfl ⟨(by show 0+q.length≤((q.set 0 (⟨x.kind,x.line,IntKind.wrap .i64 (x.left - 1),x.data⟩:Req)).map rqL).length;exact omT),tvT,trivial,trivial⟩ rfl ?_;show AV.tup [.sl 4 (List.take q.length (List.drop 0 ((q.set 0 (⟨x.kind,x.line,IntKind.wrap .i64 (x.left - 1),x.data⟩:Req)).map rqL))) false,.agg [vI 0,.v (.int .u32 0),vI 0,.v (.string (⟨#[]⟩:ByteArray))],vB false]=_;rw[kI rqL (q.set 0 (⟨x.kind,x.line,IntKind.wrap .i64 (x.left - 1),x.data⟩:Req)) omT];rw[hql];simp only[w64,gM]
   try rfl
  ·have h2p:=aD h2;refine aY<|bI<|AW rfl rfl<|oR 1 rfl ?_;refine nW (.osl 8 1 (q.length - 1) false) rfl (Lh (by first|rfl|omega) (by simp only[Option.getD];omega)) slT ?_;refine oR 1 rfl<|nW (.ptr2 8 (0+0) 0) rfl rfl (⟨by decide,Ff.2 (by show 0<q.length;exact omT)⟩)<|Fi (rqL (⟨x.kind,x.line,IntKind.wrap .i64 (x.left - 1),x.data⟩:Req)) (x:=.agg (rqL (⟨x.kind,x.line,IntKind.wrap .i64 (x.left - 1),x.data⟩:Req))) rfl rfl rfl (⟨by decide,Iz (fM hx1)⟩) rfl<|oR 1 rfl<|rSt rfl<|oR 1 rfl<|rE 34<|And.intro (by kernel_rfl)<|cM ?_
   try simp only[w64]at h2p
   obtain⟨l,hql⟩:∃ l,q=x::l:=by cases q with|nil=>cases hx|cons y l=>injection hx with hx;subst hx;exact⟨l,rfl⟩
   have hT:eF q=(l,{x with left:=wrap64 (x.left - 1)},true):=by rw[hql];unfold eF;simp only[if_neg h2p]
   rw[hT];refine eW rfl ⟨(by show 1+(q.length - 1)≤((q.set 0 (⟨x.kind,x.line,IntKind.wrap .i64 (x.left - 1),x.data⟩:Req)).map rqL).length;exact omT),tvT,trivial,trivial⟩ rfl ?_;show AV.tup [.sl 4 (List.take (q.length - 1) (List.drop 1 ((q.set 0 (⟨x.kind,x.line,IntKind.wrap .i64 (x.left - 1),x.data⟩:Req)).map rqL))) false,.agg [vI x.kind,vU x.line,vI (IntKind.wrap .i64 (x.left - 1)),.v (.string x.data)],vB true]=_;rw[BV (M:=(q.set 0 (⟨x.kind,x.line,IntKind.wrap .i64 (x.left - 1),x.data⟩:Req)).drop 1) rqL (q.set 0 (⟨x.kind,x.line,IntKind.wrap .i64 (x.left - 1),x.data⟩:Req)) (aI omT)];rw[hql];simp only[w64,gM,List.drop_succ_cons,cB]
   try rfl
theorem JC(s:List Wy)(k:Nat)(ck:Bool)(hk:k<s.length)(hs:s.length≤900000)(ho:∀ x∈s,x.ok):bV C0 153 [.sl 3 (s.map wyL) ck,vN k] (.sl 3 ((eO s k).map wyL) false):=by
 refine bV.intro c0Ok Tryz.func153 rfl rfl (by kernel_rfl) rfl<|cSR<|oR 1 rfl<|rE 1<|cSR<|oR 1 rfl<|rW (vN s.length) rfl (bJ wyL s)<|rFx (x:=.osl 3 0 0 false) (h':=upd _ 3 (some (.arr (([]:List Wy).map wyL) 3))) rfl rfl (rfl) (⟨by decide,Fg.2 omT,by show ((s.length:Nat):Int)≤1000000;omega⟩)<|oR 1 rfl<|rE 5<|cSR<|oR 3 rfl ?_;obtain⟨x,hx⟩:∃ y_,s[k]?=some y_:=⟨_,aA omT⟩;have hxo:=ho x (aB hx);refine rIx (wyL x) (.dp 3 0 (wyL x)) rfl rfl (fM hx) rfl<|oR 1 rfl<|rV (.sl 3 ([[vU x.line,vB x.dirty,.v (.string x.data)]]) true) rfl<|rFx (x:=.osl 11 0 1 false) (h':=upd (upd _ 3 none) 11 (some (.arr (([x]).map wyL) 3))) rfl rfl (gV wyL ([]:List Wy) ([x]) omT omT) (⟨by exact omT,by exact omT,trivial⟩)<|oR 1 rfl<|rE 13<|cSR<|oR 3 rfl ?_;refine nW (.sl 3 ((s.take k).map wyL) (ck&&false)) rfl (uI (rL wyL s k)) slT ?_;refine rFx (x:=.osl 17 0 (1+k) false) (h':=upd (upd _ 11 none) 17 (some (.arr ((([x])++(s.take k)).map wyL) 3))) rfl rfl (gV wyL ([x]) (s.take k) omT omT) (⟨by exact omT,by exact omT,trivial⟩)<|oR 1 rfl<|rE 19<|cSR<|oR 3 rfl ?_;have b1:k+1≤900001:=aF omT (aC 1);refine rW (vN (k+1)) rfl (okI (bL b1 rfl)) ?_;refine nW (.sl 3 ((s.drop (k+1)).map wyL) (ck&&true)) rfl (uI (JD wyL s (k+1))) slT ?_;refine rFx (x:=.osl 24 0 (1+k+s.length - (k+1)) false) (h':=upd (upd _ 17 none) 24 (some (.arr (((([x])++(s.take k))++(s.drop (k+1))).map wyL) 3))) rfl rfl (gV wyL (([x])++(s.take k)) (s.drop (k+1)) omT omT) (⟨by exact omT,by exact omT,trivial⟩)<|oR 1 rfl<|rE 26<|cM<|eW rfl (by show 0+(1+k+s.length - (k+1))≤(((([x])++(s.take k))++(s.drop (k+1))).map wyL).length;exact omT) rfl ?_;show AV.sl 3 (List.take (1+k+s.length - (k+1)) (List.drop 0 (((([x])++(s.take k))++(s.drop (k+1))).map wyL))) false=_;rw[kI wyL ((([x])++(s.take k))++(s.drop (k+1))) omT];rw[BT hx]
theorem Qh(s:List Wy)(k:Nat)(ck:Bool)(hk:k<s.length)(hs:s.length≤900000)(ho:∀ x∈s,x.ok):qF C0.P C0.G 153 [.sl 3 (s.map wyL) ck,vN k] (heapF []) 0 (λ x h'=>x=.osl 0 0 s.length false∧h'=heapF [(0,.arr ((eO s k).map wyL) 3)]):=by
 refine HCall.intro (C:=C0) (s:=0) c0Ok.at Tryz.func153 rfl rfl (by kernel_rfl) rfl rfl<|cSR<|oR 1 rfl<|rE 1<|cSR<|oR 1 rfl<|rW (vN s.length) rfl (bJ wyL s)<|rFx (x:=.osl 3 0 0 false) (h':=upd _ 3 (some (.arr (([]:List Wy).map wyL) 3))) rfl rfl (rfl) (⟨by decide,Fg.2 omT,by show ((s.length:Nat):Int)≤1000000;omega⟩)<|oR 1 rfl<|rE 5<|cSR<|oR 3 rfl ?_;obtain⟨x,hx⟩:∃ y_,s[k]?=some y_:=⟨_,aA omT⟩;have hxo:=ho x (aB hx);refine rIx (wyL x) (.dp 3 0 (wyL x)) rfl rfl (fM hx) rfl<|oR 1 rfl<|rV (.sl 3 ([[vU x.line,vB x.dirty,.v (.string x.data)]]) true) rfl<|rFx (x:=.osl 11 0 1 false) (h':=upd (upd _ 3 none) 11 (some (.arr (([x]).map wyL) 3))) rfl rfl (gV wyL ([]:List Wy) ([x]) omT omT) (⟨by exact omT,by exact omT,trivial⟩)<|oR 1 rfl<|rE 13<|cSR<|oR 3 rfl ?_;refine nW (.sl 3 ((s.take k).map wyL) (ck&&false)) rfl (uI (rL wyL s k)) slT ?_;refine rFx (x:=.osl 17 0 (1+k) false) (h':=upd (upd _ 11 none) 17 (some (.arr ((([x])++(s.take k)).map wyL) 3))) rfl rfl (gV wyL ([x]) (s.take k) omT omT) (⟨by exact omT,by exact omT,trivial⟩)<|oR 1 rfl<|rE 19<|cSR<|oR 3 rfl ?_;have b1:k+1≤900001:=aF omT (aC 1);refine rW (vN (k+1)) rfl (okI (bL b1 rfl)) ?_;refine nW (.sl 3 ((s.drop (k+1)).map wyL) (ck&&true)) rfl (uI (JD wyL s (k+1))) slT ?_;refine rFx (x:=.osl 24 0 (1+k+s.length - (k+1)) false) (h':=upd (upd _ 17 none) 24 (some (.arr (((([x])++(s.take k))++(s.drop (k+1))).map wyL) 3))) rfl rfl (gV wyL (([x])++(s.take k)) (s.drop (k+1)) omT omT) (⟨by exact omT,by exact omT,trivial⟩)<|oR 1 rfl<|rE 26<|cM ?_;have e:(([x])++(s.take k))++(s.drop (k+1))=eO s k:=(BT hx).symm;have e2:1+k+s.length - (k+1)=s.length:=by omega
 refine pP (rs:=[.osl 24 0 (1+k+s.length - (k+1)) false]) rfl (r:=.osl 0 0 s.length false) (h':=heapF [(0,.arr ((eO s k).map wyL) 3)]) (σ:=λ _=>24) ⟨rfl,rfl⟩ rfl (cH (λ _=>24) ?_ rfl ⟨⟨rfl,?_,rfl⟩,trivial⟩ rfl)
 ·show AV.osl 24 0 (1+k+s.length - (k+1)) false=.osl 24 0 s.length false;rw[e2]
 ·show some (Blk.arr (((([x])++(s.take k))++(s.drop (k+1))).map wyL) 3)=some (Blk.arr ((eO s k).map wyL) 3);rw[e]
theorem HE(c:Ca)(k:Nat)(s:List Wy)(hok:c.ok)(hk:k<c.sets.length)(hl:c.sets.length≤900000)(hs:s.length≤900000)(ho:∀ x∈s,x.ok):bV C0 154 [.agg (caL c false),vN k,.sl 3 (s.map wyL) false] (.agg (caL (nV c k s) false)):=by
 refine bV.intro c0Ok Tryz.func154 rfl rfl (by kernel_rfl) rfl<|cSR<|rAl 0 rfl rfl<|rAl 1 rfl rfl<|rE 2<|cSR<|oR 2 rfl<|rW (vN c.sets.length) rfl (bJ bA c.sets)<|rFx (x:=.osl 5 0 c.sets.length false) (h':=upd _ 5 (some (.arr (List.replicate c.sets.length [.sl 0 ([]) true]) 1))) rfl rfl (rfl) (⟨aG _,jS _,by show ((c.sets.length:Nat):Int)≤1000000;have:=hl;omega⟩)<|oR 1 rfl<|rE 7<|cSR<|oR 3 rfl ?_;refine rFx (x:=vI ((min ((c.sets.map bA).length) (c.sets.length):Nat):Int)) (h':=upd _ 5 (some (.arr (c.sets.map bA) 1))) rfl rfl (Ia (DF bA (List.replicate c.sets.length [.sl 0 ([]) true]) c.sets omT omT)) (⟨by exact omT,trivial⟩)<|rE 11<|cSR<|oR 3 rfl<|nW (.ptr2 5 (0+k) 0) rfl rfl ixT ?_;obtain⟨x1,hx1⟩:∃ y_,c.sets[k]?=some y_:=⟨_,aA omT⟩;have hx1o:=hok.set x1 (aB hx1);have hx2:(c.sets.set k s)[k]?=some s:=aR omT;refine nP (bA x1) (h':=upd _ 5 (some (.arr ((c.sets.set k s).map bA) 1))) rfl rfl rfl (⟨aG _,Iz (fM hx1)⟩) (vP (f:=bA) (l:=c.sets) (k:=k) (x:=s))<|rE 16<|cSR<|oR 3 rfl<|rV (.agg [vI c.ways,.osl 5 0 c.sets.length false]) rfl<|rSt rfl<|rE 21<|cM<|eW rfl ⟨trivial,(by show 0+c.sets.length≤((c.sets.set k s).map bA).length;exact omT),trivial⟩ rfl ?_;show AV.agg [vI c.ways,.sl 1 (List.take c.sets.length (List.drop 0 ((c.sets.set k s).map bA))) false]=_;rw[kI bA (c.sets.set k s) omT];refine congrArg (λ z=>AV.agg ((λ z=>caL z false) z)) (?_:(⟨c.ways,c.sets.set k s⟩:Ca)=nV c k s);rfl
theorem yL(c:Ca)(line:Nat)(hok:c.ok)(hline:line≤4294967295):bV C0 114 [.agg (caL c false),vU line] (.tup [vN (bF c line).1,vN ((bF c line).2.getD 0),vB (bF c line).2.isSome]):=by
 refine bV.intro c0Ok Tryz.func114 rfl rfl (by kernel_rfl) rfl<|cSR<|rAl 0 rfl rfl<|oR 3 rfl<|rE 4<|bI<|cSR<|oR 1 rfl<|rCi rfl (AA c false hok)<|oR 1 rfl<|rE 7 ?_;refine aQ rfl (λ h1=>?_) (λ h1=>?_)
 ·refine cSR<|oR 3 rfl<|rE 10<|cM ?_;have hR:fI c=false:=by simpa using h1
  exact fT rfl (by unfold bF;rw[if_neg (by rw[hR];decide)];rfl)
 ·have hR:fI c=true:=by simpa using h1
  obtain⟨hs0,hs4,hw2,hw1,hsw⟩:=kH hR;have hkl:=Aw hs0 (lineOf line);refine aY<|cSR<|oR 1 rfl<|rCi rfl (qZ line hline)<|oR 1 rfl<|rE 10<|cSR<|oR 2 rfl<|rCi rfl (UR c (lineOf line) false hs0 omT (dJ hline))<|oR 1 rfl<|rE 14<|cSR<|oR 3 rfl ?_;obtain⟨s,hs⟩:∃ y_,c.sets[(yQ c (lineOf line))]?=some y_:=⟨_,aA omT⟩;have hso:=hok.set s (aB hs);have hsl:s.length≤2:=by have:=hsw s (aB hs);omega
  refine rIx (bA s) (.dp 1 0 (bA s)) rfl rfl (fM hs) rfl<|oR 2 rfl<|rCi rfl (US s (lineOf line) false omT hso.2 (dJ hline))<|oR 5 rfl<|rE 26<|cSR<|oR 6 rfl<|rE 32<|cM ?_;exact fT rfl (by rw[rK hR,sI hs];rfl)
theorem Ax(c:Ca)(line:Nat):(bF c line).1≤4∧(bF c line).2.getD 0≤2:=by
 by_cases h:fI c=true
 ·obtain⟨h0,h4,h2,h1,hw⟩:=kH h;rw[rK h];have hlt:=Aw h0 (lineOf line);refine⟨by show yQ _ _≤4;omega,?_⟩;show (jW _ _).getD 0≤2
  cases hp:jW (pM c (yQ c (lineOf line))) (lineOf line)with
  |none=>exact aE _
  |some j=>
   have:=ED hp;rw[sI (aA hlt)]at this;have h3:=hw _ (lM hlt);show j≤2;omega
 ·unfold bF;rw[if_neg h];exact⟨aE _,aE _⟩
theorem HG(c:Ca)(line:Nat)(hok:c.ok)(hline:line≤4294967295):bV C0 118 [.agg (caL c false),vU line] (.agg (caL (oT c line) false)):=by
 refine dc1 (bV.intro c1Ok Tryz.func118 rfl rfl (by kernel_rfl) rfl ?_);have hFb:=Ax c line;refine cSR<|rAl 0 rfl rfl<|rAl 1 rfl rfl<|rE 2<|cSR<|oR 2 rfl<|rCi rfl (yL c line hok hline)<|oR 7 rfl<|rE 12<|bI<|cSR<|oR 2 rfl<|rE 14 ?_;refine aQ rfl (λ h1=>?_) (λ h1=>?_)
 ·have hF:(bF c line).2.isSome=false:=by simpa using h1
  refine cSR<|oR 1 rfl<|rSt rfl<|rE 16<|cM ?_;exact eW rfl ⟨trivial,trivial,trivial⟩ rfl (by rw[Db hF];rfl)
 ·have hF:(bF c line).2.isSome=true:=by simpa using h1
  obtain⟨hR,hF1,hF2,hF3⟩:=oO hF;obtain⟨hs0,hs4,hw2,hw1,hsw⟩:=kH hR;refine aY<|cSR<|oR 5 rfl ?_;obtain⟨s,hs⟩:∃ y_,c.sets[((bF c line).1)]?=some y_:=⟨_,aA omT⟩;have hso:=hok.set s (aB hs);have hse:=sI hs;rw[hse]at hF3;have hsl:s.length≤2:=by have:=hsw s (aB hs);omega
  refine rIx (bA s) (.dp 1 0 (bA s)) rfl rfl (fM hs) rfl<|oR 2 rfl<|rCi rfl (JC s ((bF c line).2.getD 0) false hF3 omT hso.2)<|rCi rfl (HE c ((bF c line).1) (eO s ((bF c line).2.getD 0)) hok hF2 omT (by rw[mB hF3];omega) (nG hso.2))<|rSt rfl<|rE 25<|cM ?_;exact eW rfl ⟨trivial,trivial,trivial⟩ rfl (by rw[Da hF,hse];rfl)
theorem EE{α:Type}{f:α→α}{l:List α}{x:α}(h:l[0]?=some x):modHd f l=l.set 0 (f x):=by
 cases l with
 |nil=>cases h
 |cons y l=>injection h with h;subst h;rfl
theorem Ay{α:Type}(l:List α)(x:α)(n:Nat)(hn:n=l.length):eO (l++[x]) n=x::l:=by
 subst hn;rw[BT (x:=x) (by simp)];simp
theorem My{c:Ca}(h:fI c=false)(line:Nat)(d:ByteArray)(b:Bool):pH c line d b=(c,pY,false):=by unfold pH;rw[if_neg (by rw[h];decide)]
theorem BU{c:Ca}{line:Nat}(hF:(bF c line).2.isSome=true)(d:ByteArray)(b:Bool):pH c line d b=(nV c (bF c line).1 (modHd (λ w=>{w with data:=if (lX d).size=0 then w.data else lX d,dirty:=w.dirty||b}) (eO (pM c (bF c line).1) ((bF c line).2.getD 0))),pY,false):=by
 unfold pH;obtain⟨j,hj⟩:=Fh.1 hF;have e:bF c line=((bF c line).1,some j):=by rw[←hj]
 rw[if_pos (oO hF).1,e];rfl
theorem uW{c:Ca}{line:Nat}(hR:fI c=true)(hF:(bF c line).2.isSome=false)(d:ByteArray)(b:Bool):pH c line d b=if ((pM c (bF c line).1).length:Int)=c.ways then (nV c (bF c line).1 (⟨lineOf line,b,lX d⟩::(pM c (bF c line).1).dropLast),(pM c (bF c line).1).getLast?.getD pY,true)else (nV c (bF c line).1 (⟨lineOf line,b,lX d⟩::pM c (bF c line).1),pY,false):=by
 unfold pH;have hj:(bF c line).2=none:=by simpa using hF
 have e:bF c line=((bF c line).1,none):=by rw[←hj]
 rw[if_pos hR,e]
abbrev abK(p:Ca×Wy×Bool):AV:=.tup [.agg (caL p.1 false),.agg (wyL p.2.1),vB p.2.2]
theorem yM(d:ByteArray):d.toList.length=d.size:=by
 rw[ByteArray.toList_eq];exact dW
theorem Mz{d:ByteArray}(h: ¬ d.size=0):(!(d.toList==(⟨#[]⟩:ByteArray).toList))=true:=by
 cases hd:d.toList==(⟨#[]⟩:ByteArray).toList with
 |false=>rfl
 |true=>
  have:=congrArg List.length (eq_of_beq hd);rw[yM,yM]at this;exact absurd this h
theorem AK(d:ByteArray):(d.toList==(⟨#[]⟩:ByteArray).toList)=decide (d.size=0):=by
 by_cases h:d.size=0
 ·rw[lE h];have e:d.toList=(⟨#[]⟩:ByteArray).toList:=by rw[ByteArray.toList_eq,ByteArray.toList_eq];exact bB (by rw[dW];exact h)
  rw[e];exact iL _
 ·rw[sU h];have:=Mz h;simpa using this
theorem ab4{d:ByteArray}(h:(!(d.toList==(⟨#[]⟩:ByteArray).toList))=true): ¬ d.size=0:=by rw[AK]at h;simpa using h
theorem ab5{d:ByteArray}(h:(!(d.toList==(⟨#[]⟩:ByteArray).toList))=false):d.size=0:=by rw[AK]at h;simpa using h
theorem CA{d:ByteArray}(h: ¬ d.size=16):lX d=mR:=if_neg h
theorem Bc{d:ByteArray}(h:d.size=16):lX d=d:=if_pos h
theorem Qi(c:Ca)(line:Nat)(data:ByteArray)(dirty:Bool)(hok:c.ok)(hline:line≤4294967295):bV C0 95 [.agg (caL c false),vU line,.v (.string data),.v (.bool dirty)] (abK (pH c line data dirty)):=by
 refine dc1 (bV.intro c1Ok Tryz.func95 rfl rfl (by kernel_rfl) rfl ?_);have hFb:=Ax c line;refine cSR<|rAl 0 rfl rfl<|rAl 1 rfl rfl<|rAl 2 rfl rfl<|oR 1 rfl<|rE 4<|bI<|cSR<|oR 1 rfl<|rCi rfl (AA c false hok)<|oR 1 rfl<|rE 7 ?_;refine aQ rfl (λ h1=>?_) (λ h1=>?_)
 ·have hR:fI c=false:=by simpa using h1
  refine cSR<|oR 1 rfl<|rV (.agg [zU,vB false,.v (.string (⟨#[]⟩:ByteArray))]) rfl<|rSt rfl<|rSt rfl<|oR 1 rfl<|rE 12<|cM ?_;rw[My hR];exact fT rfl rfl
 ·have hR:fI c=true:=by simpa using h1
  obtain⟨hs0,hs4,hw2,hw1,hsw⟩:=kH hR;have hF2:(bF c line).1<c.sets.length:=by rw[rK hR];exact Aw hs0 _
  refine aY ?_;refine CG (κ:=Unit) (λ u_=>⟨slotsF [(1,vU line),(2,.v (.string (lX data))),(3,vB dirty),(4,.ptr 0 0),(8,.ptr 1 0),(9,.ptr 2 0),(10,vB false)],heapF [(0,.box [vI c.ways,.sl 1 (c.sets.map bA) false]),(1,.box [vI 0,.sl 0 ([]) true]),(2,.box [zU,vB false,.v (.string (⟨#[]⟩:ByteArray))])],7⟩) (λ u_=>True) ?_ ?_
  ·refine cSR<|oR 1 rfl<|rV (vN data.size) rfl<|rW (vB (data.size != 16)) rfl (okB (neN _ _))<|rE 10 ?_;refine aQ rfl (λ h2=>?_) (λ h2=>?_)
   ·have h2p:=wX h2;refine cRg<|oR 1 rfl<|rE 11 ?_;refine .mk _ (.refl _) ⟨(),λ s=>s,Weak.of_lists _ ⟨⟨rfl,rfl⟩,⟨(congrArg (λ z=>AV.v (.string z)) (show (⟨#[]⟩:ByteArray)=lX data from (CA omT).symm)),rfl⟩,⟨rfl,rfl⟩,⟨rfl,rfl⟩,⟨rfl,rfl⟩,⟨rfl,rfl⟩,⟨rfl,rfl⟩,trivial⟩ wH rfl,rfl,trivial⟩
   ·have h2p:=wY h2;refine aY ?_;refine .mk _ (.refl _) ⟨(),λ s=>s,Weak.of_lists _ ⟨⟨rfl,rfl⟩,⟨(congrArg (λ z=>AV.v (.string z)) (show data=lX data from (Bc omT).symm)),rfl⟩,⟨rfl,rfl⟩,⟨rfl,rfl⟩,⟨rfl,rfl⟩,⟨rfl,rfl⟩,⟨rfl,rfl⟩,trivial⟩ wH rfl,rfl,trivial⟩
  ·intro u_ _;refine cSR<|oR 2 rfl<|rCi rfl (yL c line hok hline)<|oR 7 rfl<|rE 17<|bI<|cSR<|oR 1 rfl<|rE 18 ?_;refine aQ rfl (λ h3=>?_) (λ h3=>?_)
   ·have hF:(bF c line).2.isSome=true:=by simpa using h3
    have hF3:=(oO hF).2.2.2;refine cSR<|oR 3 rfl ?_;obtain⟨s,hs⟩:∃ y_,c.sets[((bF c line).1)]?=some y_:=⟨_,aA omT⟩;have hso:=hok.set s (aB hs);have hse:=sI hs;have hsl:s.length≤2:=by have:=hsw s (aB hs);omega
    rw[hse]at hF3;have hfl:=mB hF3;refine rIx (bA s) (.dp 1 0 (bA s)) rfl rfl (fM hs) rfl<|oR 2 rfl<|fX (args:=[.sl 3 (s.map wyL) false,vN ((bF c line).2.getD 0)]) (d:=42) _ rfl rfl rfl ((Qh s ((bF c line).2.getD 0) false omT omT hso.2).frame0 _ _ rfl) ?_;rintro _ _ ⟨rfl,rfl⟩;refine oR 1 rfl<|rE 26<|bI<|cSR<|oR 1 rfl<|rV (vB (!((lX data).toList==(⟨#[]⟩:ByteArray).toList))) rfl<|rE 28 ?_;refine aQ rfl (λ h4=>?_) (λ h4=>?_)
    ·refine cRg<|oR 2 rfl<|nW (.ptr2 24 (0+0) 0) rfl rfl (⟨by decide,Ff.2 (by show 0<s.length;exact omT)⟩)<|oR 1 rfl ?_;obtain⟨w,hw⟩:∃ y_,(eO s ((bF c line).2.getD 0))[0]?=some y_:=⟨_,aA omT⟩;have hwo:=(nG hso.2) w (aB hw);have hx1:((eO s ((bF c line).2.getD 0)).set 0 (⟨w.line,w.dirty,(lX data)⟩:Wy))[0]?=some (⟨w.line,w.dirty,(lX data)⟩:Wy):=aR omT;refine nP (wyL w) (h':=upd _ 24 (some (.arr (((eO s ((bF c line).2.getD 0)).set 0 (⟨w.line,w.dirty,(lX data)⟩:Wy)).map wyL) 3))) rfl rfl rfl (⟨by decide,Iz (fM hw)⟩) (vP (f:=wyL) (l:=eO s ((bF c line).2.getD 0)) (k:=0) (x:=(⟨w.line,w.dirty,(lX data)⟩:Wy)))<|rE 33<|Dl<|cRg<|oR 2 rfl<|nW (.ptr2 24 (0+0) 0) rfl rfl (⟨by decide,Ff.2 (by show 0<s.length;exact omT)⟩)<|oR 1 rfl<|Fi (wyL (⟨w.line,w.dirty,(lX data)⟩:Wy)) (x:=vB w.dirty) rfl rfl rfl (⟨by decide,Iz (fM hx1)⟩) rfl<|oR 1 rfl<|gN rfl<|cL rfl rfl rfl (by simp)<|nW (.ptr2 24 (0+0) 0) rfl rfl (⟨by decide,Ff.2 (by show 0<s.length;exact omT)⟩)<|oR 1 rfl ?_;have hx2:(((eO s ((bF c line).2.getD 0)).set 0 (⟨w.line,w.dirty,(lX data)⟩:Wy)).set 0 (⟨w.line,cJ w.dirty true dirty,(lX data)⟩:Wy))[0]?=some (⟨w.line,cJ w.dirty true dirty,(lX data)⟩:Wy):=aR omT;refine nP (wyL (⟨w.line,w.dirty,(lX data)⟩:Wy)) (h':=upd _ 24 (some (.arr ((((eO s ((bF c line).2.getD 0)).set 0 (⟨w.line,w.dirty,(lX data)⟩:Wy)).set 0 (⟨w.line,cJ w.dirty true dirty,(lX data)⟩:Wy)).map wyL) 3))) rfl rfl rfl (⟨by decide,Iz (fM hx1)⟩) (vP (f:=wyL) (l:=(eO s ((bF c line).2.getD 0)).set 0 (⟨w.line,w.dirty,(lX data)⟩:Wy)) (k:=0) (x:=(⟨w.line,cJ w.dirty true dirty,(lX data)⟩:Wy)))<|rE 44<| .mk _ (.step (some (24,3,(((eO s ((bF c line).2.getD 0)).set 0 (⟨w.line,w.dirty,(lX data)⟩:Wy)).set 0 (⟨w.line,cJ w.dirty true dirty,(lX data)⟩:Wy)).map wyL)) (Ghost.of_lists (l:=[(1,vU line),(2,.v (.string (lX data))),(3,vB dirty),(4,.ptr 0 0),(8,.ptr 1 0),(9,.ptr 2 0),(10,vB false),(11,vN ((bF c line).1)),(35,vB ((bF c line).2.isSome)),(14,.sl 3 ((((eO s ((bF c line).2.getD 0)).set 0 (⟨w.line,w.dirty,(lX data)⟩:Wy)).set 0 (⟨w.line,cJ w.dirty true dirty,(lX data)⟩:Wy)).map wyL) false),(44,vB (!((lX data).toList==(⟨#[]⟩:ByteArray).toList)))]) (hp:=[(0,.box [vI c.ways,.sl 1 (c.sets.map bA) false]),(1,.box [vI 0,.sl 0 ([]) true]),(2,.box [zU,vB false,.v (.string (⟨#[]⟩:ByteArray))])]) rfl rfT rbT) (.refl _))<|cSR<|oR 3 rfl<|rCi rfl (HE c ((bF c line).1) (((eO s ((bF c line).2.getD 0)).set 0 (⟨w.line,w.dirty,(lX data)⟩:Wy)).set 0 (⟨w.line,cJ w.dirty true dirty,(lX data)⟩:Wy)) hok hF2 omT (by first|exact omT|(rw[mB omT];exact omT)) (yN (P:=Wy.ok) (yN (P:=Wy.ok) (nG hso.2) ⟨hwo.line⟩) ⟨hwo.line⟩))<|rV (.agg [zU,vB false,.v (.string (⟨#[]⟩:ByteArray))]) rfl<|rSt rfl<|rSt rfl<|oR 1 rfl<|rE 52<|cM ?_;rw[BU hF,hse,EE hw,if_neg (ab4 h4)]
     try rw[lN]
     try rw[lN]
     exact fT rfl (by simp only[cOr,lN];rfl)
    ·refine aY<|Dl<|cRg<|oR 2 rfl<|nW (.ptr2 24 (0+0) 0) rfl rfl (⟨by decide,Ff.2 (by show 0<s.length;exact omT)⟩)<|oR 1 rfl ?_;obtain⟨w,hw⟩:∃ y_,(eO s ((bF c line).2.getD 0))[0]?=some y_:=⟨_,aA omT⟩;have hwo:=(nG hso.2) w (aB hw);refine Fi (wyL w) (x:=vB w.dirty) rfl rfl rfl (⟨by decide,Iz (fM hw)⟩) rfl<|oR 1 rfl<|gN rfl<|cL rfl rfl rfl (by simp)<|nW (.ptr2 24 (0+0) 0) rfl rfl (⟨by decide,Ff.2 (by show 0<s.length;exact omT)⟩)<|oR 1 rfl ?_;have hx3:((eO s ((bF c line).2.getD 0)).set 0 (⟨w.line,cJ w.dirty true dirty,w.data⟩:Wy))[0]?=some (⟨w.line,cJ w.dirty true dirty,w.data⟩:Wy):=aR omT;refine nP (wyL w) (h':=upd _ 24 (some (.arr (((eO s ((bF c line).2.getD 0)).set 0 (⟨w.line,cJ w.dirty true dirty,w.data⟩:Wy)).map wyL) 3))) rfl rfl rfl (⟨by decide,Iz (fM hw)⟩) (vP (f:=wyL) (l:=eO s ((bF c line).2.getD 0)) (k:=0) (x:=(⟨w.line,cJ w.dirty true dirty,w.data⟩:Wy)))<|rE 39<| .mk _ (.step (some (24,3,((eO s ((bF c line).2.getD 0)).set 0 (⟨w.line,cJ w.dirty true dirty,w.data⟩:Wy)).map wyL)) (Ghost.of_lists (l:=[(1,vU line),(2,.v (.string (lX data))),(3,vB dirty),(4,.ptr 0 0),(8,.ptr 1 0),(9,.ptr 2 0),(10,vB false),(11,vN ((bF c line).1)),(35,vB ((bF c line).2.isSome)),(14,.sl 3 (((eO s ((bF c line).2.getD 0)).set 0 (⟨w.line,cJ w.dirty true dirty,w.data⟩:Wy)).map wyL) false),(44,vB (!((lX data).toList==(⟨#[]⟩:ByteArray).toList)))]) (hp:=[(0,.box [vI c.ways,.sl 1 (c.sets.map bA) false]),(1,.box [vI 0,.sl 0 ([]) true]),(2,.box [zU,vB false,.v (.string (⟨#[]⟩:ByteArray))])]) rfl rfT rbT) (.refl _))<|cSR<|oR 3 rfl<|rCi rfl (HE c ((bF c line).1) ((eO s ((bF c line).2.getD 0)).set 0 (⟨w.line,cJ w.dirty true dirty,w.data⟩:Wy)) hok hF2 omT (by first|exact omT|(rw[mB omT];exact omT)) (yN (P:=Wy.ok) (nG hso.2) ⟨hwo.line⟩))<|rV (.agg [zU,vB false,.v (.string (⟨#[]⟩:ByteArray))]) rfl<|rSt rfl<|rSt rfl<|oR 1 rfl<|rE 47<|cM ?_;rw[BU hF,hse,EE hw,if_pos (ab5 h4)]
     try rw[lN]
     exact fT rfl (by simp only[cOr,lN];rfl)
   ·have hF:(bF c line).2.isSome=false:=by simpa using h3
    refine aY<|cSR<|oR 3 rfl ?_;obtain⟨s,hs⟩:∃ y_,c.sets[((bF c line).1)]?=some y_:=⟨_,aA omT⟩;have hso:=hok.set s (aB hs);have hse:=sI hs;have hsl:s.length≤2:=by have:=hsw s (aB hs);omega
    refine rIx (bA s) (.dp 1 0 (bA s)) rfl rfl (fM hs) rfl<|oR 2 rfl<|rE 24<|bI<|AW rfl rfl<|rV (.agg [zU,vB false,.v (.string (⟨#[]⟩:ByteArray))]) rfl<|oR 1 rfl<|rW (vN s.length) rfl (bJ wyL s)<|oR 2 rfl<|rV (vB (((s.length:Nat):Int)==c.ways)) rfl<|rAl 30 rfl rfl<|rSt rfl<|oR 1 rfl<|rE 33<|And.intro (by kernel_rfl)<|bI ?_;refine cSR<|oR 1 rfl<|rE 34 ?_;refine aQ rfl (λ h5=>?_) (λ h5=>?_)
    ·have h5p:=mO h5
     try have hq:(s.length:Int)=c.ways:=by simpa using h5
     try have hq: ¬ (s.length:Int)=c.ways:=by simpa using h5
     refine cSR<|oR 1 rfl<|rW (vN s.length) rfl (bJ wyL s) ?_;have b1:s.length - 1≤2:=aN (jA _ _) hsl;refine rW (vN (s.length - 1)) rfl (okI (BW omT hsl rfl))<|oR 1 rfl<|rE 38<|AW rfl rfl<|oR 2 rfl ?_;obtain⟨g,hg⟩:∃ y_,s[(s.length - 1)]?=some y_:=⟨_,aA omT⟩;have hgo:=hso.2 g (aB hg);refine rIx (wyL g) (.dp 3 0 (wyL g)) rfl rfl (fM hg) rfl<|oR 3 rfl ?_;refine nW (.sl 3 ((s.take (s.length - 1)).map wyL) false) rfl (uI (rL wyL s (s.length - 1))) slT ?_;refine rSt rfl<|oR 1 rfl<|rE 47<|And.intro (by kernel_rfl)<|cSR<|oR 1 rfl<|rW (vN (s.length - 1)) rfl (qM wyL (s.take (s.length - 1)) omT) ?_;have b2:(s.length - 1)+1≤3:=aF (by have:=hsl;exact omT) (aC 1);refine rW (vN ((s.length - 1)+1)) rfl (okI (bL b2 rfl))<|rFx (x:=.osl 50 0 0 false) (h':=upd _ 50 (some (.arr (([]:List Wy).map wyL) 3))) rfl rfl (rfl) (⟨by decide,Fg.2 omT,by show ((((s.length - 1)+1):Nat):Int)≤1000000;omega⟩)<|oR 1 rfl<|rE 52<|cSR<|oR 2 rfl<|rFx (x:=.osl 54 0 (s.length - 1) false) (h':=upd (upd _ 50 none) 54 (some (.arr ((s.take (s.length - 1)).map wyL) 3))) rfl rfl (gV wyL ([]:List Wy) (s.take (s.length - 1)) omT omT) (⟨by exact omT,by exact omT,trivial⟩)<|oR 1 rfl<|rE 56<|Dl<|cRg<|oR 2 rfl<|rCi rfl (qZ line hline)<|oR 2 rfl<|rV (.agg [vU (lineOf line),vB dirty,.v (.string (lX data))]) rfl ?_;refine rV (.sl 3 ([[vU (lineOf line),vB dirty,.v (.string (lX data))]]) true) rfl<|rFx (x:=.osl 63 0 ((s.length - 1)+1) false) (h':=upd (upd _ 54 none) 63 (some (.arr (((s.take (s.length - 1))++([(⟨lineOf line,dirty,(lX data)⟩:Wy)])).map wyL) 3))) rfl rfl (gV wyL (s.take (s.length - 1)) ([(⟨lineOf line,dirty,(lX data)⟩:Wy)]) omT omT) (⟨by exact omT,by exact omT,trivial⟩)<|oR 1 rfl<|rE 65<| .mk _ (.step (some (63,3,((s.take (s.length - 1))++([(⟨lineOf line,dirty,(lX data)⟩:Wy)])).map wyL)) (Ghost.of_lists (l:=[(4,.ptr 0 0),(8,.ptr 1 0),(9,.ptr 2 0),(10,vB false),(11,vN ((bF c line).1)),(35,vB ((bF c line).2.isSome)),(15,.sl 3 ((s.take (s.length - 1)).map wyL) false),(16,.ptr 30 0),(17,vB (((s.length:Nat):Int)==c.ways)),(75,vB (((s.length:Nat):Int)==c.ways)),(19,.sl 3 (((s.take (s.length - 1))++([(⟨lineOf line,dirty,(lX data)⟩:Wy)])).map wyL) false)]) (hp:=[(0,.box [vI c.ways,.sl 1 (c.sets.map bA) false]),(1,.box [vI 0,.sl 0 ([]) true]),(2,.box [zU,vB false,.v (.string (⟨#[]⟩:ByteArray))]),(30,.box (wyL g))]) rfl rfT rbT) (.refl _))<|bI<|AW rfl rfl<|oR 4 rfl<|rW (vN (s.length - 1)) rfl (qM wyL (s.take (s.length - 1)) omT)<|rCi rfl (JC ((s.take (s.length - 1))++([(⟨lineOf line,dirty,(lX data)⟩:Wy)])) (s.length - 1) false omT omT (oP (pW hso.2) (oQ (P:=Wy.ok) ⟨(dJ hline)⟩)))<|rCi rfl (HE c ((bF c line).1) (eO ((s.take (s.length - 1))++([(⟨lineOf line,dirty,(lX data)⟩:Wy)])) (s.length - 1)) hok hF2 omT (by first|exact omT|(rw[mB omT];exact omT)) (nG (oP (pW hso.2) (oQ (P:=Wy.ok) ⟨(dJ hline)⟩))))<|oR 2 rfl<|rSt rfl<|rSt rfl<|oR 1 rfl<|rE 77 ?_;refine And.intro (by kernel_rfl)<|cM ?_;rw[uW hR hF,hse,if_pos hq];refine fT rfl ?_;show AV.tup [.agg [vI ((nV c ((bF c line).1) (eO ((s.take (s.length - 1))++([(⟨lineOf line,dirty,(lX data)⟩:Wy)])) (s.length - 1))).ways),.sl 1 (((nV c ((bF c line).1) (eO ((s.take (s.length - 1))++([(⟨lineOf line,dirty,(lX data)⟩:Wy)])) (s.length - 1))).sets).map bA) false],.agg (wyL g),vB (((s.length:Nat):Int)==c.ways)]=_;rw[Ay _ _ _ omT,h5];rw[←dS,show s.getLast?.getD pY=g from by rw[kQ,hg];rfl]
     try rfl
    ·have h5p:=mP h5
     try have hq:(s.length:Int)=c.ways:=by simpa using h5
     try have hq: ¬ (s.length:Int)=c.ways:=by simpa using h5
     refine aY<|cSR<|oR 1 rfl<|rW (vN s.length) rfl (bJ wyL s) ?_;have b3:s.length+1≤3:=aF hsl (aC 1);refine rW (vN (s.length+1)) rfl (okI (bL b3 rfl))<|rFx (x:=.osl 37 0 0 false) (h':=upd _ 37 (some (.arr (([]:List Wy).map wyL) 3))) rfl rfl (rfl) (⟨by decide,Fg.2 omT,by show (((s.length+1):Nat):Int)≤1000000;omega⟩)<|oR 1 rfl<|rE 39<|cSR<|oR 2 rfl<|rFx (x:=.osl 41 0 s.length false) (h':=upd (upd _ 37 none) 41 (some (.arr (s.map wyL) 3))) rfl rfl (gV wyL ([]:List Wy) s omT omT) (⟨by exact omT,by exact omT,trivial⟩)<|oR 1 rfl<|rE 43<|Dl<|cRg<|oR 2 rfl<|rCi rfl (qZ line hline)<|oR 2 rfl<|rV (.agg [vU (lineOf line),vB dirty,.v (.string (lX data))]) rfl ?_;refine rV (.sl 3 ([[vU (lineOf line),vB dirty,.v (.string (lX data))]]) true) rfl<|rFx (x:=.osl 50 0 (s.length+1) false) (h':=upd (upd _ 41 none) 50 (some (.arr ((s++([(⟨lineOf line,dirty,(lX data)⟩:Wy)])).map wyL) 3))) rfl rfl (gV wyL s ([(⟨lineOf line,dirty,(lX data)⟩:Wy)]) omT omT) (⟨by exact omT,by exact omT,trivial⟩)<|oR 1 rfl<|rE 52<| .mk _ (.step (some (50,3,(s++([(⟨lineOf line,dirty,(lX data)⟩:Wy)])).map wyL)) (Ghost.of_lists (l:=[(4,.ptr 0 0),(8,.ptr 1 0),(9,.ptr 2 0),(10,vB false),(11,vN ((bF c line).1)),(35,vB ((bF c line).2.isSome)),(15,.sl 3 (s.map wyL) false),(16,.ptr 30 0),(17,vB (((s.length:Nat):Int)==c.ways)),(75,vB (((s.length:Nat):Int)==c.ways)),(19,.sl 3 ((s++([(⟨lineOf line,dirty,(lX data)⟩:Wy)])).map wyL) false)]) (hp:=[(0,.box [vI c.ways,.sl 1 (c.sets.map bA) false]),(1,.box [vI 0,.sl 0 ([]) true]),(2,.box [zU,vB false,.v (.string (⟨#[]⟩:ByteArray))]),(30,.box [zU,vB false,.v (.string (⟨#[]⟩:ByteArray))])]) rfl rfT rbT) (.refl _))<|bI<|AW rfl rfl<|oR 4 rfl<|rW (vN s.length) rfl (bJ wyL s)<|rCi rfl (JC (s++([(⟨lineOf line,dirty,(lX data)⟩:Wy)])) s.length false omT omT (oP hso.2 (oQ (P:=Wy.ok) ⟨(dJ hline)⟩)))<|rCi rfl (HE c ((bF c line).1) (eO (s++([(⟨lineOf line,dirty,(lX data)⟩:Wy)])) s.length) hok hF2 omT (by first|exact omT|(rw[mB omT];exact omT)) (nG (oP hso.2 (oQ (P:=Wy.ok) ⟨(dJ hline)⟩))))<|oR 2 rfl<|rSt rfl<|rSt rfl<|oR 1 rfl<|rE 64 ?_;refine And.intro (by kernel_rfl)<|cM ?_;rw[uW hR hF,hse,if_neg hq];refine fT rfl ?_;show AV.tup [.agg [vI ((nV c ((bF c line).1) (eO (s++([(⟨lineOf line,dirty,(lX data)⟩:Wy)])) s.length)).ways),.sl 1 (((nV c ((bF c line).1) (eO (s++([(⟨lineOf line,dirty,(lX data)⟩:Wy)])) s.length)).sets).map bA) false],.agg [zU,vB false,.v (.string (⟨#[]⟩:ByteArray))],vB (((s.length:Nat):Int)==c.ways)]=_;rw[Ay _ _ _ omT,h5]
     try rfl
theorem Wl{a:Nat}(h:a≤4294967295):IntKind.wrap .u32 ((a:Int) - ((lineOf a:Nat):Int))=((a % 16:Nat):Int):=by
 rw[Ux (B:=4294967295) (dJ h) rfl];have:(a+4294967296 - lineOf a) % 4294967296=a % 16:=by unfold lineOf;omega
 rw[this]
theorem Td{c:Ca}{k j:Nat}{s:List Wy}{x:Wy}(hR:fI c=true)(hs:c.sets[k]?=some s)(hx:s[j]?=some x):x.data.size=0∨x.data.size=16:=
 (((jV c k s).1 (((jO c).1 hR).2 k s hs)).2 j x hx).2.2.1
theorem Gn{c:Ca}{addr:Nat}(b:ByteArray)(hF:(bF c addr).2.isSome=false):tL c addr b=(c,false):=by
 unfold tL;have hj:(bF c addr).2=none:=by simpa using hF
 have e:bF c addr=((bF c addr).1,none):=by rw[←hj]
 rw[e]
theorem Aa{c:Ca}{addr:Nat}{s:List Wy}{x:Wy}(b:ByteArray)(hF:(bF c addr).2.isSome=true)(hs:pM c (bF c addr).1=s)(hx:s[(bF c addr).2.getD 0]?=some x):
  tL c addr b=if x.data.size=0∨b.size+addr % 16>16 then (c,false)else (nV c (bF c addr).1 (modHd (λ w=>{w with data:=EJ w.data (addr % 16) b,dirty:=true}) (eO s ((bF c addr).2.getD 0))),true):=by
 unfold tL;obtain⟨j,hj⟩:=Fh.1 hF;have e:bF c addr=((bF c addr).1,some j):=by rw[←hj]
 rw[hj]at hx⊢;have hx':(pM c (bF c addr).1)[j]?=some x:=by rw[hs];exact hx
 rw[e];have hx2:s[j]?=some x:=hx;simp only[hs,hx2];rfl
theorem Qj{α:Type}{l:List α}{k:Nat}{x:α}(h:l[k]?=some x):(eO l k)[0]?=some x:=by rw[BT h];rfl
abbrev wrA(p:Ca×Bool):AV:=.tup [.agg (caL p.1 false),vB p.2]
theorem Te(c:Ca)(addr:Nat)(bytes:ByteArray)(hok:c.ok)(hline:addr≤4294967295):bV C0 174 [.agg (caL c false),vU addr,.v (.string bytes)] (wrA (tL c addr bytes)):=by
 refine dc1 (bV.intro c1Ok Tryz.func174 rfl rfl (by kernel_rfl) rfl ?_);have hFb:=Ax c addr;refine cSR<|rAl 0 rfl rfl<|rAl 1 rfl rfl<|oR 1 rfl<|rE 3<|cSR<|oR 2 rfl<|rCi rfl (yL c addr hok hline)<|oR 7 rfl<|rE 13<|bI<|cSR<|oR 2 rfl ?_;refine rE 15 ?_;refine aQ rfl (λ h1=>?_) (λ h1=>?_)
 ·have hF:(bF c addr).2.isSome=false:=by simpa using h1
  refine cSR<|oR 1 rfl<|rSt rfl<|oR 1 rfl<|rE 18<|cM ?_;rw[Gn bytes hF];exact fT rfl rfl
 ·have hF:(bF c addr).2.isSome=true:=by simpa using h1
  obtain⟨hR,hF1,hF2,hF3⟩:=oO hF;obtain⟨hs0,hs4,hw2,hw1,hsw⟩:=kH hR;refine aY<|cSR<|oR 3 rfl ?_;obtain⟨s,hs⟩:∃ y_,c.sets[((bF c addr).1)]?=some y_:=⟨_,aA omT⟩;have hso:=hok.set s (aB hs);have hse:=sI hs;rw[hse]at hF3;have hsl:s.length≤2:=by have:=hsw s (aB hs);omega
  have hfl:=mB hF3;refine rIx (bA s) (.dp 1 0 (bA s)) rfl rfl (fM hs) rfl<|oR 2 rfl ?_;obtain⟨x,hx⟩:∃ y_,s[((bF c addr).2.getD 0)]?=some y_:=⟨_,aA omT⟩;have hxo:=hso.2 x (aB hx);have hxs:=Td hR hs hx;refine rIx (wyL x) (.dp 3 0 (wyL x)) rfl rfl (fM hx) rfl<|oR 3 rfl<|rE 25<|cSR<|oR 2 rfl<|rCi rfl (qZ addr hline) ?_;have b1:addr % 16≤15:=by omega
  refine rW (vU (addr % 16)) rfl (okI (Wl hline))<|rW (vN (addr % 16)) rfl (okI (bL b1 rfl))<|oR 1 rfl<|rE 31<|bI<|cSR<|oR 1 rfl<|rV (vB (x.data.toList==(⟨#[]⟩:ByteArray).toList)) rfl<|oR 1 rfl<|gN rfl<|gBS (x:=vN bytes.size) rfl id rfl<|gN rfl ?_;have b2:16 - (addr % 16)≤16:=aN (jA _ _) (aC 16);refine gBS (x:=vN (16 - (addr % 16))) rfl id (okI (BW omT (aC 16) rfl))<|gBS (x:=vB (decide (bytes.size>(16 - (addr % 16))))) rfl hsT (okB (gtN _ _))<|cL rfl rfl rfl (by simp)<|rE 40 ?_;refine aQ rfl (λ h2=>?_) (λ h2=>?_)
  ·have hq:(x.data.size=0∨bytes.size>16 - addr % 16):=by have z:=h2;rw[AK]at z;simp only[cOr,dM,aZ,dL,lY]at z;omega
   refine cSR<|oR 1 rfl<|rSt rfl<|oR 1 rfl<|rE 43<|cM ?_;rw[Aa bytes hF hse hx,if_pos omT];exact fT rfl rfl
  ·have hq: ¬ (x.data.size=0∨bytes.size>16 - addr % 16):=by have z:=h2;rw[AK]at z;simp only[cOr,dM,aZ,dL,lY]at z;omega
   have hx16:x.data.size=16:=by omega
   have hb16:bytes.size≤16 - addr % 16:=by omega
   refine aY<|cSR<|oR 3 rfl<|rIx (bA s) (.dp 1 0 (bA s)) rfl rfl (fM hs) rfl<|oR 2 rfl<|fX (args:=[.sl 3 (s.map wyL) false,vN ((bF c addr).2.getD 0)]) (d:=54) _ rfl rfl rfl ((Qh s ((bF c addr).2.getD 0) false omT omT hso.2).frame0 _ _ rfl) ?_;rintro _ _ ⟨rfl,rfl⟩;refine oR 1 rfl<|rE 48<|cSR<|oR 3 rfl ?_;refine nW (.v (.string (x.data.extract 0 (addr % 16)))) rfl rfl (by refine⟨?_,?_,?_⟩<;>(first|exact aG _|decide|(apply Fg.2;exact omT))) ?_;refine oR 1 rfl<|nW (.v (.string ((x.data.extract 0 (addr % 16))++bytes))) rfl rfl (by show (_:Int)≤9223372036854775807;simp[kE,dK];omega)<|oR 3 rfl<|rV (vN bytes.size) rfl ?_;have b3:(addr % 16)+bytes.size≤31:=aF b1 (show bytes.size≤16 by omega);refine rW (vN ((addr % 16)+bytes.size)) rfl (okI (bL b3 rfl)) ?_;refine nW (.v (.string (x.data.extract ((addr % 16)+bytes.size) x.data.size))) rfl rfl (by refine⟨?_,?_,?_⟩<;>(first|exact aG _|decide|(apply Fg.2;exact omT))) ?_;refine nW (.v (.string (((x.data.extract 0 (addr % 16))++bytes)++(x.data.extract ((addr % 16)+bytes.size) x.data.size)))) rfl rfl (by show (_:Int)≤9223372036854775807;simp[kE,dK];omega)<|nW (.ptr2 46 (0+0) 0) rfl rfl (⟨by decide,Ff.2 (by show 0<s.length;exact omT)⟩)<|oR 1 rfl ?_;obtain⟨w,hw⟩:∃ y_,(eO s ((bF c addr).2.getD 0))[0]?=some y_:=⟨_,aA omT⟩;have hwo:=(nG hso.2) w (aB hw);have hxw:w=x:=Option.some.inj (hw.symm.trans (Qj hx));have hx1:((eO s ((bF c addr).2.getD 0)).set 0 (⟨w.line,w.dirty,((x.data.extract 0 (addr % 16))++bytes)++(x.data.extract ((addr % 16)+bytes.size) x.data.size)⟩:Wy))[0]?=some (⟨w.line,w.dirty,((x.data.extract 0 (addr % 16))++bytes)++(x.data.extract ((addr % 16)+bytes.size) x.data.size)⟩:Wy):=aR omT;refine nP (wyL w) (h':=upd _ 46 (some (.arr (((eO s ((bF c addr).2.getD 0)).set 0 (⟨w.line,w.dirty,((x.data.extract 0 (addr % 16))++bytes)++(x.data.extract ((addr % 16)+bytes.size) x.data.size)⟩:Wy)).map wyL) 3))) rfl rfl rfl (⟨by decide,Iz (fM hw)⟩) (vP (f:=wyL) (l:=eO s ((bF c addr).2.getD 0)) (k:=0) (x:=(⟨w.line,w.dirty,((x.data.extract 0 (addr % 16))++bytes)++(x.data.extract ((addr % 16)+bytes.size) x.data.size)⟩:Wy)))<|rE 64<|Dl<|cRg<|oR 1 rfl<|nW (.ptr2 46 (0+0) 0) rfl rfl (⟨by decide,Ff.2 (by show 0<s.length;exact omT)⟩)<|oR 1 rfl ?_;have hx2:(((eO s ((bF c addr).2.getD 0)).set 0 (⟨w.line,w.dirty,((x.data.extract 0 (addr % 16))++bytes)++(x.data.extract ((addr % 16)+bytes.size) x.data.size)⟩:Wy)).set 0 (⟨w.line,true,((x.data.extract 0 (addr % 16))++bytes)++(x.data.extract ((addr % 16)+bytes.size) x.data.size)⟩:Wy))[0]?=some (⟨w.line,true,((x.data.extract 0 (addr % 16))++bytes)++(x.data.extract ((addr % 16)+bytes.size) x.data.size)⟩:Wy):=aR omT
   refine nP (wyL (⟨w.line,w.dirty,((x.data.extract 0 (addr % 16))++bytes)++(x.data.extract ((addr % 16)+bytes.size) x.data.size)⟩:Wy)) (h':=upd _ 46 (some (.arr ((((eO s ((bF c addr).2.getD 0)).set 0 (⟨w.line,w.dirty,((x.data.extract 0 (addr % 16))++bytes)++(x.data.extract ((addr % 16)+bytes.size) x.data.size)⟩:Wy)).set 0 (⟨w.line,true,((x.data.extract 0 (addr % 16))++bytes)++(x.data.extract ((addr % 16)+bytes.size) x.data.size)⟩:Wy)).map wyL) 3))) rfl rfl rfl (⟨by decide,Iz (fM hx1)⟩) (vP (f:=wyL) (l:=(eO s ((bF c addr).2.getD 0)).set 0 (⟨w.line,w.dirty,((x.data.extract 0 (addr % 16))++bytes)++(x.data.extract ((addr % 16)+bytes.size) x.data.size)⟩:Wy)) (k:=0) (x:=(⟨w.line,true,((x.data.extract 0 (addr % 16))++bytes)++(x.data.extract ((addr % 16)+bytes.size) x.data.size)⟩:Wy)))<|rE 68<| .mk _ (.step (some (46,3,(((eO s ((bF c addr).2.getD 0)).set 0 (⟨w.line,w.dirty,((x.data.extract 0 (addr % 16))++bytes)++(x.data.extract ((addr % 16)+bytes.size) x.data.size)⟩:Wy)).set 0 (⟨w.line,true,((x.data.extract 0 (addr % 16))++bytes)++(x.data.extract ((addr % 16)+bytes.size) x.data.size)⟩:Wy)).map wyL)) (Ghost.of_lists (l:=[(3,.ptr 0 0),(6,.ptr 1 0),(7,vB false),(8,vN ((bF c addr).1)),(22,vB (!((bF c addr).2.isSome))),(46,vB (cJ (x.data.toList==(⟨#[]⟩:ByteArray).toList) true (decide (bytes.size>(16 - (addr % 16)))))),(13,.sl 3 ((((eO s ((bF c addr).2.getD 0)).set 0 (⟨w.line,w.dirty,((x.data.extract 0 (addr % 16))++bytes)++(x.data.extract ((addr % 16)+bytes.size) x.data.size)⟩:Wy)).set 0 (⟨w.line,true,((x.data.extract 0 (addr % 16))++bytes)++(x.data.extract ((addr % 16)+bytes.size) x.data.size)⟩:Wy)).map wyL) false)]) (hp:=[(0,.box [vI c.ways,.sl 1 (c.sets.map bA) false]),(1,.box [vI 0,.sl 0 ([]) true])]) rfl rfT rbT) (.refl _))<|cSR<|oR 3 rfl<|rCi rfl (HE c ((bF c addr).1) (((eO s ((bF c addr).2.getD 0)).set 0 (⟨w.line,w.dirty,((x.data.extract 0 (addr % 16))++bytes)++(x.data.extract ((addr % 16)+bytes.size) x.data.size)⟩:Wy)).set 0 (⟨w.line,true,((x.data.extract 0 (addr % 16))++bytes)++(x.data.extract ((addr % 16)+bytes.size) x.data.size)⟩:Wy)) hok hF2 omT (by first|exact omT|(rw[mB omT];exact omT)) (yN (P:=Wy.ok) (yN (P:=Wy.ok) (nG hso.2) ⟨hwo.line⟩) ⟨hwo.line⟩))<|rSt rfl<|oR 1 rfl<|rE 74<|cM ?_;subst hxw;rw[Aa bytes hF hse hx,if_neg omT,EE hw];exact fT rfl (by first|rfl|(simp only[lN];rfl))
theorem NS{α:Type}{f:α→α}{l:List α}{k:Nat}{x:α}(h:l[k]?=some x):l.modify k f=l.set k (f x):=by
 apply dF;intro i;rw[oL,mX];obtain⟨hk,rfl⟩:=DN.1 h;by_cases e:k=i
 ·subst e;simp[hk]
 ·simp[e]
theorem Dc{c:Ca}{line:Nat}{s:List Wy}(hF:(bF c line).2.isSome=true)(hs:pM c (bF c line).1=s):qN c line=nV c (bF c line).1 (s.modify ((bF c line).2.getD 0) λ w=>{w with dirty:=false}):=by
 unfold qN;obtain⟨j,hj⟩:=Fh.1 hF;have e:bF c line=((bF c line).1,some j):=by rw[←hj]
 rw[hj,e];simp only[hs];rfl
theorem Dd{c:Ca}{line:Nat}(hF:(bF c line).2.isSome=false):qN c line=c:=by
 unfold qN;have hj:(bF c line).2=none:=by simpa using hF
 have e:bF c line=((bF c line).1,none):=by rw[←hj]
 rw[e]
theorem HH(c:Ca)(line:Nat)(hok:c.ok)(hline:line≤4294967295):bV C0 122 [.agg (caL c false),vU line] (.agg (caL (qN c line) false)):=by
 refine dc1 (bV.intro c1Ok Tryz.func122 rfl rfl (by kernel_rfl) rfl ?_);have hFb:=Ax c line;refine cSR<|rAl 0 rfl rfl<|rAl 1 rfl rfl<|rE 2<|cSR<|oR 2 rfl<|rCi rfl (yL c line hok hline)<|oR 7 rfl<|rE 12<|bI<|cSR<|oR 2 rfl<|rE 14 ?_;refine aQ rfl (λ h1=>?_) (λ h1=>?_)
 ·have hF:(bF c line).2.isSome=false:=by simpa using h1
  refine cSR<|oR 1 rfl<|rSt rfl<|rE 16<|cM ?_;rw[Dd hF];exact eW rfl ⟨trivial,trivial,trivial⟩ rfl rfl
 ·have hF:(bF c line).2.isSome=true:=by simpa using h1
  obtain⟨hR,hF1,hF2,hF3⟩:=oO hF;obtain⟨hs0,hs4,hw2,hw1,hsw⟩:=kH hR;refine aY<|cSR<|oR 3 rfl ?_;obtain⟨s,hs⟩:∃ y_,c.sets[((bF c line).1)]?=some y_:=⟨_,aA omT⟩;have hso:=hok.set s (aB hs);have hse:=sI hs;rw[hse]at hF3;have hsl:s.length≤2:=by have:=hsw s (aB hs);omega
  have hfl:=mB hF3;refine rIx (bA s) (.dp 1 0 (bA s)) rfl rfl (fM hs) rfl<|oR 1 rfl<|rW (vN s.length) rfl (bJ wyL s)<|rFx (x:=.osl 20 0 s.length false) (h':=upd _ 20 (some (.arr ((List.replicate s.length pY).map wyL) 3))) rfl rfl (NT (eK (f:=wyL) (a:=pY)).symm) (⟨aG _,Fg.2 omT,by show ((s.length:Nat):Int)≤1000000;omega⟩)<|oR 1 rfl<|rE 22<|cSR<|oR 4 rfl<|rIx (bA s) (.dp 1 0 (bA s)) rfl rfl (fM hs) rfl<|oR 1 rfl<|rFx (x:=vI ((min ((s.map wyL).length) (s.length):Nat):Int)) (h':=upd _ 20 (some (.arr (s.map wyL) 3))) rfl rfl (Ia (DF wyL ((List.replicate s.length pY).map wyL) s omT omT)) (⟨by exact omT,trivial⟩)<|rE 29<|Dl<|cRg<|oR 2 rfl ?_;refine nW (.ptr2 20 (0+((bF c line).2.getD 0)) 0) rfl rfl (⟨aG _,Ff.2 (by show ((bF c line).2.getD 0)<s.length;exact omT)⟩)<|oR 1 rfl ?_;obtain⟨x,hx⟩:∃ y_,s[((bF c line).2.getD 0)]?=some y_:=⟨_,aA omT⟩;have hxo:=hso.2 x (aB hx);have hx1:(s.set ((bF c line).2.getD 0) (⟨x.line,false,x.data⟩:Wy))[((bF c line).2.getD 0)]?=some (⟨x.line,false,x.data⟩:Wy):=aR omT;refine nP (wyL x) (h':=upd _ 20 (some (.arr ((s.set ((bF c line).2.getD 0) (⟨x.line,false,x.data⟩:Wy)).map wyL) 3))) rfl rfl rfl (⟨aG _,Iz (fM hx)⟩) (vP (f:=wyL) (l:=s) (k:=((bF c line).2.getD 0)) (x:=(⟨x.line,false,x.data⟩:Wy)))<|rE 34<| .mk _ (.step (some (20,3,(s.set ((bF c line).2.getD 0) (⟨x.line,false,x.data⟩:Wy)).map wyL)) (Ghost.of_lists (l:=[(2,.ptr 0 0),(4,.ptr 1 0),(5,vN ((bF c line).1)),(17,vB (!((bF c line).2.isSome))),(8,.sl 3 ((s.set ((bF c line).2.getD 0) (⟨x.line,false,x.data⟩:Wy)).map wyL) false)]) (hp:=[(0,.box [vI c.ways,.sl 1 (c.sets.map bA) false]),(1,.box [vI 0,.sl 0 ([]) true])]) rfl rfT rbT) (.refl _))<|cSR<|oR 3 rfl<|rCi rfl (HE c ((bF c line).1) (s.set ((bF c line).2.getD 0) (⟨x.line,false,x.data⟩:Wy)) hok hF2 omT omT (yN (P:=Wy.ok) hso.2 ⟨hxo.line⟩))<|rSt rfl<|rE 39<|cM ?_;rw[Dc hF hse,NS hx];exact eW rfl ⟨trivial,trivial,trivial⟩ rfl rfl
section
variable {α:Type}{p:α→Bool}
theorem Qk{l:List α}{k:Nat}{x:α}(hx:l[k]?=some x)(hn:p x=false)(h:(l.take k).find? p=none):(l.take (k+1)).find? p=none:=by
 rw[bS,hx,jC,h];simp[hn]
theorem Ql{l:List α}{k:Nat}{x:α}(hx:l[k]?=some x)(hp:p x=true)(h:(l.take k).find? p=none):l.find? p=some x:=by
 have e:l=l.take (k+1)++l.drop (k+1):=(gF _ _).symm;rw[e,jC,bS,hx,jC,h];simp[hp]
theorem Tf{l:List α}{k:Nat}(hk:l.length≤k)(h:(l.take k).find? p=none):l.find? p=none:=by rwa [aI hk]at h
theorem Wm{L:List (List α)}{k:Nat}{s:List α}(hs:L[k]?=some s)(hn:s.find? p=none)(h:(L.take k).flatten.find? p=none):(L.take (k+1)).flatten.find? p=none:=by
 rw[bS,hs,oZ,jC,h];simpa using hn
theorem Wn{L:List (List α)}{k:Nat}{s:List α}{x:α}(hs:L[k]?=some s)(hn:s.find? p=some x)(h:(L.take k).flatten.find? p=none):L.flatten.find? p=some x:=by
 have e:L=L.take (k+1)++L.drop (k+1):=(gF _ _).symm;rw[e,oZ,jC,bS,hs,oZ,jC,h];simp[hn]
end
abbrev drA(o:Option Wy):AV:=.tup [.agg (wyL (o.getD pY)),vB o.isSome]
theorem HI(c:Ca)(hok:c.ok):bV C0 121 [.agg (caL c false)] (drA (cV c)):=by
 refine bV.intro c0Ok Tryz.func121 rfl rfl (by kernel_rfl) rfl<|cSR<|rAl 0 rfl rfl<|rAl 1 rfl rfl<|oR 1 rfl<|rE 3<|bI<|cSR<|oR 1 rfl<|rCi rfl (AA c false hok)<|oR 1 rfl<|rE 6 ?_;refine aQ rfl (λ h1=>?_) (λ h1=>?_)
 ·have hR:fI c=false:=by simpa using h1
  refine cSR<|rV (.agg [.v (.int .u32 0),vB false,.v (.string (⟨#[]⟩:ByteArray))]) rfl<|rSt rfl<|oR 1 rfl<|rE 9<|cM ?_;rw[show cV c=none from by unfold cV;rw[if_neg (by rw[hR];decide)]];exact fT rfl rfl
 ·have hR:fI c=true:=by simpa using h1
  obtain⟨hs0,hs4,hw2,hw1,hsw⟩:=kH hR;refine aY<|bI<|cSR<|oR 2 rfl<|rW (vN c.sets.length) rfl (bJ bA c.sets)<|oR 1 rfl<|rE 10<|bE<|jG (κ:=Nat) (λ k=>⟨slotsF [(2,.ptr 1 0),(10,vB (!(fI c))),(13,.sl 1 (c.sets.map bA) false),(14,vN c.sets.length),(15,vN k)],heapF [(0,.box [vI c.ways,.sl 1 (c.sets.map bA) false]),(1,.box [.v (.int .u32 0),vB false,.v (.string (⟨#[]⟩:ByteArray))])],10⟩) (λ k=>k≤c.sets.length∧(c.sets.take k).flatten.find? (·.dirty)=none) (λ k=>c.sets.length - k) 0 (λ s=>s) (Weak.of_lists (λ s=>s) wT wH rfl) (⟨aE _,rfl⟩) ?_;intro k hk;have hkn:k≤c.sets.length:=hk.1;have hkB:k≤1000000:=by omega
  refine cSR<|rW (vB (decide (k<c.sets.length))) rfl (okB (ltN _ _))<|rE 11<|bI ?_;refine aQ rfl (λ h2=>?_) (λ h2=>?_)
  ·have h2p:=of_decide_eq_true h2;refine aY<|bI<|bE<|cSR ?_;obtain⟨s,hs⟩:∃ y_,c.sets[k]?=some y_:=⟨_,aA omT⟩;have hso:=hok.set s (aB hs);have hsl:s.length≤2:=by have:=hsw s (aB hs);omega
   refine rIx (bA s) (.dp 1 0 (bA s)) rfl rfl (fM hs) rfl<|oR 2 rfl<|rE 14<|cSR<|oR 1 rfl<|rW (vN s.length) rfl (bJ wyL s)<|oR 1 rfl<|rE 17<|bE<|jG (κ:=Nat) (λ j=>⟨slotsF [(2,.ptr 1 0),(10,vB (!(fI c))),(13,.sl 1 (c.sets.map bA) false),(14,vN c.sets.length),(15,vN k),(16,vB (decide (k<c.sets.length))),(17,.dp 1 0 (bA s)),(18,.sl 3 (s.map wyL) false),(5,.sl 3 (s.map wyL) false),(19,.sl 3 (s.map wyL) false),(20,vN s.length),(21,vN j)],heapF [(0,.box [vI c.ways,.sl 1 (c.sets.map bA) false]),(1,.box [.v (.int .u32 0),vB false,.v (.string (⟨#[]⟩:ByteArray))])],17⟩) (λ j=>j≤s.length∧(s.take j).find? (·.dirty)=none) (λ j=>s.length - j) 0 (λ s=>s) (Weak.of_lists (λ s=>s) wT wH rfl) (⟨aE _,rfl⟩) ?_;intro j hj;have hjn:j≤s.length:=hj.1;have hjB:j≤1000000:=by omega
   refine cSR<|rW (vB (decide (j<s.length))) rfl (okB (ltN _ _))<|rE 18<|bI ?_;refine aQ rfl (λ h3=>?_) (λ h3=>?_)
   ·have h3p:=of_decide_eq_true h3;refine aY<|bI<|bE<|cSR ?_;obtain⟨x,hx⟩:∃ y_,s[j]?=some y_:=⟨_,aA omT⟩;have hxo:=hso.2 x (aB hx);refine rIx (wyL x) (.dp 3 0 (wyL x)) rfl rfl (fM hx) rfl<|oR 1 rfl<|rAl 20 rfl rfl<|rSt rfl<|rE 22<|cSR<|oR 2 rfl<|rE 24 ?_;refine aQ rfl (λ h4=>?_) (λ h4=>?_)
    ·refine cSR<|oR 1 rfl<|rSt rfl<|oR 1 rfl<|rE 27<|cM ?_;rw[show cV c=some x from by unfold cV;rw[if_pos hR];exact Wn hs (Ql hx h4 hj.2) hk.2];exact fT rfl rfl
    ·refine aY<|cRg ?_;have b1:j+1≤1000001:=aF hjB (aC 1);refine rW (vN (j+1)) rfl (okI (bL b1 rfl))<|oR 1 rfl<|rE 26 ?_;refine⟨j+1,λ s=>s,Weak.of_lists _ wT wH rfl,⟨by omega,Qk hx h4 hj.2⟩,by show s.length - (j+1)<s.length - j;omega⟩
   ·have h3p:=aD h3;refine dR<|cRg ?_;have b2:k+1≤1000001:=aF hkB (aC 1);refine rW (vN (k+1)) rfl (okI (bL b2 rfl))<|oR 1 rfl<|rE 20 ?_;refine⟨k+1,λ s=>s,Weak.of_lists _ wT wH rfl,⟨by omega,Wm hs (Tf omT hj.2) hk.2⟩,by show c.sets.length - (k+1)<c.sets.length - k;omega⟩
  ·have h2p:=aD h2;refine dR<|cSR<|rV (.agg [.v (.int .u32 0),vB false,.v (.string (⟨#[]⟩:ByteArray))]) rfl<|rSt rfl<|oR 1 rfl<|rE 14<|cM ?_;rw[show cV c=none from by unfold cV;rw[if_pos hR];have z:=hk.2;rwa [aI omT]at z];exact fT rfl rfl
end Go.Proofs.YtlhofpglndhfaaaGreatDoor
