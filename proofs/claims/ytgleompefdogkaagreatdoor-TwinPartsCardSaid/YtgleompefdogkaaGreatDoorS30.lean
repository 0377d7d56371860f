/- Joined texts. -/
import Derived.Test.YtgleompefdogkaaGreatDoorS1
import Derived.Test.YtgleompefdogkaaGreatDoorS22
import Derived.Test.YtgleompefdogkaaGreatDoorS24
import Derived.Test.YtgleompefdogkaaGreatDoorS28
import Derived.Test.YtgleompefdogkaaGreatDoorS29
set_option linter.unusedVariables false
set_option linter.unusedSimpArgs false
set_option linter.defProp false
namespace Go.Proofs.YtgleompefdogkaaGreatDoor
set_option maxRecDepth 100000
set_option maxHeartbeats 4000000
open Go.RowKit
def MT(l:List Nat)(k:Nat):(l.take k).sum<=l.sum:=by
 have:=congrArg List.sum (gC k l);rw[List.sum_append]at this;omega
noncomputable def CIR:Ctx:={P:=Tryz.prog,ty:=tys.find,G:=λ_=>none,H:=qE Tryz.prog (λ_=>none)}
def cirOk:CtxOk CIR:=⟨TT.find_ok tys Yp,by kernel_rfl,λ_ _ _ _ _ h=>h⟩
def Xe(p:Nat×Nat):List AV:=[vN p.1,vN p.2]
def Zf(f:Nat):Nat:=if 2<=f∧f<=7 then 2 else 0
def Wl(op:Int):cA CIR 131 [vI op] (vN (cS op)):=.of_flat Tryz.func131 rfl rfl rfl rfl λw=>(Cn op w).mono λ_ _ ⟨a,b⟩=>⟨a,b ▸ rM _⟩
def Yv(f:Nat)(hf:f<=8):cA CIR 130 [vN f] (.tup [vB (uS f),vB (pI f),vB (qK f)]):=.of_tup Tryz.func130 rfl rfl rfl rfl λw=>(Lm f hf w).mono λ_ _ ⟨a,b⟩=>⟨a,b ▸ rM _⟩
def DQ(x a n:Nat)(h1:1<=n)(h2:a+n<=32)(hx:x<4294967296):cA CIR 169 [vU x,vN a,vN n] (vU (field x a n)):=.of_flat Tryz.func169 rfl rfl rfl rfl λw=>Qp x a n w h1 h2 hx
def Yw(x a n v:Nat)(h1:1<=n)(h2:a+n<=32)(hx:x<4294967296)(hv:v<4294967296):cA CIR 154 [vU x,vN a,vN n,vU v] (vU (setf x a n v)):=.of_flat Tryz.func154 rfl rfl rfl rfl λw=>Qq x a n v w h1 h2 hx hv
def Wm(x n:Nat)(h1:1<=n)(h2:n<=32)(hx:x<4294967296):cA CIR 133 [vU x,vN n] (vU (sext x n)):=.of_flat Tryz.func133 rfl rfl rfl rfl λw=>Ii x n w h1 h2 hx
def Tu:cA CIR 133 [vU 0,vN 0] (vU 0):=.of_flat Tryz.func133 rfl rfl rfl rfl λw=>Ql w
def Yx(f:Nat)(hf:f<=8):cA CIR 152 [vN f] (.tup [.sl (Zf f) ((eB f).map Xe) true,vN (nV f)]):=by
 refine cA.intro cirOk Tryz.func152 rfl rfl (by kernel_rfl) rfl<|qS 0 rfl<|rW (vB (f==2)) rfl (okB (eqN _ _))<|qRC 0 rfl<|aS rfl (λh1=>?_) (λh1=>?_)
 ·refine qC 0 rfl<|rV (.agg [vI 20,vI 12]) rfl<|rV (.sl 2 ([[vI 20,vI 12]]) true) rfl<|qRF 0 rfl ?_;obtain rfl:f=2:=by have z:=h1;simp at z;omega
  exact dF rfl rcT rfl rfl
 ·refine qC 0 rfl<|rW (vB (f==3)) rfl (okB (eqN _ _))<|qRC 0 rfl<|aS rfl (λh2=>?_) (λh2=>?_)
  ·refine qC 0 rfl<|rV (.agg [vI 20,vI 5]) rfl<|rV (.sl 2 ([[vI 20,vI 5]]) true) rfl<|qRF 0 rfl ?_;obtain rfl:f=3:=by have z:=h2;simp at z;omega
   exact dF rfl rcT rfl rfl
  ·refine qC 0 rfl<|rW (vB (f==4)) rfl (okB (eqN _ _))<|qRC 0 rfl<|aS rfl (λh3=>?_) (λh3=>?_)
   ·refine qC 0 rfl<|rV (.agg [vI 7,vI 5]) rfl<|rV (.agg [vI 25,vI 7]) rfl<|rV (.sl 2 ([[vI 7,vI 5],[vI 25,vI 7]]) true) rfl<|qRF 0 rfl ?_;obtain rfl:f=4:=by have z:=h3;simp at z;omega
    exact dF rfl rcT rfl rfl
   ·refine qC 0 rfl<|rW (vB (f==5)) rfl (okB (eqN _ _))<|qRC 0 rfl<|aS rfl (λh4=>?_) (λh4=>?_)
    ·refine qC 0 rfl<|rV (.agg [vI 8,vI 4]) rfl<|rV (.agg [vI 25,vI 6]) rfl<|rV (.agg [vI 7,vI 1]) rfl<|rV (.agg [vI 31,vI 1]) rfl<|rV (.sl 2 ([[vI 8,vI 4],[vI 25,vI 6],[vI 7,vI 1],[vI 31,vI 1]]) true) rfl<|qRF 0 rfl ?_;obtain rfl:f=5:=by have z:=h4;simp at z;omega
     exact dF rfl rcT rfl rfl
    ·refine qC 0 rfl<|rW (vB (f==6)) rfl (okB (eqN _ _))<|qRC 0 rfl<|aS rfl (λh5=>?_) (λh5=>?_)
     ·refine qC 0 rfl<|rV (.agg [vI 12,vI 20]) rfl<|rV (.sl 2 ([[vI 12,vI 20]]) true) rfl<|qRF 0 rfl ?_;obtain rfl:f=6:=by have z:=h5;simp at z;omega
      exact dF rfl rcT rfl rfl
     ·refine qC 0 rfl<|rW (vB (f==7)) rfl (okB (eqN _ _))<|qRC 0 rfl<|aS rfl (λh6=>?_) (λh6=>?_)
      ·refine qC 0 rfl<|rV (.agg [vI 21,vI 10]) rfl<|rV (.agg [vI 20,vI 1]) rfl<|rV (.agg [vI 12,vI 8]) rfl<|rV (.agg [vI 31,vI 1]) rfl<|rV (.sl 2 ([[vI 21,vI 10],[vI 20,vI 1],[vI 12,vI 8],[vI 31,vI 1]]) true) rfl<|qRF 0 rfl ?_;obtain rfl:f=7:=by have z:=h6;simp at z;omega
       exact dF rfl rcT rfl rfl
      ·refine qCF 0 rfl ?_;have hz:f=0∨f=1∨f=8:=by simp at h1 h2 h3 h4 h5 h6;omega
       rcases hz with rfl|rfl|rfl<;>exact dF rfl rcT rfl rfl
def Yy(x rs:Nat)(ps:List (Nat×Nat))(ck:Bool)(hx:x<4294967296)(hrs:ps≠[]->rs=2)(hok:Ll ps)(hl:ps.length<=100):cA CIR 170 [vU x,.sl rs (ps.map Xe) ck] (.tup [vU (nU x ps).1,vN (nU x ps).2]):=by
 refine cA.intro cirOk Tryz.func170 rfl rfl (by kernel_rfl) rfl<|qS 0 rfl<|rW (vN ps.length) rfl (bT Xe ps)<|qRC 0 rfl<|jX (κ:=Nat) (λk=>⟨slotsF [(0,vU x),(10,.sl rs (ps.map Xe) ck),(11,vN ps.length),(12,vN k),(6,vU (((ps.take k).foldl (wB x) (0,0)).1)),(7,vN (((ps.take k).foldl (wB x) (0,0)).2))],heapF [],7⟩) (λk=>k<=ps.length) (λk=>ps.length-k) 0 (λs=>s) (Weak.of_lists (λs=>s) wT trivial rfl) (aE _) ?_;intro k hk;have hkB:k<=100:=by omega
 have hsk:uR (ps.take k)<=32:=aN (by unfold uR;rw[eZ];exact MT _ _) hok.2;have hi:=CM x (ps.take k) (0,0) (by show 0<4294967296;omega) (λp hp=>hok.1 p (cQ hp)) omT;have hu:((ps.take k).foldl (wB x) (0,0)).1<=4294967295:=by omega
 have hv2:((ps.take k).foldl (wB x) (0,0)).2=uR (ps.take k):=hi.2.trans (bF _);have hv:((ps.take k).foldl (wB x) (0,0)).2<=32:=by omega
 refine qS 0 rfl<|rW (vB (decide (k<ps.length))) rfl (okB (ltN _ _))<|qRC 0 rfl<|aS rfl (λh1=>?_) (λh1=>?_)
 ·skip
  obtain⟨p,hp⟩:∃p,ps[k]?=some p:=⟨_,aA (of_decide_eq_true h1)⟩;obtain rfl:=hrs (λz=>by subst z;cases hp);obtain⟨p1,p2⟩:=hok.1 p (aB hp);have hp1:p.1<=32:=by omega
  have hp2:p.2<=32:=by omega
  have hsz:uR (ps.take (k+1))<=32:=aN (by unfold uR;rw[eZ];exact MT _ _) hok.2;have hs2:uR (ps.take (k+1))=uR (ps.take k)+p.2:=by rw[bV,hp];simp[uR]
  have hfl:field x p.1 p.2<4294967296:=Nat.lt_of_lt_of_le (wZ _ _ _) (xA omT);refine qC 0 rfl<|rIx (Xe p) (.dp 2 0 (Xe p)) rfl rfl (fW hp) rfl<|qRC 0 rfl<|cRg<|oR 9 rfl<|rCi rfl (DQ x p.1 p.2 p1 p2 hx)<|rCi rfl (Yw ((ps.take k).foldl (wB x) (0,0)).1 ((ps.take k).foldl (wB x) (0,0)).2 p.2 (field x p.1 p.2) p1 omT omT hfl)<|oR 1 rfl<|rE 24 ?_;have b1:(((ps.take k).foldl (wB x) (0,0)).2)+p.2<=64:=aF hv hp2;refine qX 0 rfl<|rW (vN ((((ps.take k).foldl (wB x) (0,0)).2)+p.2)) rfl (okI (bJ b1 rfl)) ?_;have b2:k+1<=101:=aF hkB (aC 1);refine qR 0 rfl<|rW (vN (k+1)) rfl (okI (bJ b2 rfl))<|qRF 0 rfl<|⟨k+1,λs=>s,Weak.of_lists (λs=>s) ⟨⟨rfl,rfl⟩,⟨rfl,rfl⟩,⟨rfl,rfl⟩,⟨rfl,rfl⟩,⟨(congrArg (λz:Nat×Nat=>AV.v (.int .u32 (z.1:Int))) (EO (wB x) (0,0) ps k p hp).symm),rfl⟩,⟨(congrArg (λz:Nat×Nat=>AV.v (.int .i64 (z.2:Int))) (EO (wB x) (0,0) ps k p hp).symm),rfl⟩,trivial⟩ trivial rfl,of_decide_eq_true h1,by have:=of_decide_eq_true h1;omega⟩
 ·refine qCF 0 rfl<|qXF 0 rfl ?_;have hke:=aD h1;exact dF rfl rcT rfl (by rw[aM (show ps.length<=k by omega)];rfl)
def aaD{x c:Nat}(h:c<=32):IntKind.wrap .u32 ((x:Int)*2 ^ (min (Int.toNat (c:Int)) (IntKind.bits .u32)))=((x*2 ^ c%4294967296:Nat):Int):=by
 rw[Int.toNat_natCast,show min c (IntKind.bits .u32)=c from tB h];have e:((x*2 ^ c%4294967296:Nat):Int)=((x*2 ^ c:Nat):Int)%((4294967296:Nat):Int):=Int.natCast_emod _ _;rw[e,Int.natCast_mul,Int.natCast_pow];rfl
def Yz(f:Nat):nV f<=12:=by unfold nV;split<;>decide
def Tv(f x:Nat)(hf1:1<=f)(hf:f<=8)(h3:(f != 3)=true):cA CIR 133 [vU ((nU x (eB f)).1*2 ^ nV f%4294967296),vN ((nU x (eB f)).2+nV f)] (vU (Br f x)):=by
 have h3:f≠3:=by simpa using h3
 rw[(Bs x f).1];unfold Br;rw[if_neg h3];by_cases h:f=1∨f=8
 ·rw[if_pos h];rcases h with rfl|rfl<;>exact Tu
 ·rw[if_neg h];have hs:1<=uR (eB f)+nV f∧uR (eB f)+nV f<=32:=by
   have:f=2∨f=4∨f=5∨f=6∨f=7:=by omega
   rcases this with rfl|rfl|rfl|rfl|rfl<;>decide
  exact Wm _ _ hs.1 hs.2 omT
def Wn(op:Int)(x f:Nat)(hfo:cS op=f)(hf1:1<=f)(hf:f<=8)(hx:x<4294967296):cA CIR 149 [vI op,vU x] (.agg [vI op,vN (cond (uS f) (field x 7 5) 0),vN (cond (pI f) (field x 15 5) 0),vN (cond (qK f) (field x 20 5) 0),vU (Br f x)]):=by
 refine cA.intro cirOk Tryz.func149 rfl rfl (by kernel_rfl) rfl ?_;have hfrd:field x 7 5<=31:=aY (wZ x 7 5);have hfrs1:field x 15 5<=31:=aY (wZ x 15 5);have hfrs2:field x 20 5<=31:=aY (wZ x 20 5);have hZ:(nU x (eB f)).2<=32:=by rw[(Bs x f).1];exact(vH f).2
 have hpl:(eB f).length<=100:=by unfold eB;split<;>decide
 have hne:eB f≠[]->Zf f=2:=by unfold eB Zf;intro h;split at h<;>first|rfl|exact absurd rfl h
 refine qS 0 rfl<|rCi rfl (hfo ▸ Wl op)<|qR 0 rfl<|rV (.agg [vI op,vI 0,vI 0,vI 0,.v (.int .u32 0)]) rfl<|qR 0 rfl<|rCi rfl (Yv f hf)<|qRJ 0 0 rfl<|CO (κ:=Unit) (λu_=>⟨slotsF [(1,vU x),(4,.ptr 0 0),(5,vN f),(6,.ptr 6 0),(8,vB (pI f)),(9,vB (qK f))],heapF [(0,.box [vI 0,vI 0,vI 0,vI 0,.v (.int .u32 0)]),(6,.box [vI op,vN (cond (uS f) (field x 7 5) 0),vI 0,vI 0,.v (.int .u32 0)])],17⟩) (λu_=>True) ?_ ?_
 ·skip
  refine qSC 0 rfl<|aS rfl (λh1=>?_) (λh1=>?_)
  ·refine qC 0 rfl<|rCi rfl (DQ x 7 5 (by decide) (by decide) hx)<|rW (vN (field x 7 5)) rfl (okI (bJ hfrd rfl))<|qRF 0 rfl<| .mk _ (.refl _) ⟨(),λs=>s,Weak.of_lists (λs=>s) wT ⟨⟨rfl,rfl,rfl⟩,⟨rfl,(by rw[h1];rfl),rfl⟩,trivial⟩ rfl,rfl,trivial⟩
  ·skip
   refine qCF 0 rfl<| .mk _ (.refl _) ⟨(),λs=>s,Weak.of_lists (λs=>s) wT ⟨⟨rfl,rfl,rfl⟩,⟨rfl,(by rw[h1];rfl),rfl⟩,trivial⟩ rfl,rfl,trivial⟩
 ·intro u_ _;refine CO (κ:=Unit) (λu_=>⟨slotsF [(1,vU x),(4,.ptr 0 0),(5,vN f),(6,.ptr 6 0),(9,vB (qK f))],heapF [(0,.box [vI 0,vI 0,vI 0,vI 0,.v (.int .u32 0)]),(6,.box [vI op,vN (cond (uS f) (field x 7 5) 0),vN (cond (pI f) (field x 15 5) 0),vI 0,.v (.int .u32 0)])],17⟩) (λu_=>True) ?_ ?_
  ·skip
   refine qSC 0 rfl<|aS rfl (λh2=>?_) (λh2=>?_)
   ·refine qC 0 rfl<|rCi rfl (DQ x 15 5 (by decide) (by decide) hx)<|rW (vN (field x 15 5)) rfl (okI (bJ hfrs1 rfl))<|qRF 0 rfl<| .mk _ (.refl _) ⟨(),λs=>s,Weak.of_lists (λs=>s) wT ⟨⟨rfl,rfl,rfl⟩,⟨rfl,(by rw[h2];rfl),rfl⟩,trivial⟩ rfl,rfl,trivial⟩
   ·skip
    refine qCF 0 rfl<| .mk _ (.refl _) ⟨(),λs=>s,Weak.of_lists (λs=>s) wT ⟨⟨rfl,rfl,rfl⟩,⟨rfl,(by rw[h2];rfl),rfl⟩,trivial⟩ rfl,rfl,trivial⟩
  ·intro u_ _;refine CO (κ:=Unit) (λu_=>⟨slotsF [(1,vU x),(4,.ptr 0 0),(5,vN f),(6,.ptr 6 0)],heapF [(0,.box [vI 0,vI 0,vI 0,vI 0,.v (.int .u32 0)]),(6,.box [vI op,vN (cond (uS f) (field x 7 5) 0),vN (cond (pI f) (field x 15 5) 0),vN (cond (qK f) (field x 20 5) 0),.v (.int .u32 0)])],17⟩) (λu_=>True) ?_ ?_
   ·skip
    refine qSC 0 rfl<|aS rfl (λh3=>?_) (λh3=>?_)
    ·refine qC 0 rfl<|rCi rfl (DQ x 20 5 (by decide) (by decide) hx)<|rW (vN (field x 20 5)) rfl (okI (bJ hfrs2 rfl))<|qRF 0 rfl<| .mk _ (.refl _) ⟨(),λs=>s,Weak.of_lists (λs=>s) wT ⟨⟨rfl,rfl,rfl⟩,⟨rfl,(by rw[h3];rfl),rfl⟩,trivial⟩ rfl,rfl,trivial⟩
    ·skip
     refine qCF 0 rfl<| .mk _ (.refl _) ⟨(),λs=>s,Weak.of_lists (λs=>s) wT ⟨⟨rfl,rfl,rfl⟩,⟨rfl,(by rw[h3];rfl),rfl⟩,trivial⟩ rfl,rfl,trivial⟩
   ·intro u_ _;refine qC 0 rfl<|rCi rfl (Yx f hf)<|qR 0 rfl<|rCi rfl (Yy x (Zf f) (eB f) true hx hne (vH f) hpl)<|qR 0 rfl<|nW (vU ((nU x (eB f)).1*2 ^ nV f%4294967296)) rfl (IK (aaD (aN (Yz f) (by decide)))) (aH _)<|qRJ 0 0 rfl<|CO (κ:=Unit) (λu_=>⟨slotsF [(4,.ptr 0 0),(6,.ptr 6 0)],heapF [(0,.box [vI 0,vI 0,vI 0,vI 0,.v (.int .u32 0)]),(6,.box [vI op,vN (cond (uS f) (field x 7 5) 0),vN (cond (pI f) (field x 15 5) 0),vN (cond (qK f) (field x 20 5) 0),vU (Br f x)])],37⟩) (λu_=>True) ?_ ?_
    ·refine qS 0 rfl<|rW (vB (f != 3)) rfl (okB (neN _ _))<|qRC 0 rfl<|aS rfl (λh4=>?_) (λh4=>?_)
     ·skip
      have b1:((nU x (eB f)).2)+(nV f)<=44:=aF hZ (Yz f);refine qC 0 rfl<|rW (vN (((nU x (eB f)).2)+(nV f))) rfl (okI (bJ b1 rfl))<|rCi rfl (Tv f x hf1 hf h4)<|qRF 0 rfl<| .mk _ (.refl _) ⟨(),λs=>s,Weak.of_lists (λs=>s) wT wH rfl,rfl,trivial⟩
     ·skip
      refine qCF 0 rfl<| .mk _ (.refl _) ⟨(),λs=>s,Weak.of_lists (λs=>s) wT ⟨⟨rfl,rfl,rfl⟩,⟨rfl,(by rw[show f=3 by simpa using h4];rfl),rfl⟩,trivial⟩ rfl,rfl,trivial⟩
    ·intro u_ _;refine qCF 0 rfl ?_;exact dF rfl rcT rfl rfl
def CR:Qk:=λop x w hop hx=>by
 have h2:cS op≠0:=by unfold cS;repeat' (split<;>try omega)
 have h:=cA.flat (Wn op x (cS op) rfl (eP h2) (uM op) hx) (λ_ _ _ _ h=>by cases h) rfl rfl w;refine h.mono λe w' ⟨he,hB⟩=>⟨he.trans ?_,hB⟩;unfold SI.val lQ;cases uS (cS op)<;>cases pI (cS op)<;>cases qK (cS op)<;>rfl
def Io(x:Nat)(hx:x<4294967296):cA C0 116 [.v (.int .u32 (x:Int))] (.tup [siA (kJ x),.v (.int .i64 ((decE x:Nat):Int))]):=
 .of_tupG Tryz.func116 rfl rfl rfl rfl λS w hG=>NS CR x w (CL hG) hx
def isK(e:Ent)(k:Nat):Bool:=decide (kindOf e.i.op=k)
def uK(e:Ent)(a b:Nat):Nat:=if wr e.i=0 then 0 else rD e.i.op e.i.imm e.pc a b
def oW(e:Ent)(a b:Nat):Ent:=
 if e.is≠0∨kindOf e.i.op=3∨kindOf e.i.op=4 then e
 else if kindOf e.i.op=1 then {e with is:=1,value:=uK e a b,next:=up4 e.pc,left:=3}
 else if kindOf e.i.op=2 then {e with is:=1,value:=uK e a b,next:=up4 e.pc,took:=pW e.i.op a b,left:=pW e.i.op a b}
 else if kindOf e.i.op=5 then
  if iI e.i.op e.i.imm e.pc a b%4=0 then {e with is:=1,value:=uK e a b,next:=iI e.i.op e.i.imm e.pc a b,left:=1}
  else {e with is:=1,value:=0,next:=up4 e.pc,left:=1,halt:=3}
 else {e with is:=1,value:=uK e a b,next:=up4 e.pc,left:=1}
def goE(e:Ent):Ent:=
 if e.is≠1 then e
 else if wrap64 (e.left-1)<=0 then {e with left:=0,is:=3,known:=if kindOf e.i.op=5∧e.halt=0 then true else e.known}
 else {e with left:=wrap64 (e.left-1)}
def rI(e:Ent)(size:Int)(a:Nat):Ent:=
 if(kindOf e.i.op≠3∧kindOf e.i.op≠4)∨e.is≠0∨e.known=true then e
 else if iR size ((a+e.i.imm)%4294967296) (bC e.i.op)=true then {e with addr:=(a+e.i.imm)%4294967296,known:=true}
 else {e with addr:=(a+e.i.imm)%4294967296,halt:=if kindOf e.i.op=4 then 5 else 4,is:=3}
def sQ(e:Ent)(s:ByteArray):Ent:=
 if kindOf e.i.op≠3∨e.known=false∨(e.is≠0∧e.is≠2)then e
 else {e with is:=1,left:=1,value:=if wr e.i=0 then 0 else loadP e.i.op s}
def qY(e:Ent)(b:Nat):Ent:=
 if kindOf e.i.op≠4∨e.known=false∨e.is≠0 then e else {e with is:=3,value:=valB b (bC e.i.op)}
def bS(e:Ent):Sp:=
 if e.halt≠0 then⟨e.pc,e.pc,0,0,if e.halt=4∨e.halt=5 then e.addr else 0,0,false,e.halt,0⟩
 else if kindOf e.i.op=4 then⟨e.pc,up4 e.pc,wr e.i,e.value,e.addr,(bC e.i.op:Nat),true,0,0⟩
 else if kindOf e.i.op=3 then⟨e.pc,up4 e.pc,wr e.i,if wr e.i≠0 then e.value else 0,e.addr,(bC e.i.op:Nat),false,0,0⟩
 else if kindOf e.i.op=2 then⟨e.pc,up4 e.pc,wr e.i,if wr e.i≠0 then e.value else 0,0,0,false,0,e.took⟩
 else if kindOf e.i.op=5 then⟨e.pc,e.next,wr e.i,if wr e.i≠0 then e.value else 0,0,0,false,0,0⟩
 else⟨e.pc,up4 e.pc,wr e.i,if wr e.i≠0 then e.value else 0,0,0,false,0,0⟩
def Dx(o:Option Nat):Int:=match o with|some k=>k|none=> -1
def My(e:Ent):Bool:=decide (kindOf e.i.op=5)&&e.known&&decide (e.next≠e.guess)
def yB(rob:List Ent):Option Nat:=rob.findIdx? My
def Ce(rob:List Ent)(i:Nat):List Ent:=match rob[i]? with|some e=>rob.take i++[{e with guess:=e.next}]|none=>rob
def Ry(i:SI):Bool:=decide (1<=i.op)&&decide (i.op<=48)&&decide ((lQ i.op (xC i)).op=i.op)&&decide ((lQ i.op (xC i)).rd=i.rd)&&decide ((lQ i.op (xC i)).rs1=i.rs1)&&decide ((lQ i.op (xC i)).rs2=i.rs2)&&decide ((lQ i.op (xC i)).imm=i.imm)
def tR(e:Ent):Bool:=
 if e.is<0∨e.is>3 then false
 else if(e.is=1∧e.left<=0)∨(e.is≠1∧e.left≠0)then false
 else if e.is=2∧(kindOf e.i.op≠3∨e.known=false)then false
 else if e.halt≠0∧e.is≠3∧ ¬(e.is=1∧kindOf e.i.op=5∧e.halt=3)then false
 else if Ry e.i=true then true else decide (e.halt=1)||decide (e.halt=2)
def VQ(rob:List Ent)(i:Nat):Int:=match rob[i]? with|some e=>e.no|none=>0
def EF(rob:List Ent)(i:Nat):Bool:=match rob[i]? with|some e=>(i==0||decide (VQ rob (i-1)<e.no))&&tR e|none=>true
def Cg(rob:List Ent):Bool:=decide (rob.length<=8)&&(List.range rob.length).all (EF rob)
def oG(no:Int)(f:Ft)(prog:List Nat):Ent:=
 if(fetchP prog f.pc).isSome=false then {Ck with no:=no,pc:=f.pc,guess:=f.guess,halt:=1,is:=3}
 else if EM (fetchW prog f.pc)=0 then {Ck with no:=no,pc:=f.pc,guess:=f.guess,halt:=2,is:=3}
 else if(kJ (fetchW prog f.pc)).op=47 then {Ck with no:=no,pc:=f.pc,guess:=f.guess,i:=kJ (fetchW prog f.pc),halt:=6,is:=3}
 else if(kJ (fetchW prog f.pc)).op=48 then {Ck with no:=no,pc:=f.pc,guess:=f.guess,i:=kJ (fetchW prog f.pc),halt:=7,is:=3}
 else {Ck with no:=no,pc:=f.pc,guess:=f.guess,i:=kJ (fetchW prog f.pc)}
def Lb(rob:List Ent)(reg:Int)(k:Nat):Bool:=match rob[k]? with|some e=>decide (wr e.i=reg)|none=>false
def Au(rob:List Ent)(reg:Int):Nat->Option Nat
 |0=>none
 |n+1=>if Lb rob reg n=true then some n else Au rob reg n
def gU(rob:List Ent)(i:Nat)(reg:Int):Option Nat:=if reg<1∨reg>31 then none else Au rob reg (min i rob.length)
def kZ(rob:List Ent)(r:Nat->Nat)(i:Nat)(reg:Int):Option Nat:=
 if reg=0 then some 0
 else if reg<0∨reg>31 then none
 else match gU rob i reg with
  |none=>some (r reg.toNat)
  |some k=>match rob[k]? with
   |some e=>if e.is=3∧e.halt=0 then some e.value else none
   |none=>none
def lK(rob:List Ent)(r:Nat->Nat)(i:Nat):Nat×Nat×Bool:=
 match rob[i]? with
 |some e=>((kZ rob r i e.i.rs1).getD 0,(kZ rob r i e.i.rs2).getD 0,(kZ rob r i e.i.rs1).isSome&&(kZ rob r i e.i.rs2).isSome)
 |none=>(0,0,false)
def Lc(e:Ent):Bool:=if e.halt≠0 then false else if kindOf e.i.op=6 then false else if kindOf e.i.op=3∨kindOf e.i.op=4∨kindOf e.i.op=5 then e.known else true
def Ch(rob:List Ent):Nat:=rob.findIdx λe=> !Lc e
def vC(rob:List Ent)(i:Nat):Bool:=decide (i<=rob.length)&&decide (i<=Ch rob)
def tG(roots:List Int)(k:Option Nat):Int:=match k with|some k=>roots.getD k (-1)|none=> -1
def Dn(rob:List Ent)(roots:List Int)(k:Nat):Int:=
 match rob[k]? with
 |some e=>if kindOf e.i.op≠3 then max (tG roots (gU rob k e.i.rs1)) (tG roots (gU rob k e.i.rs2))else if k>Ch rob then k else -1
 |none=> -1
def eN(rob:List Ent):Nat->List Int
 |0=>[]
 |k+1=>eN rob k++[Dn rob (eN rob k) k]
def zM(rob:List Ent):List Int:=eN rob rob.length
def HZ(rob:List Ent)(i:Nat)(reg:Int):Bool:=match gU rob i reg with|some k=>decide (0<=(zM rob).getD k (-1))|none=>false
def Do(e:Ent):Bool:=decide (kindOf e.i.op=3∨kindOf e.i.op=4∨kindOf e.i.op=2∨kindOf e.i.op=5)
def qH(e:Ent):List Int:=if kindOf e.i.op=3∨kindOf e.i.op=4 then [e.i.rs1]else [e.i.rs1,e.i.rs2]
def Oq(mode:Int)(rob:List Ent)(i:Nat):Bool:=
 match rob[i]? with
 |none=>false
 |some e=>if Do e=false then true
  else if mode=0 then true
  else if mode=1 then(qH e).all λreg=> !HZ rob i reg
  else if mode=2 then vC rob i
  else false
structure Std where
 addr:Nat
 size:Nat
 data:ByteArray
 there:Bool
def EG(e:Ent):Std:=⟨e.addr,bC e.i.op,jH e.value (bC e.i.op),decide (e.is=3)⟩
def CH(p:Pt):Std:=⟨p.addr,p.data.size,p.data,true⟩
def Fy(rob:List Ent)(stores:List Pt):List Std:=((rob.filter λe=>isK e 4).map EG).reverse++(stores.map CH).reverse
def FA(a n b m:Nat):Bool:=decide (0<n)&&decide (0<m)&&decide (a<b+m)&&decide (b<a+n)
def EH(a n b m:Nat):Bool:=decide (0<m)&&decide (a<=b)&&decide (b+m<=a+n)
def xJ(at_ n:Nat):List Std->Int×ByteArray
 |[]=>(2,oX)
 |s::l=>if FA s.addr s.size at_ n=false then xJ at_ n l
  else if EH s.addr s.size at_ n=false∨s.there=false then(0,oX)
  else(1,s.data.extract (at_-s.addr) (at_-s.addr+n))
def Av(e:Ent):Bool:=isK e 4&&(!e.known||decide (e.halt≠0))
def lD(rob:List Ent)(stores:List Pt)(i:Nat):Int×ByteArray:=
 match rob[i]? with
 |none=>(0,oX)
 |some e=>if kindOf e.i.op≠3 then(0,oX)
  else if(rob.take i).any Av=true then(0,oX)
  else xJ e.addr (bC e.i.op) (Fy (rob.take i) stores)
def lL(r:Nat->Nat)(s:Sp):Nat->Nat:=if 1<=s.rd∧s.rd<=31∧s.halt=0 then setR r s.rd.toNat s.value else r
def gD(s:Sp):Option Pt:=if s.store=false∨s.halt≠0∨(s.size≠1∧s.size≠2∧s.size≠4)then none else some ⟨s.addr,jH s.value s.size.toNat⟩
def gV(c:Ca)(q:List Req)(m:ByteArray)(line:Nat)(left:Int):Ca×List Req×Bool:=
 if fS c=false then(c,q,false)
 else if(bG c (lineOf line)).2.isSome=true then(oK c (lineOf line),q,false)
 else match pC c (lineOf line) (Fl (jR q m) (lineOf line)) false with
  |(d,gone,went)=>if went=true∧gone.dirty=true∧gone.data.size≠0 then(d,xK q 4 gone.line left gone.data,true)else(d,q,false)
def nO(stores:List Pt)(c:Ca):List Pt×Ca×Bool:=
 match stores with
 |[]=>(stores,c,false)
 |p::l=>if(tV c p.addr p.data).2=true then(l,(tV c p.addr p.data).1,true)else(stores,c,false)
def iU(c:Co)(kind:Int)(line:Nat)(data:ByteArray):Co:={c with bus:=xK c.bus kind line (kM c.conf c.asked) data,asked:=wrap64 (c.asked+1)}
def qZ(c:Co)(first:Bool):Bool:=if first=true then decide ((mZ c.bus:Int)<c.conf.slots)else decide ((mZ c.bus:Int)<c.conf.slots-1)
def fC(c:Co)(line:Nat):Co:=
 match gV c.data c.bus c.mem line (kM c.conf c.asked)with
 |(d,q,asked)=>{c with data:=d,bus:=q,asked:=if asked=true then wrap64 (c.asked+1)else c.asked}
def VR(c:Co):ByteArray:=Yl c.stores c.data c.bus c.mem
def oJ(c:Co)(e:Ent):ByteArray:=if iR ((VR c).size:Int) e.addr (bC e.i.op:Nat)=true then rJ (VR c) e.addr (bC e.i.op)else oX
def uL(c:Co)(line:Nat)(e:Ent):Ent:=if e.is=2∧lineOf e.addr=line then sQ {e with filled:=true} (oJ c e)else e
def Bp(c:Co)(x:Req):Co:=
 if x.kind=1 then {c with rob:=c.rob.map (uL c x.line)}
 else if x.kind=2 then {c with words:=(pC c.words x.line oX false).1}
 else if x.kind=3 then fC c x.line
 else if x.kind=4 then {c with mem:=qP c.mem [⟨x.line,x.data⟩]}
 else c
def jO(c:Co):Co:=
 match eA c.bus with
 |(q,x,ok)=>if ok=true then Bp {c with bus:=q} x else {c with bus:=q}
def storeAt(r:Nat->Nat)(rob:List Ent)(i:Nat):List Ent:=
 match rob[i]? with
 |some e=>if kindOf e.i.op=4 then(match kZ rob r i e.i.rs2 with|some b=>rob.set i (qY e b)|none=>rob)else rob
 |none=>rob
def cK(r:Nat->Nat)(rob:List Ent):Nat->List Ent
 |0=>rob
 |k+1=>storeAt r (cK r rob k) k
def dA(c:Co):List Ent:=cK c.r (c.rob.map goE) c.rob.length
def gZ(c:Co):Co:=
 if c.halt≠0 then c
 else match yB (dA c)with
  |some i=>{c with rob:=Ce (dA c) i,fetch:=(match(dA c)[i]? with|some e=>e.next|none=>0),fetched:=[],stop:=false}
  |none=>{c with rob:=dA c}
def tS(c:Co)(s:Sp):Co:={c with retired:=c.retired++[s],halt:=s.halt,rob:=[],fetched:=[],stop:=true}
def vG(c:Co)(e:Ent)(s:Sp):Co:=if kindOf e.i.op=3 then fC c s.addr else c
def fM(c:Co)(s:Sp):Co:={c with retired:=c.retired++[s],stores:=(match gD s with|some p=>c.stores++[p]|none=>c.stores)}
def vZ(c:Co)(e:Ent)(s:Sp)(l:List Ent):Co:=
 {vG (fM c s) e s with r:=lL c.r s,guess:=fR c.guess s.pc s.next e.i,rob:=l}
def dW:Nat->Co->Co
 |0,c=>c
 | n+1,c=>
  if c.halt≠0 then c
  else match c.rob with
   |[]=>c
   |e::l=>
    if e.is≠3 then c
    else if(bS e).halt≠0 then tS c (bS e)
    else if(bS e).store=true∧(c.stores.length:Int)>=c.conf.stores then c
    else dW n (vZ c e (bS e) l)
def dP(c:Co):Co:=dW c.conf.width.toNat c
def Ci(c:Co)(i:Nat):Bool:=
 match c.rob[i]? with
 |none=>false
 |some e=>
  if e.is≠0 then false
  else if kindOf e.i.op=3 then e.known||((kZ c.rob c.r i e.i.rs1).isSome&&Oq c.conf.mode c.rob i)
  else if kindOf e.i.op=4 then !e.known&&(kZ c.rob c.r i e.i.rs1).isSome&&Oq c.conf.mode c.rob i
  else(lK c.rob c.r i).2.2&&Oq c.conf.mode c.rob i
def JA(c:Co)(line:Nat):Bool:=(bG c.data line).2.isSome||c.rob.any λe=>e.filled&&decide (lineOf e.addr=line)
def setE(c:Co)(i:Nat)(e:Ent):Co:={c with rob:=c.rob.set i e}
def kL(c:Co)(i:Nat):Co:=
 match c.rob[i]? with
 |none=>c
 |some e=>
  if e.known=false then c
  else if(lD c.rob c.stores i).1=1 then setE c i (sQ e (lD c.rob c.stores i).2)
  else if(lD c.rob c.stores i).1≠2 then c
  else if JA c (lineOf e.addr)=true then setE c i (sQ e (oJ c e))
  else if DN c.bus (lineOf e.addr) 1=true then setE c i {e with is:=2}
  else if qZ c (vC c.rob i)=true∧DN c.bus (lineOf e.addr) 3=false then setE (iU c 1 (lineOf e.addr) oX) i {e with is:=2}
  else c
def fD(c:Co)(i:Nat):Co:=
 match c.rob[i]? with
 |none=>c
 |some e=>
  if kindOf e.i.op=4 then setE c i (rI e c.mem.size (lK c.rob c.r i).1)
  else if kindOf e.i.op=3 then kL (setE c i (rI e c.mem.size (lK c.rob c.r i).1)) i
  else setE c i (oW e (lK c.rob c.r i).1 (lK c.rob c.r i).2.1)
def Dy(e:Ent):Bool:=decide (kindOf e.i.op=2)&&decide (e.is=1)
def Aw(c:Co):List Int:=c.rob.map λe=>(kindOf e.i.op:Int)
def zN(c:Co):List Bool:=(List.range c.rob.length).map (Ci c)
def eW(c:Co):Co:=if c.halt≠0 then c else(pickOf c.conf.width (c.rob.any Dy) (Aw c) (zN c)).foldl fD c
def jP:Nat->Co->Co
 |0,c=>c
 | n+1,c=>
  if(c.rob.length:Int)>=c.conf.rob then c
  else match c.fetched with
   |[]=>c
   |f::l=>jP n {c with rob:=c.rob++[oG c.next f c.prog],next:=wrap64 (c.next+1),fetched:=l}
def iP(c:Co):Co:=if c.halt≠0 then c else jP c.conf.width.toNat c
def cN(c:Co)(w:Nat):Co×Nat:=
 if EM w=0∨kindOf (kJ w).op≠5 then(c,up4 c.fetch)
 else if c.conf.tables=true then(c,wY c.guess c.fetch (kJ w))
 else({c with guessed:=wrap64 (c.guessed+1)},yF c.conf c.guessed c.fetch)
def Ld(c:Co)(n:Nat):Co:={c with fetched:=c.fetched++[⟨c.fetch,n⟩],fetch:=n}
def eC:Nat->Co->Co
 |0,c=>c
 | n+1,c=>
  if c.stop=true∨(c.fetched.length:Int)>=c.conf.queue then c
  else if(fetchP c.prog c.fetch).isSome=false then {c with fetched:=c.fetched++[⟨c.fetch,up4 c.fetch⟩],stop:=true}
  else if(bG c.words (lineOf c.fetch)).2.isSome=false then
   (if DN c.bus (lineOf c.fetch) 2=false∧qZ c false=true then iU c 2 (lineOf c.fetch) oX else c)
  else
   eC n (Ld (cN {c with words:=oK c.words (lineOf c.fetch)} (fetchW c.prog c.fetch)).1 (cN {c with words:=oK c.words (lineOf c.fetch)} (fetchW c.prog c.fetch)).2)
def dS(c:Co):Co:=if c.halt≠0 then c else eC c.conf.width.toNat c
def aZ(c:Co):Co:={c with stores:=(nO c.stores c.data).1,data:=(nO c.stores c.data).2.1}
def mO(c:Co):Co:=
 match c.stores with
 |[]=>c
 |p::_=>if DN c.bus (lineOf p.addr) 3=false∧qZ c true=true then iU c 3 (lineOf p.addr) oX else c
def mD(c:Co):Co:=
 match cT c.data with
 |some w=>if w.data.size≠0 then {iU c 4 w.line w.data with data:=qO c.data w.line}else c
 |none=>c
def kH(c:Co):Co:=if c.stores≠[]∨c.halt=0 then c else mD c
def pT(c:Co):Co:=
 match c.stores with
 |[]=>kH (aZ c)
 |_::_=>if(nO c.stores c.data).2.2=true then kH (aZ c)else kH (mO (aZ c))
def yC(c:Ca)(f:Cf):Bool:=fS c&&decide ((c.sets.length:Int)=f.sets)&&decide (c.ways=f.ways)
def iA(c:Co):Bool:=
 wA c.conf&&decide (c.prog.length<=64)&&(c.mem.toList==(sW c.mem).toList)&&Cg c.rob&&decide ((c.rob.length:Int)<=c.conf.rob)&&(c.rob.all λe=>decide (e.no<c.next))&&yC c.data c.conf&&yC c.words c.conf&&sR c.guess&&decide ((c.fetched.length:Int)<=c.conf.queue)&&decide ((c.stores.length:Int)<=c.conf.stores)&&c.stores.all λp=>iR c.mem.size p.addr p.data.size
def Qd(c:Co):Co:=pT (dS (iP (eW (dP (gZ (jO {c with cycle:=wrap64 (c.cycle+1)}))))))
def lM(c:Co):Co:=if iA c=true then Qd c else c
def pB(c:Co):Nat->Co
 |0=>c
 |n+1=>lM (pB c n)
noncomputable def C1:Ctx:={C0 with lt:=true}
def c1Ok:CtxOk C1:=⟨c0Ok.1,c0Ok.2,c0Ok.3⟩
def dc1{f:FuncId}{args:List AV}{r:AV}(h:cA C1 f args r):cA C0 f args r:=h
def w64(x:Int):IntKind.wrap .i64 x=wrap64 x:=by rw[IntKind.wrap_i64];simp only[wrap64]
theorem cOr(c y:Bool):cR c true y=(c||y):=by cases c<;>rfl
theorem qG(c x:Bool):cR c x false=(c&&x):=by cases c<;>rfl
def sP{p q:Prop}(h:p)(t:p->q:=by intro h;(try simp only[w64,cOr,qG,dI,aJ,dH,kD,pY,qB,ne_eq,bA,gY,bB,lU,eI,Bool.not_eq_false,Bool.not_eq_eq_eq_not,lY,Bool.not_false,Decidable.not_not]at h);exact h):q:=t h
abbrev zCo:List AV:=[vI 0,vI 0,vI 0,vI 0,vI 0,vI 0,vI 0,vI 0,.sl 0 ([]) true,vB false,.sl 0 ([]) true,.sl 0 ([]) true,vI 0,zU,zU,zU,zU,zU,zU,zU,zU,zU,zU,zU,zU,zU,zU,zU,zU,zU,zU,zU,zU,zU,zU,zU,zU,zU,zU,zU,zU,zU,zU,zU,zU,zU,vB false,.sl 0 ([]) true,.sl 0 ([]) true,vI 0,.sl 0 ([]) true,vI 0,.sl 0 ([]) true,vI 0,.sl 0 ([]) true,.sl 0 ([]) true,vI 0,vI 0,.v (.string (⟨#[]⟩:ByteArray)),.sl 0 ([]) true,zU,.sl 0 ([]) true,vI 0,.sl 0 ([]) true]
def mW{α:Type}[BEq α][LawfulBEq α]{a b:α}(h:(a==b)=true):a=b:=eq_of_beq h
def mX{α:Type}[BEq α][LawfulBEq α]{a b:α}(h:(a==b)=false): ¬a=b:=λe=>by rw[e,beq_self_eq_true]at h;cases h
def xH{α:Type}[BEq α][LawfulBEq α]{a b:α}(h:(a != b)=true): ¬a=b:=λe=>by rw[e]at h;simp at h
def xI{α:Type}[BEq α][LawfulBEq α]{a b:α}(h:(a != b)=false):a=b:=by simpa using h
def vX{α:Type}(f:α->List AV)(l:List α){n:Nat}(h:l.length=n):Res.ok (.v (.int .i64 ((l.map f).length:Int)))=.ok (.v (.int .i64 (n:Int))):=by rw[aG,h]
def IE{α:Type}{l:List α}{k:Nat}{x:α}(h:l[k]?=some x):l[0+k]?=some x:=by rwa [bF]
def Qc{p:Prop}{x:AV}{h:AH}{b rs:Nat}{r r':List (List AV)}(e:r=r'):Res.fx p x (upd h b (some (.arr r rs)))=.fx p x (upd h b (some (.arr r' rs))):=by rw[e]
def vY{α:Type}{f:α->List AV}{l:List α}{k:Nat}{x:α}{h:AH}{b rs:Nat}:some (upd h b (some (.arr ((l.map f).set (0+k) (f x)) rs)))=some (upd h b (some (.arr ((l.set k x).map f) rs))):=by rw[bF,List.map_set]
def zB{p:Prop}{rs:Nat}{r r':List (List AV)}{c:Bool}(e:r=r'):Res.need p (.sl rs r c)=.need p (.sl rs r' c):=by rw[e]
def KZ{p:Prop}{s lo lo' n n':Nat}{c:Bool}(e:lo=lo')(e':n=n'):Res.need p (.osl s lo n c)=.need p (.osl s lo' n' c):=by rw[e,e']
section
variable {α:Type}(f:α->List AV)
section
variable (l:List α)
def wX(H:Nat):List.drop 0 (List.take H (l.map f))=(l.take H).map f:=by rw[cB,eZ]
def Jy(L:Nat):List.drop L (List.take (l.map f).length (l.map f))=(l.drop L).map f:=by rw[cM,kI]
def La{p:Prop}{H:AH}{s rs m:Nat}{c:List (List AV)}(hl:c.length=m):Res.fx p (.osl s 0 c.length false) (upd H s (some (.arr c rs)))=.fx p (.osl s 0 m false) (upd H s (some (.arr c rs))):=by rw[hl]
def jN{p:Prop}{H:AH}{s rs n m:Nat}(B:List α)(h1:l.length=n)(h2:l.length+B.length=m):
  Res.fx p (.osl s 0 ((List.take n (List.drop 0 (l.map f))).length+(B.map f).length) false) (upd H s (some (.arr (List.take n (List.drop 0 (l.map f))++B.map f) rs)))=.fx p (.osl s 0 m false) (upd H s (some (.arr ((l++B).map f) rs))):=by
 rw[cB,aM (by rw[aG,h1];exact aC _),aG,aG,h2,dY]
def At{p:Prop}{H:AH}{s rs m:Nat}(B:List α)(h2:l.length+B.length=m):
  Res.fx p (.osl s 0 ((l.map f).length+(B.map f).length) false) (upd H s (some (.arr (l.map f++B.map f) rs)))=.fx p (.osl s 0 m false) (upd H s (some (.arr ((l++B).map f) rs))):=by
 rw[aG,aG,h2,dY]
def SX{p:Prop}{H:AH}{s rs lo n m:Nat}(B:List α)(h2:((l.drop lo).take n).length+B.length=m):
  Res.fx p (.osl s 0 ((List.take n (List.drop lo (l.map f))).length+(B.map f).length) false) (upd H s (some (.arr (List.take n (List.drop lo (l.map f))++B.map f) rs)))=.fx p (.osl s 0 m false) (upd H s (some (.arr ((((l.drop lo).take n)++B).map f) rs))):=by
 rw[<-h2,dY,eZ,kI,aG];simp only[aL,aU,aG]
end
def DL{n:Nat}(X:List (List AV))(B:List α)(hB:B.length=n)(hX:X.length=n):X.take 0++(B.map f).take (min (B.map f).length n)++X.drop (0+min (B.map f).length n)=B.map f:=by
 rw[aG,hB,Nat.min_self,pZ,iZ,cC (by omega),dR,aM (by rw[aG];omega)]
section
variable (l:List α)
def Cc{lo n:Nat}{M:List α}(h:(l.drop lo).take n=M):List.take n (List.drop lo (l.map f))=M.map f:=by rw[<-h,eZ,kI]
def kG{n:Nat}(h:l.length<=n):List.take n (List.drop 0 (l.map f))=l.map f:=by rw[cB,aM (by rw[aG];exact h)]
end
end
def HQ{α:Type}{f:α->List AV}{l:List α}{b rs lo n:Nat}{c:Bool}(h:lo+n<=l.length):LeZ (some (b,rs,l.map f)) (.osl b lo n c) (.sl rs (((l.drop lo).take n).map f) false):=by
 have:=LeZ.frz (fz:=some (b,rs,l.map f)) b rs lo n (l.map f) c false rfl (by rw[aG];exact h) (λh=>by cases h);rw[eZ,kI];exact this
def mY{α:Type}{f:α->List AV}{l:List α}{b rs n:Nat}{c:Bool}(h:l.length=n):LeZ (some (b,rs,l.map f)) (.osl b 0 n c) (.sl rs (l.map f) false):=by
 have:=HQ (f:=f) (b:=b) (rs:=rs) (c:=c) (l:=l) (lo:=0) (n:=n) (by omega)
 rwa [cB,aM (by omega)]at this
def rfT{p:Prop}(h:p:=by repeat (first|exact trivial|refine⟨.refl _,?_⟩|refine⟨HQ (by exact omT),?_⟩|refine⟨mY (by exact omT),?_⟩)):p:=h
def AQ{α:Type}{P:α->Prop}{l:List α}{n:Nat}(h:∀x∈l,P x):∀x∈l.take n,P x:=λx hx=>h x (cQ hx)
def HY{α:Type}{P:α->Prop}{l:List α}{n:Nat}(h:∀x∈l,P x):∀x∈l.drop n,P x:=λx hx=>h x (eO hx)
def sM{α:Type}{P:α->Prop}{l m:List α}(h:∀x∈l,P x)(h':∀x∈m,P x):∀x∈l++m,P x:=λx hx=>(al_List_mem_append.1 hx).elim (h x) (h' x)
def sN{α:Type}{P:α->Prop}{y:α}(h:P y):∀x∈[y],P x:=λx hx=>by rw[uO]at hx;rw[hx];exact h
def zC{α:Type}{P:α->Prop}{l:List α}{k:Nat}{y:α}(h:∀x∈l,P x)(h':P y):∀x∈l.set k y,P x:=λx hx=>(List.mem_or_eq_of_mem_set hx).elim (h x) λe=>e ▸ h'
theorem qE.frame0{P:Program}{G:Nat->Option (List AV)}{f:FuncId}{args:List AV}{rows:List (List AV)}{rs lo n:Nat}{cl:Bool}(H:qE P G f args (heapF []) 0 (λx h'=>x=.osl 0 lo n cl∧h'=heapF [(0,.arr rows rs)]))(K:AH)(s2:Nat)(ha:eR args=true):
  qE P G f args K s2 (λx h'=>x=.osl s2 lo n cl∧h'=upd K s2 (some (.arr rows rs))):=by
 have:=H.frame (λx=>x) K s2 rfl (λx hx=>absurd rfl hx) (λx blk hx=>by cases hx) (λx y hx=>absurd hx (dD _)) (kP 0 args ha) (λx h'=>x=.osl s2 lo n cl∧h'=upd K s2 (some (.arr rows rs))) λr h' hP=>?_
 ·rwa [nQ _ args ha]at this
 ·obtain⟨rfl,rfl⟩:=hP;refine⟨_,⟨by simp[uX,wD],rfl⟩,λy blk hy=>?_⟩;by_cases he:y=s2
  ·subst he;rw[cZ]at hy;injection hy with hy;exact .inl ⟨0,.arr rows rs,rfl,(wD _ _ _).symm,by subst hy;rfl⟩
  ·rw[cH _ _ he]at hy;exact .inr ⟨hy,λx hx=>absurd hx (dD _)⟩
theorem qE.frameO{P:Program}{G:Nat->Option (List AV)}{f:FuncId}{args:List AV}{rows rows2:List (List AV)}{rs rs2 n:Nat}(H:qE P G f args (heapF [(0,.arr rows rs)]) 1 (λx h'=>x=.osl 1 0 n false∧h'=heapF [(0,.arr rows rs),(1,.arr rows2 rs2)]))(b:Nat)(K:AH)(s2:Nat)(hb:Nat.blt b s2=true)(hK:K b=some (.arr rows rs))(ha:mM 1 args=true):
  qE P G f (Bb (λ_=>b) args) K s2 (λx h'=>x=.osl s2 0 n false∧h'=upd K s2 (some (.arr rows2 rs2))):=by
 have hb:=aP hb;refine H.frame (λ_=>b) K s2 rfl (λx hx=>?_) (λx blk0 hx=>?_) (λx y hx hy _=>by omega) ha _ λr' h' hP=>?_
 ·cases x with
  |zero=>omega
  |succ x=>exact absurd rfl hx
 ·cases x with
  |zero=>injection hx with hx;subst hx;exact⟨hb,rfl,hK⟩
  |succ x=>cases hx
 ·obtain⟨rfl,rfl⟩:=hP;refine⟨_,⟨by simp[uX,wD],rfl⟩,λy blk0 hy=>?_⟩;by_cases he:y=s2
  ·subst he;rw[cZ]at hy;injection hy with hy;exact .inl ⟨1,.arr rows2 rs2,rfl,(wD _ _ _).symm,by subst hy;rfl⟩
  ·rw[cH _ _ he]at hy;by_cases hyb:y=b
   ·subst hyb;rw[hK]at hy;injection hy with hy;exact .inl ⟨0,.arr rows rs,rfl,rfl,by subst hy;rfl⟩
   ·exact .inr ⟨hy,λx hx e=>hyb e.symm⟩
abbrev zT(b:Bool):List AV:=[.v (.bool b)]
structure Ent.ok(e:Ent):Prop where
 pc:e.pc<=4294967295
 imm:e.i.imm<=4294967295
 guess:e.guess<=4294967295
 value:e.value<=4294967295
 next:e.next<=4294967295
 addr:e.addr<=4294967295
structure Req.ok(x:Req):Prop where
 line:x.line<=4294967295
structure Pt.ok(x:Pt):Prop where
 addr:x.addr<=4294967295
structure Ft.ok(x:Ft):Prop where
 pc:x.pc<=4294967295
 guess:x.guess<=4294967295
structure Gs.ok(x:Gs):Prop where
 pc:x.pc<=4294967295
 next:x.next<=4294967295
structure Sp.ok(x:Sp):Prop where
 pc:x.pc<=4294967295
 next:x.next<=4294967295
 value:x.value<=4294967295
 addr:x.addr<=4294967295
def Dm{a b B:Nat}(h:b<=a)(h2:a<=B)(hB:Nat.ble B 9223372036854775807=true):IntKind.wrap .i64 ((a:Int)-(b:Int))=((a-b:Nat):Int):=by
 have:=aP hB;rw[wrap_i64 (by omega) (by omega)];omega
def Yd(a b:Nat):Int.tmod (a:Int) (b:Int)=((a%b:Nat):Int):=qD a b |>.symm
def Cd{a:Nat}(h:a<=4294967295):a<4294967296:=bQ h
def oV{e e':Ent}(h:e=e'):AV.agg (enL e)=.agg (enL e'):=by rw[h]
def Dw{e e':Sp}(h:e=e'):AV.agg (spL e)=.agg (spL e'):=by rw[h]
def dM{b b':Bool}(h:b=b'):AV.v (.bool b)=.v (.bool b'):=by rw[h]
def Mx{b b':Int}(h:b=b'):AV.v (.int .i64 b)=.v (.int .i64 b'):=by rw[h]
def Gw{b b':Nat}(h:b=b'):AV.v (.int .u32 (b:Int))=.v (.int .u32 (b':Int)):=by rw[h]
abbrev Jz(r:Nat->Nat):List AV:=[.v (.int .u32 (r 0:Int)),.v (.int .u32 (r 1:Int)),.v (.int .u32 (r 2:Int)),.v (.int .u32 (r 3:Int)),.v (.int .u32 (r 4:Int)),.v (.int .u32 (r 5:Int)),.v (.int .u32 (r 6:Int)),.v (.int .u32 (r 7:Int)),.v (.int .u32 (r 8:Int)),.v (.int .u32 (r 9:Int)),.v (.int .u32 (r 10:Int)),.v (.int .u32 (r 11:Int)),.v (.int .u32 (r 12:Int)),.v (.int .u32 (r 13:Int)),.v (.int .u32 (r 14:Int)),.v (.int .u32 (r 15:Int)),.v (.int .u32 (r 16:Int)),.v (.int .u32 (r 17:Int)),.v (.int .u32 (r 18:Int)),.v (.int .u32 (r 19:Int)),.v (.int .u32 (r 20:Int)),.v (.int .u32 (r 21:Int)),.v (.int .u32 (r 22:Int)),.v (.int .u32 (r 23:Int)),.v (.int .u32 (r 24:Int)),.v (.int .u32 (r 25:Int)),.v (.int .u32 (r 26:Int)),.v (.int .u32 (r 27:Int)),.v (.int .u32 (r 28:Int)),.v (.int .u32 (r 29:Int)),.v (.int .u32 (r 30:Int)),.v (.int .u32 (r 31:Int))]
def ldL(r:Nat->Nat)(n:Nat)(hn:n<32):okO (Km (Jz r) (0+n*1))=.ok (.v (.int .u32 (r n:Int))):=by
 have:∀(n:_root_.Fin 32),okO (Km (Jz r) (0+n.1*1))=.ok (.v (.int .u32 (r n.1:Int))):=by
  intro n
  match n with
  |⟨0,_⟩=>rfl
  |⟨1,_⟩=>rfl
  |⟨2,_⟩=>rfl
  |⟨3,_⟩=>rfl
  |⟨4,_⟩=>rfl
  |⟨5,_⟩=>rfl
  |⟨6,_⟩=>rfl
  |⟨7,_⟩=>rfl
  |⟨8,_⟩=>rfl
  |⟨9,_⟩=>rfl
  |⟨10,_⟩=>rfl
  |⟨11,_⟩=>rfl
  |⟨12,_⟩=>rfl
  |⟨13,_⟩=>rfl
  |⟨14,_⟩=>rfl
  |⟨15,_⟩=>rfl
  |⟨16,_⟩=>rfl
  |⟨17,_⟩=>rfl
  |⟨18,_⟩=>rfl
  |⟨19,_⟩=>rfl
  |⟨20,_⟩=>rfl
  |⟨21,_⟩=>rfl
  |⟨22,_⟩=>rfl
  |⟨23,_⟩=>rfl
  |⟨24,_⟩=>rfl
  |⟨25,_⟩=>rfl
  |⟨26,_⟩=>rfl
  |⟨27,_⟩=>rfl
  |⟨28,_⟩=>rfl
  |⟨29,_⟩=>rfl
  |⟨30,_⟩=>rfl
  |⟨31,_⟩=>rfl
  |⟨k+32,h⟩=>exact absurd h (by omega)
 exact this ⟨n,hn⟩
def ZH(r:Nat->Nat)(n v:Nat)(hn:n<32):zR (0+n*1) [.v (.int .u32 (v:Int))] (Jz r)=Jz (setR r n v):=by
 have:∀(n:_root_.Fin 32),zR (0+n.1*1) [.v (.int .u32 (v:Int))] (Jz r)=Jz (setR r n.1 v):=by
  intro n
  match n with
  |⟨0,_⟩=>rfl
  |⟨1,_⟩=>rfl
  |⟨2,_⟩=>rfl
  |⟨3,_⟩=>rfl
  |⟨4,_⟩=>rfl
  |⟨5,_⟩=>rfl
  |⟨6,_⟩=>rfl
  |⟨7,_⟩=>rfl
  |⟨8,_⟩=>rfl
  |⟨9,_⟩=>rfl
  |⟨10,_⟩=>rfl
  |⟨11,_⟩=>rfl
  |⟨12,_⟩=>rfl
  |⟨13,_⟩=>rfl
  |⟨14,_⟩=>rfl
  |⟨15,_⟩=>rfl
  |⟨16,_⟩=>rfl
  |⟨17,_⟩=>rfl
  |⟨18,_⟩=>rfl
  |⟨19,_⟩=>rfl
  |⟨20,_⟩=>rfl
  |⟨21,_⟩=>rfl
  |⟨22,_⟩=>rfl
  |⟨23,_⟩=>rfl
  |⟨24,_⟩=>rfl
  |⟨25,_⟩=>rfl
  |⟨26,_⟩=>rfl
  |⟨27,_⟩=>rfl
  |⟨28,_⟩=>rfl
  |⟨29,_⟩=>rfl
  |⟨30,_⟩=>rfl
  |⟨31,_⟩=>rfl
  |⟨k+32,h⟩=>exact absurd h (by omega)
 exact this ⟨n,hn⟩
def abA{ev:Operand->AV}{h:AH}{s b n v:Nat}{a x:Operand}{r:Nat->Nat}(ha:ev a=.ptr b (0+n*1))(hb:h b=some (.box (Jz r)))(hx:ev x=.v (.int .u32 (v:Int)))(hn:n<32):
  opA C0 ev h s (.store 28 a x)=.fx True .any (upd h b (some (.box (Jz (setR r n v))))):=by
 have hty:C0.ty 28=some ZK:=rfl;have hc:(0+n*1+([.v (.int .u32 (v:Int))]:List AV).length).ble (Jz r).length=true:=iN (by simp;omega);simp only[opA,hty,hx,kK,ha,hb];rw[show([AV.v (Value.int IntKind.u32 (v:Int))].length.beq 1)=true from rfl];simp only;rw[hc];simp only;rw[ZH _ _ _ hn]
def pQ{α:Type}{l:List α}{k:Nat}(h:k<l.length):(eU l k).length=l.length:=by
 unfold eU;rw[aA h];simp;omega
def BZ{α:Type}{l:List α}{k:Nat}{x:α}(h:l[k]?=some x):eU l k=[x]++l.take k++l.drop (k+1):=by unfold eU;rw[h]
def pR{α:Type}{P:α->Prop}{l:List α}{k:Nat}(h:∀x∈l,P x):∀x∈eU l k,P x:=by
 intro x hx;unfold eU at hx;rcases al_List_mem_append.1 hx with hx|hx
 ·rcases al_List_mem_append.1 hx with hx|hx
  ·split at hx
   ·rename_i y hy;simp at hx;subst hx;exact h _ (aB hy)
   ·simp at hx
  ·exact h _ (cQ hx)
 ·exact h _ (eO hx)
def kE{c:Ca}(h:fS c=true):0<c.sets.length∧c.sets.length<=4∧c.ways<=2∧1<=c.ways∧∀s∈c.sets,(s.length:Int)<=c.ways:=by
 obtain⟨⟨h1,h2⟩,h3⟩:=(eS c).1 h;refine⟨by omega,by omega,by omega,by omega,λs hs=>?_⟩;obtain⟨k,hk,rfl⟩:=fY hs;exact((fN c k _).1 (h3 k _ (aA hk))).1
theorem ED:∀{l:List Wy} {line j:Nat},jG l line=some j->j<l.length
 |[],_,_,h=>by cases h
 | w::l,line,j,h=>by
  simp only[jG]at h;split at h
  ·injection h with h;subst h;simp
  ·obtain⟨i,hi,rfl⟩:=FI.1 h;have:=ED hi;simp;omega
def vA{c:Ca}{k:Nat}{s:List Wy}(h:c.sets[k]?=some s):pH c k=s:=by unfold pH;rw[h];rfl
def AN{c:Ca}(h:0<c.sets.length)(line:Nat):tU c line<c.sets.length:=bE _ h
def rU{c:Ca}{line:Nat}(h:fS c=true):bG c line=(tU c (lineOf line),jG (pH c (tU c (lineOf line))) (lineOf line)):=if_pos h
def pS{c:Ca}{line:Nat}(h:(bG c line).2.isSome=true):fS c=true∧(bG c line).1=tU c (lineOf line)∧(bG c line).1<c.sets.length∧(bG c line).2.getD 0<(pH c (bG c line).1).length:=by
 by_cases hr:fS c=true
 ·rw[rU hr]at h⊢;obtain⟨j,hj⟩:=Fk.1 h;have hj':jG (pH c (tU c (lineOf line))) (lineOf line)=some j:=hj;refine⟨hr,rfl,AN (kE hr).1 _,?_⟩;rw[hj'];exact ED hj'
 ·unfold bG at h;rw[if_neg hr]at h;cases h
def Di{c:Ca}{line:Nat}(h:(bG c line).2.isSome=true):oK c line=qJ c (bG c line).1 (eU (pH c (bG c line).1) ((bG c line).2.getD 0)):=by
 unfold oK;obtain⟨j,hj⟩:=Fk.1 h;have e:bG c line=((bG c line).1,some j):=by rw[<-hj]
 rw[e];rfl
def Dj{c:Ca}{line:Nat}(h:(bG c line).2.isSome=false):oK c line=c:=by
 unfold oK;have hj:(bG c line).2=none:=by simpa using h
 have e:bG c line=((bG c line).1,none):=by rw[<-hj]
 rw[e]
def ZG(a b:Int):max a b=if b>a then b else a:=by omega
def Mv(q:List Req)(kind:Int)(line:Nat)(left:Int)(data:ByteArray)(ck:Bool)(hq:q.length<=900000)(ho:∀x∈q,x.ok)(hline:line<=4294967295):cA C0 120 [.sl 4 (q.map rqL) ck,vI kind,vU line,vI left,.v (.string data)] (.sl 4 ((xK q kind line left data).map rqL) false):=by
 refine cA.intro c0Ok Tryz.func120 rfl rfl (by kernel_rfl) rfl<|qS 0 rfl<|rW (vN q.length) rfl (bT rqL q) ?_;have b1:q.length+1<=900001:=aF hq (aC 1);refine rW (vN (q.length+1)) rfl (okI (bJ b1 rfl))<|rFx (x:=.osl 4 0 0 false) (h':=upd _ 4 (some (.arr (([]:List Req).map rqL) 4))) rfl rfl (rfl) (⟨by decide,Fj.2 omT,by show(((q.length+1):Nat):Int)<=1000000;omega⟩)<|qR 0 rfl<|rFx (x:=.osl 8 0 q.length false) (h':=upd (upd _ 4 none) 8 (some (.arr (q.map rqL) 4))) rfl rfl (jN rqL ([]:List Req) q omT omT) (⟨by exact omT,by exact omT,trivial⟩)<|qR 0 rfl<|rV (vI (if 1>left then 1 else left)) rfl<|qR 0 rfl<|rV (.agg [vI kind,vU line,vI (if 1>left then 1 else left),.v (.string data)]) rfl<|rV (.sl 4 ([[vI kind,vU line,vI (if 1>left then 1 else left),.v (.string data)]]) true) rfl<|rFx (x:=.osl 18 0 (q.length+1) false) (h':=upd (upd _ 8 none) 18 (some (.arr ((q++([(⟨kind,line,if 1>left then 1 else left,data⟩:Req)])).map rqL) 4))) rfl rfl (jN rqL q ([(⟨kind,line,if 1>left then 1 else left,data⟩:Req)]) omT omT) (⟨by exact omT,by exact omT,trivial⟩)<|qRF 0 rfl<|dF rfl (by show 0+(q.length+1)<=((q++([(⟨kind,line,if 1>left then 1 else left,data⟩:Req)])).map rqL).length;exact omT) rfl ?_;show AV.sl 4 (List.take (q.length+1) (List.drop 0 ((q++([(⟨kind,line,if 1>left then 1 else left,data⟩:Req)])).map rqL))) false=_;rw[kG rqL (q++([(⟨kind,line,if 1>left then 1 else left,data⟩:Req)])) omT];rw[show xK q kind line left data=q++([(⟨kind,line,if 1>left then 1 else left,data⟩:Req)])from by unfold xK;congr 3;exact ZG left 1]
abbrev tkA(t:List Req×Req×Bool):AV:=.tup [.sl 4 (t.1.map rqL) false,.agg (rqL t.2.1),vB t.2.2]
def Ur(q:List Req)(ck:Bool)(hq:q.length<=900000)(ho:∀x∈q,x.ok):cA C0 51 [.sl 4 (q.map rqL) ck] (tkA (eA q)):=by
 refine dc1 (cA.intro c1Ok Tryz.func51 rfl rfl (by kernel_rfl) rfl ?_);refine qS 0 rfl<|rW (vN q.length) rfl (bT rqL q)<|rW (vB (q.length==0)) rfl (okB (eqN _ _))<|qRC 0 rfl<|aS rfl (λh1=>?_) (λh1=>?_)
 ·have h1p:=mW h1;refine qC 0 rfl<|rV (.agg [vI 0,.v (.int .u32 0),vI 0,.v (.string (⟨#[]⟩:ByteArray))]) rfl<|qRF 0 rfl ?_;have q0:q=[]:=aR h1p;subst q0;exact⟨_,rfl,trivial,rfl,Sub.tup ⟨Sub.clip 4 _ ck,Sub.refl _,Sub.refl _,trivial⟩⟩
 ·have h1p:=mX h1;refine qC 0 rfl<|rW (vN q.length) rfl (bT rqL q)<|rFx (x:=.osl 8 0 q.length false) (h':=upd _ 8 (some (.arr ((List.replicate q.length NO).map rqL) 4))) rfl rfl (Qc (fO (f:=rqL) (a:=NO)).symm) (⟨aH _,Fj.2 omT,by show((q.length:Nat):Int)<=1000000;omega⟩)<|qR 0 rfl<|rFx (x:=vI ((min ((q.map rqL).length) (q.length):Nat):Int)) (h':=upd _ 8 (some (.arr (q.map rqL) 4))) rfl rfl (Id (DL rqL ((List.replicate q.length NO).map rqL) q omT omT)) (⟨by exact omT,trivial⟩)<|qR 0 rfl<|nW (.ptr2 8 (0+0) 0) rfl rfl (⟨by decide,Fi.2 (by show 0<q.length;exact omT)⟩) ?_;obtain⟨x,hx⟩:∃y_,q[0]?=some y_:=⟨_,aA omT⟩;have hxo:=ho x (aB hx);refine qR 0 rfl<|ID (rqL x) (x:=vI x.left) rfl rfl rfl (⟨by decide,IE (fW hx)⟩) rfl<|rV (vI (IntKind.wrap .i64 (x.left-1))) rfl<|nW (.ptr2 8 (0+0) 0) rfl rfl (⟨by decide,Fi.2 (by show 0<q.length;exact omT)⟩) ?_;have hx1:(q.set 0 (⟨x.kind,x.line,IntKind.wrap .i64 (x.left-1),x.data⟩:Req))[0]?=some (⟨x.kind,x.line,IntKind.wrap .i64 (x.left-1),x.data⟩:Req):=aT omT;refine qR 0 rfl<|nL (rqL x) (h':=upd _ 8 (some (.arr ((q.set 0 (⟨x.kind,x.line,IntKind.wrap .i64 (x.left-1),x.data⟩:Req)).map rqL) 4))) rfl rfl rfl (⟨by decide,IE (fW hx)⟩) (vY (f:=rqL) (l:=q) (k:=0) (x:=(⟨x.kind,x.line,IntKind.wrap .i64 (x.left-1),x.data⟩:Req)))<|qR 0 rfl<|nW (.ptr2 8 (0+0) 0) rfl rfl (⟨by decide,Fi.2 (by show 0<q.length;exact omT)⟩)<|qR 0 rfl<|ID (rqL (⟨x.kind,x.line,IntKind.wrap .i64 (x.left-1),x.data⟩:Req)) (x:=vI (IntKind.wrap .i64 (x.left-1))) rfl rfl rfl (⟨by decide,IE (fW hx1)⟩) rfl<|rV (vB (decide ((IntKind.wrap .i64 (x.left-1))>0))) rfl<|qRC 0 rfl<|aS rfl (λh2=>?_) (λh2=>?_)
  ·have h2p:=of_decide_eq_true h2;refine qC 0 rfl<|rV (.agg [vI 0,.v (.int .u32 0),vI 0,.v (.string (⟨#[]⟩:ByteArray))]) rfl<|qRF 0 rfl ?_
   try simp only[w64]at h2p
   obtain⟨l,hql⟩:∃l,q=x::l:=by cases q with|nil=>cases hx|cons y l=>injection hx with hx;subst hx;exact⟨l,rfl⟩
   have hT:eA q=({x with left:=wrap64 (x.left-1)}::l,NO,false):=by rw[hql];unfold eA;simp only[if_pos h2p]
   rw[hT];refine dF rfl ⟨(by show 0+q.length<=((q.set 0 (⟨x.kind,x.line,IntKind.wrap .i64 (x.left-1),x.data⟩:Req)).map rqL).length;exact omT),tvT,trivial,trivial⟩ rfl ?_;show AV.tup [.sl 4 (List.take q.length (List.drop 0 ((q.set 0 (⟨x.kind,x.line,IntKind.wrap .i64 (x.left-1),x.data⟩:Req)).map rqL))) false,.agg [vI 0,.v (.int .u32 0),vI 0,.v (.string (⟨#[]⟩:ByteArray))],vB false]=_;rw[kG rqL (q.set 0 (⟨x.kind,x.line,IntKind.wrap .i64 (x.left-1),x.data⟩:Req)) omT];rw[hql];simp only[w64,gI]
   try rfl
  ·have h2p:=aD h2;refine qCC 0 rfl<|Fu rfl rfl<|oR 1 rfl<|nW (.osl 8 1 (q.length-1) false) rfl (KZ (by first|rfl|omega) (by simp only[Option.getD];omega)) slT<|oR 1 rfl<|nW (.ptr2 8 (0+0) 0) rfl rfl (⟨by decide,Fi.2 (by show 0<q.length;exact omT)⟩)<|ID (rqL (⟨x.kind,x.line,IntKind.wrap .i64 (x.left-1),x.data⟩:Req)) (x:=.agg (rqL (⟨x.kind,x.line,IntKind.wrap .i64 (x.left-1),x.data⟩:Req))) rfl rfl rfl (⟨by decide,IE (fW hx1)⟩) rfl<|oR 1 rfl<|rSt rfl<|oR 1 rfl<|rE 34<|And.intro (by kernel_rfl)<|qXF 0 rfl ?_
   try simp only[w64]at h2p
   obtain⟨l,hql⟩:∃l,q=x::l:=by cases q with|nil=>cases hx|cons y l=>injection hx with hx;subst hx;exact⟨l,rfl⟩
   have hT:eA q=(l,{x with left:=wrap64 (x.left-1)},true):=by rw[hql];unfold eA;simp only[if_neg h2p]
   rw[hT];refine dF rfl ⟨(by show 1+(q.length-1)<=((q.set 0 (⟨x.kind,x.line,IntKind.wrap .i64 (x.left-1),x.data⟩:Req)).map rqL).length;exact omT),tvT,trivial,trivial⟩ rfl ?_;show AV.tup [.sl 4 (List.take (q.length-1) (List.drop 1 ((q.set 0 (⟨x.kind,x.line,IntKind.wrap .i64 (x.left-1),x.data⟩:Req)).map rqL))) false,.agg [vI x.kind,vU x.line,vI (IntKind.wrap .i64 (x.left-1)),.v (.string x.data)],vB true]=_;rw[Cc (M:=(q.set 0 (⟨x.kind,x.line,IntKind.wrap .i64 (x.left-1),x.data⟩:Req)).drop 1) rqL (q.set 0 (⟨x.kind,x.line,IntKind.wrap .i64 (x.left-1),x.data⟩:Req)) (aM omT)];rw[hql];simp only[w64,gI,List.drop_succ_cons,cB]
   try rfl
def PX(s:List Wy)(k:Nat)(ck:Bool)(hk:k<s.length)(hs:s.length<=900000)(ho:∀x∈s,x.ok):cA C0 100 [.sl 3 (s.map wyL) ck,vN k] (.sl 3 ((eU s k).map wyL) false):=by
 refine cA.intro c0Ok Tryz.func100 rfl rfl (by kernel_rfl) rfl<|qS 0 rfl<|rW (vN s.length) rfl (bT wyL s)<|rFx (x:=.osl 3 0 0 false) (h':=upd _ 3 (some (.arr (([]:List Wy).map wyL) 3))) rfl rfl (rfl) (⟨by decide,Fj.2 omT,by show((s.length:Nat):Int)<=1000000;omega⟩) ?_;obtain⟨x,hx⟩:∃y_,s[k]?=some y_:=⟨_,aA omT⟩;refine qR 0 rfl<|rIx (wyL x) (.dp 3 0 (wyL x)) rfl rfl (fW hx) rfl<|qR 0 rfl<|rV (.sl 3 ([[vU x.line,vB x.dirty,.v (.string x.data)]]) true) rfl<|rFx (x:=.osl 11 0 1 false) (h':=upd (upd _ 3 none) 11 (some (.arr (([x]).map wyL) 3))) rfl rfl (jN wyL ([]:List Wy) ([x]) omT omT) (⟨by exact omT,by exact omT,trivial⟩)<|qR 0 rfl<|nW (.sl 3 ((s.take k).map wyL) (ck&&false)) rfl (zB (wX wyL s k)) slT<|rFx (x:=.osl 17 0 (1+k) false) (h':=upd (upd _ 11 none) 17 (some (.arr ((([x])++(s.take k)).map wyL) 3))) rfl rfl (jN wyL ([x]) (s.take k) omT omT) (⟨by exact omT,by exact omT,trivial⟩) ?_;have b1:k+1<=900001:=aF omT (aC 1);refine qR 0 rfl<|rW (vN (k+1)) rfl (okI (bJ b1 rfl))<|nW (.sl 3 ((s.drop (k+1)).map wyL) (ck&&true)) rfl (zB (Jy wyL s (k+1))) slT<|rFx (x:=.osl 24 0 (1+k+s.length-(k+1)) false) (h':=upd (upd _ 17 none) 24 (some (.arr (((([x])++(s.take k))++(s.drop (k+1))).map wyL) 3))) rfl rfl (jN wyL (([x])++(s.take k)) (s.drop (k+1)) omT omT) (⟨by exact omT,by exact omT,trivial⟩)<|qRF 0 rfl<|dF rfl (by show 0+(1+k+s.length-(k+1))<=(((([x])++(s.take k))++(s.drop (k+1))).map wyL).length;exact omT) rfl ?_;show AV.sl 3 (List.take (1+k+s.length-(k+1)) (List.drop 0 (((([x])++(s.take k))++(s.drop (k+1))).map wyL))) false=_;rw[kG wyL ((([x])++(s.take k))++(s.drop (k+1))) omT];rw[BZ hx]
def Us(s:List Wy)(k:Nat)(ck:Bool)(hk:k<s.length)(hs:s.length<=900000)(ho:∀x∈s,x.ok):qE C0.P C0.G 100 [.sl 3 (s.map wyL) ck,vN k] (heapF []) 0 (λx h'=>x=.osl 0 0 s.length false∧h'=heapF [(0,.arr ((eU s k).map wyL) 3)]):=by
 refine HCall.intro (C:=C0) (s:=0) c0Ok.at Tryz.func100 rfl rfl (by kernel_rfl) rfl rfl<|qS 0 rfl<|rW (vN s.length) rfl (bT wyL s)<|rFx (x:=.osl 3 0 0 false) (h':=upd _ 3 (some (.arr (([]:List Wy).map wyL) 3))) rfl rfl (rfl) (⟨by decide,Fj.2 omT,by show((s.length:Nat):Int)<=1000000;omega⟩) ?_;obtain⟨x,hx⟩:∃y_,s[k]?=some y_:=⟨_,aA omT⟩;refine qR 0 rfl<|rIx (wyL x) (.dp 3 0 (wyL x)) rfl rfl (fW hx) rfl<|qR 0 rfl<|rV (.sl 3 ([[vU x.line,vB x.dirty,.v (.string x.data)]]) true) rfl<|rFx (x:=.osl 11 0 1 false) (h':=upd (upd _ 3 none) 11 (some (.arr (([x]).map wyL) 3))) rfl rfl (jN wyL ([]:List Wy) ([x]) omT omT) (⟨by exact omT,by exact omT,trivial⟩)<|qR 0 rfl<|nW (.sl 3 ((s.take k).map wyL) (ck&&false)) rfl (zB (wX wyL s k)) slT<|rFx (x:=.osl 17 0 (1+k) false) (h':=upd (upd _ 11 none) 17 (some (.arr ((([x])++(s.take k)).map wyL) 3))) rfl rfl (jN wyL ([x]) (s.take k) omT omT) (⟨by exact omT,by exact omT,trivial⟩) ?_;have b1:k+1<=900001:=aF omT (aC 1);refine qR 0 rfl<|rW (vN (k+1)) rfl (okI (bJ b1 rfl))<|nW (.sl 3 ((s.drop (k+1)).map wyL) (ck&&true)) rfl (zB (Jy wyL s (k+1))) slT<|rFx (x:=.osl 24 0 (1+k+s.length-(k+1)) false) (h':=upd (upd _ 17 none) 24 (some (.arr (((([x])++(s.take k))++(s.drop (k+1))).map wyL) 3))) rfl rfl (jN wyL (([x])++(s.take k)) (s.drop (k+1)) omT omT) (⟨by exact omT,by exact omT,trivial⟩)<|qRF 0 rfl ?_;have e:(([x])++(s.take k))++(s.drop (k+1))=eU s k:=(BZ hx).symm;have e2:1+k+s.length-(k+1)=s.length:=by omega
 refine pK (rs:=[.osl 24 0 (1+k+s.length-(k+1)) false]) rfl (r:=.osl 0 0 s.length false) (σ:=λ_=>24) ⟨rfl,rfl⟩ rfl (cI (λ_=>24) ?_ rfl ⟨⟨rfl,?_,rfl⟩,trivial⟩ rfl)
 ·show AV.osl 24 0 (1+k+s.length-(k+1)) false=.osl 24 0 s.length false;rw[e2]
 ·show some (Blk.arr (((([x])++(s.take k))++(s.drop (k+1))).map wyL) 3)=some (Blk.arr ((eU s k).map wyL) 3);rw[e]
def KX(c:Ca)(k:Nat)(s:List Wy)(hok:c.ok)(hk:k<c.sets.length)(hl:c.sets.length<=900000)(hs:s.length<=900000)(ho:∀x∈s,x.ok):cA C0 101 [.agg (caL c false),vN k,.sl 3 (s.map wyL) false] (.agg (caL (qJ c k s) false)):=by
 refine cA.intro c0Ok Tryz.func101 rfl rfl (by kernel_rfl) rfl<|qS 0 rfl<|rW (vN c.sets.length) rfl (bT aV c.sets)<|rFx (x:=.osl 5 0 c.sets.length false) (h':=upd _ 5 (some (.arr (List.replicate c.sets.length [.sl 0 ([]) true]) 1))) rfl rfl (rfl) (⟨aH _,iE _,by show((c.sets.length:Nat):Int)<=1000000;have:=hl;omega⟩)<|qR 0 rfl<|rFx (x:=vI ((min ((c.sets.map aV).length) (c.sets.length):Nat):Int)) (h':=upd _ 5 (some (.arr (c.sets.map aV) 1))) rfl rfl (Id (DL aV (List.replicate c.sets.length [.sl 0 ([]) true]) c.sets omT omT)) (⟨by exact omT,trivial⟩)<|qR 0 rfl<|nW (.ptr2 5 (0+k) 0) rfl rfl ixT ?_;obtain⟨x1,hx1⟩:∃y_,c.sets[k]?=some y_:=⟨_,aA omT⟩;refine nL (aV x1) (h':=upd _ 5 (some (.arr ((c.sets.set k s).map aV) 1))) rfl rfl rfl (⟨aH _,IE (fW hx1)⟩) (vY (f:=aV) (l:=c.sets) (k:=k) (x:=s))<|qR 0 rfl<|rV (.agg [vI c.ways,.osl 5 0 c.sets.length false]) rfl<|qRF 0 rfl<|dF rfl ⟨trivial,(by show 0+c.sets.length<=((c.sets.set k s).map aV).length;exact omT),trivial⟩ rfl ?_;show AV.agg [vI c.ways,.sl 1 (List.take c.sets.length (List.drop 0 ((c.sets.set k s).map aV))) false]=_;rw[kG aV (c.sets.set k s) omT];refine congrArg (λz=>AV.agg ((λz=>caL z false) z)) (?_:(⟨c.ways,c.sets.set k s⟩:Ca)=qJ c k s);rfl
def Ar(c:Ca)(line:Nat)(hok:c.ok)(hline:line<=4294967295):cA C0 74 [.agg (caL c false),vU line] (.tup [vN (bG c line).1,vN ((bG c line).2.getD 0),vB (bG c line).2.isSome]):=by
 refine cA.intro c0Ok Tryz.func74 rfl rfl (by kernel_rfl) rfl<|qS 0 rfl<|rCi rfl (AR c false hok)<|qRC 0 rfl<|aS rfl (λh1=>?_) (λh1=>?_)
 ·refine qCF 0 rfl ?_;have hR:fS c=false:=by simpa using h1
  exact fT rfl (by unfold bG;rw[if_neg (by rw[hR];decide)];rfl)
 ·have hR:fS c=true:=by simpa using h1
  obtain⟨hs0,hs4,hw2,hw1,hsw⟩:=kE hR;have hkl:=AN hs0 (lineOf line);refine qC 0 rfl<|rCi rfl (tT line hline)<|qR 0 rfl<|rCi rfl (Uv c (lineOf line) false hs0 omT (dT hline)) ?_;obtain⟨s,hs⟩:∃y_,c.sets[(tU c (lineOf line))]?=some y_:=⟨_,aA omT⟩;have hso:=hok.set s (aB hs);have hsl:s.length<=2:=by have:=hsw s (aB hs);omega
  refine qR 0 rfl<|rIx (aV s) (.dp 1 0 (aV s)) rfl rfl (fW hs) rfl<|qR 0 rfl<|rCi rfl (Uw s (lineOf line) false omT hso.2 (dT hline))<|qRF 0 rfl ?_;exact fT rfl (by rw[rU hR,vA hs];rfl)
def AO(c:Ca)(line:Nat):(bG c line).1<=4∧(bG c line).2.getD 0<=2:=by
 by_cases h:fS c=true
 ·obtain⟨h0,h4,h2,h1,hw⟩:=kE h;rw[rU h];have hlt:=AN h0 (lineOf line);refine⟨by show tU _ _<=4;omega,?_⟩;show(jG _ _).getD 0<=2
  cases hp:jG (pH c (tU c (lineOf line))) (lineOf line)with
  |none=>exact aE _
  |some j=>
   have:=ED hp;rw[vA (aA hlt)]at this;have h3:=hw _ (lH hlt);show j<=2;omega
 ·unfold bG;rw[if_neg h];exact⟨aE _,aE _⟩
def HJ(c:Ca)(line:Nat)(hok:c.ok)(hline:line<=4294967295):cA C0 78 [.agg (caL c false),vU line] (.agg (caL (oK c line) false)):=by
 refine dc1 (cA.intro c1Ok Tryz.func78 rfl rfl (by kernel_rfl) rfl ?_);have hFb:=AO c line;refine qS 0 rfl<|rCi rfl (Ar c line hok hline)<|qRC 0 rfl<|aS rfl (λh1=>?_) (λh1=>?_)
 ·have hF:(bG c line).2.isSome=false:=by simpa using h1
  refine qCF 0 rfl ?_;exact dF rfl ⟨trivial,trivial,trivial⟩ rfl (by rw[Dj hF];rfl)
 ·have hF:(bG c line).2.isSome=true:=by simpa using h1
  obtain⟨hR,hF1,hF2,hF3⟩:=pS hF;obtain⟨hs0,hs4,hw2,hw1,hsw⟩:=kE hR;refine qCC 0 rfl<|cRg<|oR 5 rfl ?_;obtain⟨s,hs⟩:∃y_,c.sets[((bG c line).1)]?=some y_:=⟨_,aA omT⟩;have hso:=hok.set s (aB hs);have hse:=vA hs;rw[hse]at hF3;have hsl:s.length<=2:=by have:=hsw s (aB hs);omega
  refine rIx (aV s) (.dp 1 0 (aV s)) rfl rfl (fW hs) rfl<|oR 2 rfl<|rCi rfl (PX s ((bG c line).2.getD 0) false hF3 omT hso.2)<|rCi rfl (KX c ((bG c line).1) (eU s ((bG c line).2.getD 0)) hok hF2 omT (by rw[pQ hF3];omega) (pR hso.2))<|rSt rfl<|rE 25<|qXF 0 rfl ?_;exact dF rfl ⟨trivial,trivial,trivial⟩ rfl (by rw[Di hF,hse];rfl)
def EE{α:Type}{f:α->α}{l:List α}{x:α}(h:l[0]?=some x):modHd f l=l.set 0 (f x):=by
 cases l with
 |nil=>cases h
 |cons y l=>injection h with h;subst h;rfl
def Gt{α:Type}(l:List α)(x:α)(n:Nat)(hn:n=l.length):eU (l++[x]) n=x::l:=by
 subst hn;rw[BZ (x:=x) (by simp)];simp
def Mw{c:Ca}(h:fS c=false)(line:Nat)(d:ByteArray)(b:Bool):pC c line d b=(c,qI,false):=by unfold pC;rw[if_neg (by rw[h];decide)]
def Cb{c:Ca}{line:Nat}(hF:(bG c line).2.isSome=true)(d:ByteArray)(b:Bool):pC c line d b=(qJ c (bG c line).1 (modHd (λw=>{w with data:=if(dB d).size=0 then w.data else dB d,dirty:=w.dirty||b}) (eU (pH c (bG c line).1) ((bG c line).2.getD 0))),qI,false):=by
 unfold pC;obtain⟨j,hj⟩:=Fk.1 hF;have e:bG c line=((bG c line).1,some j):=by rw[<-hj]
 rw[if_pos (pS hF).1,e];rfl
def AP{c:Ca}{line:Nat}(hR:fS c=true)(hF:(bG c line).2.isSome=false)(d:ByteArray)(b:Bool):pC c line d b=if((pH c (bG c line).1).length:Int)=c.ways then(qJ c (bG c line).1 (⟨lineOf line,b,dB d⟩::(pH c (bG c line).1).dropLast),(pH c (bG c line).1).getLast?.getD qI,true)else(qJ c (bG c line).1 (⟨lineOf line,b,dB d⟩::pH c (bG c line).1),qI,false):=by
 unfold pC;have hj:(bG c line).2=none:=by simpa using hF
 have e:bG c line=((bG c line).1,none):=by rw[<-hj]
 rw[if_pos hR,e]
abbrev aa9(p:Ca×Wy×Bool):AV:=.tup [.agg (caL p.1 false),.agg (wyL p.2.1),vB p.2.2]
def zA(d:ByteArray):d.toList.length=d.size:=by
 rw[ByteArray.toList_eq];exact dQ
def ST{d:ByteArray}(h: ¬d.size=0):(!(d.toList==(⟨#[]⟩:ByteArray).toList))=true:=by
 cases hd:d.toList==(⟨#[]⟩:ByteArray).toList with
 |false=>rfl
 |true=>
  have:=congrArg List.length (eq_of_beq hd);rw[zA,zA]at this;exact absurd this h
def zL(d:ByteArray):(d.toList==(⟨#[]⟩:ByteArray).toList)=decide (d.size=0):=by
 by_cases h:d.size=0
 ·rw[nG h];have e:d.toList=(⟨#[]⟩:ByteArray).toList:=by rw[ByteArray.toList_eq,ByteArray.toList_eq];exact aR (by rw[dQ];exact h)
  rw[e];exact beq_self_eq_true _
 ·rw[tA h];have:=ST h;simpa using this
def Yb{d:ByteArray}(h:(!(d.toList==(⟨#[]⟩:ByteArray).toList))=true): ¬d.size=0:=by rw[zL]at h;simpa using h
def Yc{d:ByteArray}(h:(!(d.toList==(⟨#[]⟩:ByteArray).toList))=false):d.size=0:=by rw[zL]at h;simpa using h
def NK{d:ByteArray}(h: ¬d.size=16):dB d=oX:=if_neg h
def KY{d:ByteArray}(h:d.size=16):dB d=d:=if_pos h
def PY(c:Ca)(line:Nat)(data:ByteArray)(dirty:Bool)(hok:c.ok)(hline:line<=4294967295):cA C0 55 [.agg (caL c false),vU line,.v (.string data),.v (.bool dirty)] (aa9 (pC c line data dirty)):=by
 refine dc1 (cA.intro c1Ok Tryz.func55 rfl rfl (by kernel_rfl) rfl ?_);have hFb:=AO c line;refine qS 0 rfl<|rCi rfl (AR c false hok)<|qRC 0 rfl<|aS rfl (λh1=>?_) (λh1=>?_)
 ·have hR:fS c=false:=by simpa using h1
  refine qC 0 rfl<|rV (.agg [zU,vB false,.v (.string (⟨#[]⟩:ByteArray))]) rfl<|qRF 0 rfl ?_;rw[Mw hR];exact fT rfl rfl
 ·have hR:fS c=true:=by simpa using h1
  obtain⟨hs0,hs4,hw2,hw1,hsw⟩:=kE hR;have hF2:(bG c line).1<c.sets.length:=by rw[rU hR];exact AN hs0 _
  refine qCJ 0 0 rfl<|CO (κ:=Unit) (λu_=>⟨slotsF [(1,vU line),(2,.v (.string (dB data))),(3,vB dirty),(4,.ptr 0 0),(8,.ptr 1 0),(9,.ptr 2 0),(10,vB false)],heapF [(0,.box [vI c.ways,.sl 1 (c.sets.map aV) false]),(1,.box [vI 0,.sl 0 ([]) true]),(2,.box [zU,vB false,.v (.string (⟨#[]⟩:ByteArray))])],7⟩) (λu_=>True) ?_ ?_
  ·refine qS 0 rfl<|rV (vN data.size) rfl<|rW (vB (data.size != 16)) rfl (okB (neN _ _))<|qRC 0 rfl<|aS rfl (λh2=>?_) (λh2=>?_)
   ·have h2p:=xH h2;refine qCF 0 rfl<| .mk _ (.refl _) ⟨(),λs=>s,Weak.of_lists _ ⟨⟨rfl,rfl⟩,⟨(congrArg (λz=>AV.v (.string z)) (show(⟨#[]⟩:ByteArray)=dB data from(NK omT).symm)),rfl⟩,⟨rfl,rfl⟩,⟨rfl,rfl⟩,⟨rfl,rfl⟩,⟨rfl,rfl⟩,⟨rfl,rfl⟩,trivial⟩ wH rfl,rfl,trivial⟩
   ·have h2p:=xI h2;refine qCF 0 rfl<| .mk _ (.refl _) ⟨(),λs=>s,Weak.of_lists _ ⟨⟨rfl,rfl⟩,⟨(congrArg (λz=>AV.v (.string z)) (show data=dB data from(KY omT).symm)),rfl⟩,⟨rfl,rfl⟩,⟨rfl,rfl⟩,⟨rfl,rfl⟩,⟨rfl,rfl⟩,⟨rfl,rfl⟩,trivial⟩ wH rfl,rfl,trivial⟩
  ·intro u_ _;refine qC 0 rfl<|rCi rfl (Ar c line hok hline)<|qRC 0 rfl<|aS rfl (λh3=>?_) (λh3=>?_)
   ·have hF:(bG c line).2.isSome=true:=by simpa using h3
    have hF3:=(pS hF).2.2.2;obtain⟨s,hs⟩:∃y_,c.sets[((bG c line).1)]?=some y_:=⟨_,aA omT⟩;have hso:=hok.set s (aB hs);have hse:=vA hs;have hsl:s.length<=2:=by have:=hsw s (aB hs);omega
    rw[hse]at hF3;have hfl:=pQ hF3;refine qC 0 rfl<|rIx (aV s) (.dp 1 0 (aV s)) rfl rfl (fW hs) rfl<|qR 0 rfl<|fV _ rfl rfl rfl ((Us s ((bG c line).2.getD 0) false omT omT hso.2).frame0 _ _ rfl) ?_;rintro _ _ ⟨rfl,rfl⟩;refine qR 0 rfl<|rV (vB (!((dB data).toList==(⟨#[]⟩:ByteArray).toList))) rfl<|qRC 0 rfl<|aS rfl (λh4=>?_) (λh4=>?_)
    ·refine qC 0 rfl<|nW (.ptr2 24 (0+0) 0) rfl rfl (⟨by decide,Fi.2 (by show 0<s.length;exact omT)⟩) ?_;obtain⟨w,hw⟩:∃y_,(eU s ((bG c line).2.getD 0))[0]?=some y_:=⟨_,aA omT⟩;have hwo:=(pR hso.2) w (aB hw);have hx1:((eU s ((bG c line).2.getD 0)).set 0 (⟨w.line,w.dirty,(dB data)⟩:Wy))[0]?=some (⟨w.line,w.dirty,(dB data)⟩:Wy):=aT omT;refine qR 0 rfl<|nL (wyL w) (h':=upd _ 24 (some (.arr (((eU s ((bG c line).2.getD 0)).set 0 (⟨w.line,w.dirty,(dB data)⟩:Wy)).map wyL) 3))) rfl rfl rfl (⟨by decide,IE (fW hw)⟩) (vY (f:=wyL) (l:=eU s ((bG c line).2.getD 0)) (k:=0) (x:=(⟨w.line,w.dirty,(dB data)⟩:Wy)))<|qRJ 0 0 rfl<|Fs<|qS 0 rfl<|nW (.ptr2 24 (0+0) 0) rfl rfl (⟨by decide,Fi.2 (by show 0<s.length;exact omT)⟩)<|qR 0 rfl<|ID (wyL (⟨w.line,w.dirty,(dB data)⟩:Wy)) (x:=vB w.dirty) rfl rfl rfl (⟨by decide,IE (fW hx1)⟩) rfl<|qR 0 rfl<|cU rfl rfl rfl (by simp)<|nW (.ptr2 24 (0+0) 0) rfl rfl (⟨by decide,Fi.2 (by show 0<s.length;exact omT)⟩) ?_;have hx2:(((eU s ((bG c line).2.getD 0)).set 0 (⟨w.line,w.dirty,(dB data)⟩:Wy)).set 0 (⟨w.line,cR w.dirty true dirty,(dB data)⟩:Wy))[0]?=some (⟨w.line,cR w.dirty true dirty,(dB data)⟩:Wy):=aT omT;refine qR 0 rfl<|nL (wyL (⟨w.line,w.dirty,(dB data)⟩:Wy)) (h':=upd _ 24 (some (.arr ((((eU s ((bG c line).2.getD 0)).set 0 (⟨w.line,w.dirty,(dB data)⟩:Wy)).set 0 (⟨w.line,cR w.dirty true dirty,(dB data)⟩:Wy)).map wyL) 3))) rfl rfl rfl (⟨by decide,IE (fW hx1)⟩) (vY (f:=wyL) (l:=(eU s ((bG c line).2.getD 0)).set 0 (⟨w.line,w.dirty,(dB data)⟩:Wy)) (k:=0) (x:=(⟨w.line,cR w.dirty true dirty,(dB data)⟩:Wy)))<|qRF 0 rfl<| .mk _ (.step (some (24,3,(((eU s ((bG c line).2.getD 0)).set 0 (⟨w.line,w.dirty,(dB data)⟩:Wy)).set 0 (⟨w.line,cR w.dirty true dirty,(dB data)⟩:Wy)).map wyL)) (Ghost.of_lists (l:=[(1,vU line),(2,.v (.string (dB data))),(3,vB dirty),(4,.ptr 0 0),(8,.ptr 1 0),(9,.ptr 2 0),(10,vB false),(11,vN ((bG c line).1)),(35,vB ((bG c line).2.isSome)),(14,.sl 3 ((((eU s ((bG c line).2.getD 0)).set 0 (⟨w.line,w.dirty,(dB data)⟩:Wy)).set 0 (⟨w.line,cR w.dirty true dirty,(dB data)⟩:Wy)).map wyL) false),(44,vB (!((dB data).toList==(⟨#[]⟩:ByteArray).toList)))]) (hp:=[(0,.box [vI c.ways,.sl 1 (c.sets.map aV) false]),(1,.box [vI 0,.sl 0 ([]) true]),(2,.box [zU,vB false,.v (.string (⟨#[]⟩:ByteArray))])]) rfl rfT rbT) (.refl _))<|qC 0 rfl<|rCi rfl (KX c ((bG c line).1) (((eU s ((bG c line).2.getD 0)).set 0 (⟨w.line,w.dirty,(dB data)⟩:Wy)).set 0 (⟨w.line,cR w.dirty true dirty,(dB data)⟩:Wy)) hok hF2 omT (by first|exact omT|(rw[pQ omT];exact omT)) (zC (P:=Wy.ok) (zC (P:=Wy.ok) (pR hso.2) ⟨hwo.line⟩) ⟨hwo.line⟩))<|rV (.agg [zU,vB false,.v (.string (⟨#[]⟩:ByteArray))]) rfl<|qRF 0 rfl ?_;rw[Cb hF,hse,EE hw,if_neg (Yb h4)]
     try rw[lI]
     try rw[lI]
     exact fT rfl (by simp only[cOr,lI];rfl)
    ·refine qCJ 0 0 rfl<|Fs<|qS 0 rfl<|nW (.ptr2 24 (0+0) 0) rfl rfl (⟨by decide,Fi.2 (by show 0<s.length;exact omT)⟩) ?_;obtain⟨w,hw⟩:∃y_,(eU s ((bG c line).2.getD 0))[0]?=some y_:=⟨_,aA omT⟩;have hwo:=(pR hso.2) w (aB hw);refine qR 0 rfl<|ID (wyL w) (x:=vB w.dirty) rfl rfl rfl (⟨by decide,IE (fW hw)⟩) rfl<|qR 0 rfl<|cU rfl rfl rfl (by simp)<|nW (.ptr2 24 (0+0) 0) rfl rfl (⟨by decide,Fi.2 (by show 0<s.length;exact omT)⟩) ?_;have hx3:((eU s ((bG c line).2.getD 0)).set 0 (⟨w.line,cR w.dirty true dirty,w.data⟩:Wy))[0]?=some (⟨w.line,cR w.dirty true dirty,w.data⟩:Wy):=aT omT;refine qR 0 rfl<|nL (wyL w) (h':=upd _ 24 (some (.arr (((eU s ((bG c line).2.getD 0)).set 0 (⟨w.line,cR w.dirty true dirty,w.data⟩:Wy)).map wyL) 3))) rfl rfl rfl (⟨by decide,IE (fW hw)⟩) (vY (f:=wyL) (l:=eU s ((bG c line).2.getD 0)) (k:=0) (x:=(⟨w.line,cR w.dirty true dirty,w.data⟩:Wy)))<|qRF 0 rfl<| .mk _ (.step (some (24,3,((eU s ((bG c line).2.getD 0)).set 0 (⟨w.line,cR w.dirty true dirty,w.data⟩:Wy)).map wyL)) (Ghost.of_lists (l:=[(1,vU line),(2,.v (.string (dB data))),(3,vB dirty),(4,.ptr 0 0),(8,.ptr 1 0),(9,.ptr 2 0),(10,vB false),(11,vN ((bG c line).1)),(35,vB ((bG c line).2.isSome)),(14,.sl 3 (((eU s ((bG c line).2.getD 0)).set 0 (⟨w.line,cR w.dirty true dirty,w.data⟩:Wy)).map wyL) false),(44,vB (!((dB data).toList==(⟨#[]⟩:ByteArray).toList)))]) (hp:=[(0,.box [vI c.ways,.sl 1 (c.sets.map aV) false]),(1,.box [vI 0,.sl 0 ([]) true]),(2,.box [zU,vB false,.v (.string (⟨#[]⟩:ByteArray))])]) rfl rfT rbT) (.refl _))<|qC 0 rfl<|rCi rfl (KX c ((bG c line).1) ((eU s ((bG c line).2.getD 0)).set 0 (⟨w.line,cR w.dirty true dirty,w.data⟩:Wy)) hok hF2 omT (by first|exact omT|(rw[pQ omT];exact omT)) (zC (P:=Wy.ok) (pR hso.2) ⟨hwo.line⟩))<|rV (.agg [zU,vB false,.v (.string (⟨#[]⟩:ByteArray))]) rfl<|qRF 0 rfl ?_;rw[Cb hF,hse,EE hw,if_pos (Yc h4)]
     try rw[lI]
     exact fT rfl (by simp only[cOr,lI];rfl)
   ·have hF:(bG c line).2.isSome=false:=by simpa using h3
    obtain⟨s,hs⟩:∃y_,c.sets[((bG c line).1)]?=some y_:=⟨_,aA omT⟩;have hso:=hok.set s (aB hs);have hse:=vA hs;have hsl:s.length<=2:=by have:=hsw s (aB hs);omega
    refine qC 0 rfl<|rIx (aV s) (.dp 1 0 (aV s)) rfl rfl (fW hs) rfl<|qRC 0 rfl<|Fu rfl rfl<|rV (.agg [zU,vB false,.v (.string (⟨#[]⟩:ByteArray))]) rfl<|oR 1 rfl<|rW (vN s.length) rfl (bT wyL s)<|oR 2 rfl<|rV (vB (((s.length:Nat):Int)==c.ways)) rfl<|rAl 30 rfl rfl<|rSt rfl<|oR 1 rfl<|rE 33<|And.intro (by kernel_rfl)<|qXC 0 rfl<|aS rfl (λh5=>?_) (λh5=>?_)
    ·have h5p:=mW h5
     try have hq:(s.length:Int)=c.ways:=by simpa using h5
     try have hq: ¬(s.length:Int)=c.ways:=by simpa using h5
     refine qC 0 rfl<|rW (vN s.length) rfl (bT wyL s) ?_;have b1:s.length-1<=2:=aN (jS _ _) hsl;refine rW (vN (s.length-1)) rfl (okI (Dm omT hsl rfl))<|qRC 0 rfl<|Fu rfl rfl<|oR 2 rfl ?_;obtain⟨g,hg⟩:∃y_,s[(s.length-1)]?=some y_:=⟨_,aA omT⟩;have hgo:=hso.2 g (aB hg);refine rIx (wyL g) (.dp 3 0 (wyL g)) rfl rfl (fW hg) rfl<|oR 3 rfl<|nW (.sl 3 ((s.take (s.length-1)).map wyL) false) rfl (zB (wX wyL s (s.length-1))) slT<|rSt rfl<|oR 1 rfl<|rE 47<|And.intro (by kernel_rfl)<|qX 0 rfl<|rW (vN (s.length-1)) rfl (vX wyL (s.take (s.length-1)) omT) ?_;have b2:(s.length-1)+1<=3:=aF (by have:=hsl;exact omT) (aC 1);refine rW (vN ((s.length-1)+1)) rfl (okI (bJ b2 rfl))<|rFx (x:=.osl 50 0 0 false) (h':=upd _ 50 (some (.arr (([]:List Wy).map wyL) 3))) rfl rfl (rfl) (⟨by decide,Fj.2 omT,by show((((s.length-1)+1):Nat):Int)<=1000000;omega⟩)<|qR 0 rfl<|rFx (x:=.osl 54 0 (s.length-1) false) (h':=upd (upd _ 50 none) 54 (some (.arr ((s.take (s.length-1)).map wyL) 3))) rfl rfl (jN wyL ([]:List Wy) (s.take (s.length-1)) omT omT) (⟨by exact omT,by exact omT,trivial⟩)<|qRJ 0 0 rfl<|Fs<|qS 0 rfl<|rCi rfl (tT line hline)<|qR 0 rfl<|rV (.agg [vU (lineOf line),vB dirty,.v (.string (dB data))]) rfl<|rV (.sl 3 ([[vU (lineOf line),vB dirty,.v (.string (dB data))]]) true) rfl<|rFx (x:=.osl 63 0 ((s.length-1)+1) false) (h':=upd (upd _ 54 none) 63 (some (.arr (((s.take (s.length-1))++([(⟨lineOf line,dirty,(dB data)⟩:Wy)])).map wyL) 3))) rfl rfl (jN wyL (s.take (s.length-1)) ([(⟨lineOf line,dirty,(dB data)⟩:Wy)]) omT omT) (⟨by exact omT,by exact omT,trivial⟩)<|qRF 0 rfl<| .mk _ (.step (some (63,3,((s.take (s.length-1))++([(⟨lineOf line,dirty,(dB data)⟩:Wy)])).map wyL)) (Ghost.of_lists (l:=[(4,.ptr 0 0),(8,.ptr 1 0),(9,.ptr 2 0),(10,vB false),(11,vN ((bG c line).1)),(35,vB ((bG c line).2.isSome)),(15,.sl 3 ((s.take (s.length-1)).map wyL) false),(16,.ptr 30 0),(17,vB (((s.length:Nat):Int)==c.ways)),(75,vB (((s.length:Nat):Int)==c.ways)),(19,.sl 3 (((s.take (s.length-1))++([(⟨lineOf line,dirty,(dB data)⟩:Wy)])).map wyL) false)]) (hp:=[(0,.box [vI c.ways,.sl 1 (c.sets.map aV) false]),(1,.box [vI 0,.sl 0 ([]) true]),(2,.box [zU,vB false,.v (.string (⟨#[]⟩:ByteArray))]),(30,.box (wyL g))]) rfl rfT rbT) (.refl _))<|qCC 0 rfl<|Fu rfl rfl<|oR 4 rfl<|rW (vN (s.length-1)) rfl (vX wyL (s.take (s.length-1)) omT)<|rCi rfl (PX ((s.take (s.length-1))++([(⟨lineOf line,dirty,(dB data)⟩:Wy)])) (s.length-1) false omT omT (sM (AQ hso.2) (sN (P:=Wy.ok) ⟨(dT hline)⟩)))<|rCi rfl (KX c ((bG c line).1) (eU ((s.take (s.length-1))++([(⟨lineOf line,dirty,(dB data)⟩:Wy)])) (s.length-1)) hok hF2 omT (by first|exact omT|(rw[pQ omT];exact omT)) (pR (sM (AQ hso.2) (sN (P:=Wy.ok) ⟨(dT hline)⟩))))<|oR 2 rfl<|rSt rfl<|rSt rfl<|oR 1 rfl<|rE 77<|And.intro (by kernel_rfl)<|qXF 0 rfl ?_;rw[AP hR hF,hse,if_pos hq];refine fT rfl ?_;rw[Gt _ _ _ omT,h5];rw[<-dZ,show s.getLast?.getD qI=g from by rw[oZ,hg];rfl]
     try rfl
    ·have h5p:=mX h5
     try have hq:(s.length:Int)=c.ways:=by simpa using h5
     try have hq: ¬(s.length:Int)=c.ways:=by simpa using h5
     refine qC 0 rfl<|rW (vN s.length) rfl (bT wyL s) ?_;have b3:s.length+1<=3:=aF hsl (aC 1);refine rW (vN (s.length+1)) rfl (okI (bJ b3 rfl))<|rFx (x:=.osl 37 0 0 false) (h':=upd _ 37 (some (.arr (([]:List Wy).map wyL) 3))) rfl rfl (rfl) (⟨by decide,Fj.2 omT,by show(((s.length+1):Nat):Int)<=1000000;omega⟩)<|qR 0 rfl<|rFx (x:=.osl 41 0 s.length false) (h':=upd (upd _ 37 none) 41 (some (.arr (s.map wyL) 3))) rfl rfl (jN wyL ([]:List Wy) s omT omT) (⟨by exact omT,by exact omT,trivial⟩)<|qRJ 0 0 rfl<|Fs<|qS 0 rfl<|rCi rfl (tT line hline)<|qR 0 rfl<|rV (.agg [vU (lineOf line),vB dirty,.v (.string (dB data))]) rfl<|rV (.sl 3 ([[vU (lineOf line),vB dirty,.v (.string (dB data))]]) true) rfl<|rFx (x:=.osl 50 0 (s.length+1) false) (h':=upd (upd _ 41 none) 50 (some (.arr ((s++([(⟨lineOf line,dirty,(dB data)⟩:Wy)])).map wyL) 3))) rfl rfl (jN wyL s ([(⟨lineOf line,dirty,(dB data)⟩:Wy)]) omT omT) (⟨by exact omT,by exact omT,trivial⟩)<|qRF 0 rfl<| .mk _ (.step (some (50,3,(s++([(⟨lineOf line,dirty,(dB data)⟩:Wy)])).map wyL)) (Ghost.of_lists (l:=[(4,.ptr 0 0),(8,.ptr 1 0),(9,.ptr 2 0),(10,vB false),(11,vN ((bG c line).1)),(35,vB ((bG c line).2.isSome)),(15,.sl 3 (s.map wyL) false),(16,.ptr 30 0),(17,vB (((s.length:Nat):Int)==c.ways)),(75,vB (((s.length:Nat):Int)==c.ways)),(19,.sl 3 ((s++([(⟨lineOf line,dirty,(dB data)⟩:Wy)])).map wyL) false)]) (hp:=[(0,.box [vI c.ways,.sl 1 (c.sets.map aV) false]),(1,.box [vI 0,.sl 0 ([]) true]),(2,.box [zU,vB false,.v (.string (⟨#[]⟩:ByteArray))]),(30,.box [zU,vB false,.v (.string (⟨#[]⟩:ByteArray))])]) rfl rfT rbT) (.refl _))<|qCC 0 rfl<|Fu rfl rfl<|oR 4 rfl<|rW (vN s.length) rfl (bT wyL s)<|rCi rfl (PX (s++([(⟨lineOf line,dirty,(dB data)⟩:Wy)])) s.length false omT omT (sM hso.2 (sN (P:=Wy.ok) ⟨(dT hline)⟩)))<|rCi rfl (KX c ((bG c line).1) (eU (s++([(⟨lineOf line,dirty,(dB data)⟩:Wy)])) s.length) hok hF2 omT (by first|exact omT|(rw[pQ omT];exact omT)) (pR (sM hso.2 (sN (P:=Wy.ok) ⟨(dT hline)⟩))))<|oR 2 rfl<|rSt rfl<|rSt rfl<|oR 1 rfl<|rE 64<|And.intro (by kernel_rfl)<|qXF 0 rfl ?_;rw[AP hR hF,hse,if_neg hq];refine fT rfl ?_;rw[Gt _ _ _ omT,h5]
     try rfl
def VN{a:Nat}(h:a<=4294967295):IntKind.wrap .u32 ((a:Int)-((lineOf a:Nat):Int))=((a%16:Nat):Int):=by
 rw[Ua (B:=4294967295) (dT h) rfl];have:(a+4294967296-lineOf a)%4294967296=a%16:=by unfold lineOf;omega
 rw[this]
def SU{c:Ca}{k j:Nat}{s:List Wy}{x:Wy}(hR:fS c=true)(hs:c.sets[k]?=some s)(hx:s[j]?=some x):x.data.size=0∨x.data.size=16:=
 (((fN c k s).1 (((eS c).1 hR).2 k s hs)).2 j x hx).2.2.1
def Gv{c:Ca}{addr:Nat}(b:ByteArray)(hF:(bG c addr).2.isSome=false):tV c addr b=(c,false):=by
 unfold tV;have hj:(bG c addr).2=none:=by simpa using hF
 have e:bG c addr=((bG c addr).1,none):=by rw[<-hj]
 rw[e]
def As{c:Ca}{addr:Nat}{s:List Wy}{x:Wy}(b:ByteArray)(hF:(bG c addr).2.isSome=true)(hs:pH c (bG c addr).1=s)(hx:s[(bG c addr).2.getD 0]?=some x):
  tV c addr b=if x.data.size=0∨b.size+addr%16>16 then(c,false)else(qJ c (bG c addr).1 (modHd (λw=>{w with data:=EL w.data (addr%16) b,dirty:=true}) (eU s ((bG c addr).2.getD 0))),true):=by
 unfold tV;obtain⟨j,hj⟩:=Fk.1 hF;have e:bG c addr=((bG c addr).1,some j):=by rw[<-hj]
 rw[hj]at hx⊢;have hx':(pH c (bG c addr).1)[j]?=some x:=by rw[hs];exact hx
 rw[e];have hx2:s[j]?=some x:=hx;simp only[hs,hx2];rfl
def PZ{α:Type}{l:List α}{k:Nat}{x:α}(h:l[k]?=some x):(eU l k)[0]?=some x:=by rw[BZ h];rfl
abbrev wrA(p:Ca×Bool):AV:=.tup [.agg (caL p.1 false),vB p.2]
def SV(c:Ca)(addr:Nat)(bytes:ByteArray)(hok:c.ok)(hline:addr<=4294967295):cA C0 123 [.agg (caL c false),vU addr,.v (.string bytes)] (wrA (tV c addr bytes)):=by
 refine dc1 (cA.intro c1Ok Tryz.func123 rfl rfl (by kernel_rfl) rfl ?_);have hFb:=AO c addr;refine qS 0 rfl<|rCi rfl (Ar c addr hok hline)<|qRC 0 rfl<|aS rfl (λh1=>?_) (λh1=>?_)
 ·have hF:(bG c addr).2.isSome=false:=by simpa using h1
  refine qCF 0 rfl ?_;rw[Gv bytes hF];exact fT rfl rfl
 ·have hF:(bG c addr).2.isSome=true:=by simpa using h1
  obtain⟨hR,hF1,hF2,hF3⟩:=pS hF;obtain⟨hs0,hs4,hw2,hw1,hsw⟩:=kE hR;obtain⟨s,hs⟩:∃y_,c.sets[((bG c addr).1)]?=some y_:=⟨_,aA omT⟩;have hso:=hok.set s (aB hs);have hse:=vA hs;rw[hse]at hF3;have hsl:s.length<=2:=by have:=hsw s (aB hs);omega
  have hfl:=pQ hF3;refine qC 0 rfl<|rIx (aV s) (.dp 1 0 (aV s)) rfl rfl (fW hs) rfl ?_;obtain⟨x,hx⟩:∃y_,s[((bG c addr).2.getD 0)]?=some y_:=⟨_,aA omT⟩;have hxo:=hso.2 x (aB hx);have hxs:=SU hR hs hx;refine qR 0 rfl<|rIx (wyL x) (.dp 3 0 (wyL x)) rfl rfl (fW hx) rfl<|qR 0 rfl<|rCi rfl (tT addr hline) ?_;have b1:addr%16<=15:=by omega
  refine rW (vU (addr%16)) rfl (okI (VN hline))<|rW (vN (addr%16)) rfl (okI (bJ b1 rfl))<|qR 0 rfl<|rV (vB (x.data.toList==(⟨#[]⟩:ByteArray).toList)) rfl<|qR 0 rfl<|gBS rfl id rfl ?_;have b2:16-(addr%16)<=16:=aN (jS _ _) (aC 16);refine qR 0 rfl<|gBS rfl id (okI (Dm omT (aC 16) rfl))<|gBS rfl hsT (okB (gtN _ _))<|cU rfl rfl rfl (by simp)<|qRC 0 rfl<|aS rfl (λh2=>?_) (λh2=>?_)
  ·have hq:(x.data.size=0∨bytes.size>16-addr%16):=by have z:=h2;rw[zL]at z;simp only[cOr,dI,bB,dH,lU]at z;omega
   refine qCF 0 rfl ?_;rw[As bytes hF hse hx,if_pos omT];exact fT rfl rfl
  ·have hq: ¬(x.data.size=0∨bytes.size>16-addr%16):=by have z:=h2;rw[zL]at z;simp only[cOr,dI,bB,dH,lU]at z;omega
   have hx16:x.data.size=16:=by omega
   have hb16:bytes.size<=16-addr%16:=by omega
   refine qC 0 rfl<|rIx (aV s) (.dp 1 0 (aV s)) rfl rfl (fW hs) rfl<|qR 0 rfl<|fV _ rfl rfl rfl ((Us s ((bG c addr).2.getD 0) false omT omT hso.2).frame0 _ _ rfl) ?_;rintro _ _ ⟨rfl,rfl⟩;refine qRC 0 rfl<|cRg<|oR 3 rfl<|nW (.v (.string (x.data.extract 0 (addr%16)))) rfl rfl (by refine⟨?_,?_,?_⟩<;>(first|exact aH _|decide|(apply Fj.2;exact omT)))<|oR 1 rfl<|nW (.v (.string ((x.data.extract 0 (addr%16))++bytes))) rfl rfl (by show(_:Int)<=9223372036854775807;simp[kC,dX];omega)<|oR 3 rfl<|rV (vN bytes.size) rfl ?_;have b3:(addr%16)+bytes.size<=31:=aF b1 (show bytes.size<=16 by omega);refine rW (vN ((addr%16)+bytes.size)) rfl (okI (bJ b3 rfl))<|nW (.v (.string (x.data.extract ((addr%16)+bytes.size) x.data.size))) rfl rfl (by refine⟨?_,?_,?_⟩<;>(first|exact aH _|decide|(apply Fj.2;exact omT)))<|nW (.v (.string (((x.data.extract 0 (addr%16))++bytes)++(x.data.extract ((addr%16)+bytes.size) x.data.size)))) rfl rfl (by show(_:Int)<=9223372036854775807;simp[kC,dX];omega)<|nW (.ptr2 46 (0+0) 0) rfl rfl (⟨by decide,Fi.2 (by show 0<s.length;exact omT)⟩)<|oR 1 rfl ?_;obtain⟨w,hw⟩:∃y_,(eU s ((bG c addr).2.getD 0))[0]?=some y_:=⟨_,aA omT⟩;have hwo:=(pR hso.2) w (aB hw);have hxw:w=x:=Option.some.inj (hw.symm.trans (PZ hx));have hx1:((eU s ((bG c addr).2.getD 0)).set 0 (⟨w.line,w.dirty,((x.data.extract 0 (addr%16))++bytes)++(x.data.extract ((addr%16)+bytes.size) x.data.size)⟩:Wy))[0]?=some (⟨w.line,w.dirty,((x.data.extract 0 (addr%16))++bytes)++(x.data.extract ((addr%16)+bytes.size) x.data.size)⟩:Wy):=aT omT;refine nL (wyL w) (h':=upd _ 46 (some (.arr (((eU s ((bG c addr).2.getD 0)).set 0 (⟨w.line,w.dirty,((x.data.extract 0 (addr%16))++bytes)++(x.data.extract ((addr%16)+bytes.size) x.data.size)⟩:Wy)).map wyL) 3))) rfl rfl rfl (⟨by decide,IE (fW hw)⟩) (vY (f:=wyL) (l:=eU s ((bG c addr).2.getD 0)) (k:=0) (x:=(⟨w.line,w.dirty,((x.data.extract 0 (addr%16))++bytes)++(x.data.extract ((addr%16)+bytes.size) x.data.size)⟩:Wy)))<|rE 64<|qXJ 0 0 rfl<|Fs<|qS 0 rfl<|nW (.ptr2 46 (0+0) 0) rfl rfl (⟨by decide,Fi.2 (by show 0<s.length;exact omT)⟩) ?_;have hx2:(((eU s ((bG c addr).2.getD 0)).set 0 (⟨w.line,w.dirty,((x.data.extract 0 (addr%16))++bytes)++(x.data.extract ((addr%16)+bytes.size) x.data.size)⟩:Wy)).set 0 (⟨w.line,true,((x.data.extract 0 (addr%16))++bytes)++(x.data.extract ((addr%16)+bytes.size) x.data.size)⟩:Wy))[0]?=some (⟨w.line,true,((x.data.extract 0 (addr%16))++bytes)++(x.data.extract ((addr%16)+bytes.size) x.data.size)⟩:Wy):=aT omT
   refine qR 0 rfl<|nL (wyL (⟨w.line,w.dirty,((x.data.extract 0 (addr%16))++bytes)++(x.data.extract ((addr%16)+bytes.size) x.data.size)⟩:Wy)) (h':=upd _ 46 (some (.arr ((((eU s ((bG c addr).2.getD 0)).set 0 (⟨w.line,w.dirty,((x.data.extract 0 (addr%16))++bytes)++(x.data.extract ((addr%16)+bytes.size) x.data.size)⟩:Wy)).set 0 (⟨w.line,true,((x.data.extract 0 (addr%16))++bytes)++(x.data.extract ((addr%16)+bytes.size) x.data.size)⟩:Wy)).map wyL) 3))) rfl rfl rfl (⟨by decide,IE (fW hx1)⟩) (vY (f:=wyL) (l:=(eU s ((bG c addr).2.getD 0)).set 0 (⟨w.line,w.dirty,((x.data.extract 0 (addr%16))++bytes)++(x.data.extract ((addr%16)+bytes.size) x.data.size)⟩:Wy)) (k:=0) (x:=(⟨w.line,true,((x.data.extract 0 (addr%16))++bytes)++(x.data.extract ((addr%16)+bytes.size) x.data.size)⟩:Wy)))<|qRF 0 rfl<| .mk _ (.step (some (46,3,(((eU s ((bG c addr).2.getD 0)).set 0 (⟨w.line,w.dirty,((x.data.extract 0 (addr%16))++bytes)++(x.data.extract ((addr%16)+bytes.size) x.data.size)⟩:Wy)).set 0 (⟨w.line,true,((x.data.extract 0 (addr%16))++bytes)++(x.data.extract ((addr%16)+bytes.size) x.data.size)⟩:Wy)).map wyL)) (Ghost.of_lists (l:=[(3,.ptr 0 0),(6,.ptr 1 0),(7,vB false),(8,vN ((bG c addr).1)),(22,vB (!((bG c addr).2.isSome))),(46,vB (cR (x.data.toList==(⟨#[]⟩:ByteArray).toList) true (decide (bytes.size>(16-(addr%16)))))),(13,.sl 3 ((((eU s ((bG c addr).2.getD 0)).set 0 (⟨w.line,w.dirty,((x.data.extract 0 (addr%16))++bytes)++(x.data.extract ((addr%16)+bytes.size) x.data.size)⟩:Wy)).set 0 (⟨w.line,true,((x.data.extract 0 (addr%16))++bytes)++(x.data.extract ((addr%16)+bytes.size) x.data.size)⟩:Wy)).map wyL) false)]) (hp:=[(0,.box [vI c.ways,.sl 1 (c.sets.map aV) false]),(1,.box [vI 0,.sl 0 ([]) true])]) rfl rfT rbT) (.refl _))<|qC 0 rfl<|rCi rfl (KX c ((bG c addr).1) (((eU s ((bG c addr).2.getD 0)).set 0 (⟨w.line,w.dirty,((x.data.extract 0 (addr%16))++bytes)++(x.data.extract ((addr%16)+bytes.size) x.data.size)⟩:Wy)).set 0 (⟨w.line,true,((x.data.extract 0 (addr%16))++bytes)++(x.data.extract ((addr%16)+bytes.size) x.data.size)⟩:Wy)) hok hF2 omT (by first|exact omT|(rw[pQ omT];exact omT)) (zC (P:=Wy.ok) (zC (P:=Wy.ok) (pR hso.2) ⟨hwo.line⟩) ⟨hwo.line⟩))<|qRF 0 rfl ?_;subst hxw;rw[As bytes hF hse hx,if_neg omT,EE hw];exact fT rfl (by first|rfl|(simp only[lI];rfl))
def NL{α:Type}{f:α->α}{l:List α}{k:Nat}{x:α}(h:l[k]?=some x):l.modify k f=l.set k (f x):=by
 apply dC;intro i;rw[oE,mQ];obtain⟨hk,rfl⟩:=DS.1 h;by_cases e:k=i
 ·subst e;simp[hk]
 ·simp[e]
def Dk{c:Ca}{line:Nat}{s:List Wy}(hF:(bG c line).2.isSome=true)(hs:pH c (bG c line).1=s):qO c line=qJ c (bG c line).1 (s.modify ((bG c line).2.getD 0) λw=>{w with dirty:=false}):=by
 unfold qO;obtain⟨j,hj⟩:=Fk.1 hF;have e:bG c line=((bG c line).1,some j):=by rw[<-hj]
 rw[hj,e];simp only[hs];rfl
def Dl{c:Ca}{line:Nat}(hF:(bG c line).2.isSome=false):qO c line=c:=by
 unfold qO;have hj:(bG c line).2=none:=by simpa using hF
 have e:bG c line=((bG c line).1,none):=by rw[<-hj]
 rw[e]
def HL(c:Ca)(line:Nat)(hok:c.ok)(hline:line<=4294967295):cA C0 82 [.agg (caL c false),vU line] (.agg (caL (qO c line) false)):=by
 refine dc1 (cA.intro c1Ok Tryz.func82 rfl rfl (by kernel_rfl) rfl ?_);have hFb:=AO c line;refine qS 0 rfl<|rCi rfl (Ar c line hok hline)<|qRC 0 rfl<|aS rfl (λh1=>?_) (λh1=>?_)
 ·have hF:(bG c line).2.isSome=false:=by simpa using h1
  refine qCF 0 rfl ?_;rw[Dl hF];exact dF rfl ⟨trivial,trivial,trivial⟩ rfl rfl
 ·have hF:(bG c line).2.isSome=true:=by simpa using h1
  obtain⟨hR,hF1,hF2,hF3⟩:=pS hF;obtain⟨hs0,hs4,hw2,hw1,hsw⟩:=kE hR;obtain⟨s,hs⟩:∃y_,c.sets[((bG c line).1)]?=some y_:=⟨_,aA omT⟩;have hso:=hok.set s (aB hs);have hse:=vA hs;rw[hse]at hF3;have hsl:s.length<=2:=by have:=hsw s (aB hs);omega
  have hfl:=pQ hF3;refine qC 0 rfl<|rIx (aV s) (.dp 1 0 (aV s)) rfl rfl (fW hs) rfl<|qR 0 rfl<|rW (vN s.length) rfl (bT wyL s)<|rFx (x:=.osl 20 0 s.length false) (h':=upd _ 20 (some (.arr ((List.replicate s.length qI).map wyL) 3))) rfl rfl (Qc (fO (f:=wyL) (a:=qI)).symm) (⟨aH _,Fj.2 omT,by show((s.length:Nat):Int)<=1000000;omega⟩)<|qR 0 rfl<|rIx (aV s) (.dp 1 0 (aV s)) rfl rfl (fW hs) rfl<|qR 0 rfl<|rFx (x:=vI ((min ((s.map wyL).length) (s.length):Nat):Int)) (h':=upd _ 20 (some (.arr (s.map wyL) 3))) rfl rfl (Id (DL wyL ((List.replicate s.length qI).map wyL) s omT omT)) (⟨by exact omT,trivial⟩)<|qRJ 0 0 rfl<|Fs<|qS 0 rfl<|nW (.ptr2 20 (0+((bG c line).2.getD 0)) 0) rfl rfl (⟨aH _,Fi.2 (by show((bG c line).2.getD 0)<s.length;exact omT)⟩) ?_;obtain⟨x,hx⟩:∃y_,s[((bG c line).2.getD 0)]?=some y_:=⟨_,aA omT⟩;have hxo:=hso.2 x (aB hx);have hx1:(s.set ((bG c line).2.getD 0) (⟨x.line,false,x.data⟩:Wy))[((bG c line).2.getD 0)]?=some (⟨x.line,false,x.data⟩:Wy):=aT omT;refine qR 0 rfl<|nL (wyL x) (h':=upd _ 20 (some (.arr ((s.set ((bG c line).2.getD 0) (⟨x.line,false,x.data⟩:Wy)).map wyL) 3))) rfl rfl rfl (⟨aH _,IE (fW hx)⟩) (vY (f:=wyL) (l:=s) (k:=((bG c line).2.getD 0)) (x:=(⟨x.line,false,x.data⟩:Wy)))<|qRF 0 rfl<| .mk _ (.step (some (20,3,(s.set ((bG c line).2.getD 0) (⟨x.line,false,x.data⟩:Wy)).map wyL)) (Ghost.of_lists (l:=[(2,.ptr 0 0),(4,.ptr 1 0),(5,vN ((bG c line).1)),(17,vB (!((bG c line).2.isSome))),(8,.sl 3 ((s.set ((bG c line).2.getD 0) (⟨x.line,false,x.data⟩:Wy)).map wyL) false)]) (hp:=[(0,.box [vI c.ways,.sl 1 (c.sets.map aV) false]),(1,.box [vI 0,.sl 0 ([]) true])]) rfl rfT rbT) (.refl _))<|qC 0 rfl<|rCi rfl (KX c ((bG c line).1) (s.set ((bG c line).2.getD 0) (⟨x.line,false,x.data⟩:Wy)) hok hF2 omT omT (zC (P:=Wy.ok) hso.2 ⟨hxo.line⟩))<|qRF 0 rfl ?_;rw[Dk hF hse,NL hx];exact dF rfl ⟨trivial,trivial,trivial⟩ rfl rfl
section
variable {α:Type}{p:α->Bool}
def Qa{l:List α}{k:Nat}{x:α}(hx:l[k]?=some x)(hn:p x=false)(h:(l.take k).find? p=none):(l.take (k+1)).find? p=none:=by
 rw[bV,hx,jD,h];simp[hn]
def Qb{l:List α}{k:Nat}{x:α}(hx:l[k]?=some x)(hp:p x=true)(h:(l.take k).find? p=none):l.find? p=some x:=by
 have e:l=l.take (k+1)++l.drop (k+1):=(gC _ _).symm;rw[e,jD,bV,hx,jD,h];simp[hp]
def SW{l:List α}{k:Nat}(hk:l.length<=k)(h:(l.take k).find? p=none):l.find? p=none:=by rwa [aM hk]at h
def VO{L:List (List α)}{k:Nat}{s:List α}(hs:L[k]?=some s)(hn:s.find? p=none)(h:(L.take k).flatten.find? p=none):(L.take (k+1)).flatten.find? p=none:=by
 rw[bV,hs,oP,jD,h];simpa using hn
def VP{L:List (List α)}{k:Nat}{s:List α}{x:α}(hs:L[k]?=some s)(hn:s.find? p=some x)(h:(L.take k).flatten.find? p=none):L.flatten.find? p=some x:=by
 have e:L=L.take (k+1)++L.drop (k+1):=(gC _ _).symm;rw[e,oP,jD,bV,hs,oP,jD,h];simp[hn]
end
abbrev drA(o:Option Wy):AV:=.tup [.agg (wyL (o.getD qI)),vB o.isSome]
def HP(c:Ca)(hok:c.ok):cA C0 81 [.agg (caL c false)] (drA (cT c)):=by
 refine cA.intro c0Ok Tryz.func81 rfl rfl (by kernel_rfl) rfl<|qS 0 rfl<|rCi rfl (AR c false hok)<|qRC 0 rfl<|aS rfl (λh1=>?_) (λh1=>?_)
 ·have hR:fS c=false:=by simpa using h1
  refine qC 0 rfl<|rV (.agg [.v (.int .u32 0),vB false,.v (.string (⟨#[]⟩:ByteArray))]) rfl<|qRF 0 rfl ?_;rw[show cT c=none from by unfold cT;rw[if_neg (by rw[hR];decide)]];exact fT rfl rfl
 ·have hR:fS c=true:=by simpa using h1
  obtain⟨hs0,hs4,hw2,hw1,hsw⟩:=kE hR;refine qC 0 rfl<|rW (vN c.sets.length) rfl (bT aV c.sets)<|qRC 0 rfl<|jX (κ:=Nat) (λk=>⟨slotsF [(2,.ptr 1 0),(10,vB (!(fS c))),(13,.sl 1 (c.sets.map aV) false),(14,vN c.sets.length),(15,vN k)],heapF [(0,.box [vI c.ways,.sl 1 (c.sets.map aV) false]),(1,.box [.v (.int .u32 0),vB false,.v (.string (⟨#[]⟩:ByteArray))])],10⟩) (λk=>k<=c.sets.length∧(c.sets.take k).flatten.find? (·.dirty)=none) (λk=>c.sets.length-k) 0 (λs=>s) (Weak.of_lists (λs=>s) wT wH rfl) (⟨aE _,rfl⟩) ?_;intro k hk;have hkn:k<=c.sets.length:=hk.1;have hkB:k<=1000000:=by omega
  refine qS 0 rfl<|rW (vB (decide (k<c.sets.length))) rfl (okB (ltN _ _))<|qRC 0 rfl<|aS rfl (λh2=>?_) (λh2=>?_)
  ·have h2p:=of_decide_eq_true h2;obtain⟨s,hs⟩:∃y_,c.sets[k]?=some y_:=⟨_,aA omT⟩;have hso:=hok.set s (aB hs);have hsl:s.length<=2:=by have:=hsw s (aB hs);omega
   refine qC 0 rfl<|rIx (aV s) (.dp 1 0 (aV s)) rfl rfl (fW hs) rfl<|qR 0 rfl<|rW (vN s.length) rfl (bT wyL s)<|qRC 0 rfl<|jX (κ:=Nat) (λj=>⟨slotsF [(2,.ptr 1 0),(10,vB (!(fS c))),(13,.sl 1 (c.sets.map aV) false),(14,vN c.sets.length),(15,vN k),(16,vB (decide (k<c.sets.length))),(17,.dp 1 0 (aV s)),(18,.sl 3 (s.map wyL) false),(5,.sl 3 (s.map wyL) false),(19,.sl 3 (s.map wyL) false),(20,vN s.length),(21,vN j)],heapF [(0,.box [vI c.ways,.sl 1 (c.sets.map aV) false]),(1,.box [.v (.int .u32 0),vB false,.v (.string (⟨#[]⟩:ByteArray))])],17⟩) (λj=>j<=s.length∧(s.take j).find? (·.dirty)=none) (λj=>s.length-j) 0 (λs=>s) (Weak.of_lists (λs=>s) wT wH rfl) (⟨aE _,rfl⟩) ?_;intro j hj;have hjn:j<=s.length:=hj.1;have hjB:j<=1000000:=by omega
   refine qS 0 rfl<|rW (vB (decide (j<s.length))) rfl (okB (ltN _ _))<|qRC 0 rfl<|aS rfl (λh3=>?_) (λh3=>?_)
   ·have h3p:=of_decide_eq_true h3;obtain⟨x,hx⟩:∃y_,s[j]?=some y_:=⟨_,aA omT⟩;have hxo:=hso.2 x (aB hx);refine qC 0 rfl<|rIx (wyL x) (.dp 3 0 (wyL x)) rfl rfl (fW hx) rfl<|qRC 0 rfl<|aS rfl (λh4=>?_) (λh4=>?_)
    ·refine qCF 0 rfl<|qXF 0 rfl<|qXF 0 rfl ?_;rw[show cT c=some x from by unfold cT;rw[if_pos hR];exact VP hs (Qb hx h4 hj.2) hk.2];exact fT rfl rfl
    ·skip
     have b1:j+1<=1000001:=aF hjB (aC 1);refine qC 0 rfl<|rW (vN (j+1)) rfl (okI (bJ b1 rfl))<|qRF 0 rfl<|⟨j+1,λs=>s,Weak.of_lists _ wT wH rfl,⟨by omega,Qa hx h4 hj.2⟩,by show s.length-(j+1)<s.length-j;omega⟩
   ·have h3p:=aD h3;refine qCF 0 rfl ?_;have b2:k+1<=1000001:=aF hkB (aC 1);refine qX 0 rfl<|rW (vN (k+1)) rfl (okI (bJ b2 rfl))<|qRF 0 rfl<|⟨k+1,λs=>s,Weak.of_lists _ wT wH rfl,⟨by omega,VO hs (SW omT hj.2) hk.2⟩,by show c.sets.length-(k+1)<c.sets.length-k;omega⟩
  ·have h2p:=aD h2;refine qCF 0 rfl<|qX 0 rfl<|rV (.agg [.v (.int .u32 0),vB false,.v (.string (⟨#[]⟩:ByteArray))]) rfl<|qRF 0 rfl ?_;rw[show cT c=none from by unfold cT;rw[if_pos hR];have z:=hk.2;rwa [aM omT]at z];exact fT rfl rfl
def Jv(m:ByteArray)(p:Pt):(Bq m p).size=m.size:=by
 unfold Bq;split
 ·simp only[kC,dX];omega
 ·rfl
def gW(m:ByteArray)(l:List Pt):(qP m l).size=m.size:=by
 unfold qP
 induction l generalizing m with
 |nil=>rfl
 |cons p l ih=>rw[oY,ih,Jv]
def Gr{m:ByteArray}{l:List Pt}{k:Nat}{x:Pt}(hx:l[k]?=some x):qP m (l.take (k+1))=Bq (qP m (l.take k)) x:=by
 unfold qP;rw[bV,hx];simp
def VL(s:ByteArray):aW s=s.data.toList.map λb=>[AV.v (.int .u8 (b.toNat:Int))]:=rfl
def SQ(a b:ByteArray):(a++b).data.toList=a.data.toList++b.data.toList:=by simp
def SR(a:ByteArray)(i j:Nat):(a.extract i j).data.toList=(a.data.toList.take j).drop i:=by
 rw[ByteArray.data_extract,nZ,List.extract_eq_take_drop,List.drop_take]
def PS{m:ByteArray}{p:Pt}{n:Nat}(h:p.addr<m.size)(hn:n=m.size-p.addr):(aW m).take (0+p.addr)++(aW p.data).take (min (aW p.data).length n)++(aW m).drop (0+p.addr+min (aW p.data).length n)=aW (Bq m p):=by
 subst hn;unfold Bq;rw[if_pos h,bF,rH];simp only[VL,SQ,SR,dY,eZ,kI,cB];have hl:(m.data.toList.map λb=>[AV.v (.int .u8 (b.toNat:Int))]).length=m.size:=by rw[aG];exact dQ
 rw[<-hl,cM]
def NJ{m:ByteArray}{p:Pt}(h: ¬p.addr<m.size):Bq m p=m:=if_neg h
def Ms(m:ByteArray)(n:Nat)(h:m.size<=n):iG (List.take n (List.drop 0 (aW m)))=some m.data.toList:=by
 rw[cB,aM (by rw[rH];exact h)];exact sU _
def PT(m:ByteArray)(l:List Pt)(ck:Bool)(hm:m.size<=1000000)(hl:l.length<=1000000)(ho:∀x∈l,x.ok):cA C0 57 [.v (.string m),.sl 2 (l.map ptL) ck] (.v (.string (qP m l))):=by
 refine dc1 (cA.intro c1Ok Tryz.func57 rfl rfl (by kernel_rfl) rfl ?_);refine qS 0 rfl<|rFx (x:=.osl 2 0 m.size false) (h':=upd _ 2 (some (.arr (aW m) 1))) rfl rfl (rfl) ((by show m.size<=1000000;exact hm))<|qR 0 rfl<|rW (vN l.length) rfl (bT ptL l)<|qRC 0 rfl<|jX (κ:=Nat) (λk=>⟨slotsF [(4,.v (.string (⟨#[]⟩:ByteArray))),(5,.osl 2 0 m.size false),(10,.sl 2 (l.map ptL) ck),(11,vN l.length),(12,vN k)],heapF [(2,.arr (aW (qP m (l.take k))) 1)],7⟩) (λk=>k<=l.length) (λk=>l.length-k) 0 (λs=>s) (Weak.of_lists (λs=>s) wT wH rfl) (aE _) ?_;intro k hk;have hkn:k<=l.length:=hk;have hkB:k<=1000000:=by omega
 refine qS 0 rfl<|rW (vB (decide (k<l.length))) rfl (okB (ltN _ _))<|qRC 0 rfl<|aS rfl (λh1=>?_) (λh1=>?_)
 ·have h1p:=of_decide_eq_true h1;obtain⟨x,hx⟩:∃y_,l[k]?=some y_:=⟨_,aA omT⟩;have hxo:=ho x (aB hx);refine qC 0 rfl<|rIx (ptL x) (.dp 2 0 (ptL x)) rfl rfl (fW hx) rfl<|qR 0 rfl<|rW (.v (.int .u64 ((x.addr:Nat):Int))) rfl (okI (IC hxo.addr rfl))<|qR 0 rfl<|rV (vN m.size) rfl<|rW (.v (.int .u64 ((m.size:Nat):Int))) rfl (okI (IC hm rfl))<|rW (vB (decide (x.addr<m.size))) rfl (okB (ltN _ _))<|qRC 0 rfl<|aS rfl (λh2=>?_) (λh2=>?_)
  ·have h2p:=of_decide_eq_true h2;refine cRg<|oR 3 rfl<|nW (.osl 2 (0+x.addr) (m.size-x.addr) false) rfl (KZ (by first|rfl|omega) (by simp only[Option.getD];omega)) slT<|oR 2 rfl ?_;have hlt:x.addr<(qP m (l.take k)).size:=by rw[gW];omega
   refine rFx (x:=vI ((min (aW x.data).length (m.size-x.addr):Nat):Int)) (h':=upd _ 2 (some (.arr (aW (qP m (l.take (k+1)))) 1))) rfl rfl (Id (by rw[Gr hx];exact PS hlt (by rw[gW]))) (⟨by show 0+x.addr+(m.size-x.addr)<=(aW (qP m (l.take k))).length;rw[rH,gW];omega,trivial⟩)<|rE 26 ?_;have b1:k+1<=1000001:=aF hkB (aC 1);refine qX 0 rfl<|rW (vN (k+1)) rfl (okI (bJ b1 rfl))<|qRF 0 rfl<|⟨k+1,λs=>s,Weak.of_lists _ wT wH rfl,by omega,by show l.length-(k+1)<l.length-k;omega⟩
  ·have h2p:=aD h2;have b2:k+1<=1000001:=aF hkB (aC 1);refine qC 0 rfl<|rW (vN (k+1)) rfl (okI (bJ b2 rfl))<|qRF 0 rfl<|⟨k+1,λs=>s,Weak.of_lists _ wT ⟨⟨rfl,(congrArg (λz=>some (Blk.arr (aW z) 1)) (show qP m (l.take k)=qP m (l.take (k+1))from by rw[Gr hx,NJ (by rw[gW];omega)])),rfl⟩,trivial⟩ rfl,by omega,by show l.length-(k+1)<l.length-k;omega⟩
 ·have h1p:=aD h1;refine qCF 0 rfl<|qX 0 rfl<|YZ ((qP m (l.take k)).data.toList) rfl rfl rfl ((by show 0+m.size<=(aW (qP m (l.take k))).length;rw[rH,gW];omega)) (Ms _ _ (by rw[gW];exact aC _))<|qRF 0 rfl ?_;exact fT rfl (by rw[aM (show l.length<=k by omega)];rfl)
def AM{q:List Req}{k:Nat}{x:Req}(hx:q[k]?=some x)(h:x.kind=4):fU (q.take k)++[⟨x.line,x.data⟩]=fU (q.take (k+1)):=by
 unfold fU;rw[bV,hx];simp[jW,h]
def EB{q:List Req}{k:Nat}{x:Req}(hx:q[k]?=some x)(h: ¬x.kind=4):fU (q.take k)=fU (q.take (k+1)):=by
 unfold fU;rw[bV,hx];simp[jW,h]
def Jw(q:List Req):(fU q).length<=q.length:=by unfold fU;rw[aG];exact List.length_filter_le _ _
def PU{q:List Req}(h:∀x∈q,x.ok):∀x∈fU q,x.ok:=λx hx=>by
 unfold fU at hx;obtain⟨y,hy,rfl⟩:=sY.1 hx;exact⟨(h y (List.mem_filter.1 hy).1).line⟩
def Mt(m:ByteArray)(hm:m.size<=1000000):cA C0 57 [.v (.string m),.sl 0 [] true] (.v (.string m)):=by
 refine dc1 (cA.intro c1Ok Tryz.func57 rfl rfl (by kernel_rfl) rfl ?_);refine qS 0 rfl<|rFx (x:=.osl 2 0 m.size false) (h':=upd _ 2 (some (.arr (aW m) 1))) rfl rfl (rfl) ((by show m.size<=1000000;exact hm))<|qR 0 rfl<|rV (vI 0) rfl<|qRC 0 rfl<|jX (κ:=Unit) (λu_=>⟨slotsF [(5,.osl 2 0 m.size false),(10,.sl 0 ([]) true),(11,vI 0),(12,vI 0)],heapF [(2,.arr (aW m) 1)],7⟩) (λu_=>True) (λu_=>0) () (λs=>s) (Weak.of_lists (λs=>s) wT wH rfl) trivial ?_;intro u_ _;refine qS 0 rfl<|rV (vB (decide (0<0))) rfl<|qRC 0 rfl<|aS rfl (λh1=>by simp at h1) (λ_=>?_);refine qCF 0 rfl<|qX 0 rfl<|YZ (m.data.toList) rfl rfl rfl ((by show 0+m.size<=(aW m).length;rw[rH];omega)) (Ms _ _ (aC _))<|qRF 0 rfl ?_;exact fT rfl rfl
def PV(q:List Req)(m:ByteArray)(ck:Bool)(hm:m.size<=1000000)(hq:q.length<=900000)(ho:∀x∈q,x.ok):cA C0 136 [.sl 4 (q.map rqL) ck,.v (.string m)] (.v (.string (jR q m))):=by
 refine dc1 (cA.intro c1Ok Tryz.func136 rfl rfl (by kernel_rfl) rfl ?_);refine qS 0 rfl<|rW (vN q.length) rfl (bT rqL q)<|qRC 0 rfl<|jX (κ:=Nat×Bool) (λz_=>match z_ with|(k,false)=>⟨slotsF [(1,.v (.string m)),(4,.v (.string (⟨#[]⟩:ByteArray))),(8,.sl 4 (q.map rqL) ck),(9,vN q.length),(10,vN k),(5,.sl 0 ([]) true)],heapF [],6⟩|(k,true)=>⟨slotsF [(1,.v (.string m)),(4,.v (.string (⟨#[]⟩:ByteArray))),(8,.sl 4 (q.map rqL) ck),(9,vN q.length),(10,vN k),(5,.osl 5 0 ((fU (q.take k)).length) false)],heapF [(5,.arr ((fU (q.take k)).map ptL) 2)],6⟩) (λz_=>match z_ with|(k,false)=>(k<=q.length∧fU (q.take k)=[])|(k,true)=>(k<=q.length)) (λz_=>q.length-z_.1) (0,false) (λs=>s) (Weak.of_lists (λs=>s) wT trivial rfl) (⟨aE _,(show fU (q.take 0)=[]from rfl)⟩) ?_;intro z_ hk;obtain⟨k,b_⟩:=z_;cases b_
 ·have hk_:=hk;have hnn:k<=q.length:=hk_.1;have hkB:k<=1000000:=by omega
  have hNk:fU (q.take k)=[]:=hk_.2;refine qS 0 rfl<|rW (vB (decide (k<q.length))) rfl (okB (ltN _ _))<|qRC 0 rfl<|aS rfl (λh1=>?_) (λh1=>?_)
  ·have h1p:=of_decide_eq_true h1;obtain⟨x,hx⟩:∃y_,q[k]?=some y_:=⟨_,aA omT⟩;have hxo:=ho x (aB hx);refine qC 0 rfl<|rIx (rqL x) (.dp 4 0 (rqL x)) rfl rfl (fW hx) rfl<|qR 0 rfl<|rV (vB (x.kind==4)) rfl<|qRC 0 rfl<|aS rfl (λh2=>?_) (λh2=>?_)
   ·have h2p:=mW h2;refine qC 0 rfl<|rV (.agg [vU x.line,.v (.string x.data)]) rfl<|rV (.sl 2 ([[vU x.line,.v (.string x.data)]]) true) rfl<|rFx (x:=.osl 21 0 1 false) (h':=upd _ 21 (some (.arr (([(⟨x.line,x.data⟩:Pt)]).map ptL) 2))) rfl rfl (La omT) (⟨rfl,by exact omT,by exact omT,trivial⟩) ?_;have b1:k+1<=1000001:=aF hkB (aC 1);refine qR 0 rfl<|rW (vN (k+1)) rfl (okI (bJ b1 rfl))<|qRF 0 rfl<|⟨(k+1,true),λi=>match i with|5=>21|i=>i,Weak.of_lists _ ⟨⟨rfl,rfl⟩,⟨rfl,rfl⟩,⟨rfl,rfl⟩,⟨rfl,rfl⟩,⟨rfl,rfl⟩,⟨(show AV.osl 21 0 (1) false=AV.osl 21 0 (fU (q.take (k+1))).length false from by rw[<-(show [(⟨x.line,x.data⟩:Pt)]=fU (q.take (k+1))from(by rw[<-(AM hx h2p),hNk];rfl))];first|done|rfl|(congr 1<;>(first|exact omT|simp))),rfl⟩,trivial⟩ ⟨⟨rfl,(congrArg (λz:List Pt=>some (Blk.arr (z.map ptL) 2)) (show [(⟨x.line,x.data⟩:Pt)]=fU (q.take (k+1))from(by rw[<-(AM hx h2p),hNk];rfl))),rfl⟩,trivial⟩ rfl,by omega,by show q.length-(k+1)<q.length-k;omega⟩
   ·have h2p:=mX h2;have b2:k+1<=1000001:=aF hkB (aC 1);refine qC 0 rfl<|rW (vN (k+1)) rfl (okI (bJ b2 rfl))<|qRF 0 rfl<|⟨(k+1,false),λi=>i,Weak.of_lists _ wT trivial rfl,⟨by omega,(by rw[<-(EB hx h2p)];exact hNk)⟩,by show q.length-(k+1)<q.length-k;omega⟩
  ·have h1p:=aD h1;refine qCF 0 rfl<|qX 0 rfl<|rCi rfl (Mt m (hm))<|qRF 0 rfl ?_;have hW:jR q m=qP m (fU (q.take k)):=by unfold jR;rw[aM omT]
   rw[hW,hNk];exact fT rfl rfl
 ·have hk_:=hk;have hnn:k<=q.length:=hk_;have hkB:k<=1000000:=by omega
  have habk:(fU (q.take k)).length<=900000:=(by have:=Jw (q.take k);rw[aL]at this;omega);refine qS 0 rfl<|rW (vB (decide (k<q.length))) rfl (okB (ltN _ _))<|qRC 0 rfl<|aS rfl (λh3=>?_) (λh3=>?_)
  ·have h3p:=of_decide_eq_true h3;obtain⟨x,hx⟩:∃y_,q[k]?=some y_:=⟨_,aA omT⟩;have hxo:=ho x (aB hx);refine qC 0 rfl<|rIx (rqL x) (.dp 4 0 (rqL x)) rfl rfl (fW hx) rfl<|qR 0 rfl<|rV (vB (x.kind==4)) rfl<|qRC 0 rfl<|aS rfl (λh4=>?_) (λh4=>?_)
   ·have h4p:=mW h4;refine qC 0 rfl<|rV (.agg [vU x.line,.v (.string x.data)]) rfl<|rV (.sl 2 ([[vU x.line,.v (.string x.data)]]) true) rfl<|rFx (x:=.osl 21 0 ((fU (q.take k)).length+1) false) (h':=upd (upd _ 5 none) 21 (some (.arr (((fU (q.take k))++([(⟨x.line,x.data⟩:Pt)])).map ptL) 2))) rfl rfl (jN ptL (fU (q.take k)) ([(⟨x.line,x.data⟩:Pt)]) omT omT) (⟨by exact omT,by exact omT,trivial⟩) ?_;have b3:k+1<=1000001:=aF hkB (aC 1);refine qR 0 rfl<|rW (vN (k+1)) rfl (okI (bJ b3 rfl))<|qRF 0 rfl<|⟨(k+1,true),λi=>match i with|5=>21|i=>i,Weak.of_lists _ ⟨⟨rfl,rfl⟩,⟨rfl,rfl⟩,⟨rfl,rfl⟩,⟨rfl,rfl⟩,⟨rfl,rfl⟩,⟨(show AV.osl 21 0 ((fU (q.take k)).length+1) false=AV.osl 21 0 (fU (q.take (k+1))).length false from by rw[<-(show(fU (q.take k))++([(⟨x.line,x.data⟩:Pt)])=fU (q.take (k+1))from AM hx h4p)];first|done|rfl|(congr 1<;>(first|exact omT|simp))),rfl⟩,trivial⟩ ⟨⟨rfl,(congrArg (λz:List Pt=>some (Blk.arr (z.map ptL) 2)) (show(fU (q.take k))++([(⟨x.line,x.data⟩:Pt)])=fU (q.take (k+1))from AM hx h4p)),rfl⟩,trivial⟩ rfl,by omega,by show q.length-(k+1)<q.length-k;omega⟩
   ·have h4p:=mX h4;have b4:k+1<=1000001:=aF hkB (aC 1);refine qC 0 rfl<|rW (vN (k+1)) rfl (okI (bJ b4 rfl))<|qRF 0 rfl<|⟨(k+1,true),λi=>i,Weak.of_lists _ ⟨⟨rfl,rfl⟩,⟨rfl,rfl⟩,⟨rfl,rfl⟩,⟨rfl,rfl⟩,⟨rfl,rfl⟩,⟨(congrArg (λz:List Pt=>AV.osl 5 0 z.length false) (EB hx h4p)),rfl⟩,trivial⟩ ⟨⟨rfl,(congrArg (λz:List Pt=>some (Blk.arr (z.map ptL) 2)) (EB hx h4p)),rfl⟩,trivial⟩ rfl,by omega,by show q.length-(k+1)<q.length-k;omega⟩
  ·have h3p:=aD h3;refine qCF 0 rfl<|qX 0 rfl<|rCl (x:=.v (.string (qP m (fU (q.take k))))) rfl (.inr ⟨rfl,⟨trivial,(by show 0+((fU (q.take k)).length)<=((fU (q.take k)).map ptL).length;exact omT),trivial⟩⟩) ((show cA C0 _ [_,.sl 2 (List.take ((fU (q.take k)).length) (List.drop 0 ((fU (q.take k)).map ptL))) false] _ from by rw[kG ptL (fU (q.take k)) omT];exact PT m (fU (q.take k)) false (hm) (by have:=Jw (q.take k);rw[aL]at this;omega) (PU (AQ ho))))<|qRF 0 rfl ?_;have hW:jR q m=qP m (fU (q.take k)):=by unfold jR;rw[aM omT]
   rw[hW];exact fT rfl rfl
def VM(w:Wy):Pt:=⟨w.line,w.data⟩
def gR(c:Ca)(k:Nat):List Pt:=(c.sets.take k).flatten.map VM
def gA(c:Ca)(k:Nat)(s:List Wy)(j:Nat):List Pt:=gR c k++(s.take j).map VM
def tQ{c:Ca}{k j:Nat}{s:List Wy}{x:Wy}(hx:s[j]?=some x):gA c k s j++[⟨x.line,x.data⟩]=gA c k s (j+1):=by
 unfold gA;rw[bV,hx];simp[VM]
def yA{c:Ca}{k j:Nat}{s:List Wy}(hs:c.sets[k]?=some s)(hj:s.length<=j):gA c k s j=gR c (k+1):=by
 unfold gA gR;rw[aM hj,bV,hs];simp
def Bo(c:Ca)(k:Nat)(s:List Wy):gR c k=gA c k s 0:=by unfold gA;simp
def EC{c:Ca}{k:Nat}(h:c.sets.length<=k):gR c k=Lg c:=by unfold gR Lg;rw[aM h];rfl
theorem Mu{α:Type}{B:Nat}:∀(L:List (List α)),(∀s∈L,s.length<=B)->L.flatten.length<=L.length*B
 |[],_=>by simp
 |s::L,h=>by
  have h1:=h s bI;have h2:=Mu L λt ht=>h t (bP _ ht);simp only[mP,aQ,bN,cG,kU];omega
def HI{c:Ca}{k:Nat}(h4:c.sets.length<=4)(h2:∀s∈c.sets,s.length<=2):(gR c k).length<=8:=by
 unfold gR;rw[aG];have:=Mu (B:=2) (c.sets.take k) λs hs=>h2 s (cQ hs);rw[aL]at this;omega
def Jx{c:Ca}{k j:Nat}{s:List Wy}(h4:c.sets.length<=4)(h2:∀s∈c.sets,s.length<=2)(hs:s.length<=2):(gA c k s j).length<=10:=by
 unfold gA;have:=HI (k:=k) h4 h2;rw[aQ,aG,aL];omega
def SS{c:Ca}(h:∀s∈c.sets,∀x∈s,x.ok)(k:Nat):∀x∈gR c k,x.ok:=λx hx=>by
 obtain⟨y,hy,rfl⟩:=sY.1 hx;obtain⟨s,hs,hy⟩:=List.mem_flatten.1 hy;exact⟨(h s (cQ hs) y hy).line⟩
def Ya(c:Ca)(q:List Req)(m:ByteArray)(ck:Bool)(hok:c.ok)(hc4:c.sets.length<=4)(hc2:∀s∈c.sets,s.length<=2)(hm:m.size<=1000000)(hq:q.length<=900000)(ho:∀x∈q,x.ok):cA C0 134 [.agg (caL c false),.sl 4 (q.map rqL) ck,.v (.string m)] (.v (.string (Cm c q m))):=by
 refine dc1 (cA.intro c1Ok Tryz.func134 rfl rfl (by kernel_rfl) rfl ?_);refine qS 0 rfl<|rW (vN c.sets.length) rfl (bT aV c.sets)<|qRC 0 rfl<|jX (κ:=Nat×Bool) (λz_=>match z_ with|(k,false)=>⟨slotsF [(1,.sl 4 (q.map rqL) ck),(2,.v (.string m)),(6,.v (.string (⟨#[]⟩:ByteArray))),(13,.sl 1 (c.sets.map aV) false),(14,vN c.sets.length),(15,vN k),(7,.sl 0 ([]) true)],heapF [(0,.box [vI c.ways,.sl 1 (c.sets.map aV) false])],8⟩|(k,true)=>⟨slotsF [(1,.sl 4 (q.map rqL) ck),(2,.v (.string m)),(6,.v (.string (⟨#[]⟩:ByteArray))),(13,.sl 1 (c.sets.map aV) false),(14,vN c.sets.length),(15,vN k),(7,.osl 7 0 ((gR c k).length) false)],heapF [(0,.box [vI c.ways,.sl 1 (c.sets.map aV) false]),(7,.arr ((gR c k).map ptL) 2)],8⟩) (λz_=>match z_ with|(k,false)=>(k<=c.sets.length∧gR c k=[])|(k,true)=>(k<=c.sets.length)) (λz_=>c.sets.length-z_.1) (0,false) (λs=>s) (Weak.of_lists (λs=>s) wT wH rfl) (⟨aE _,(show gR c 0=[]from rfl)⟩) ?_;intro z_ hk;obtain⟨k,b_⟩:=z_;cases b_
 ·have hk_:=hk;have hnn:k<=c.sets.length:=hk_.1;have hkB:k<=1000000:=by omega
  have hNk:gR c k=[]:=hk_.2;refine qS 0 rfl<|rW (vB (decide (k<c.sets.length))) rfl (okB (ltN _ _))<|qRC 0 rfl<|aS rfl (λh1=>?_) (λh1=>?_)
  ·have h1p:=of_decide_eq_true h1;obtain⟨s,hs⟩:∃y_,c.sets[k]?=some y_:=⟨_,aA omT⟩;have hso:=hok.set s (aB hs);have hsl:s.length<=2:=hc2 s (aB hs);refine qC 0 rfl<|rIx (aV s) (.dp 1 0 (aV s)) rfl rfl (fW hs) rfl<|qR 0 rfl<|rW (vN s.length) rfl (bT wyL s)<|qRC 0 rfl<|jX (κ:=Nat×Bool) (λz_=>match z_ with|(j,false)=>⟨slotsF [(1,.sl 4 (q.map rqL) ck),(2,.v (.string m)),(6,.v (.string (⟨#[]⟩:ByteArray))),(13,.sl 1 (c.sets.map aV) false),(14,vN c.sets.length),(15,vN k),(16,vB (decide (k<c.sets.length))),(17,.dp 1 0 (aV s)),(18,.sl 3 (s.map wyL) false),(9,.sl 3 (s.map wyL) false),(19,.sl 3 (s.map wyL) false),(20,vN s.length),(21,vN j),(7,.sl 0 ([]) true)],heapF [(0,.box [vI c.ways,.sl 1 (c.sets.map aV) false])],16⟩|(j,true)=>⟨slotsF [(1,.sl 4 (q.map rqL) ck),(2,.v (.string m)),(6,.v (.string (⟨#[]⟩:ByteArray))),(13,.sl 1 (c.sets.map aV) false),(14,vN c.sets.length),(15,vN k),(16,vB (decide (k<c.sets.length))),(17,.dp 1 0 (aV s)),(18,.sl 3 (s.map wyL) false),(9,.sl 3 (s.map wyL) false),(19,.sl 3 (s.map wyL) false),(20,vN s.length),(21,vN j),(7,.osl 15 0 ((gA c k s j).length) false)],heapF [(0,.box [vI c.ways,.sl 1 (c.sets.map aV) false]),(15,.arr ((gA c k s j).map ptL) 2)],16⟩) (λz_=>match z_ with|(j,false)=>(j<=s.length∧gA c k s j=[])|(j,true)=>(j<=s.length)) (λz_=>s.length-z_.1) (0,false) (λs=>s) (Weak.of_lists (λs=>s) wT wH rfl) (⟨aE _,(show gA c k s 0=[]from(Bo c k s).symm.trans hNk)⟩) ?_;intro z_ hj;obtain⟨j,b_⟩:=z_;cases b_
   ·have hj_:=hj;have hnn:j<=s.length:=hj_.1;have hjB:j<=1000000:=by omega
    have hNj:gA c k s j=[]:=hj_.2;refine qS 0 rfl<|rW (vB (decide (j<s.length))) rfl (okB (ltN _ _))<|qRC 0 rfl<|aS rfl (λh2=>?_) (λh2=>?_)
    ·have h2p:=of_decide_eq_true h2;obtain⟨x,hx⟩:∃y_,s[j]?=some y_:=⟨_,aA omT⟩;have hxo:=hso.2 x (aB hx);refine qC 0 rfl<|rIx (wyL x) (.dp 3 0 (wyL x)) rfl rfl (fW hx) rfl<|qR 0 rfl<|rV (.agg [vU x.line,.v (.string x.data)]) rfl<|rV (.sl 2 ([[vU x.line,.v (.string x.data)]]) true) rfl<|rFx (x:=.osl 28 0 1 false) (h':=upd _ 28 (some (.arr (([(⟨x.line,x.data⟩:Pt)]).map ptL) 2))) rfl rfl (La omT) (⟨rfl,by exact omT,by exact omT,trivial⟩) ?_;have b1:j+1<=1000001:=aF hjB (aC 1);refine qR 0 rfl<|rW (vN (j+1)) rfl (okI (bJ b1 rfl))<|qRF 0 rfl<|⟨(j+1,true),λi=>match i with|15=>28|i=>i,Weak.of_lists _ ⟨⟨rfl,rfl⟩,⟨rfl,rfl⟩,⟨rfl,rfl⟩,⟨rfl,rfl⟩,⟨rfl,rfl⟩,⟨rfl,rfl⟩,⟨rfl,rfl⟩,⟨rfl,rfl⟩,⟨rfl,rfl⟩,⟨rfl,rfl⟩,⟨rfl,rfl⟩,⟨rfl,rfl⟩,⟨rfl,rfl⟩,⟨(show AV.osl 28 0 (1) false=AV.osl 28 0 (gA c k s (j+1)).length false from by rw[<-(show [(⟨x.line,x.data⟩:Pt)]=gA c k s (j+1)from(by rw[<-(tQ hx),hNj];rfl))];first|done|rfl|(congr 1<;>(first|exact omT|simp))),rfl⟩,trivial⟩ ⟨⟨rfl,rfl,rfl⟩,⟨rfl,(congrArg (λz:List Pt=>some (Blk.arr (z.map ptL) 2)) (show [(⟨x.line,x.data⟩:Pt)]=gA c k s (j+1)from(by rw[<-(tQ hx),hNj];rfl))),rfl⟩,trivial⟩ rfl,by omega,by show s.length-(j+1)<s.length-j;omega⟩
    ·have h2p:=aD h2;refine qCF 0 rfl ?_;have b2:k+1<=1000001:=aF hkB (aC 1);refine qX 0 rfl<|rW (vN (k+1)) rfl (okI (bJ b2 rfl))<|qRF 0 rfl<|⟨(k+1,false),λi=>i,Weak.of_lists _ wT wH rfl,⟨by omega,(by rw[<-yA (j:=j) hs omT];exact hNj)⟩,by show c.sets.length-(k+1)<c.sets.length-k;omega⟩
   ·have hj_:=hj;have hnn:j<=s.length:=hj_;have hjB:j<=1000000:=by omega
    have habj:(gA c k s j).length<=10:=(Jx hc4 hc2 hsl);refine qS 0 rfl<|rW (vB (decide (j<s.length))) rfl (okB (ltN _ _))<|qRC 0 rfl<|aS rfl (λh3=>?_) (λh3=>?_)
    ·have h3p:=of_decide_eq_true h3;obtain⟨x,hx⟩:∃y_,s[j]?=some y_:=⟨_,aA omT⟩;have hxo:=hso.2 x (aB hx);refine qC 0 rfl<|rIx (wyL x) (.dp 3 0 (wyL x)) rfl rfl (fW hx) rfl<|qR 0 rfl<|rV (.agg [vU x.line,.v (.string x.data)]) rfl<|rV (.sl 2 ([[vU x.line,.v (.string x.data)]]) true) rfl<|rFx (x:=.osl 28 0 ((gA c k s j).length+1) false) (h':=upd (upd _ 15 none) 28 (some (.arr (((gA c k s j)++([(⟨x.line,x.data⟩:Pt)])).map ptL) 2))) rfl rfl (jN ptL (gA c k s j) ([(⟨x.line,x.data⟩:Pt)]) omT omT) (⟨by exact omT,by exact omT,trivial⟩) ?_;have b3:j+1<=1000001:=aF hjB (aC 1);refine qR 0 rfl<|rW (vN (j+1)) rfl (okI (bJ b3 rfl))<|qRF 0 rfl<|⟨(j+1,true),λi=>match i with|15=>28|i=>i,Weak.of_lists _ ⟨⟨rfl,rfl⟩,⟨rfl,rfl⟩,⟨rfl,rfl⟩,⟨rfl,rfl⟩,⟨rfl,rfl⟩,⟨rfl,rfl⟩,⟨rfl,rfl⟩,⟨rfl,rfl⟩,⟨rfl,rfl⟩,⟨rfl,rfl⟩,⟨rfl,rfl⟩,⟨rfl,rfl⟩,⟨rfl,rfl⟩,⟨(show AV.osl 28 0 ((gA c k s j).length+1) false=AV.osl 28 0 (gA c k s (j+1)).length false from by rw[<-(show(gA c k s j)++([(⟨x.line,x.data⟩:Pt)])=gA c k s (j+1)from tQ hx)];first|done|rfl|(congr 1<;>(first|exact omT|simp))),rfl⟩,trivial⟩ ⟨⟨rfl,rfl,rfl⟩,⟨rfl,(congrArg (λz:List Pt=>some (Blk.arr (z.map ptL) 2)) (show(gA c k s j)++([(⟨x.line,x.data⟩:Pt)])=gA c k s (j+1)from tQ hx)),rfl⟩,trivial⟩ rfl,by omega,by show s.length-(j+1)<s.length-j;omega⟩
    ·have h3p:=aD h3;refine qCF 0 rfl ?_;have b4:k+1<=1000001:=aF hkB (aC 1);refine qX 0 rfl<|rW (vN (k+1)) rfl (okI (bJ b4 rfl))<|qRF 0 rfl<|⟨(k+1,true),λi=>match i with|7=>15|i=>i,Weak.of_lists _ ⟨⟨rfl,rfl⟩,⟨rfl,rfl⟩,⟨rfl,rfl⟩,⟨rfl,rfl⟩,⟨rfl,rfl⟩,⟨rfl,rfl⟩,⟨(show AV.osl 15 0 ((gA c k s j).length) false=AV.osl 15 0 (gR c (k+1)).length false from by rw[<-(show gA c k s j=gR c (k+1)from yA hs omT)];first|done|rfl|(congr 1<;>(first|exact omT|simp))),rfl⟩,trivial⟩ ⟨⟨rfl,rfl,rfl⟩,⟨rfl,(congrArg (λz:List Pt=>some (Blk.arr (z.map ptL) 2)) (show gA c k s j=gR c (k+1)from yA hs omT)),rfl⟩,trivial⟩ rfl,by omega,by show c.sets.length-(k+1)<c.sets.length-k;omega⟩
  ·have h1p:=aD h1;refine qCF 0 rfl<|qX 0 rfl<|rCi rfl (PV q m ck hm hq ho)<|qR 0 rfl<|rCi rfl (Mt (jR q m) (by unfold jR;rw[gW];exact hm))<|qRF 0 rfl ?_;have hW:Cm c q m=qP (jR q m) (gR c k):=by unfold Cm;rw[EC omT]
   rw[hW,hNk];exact fT rfl rfl
 ·have hk_:=hk;have hnn:k<=c.sets.length:=hk_;have hkB:k<=1000000:=by omega
  have habk:(gR c k).length<=8:=(HI hc4 hc2);refine qS 0 rfl<|rW (vB (decide (k<c.sets.length))) rfl (okB (ltN _ _))<|qRC 0 rfl<|aS rfl (λh4=>?_) (λh4=>?_)
  ·have h4p:=of_decide_eq_true h4;obtain⟨s,hs⟩:∃y_,c.sets[k]?=some y_:=⟨_,aA omT⟩;have hso:=hok.set s (aB hs);have hsl:s.length<=2:=hc2 s (aB hs);refine qC 0 rfl<|rIx (aV s) (.dp 1 0 (aV s)) rfl rfl (fW hs) rfl<|qR 0 rfl<|rW (vN s.length) rfl (bT wyL s)<|qRC 0 rfl<|jX (κ:=Nat) (λj=>⟨slotsF [(1,.sl 4 (q.map rqL) ck),(2,.v (.string m)),(6,.v (.string (⟨#[]⟩:ByteArray))),(13,.sl 1 (c.sets.map aV) false),(14,vN c.sets.length),(15,vN k),(16,vB (decide (k<c.sets.length))),(17,.dp 1 0 (aV s)),(18,.sl 3 (s.map wyL) false),(9,.sl 3 (s.map wyL) false),(19,.sl 3 (s.map wyL) false),(20,vN s.length),(21,vN j),(7,.osl 15 0 ((gA c k s j).length) false)],heapF [(0,.box [vI c.ways,.sl 1 (c.sets.map aV) false]),(15,.arr ((gA c k s j).map ptL) 2)],16⟩) (λj=>j<=s.length) (λj=>s.length-j) 0 (λi=>match i with|15=>7|i=>i) (Weak.of_lists (λi=>match i with|15=>7|i=>i) ⟨⟨rfl,rfl⟩,⟨rfl,rfl⟩,⟨rfl,rfl⟩,⟨rfl,rfl⟩,⟨rfl,rfl⟩,⟨rfl,rfl⟩,⟨rfl,rfl⟩,⟨rfl,rfl⟩,⟨rfl,rfl⟩,⟨rfl,rfl⟩,⟨rfl,rfl⟩,⟨rfl,rfl⟩,⟨rfl,rfl⟩,⟨(show AV.osl 7 0 ((gR c k).length) false=AV.osl 7 0 (gA c k s 0).length false from by rw[<-(show gR c k=gA c k s 0 from Bo c k s)]),rfl⟩,trivial⟩ ⟨⟨rfl,rfl,rfl⟩,⟨rfl,(congrArg (λz:List Pt=>some (Blk.arr (z.map ptL) 2)) (show gR c k=gA c k s 0 from Bo c k s)),rfl⟩,trivial⟩ rfl) (aE _) ?_;intro j hj;have hj_:=hj;have hnn:j<=s.length:=hj_;have hjB:j<=1000000:=by omega
   have habj:(gA c k s j).length<=10:=(Jx hc4 hc2 hsl);refine qS 0 rfl<|rW (vB (decide (j<s.length))) rfl (okB (ltN _ _))<|qRC 0 rfl<|aS rfl (λh5=>?_) (λh5=>?_)
   ·have h5p:=of_decide_eq_true h5;obtain⟨x,hx⟩:∃y_,s[j]?=some y_:=⟨_,aA omT⟩;have hxo:=hso.2 x (aB hx);refine qC 0 rfl<|rIx (wyL x) (.dp 3 0 (wyL x)) rfl rfl (fW hx) rfl<|qR 0 rfl<|rV (.agg [vU x.line,.v (.string x.data)]) rfl<|rV (.sl 2 ([[vU x.line,.v (.string x.data)]]) true) rfl<|rFx (x:=.osl 28 0 ((gA c k s j).length+1) false) (h':=upd (upd _ 15 none) 28 (some (.arr (((gA c k s j)++([(⟨x.line,x.data⟩:Pt)])).map ptL) 2))) rfl rfl (jN ptL (gA c k s j) ([(⟨x.line,x.data⟩:Pt)]) omT omT) (⟨by exact omT,by exact omT,trivial⟩) ?_;have b5:j+1<=1000001:=aF hjB (aC 1);refine qR 0 rfl<|rW (vN (j+1)) rfl (okI (bJ b5 rfl))<|qRF 0 rfl<|⟨j+1,λi=>match i with|15=>28|i=>i,Weak.of_lists _ ⟨⟨rfl,rfl⟩,⟨rfl,rfl⟩,⟨rfl,rfl⟩,⟨rfl,rfl⟩,⟨rfl,rfl⟩,⟨rfl,rfl⟩,⟨rfl,rfl⟩,⟨rfl,rfl⟩,⟨rfl,rfl⟩,⟨rfl,rfl⟩,⟨rfl,rfl⟩,⟨rfl,rfl⟩,⟨rfl,rfl⟩,⟨(show AV.osl 28 0 ((gA c k s j).length+1) false=AV.osl 28 0 (gA c k s (j+1)).length false from by rw[<-(show(gA c k s j)++([(⟨x.line,x.data⟩:Pt)])=gA c k s (j+1)from tQ hx)];first|done|rfl|(congr 1<;>(first|exact omT|simp))),rfl⟩,trivial⟩ ⟨⟨rfl,rfl,rfl⟩,⟨rfl,(congrArg (λz:List Pt=>some (Blk.arr (z.map ptL) 2)) (show(gA c k s j)++([(⟨x.line,x.data⟩:Pt)])=gA c k s (j+1)from tQ hx)),rfl⟩,trivial⟩ rfl,by omega,by show s.length-(j+1)<s.length-j;omega⟩
   ·have h5p:=aD h5;refine qCF 0 rfl ?_;have b6:k+1<=1000001:=aF hkB (aC 1);refine qX 0 rfl<|rW (vN (k+1)) rfl (okI (bJ b6 rfl))<|qRF 0 rfl<|⟨(k+1,true),λi=>match i with|7=>15|i=>i,Weak.of_lists _ ⟨⟨rfl,rfl⟩,⟨rfl,rfl⟩,⟨rfl,rfl⟩,⟨rfl,rfl⟩,⟨rfl,rfl⟩,⟨rfl,rfl⟩,⟨(show AV.osl 15 0 ((gA c k s j).length) false=AV.osl 15 0 (gR c (k+1)).length false from by rw[<-(show gA c k s j=gR c (k+1)from yA hs omT)];first|done|rfl|(congr 1<;>(first|exact omT|simp))),rfl⟩,trivial⟩ ⟨⟨rfl,rfl,rfl⟩,⟨rfl,(congrArg (λz:List Pt=>some (Blk.arr (z.map ptL) 2)) (show gA c k s j=gR c (k+1)from yA hs omT)),rfl⟩,trivial⟩ rfl,by omega,by show c.sets.length-(k+1)<c.sets.length-k;omega⟩
  ·have h4p:=aD h4;refine qCF 0 rfl<|qX 0 rfl<|rCi rfl (PV q m ck hm hq ho)<|qR 0 rfl<|rCl (x:=.v (.string (qP (jR q m) (gR c k)))) rfl (.inr ⟨rfl,⟨trivial,(by show 0+((gR c k).length)<=((gR c k).map ptL).length;exact omT),trivial⟩⟩) ((show cA C0 _ [_,.sl 2 (List.take ((gR c k).length) (List.drop 0 ((gR c k).map ptL))) false] _ from by rw[kG ptL (gR c k) omT];exact PT (jR q m) (gR c k) false (by unfold jR;rw[gW];exact hm) (by have:=HI (k:=k) hc4 hc2;omega) (SS (λs hs=>(hok.set s hs).2) k)))<|qRF 0 rfl ?_;have hW:Cm c q m=qP (jR q m) (gR c k):=by unfold Cm;rw[EC omT]
   rw[hW];exact fT rfl rfl
def ZE(stores:List Pt)(c:Ca)(q:List Req)(m:ByteArray)(ck ck2:Bool)(hok:c.ok)(hc4:c.sets.length<=4)(hc2:∀s∈c.sets,s.length<=2)(hm:m.size<=1000000)(hq:q.length<=900000)(ho:∀x∈q,x.ok)(hst:stores.length<=1000000)(hso:∀x∈stores,x.ok):cA C0 98 [.sl 2 (stores.map ptL) ck2,.agg (caL c false),.sl 4 (q.map rqL) ck,.v (.string m)] (.v (.string (Yl stores c q m))):=by
 refine cA.intro c0Ok Tryz.func98 rfl rfl (by kernel_rfl) rfl<|qS 0 rfl<|rCi rfl (Ya c q m ck hok hc4 hc2 hm hq ho)<|qR 0 rfl<|rCi rfl (PT (Cm c q m) stores ck2 (by unfold Cm jR;rw[gW,gW];exact hm) hst hso)<|qRF 0 rfl ?_;exact fT rfl rfl
def PW{m:ByteArray}{a:Nat}(h:a<=m.size):(m.extract a m.size).extract 0 (min (m.extract a m.size).size 16)=m.extract a (a+min (m.size-a) 16):=by
 have hs:(m.extract a m.size).size=m.size-a:=by rw[dX];omega
 rw[hs,ByteArray.extract_extract];congr 1<;>omega
def ZF(m:ByteArray)(line:Nat)(hm:m.size<=1000000)(hline:line<=4294967295):cA C0 135 [.v (.string m),vU line] (.v (.string (Fl m line))):=by
 refine cA.intro c0Ok Tryz.func135 rfl rfl (by kernel_rfl) rfl<|qS 0 rfl<|rCi rfl (tT line hline)<|qR 0 rfl<|rW (.v (.int .u64 ((lineOf line:Nat):Int))) rfl (okI (IC (dT hline) rfl))<|qR 0 rfl<|rV (vN m.size) rfl<|rW (.v (.int .u64 ((m.size:Nat):Int))) rfl (okI (IC hm rfl))<|rW (vB (decide ((lineOf line)>=m.size))) rfl (okB (geN _ _))<|qRC 0 rfl<|aS rfl (λh1=>?_) (λh1=>?_)
 ·have h1p:=of_decide_eq_true h1;refine qCF 0 rfl ?_;exact fT rfl (by unfold Fl;rw[if_neg omT];rfl)
 ·have h1p:=aD h1;refine qC 0 rfl<|nW (.v (.string (m.extract (lineOf line) m.size))) rfl rfl (by refine⟨?_,?_,?_⟩<;>(first|exact aH _|decide|(apply Fj.2;exact omT)))<|qR 0 rfl<|rV (vN ((m.extract (lineOf line) m.size).size)) rfl<|rW (vN (min ((m.extract (lineOf line) m.size).size) 16)) rfl (EK ((m.extract (lineOf line) m.size).size) 16)<|nW (.v (.string ((m.extract (lineOf line) m.size).extract 0 (min ((m.extract (lineOf line) m.size).size) 16)))) rfl rfl (by refine⟨?_,?_,?_⟩<;>(first|exact aH _|decide|(apply Fj.2;exact omT)))<|qRF 0 rfl ?_;exact fT rfl (by unfold Fl;rw[if_pos omT,PW omT];rfl)
end Go.Proofs.YtgleompefdogkaaGreatDoor
