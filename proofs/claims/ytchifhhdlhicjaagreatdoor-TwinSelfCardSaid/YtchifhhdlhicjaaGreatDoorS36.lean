/- Lemmas. -/
import Derived.WideShapes
import Derived.Test.YtchifhhdlhicjaaGreatDoorS1
import Derived.Test.YtchifhhdlhicjaaGreatDoorS8
import Derived.Test.YtchifhhdlhicjaaGreatDoorS30
import Derived.Test.YtchifhhdlhicjaaGreatDoorS31
import Derived.Test.YtchifhhdlhicjaaGreatDoorS33
import Derived.Test.YtchifhhdlhicjaaGreatDoorS35
set_option linter.all false
namespace Go.Proofs.YtchifhhdlhicjaaGreatDoor
open Go.Proofs.Tryz
set_option maxRecDepth 100000
set_option maxHeartbeats 4000000
open Go.RowKit
def WP(c:Co)(nb:Nat)(hm:c.okM nb)(A B:List Ent)(lo n:Nat)(kR:Bool)(hlo:A.length=lo)(hn:c.agI.length=n)(hA:A.length+n+B.length<=1000)(hAo:∀x∈A,x.ok)(hBo:∀x∈B,x.ok)(hw:yD (afD c)=none)(kS kT:Bool)(xS xT:List (List AV)):pM C0.P C0.G 46 [.ptr 0 0] (heapF [(0,.box (mcX c (.osl 1 lo n kR) (.sl 2 (c.agH.map ftL) true) (.sl 2 xS kS) (.sl 9 xT kT))),(1,.arr ((A++c.agI++B).map enL) 17)]) 2 (λx h'=>x=.tup []∧VF 2 (kK c) (.sl 2 ((kK c).agH.map ftL) true) (.sl 2 xS kS) (.sl 9 xT kT) h'):=by
 refine hZ 2 func46 rfl<|zVB (c.halt != 0) (λh1=>?_) (λh1=>?_)
 ·have h1p:=wM h1;have ee:kK c=c:=af1 h1p;rw[ee];exact BH (rs:=[]) rfl (r:=.tup []) (h':=heapF [(0,.box (mcX (c) (.osl 1 lo n kR) (.sl 2 (c.agH.map ftL) true) (.sl 2 xS kS) (.sl 9 xT kT))),(1,.arr ((A++c.agI++B).map enL) 17)]) (σ:=λz=>z) ⟨rfl,.inr ⟨1,A,B,kR,.inl ⟨rfl,dT⟩,(by show A.length+(c.agI).length+B.length<=1000;omega),(by show _=heapF [(0,.box (mcX (c) (.osl 1 A.length (c.agI).length kR) _ _ _)),_];rw[hlo,hn])⟩⟩ rfl (af8 (λz=>z) rfl rfl wH rfl)
 have h1p:=wN h1;refine zV (vN n)<|zLK (κ:=Nat) (λk=>⟨slotsF [(0,.ptr 0 0),(16,vB (c.halt != 0)),(21,.osl 1 lo n kR),(22,vN n),(23,vN k)],heapF [(0,.box (mcX c (.osl 1 lo n kR) (.sl 2 (c.agH.map ftL) true) (.sl 2 xS kS) (.sl 9 xT kT))),(1,.arr ((A++(oY goE c.agI k)++B).map enL) 17)],15⟩) (λk=>k<=n) (λk=>n-k) 0 (λs=>s) (wOL (λs=>s) wT wH rfl) rfl (aE _) ?_;intro k hk;have hkn:k<=n:=hk;have hkB:k<=1000:=oH hm.agI;have hml:(oY goE c.agI k).length=n:=Zq.trans hn;refine zWB (okB (ltN _ _)) (λh2=>?_) (λh2=>?_)
 ·have h2p:=af0 h2;refine nW (.ptr2 1 (lo+k) 0) rfl rfl ixT ?_;obtain⟨x,hx⟩:∃y_,(oY goE c.agI k)[k]?=some y_:=⟨_,aA omT⟩;have hxo:=(Ii (λx h=>QH h) hm.ok.agX k) x (aB hx);refine zX (enL x) (.agg (enL x)) rfl (iH (jK hlo hx))<|cRg<|oR 7 rfl<|rCi rfl (adQ x hxo)<|nW (.ptr2 1 (lo+k) 0) rfl rfl ixT ?_;have hx1:((oY goE c.agI k).set k (goE x))[k]?=some (goE x):=aZ omT;refine nM (enL x) (h':=upd _ 1 (some (.arr ((A++((oY goE c.agI k).set k (goE x))++B).map enL) 17))) rfl rfl rfl (⟨aG _,iH ((jK hlo hx))⟩) (uL (f:=enL) (x:=(goE x)) (l:=oY goE c.agI k) (i:=k) hlo omT)<|rE 32 ?_;have b1:k+1<=1001:=aD hkB (aC 1);refine qX 0 rfl<|zW _ (okI (bH b1 rfl))<|.mk _ (.refl _) ⟨k+1,λs=>s,wOL _ wT ⟨⟨rfl,rfl,rfl⟩,⟨rfl,(af2 (λz:List Ent=>some (Blk.arr ((A++z++B).map enL) 17)) (Cg hx)),rfl⟩,trivial⟩ rfl,rfl,oT,by show n-(k+1)<n-k;omega⟩
 have h2p:=aF h2;refine zV (vN n)<|zLK (κ:=Nat) (λj=>⟨slotsF [(0,.ptr 0 0),(16,vB (c.halt != 0)),(24,vB (decide (k<n))),(42,.osl 1 lo n kR),(43,vN n),(44,vN j)],heapF [(0,.box (mcX c (.osl 1 lo n kR) (.sl 2 (c.agH.map ftL) true) (.sl 2 xS kS) (.sl 9 xT kT))),(1,.arr ((A++(cN c.r (c.agI.map goE) j)++B).map enL) 17)],23⟩) (λj=>j<=n) (λj=>n-j) 0 (λs=>s) (wOL (λs=>s) wT ⟨⟨rfl,rfl,rfl⟩,⟨rfl,(af2 (λz:List Ent=>some (Blk.arr ((A++z++B).map enL) 17)) (EQ (f:=goE) (l:=c.agI) omT)),rfl⟩,trivial⟩ rfl) rfl (aE _) ?_;intro j hj;have hjn:j<=n:=hj;have hjB:j<=1000:=oH hm.agI;have hsl:(cN c.r (c.agI.map goE) j).length=n:=Ds.trans ((aH ..).trans hn);refine zWB (okB (ltN _ _)) (λh3=>?_) (λh3=>?_)
 ·have h3p:=af0 h3;refine nW (.ptr2 1 (lo+j) 0) rfl rfl ixT ?_;obtain⟨x,hx⟩:∃y_,(cN c.r (c.agI.map goE) j)[j]?=some y_:=⟨_,aA omT⟩;have hxo:=(afG (tI hm.ok.agX) hm.ok.r j) x (aB hx);refine zX (enL x) (.agg (enL x)) rfl (iH (jK hlo hx))<|rCi rfl (pS x.i)<|zWB (okB (neN _ _)) (λh4=>?_) (λh4=>?_)
  ·have h4p:=wM h4;have b2:j+1<=1001:=aD hjB (aC 1);refine zW _ (okI (bH b2 rfl))<|.mk _ (.refl _) ⟨j+1,λs=>s,wOL _ wT ⟨⟨rfl,rfl,rfl⟩,⟨rfl,(af2 (λz:List Ent=>some (Blk.arr ((A++z++B).map enL) 17)) (show cN c.r (c.agI.map goE) j=cN c.r (c.agI.map goE) (j+1)from(CS hx h4p).symm)),rfl⟩,trivial⟩ rfl,rfl,oT,by show n-(j+1)<n-j;omega⟩
  have h4p:=wN h4;refine zC (Fs x.i)<|zR<|zL (x:=.tup [vU ((lK (cN c.r (c.agI.map goE) j) c.r j x.i.ag1).getD 0),vB ((lK (cN c.r (c.agI.map goE) j) c.r j x.i.ag1).isSome)]) rfl (.inr ⟨rfl,⟨(by show lo+n<=((A++(cN c.r (c.agI.map goE) j)++B).map enL).length;exact omT),tvT,trivial,trivial,trivial⟩⟩) ((show bI C0 94 [.sl 17 (List.take n (List.drop lo ((A++(cN c.r (c.agI.map goE) j)++B).map enL))) kR,.agg (Ks c.r),vN j,vI x.i.ag1] _ from by rw[tV (l:=cN c.r (c.agI.map goE) j) hlo (by first|assumption|exact hn)];exact Kl (cN c.r (c.agI.map goE) j) c.r kR j x.i.ag1 (oH hm.agI) (afG (tI hm.ok.agX) hm.ok.r j) hm.ok.r (oH hm.agI)))<|aV rfl (λh5=>?_) (λh5=>?_)
  ·refine cRg<|oR 8 rfl<|rCi rfl (RS x ((lK (cN c.r (c.agI.map goE) j) c.r j x.i.ag1).getD 0) hxo (Ck (afG (tI hm.ok.agX) hm.ok.r j) hm.ok.r j x.i.ag1))<|nW (.ptr2 1 (lo+j) 0) rfl rfl ixT ?_;have hx2:((cN c.r (c.agI.map goE) j).set j (uF x ((lK (cN c.r (c.agI.map goE) j) c.r j x.i.ag1).getD 0)))[j]?=some (uF x ((lK (cN c.r (c.agI.map goE) j) c.r j x.i.ag1).getD 0)):=aZ omT;refine nM (enL x) (h':=upd _ 1 (some (.arr ((A++((cN c.r (c.agI.map goE) j).set j (uF x ((lK (cN c.r (c.agI.map goE) j) c.r j x.i.ag1).getD 0)))++B).map enL) 17))) rfl rfl rfl (⟨aG _,iH ((jK hlo hx))⟩) (uL (f:=enL) (x:=(uF x ((lK (cN c.r (c.agI.map goE) j) c.r j x.i.ag1).getD 0))) (l:=cN c.r (c.agI.map goE) j) (i:=j) hlo omT)<|rE 72 ?_;have b3:j+1<=1001:=aD hjB (aC 1);refine qX 0 rfl<|zW _ (okI (bH b3 rfl))<|.mk _ (.refl _) ⟨j+1,λs=>s,wOL _ wT ⟨⟨rfl,rfl,rfl⟩,⟨rfl,(af2 (λz:List Ent=>some (Blk.arr ((A++z++B).map enL) 17)) (show(cN c.r (c.agI.map goE) j).set j (uF x ((lK (cN c.r (c.agI.map goE) j) c.r j x.i.ag1).getD 0))=cN c.r (c.agI.map goE) (j+1)from(Am hx (h4p) h5).symm)),rfl⟩,trivial⟩ rfl,rfl,oT,by show n-(j+1)<n-j;omega⟩
  skip
  have b4:j+1<=1001:=aD hjB (aC 1);refine qC 0 rfl<|zW _ (okI (bH b4 rfl))<|.mk _ (.refl _) ⟨j+1,λs=>s,wOL _ wT ⟨⟨rfl,rfl,rfl⟩,⟨rfl,(af2 (λz:List Ent=>some (Blk.arr ((A++z++B).map enL) 17)) (show cN c.r (c.agI.map goE) j=cN c.r (c.agI.map goE) (j+1)from(Al hx h5).symm)),rfl⟩,trivial⟩ rfl,rfl,oT,by show n-(j+1)<n-j;omega⟩
 have h3p:=aF h3;have hWj:cN c.r (c.agI.map goE) j=afD c:=by have q:j=c.agI.length:=omT;rw[q];rfl
 have hWl:(afD c).length=n:=(nN c).trans hn;refine zL (x:=vI (-1)) rfl (.inr ⟨rfl,⟨(by show lo+n<=((A++(cN c.r (c.agI.map goE) j)++B).map enL).length;exact omT),trivial⟩⟩) ((show bI C0 _ [.sl 17 (List.take n (List.drop lo ((A++(cN c.r (c.agI.map goE) j)++B).map enL))) kR] (vI (-1))from by rw[show vI (-1)=vI (DM (yD (afD c)))from by rw[hw];rfl,tV (l:=cN c.r (c.agI.map goE) j) hlo (by first|assumption|exact hn),hWj];exact QR (afD c) kR (by rw[nN];have:=hm.agI;omega) (vV hm)))<|zV (vB (decide ((-1)>=0)))<|aV rfl (λh6=>by exact absurd h6 dT) (λ_=>?_);have ee:kK c={c with agI:=afD c}:=GE (λq=>q h1p) hw;rw[ee];exact qCF 0 rfl<|BH (rs:=[]) rfl (r:=.tup []) (h':=heapF [(0,.box (mcX ({c with agI:=afD c}) (.osl 1 lo n kR) (.sl 2 (c.agH.map ftL) true) (.sl 2 xS kS) (.sl 9 xT kT))),(1,.arr ((A++afD c++B).map enL) 17)]) (σ:=λz=>z) ⟨rfl,.inr ⟨1,A,B,kR,.inl ⟨rfl,dT⟩,(by show A.length+(afD c).length+B.length<=1000;omega),(by show _=heapF [(0,.box (mcX ({c with agI:=afD c}) (.osl 1 A.length (afD c).length kR) _ _ _)),_];rw[hlo,hWl])⟩⟩ rfl (af8 (λz=>z) rfl rfl ⟨⟨rfl,rfl,rfl⟩,⟨rfl,(by show some (Blk.arr ((A++cN c.r (c.agI.map goE) j++B).map enL) 17)=_;rw[hWj];rfl),rfl⟩,trivial⟩ rfl)
def WQ(c:Co)(nb:Nat)(hm:c.okM nb)(A B:List Ent)(lo n:Nat)(kR:Bool)(hlo:A.length=lo)(hn:c.agI.length=n)(hA:A.length+n+B.length<=1000)(hAo:∀x∈A,x.ok)(hBo:∀x∈B,x.ok)(i:Nat)(hw:yD (afD c)=some i)(kS kT:Bool)(xS xT:List (List AV)):pM C0.P C0.G 46 [.ptr 0 0] (heapF [(0,.box (mcX c (.osl 1 lo n kR) (.sl 2 (c.agH.map ftL) true) (.sl 2 xS kS) (.sl 9 xT kT))),(1,.arr ((A++c.agI++B).map enL) 17)]) 2 (λx h'=>x=.tup []∧VF 2 (kK c) (.sl 2 ((kK c).agH.map ftL) true) (.sl 2 xS kS) (.sl 9 xT kT) h'):=by
 refine hZ 2 func46 rfl ?_;have hi1:i<n:=by have q:=ER hw;rw[nN]at q;omega
 refine zVB (c.halt != 0) (λh1=>?_) (λh1=>?_)
 ·have h1p:=wM h1;have ee:kK c=c:=af1 h1p;rw[ee];exact BH (rs:=[]) rfl (r:=.tup []) (h':=heapF [(0,.box (mcX (c) (.osl 1 lo n kR) (.sl 2 (c.agH.map ftL) true) (.sl 2 xS kS) (.sl 9 xT kT))),(1,.arr ((A++c.agI++B).map enL) 17)]) (σ:=λz=>z) ⟨rfl,.inr ⟨1,A,B,kR,.inl ⟨rfl,dT⟩,(by show A.length+(c.agI).length+B.length<=1000;omega),(by show _=heapF [(0,.box (mcX (c) (.osl 1 A.length (c.agI).length kR) _ _ _)),_];rw[hlo,hn])⟩⟩ rfl (af8 (λz=>z) rfl rfl wH rfl)
 have h1p:=wN h1;refine zV (vN n)<|zLK (κ:=Nat) (λk=>⟨slotsF [(0,.ptr 0 0),(16,vB (c.halt != 0)),(21,.osl 1 lo n kR),(22,vN n),(23,vN k)],heapF [(0,.box (mcX c (.osl 1 lo n kR) (.sl 2 (c.agH.map ftL) true) (.sl 2 xS kS) (.sl 9 xT kT))),(1,.arr ((A++(oY goE c.agI k)++B).map enL) 17)],15⟩) (λk=>k<=n) (λk=>n-k) 0 (λs=>s) (wOL (λs=>s) wT wH rfl) rfl (aE _) ?_;intro k hk;have hkn:k<=n:=hk;have hkB:k<=1000:=oH hm.agI;have hml:(oY goE c.agI k).length=n:=Zq.trans hn;refine zWB (okB (ltN _ _)) (λh2=>?_) (λh2=>?_)
 ·have h2p:=af0 h2;refine nW (.ptr2 1 (lo+k) 0) rfl rfl ixT ?_;obtain⟨x,hx⟩:∃y_,(oY goE c.agI k)[k]?=some y_:=⟨_,aA omT⟩;have hxo:=(Ii (λx h=>QH h) hm.ok.agX k) x (aB hx);refine zX (enL x) (.agg (enL x)) rfl (iH (jK hlo hx))<|cRg<|oR 7 rfl<|rCi rfl (adQ x hxo)<|nW (.ptr2 1 (lo+k) 0) rfl rfl ixT ?_;have hx1:((oY goE c.agI k).set k (goE x))[k]?=some (goE x):=aZ omT;refine nM (enL x) (h':=upd _ 1 (some (.arr ((A++((oY goE c.agI k).set k (goE x))++B).map enL) 17))) rfl rfl rfl (⟨aG _,iH ((jK hlo hx))⟩) (uL (f:=enL) (x:=(goE x)) (l:=oY goE c.agI k) (i:=k) hlo omT)<|rE 32 ?_;have b1:k+1<=1001:=aD hkB (aC 1);refine qX 0 rfl<|zW _ (okI (bH b1 rfl))<|.mk _ (.refl _) ⟨k+1,λs=>s,wOL _ wT ⟨⟨rfl,rfl,rfl⟩,⟨rfl,(af2 (λz:List Ent=>some (Blk.arr ((A++z++B).map enL) 17)) (Cg hx)),rfl⟩,trivial⟩ rfl,rfl,oT,by show n-(k+1)<n-k;omega⟩
 have h2p:=aF h2;refine zV (vN n)<|zLK (κ:=Nat) (λj=>⟨slotsF [(0,.ptr 0 0),(16,vB (c.halt != 0)),(24,vB (decide (k<n))),(42,.osl 1 lo n kR),(43,vN n),(44,vN j)],heapF [(0,.box (mcX c (.osl 1 lo n kR) (.sl 2 (c.agH.map ftL) true) (.sl 2 xS kS) (.sl 9 xT kT))),(1,.arr ((A++(cN c.r (c.agI.map goE) j)++B).map enL) 17)],23⟩) (λj=>j<=n) (λj=>n-j) 0 (λs=>s) (wOL (λs=>s) wT ⟨⟨rfl,rfl,rfl⟩,⟨rfl,(af2 (λz:List Ent=>some (Blk.arr ((A++z++B).map enL) 17)) (EQ (f:=goE) (l:=c.agI) omT)),rfl⟩,trivial⟩ rfl) rfl (aE _) ?_;intro j hj;have hjn:j<=n:=hj;have hjB:j<=1000:=oH hm.agI;have hsl:(cN c.r (c.agI.map goE) j).length=n:=Ds.trans ((aH ..).trans hn);refine zWB (okB (ltN _ _)) (λh3=>?_) (λh3=>?_)
 ·have h3p:=af0 h3;refine nW (.ptr2 1 (lo+j) 0) rfl rfl ixT ?_;obtain⟨x,hx⟩:∃y_,(cN c.r (c.agI.map goE) j)[j]?=some y_:=⟨_,aA omT⟩;have hxo:=(afG (tI hm.ok.agX) hm.ok.r j) x (aB hx);refine zX (enL x) (.agg (enL x)) rfl (iH (jK hlo hx))<|rCi rfl (pS x.i)<|zWB (okB (neN _ _)) (λh4=>?_) (λh4=>?_)
  ·have h4p:=wM h4;have b2:j+1<=1001:=aD hjB (aC 1);refine zW _ (okI (bH b2 rfl))<|.mk _ (.refl _) ⟨j+1,λs=>s,wOL _ wT ⟨⟨rfl,rfl,rfl⟩,⟨rfl,(af2 (λz:List Ent=>some (Blk.arr ((A++z++B).map enL) 17)) (show cN c.r (c.agI.map goE) j=cN c.r (c.agI.map goE) (j+1)from(CS hx h4p).symm)),rfl⟩,trivial⟩ rfl,rfl,oT,by show n-(j+1)<n-j;omega⟩
  have h4p:=wN h4;refine zC (Fs x.i)<|zR<|zL (x:=.tup [vU ((lK (cN c.r (c.agI.map goE) j) c.r j x.i.ag1).getD 0),vB ((lK (cN c.r (c.agI.map goE) j) c.r j x.i.ag1).isSome)]) rfl (.inr ⟨rfl,⟨(by show lo+n<=((A++(cN c.r (c.agI.map goE) j)++B).map enL).length;exact omT),tvT,trivial,trivial,trivial⟩⟩) ((show bI C0 94 [.sl 17 (List.take n (List.drop lo ((A++(cN c.r (c.agI.map goE) j)++B).map enL))) kR,.agg (Ks c.r),vN j,vI x.i.ag1] _ from by rw[tV (l:=cN c.r (c.agI.map goE) j) hlo (by first|assumption|exact hn)];exact Kl (cN c.r (c.agI.map goE) j) c.r kR j x.i.ag1 (oH hm.agI) (afG (tI hm.ok.agX) hm.ok.r j) hm.ok.r (oH hm.agI)))<|aV rfl (λh5=>?_) (λh5=>?_)
  ·refine cRg<|oR 8 rfl<|rCi rfl (RS x ((lK (cN c.r (c.agI.map goE) j) c.r j x.i.ag1).getD 0) hxo (Ck (afG (tI hm.ok.agX) hm.ok.r j) hm.ok.r j x.i.ag1))<|nW (.ptr2 1 (lo+j) 0) rfl rfl ixT ?_;have hx2:((cN c.r (c.agI.map goE) j).set j (uF x ((lK (cN c.r (c.agI.map goE) j) c.r j x.i.ag1).getD 0)))[j]?=some (uF x ((lK (cN c.r (c.agI.map goE) j) c.r j x.i.ag1).getD 0)):=aZ omT;refine nM (enL x) (h':=upd _ 1 (some (.arr ((A++((cN c.r (c.agI.map goE) j).set j (uF x ((lK (cN c.r (c.agI.map goE) j) c.r j x.i.ag1).getD 0)))++B).map enL) 17))) rfl rfl rfl (⟨aG _,iH ((jK hlo hx))⟩) (uL (f:=enL) (x:=(uF x ((lK (cN c.r (c.agI.map goE) j) c.r j x.i.ag1).getD 0))) (l:=cN c.r (c.agI.map goE) j) (i:=j) hlo omT)<|rE 72 ?_;have b3:j+1<=1001:=aD hjB (aC 1);refine qX 0 rfl<|zW _ (okI (bH b3 rfl))<|.mk _ (.refl _) ⟨j+1,λs=>s,wOL _ wT ⟨⟨rfl,rfl,rfl⟩,⟨rfl,(af2 (λz:List Ent=>some (Blk.arr ((A++z++B).map enL) 17)) (show(cN c.r (c.agI.map goE) j).set j (uF x ((lK (cN c.r (c.agI.map goE) j) c.r j x.i.ag1).getD 0))=cN c.r (c.agI.map goE) (j+1)from(Am hx (h4p) h5).symm)),rfl⟩,trivial⟩ rfl,rfl,oT,by show n-(j+1)<n-j;omega⟩
  skip
  have b4:j+1<=1001:=aD hjB (aC 1);refine qC 0 rfl<|zW _ (okI (bH b4 rfl))<|.mk _ (.refl _) ⟨j+1,λs=>s,wOL _ wT ⟨⟨rfl,rfl,rfl⟩,⟨rfl,(af2 (λz:List Ent=>some (Blk.arr ((A++z++B).map enL) 17)) (show cN c.r (c.agI.map goE) j=cN c.r (c.agI.map goE) (j+1)from(Al hx h5).symm)),rfl⟩,trivial⟩ rfl,rfl,oT,by show n-(j+1)<n-j;omega⟩
 have h3p:=aF h3;have hWj:cN c.r (c.agI.map goE) j=afD c:=by have q:j=c.agI.length:=omT;rw[q];rfl
 have hWl:(afD c).length=n:=(nN c).trans hn;have hil:i<n:=oH (ER hw);obtain⟨y,hy⟩:∃y,(afD c)[i]?=some y:=⟨_,aA omT⟩;have hyo:=vV hm y (aB hy);have hOKA:∀x∈A++afD c++B,x.ok:=sJ (sJ hAo (vV hm)) hBo;have hyj:(cN c.r (c.agI.map goE) j)[i]?=some y:=by rw[hWj];exact hy
 refine zL (x:=vN i) rfl (.inr ⟨rfl,⟨(by show lo+n<=((A++(cN c.r (c.agI.map goE) j)++B).map enL).length;exact omT),trivial⟩⟩) ((show bI C0 _ [.sl 17 (List.take n (List.drop lo ((A++(cN c.r (c.agI.map goE) j)++B).map enL))) kR] (vN i)from by rw[show vN i=vI (DM (yD (afD c)))from by rw[hw];rfl,tV (l:=cN c.r (c.agI.map goE) j) hlo (by first|assumption|exact hn),hWj];exact QR (afD c) kR (by rw[nN];have:=hm.agI;omega) (vV hm)))<|zWB (okB (geN _ _)) (λ_=>?_) (λh6=>by exact absurd h6 (by simp));refine zM (.ptr2 1 (lo+i) 0) rfl ixT<|rIx (enL y) (vU y.next) rfl rfl (iH (jK hlo hyj)) rfl<|qRN 0 rfl<|rSx 0 (mcX ({c with agM:=y.next}:Co) (.osl 1 lo n kR) (.sl 2 (c.agH.map ftL) true) (.sl 2 xS kS) (.sl 9 xT kT)) rfl rfl rfl<|qR 0 rfl<|fU _ rfl rfl rfl ((show pM C0.P C0.G 97 [.osl 0 lo n kR,vN i] (heapF [(0,.arr ((A++afD c++B).map enL) 17)]) 1 (λx h'=>x=.osl 1 0 (i+1) false∧h'=heapF [(0,.arr ((A++afD c++B).map enL) 17),(1,.arr ((DY (afD c) i).map enL) 17)])from by have q:=aeE (A++afD c++B) lo n i kR (by simp only[aU,nN];omega) (by simp only[aU,nN];omega) omT hOKA;rwa [Qs hlo hWl]at q).frameO 1 _ _ rfl (by show some (Blk.arr ((A++cN c.r (c.agI.map goE) j++B).map enL) 17)=_;rw[hWj]) rfl) ?_;rintro _ _ ⟨rfl,rfl⟩;refine qRN 0 rfl<|rSx 0 (mcX ({c with agM:=y.next}:Co) (.osl 54 0 (i+1) false) (.sl 2 (c.agH.map ftL) true) (.sl 2 xS kS) (.sl 9 xT kT)) rfl rfl rfl<|qRN 0 rfl<|rSx 0 (mcX ({c with agM:=y.next}:Co) (.osl 54 0 (i+1) false) (.sl 0 ([]) true) (.sl 2 xS kS) (.sl 9 xT kT)) rfl rfl rfl<|qRN 0 rfl<|rSx 0 (mcX ({c with agM:=y.next,stop:=false}:Co) (.osl 54 0 (i+1) false) (.sl 0 ([]) true) (.sl 2 xS kS) (.sl 9 xT kT)) rfl rfl rfl ?_;have ee:kK c={c with agI:=DY (afD c) i,agM:=y.next,agH:=[],stop:=false}:=GF (λq=>q h1p) hw hy;have hcl:(DY (afD c) i).length=i+1:=MO omT;rw[ee];exact qRF 0 rfl<|SY (rs:=[]) rfl (.step none (gOL (l:=[(0,.tup [])]) (hp:=[(0,.box (mcX ({c with agI:=DY (afD c) i,agM:=y.next,agH:=[],stop:=false}) (.osl 54 0 (i+1) false) (.sl 2 [] true) (.sl 2 xS kS) (.sl 9 xT kT))),(54,.arr ((DY (afD c) i).map enL) 17)]) trivial ⟨.refl _,trivial⟩ ⟨⟨trivial,_,rfl,LeB.boxL (qQ (.refl _) (.nil 2 true) (.refl _) (.refl _))⟩,⟨trivial,_,rfl,.refl _⟩,trivial⟩) (.refl _)) (r:=.tup []) (h':=heapF [(0,.box (mcX ({c with agI:=DY (afD c) i,agM:=y.next,agH:=[],stop:=false}) (.osl 2 0 (i+1) false) (.sl 2 [] true) (.sl 2 xS kS) (.sl 9 xT kT))),(2,.arr ((DY (afD c) i).map enL) 17)]) (σ:=λz=>match z with|2=>54|z=>z) ⟨rfl,.inr ⟨2,[],[],false,.inr rfl,(by show 0+(DY (afD c) i).length+0<=1000;have:=hm.agI;omega),(by show _=heapF [(0,.box (mcX ({c with agI:=DY (afD c) i,agM:=y.next,agH:=[],stop:=false}) (.osl 2 0 (DY (afD c) i).length false) _ _ _)),(2,.arr (([]++DY (afD c) i++[]).map enL) 17)];rw[hcl,iA,dY];rfl)⟩⟩ rfl (qT (λz=>match z with|2=>54|z=>z) rfl rfl wH rfl)
def WR(c:Co)(nb:Nat)(hm:c.okM nb)(h0:c.agI=[])(kS kT:Bool)(xS xT:List (List AV)):pM C0.P C0.G 46 [.ptr 0 0] (heapF [(0,.box (mcX c (.sl 17 [] false) (.sl 2 (c.agH.map ftL) true) (.sl 2 xS kS) (.sl 9 xT kT)))]) 1 (λx h'=>x=.tup []∧VF 1 (kK c) (.sl 2 ((kK c).agH.map ftL) true) (.sl 2 xS kS) (.sl 9 xT kT) h'):=by
 refine hZ 1 func46 rfl<|zVB (c.halt != 0) (λh1=>?_) (λh1=>?_)
 ·rw[Ka h0];exact BH (rs:=[]) rfl (r:=.tup []) (σ:=λz=>z) ⟨rfl,.inl ⟨h0,rfl⟩⟩ rfl (af8 (λz=>z) rfl rfl wH rfl)
 refine zW _ (vW enL ([]:List Ent) omT)<|zLK (κ:=Nat) (λk=>⟨slotsF [(0,.ptr 0 0),(16,vB (c.halt != 0)),(21,.sl 17 (([]:List Ent).map enL) false),(22,vN 0),(23,vN k)],heapF [(0,.box (mcX c (.sl 17 (([]:List Ent).map enL) false) (.sl 2 (c.agH.map ftL) true) (.sl 2 xS kS) (.sl 9 xT kT)))],14⟩) (λk=>k<=0) (λk=>0-k) 0 (λs=>s) (wOL (λs=>s) wT wH rfl) rfl (aE _) ?_;intro k hk;have hkB:k<=1000:=oT;refine zWB (okB (ltN _ _)) (λh2=>by exact absurd (af0 h2) (dG _)) (λ_=>?_);refine zW _ (vW enL ([]:List Ent) omT)<|zLK (κ:=Nat) (λj=>⟨slotsF [(0,.ptr 0 0),(16,vB (c.halt != 0)),(24,vB (decide (k<0))),(42,.sl 17 (([]:List Ent).map enL) false),(43,vN 0),(44,vN j)],heapF [(0,.box (mcX c (.sl 17 (([]:List Ent).map enL) false) (.sl 2 (c.agH.map ftL) true) (.sl 2 xS kS) (.sl 9 xT kT)))],22⟩) (λj=>j<=0) (λj=>0-j) 0 (λs=>s) (wOL (λs=>s) wT wH rfl) rfl (aE _) ?_;intro j hj;have hjB:j<=1000:=oT;refine zWB (okB (ltN _ _)) (λh3=>by exact absurd (af0 h3) (dG _)) (λ_=>?_);refine zC (x:=vI (-1)) ((show bI C0 _ [.sl 17 [] false] (vI (-1))from QR [] false dT (λx h=>by cases h)))<|zV (vB (decide ((-1)>=0)))<|aV rfl (λh4=>by exact absurd h4 dT) (λ_=>?_);rw[Ka h0];exact qCF 0 rfl<|BH (rs:=[]) rfl (r:=.tup []) (σ:=λz=>z) ⟨rfl,.inl ⟨h0,rfl⟩⟩ rfl (af8 (λz=>z) rfl rfl wH rfl)
def jJ(c:Co):Co:={c with agS:=(eH c.agS).1}
def kC(c:Co):lM c=if(eH c.agS).2.2=true then ID (jJ c) (eH c.agS).2.1 else jJ c:=rfl
def wY{q:List Req}(h:∀x∈q,x.ok):(eH q).1.length<=q.length∧(∀x∈(eH q).1,x.ok)∧(eH q).2.1.agY<=4294967295:=by
 unfold eH
 cases q with
 |nil=>exact⟨aC _,h,aE _⟩
 |cons y l=>
  have hy:=h y (bT ..);have hl:∀x∈l,x.ok:=λx hx=>h x (bY _ hx);dsimp only;split
  ·exact⟨aC _,(λx hx=>(al_List_mem_cons.1 hx).elim (λe=>e ▸ ⟨hy.agY⟩) (hl x)),aE _⟩
  ·exact⟨fF _,hl,hy.agY⟩
def Aj{c:Co}{n:Nat}(h:c.okM n):(jJ c).okM n:=by
 have ht:=wY h.ok.buso;exact⟨⟨h.ok.agL,h.ok.prog,h.ok.progo,h.ok.r,h.ok.agM,h.ok.fet,h.ok.feto,h.ok.agI,h.ok.agX,h.ok.sto,h.ok.stoo,h.ok.data,h.ok.agO,aL ht.1 h.ok.agS,ht.2.1,h.ok.asked,h.ok.agT,h.ok.mem,h.ok.agK,h.ok.ret,h.ok.reto⟩,h.nb,h.cf,h.data,h.agO,h.agK,h.agI,h.fet,h.sto,h.prog,h.mem,h.std⟩
def EP{e:Ent}(h:e.ok):({e with agU:=true}:Ent).ok:=⟨h.pc,h.agR,h.agK,h.value,h.next,h.agZ⟩
def MN{c:Co}{agY:Nat}{e:Ent}(h:e.ok):(wO c agY e).ok:=by
 unfold wO;split
 ·exact Il (EP h) _
 exact h
def TS{c:Co}{agY:Nat}{e:Ent}(h:e.is=2∧lineOf e.agZ=agY):wO c agY e=uM {e with agU:=true} (oL c e):=af1 h
def WN{c:Co}{agY:Nat}{e:Ent}(h: ¬(e.is=2∧lineOf e.agZ=agY)):wO c agY e=e:=dZ h
def LH{c:Co}{n:Nat}(h:c.okM n)(hb:n+1<=890000):(lM c).okM (n+1):=by
 have h1:=(Aj h).mono (fF n) hb;have hl:=(wY h.ok.buso).2.2;rw[kC];split
 ·unfold ID
  repeat' split
  ·have ho:∀x∈(jJ c).agI.map (wO (jJ c) (eH c.agS).2.1.agY),x.ok:=by
    intro x hx;obtain⟨y,hy,rfl⟩:=pG.1 hx;exact MN (h1.ok.agX y hy)
   exact⟨⟨h1.ok.agL,h1.ok.prog,h1.ok.progo,h1.ok.r,h1.ok.agM,h1.ok.fet,h1.ok.feto,by rw[aH];exact h1.ok.agI,ho,h1.ok.sto,h1.ok.stoo,h1.ok.data,h1.ok.agO,h1.ok.agS,h1.ok.buso,h1.ok.asked,h1.ok.agT,h1.ok.mem,h1.ok.agK,h1.ok.ret,h1.ok.reto⟩,h1.nb,h1.cf,h1.data,h1.agO,h1.agK,by rw[aH];exact h1.agI,h1.fet,h1.sto,h1.prog,h1.mem,h1.std⟩
  ·have g:=ab7.1 (h1.gw.put hl oZ false);exact⟨⟨h1.ok.agL,h1.ok.prog,h1.ok.progo,h1.ok.r,h1.ok.agM,h1.ok.fet,h1.ok.feto,h1.ok.agI,h1.ok.agX,h1.ok.sto,h1.ok.stoo,h1.ok.data,g.2,h1.ok.agS,h1.ok.buso,h1.ok.asked,h1.ok.agT,h1.ok.mem,h1.ok.agK,h1.ok.ret,h1.ok.reto⟩,h1.nb,h1.cf,h1.data,g.1,h1.agK,h1.agI,h1.fet,h1.sto,h1.prog,h1.mem,h1.std⟩
  ·exact EX (Aj h) hb hl
  ·exact⟨⟨h1.ok.agL,h1.ok.prog,h1.ok.progo,h1.ok.r,h1.ok.agM,h1.ok.fet,h1.ok.feto,h1.ok.agI,h1.ok.agX,h1.ok.sto,h1.ok.stoo,h1.ok.data,h1.ok.agO,h1.ok.agS,h1.ok.buso,h1.ok.asked,h1.ok.agT,by rw[iY];exact h1.ok.mem,h1.ok.agK,h1.ok.ret,h1.ok.reto⟩,h1.nb,h1.cf,h1.data,h1.agO,h1.agK,h1.agI,h1.fet,h1.sto,h1.prog,by rw[iY];exact h1.mem,h1.std⟩
  exact h1
 exact h1
def ab6(c:Co)(n:Nat)(hm:c.okM n)(agY:Nat)(hline:agY<=4294967295)(kR:Bool)(xR:List (List AV))(kF:Bool)(xF:List (List AV))(kS:Bool)(xS:List (List AV))(kT:Bool)(xT:List (List AV)):pM C0.P C0.G 89 [.ptr 0 0,vU agY] (heapF [(0,.box (mcX c (.sl 17 xR kR) (.sl 2 xF kF) (.sl 2 xS kS) (.sl 9 xT kT)))]) 1 (λx h'=>x=.tup []∧h'=heapF [(0,.box (mcX (ET c agY) (.sl 17 xR kR) (.sl 2 xF kF) (.sl 2 xS kS) (.sl 9 xT kT)))]):=by rw[uY];exact aeB c n hm agY hline kR xR kF xF kS xS kT xT
def Zo(c:Co)(n:Nat)(hm:c.okM n)(agY:Nat)(hline:agY<=4294967295)(lR nR:Nat)(kR:Bool)(rR:List (List AV))(kF:Bool)(xF:List (List AV))(kS:Bool)(xS:List (List AV))(kT:Bool)(xT:List (List AV)):pM C0.P C0.G 89 [.ptr 0 0,vU agY] (heapF [(0,.box (mcX c (.osl 1 lR nR kR) (.sl 2 xF kF) (.sl 2 xS kS) (.sl 9 xT kT))),(1,.arr rR 17)]) 2 (λx h'=>x=.tup []∧h'=heapF [(0,.box (mcX (ET c agY) (.osl 1 lR nR kR) (.sl 2 xF kF) (.sl 2 xS kS) (.sl 9 xT kT))),(1,.arr rR 17)]):=by rw[uY];exact acB c n hm agY hline lR nR kR rR kF xF kS xS kT xT
def Zp(c:Co)(nb:Nat)(hm:c.okM nb)(A B:List Ent)(lo n:Nat)(kR:Bool)(hlo:A.length=lo)(hn:c.agI.length=n)(hA:A.length+n+B.length<=1000)(kF kS kT:Bool)(xF xT:List (List AV)):pM C0.P C0.G 45 [.ptr 0 0] (heapF [(0,.box (mcX c (.osl 1 lo n kR) (.sl 2 xF kF) (.sl 2 (c.agF.map ptL) kS) (.sl 9 xT kT))),(1,.arr ((A++c.agI++B).map enL) 17)]) 2 (λx h'=>x=.tup []∧h'=heapF [(0,.box (mcX (lM c) (.osl 1 lo n kR) (.sl 2 xF kF) (.sl 2 (c.agF.map ptL) kS) (.sl 9 xT kT))),(1,.arr ((A++(lM c).agI++B).map enL) 17)]):=by
 refine hI 2 func45 ?_;refine cSR<|oR 5 rfl<|rCi rfl (VL c.agS false (oH hm.agS) hm.ok.buso)<|oR 4 rfl<|rAl 12 rfl rfl<|oR 1 rfl<|rSt rfl<|oR 1 rfl<|rE 16<|cSR<|oR 5 rfl<|rSt rfl<|rE 22<|uR<|cSR<|oR 2 rfl<|rE 24<|aV rfl (λh1=>?_) (λh1=>?_)
 ·refine FQ ?_;have e0:=kC c;have ee:lM c=(jJ c):=e0.trans (dZ (by rw[FV h1];decide));rw[ee];exact BH (rs:=[]) rfl (r:=.tup []) (σ:=λz=>z) ⟨rfl,rfl⟩ rfl (af8 (λz=>z) rfl rfl wH rfl)
 refine mF<|cSR<|oR 2 rfl<|rE 26<|kO<|cSR<|rV (vB (((eH c.agS).2.1.kind)==1)) rfl<|oR 1 rfl<|rE 28<|aV rfl (λh2=>?_) (λh2=>?_)
 ·have h2p:=mT h2;refine cSR<|oR 5 rfl<|rV (vN n) rfl<|oR 1 rfl<|rE 35<|kO<|sX (κ:=Nat) (λk=>⟨slotsF [(0,.ptr 0 0),(3,.ptr 12 0),(23,vB (!((eH c.agS).2.2))),(25,vI ((eH c.agS).2.1.kind)),(26,vB (((eH c.agS).2.1.kind)==1)),(32,.osl 1 lo n kR),(33,vN n),(34,vN k)],heapF [(0,.box (mcX ({c with agS:=(eH c.agS).1}:Co) (.osl 1 lo n kR) (.sl 2 xF kF) (.sl 2 (c.agF.map ptL) kS) (.sl 9 xT kT))),(1,.arr ((A++(oY (wO (jJ c) (eH c.agS).2.1.agY) c.agI k)++B).map enL) 17),(12,.box (rqL ((eH c.agS).2.1)))],35⟩) (λk=>k<=n) (λk=>n-k) 0 (λs=>s) (wOL (λs=>s) wT wH rfl) rfl (aE _) ?_;intro k hk;have hkn:k<=n:=hk;have hkB:k<=1000:=oH hm.agI;have hml:(oY (wO (jJ c) (eH c.agS).2.1.agY) c.agI k).length=n:=Zq.trans hn;refine cSR<|rW _ rfl (okB (ltN _ _))<|rE 36<|uR<|aV rfl (λh3=>?_) (λh3=>?_)
  ·have h3p:=af0 h3;refine mF<|uR<|kO<|cSR<|oR 1 rfl<|nW (.ptr2 1 (lo+k) 0) rfl rfl ixT ?_;obtain⟨x,hx⟩:∃y_,(oY (wO (jJ c) (eH c.agS).2.1.agY) c.agI k)[k]?=some y_:=⟨_,aA omT⟩;have hxo:=(Ii (λx h=>MN h) hm.ok.agX k) x (aB hx);refine rIx (enL x) (.agg (enL x)) rfl rfl (iH (jK hlo hx)) rfl<|rAl 39 rfl rfl<|oR 1 rfl<|rSt rfl<|rE 42<|cSR<|oR 2 rfl<|rV (vB (x.is==2)) rfl<|oR 1 rfl<|gN rfl<|gS rfl id<|jQ (x:=vU (lineOf x.agZ)) (g:=x.is==2) rfl rfl rfl rfl (λh=>h) rfl rfl rfl (.inl rfl) rfl (λhg=>tN x.agZ hxo.agZ)<|gN rfl<|gS rfl id<|gBS rfl hsT (okB (eqN _ _))<|bO rfl rfl rfl (λh=>h)<|rE 53<|aV rfl (λh4=>?_) (λh4=>?_)
   ·have hfc:(x.is=2∧lineOf x.agZ=(eH c.agS).2.1.agY):=by have z:=h4;simpa [c2a]using z
    refine cSR<|oR 1 rfl<|rSt rfl<|rE 55<|cRg<|oR 9 rfl<|rCl rfl (.inr ⟨rfl,⟨trivial,tvT,trivial⟩⟩) (MV (jJ c) nb (Aj hm) .any (.sl 2 xF kF) (.sl 9 xT kT) kS ({x with agU:=true}:Ent) (EP hxo))<|rCi rfl (RR ({x with agU:=true}:Ent) (oL (jJ c) x) (EP hxo) (by have:=GN (c:=(jJ c)) (by have:=hm.mem;exact this) x;omega))<|nW (.ptr2 1 (lo+k) 0) rfl rfl ixT ?_;have hx1:((oY (wO (jJ c) (eH c.agS).2.1.agY) c.agI k).set k (uM ({x with agU:=true}:Ent) (oL (jJ c) x)))[k]?=some (uM ({x with agU:=true}:Ent) (oL (jJ c) x)):=aZ omT;refine nM (enL x) (h':=upd _ 1 (some (.arr ((A++((oY (wO (jJ c) (eH c.agS).2.1.agY) c.agI k).set k (uM ({x with agU:=true}:Ent) (oL (jJ c) x)))++B).map enL) 17))) rfl rfl rfl (⟨aG _,iH ((jK hlo hx))⟩) (uL (f:=enL) (x:=(uM ({x with agU:=true}:Ent) (oL (jJ c) x))) (l:=oY (wO (jJ c) (eH c.agS).2.1.agY) c.agI k) (i:=k) hlo omT)<|rE 68<|cRg ?_;have b1:k+1<=1001:=aD hkB (aC 1);refine rW _ rfl (okI (bH b1 rfl))<|oR 1 rfl<|rE 70<|.mk _ (.refl _) ⟨k+1,λs=>s,wOL _ wT ⟨⟨rfl,rfl,rfl⟩,⟨rfl,(af2 (λz:List Ent=>some (Blk.arr ((A++z++B).map enL) 17)) (show(oY (wO (jJ c) (eH c.agS).2.1.agY) c.agI k).set k (uM ({x with agU:=true}:Ent) (oL (jJ c) x))=oY (wO (jJ c) (eH c.agS).2.1.agY) c.agI (k+1)from by rw[<-Cg hx,TS hfc])),rfl⟩,⟨rfl,rfl,rfl⟩,trivial⟩ rfl,rfl,oT,by show n-(k+1)<n-k;omega⟩
   have hfc: ¬(x.is=2∧lineOf x.agZ=(eH c.agS).2.1.agY):=by have z:=h4;simpa [c2a]using z
   refine mF<|cRg ?_;have b2:k+1<=1001:=aD hkB (aC 1);refine rW _ rfl (okI (bH b2 rfl))<|oR 1 rfl<|rE 55<|.mk _ (.refl _) ⟨k+1,λs=>s,wOL _ wT ⟨⟨rfl,rfl,rfl⟩,⟨rfl,(af2 (λz:List Ent=>some (Blk.arr ((A++z++B).map enL) 17)) (show oY (wO (jJ c) (eH c.agS).2.1.agY) c.agI k=oY (wO (jJ c) (eH c.agS).2.1.agY) c.agI (k+1)from OC hx (WN hfc))),rfl⟩,⟨rfl,rfl,rfl⟩,trivial⟩ rfl,rfl,oT,by show n-(k+1)<n-k;omega⟩
  have h3p:=aF h3;refine Bh ?_;have e0:=kC c;have ee:lM c={jJ c with agI:=c.agI.map (wO (jJ c) (eH c.agS).2.1.agY)}:=((e0.trans (af1 (dQ (sI h1)))).trans (af1 h2p));rw[ee];exact BH (rs:=[]) rfl (r:=.tup []) (σ:=λz=>z) ⟨rfl,rfl⟩ rfl (af8 (λz=>z) rfl rfl ⟨⟨rfl,rfl,rfl⟩,⟨rfl,(af2 (λz:List Ent=>some (Blk.arr ((A++z++B).map enL) 17)) (EQ (f:=wO (jJ c) (eH c.agS).2.1.agY) (l:=c.agI) omT)),rfl⟩,trivial⟩ rfl)
 have h2p:=nA h2;refine cSR<|rV (vB (((eH c.agS).2.1.kind)==2)) rfl<|oR 1 rfl<|rE 30<|aV rfl (λh5=>?_) (λh5=>?_)
 ·have h5p:=mT h5;refine cRg<|oR 8 rfl<|rCi rfl (Re c.agO (eH c.agS).2.1.agY oZ false hm.ok.agO (wY hm.ok.buso).2.2)<|oR 7 rfl<|rSt rfl<|rE 47 ?_;have e0:=kC c;have ee:lM c={jJ c with agO:=(qZ c.agO (eH c.agS).2.1.agY oZ false).1}:=(((e0.trans (af1 (dQ (sI h1)))).trans (dZ h2p)).trans (af1 h5p));rw[ee];exact BH (rs:=[]) rfl (r:=.tup []) (σ:=λz=>z) ⟨rfl,rfl⟩ rfl (af8 (λz=>z) rfl rfl wH rfl)
 have h5p:=nA h5;refine cSR<|rV (vB (((eH c.agS).2.1.kind)==3)) rfl<|oR 1 rfl<|rE 32<|aV rfl (λh6=>?_) (λh6=>?_)
 ·have h6p:=mT h6;refine cRg<|oR 3 rfl<|fU _ rfl rfl rfl ((Zo (jJ c) nb (Aj hm) (eH c.agS).2.1.agY (wY hm.ok.buso).2.2 lo n kR ((A++c.agI++B).map enL) kF xF kS (c.agF.map ptL) kT xT).fB (λz=>z)) ?_;rintro _ _ ⟨rfl,rfl⟩;refine rE 36 ?_;have e0:=kC c;have ee:lM c=ET (jJ c) (eH c.agS).2.1.agY:=(((((e0.trans (af1 (dQ (sI h1)))).trans (dZ h2p)).trans (dZ h5p)).trans (af1 h6p))).trans (uY _ _).symm;rw[ee];exact BH (rs:=[]) rfl (r:=.tup []) (σ:=λz=>z) ⟨rfl,rfl⟩ rfl (af8 (λz=>z) rfl rfl wH rfl)
 have h6p:=nA h6;refine cSR<|rV (vB (((eH c.agS).2.1.kind)==4)) rfl<|oR 1 rfl<|rE 34<|aV rfl (λh7=>?_) (λh7=>?_)
 all_goals
  first|(have h7p:=mT h7;refine cRg<|oR 10 rfl<|rV (.agg [vU ((eH c.agS).2.1.agY),.v (.string ((eH c.agS).2.1.data))]) rfl<|rV (.sl 2 ([[vU ((eH c.agS).2.1.agY),.v (.string ((eH c.agS).2.1.data))]]) true) rfl<|rCi rfl (QX c.mem [⟨(eH c.agS).2.1.agY,(eH c.agS).2.1.data⟩] true (oH hm.mem) (by show 1<=1000000;decide) (sK (P:=Pt.ok) ⟨(wY hm.ok.buso).2.2⟩))<|oR 3 rfl<|rSt rfl<|rE 51 ?_)|(have h7p:=nA h7;refine mF ?_)
  have e0:=kC c
  first|have ee:lM c={jJ c with mem:=rP c.mem [⟨(eH c.agS).2.1.agY,(eH c.agS).2.1.data⟩]}:=(((((e0.trans (af1 (dQ (sI h1)))).trans (dZ h2p)).trans (dZ h5p)).trans (dZ h6p)).trans (af1 h7p))|have ee:lM c=(jJ c):=(((((e0.trans (af1 (dQ (sI h1)))).trans (dZ h2p)).trans (dZ h5p)).trans (dZ h6p)).trans (dZ h7p))
  rw[ee];exact BH (rs:=[]) rfl (r:=.tup []) (σ:=λz=>z) ⟨rfl,rfl⟩ rfl (af8 (λz=>z) rfl rfl wH rfl)
def WO(c:Co)(nb:Nat)(hm:c.okM nb)(h0:c.agI=[])(kF kS kT:Bool)(xF xT:List (List AV)):pM C0.P C0.G 45 [.ptr 0 0] (heapF [(0,.box (mcX c (.sl 17 [] false) (.sl 2 xF kF) (.sl 2 (c.agF.map ptL) kS) (.sl 9 xT kT)))]) 1 (λx h'=>x=.tup []∧h'=heapF [(0,.box (mcX (lM c) (.sl 17 [] false) (.sl 2 xF kF) (.sl 2 (c.agF.map ptL) kS) (.sl 9 xT kT)))]):=by
 refine hI 1 func45 ?_;refine cSR<|oR 5 rfl<|rCi rfl (VL c.agS false (oH hm.agS) hm.ok.buso)<|oR 4 rfl<|rAl 11 rfl rfl<|oR 1 rfl<|rSt rfl<|oR 1 rfl<|rE 15<|cSR<|oR 5 rfl<|rSt rfl<|rE 21<|uR<|cSR<|oR 2 rfl<|rE 23<|aV rfl (λh1=>?_) (λh1=>?_)
 ·refine FQ ?_;have e0:=kC c;have ee:lM c=(jJ c):=e0.trans (dZ (by rw[FV h1];decide));rw[ee];exact BH (rs:=[]) rfl (r:=.tup []) (σ:=λz=>z) ⟨rfl,rfl⟩ rfl (af8 (λz=>z) rfl rfl wH rfl)
 refine mF<|cSR<|oR 2 rfl<|rE 25<|kO<|cSR<|rV (vB (((eH c.agS).2.1.kind)==1)) rfl<|oR 1 rfl<|rE 27<|aV rfl (λh2=>?_) (λh2=>?_)
 ·have h2p:=mT h2;refine cSR<|oR 5 rfl<|rW _ rfl (vW enL ([]:List Ent) omT)<|oR 1 rfl<|rE 34<|kO<|sX (κ:=Nat) (λk=>⟨slotsF [(0,.ptr 0 0),(3,.ptr 11 0),(23,vB (!((eH c.agS).2.2))),(25,vI ((eH c.agS).2.1.kind)),(26,vB (((eH c.agS).2.1.kind)==1)),(32,.sl 17 (([]:List Ent).map enL) false),(33,vN 0),(34,vN k)],heapF [(0,.box (mcX ({c with agS:=(eH c.agS).1}:Co) (.sl 17 (([]:List Ent).map enL) false) (.sl 2 xF kF) (.sl 2 (c.agF.map ptL) kS) (.sl 9 xT kT))),(11,.box (rqL ((eH c.agS).2.1)))],34⟩) (λk=>k<=0) (λk=>0-k) 0 (λs=>s) (wOL (λs=>s) wT wH rfl) rfl (aE _) ?_;intro k hk;have hkB:k<=1000:=oT;refine cSR<|rW _ rfl (okB (ltN _ _))<|rE 35<|uR<|aV rfl (λh3=>by exact absurd (af0 h3) (dG _)) (λ_=>?_);refine Bh ?_;have e0:=kC c;have ee:lM c={jJ c with agI:=c.agI.map (wO (jJ c) (eH c.agS).2.1.agY)}:=((e0.trans (af1 (dQ (sI h1)))).trans (af1 h2p));rw[ee];exact BH (rs:=[]) rfl (r:=.tup []) (σ:=λz=>z) ⟨rfl,rfl⟩ rfl (af8 (λz=>z) rfl rfl wH rfl)
 have h2p:=nA h2;refine cSR<|rV (vB (((eH c.agS).2.1.kind)==2)) rfl<|oR 1 rfl<|rE 29<|aV rfl (λh4=>?_) (λh4=>?_)
 ·have h4p:=mT h4;refine cRg<|oR 8 rfl<|rCi rfl (Re c.agO (eH c.agS).2.1.agY oZ false hm.ok.agO (wY hm.ok.buso).2.2)<|oR 7 rfl<|rSt rfl<|rE 46 ?_;have e0:=kC c;have ee:lM c={jJ c with agO:=(qZ c.agO (eH c.agS).2.1.agY oZ false).1}:=(((e0.trans (af1 (dQ (sI h1)))).trans (dZ h2p)).trans (af1 h4p));rw[ee];exact BH (rs:=[]) rfl (r:=.tup []) (σ:=λz=>z) ⟨rfl,rfl⟩ rfl (af8 (λz=>z) rfl rfl wH rfl)
 have h4p:=nA h4;refine cSR<|rV (vB (((eH c.agS).2.1.kind)==3)) rfl<|oR 1 rfl<|rE 31<|aV rfl (λh5=>?_) (λh5=>?_)
 ·have h5p:=mT h5;refine cRg<|oR 3 rfl<|fU _ rfl rfl rfl ((ab6 (jJ c) nb (Aj hm) (eH c.agS).2.1.agY (wY hm.ok.buso).2.2 false [] kF xF kS (c.agF.map ptL) kT xT).fB (λz=>z)) ?_;rintro _ _ ⟨rfl,rfl⟩;refine rE 35 ?_;have e0:=kC c;have ee:lM c=ET (jJ c) (eH c.agS).2.1.agY:=(((((e0.trans (af1 (dQ (sI h1)))).trans (dZ h2p)).trans (dZ h4p)).trans (af1 h5p))).trans (uY _ _).symm;rw[ee];exact BH (rs:=[]) rfl (r:=.tup []) (σ:=λz=>z) ⟨rfl,rfl⟩ rfl (af8 (λz=>z) rfl rfl wH rfl)
 have h5p:=nA h5;refine cSR<|rV (vB (((eH c.agS).2.1.kind)==4)) rfl<|oR 1 rfl<|rE 33<|aV rfl (λh6=>?_) (λh6=>?_)
 all_goals
  first|(have h6p:=mT h6;refine cRg<|oR 10 rfl<|rV (.agg [vU ((eH c.agS).2.1.agY),.v (.string ((eH c.agS).2.1.data))]) rfl<|rV (.sl 2 ([[vU ((eH c.agS).2.1.agY),.v (.string ((eH c.agS).2.1.data))]]) true) rfl<|rCi rfl (QX c.mem [⟨(eH c.agS).2.1.agY,(eH c.agS).2.1.data⟩] true (oH hm.mem) (by show 1<=1000000;decide) (sK (P:=Pt.ok) ⟨(wY hm.ok.buso).2.2⟩))<|oR 3 rfl<|rSt rfl<|rE 50 ?_)|(have h6p:=nA h6;refine mF ?_)
  have e0:=kC c
  first|have ee:lM c={jJ c with mem:=rP c.mem [⟨(eH c.agS).2.1.agY,(eH c.agS).2.1.data⟩]}:=(((((e0.trans (af1 (dQ (sI h1)))).trans (dZ h2p)).trans (dZ h4p)).trans (dZ h5p)).trans (af1 h6p))|have ee:lM c=(jJ c):=(((((e0.trans (af1 (dQ (sI h1)))).trans (dZ h2p)).trans (dZ h4p)).trans (dZ h5p)).trans (dZ h6p))
  rw[ee];exact BH (rs:=[]) rfl (r:=.tup []) (σ:=λz=>z) ⟨rfl,rfl⟩ rfl (af8 (λz=>z) rfl rfl wH rfl)
def FU{c:Co}{n:Nat}{s:Sp}(h:c.okM n)(hb:n+1<=890000)(hs:s.ok):(tM c s).okM (n+1):=by
 have hr:(c.agG++[s]).length<=n+1:=by have:=h.ok.ret;simp;omega
 exact⟨⟨h.ok.agL,h.ok.prog,h.ok.progo,h.ok.r,h.ok.agM,aE _,(λx hx=>by cases hx),aE _,(λx hx=>by cases hx),h.ok.sto,h.ok.stoo,h.ok.data,h.ok.agO,qJ h.ok.agS,h.ok.buso,h.ok.asked,h.ok.agT,h.ok.mem,h.ok.agK,hr,sJ h.ok.reto (sK (P:=Sp.ok) hs)⟩,hb,h.cf,h.data,h.agO,h.agK,aE _,aE _,h.sto,h.prog,h.mem,h.std⟩
theorem Ah:∀{n:Nat} {c:Co} {m:Nat},c.okM m->m+2*n<=890000->(eC n c).okM (m+2*n)
 |0,_,_,h,_=>h
 | n + 1,c,m,h,hb=>by
  have hmn:m<=m+2*(n+1):=oT;by_cases h0:c.halt≠0∨c.agI.length=0
  ·rw[mG h0];exact h.mono hmn hb
  ·have hx:c.agI[0]?=some (c.agI[0]'omT):=aA omT;have he:=WV h hx;rw[iX omT (λq=>h0 (.inl q)) hx];split
   ·exact h.mono hmn hb
   ·split
    ·exact(FU h omT (fE he)).mono omT hb
    ·split
     ·exact h.mono hmn hb
     ·rename_i hs;have hst:(cA (c.agI[0]'omT)).store=true->c.agF.length<=999:=λq=>by
       have:=pD h.cf;have: ¬(c.agF.length:Int)>=c.agL.agF:=λz=>hs ⟨q,z⟩;omega
      rw[kB,(oT:m+2*(n+1)=(m+2)+2*n)];by_cases hk:kindOf (c.agI[0]'omT).i.op=3
      ·rw[Ke hk];exact Ah (GJ h omT he hst) omT
      ·rw[An hk];exact Ah (xZ h omT he hst) omT
def TR{c:Co}{n:Nat}(h:c.okM n):c.agL.agN.toNat<=2:=oH (pD h.cf)
def Ih{c:Co}{m:Nat}(h:c.okM m)(hb:m+4<=890000):(af7 c).okM (m+4):=by
 have hw:=TR h;exact(Ah h omT).mono omT hb
theorem EM:∀{p:List Nat} {c:Co} {m:Nat},c.okM m->m+p.length<=890000->(p.foldl iS c).okM (m+p.length)
 |[],_,_,h,_=>h
 |i::p,c,m,h,hb=>by
  have hl:(i::p).length=p.length+1:=rfl;rw[hl]at hb⊢;rw[(oT:m+(p.length+1)=(m+1)+p.length)];exact EM (yY h omT i).1 omT
def JX{c:Co}{m:Nat}(h:c.okM m)(hb:m+2<=890000):(gY c).okM (m+2):=by
 by_cases hh:c.halt≠0
 ·rw[show gY c=c from af1 hh];exact h.mono omT hb
 obtain⟨p, -,hp, -,hl⟩:=Ao (k:=c.agI.length) h.cf hh rfl;rw[hp];exact(EM h omT).mono omT hb
theorem Dq:∀{p:List Nat} {c:Co} {m:Nat},c.okM m->m+p.length<=890000->(p.foldl iS c).agI.length=c.agI.length∧(p.foldl iS c).agF=c.agF∧(p.foldl iS c).agH=c.agH∧(p.foldl iS c).agG=c.agG
 |[],_,_,_,_=>⟨rfl,rfl,rfl,rfl⟩
 |i::p,c,m,h,hb=>by
  have hl:(i::p).length=p.length+1:=rfl;rw[hl]at hb;have hs:=yY h omT i;have ih:=Dq (p:=p) hs.1 omT;exact⟨ih.1.trans hs.2.1,ih.2.1.trans hs.2.2.2.1,ih.2.2.1.trans hs.2.2.2.2.1,ih.2.2.2.trans hs.2.2.2.2.2⟩
def nO{c:Co}{m:Nat}(h:c.okM m)(hb:m+2<=890000):(gY c).agI.length=c.agI.length∧(gY c).agF=c.agF∧(gY c).agH=c.agH∧(gY c).agG=c.agG:=by
 by_cases hh:c.halt≠0
 ·rw[show gY c=c from af1 hh];exact⟨rfl,rfl,rfl,rfl⟩
 obtain⟨p, -,hp, -,hl⟩:=Ao (k:=c.agI.length) h.cf hh rfl;rw[hp];exact Dq h omT
theorem EN:∀{n:Nat} {c:Co} {m:Nat},c.okM m->(kV n c).okM m∧(kV n c).agF=c.agF∧(kV n c).agG=c.agG
 |0,_,_,h=>⟨h,rfl,rfl⟩
 | n+1,c,m,h=>by
  by_cases h0:(c.agI.length:Int)>=c.agL.agI∨c.agH.length=0
  ·rw[Ap h0];exact⟨h,rfl,rfl⟩
  ·have hx:c.agH[0]?=some (c.agH[0]'omT):=aA omT;have hf:=h.ok.feto _ (aB hx);have hr:c.agI.length<=999:=oH (pD h.cf);have e:=CU (n:=n+1) (k:=0) omT (λq=>h0 (.inl q)) hx;rw[(oT:n+1-(0+1)=n),(oT:n+1-0=n+1)]at e;rw[<-e];have ih:=EN (n:=n) (CV h hf hr);exact⟨ih.1,ih.2.1,ih.2.2⟩
def Ai{c:Co}{m:Nat}(h:c.okM m):(lP c).okM m∧(lP c).agF=c.agF∧(lP c).agG=c.agG:=by
 unfold lP;split
 ·exact⟨h,rfl,rfl⟩
 exact EN h
def LF(c:Co)(w:Nat):(dM c w).1.agF=c.agF∧(dM c w).1.agG=c.agG∧(dM c w).1.agI=c.agI:=by
 unfold dM;split
 ·exact⟨rfl,rfl,rfl⟩
 split<;>exact⟨rfl,rfl,rfl⟩
def LG(d:Co):(zP d).agF=d.agF∧(zP d).agG=d.agG∧(zP d).agI=d.agI:=LF (lJ d) (fetchW d.prog d.agM)
def JY{c:Co}{m:Nat}(h:c.okM m)(hf:c.agH.length<=999):Co.okM {c with agH:=c.agH++[⟨c.agM,up4 c.agM⟩],stop:=true} m:=by
 have hl:(c.agH++[(⟨c.agM,up4 c.agM⟩:Ft)]).length<=1000:=by simp;omega
 exact⟨⟨h.ok.agL,h.ok.prog,h.ok.progo,h.ok.r,h.ok.agM,aL hl dT,sJ h.ok.feto (sK ⟨h.ok.agM,uT _⟩),h.ok.agI,h.ok.agX,h.ok.sto,h.ok.stoo,h.ok.data,h.ok.agO,h.ok.agS,h.ok.buso,h.ok.asked,h.ok.agT,h.ok.mem,h.ok.agK,h.ok.ret,h.ok.reto⟩,h.nb,h.cf,h.data,h.agO,h.agK,h.agI,hl,h.sto,h.prog,h.mem,h.std⟩
theorem Dr:∀{n:Nat} {c:Co} {m:Nat},c.okM m->m+1<=890000->(eL n c).okM (m+1)∧(eL n c).agF=c.agF∧(eL n c).agG=c.agG∧(eL n c).agI=c.agI
 |0,_,_,h,hb=>⟨h.mono (fF _) hb,rfl,rfl,rfl⟩
 | n +1,c,m,h,hb=>by
  have h1:=h.mono (fF m) hb;by_cases h0:c.stop=true∨(c.agH.length:Int)>=c.agL.queue
  ·rw[yZ h0];exact⟨h1,rfl,rfl,rfl⟩
  ·have hl:c.agH.length<=999:=oH (pD h.cf);by_cases hf:(fetchP c.prog c.agM).isSome=false
   ·rw[Aq omT h0 hf];exact⟨JY h1 hl,rfl,rfl,rfl⟩
   ·by_cases hw:(bK c.agO (lineOf c.agM)).2.isSome=false
    ·rw[uD omT h0 hf hw];split
     ·exact⟨sH h hb 2 (dV h.ok.agM) oZ,rfl,rfl,rfl⟩
     ·exact⟨h1,rfl,rfl,rfl⟩
    ·have e:=BC (n:=n+1) (k:=0) omT h0 hf hw;rw[(oT:n+1-(0+1)=n),(oT:n+1-0=n+1)]at e;rw[<-e];have ih:=Dr (n:=n) (CW h hl) hb;have hk:=LG c;exact⟨ih.1,ih.2.1.trans hk.1,ih.2.2.1.trans hk.2.1,ih.2.2.2.trans hk.2.2⟩
def uX{c:Co}{m:Nat}(h:c.okM m)(hb:m+1<=890000):(eN c).okM (m+1)∧(eN c).agF=c.agF∧(eN c).agG=c.agG∧(eN c).agI=c.agI:=by
 unfold eN;split
 ·exact⟨h.mono (fF _) hb,rfl,rfl,rfl⟩
 exact Dr h hb
def JZ{c:Co}{m:Nat}(h:c.okM m)(hb:m+1<=890000):(tW c).okM (m+1)∧(tW c).agH=c.agH∧(tW c).agG=c.agG∧(tW c).agI=c.agI∧(tW c).agF=c.agF:=by
 unfold tW
 cases hs:c.agF with
 |nil=>exact⟨h.mono (fF _) hb,rfl,rfl,rfl,hs⟩
 |cons p l=>
  dsimp only;split
  ·exact⟨sH h hb 3 (dV (h.ok.stoo p (by rw[hs];exact bT ..)).agZ) oZ,rfl,rfl,rfl,hs⟩
  ·exact⟨h.mono (fF _) hb,rfl,rfl,rfl,hs⟩
def EO{c:Co}{m:Nat}(h:c.okM m)(hb:m+1<=890000):(nP c).okM (m+1)∧(nP c).agH=c.agH∧(nP c).agG=c.agG∧(nP c).agI=c.agI∧(nP c).agF=c.agF:=by
 have h1:=h.mono (fF m) hb;unfold nP;split
 ·exact⟨h1,rfl,rfl,rfl,rfl⟩
 by_cases hq:(cR c.data).isSome=true∧((cR c.data).getD qE).data.size≠0
 ·rw[uZ hq];have ha:=sH h hb 4 h.gd.dirtyLe ((cR c.data).getD qE).data;have g:=ab7.1 (h.gd.clean ((cR c.data).getD qE).agY);exact⟨⟨⟨ha.ok.agL,ha.ok.prog,ha.ok.progo,ha.ok.r,ha.ok.agM,ha.ok.fet,ha.ok.feto,ha.ok.agI,ha.ok.agX,ha.ok.sto,ha.ok.stoo,g.2,ha.ok.agO,ha.ok.agS,ha.ok.buso,ha.ok.asked,ha.ok.agT,ha.ok.mem,ha.ok.agK,ha.ok.ret,ha.ok.reto⟩,hb,ha.cf,g.1,ha.agO,ha.agK,ha.agI,ha.fet,ha.sto,ha.prog,ha.mem,ha.std⟩,rfl,rfl,rfl,rfl⟩
 rw[wZ hq];exact⟨h1,rfl,rfl,rfl,rfl⟩
def wX{c:Co}{m:Nat}(h:c.okM m)(hb:m+2<=890000):(tY c).okM (m+2)∧(tY c).agH=c.agH∧(tY c).agG=c.agG∧(tY c).agI=c.agI:=by
 rw[mO];have h0:=eR h;split
 ·have ha:=JZ h0 omT;have hB:=EO ha.1 omT;exact⟨hB.1,hB.2.1.trans ha.2.1,hB.2.2.1.trans ha.2.2.1,hB.2.2.2.1.trans ha.2.2.2.1⟩
 have hB:=EO h0 omT;exact⟨hB.1.mono omT hb,hB.2.1,hB.2.2.1,hB.2.2.2.1⟩
def rG(c:Co):(lM c).agH=c.agH∧(lM c).agF=c.agF∧(lM c).agG=c.agG∧(lM c).agI.length=c.agI.length:=by
 rw[kC];split
 ·unfold ID
  repeat' split
  ·exact⟨rfl,rfl,rfl,aH ..⟩
  ·exact⟨rfl,rfl,rfl,rfl⟩
  ·rw[<-uY];exact⟨rfl,rfl,rfl,rfl⟩
  ·exact⟨rfl,rfl,rfl,rfl⟩
  exact⟨rfl,rfl,rfl,rfl⟩
 exact⟨rfl,rfl,rfl,rfl⟩
def mC(c:Co):(kK c).agF=c.agF∧(kK c).agG=c.agG:=by
 unfold kK;split
 ·exact⟨rfl,rfl⟩
 split<;>exact⟨rfl,rfl⟩
def EL{c:Co}{n:Nat}(h:c.ok n)(hb:n<=890000)(hr:jF c=true):c.okM n:=by
 unfold jF at hr;simp only[aP,aY]at hr;obtain⟨⟨⟨⟨⟨⟨⟨⟨⟨⟨⟨h1,h2⟩,h3⟩,h4⟩,h5⟩,h6⟩,h7⟩,h8⟩,h9⟩,h10⟩,h11⟩,h12⟩:=hr;unfold Ax at h7 h8;simp only[aP,aY]at h7 h8;have hc:=pD h1;have hm:c.mem.size<=256:=by
  have e:c.mem.toList=(jB c.mem).toList:=sU h3;have e2:c.mem.size=(jB c.mem).size:=by rw[<-afJ, <-afJ (jB c.mem),e]
  rw[e2,wE];unfold upS;repeat' split
  all_goals omega
 have hs:∀x∈c.agF,x.data.size<=4:=λx hx=>by
  have:=rC.1 h12 x hx;unfold kZ at this;simp only[aP,aY]at this;omega
 exact⟨h,hb,h1,h7.1.1,h8.1.1,h9,oT,oT,oT,oT,hm,hs⟩
def ab5(K:AH)(m b1 s2:Nat)(c:Co)(F S T:AV)(h':AH):Prop:=
 (c.agI=[]∧h'=upd K m (some (.box (mcX c (.sl 17 [] false) F S T))))∨
 ∃(b:Nat) (A B:List Ent) (k:Bool),(b=b1∨b=s2)∧A.length+c.agI.length+B.length<=1000∧h'=upd (upd K m (some (.box (mcX c (.osl b A.length c.agI.length k) F S T)))) b (some (.arr ((A++c.agI++B).map enL) 17))
def Qp{f:FuncId}{b0:Blk}{c:Co}{kF kS kT:Bool}{xF xS xT:List (List AV)}(H:pM C0.P C0.G f [.ptr 0 0] (heapF [(0,b0)]) 1 (λx h'=>x=.tup []∧VF 1 c (.sl 2 xF kF) (.sl 2 xS kS) (.sl 9 xT kT) h'))(m:Nat)(K:AH)(s2:Nat)(hL:FrL (λ_=>m) K 1 s2 [(0,b0)]):
  pM C0.P C0.G f [.ptr m 0] K s2 (λx h'=>x=.tup []∧ab5 K m s2 s2 c (.sl 2 xF kF) (.sl 2 xS kS) (.sl 9 xT kT) h'):=by
 refine H.frameL (λ_=>m) K s2 rfl hL rfl rfl _ λr' h' hP=>?_;obtain⟨rfl,hP⟩:=hP;rcases hP with ⟨h0,rfl⟩|⟨b,A,B,k,hb,hl,rfl⟩
 ·refine⟨_,⟨rfl,.inl ⟨h0,rfl⟩⟩,λy blk hy=>?_⟩;by_cases he:y=m
  ·subst he;rw[dB]at hy;injection hy with hy;subst hy;exact .inl ⟨0,_,rfl,rfl,rfl⟩
  rw[cI _ _ he]at hy;exact .inr ⟨hy,λx _ e=>he e.symm⟩
 have hb1:b=1:=oT;subst hb1;refine⟨_,⟨rfl,.inr ⟨s2,A,B,k,.inr rfl,hl,rfl⟩⟩,λy blk hy=>?_⟩;by_cases hs:y=s2
 ·subst hs;rw[dB]at hy;injection hy with hy;subst hy;exact .inl ⟨1,_,rfl,(wD _ _ _).symm,rfl⟩
 rw[cI _ _ hs]at hy;by_cases he:y=m
 ·subst he;rw[dB]at hy;injection hy with hy;subst hy;exact .inl ⟨0,_,rfl,rfl,rfl⟩
 rw[cI _ _ he]at hy;exact .inr ⟨hy,λx _ e=>he e.symm⟩
def Qq{f:FuncId}{b0 b1:Blk}{c:Co}{kF kS kT:Bool}{xF xS xT:List (List AV)}(H:pM C0.P C0.G f [.ptr 0 0] (heapF [(0,b0),(1,b1)]) 2 (λx h'=>x=.tup []∧VF 2 c (.sl 2 xF kF) (.sl 2 xS kS) (.sl 9 xT kT) h'))(m nb:Nat)(K:AH)(s2:Nat)(hL:FrL (λz=>match z with|0=>m|_=>nb) K 2 s2 [(0,b0),(1,b1)])(hne:m≠nb):
  pM C0.P C0.G f [.ptr m 0] K s2 (λx h'=>x=.tup []∧ab5 (upd K nb none) m nb s2 c (.sl 2 xF kF) (.sl 2 xS kS) (.sl 9 xT kT) h'):=by
 have hi:UQ (λz=>match z with|0=>m|_=>nb) 2=true:=by
  have:Nat.beq m nb=false:=by rw[<-eJ];exact λe=>hne (aO e)
  simp[UQ,List.range,List.range.loop,this]
 have hr0:∀y, ¬y=m-> ¬y=nb->∀x,x<2->(λz=>match z with|0=>m|_=>nb) x≠y:=by
  intro y h1 h2 x _ e
  cases x with
  |zero=>exact h1 e.symm
  |succ x=>exact h2 e.symm
 refine H.frameL (λz=>match z with|0=>m|_=>nb) K s2 rfl hL hi rfl _ λr' h' hP=>?_;obtain⟨rfl,hP⟩:=hP;rcases hP with ⟨h0,rfl⟩|⟨b,A,B,k,hb,hl,rfl⟩
 ·refine⟨_,⟨rfl,.inl ⟨h0,rfl⟩⟩,λy blk hy=>?_⟩;by_cases he:y=m
  ·subst he;rw[dB]at hy;injection hy with hy;subst hy;exact .inl ⟨0,_,rfl,rfl,rfl⟩
  ·rw[cI _ _ he]at hy;by_cases hq:y=nb
   ·subst hq;rw[dB]at hy;cases hy
   ·rw[cI _ _ hq]at hy;exact .inr ⟨hy,hr0 y he hq⟩
 ·have hb2:b=1∨b=2:=oT;have key:∀bn,bn=Gg (λz=>match z with|0=>m|_=>nb) 2 s2 b->(bn=nb∨bn=s2)->∃K',((uW (Gg (λz=>match z with|0=>m|_=>nb) 2 s2) (.tup [])=.tup [])∧ab5 (upd K nb none) m nb s2 c (.sl 2 xF kF) (.sl 2 xS kS) (.sl 9 xT kT) K')∧∀y blk,K' y=some blk->(∃x blk0,heapF [(0,.box (mcX c (.osl b A.length c.agI.length k) (.sl 2 xF kF) (.sl 2 xS kS) (.sl 9 xT kT))),(b,.arr ((A++c.agI++B).map enL) 17)] x=some blk0∧y=Gg (λz=>match z with|0=>m|_=>nb) 2 s2 x∧blk=DI (Gg (λz=>match z with|0=>m|_=>nb) 2 s2) blk0)∨(K y=some blk∧∀x,x<2->(λz=>match z with|0=>m|_=>nb) x≠y):=by
   intro bn hbn hor;refine⟨_,⟨rfl,.inr ⟨bn,A,B,k,hor,hl,rfl⟩⟩,λy blk hy=>?_⟩;by_cases hs:y=bn
   ·subst hs;rw[dB]at hy;injection hy with hy;subst hy;refine .inl ⟨b,.arr ((A++c.agI++B).map enL) 17,?_,hbn,rfl⟩;rcases hb2 with rfl|rfl<;>rfl
   ·rw[cI _ _ hs]at hy;by_cases he:y=m
    ·subst he;rw[dB]at hy;injection hy with hy;subst hy;refine .inl ⟨0,_,rfl,rfl,?_⟩;rw[hbn];rfl
    ·rw[cI _ _ he]at hy;by_cases hq:y=nb
     ·subst hq;rw[dB]at hy;cases hy
     ·rw[cI _ _ hq]at hy;exact .inr ⟨hy,hr0 y he hq⟩
  rcases hb2 with rfl|rfl
  ·exact key nb rfl (.inl rfl)
  ·exact key s2 rfl (.inr rfl)
def Zn{f:FuncId}{b0:Blk}{n:Nat}{c:Co}{kF kS kT:Bool}{xF xS xT:List (List AV)}{rows:List (List AV)}(H:pM C0.P C0.G f [.ptr 0 0] (heapF [(0,b0)]) 1 (λx h'=>x=.tup []∧h'=heapF [(0,.box (mcX c (.osl 1 0 n false) (.sl 2 xF kF) (.sl 2 xS kS) (.sl 9 xT kT))),(1,.arr rows 17)]))(m:Nat)(K:AH)(s2:Nat)(hL:FrL (λ_=>m) K 1 s2 [(0,b0)]):
  pM C0.P C0.G f [.ptr m 0] K s2 (λx h'=>x=.tup []∧h'=upd (upd K m (some (.box (mcX c (.osl s2 0 n false) (.sl 2 xF kF) (.sl 2 xS kS) (.sl 9 xT kT))))) s2 (some (.arr rows 17))):=by
 refine H.frameL (λ_=>m) K s2 rfl hL rfl rfl _ λr' h' hP=>?_;obtain⟨rfl,rfl⟩:=hP;refine⟨_,⟨rfl,rfl⟩,λy blk hy=>?_⟩;by_cases hs:y=s2
 ·subst hs;rw[dB]at hy;injection hy with hy;subst hy;exact .inl ⟨1,_,rfl,(wD _ _ _).symm,rfl⟩
 rw[cI _ _ hs]at hy;by_cases he:y=m
 ·subst he;rw[dB]at hy;injection hy with hy;subst hy;exact .inl ⟨0,_,rfl,rfl,rfl⟩
 rw[cI _ _ he]at hy;exact .inr ⟨hy,λx _ e=>he e.symm⟩
def s0(c:Co):Co:={c with cycle:=wrap64 (c.cycle+1)}
def s1(c:Co):Co:=lM (s0 c)
def s2(c:Co):Co:=kK (s1 c)
def s3(c:Co):Co:=af7 (s2 c)
def s4(c:Co):Co:=gY (s3 c)
def s5(c:Co):Co:=lP (s4 c)
def s6(c:Co):Co:=eN (s5 c)
def s7(c:Co):Co:=tY (s6 c)
def TM(c:Co):ZJ c=s7 c:=rfl
def Zf{c:Co}{n:Nat}(h:c.okM n):(s0 c).okM n:=⟨⟨h.ok.agL,h.ok.prog,h.ok.progo,h.ok.r,h.ok.agM,h.ok.fet,h.ok.feto,h.ok.agI,h.ok.agX,h.ok.sto,h.ok.stoo,h.ok.data,h.ok.agO,h.ok.agS,h.ok.buso,h.ok.asked,h.ok.agT,h.ok.mem,h.ok.agK,h.ok.ret,h.ok.reto⟩,h.nb,h.cf,h.data,h.agO,h.agK,h.agI,h.fet,h.sto,h.prog,h.mem,h.std⟩
structure StepOk(c:Co)(n:Nat):Prop where
 k0:(s0 c).okM n
 k1:(s1 c).okM (n+1)
 k2:(s2 c).okM (n+1)
 k3:(s3 c).okM (n+5)
 k4:(s4 c).okM (n+7)
 k5:(s5 c).okM (n+7)
 k6:(s6 c).okM (n+8)
 k7:(s7 c).okM (n+10)
def Ql{c:Co}{n:Nat}(h:c.okM n)(hb:n+20<=890000):StepOk c n:=by
 have k0:=Zf h;have k1:(s1 c).okM (n+1):=LH k0 omT;have k2:(s2 c).okM (n+1):=LJ k1;have k3:(s3 c).okM (n+5):=Ih k2 omT;have k4:(s4 c).okM (n+7):=JX k3 omT;have k5:(s5 c).okM (n+7):=(Ai k4).1;have k6:(s6 c).okM (n+8):=(uX k5 omT).1;exact⟨k0,k1,k2,k3,k4,k5,k6,(wX k6 omT).1⟩
def xX{c:Co}{n:Nat}(h:c.ok n)(hb:n+20<=890000):(uG c).ok (n+10):=by
 unfold uG;split
 ·rename_i hr;rw[TM];exact(Ql (EL h omT hr) hb).k7.ok
 exact⟨h.agL,h.prog,h.progo,h.r,h.agM,h.fet,h.feto,h.agI,h.agX,h.sto,h.stoo,h.data,h.agO,aL h.agS omT,h.buso,h.asked,h.agT,h.mem,h.agK,aL h.ret omT,h.reto⟩
def Ie{c:Co}{R R' F F' S S' T T':AV}(hR:R=R')(hF:F=F')(hS:S=S')(hT:T=T'):some (Blk.box (mcX c R F S T))=some (Blk.box (mcX c R' F' S' T')):=by rw[hR,hF,hS,hT]
inductive Stg where
 |e0|o0|e1|o1|e2
 |o2 (A B:List Ent) (k:Bool)
 |e3
 |o3 (A B:List Ent) (k:Bool)
 |s4|s5|s6|s7
def ab1(c:Co)(nb:Nat)(hm:c.okM nb)(hne:c.agI≠[])(kR kF kS kT:Bool):pM C0.P C0.G 44 [.ptr 0 0] (heapF [(0,.box (mcX c (.sl 17 (c.agI.map enL) kR) (.sl 2 (c.agH.map ftL) kF) (.sl 2 (c.agF.map ptL) kS) (.sl 9 (c.agG.map spL) kT)))]) 1 (λx h'=>x=.tup []∧h'=heapF [(0,.box (mcX c (.osl 1 0 c.agI.length false) (.sl 2 (c.agH.map ftL) true) (.sl 2 (c.agF.map ptL) true) (.sl 9 (c.agG.map spL) true))),(1,.arr (c.agI.map enL) 17)]):=by
 obtain⟨e,l,hel⟩:=List.exists_cons_of_ne_nil hne;have hl:=hm.agI;rw[hel]at hl⊢;exact acR c nb hm e l hl kR kF kS kT
def WI(c:Co)(nb:Nat)(hm:c.okM nb)(A B:List Ent)(lo n:Nat)(kR:Bool)(hlo:A.length=lo)(hn:c.agI.length=n)(hA:A.length+n+B.length<=1000)(hAo:∀x∈A,x.ok)(hBo:∀x∈B,x.ok)(kS kT:Bool)(xS xT:List (List AV)):pM C0.P C0.G 46 [.ptr 0 0] (heapF [(0,.box (mcX c (.osl 1 lo n kR) (.sl 2 (c.agH.map ftL) true) (.sl 2 xS kS) (.sl 9 xT kT))),(1,.arr ((A++c.agI++B).map enL) 17)]) 2 (λx h'=>x=.tup []∧VF 2 (kK c) (.sl 2 ((kK c).agH.map ftL) true) (.sl 2 xS kS) (.sl 9 xT kT) h'):=by
 cases hw:yD (afD c)with
 |none=>exact WP c nb hm A B lo n kR hlo hn hA hAo hBo hw kS kT xS xT
 |some i=>exact WQ c nb hm A B lo n kR hlo hn hA hAo hBo i hw kS kT xS xT
def Qm{α:Type}{l m:List α}(h:l=[])(e:m.length=l.length):[]=m:=by
 subst h;exact(afC e).symm
def VB{b:Bool}(h:(!b)=true): ¬b=true:=by cases b<;>simp_all
def Zg(c:Co)(nb:Nat)(hok:c.ok nb)(hb:nb+20<=890000)(hr:jF c=false):bI C0 19 [.agg (coL c)] (.agg (coL (uG c))):=by
 refine dJZ func19 rfl<|zC (Ip c nb hok omT)<|aV rfl (λ_=>?_) (λh1=>by exact absurd (dQ (sI h1)) (by rw[hr];decide));refine qCN 0 rfl<|rSt rfl<|qRF 0 rfl ?_;rw[show uG c=c from dZ (by rw[hr];decide)];exact dK rfl tvT rfl rfl
noncomputable def ad8:Code->Code
 | .seq a _=>a
 |c=>c
noncomputable def WJ:Code->Code
 | .seq _ b=>b
 |c=>c
noncomputable def WK:Code:=(WJ (ad8 (WJ (WJ (WJ (WJ (WJ (WJ (Tryz.f19.body.getD .skip)))))))))
abbrev adK(c:Co):Stg->ASt:=λz_=>match z_ with| .e0=>⟨slotsF [(2,.ptr 1 0),(9,vB (!(jF c))),(3,.ptr 7 0),(21,.agg [.clo 45 [] [],.clo 46 [] [],.clo 47 [] [],.clo 48 [] [],.clo 49 [] [],.clo 50 [] [],.clo 51 [] []]),(22,vI 0)],heapF [(1,.box zCo),(7,.box (mcX (s0 c) (.sl 17 ([]) false) (.sl 2 ((s0 c).agH.map ftL) true) (.sl 2 ((s0 c).agF.map ptL) true) (.sl 9 ((s0 c).agG.map spL) true)))],23⟩| .o0=>⟨slotsF [(2,.ptr 1 0),(9,vB (!(jF c))),(3,.ptr 7 0),(21,.agg [.clo 45 [] [],.clo 46 [] [],.clo 47 [] [],.clo 48 [] [],.clo 49 [] [],.clo 50 [] [],.clo 51 [] []]),(22,vI 0)],heapF [(1,.box zCo),(7,.box (mcX (s0 c) (.osl 22 0 c.agI.length false) (.sl 2 ((s0 c).agH.map ftL) true) (.sl 2 ((s0 c).agF.map ptL) true) (.sl 9 ((s0 c).agG.map spL) true))),(22,.arr ((([]:List Ent)++(s0 c).agI++[]).map enL) 17)],23⟩| .e1=>⟨slotsF [(2,.ptr 1 0),(9,vB (!(jF c))),(3,.ptr 7 0),(21,.agg [.clo 45 [] [],.clo 46 [] [],.clo 47 [] [],.clo 48 [] [],.clo 49 [] [],.clo 50 [] [],.clo 51 [] []]),(22,vI 1)],heapF [(1,.box zCo),(7,.box (mcX (s1 c) (.sl 17 ([]) false) (.sl 2 ((s1 c).agH.map ftL) true) (.sl 2 ((s1 c).agF.map ptL) true) (.sl 9 ((s1 c).agG.map spL) true)))],23⟩| .o1=>⟨slotsF [(2,.ptr 1 0),(9,vB (!(jF c))),(3,.ptr 7 0),(21,.agg [.clo 45 [] [],.clo 46 [] [],.clo 47 [] [],.clo 48 [] [],.clo 49 [] [],.clo 50 [] [],.clo 51 [] []]),(22,vI 1)],heapF [(1,.box zCo),(7,.box (mcX (s1 c) (.osl 22 0 c.agI.length false) (.sl 2 ((s1 c).agH.map ftL) true) (.sl 2 ((s1 c).agF.map ptL) true) (.sl 9 ((s1 c).agG.map spL) true))),(22,.arr ((([]:List Ent)++(s1 c).agI++[]).map enL) 17)],23⟩| .e2=>⟨slotsF [(2,.ptr 1 0),(9,vB (!(jF c))),(3,.ptr 7 0),(21,.agg [.clo 45 [] [],.clo 46 [] [],.clo 47 [] [],.clo 48 [] [],.clo 49 [] [],.clo 50 [] [],.clo 51 [] []]),(22,vI 2)],heapF [(1,.box zCo),(7,.box (mcX (s2 c) (.sl 17 ([]) false) (.sl 2 ((s2 c).agH.map ftL) true) (.sl 2 ((s2 c).agF.map ptL) true) (.sl 9 ((s2 c).agG.map spL) true)))],23⟩| .o2 A B kk=>⟨slotsF [(2,.ptr 1 0),(9,vB (!(jF c))),(3,.ptr 7 0),(21,.agg [.clo 45 [] [],.clo 46 [] [],.clo 47 [] [],.clo 48 [] [],.clo 49 [] [],.clo 50 [] [],.clo 51 [] []]),(22,vI 2)],heapF [(1,.box zCo),(7,.box (mcX (s2 c) (.osl 22 A.length ((s2 c).agI.length) kk) (.sl 2 ((s2 c).agH.map ftL) true) (.sl 2 ((s2 c).agF.map ptL) true) (.sl 9 ((s2 c).agG.map spL) true))),(22,.arr ((A++(s2 c).agI++B).map enL) 17)],23⟩| .e3=>⟨slotsF [(2,.ptr 1 0),(9,vB (!(jF c))),(3,.ptr 7 0),(21,.agg [.clo 45 [] [],.clo 46 [] [],.clo 47 [] [],.clo 48 [] [],.clo 49 [] [],.clo 50 [] [],.clo 51 [] []]),(22,vI 3)],heapF [(1,.box zCo),(7,.box (mcX (s3 c) (.sl 17 ([]) false) (.sl 2 ((s3 c).agH.map ftL) true) (.sl 2 ((s3 c).agF.map ptL) false) (.sl 9 ((s3 c).agG.map spL) false)))],23⟩| .o3 A B kk=>⟨slotsF [(2,.ptr 1 0),(9,vB (!(jF c))),(3,.ptr 7 0),(21,.agg [.clo 45 [] [],.clo 46 [] [],.clo 47 [] [],.clo 48 [] [],.clo 49 [] [],.clo 50 [] [],.clo 51 [] []]),(22,vI 3)],heapF [(1,.box zCo),(7,.box (mcX (s3 c) (.osl 22 A.length ((s3 c).agI.length) kk) (.sl 2 ((s3 c).agH.map ftL) true) (.sl 2 ((s3 c).agF.map ptL) false) (.sl 9 ((s3 c).agG.map spL) false))),(22,.arr ((A++(s3 c).agI++B).map enL) 17)],23⟩| .s4=>⟨slotsF [(2,.ptr 1 0),(9,vB (!(jF c))),(3,.ptr 7 0),(21,.agg [.clo 45 [] [],.clo 46 [] [],.clo 47 [] [],.clo 48 [] [],.clo 49 [] [],.clo 50 [] [],.clo 51 [] []]),(22,vI 4)],heapF [(1,.box zCo),(7,.box (mcX (s4 c) (.sl 17 ((s4 c).agI.map enL) false) (.sl 2 ((s4 c).agH.map ftL) true) (.sl 2 ((s4 c).agF.map ptL) false) (.sl 9 ((s4 c).agG.map spL) false)))],23⟩| .s5=>⟨slotsF [(2,.ptr 1 0),(9,vB (!(jF c))),(3,.ptr 7 0),(21,.agg [.clo 45 [] [],.clo 46 [] [],.clo 47 [] [],.clo 48 [] [],.clo 49 [] [],.clo 50 [] [],.clo 51 [] []]),(22,vI 5)],heapF [(1,.box zCo),(7,.box (mcX (s5 c) (.sl 17 ((s5 c).agI.map enL) false) (.sl 2 ((s5 c).agH.map ftL) true) (.sl 2 ((s5 c).agF.map ptL) false) (.sl 9 ((s5 c).agG.map spL) false)))],23⟩| .s6=>⟨slotsF [(2,.ptr 1 0),(9,vB (!(jF c))),(3,.ptr 7 0),(21,.agg [.clo 45 [] [],.clo 46 [] [],.clo 47 [] [],.clo 48 [] [],.clo 49 [] [],.clo 50 [] [],.clo 51 [] []]),(22,vI 6)],heapF [(1,.box zCo),(7,.box (mcX (s6 c) (.sl 17 ((s6 c).agI.map enL) false) (.sl 2 ((s6 c).agH.map ftL) false) (.sl 2 ((s6 c).agF.map ptL) false) (.sl 9 ((s6 c).agG.map spL) false)))],23⟩| .s7=>⟨slotsF [(2,.ptr 1 0),(9,vB (!(jF c))),(3,.ptr 7 0),(21,.agg [.clo 45 [] [],.clo 46 [] [],.clo 47 [] [],.clo 48 [] [],.clo 49 [] [],.clo 50 [] [],.clo 51 [] []]),(22,vI 7)],heapF [(1,.box zCo),(7,.box (mcX (s7 c) (.sl 17 ((s7 c).agI.map enL) false) (.sl 2 ((s7 c).agH.map ftL) false) (.sl 2 ((s7 c).agF.map ptL) false) (.sl 9 ((s7 c).agG.map spL) false)))],23⟩
abbrev adL(c:Co):Stg->Prop:=λz_=>match z_ with| .e0=>(s0 c).agI=[]| .e1=>(s1 c).agI=[]| .e2=>(s2 c).agI=[]| .e3=>(s3 c).agI=[]| .o2 A B _=>A.length+(s2 c).agI.length+B.length<=1000| .o3 A B _=>A.length+(s3 c).agI.length+B.length<=1000|_=>True
abbrev ad9:Stg->Nat:=λz_=>match z_ with| .e0| .o0=>7| .e1| .o1=>6| .e2| .o2 _ _ _=>5| .e3| .o3 _ _ _=>4| .s4=>3| .s5=>2| .s6=>1| .s7=>0
def MJ(c:Co)(nb:Nat)(hm:c.okM nb)(hb:nb+20<=890000)(hk:StepOk c nb){Q:AEx->ASt->Prop}(hQ:∀st' σ',Weak st' ⟨slotsF [(2,.ptr 1 0),(3,.ptr 7 0)],heapF [(1,.box zCo),(7,.box (mcX (s7 c) (.sl 17 ((s7 c).agI.map enL) false) (.sl 2 ((s7 c).agH.map ftL) false) (.sl 2 ((s7 c).agF.map ptL) false) (.sl 9 ((s7 c).agG.map spL) false)))],23⟩ σ'->Q .normal st')(z0:Stg)(hz:adL c z0){st:ASt}(σ:Nat->Nat)(hW:Weak st (adK c z0) σ):eA C1 (bI C1) WK st Q:=by
 refine kO<|sX (κ:=Stg) (adK c) (adL c) ad9 z0 (σ) hW rfl hz ?_;intro z_ hq;rcases z_ with _|_|_|_|_|⟨A,B,kk⟩|_|⟨A,B,kk⟩|_|_|_|_
 ·have hG:(s0 c).agI=[]:=hq;refine cSR<|rV (vB true) rfl<|rE 24<|uR<|aV rfl (λ_=>?_) (λh=>by cases h);refine mF<|uR<|kO<|cSR<|nW (.clo 45 [] []) rfl rfl (⟨dT,dT⟩)<|oR 1 rfl<|rE 26<|cRg<|oR 1 rfl<|fU _ rfl rfl rfl ((WO (s0 c) nb hk.k0 hG true true true ((s0 c).agH.map ftL) ((s0 c).agG.map spL)).fB (λ_=>7)) ?_;rintro _ _ ⟨rfl,rfl⟩;refine rE 28<|cRg<|rV (vI 1) rfl<|oR 1 rfl<|rE 30<|.mk _ (.refl _) ⟨.e1,λi=>i,wOL _ wT ⟨⟨rfl,rfl,rfl⟩,⟨rfl,(Ie (c:=s1 c) rfl (af2 (λz:List Ft=>AV.sl 2 (z.map ftL) true) (show(s0 c).agH=(s1 c).agH from((rG (s0 c)).1).symm)) (af2 (λz:List Pt=>AV.sl 2 (z.map ptL) true) (show(s0 c).agF=(s1 c).agF from((rG (s0 c)).2.1).symm)) (af2 (λz:List Sp=>AV.sl 9 (z.map spL) true) (show(s0 c).agG=(s1 c).agG from((rG (s0 c)).2.2.1).symm))),rfl⟩,trivial⟩ rfl,rfl,(Qm hG (rG (s0 c)).2.2.2).symm,by show(6:Nat)<7;decide⟩
 ·refine cSR<|rV (vB true) rfl<|rE 24<|uR<|aV rfl (λ_=>?_) (λh=>by cases h);refine mF<|uR<|kO<|cSR<|nW (.clo 45 [] []) rfl rfl (⟨dT,dT⟩)<|oR 1 rfl<|rE 26<|cRg<|oR 1 rfl<|fU _ rfl rfl rfl ((Zp (s0 c) nb hk.k0 [] [] 0 c.agI.length false rfl rfl (by have:=hm.agI;simpa using this) true true true ((s0 c).agH.map ftL) ((s0 c).agG.map spL)).fB2 (λz=>match z with|0=>7|_=>22)) ?_;rintro _ _ ⟨rfl,rfl⟩;refine rE 28<|cRg<|rV (vI 1) rfl<|oR 1 rfl<|rE 30<|.mk _ (.refl _) ⟨.o1,λi=>i,wOL _ wT ⟨⟨rfl,rfl,rfl⟩,⟨rfl,(Ie (c:=s1 c) rfl (af2 (λz:List Ft=>AV.sl 2 (z.map ftL) true) (show(s0 c).agH=(s1 c).agH from((rG (s0 c)).1).symm)) (af2 (λz:List Pt=>AV.sl 2 (z.map ptL) true) (show(s0 c).agF=(s1 c).agF from((rG (s0 c)).2.1).symm)) (af2 (λz:List Sp=>AV.sl 9 (z.map spL) true) (show(s0 c).agG=(s1 c).agG from((rG (s0 c)).2.2.1).symm))),rfl⟩,⟨rfl,rfl,rfl⟩,trivial⟩ rfl,rfl,trivial,by show(6:Nat)<7;decide⟩
 ·have hG:(s1 c).agI=[]:=hq;refine cSR<|rV (vB true) rfl<|rE 24<|uR<|aV rfl (λ_=>?_) (λh=>by cases h);refine mF<|uR<|kO<|cSR<|nW (.clo 46 [] []) rfl rfl (⟨dT,dT⟩)<|oR 1 rfl<|rE 26<|cRg<|oR 1 rfl<|fU _ rfl rfl rfl (Qp (WR (s1 c) (nb+1) hk.k1 hG true true ((s1 c).agF.map ptL) ((s1 c).agG.map spL)) 7 _ _ ⟨⟨rfl,rfl,rfl,rfl⟩,trivial⟩) ?_;rintro _ _ ⟨rfl,⟨hz,rfl⟩|⟨_,A,B,kk,rfl|rfl,hl,rfl⟩⟩
  ·refine rE 28<|cRg<|rV (vI 2) rfl<|oR 1 rfl<|rE 30<|.mk _ (.refl _) ⟨.e2,λi=>i,wOL _ wT ⟨⟨rfl,rfl,rfl⟩,⟨rfl,(Ie (c:=s2 c) rfl rfl (af2 (λz:List Pt=>AV.sl 2 (z.map ptL) true) (show(s1 c).agF=(s2 c).agF from((mC (s1 c)).1).symm)) (af2 (λz:List Sp=>AV.sl 9 (z.map spL) true) (show(s1 c).agG=(s2 c).agG from((mC (s1 c)).2).symm))),rfl⟩,trivial⟩ rfl,rfl,hz,by show(5:Nat)<6;decide⟩
  all_goals (refine rE 28<|cRg<|rV (vI 2) rfl<|oR 1 rfl<|rE 30<|.mk _ (.refl _) ⟨(.o2 A B kk),λi=>match i with|22=>27|i=>i,wOL _ wT ⟨⟨rfl,rfl,rfl⟩,⟨rfl,(Ie (c:=s2 c) rfl rfl (af2 (λz:List Pt=>AV.sl 2 (z.map ptL) true) (show(s1 c).agF=(s2 c).agF from((mC (s1 c)).1).symm)) (af2 (λz:List Sp=>AV.sl 9 (z.map spL) true) (show(s1 c).agG=(s2 c).agG from((mC (s1 c)).2).symm))),rfl⟩,⟨rfl,rfl,rfl⟩,trivial⟩ rfl,rfl,hl,by show(5:Nat)<6;decide⟩)
 ·refine cSR<|rV (vB true) rfl<|rE 24<|uR<|aV rfl (λ_=>?_) (λh=>by cases h);refine mF<|uR<|kO<|cSR<|nW (.clo 46 [] []) rfl rfl (⟨dT,dT⟩)<|oR 1 rfl<|rE 26<|cRg<|oR 1 rfl<|fU _ rfl rfl rfl (Qq (WI (s1 c) (nb+1) hk.k1 [] [] 0 c.agI.length false rfl (rG (s0 c)).2.2.2 (by have:=hm.agI;simpa using this) (λx h=>by cases h) (λx h=>by cases h) true true ((s1 c).agF.map ptL) ((s1 c).agG.map spL)) 7 22 _ _ ⟨⟨rfl,rfl,rfl,rfl⟩,⟨rfl,rfl,rfl,rfl⟩,trivial⟩ dT) ?_;rintro _ _ ⟨rfl,⟨hz,rfl⟩|⟨_,A,B,kk,rfl|rfl,hl,rfl⟩⟩
  ·refine rE 28<|cRg<|rV (vI 2) rfl<|oR 1 rfl<|rE 30<|.mk _ (.refl _) ⟨.e2,λi=>i,wOL _ wT ⟨⟨rfl,rfl,rfl⟩,⟨rfl,(Ie (c:=s2 c) rfl rfl (af2 (λz:List Pt=>AV.sl 2 (z.map ptL) true) (show(s1 c).agF=(s2 c).agF from((mC (s1 c)).1).symm)) (af2 (λz:List Sp=>AV.sl 9 (z.map spL) true) (show(s1 c).agG=(s2 c).agG from((mC (s1 c)).2).symm))),rfl⟩,trivial⟩ rfl,rfl,hz,by show(5:Nat)<6;decide⟩
  ·refine rE 28<|cRg<|rV (vI 2) rfl<|oR 1 rfl<|rE 30<|.mk _ (.refl _) ⟨(.o2 A B kk),λi=>i,wOL _ wT ⟨⟨rfl,rfl,rfl⟩,⟨rfl,(Ie (c:=s2 c) rfl rfl (af2 (λz:List Pt=>AV.sl 2 (z.map ptL) true) (show(s1 c).agF=(s2 c).agF from((mC (s1 c)).1).symm)) (af2 (λz:List Sp=>AV.sl 9 (z.map spL) true) (show(s1 c).agG=(s2 c).agG from((mC (s1 c)).2).symm))),rfl⟩,⟨rfl,rfl,rfl⟩,trivial⟩ rfl,rfl,hl,by show(5:Nat)<6;decide⟩
  refine rE 28<|cRg<|rV (vI 2) rfl<|oR 1 rfl<|rE 30<|.mk _ (.refl _) ⟨(.o2 A B kk),λi=>match i with|22=>27|i=>i,wOL _ wT ⟨⟨rfl,rfl,rfl⟩,⟨rfl,(Ie (c:=s2 c) rfl rfl (af2 (λz:List Pt=>AV.sl 2 (z.map ptL) true) (show(s1 c).agF=(s2 c).agF from((mC (s1 c)).1).symm)) (af2 (λz:List Sp=>AV.sl 9 (z.map spL) true) (show(s1 c).agG=(s2 c).agG from((mC (s1 c)).2).symm))),rfl⟩,⟨rfl,rfl,rfl⟩,trivial⟩ rfl,rfl,hl,by show(5:Nat)<6;decide⟩
 ·have hG:(s2 c).agI=[]:=hq;refine cSR<|rV (vB true) rfl<|rE 24<|uR<|aV rfl (λ_=>?_) (λh=>by cases h);refine mF<|uR<|kO<|cSR<|nW (.clo 47 [] []) rfl rfl (⟨dT,dT⟩)<|oR 1 rfl<|rE 26<|cRg<|oR 1 rfl<|fU _ rfl rfl rfl (Qp (Qu (s2 c) (nb+1) hk.k2 hG) 7 _ _ ⟨⟨rfl,rfl,rfl,rfl⟩,trivial⟩) ?_;rintro _ _ ⟨rfl,⟨hz,rfl⟩|⟨_,A,B,kk,rfl|rfl,hl,rfl⟩⟩
  ·refine rE 28<|cRg<|rV (vI 3) rfl<|oR 1 rfl<|rE 30<|.mk _ (.refl _) ⟨.e3,λi=>i,wOL _ wT ⟨⟨rfl,rfl,rfl⟩,⟨rfl,(Ie (c:=s3 c) rfl rfl rfl rfl),rfl⟩,trivial⟩ rfl,rfl,hz,by show(4:Nat)<5;decide⟩
  all_goals (refine rE 28<|cRg<|rV (vI 3) rfl<|oR 1 rfl<|rE 30<|.mk _ (.refl _) ⟨(.o3 A B kk),λi=>match i with|22=>27|i=>i,wOL _ wT ⟨⟨rfl,rfl,rfl⟩,⟨rfl,(Ie (c:=s3 c) rfl rfl rfl rfl),rfl⟩,⟨rfl,rfl,rfl⟩,trivial⟩ rfl,rfl,hl,by show(4:Nat)<5;decide⟩)
 ·have hG:A.length+(s2 c).agI.length+B.length<=1000:=hq;refine cSR<|rV (vB true) rfl<|rE 24<|uR<|aV rfl (λ_=>?_) (λh=>by cases h);refine mF<|uR<|kO<|cSR<|nW (.clo 47 [] []) rfl rfl (⟨dT,dT⟩)<|oR 1 rfl<|rE 26<|cRg<|oR 1 rfl<|fU _ rfl rfl rfl (Qq (TW (s2 c) (nb+1) hk.k2 omT A B A.length (s2 c).agI.length kk rfl rfl hG) 7 22 _ _ ⟨⟨rfl,rfl,rfl,rfl⟩,⟨rfl,rfl,rfl,rfl⟩,trivial⟩ dT) ?_;rintro _ _ ⟨rfl,⟨hz,rfl⟩|⟨_,A,B,kk,rfl|rfl,hl,rfl⟩⟩
  ·refine rE 28<|cRg<|rV (vI 3) rfl<|oR 1 rfl<|rE 30<|.mk _ (.refl _) ⟨.e3,λi=>i,wOL _ wT ⟨⟨rfl,rfl,rfl⟩,⟨rfl,(Ie (c:=s3 c) rfl rfl rfl rfl),rfl⟩,trivial⟩ rfl,rfl,hz,by show(4:Nat)<5;decide⟩
  ·refine rE 28<|cRg<|rV (vI 3) rfl<|oR 1 rfl<|rE 30<|.mk _ (.refl _) ⟨(.o3 A B kk),λi=>i,wOL _ wT ⟨⟨rfl,rfl,rfl⟩,⟨rfl,(Ie (c:=s3 c) rfl rfl rfl rfl),rfl⟩,⟨rfl,rfl,rfl⟩,trivial⟩ rfl,rfl,hl,by show(4:Nat)<5;decide⟩
  refine rE 28<|cRg<|rV (vI 3) rfl<|oR 1 rfl<|rE 30<|.mk _ (.refl _) ⟨(.o3 A B kk),λi=>match i with|22=>27|i=>i,wOL _ wT ⟨⟨rfl,rfl,rfl⟩,⟨rfl,(Ie (c:=s3 c) rfl rfl rfl rfl),rfl⟩,⟨rfl,rfl,rfl⟩,trivial⟩ rfl,rfl,hl,by show(4:Nat)<5;decide⟩
 ·have hG:(s3 c).agI=[]:=hq;refine cSR<|rV (vB true) rfl<|rE 24<|uR<|aV rfl (λ_=>?_) (λh=>by cases h);refine mF<|uR<|kO<|cSR<|nW (.clo 48 [] []) rfl rfl (⟨dT,dT⟩)<|oR 1 rfl<|rE 26<|cRg<|oR 1 rfl<|fU _ rfl rfl rfl ((TX (s3 c) (nb+5) hk.k3 hG true false false ((s3 c).agH.map ftL) ((s3 c).agG.map spL)).fB (λ_=>7)) ?_;rintro _ _ ⟨rfl,rfl⟩;refine rE 28<|cRg<|rV (vI 4) rfl<|oR 1 rfl<|rE 30<|.mk _ (.refl _) ⟨.s4,λi=>i,wOL _ wT ⟨⟨rfl,rfl,rfl⟩,⟨rfl,(Ie (c:=s4 c) (af2 (λz:List Ent=>AV.sl 17 (z.map enL) false) (Qm hG (nO hk.k3 omT).1)) (af2 (λz:List Ft=>AV.sl 2 (z.map ftL) true) (show(s3 c).agH=(s4 c).agH from((nO hk.k3 omT).2.2.1).symm)) rfl (af2 (λz:List Sp=>AV.sl 9 (z.map spL) false) (show(s3 c).agG=(s4 c).agG from((nO hk.k3 omT).2.2.2).symm))),rfl⟩,trivial⟩ rfl,rfl,trivial,by show(3:Nat)<4;decide⟩
 ·have hG:A.length+(s3 c).agI.length+B.length<=1000:=hq;refine cSR<|rV (vB true) rfl<|rE 24<|uR<|aV rfl (λ_=>?_) (λh=>by cases h);refine mF<|uR<|kO<|cSR<|nW (.clo 48 [] []) rfl rfl (⟨dT,dT⟩)<|oR 1 rfl<|rE 26<|cRg<|oR 1 rfl<|fU _ rfl rfl rfl ((WU (s3 c) (nb+5) hk.k3 omT A B A.length (s3 c).agI.length kk true false false ((s3 c).agH.map ftL) ((s3 c).agG.map spL) rfl rfl hG).fB2 (λz=>match z with|0=>7|_=>22)) ?_;rintro _ _ ⟨rfl,rfl⟩;refine rE 28<|cRg<|rV (vI 4) rfl<|oR 1 rfl<|rE 30<|.mk _ (.step (some (22,17,(A++(s4 c).agI++B).map enL)) (gOL (l:=[(2,.ptr 1 0),(9,vB (!(jF c))),(3,.ptr 7 0),(21,.agg [.clo 45 [] [],.clo 46 [] [],.clo 47 [] [],.clo 48 [] [],.clo 49 [] [],.clo 50 [] [],.clo 51 [] []]),(22,vI 4)]) (hp:=[(1,.box zCo),(7,.box (mcX (s4 c) (.sl 17 ((((A++(s4 c).agI++B).drop A.length).take (s3 c).agI.length).map enL) false) (.sl 2 ((s3 c).agH.map ftL) true) (.sl 2 ((s4 c).agF.map ptL) false) (.sl 9 ((s3 c).agG.map spL) false)))]) rfl rfT ⟨⟨rfl,_,rfl,.refl _⟩,⟨rfl,_,rfl,LeB.boxL (qQ (Iy (by simp only[aU];have:=(nO hk.k3 omT).1;show A.length+(s3 c).agI.length<=A.length+(gY (s3 c)).agI.length+B.length;omega)) (.refl _) (.refl _) (.refl _))⟩,trivial⟩) (.refl _)) ⟨.s4,λi=>i,wOL _ wT ⟨⟨rfl,rfl,rfl⟩,⟨rfl,(Ie (c:=s4 c) (af2 (λz:List Ent=>AV.sl 17 (z.map enL) false) (Qs rfl (nO hk.k3 omT).1)) (af2 (λz:List Ft=>AV.sl 2 (z.map ftL) true) (show(s3 c).agH=(s4 c).agH from((nO hk.k3 omT).2.2.1).symm)) rfl (af2 (λz:List Sp=>AV.sl 9 (z.map spL) false) (show(s3 c).agG=(s4 c).agG from((nO hk.k3 omT).2.2.2).symm))),rfl⟩,trivial⟩ rfl,rfl,trivial,by show(3:Nat)<4;decide⟩
 ·refine cSR<|rV (vB true) rfl<|rE 24<|uR<|aV rfl (λ_=>?_) (λh=>by cases h);refine mF<|uR<|kO<|cSR<|nW (.clo 49 [] []) rfl rfl (⟨dT,dT⟩)<|oR 1 rfl<|rE 26<|cRg<|oR 1 rfl<|fU _ rfl rfl rfl ((WW (s4 c) (nb+7) hk.k4 false ((s4 c).agF.map ptL) false ((s4 c).agG.map spL)).fB (λ_=>7)) ?_;rintro _ _ ⟨rfl,rfl⟩;refine rE 28<|cRg<|rV (vI 5) rfl<|oR 1 rfl<|rE 30<|.mk _ (.refl _) ⟨.s5,λi=>i,wOL _ wT ⟨⟨rfl,rfl,rfl⟩,⟨rfl,(Ie (c:=s5 c) rfl rfl (af2 (λz:List Pt=>AV.sl 2 (z.map ptL) false) (show(s4 c).agF=(s5 c).agF from((Ai hk.k4).2.1).symm)) (af2 (λz:List Sp=>AV.sl 9 (z.map spL) false) (show(s4 c).agG=(s5 c).agG from((Ai hk.k4).2.2).symm))),rfl⟩,trivial⟩ rfl,rfl,trivial,by show(2:Nat)<3;decide⟩
 ·refine cSR<|rV (vB true) rfl<|rE 24<|uR<|aV rfl (λ_=>?_) (λh=>by cases h);refine mF<|uR<|kO<|cSR<|nW (.clo 50 [] []) rfl rfl (⟨dT,dT⟩)<|oR 1 rfl<|rE 26<|cRg<|oR 1 rfl<|fU _ rfl rfl rfl ((TZ (s5 c) (nb+7) hk.k5 false ((s5 c).agI.map enL) false ((s5 c).agF.map ptL) false ((s5 c).agG.map spL)).fB (λ_=>7)) ?_;rintro _ _ ⟨rfl,rfl⟩;refine rE 28<|cRg<|rV (vI 6) rfl<|oR 1 rfl<|rE 30<|.mk _ (.refl _) ⟨.s6,λi=>i,wOL _ wT ⟨⟨rfl,rfl,rfl⟩,⟨rfl,(Ie (c:=s6 c) (af2 (λz:List Ent=>AV.sl 17 (z.map enL) false) (show(s5 c).agI=(s6 c).agI from((uX hk.k5 omT).2.2.2).symm)) rfl (af2 (λz:List Pt=>AV.sl 2 (z.map ptL) false) (show(s5 c).agF=(s6 c).agF from((uX hk.k5 omT).2.1).symm)) (af2 (λz:List Sp=>AV.sl 9 (z.map spL) false) (show(s5 c).agG=(s6 c).agG from((uX hk.k5 omT).2.2.1).symm))),rfl⟩,trivial⟩ rfl,rfl,trivial,by show(1:Nat)<2;decide⟩
 ·refine cSR<|rV (vB true) rfl<|rE 24<|uR<|aV rfl (λ_=>?_) (λh=>by cases h);refine mF<|uR<|kO<|cSR<|nW (.clo 51 [] []) rfl rfl (⟨dT,dT⟩)<|oR 1 rfl<|rE 26<|cRg<|oR 1 rfl<|fU _ rfl rfl rfl ((WY (s6 c) (nb+8) hk.k6 omT false ((s6 c).agI.map enL) false ((s6 c).agH.map ftL) false ((s6 c).agG.map spL)).fB (λ_=>7)) ?_;rintro _ _ ⟨rfl,rfl⟩;refine rE 28<|cRg<|rV (vI 7) rfl<|oR 1 rfl<|rE 30<|.mk _ (.refl _) ⟨.s7,λi=>i,wOL _ wT ⟨⟨rfl,rfl,rfl⟩,⟨rfl,(Ie (c:=s7 c) (af2 (λz:List Ent=>AV.sl 17 (z.map enL) false) (show(s6 c).agI=(s7 c).agI from((wX hk.k6 omT).2.2.2).symm)) (af2 (λz:List Ft=>AV.sl 2 (z.map ftL) false) (show(s6 c).agH=(s7 c).agH from((wX hk.k6 omT).2.1).symm)) rfl (af2 (λz:List Sp=>AV.sl 9 (z.map spL) false) (show(s6 c).agG=(s7 c).agG from((wX hk.k6 omT).2.2.1).symm))),rfl⟩,trivial⟩ rfl,rfl,trivial,by show(0:Nat)<1;decide⟩
 refine cSR<|rV (vB false) rfl<|rE 24<|uR<|aV rfl (λh=>by cases h) (λ_=>?_);refine Bh ?_;exact hQ _ (λs=>s) (wOL (λs=>s) wT wH rfl)
def Zh(c:Co)(nb:Nat)(hok:c.ok nb)(hb:nb+20<=890000)(hr:jF c=true)(h0:c.agI=[]):bI C0 19 [.agg (coL c)] (.agg (coL (uG c))):=by
 refine dJ func19 ?_;have hm:=EL hok omT hr;have hk:=Ql hm hb;refine cSR<|rAl 0 rfl rfl<|rAl 1 rfl rfl<|rE 2<|uR<|cSR<|oR 1 rfl<|rCi rfl (Ip c nb hok omT)<|oR 1 rfl<|rE 5<|aV rfl (λh1=>by exact absurd hr (VB h1)) (λ_=>?_);refine mF<|cSR<|oR 1 rfl<|rV (.agg (coL c)) rfl<|rAl 7 rfl rfl<|rSt rfl<|rE 9<|cSR<|fU _ rfl rfl rfl ((show pM C0.P C0.G 44 [.ptr 0 0] (heapF [(0,.box (mcX c (.sl 17 (c.agI.map enL) false) (.sl 2 (c.agH.map ftL) false) (.sl 2 (c.agF.map ptL) false) (.sl 9 (c.agG.map spL) false)))]) 1 _ from by rw[h0];exact acQ c nb hm false false false false).fB (λ_=>7)) ?_;rintro _ _ ⟨rfl,rfl⟩;refine rE 10<|cSR<|oR 3 rfl<|rW (vI (wrap64 (c.cycle+1))) rfl (okI (w64 _))<|oR 2 rfl<|rSt rfl<|rE 17<|cSR<|rV (.agg [.clo 45 [] [],.clo 46 [] [],.clo 47 [] [],.clo 48 [] [],.clo 49 [] [],.clo 50 [] [],.clo 51 [] []]) rfl<|rAl 18 rfl rfl<|rSt rfl<|rE 20<|Fq (κ:=Unit) (λu_=>⟨slotsF [(2,.ptr 1 0),(3,.ptr 7 0)],heapF [(1,.box zCo),(7,.box (mcX (s7 c) (.sl 17 ((s7 c).agI.map enL) false) (.sl 2 ((s7 c).agH.map ftL) false) (.sl 2 ((s7 c).agF.map ptL) false) (.sl 9 ((s7 c).agG.map spL) false)))],23⟩) (λu_=>True) ?_ ?_
 ·refine cSR<|oR 2 rfl<|rE 22<|MJ c nb hm hb hk ?_ .e0 h0 (λs=>s) (wOL (λs=>s) wT wH rfl);intro st' σ h;exact .mk _ (.refl _) ⟨(),σ,h,rfl,trivial⟩
 intro u_ _;refine cSR<|oR 2 rfl<|rSt rfl<|rE 26<|FQ ?_;rw[show uG c=s7 c from af1 hr];exact dK rfl tvT rfl rfl
def Zi(c:Co)(nb:Nat)(hok:c.ok nb)(hb:nb+20<=890000)(hr:jF c=true)(hne:c.agI≠[]):bI C0 19 [.agg (coL c)] (.agg (coL (uG c))):=by
 refine dJ func19 ?_;have hm:=EL hok omT hr;have hk:=Ql hm hb;refine cSR<|rAl 0 rfl rfl<|rAl 1 rfl rfl<|rE 2<|uR<|cSR<|oR 1 rfl<|rCi rfl (Ip c nb hok omT)<|oR 1 rfl<|rE 5<|aV rfl (λh1=>by exact absurd hr (VB h1)) (λ_=>?_);refine mF<|cSR<|oR 1 rfl<|rV (.agg (coL c)) rfl<|rAl 7 rfl rfl<|rSt rfl<|rE 9<|cSR<|fU _ rfl rfl rfl (Zn (ab1 c nb hm hne false false false false) 7 _ _ ⟨⟨rfl,rfl,rfl,rfl⟩,trivial⟩) ?_;rintro _ _ ⟨rfl,rfl⟩;refine rE 10<|cSR<|oR 3 rfl<|rW (vI (wrap64 (c.cycle+1))) rfl (okI (w64 _))<|oR 2 rfl<|rSt rfl<|rE 17<|cSR<|rV (.agg [.clo 45 [] [],.clo 46 [] [],.clo 47 [] [],.clo 48 [] [],.clo 49 [] [],.clo 50 [] [],.clo 51 [] []]) rfl<|rAl 18 rfl rfl<|rSt rfl<|rE 20<|Fq (κ:=Unit) (λu_=>⟨slotsF [(2,.ptr 1 0),(3,.ptr 7 0)],heapF [(1,.box zCo),(7,.box (mcX (s7 c) (.sl 17 ((s7 c).agI.map enL) false) (.sl 2 ((s7 c).agH.map ftL) false) (.sl 2 ((s7 c).agF.map ptL) false) (.sl 9 ((s7 c).agG.map spL) false)))],23⟩) (λu_=>True) ?_ ?_
 ·refine cSR<|oR 2 rfl<|rE 22<|MJ c nb hm hb hk ?_ .o0 trivial (λi=>match i with|22=>9|i=>i) (wOL (λi=>match i with|22=>9|i=>i) wT ⟨⟨rfl,rfl,rfl⟩,⟨rfl,rfl,rfl⟩,⟨rfl,(by show some (Blk.arr (c.agI.map enL) 17)=some (Blk.arr (([]++c.agI++[]).map enL) 17);rw[iA,dY]),rfl⟩,trivial⟩ rfl);intro st' σ h;exact .mk _ (.refl _) ⟨(),σ,h,rfl,trivial⟩
 intro u_ _;refine cSR<|oR 2 rfl<|rSt rfl<|rE 26<|FQ ?_;rw[show uG c=s7 c from af1 hr];exact dK rfl tvT rfl rfl
def Zj(c:Co)(nb:Nat)(hok:c.ok nb)(hb:nb+20<=890000):bI C0 19 [.agg (coL c)] (.agg (coL (uG c))):=by
 cases hr:jF c with
 |false=>exact Zg c nb hok hb hr
 |true=>
  by_cases h0:c.agI=[]
  ·exact Zh c nb hok hb hr h0
  ·exact Zi c nb hok hb hr h0
def Cd(n:Int):Nat:=(min n 2000).toNat
def Qk(a b:Int):(if b<a then b else a)=min a b:=by split<;>omega
def MI(a b:Int):(CZ a b).ok:=by
 unfold CZ;refine⟨?_,λs hs=>?_⟩
 ·have h:(if bV a 1 4=3 then 2 else bV a 1 4).toNat<=4:=by unfold bV;(repeat' split)<;>omega
  show(List.replicate _ _).length<=_;rw[cM];omega
 rw[gK hs];exact⟨aE _,λx hx=>by cases hx⟩
def TL:ZT.ok:=by
 refine⟨dT,dT,dT,?_,?_⟩
 ·intro x hx;have:x=⟨0,0⟩:=gK (n:=8) hx;subst this;exact⟨aE _,aE _⟩
 intro x hx;cases hx
def Id(c:Cf)(prog:List Nat)(m:ByteArray)(hc:c.ok)(hp:∀x∈prog,x<=4294967295):(fX c prog m).ok 0:=by
 have hm:(jB m).size<=256:=by
  rw[wE];unfold upS;repeat' split
  all_goals omega
 have hl:(prog.take (min prog.length 64)).length<=9223372036854775807:=by rw[aM];omega
 refine⟨⟨aL (QT c) dT,aL (OL c) dT,Iq hc.tp⟩,hl,zD (P:=λx=>x<=4294967295) hp,λ_=>aE _,aE _,aE _,(λx hx=>by cases hx),aE _,(λx hx=>by cases hx),aE _,(λx hx=>by cases hx),MI _ _,MI _ _,aE _,(λx hx=>by cases hx),(by show(0:Int)<=9223372036854775807;decide),(by show(0:Int)<=9223372036854775807;decide),?_,TL,aE _,(λx hx=>by cases hx)⟩;show(jB m).size<=1000000;omega
theorem wW{c:Co}{n:Nat}(h:c.ok n):∀k,n+10*k+20<=890000->(uN c k).ok (n+10*k)
 |0,_=>h
 |k+1,hb=>by
  have ih:=xX (wW h k omT) omT;rw[(oT:n+10*(k+1)=n+10*k+10)];exact ih
open Go.RowKit Go.ChangeShapes Go.WideShapes Go.ChangeAt Go.Deep
def TK{n:Int}(h:(Lit.int .u32 n).wf=true):∃m:Nat,n=m∧m<=4294967295:=by
 simp only[Lit.wf,IntKind.min,IntKind.max,IntKind.signed,IntKind.bits,aP,aY]at h;simp at h;exact⟨n.toNat,oT,oT⟩
def Cc{cs:List AV}(h:TyV Tryz.prog 3 cs):∃n:Int,cs=[.v (.int .i64 n)]∧True:=by
 have hu:=underlying3
 cases h with
 |int h n hn=>rw[hu]at h;injection h with h;injection h with h;subst h;exact⟨n,rfl,trivial⟩
 |bool h=>rw[hu]at h;cases h
 |string h=>rw[hu]at h;cases h
 |slice h=>rw[hu]at h;cases h
 |struct h=>rw[hu]at h;cases h
 |array h=>rw[hu]at h;cases h
def Ze{cs:List AV}(h:TyV Tryz.prog 31 cs):∃n:Nat,cs=[.v (.int .u32 (n:Int))]∧n<=4294967295:=by
 have hu:=underlying31
 cases h with
 |int h n hn=>
  rw[hu]at h;injection h with h;injection h with h;subst h;obtain⟨m,rfl,hm⟩:=TK hn
  exact⟨m,rfl,hm⟩
 |bool h=>rw[hu]at h;cases h
 |string h=>rw[hu]at h;cases h
 |slice h=>rw[hu]at h;cases h
 |struct h=>rw[hu]at h;cases h
 |array h=>rw[hu]at h;cases h
def WC{cs:List AV}(h:TyV Tryz.prog 4 cs):∃b:Bool,cs=[.v (.bool b)]∧True:=by
 have hu:=underlying4
 cases h with
 |bool h b=>exact⟨b,rfl,trivial⟩
 |int h=>rw[hu]at h;cases h
 |string h=>rw[hu]at h;cases h
 |slice h=>rw[hu]at h;cases h
 |struct h=>rw[hu]at h;cases h
 |array h=>rw[hu]at h;cases h
theorem Qf{α:Type}{f:α->List AV}{p:α->Prop}:∀(rows:List (List AV)),(∀row∈rows,∃x,row=f x∧p x)->∃l:List α,rows=l.map f∧l.length=rows.length∧∀x∈l,p x
 |[],_=>⟨[],rfl,rfl,λx h=>by cases h⟩
 |row::rows,h=>by
  obtain⟨x,rfl,hx⟩:=h row (bT);obtain⟨l,rfl,hl,hp⟩:=Qf rows λr hr=>h r (bY _ hr);exact⟨x::l,rfl,by simp,λy hy=>by rcases al_List_mem_cons.1 hy with rfl|hy;exact hx;exact hp y hy⟩
def MH{α:Type}{t e:TypeId}{k:Nat}{f:α->List AV}{p:α->Prop}(hu:Tryz.prog.underlying t=some (.slice e))(hk:Tryz.prog.cellsOf e=k)(hrow:∀row,TyV Tryz.prog e row->∃x,row=f x∧p x){cs:List AV}(h:TyV Tryz.prog t cs):
  ∃l:List α,cs=[.sl k (l.map f) false]∧l.length<=9223372036854775807∧∀x∈l,p x:=by
 cases h with
 |slice h rows hl hr hrs=>
  rw[hu]at h;injection h with h;injection h with h;subst h;subst hk;obtain⟨l,rfl,h1,h2⟩:=Qf rows λrow hrow'=>hrow row (hr row hrow')
  exact⟨l,rfl,aL (Nat.le_of_eq h1) (aL hl dT),h2⟩
 |int h=>rw[hu]at h;cases h
 |bool h=>rw[hu]at h;cases h
 |string h=>rw[hu]at h;cases h
 |struct h=>rw[hu]at h;cases h
 |array h=>rw[hu]at h;cases h
def WD(row:List AV)(h:TyV Tryz.prog 31 row):∃n:Nat,row=dU n∧n<=4294967295:=Ze h
def WE(row:List AV)(h:TyV Tryz.prog 3 row):∃n:Int,row=ae4 n∧True:=Cc h
def Qg{cs:List AV}(h:TyV Tryz.prog 23 cs):∃l:List Nat,cs=[.sl 1 (l.map dU) false]∧l.length<=9223372036854775807∧∀x∈l,(λn:Nat=>n<=4294967295) x:=
 MH (f:=dU) (p:=(λn:Nat=>n<=4294967295)) underlying23 (by kernel_rfl) (λrow hr=>WD _ hr) h
def WF{cs:List AV}(h:TyV Tryz.prog 22 cs):∃l:List Int,cs=[.sl 1 (l.map ae4) false]∧l.length<=9223372036854775807∧∀x∈l,(λ(_:Int)=>True) x:=
 MH (f:=ae4) (p:=(λ(_:Int)=>True)) underlying22 (by kernel_rfl) (λrow hr=>WE _ hr) h
def WG{cs:List AV}(h:TyV Tryz.prog 25 cs):∃x:Cf,cs=cfL x false false∧x.okW:=by
 have hu:=underlying25
 cases h with
 |bool h=>rw[hu]at h;cases h
 |int h=>rw[hu]at h;cases h
 |string h=>rw[hu]at h;cases h
 |slice h=>rw[hu]at h;cases h
 |array h=>rw[hu]at h;cases h
 |struct h parts hp=>
  rw[hu]at h;injection h with h;injection h with h;subst h;obtain⟨x0,e0,p0⟩:=Cc (hp 0 _ rfl);obtain⟨x1,e1,p1⟩:=Cc (hp 1 _ rfl);obtain⟨x2,e2,p2⟩:=Cc (hp 2 _ rfl);obtain⟨x3,e3,p3⟩:=Cc (hp 3 _ rfl);obtain⟨x4,e4,p4⟩:=Cc (hp 4 _ rfl);obtain⟨x5,e5,p5⟩:=Cc (hp 5 _ rfl);obtain⟨x6,e6,p6⟩:=Cc (hp 6 _ rfl);obtain⟨x7,e7,p7⟩:=Cc (hp 7 _ rfl);obtain⟨x8,e8,p8⟩:=WF (hp 8 _ rfl);obtain⟨x9,e9,p9⟩:=WC (hp 9 _ rfl);obtain⟨x10,e10,p10⟩:=Qg (hp 10 _ rfl);refine⟨⟨x0,x1,x2,x3,x4,x5,x6,x7,x8,x9,x10⟩,?_,⟨p8.1,p10.1,p10.2⟩⟩;show parts 0++(parts 1++(parts 2++(parts 3++(parts 4++(parts 5++(parts 6++(parts 7++(parts 8++(parts 9++(parts 10++[]))))))))))=_;rw[e0,e1,e2,e3,e4,e5,e6,e7,e8,e9,e10];rfl
structure Co.okA(c:Co):Prop where
 agL:c.agL.okW
 prog:c.prog.length<=9223372036854775807
 progo:∀x∈c.prog,x<=4294967295
 r:∀k,c.r k<=4294967295
 agM:c.agM<=4294967295
 fet:c.agH.length<=9223372036854775807
 feto:∀x∈c.agH,x.ok
 agI:c.agI.length<=9223372036854775807
 agX:∀x∈c.agI,x.ok
 sto:c.agF.length<=9223372036854775807
 stoo:∀x∈c.agF,x.ok
 data:c.data.ok
 agO:c.agO.ok
 agS:c.agS.length<=9223372036854775807
 buso:∀x∈c.agS,x.ok
 asked:c.asked<=9223372036854775807
 agT:c.agT<=9223372036854775807
 mem:c.mem.size<=9223372036854775807
 agK:c.agK.ok
 ret:c.agG.length<=9223372036854775807
 reto:∀x∈c.agG,x.ok
def Qh{H:Type}{enc:TypeId×Value->H}{w:World}{base:Nat}{spare:Nat->Bool}{held:Bool}{r:Reach}{b0:Nat}{v:Value}{d:DataW H}{p:List MemPlace}
  (hv:Value.okWide Tryz.prog w r b0 25 v) (h:DataW.Trod enc Tryz.prog w base spare held 25 v d p):
  ∃c:Cf,Rep (· <w.heap.size) w noB (.agg (cfL c false false)) v∧c.okW:=by
 obtain⟨cs,rfl,hsz⟩:=okWide_struct underlying25 hv;obtain⟨fuel,hf⟩:=h;obtain⟨cells,ho⟩:=vT 6 fuel _ _ _ hf (by kernel_rfl);obtain⟨c,rfl,hc⟩:=WG ho.ty;refine⟨c,.agg _ cs ?_ (λi u hu=>ho.one u ?_) (λi a u h1 h2=>ho.rep.2 i a u h1 ?_),hc⟩
 ·exact ho.rep.1
 ·exact Jt.2 (nI hu)
 show cs.toList[i]?=some u;rw[bQ];exact h2
def Qi{H:Type}{enc:TypeId×Value->H}{w:World}{base:Nat}{spare:Nat->Bool}{held:Bool}{r:Reach}{b0:Nat}{v:Value}{d:DataW H}{p:List MemPlace}
  (hv:Value.okWide Tryz.prog w r b0 23 v) (h:DataW.Trod enc Tryz.prog w base spare held 23 v d p):
  ∃l:List Nat,(∀x∈l,x<=4294967295)∧l.length<=9223372036854775807∧Rep (· <w.heap.size) w noB (.sl 1 (l.map dU) false) v:=by
 obtain⟨a0,len,cap,rfl⟩:=okWide_slice underlying23 hv;obtain⟨fuel,hf⟩:=h;obtain⟨cs,ho⟩:=vT 3 fuel _ _ _ hf (by kernel_rfl);obtain⟨l,rfl,h1,h2⟩:=Qg ho.ty;exact⟨l,h2,h1,ho.rep.2 0 _ _ rfl rfl⟩
def Qj{w:World}(h:EE w):0<w.heap.size:=by
 have:=h 0 dT;unfold World.cell? at this
 cases hq:w.heap[0]? with
 |none=>simp[hq]at this
 |some o=>exact(DP.1 hq).1
theorem bI.law{f:FuncId}{args:List AV}{vs:List Value}{w:World}(h:bI C0 f args (.v (.bool true)))(hC:EE w)(ha:RepL (· <w.heap.size) w noB args vs):
  Calls Tryz.prog f vs.toArray w λe w'=>e=.returned (.bool true)∧Below w.heap.size w w':=
 (h.2 (· <w.heap.size) w vs (λ_ h=>h) (aeM hC (Qj hC)) ha).mono λe w' ⟨v,h1,h2,h3⟩=>⟨by rw[h1,lV h3],h2⟩
open Go.RowKit Go.ChangeShapes Go.WideShapes
def Vc{P:Program}{w:World}{r:Reach}{base:Nat}{t:TypeId}{v:Value}(ht:P.underlying t=some .string)(h:Value.okWide P w r base t v):∃s,v=.string s∧s.size<9223372036854775808:=by
 obtain⟨s,rfl⟩:=okWide_string ht h;refine⟨s,rfl,?_⟩;have h2:IntKind.i64.max=9223372036854775807:=rfl;have h3:(s.size:Int)<=IntKind.i64.max:=by simpa [Value.okWide,Cell.okWide,Cell.ok,ht]using h
 omega
def stV(s:St):Value:=.agg ((stL s.pc s.r s.mem s.halt).map unV).toArray
def spV(x:Sp):Value:=.agg ((spL x).map unV).toArray
def aaS(x:St×Sp):Array Value:= #[stV x.1,spV x.2]
def Sg{r:Nat->Nat}(h:∀k,r k<=4294967295){v:Nat}(hv:v<=4294967295)(n:Nat):∀k,setR r n v k<=4294967295:=by
 intro k;unfold setR;split
 ·exact hv
 exact h k
def Ml{m:ByteArray}{agZ:Nat}{b:ByteArray}(h:agZ+b.size<=m.size):(DD m agZ b).size=m.size:=by
 show(DD m agZ b).data.size=m.data.size;have h':agZ+b.data.size<=m.data.size:=h;simp only[DD,kP,aU,aM,bD,cV];show min agZ m.data.size+b.data.size+(m.data.size-(agZ+b.data.size))=m.data.size;omega
def Bb{s:St}(h:s.ok)(why:Int)(agZ:Nat):(Gc s why agZ).1.ok:=⟨h.pc,h.r,h.mem⟩
def Sh{s:St}(h:s.ok){i:SI}{a b nx:Nat}{tk:Int}(hi:i.agR<=4294967295)(ha:a<=4294967295)(hb:b<=4294967295)(hn:nx<=4294967295):(IJ s i a b nx tk).1.ok:=by
 unfold IJ;split
 ·exact⟨hn,h.r,h.mem⟩
 exact⟨hn,Sg h.r (aI (Rp i.op i.agR s.pc a b (bG hi) (bG ha) (bG hb))) _,h.mem⟩
def Vh{prog:List Nat}{s:St}(h:s.ok):(gE prog s).1.ok:=by
 unfold gE;split
 ·split
  ·split
   ·exact Bb h _ _
   have hd:=IK (fetchW prog s.pc);have hi:(rA prog s).agR<=4294967295:=aI hd.2.2.2.2.2.2;unfold doI;split
   ·exact Bb h _ _
   split
   ·exact Bb h _ _
   split
   ·unfold sN;split
    ·rename_i hr;have hq:=sQ hr;split
     ·exact⟨uT _,h.r,by rw[Ml (by rw[mP];exact hq.1)];exact h.mem⟩
     split
     ·exact⟨uT _,h.r,h.mem⟩
     exact⟨uT _,Sg h.r (MT _ _) _,h.mem⟩
    exact Bb h _ _
   unfold oN;split
   ·split
    ·exact Sh h hi (h.r _) (h.r _) (aI (Ed _ _ _ _ _))
    exact Bb h _ _
   exact Sh h hi (h.r _) (h.r _) (uT _)
  exact Bb h _ _
 exact h
def Wc{ev:Operand->AV}{h:AH}{s b n v:Nat}{a x:Operand}{pc:Nat}{r:Nat->Nat}{m:ByteArray}{hl:Int}(ha:ev a=.ptr b (1+n*1))(hb:h b=some (.box (stL pc r m hl)))(hx:ev x=.v (.int .u32 (v:Int)))(hn:n<32):
  opA C1 ev h s (.store 31 a x)=.fx True .any (upd h b (some (.box (stL pc (setR r n v) m hl)))):=stR (s:=s) ha hb hx hn
def stN(prog:List Nat)(s:St):Nat->St
 |0=>s
 |k+1=>(gE prog (stN prog s k)).1
theorem Si{prog:List Nat}{s:St}(h:s.ok):∀k,(stN prog s k).ok
 |0=>h
 |k+1=>Vh (Si h k)
theorem Sj(prog:List Nat)(s:St):∀k,stN prog (gE prog s).1 k=stN prog s (k+1)
 |0=>rfl
 |k+1=>af2 (λz=>(gE prog z).1) (Sj prog s k)
def xsN(prog:List Nat)(s:St)(k:Nat):List (St×Sp):=(List.range k).map λi=>gE prog (stN prog s i)
def KW(prog:List Nat)(s:St)(k:Nat):xsN prog s k++[gE prog (stN prog s k)]=xsN prog s (k+1):=by
 unfold xsN;rw[gZ,dH];rfl
def afO(prog:List Nat)(s:St)(k:Nat):(xsN prog s k).length=k:=by unfold xsN;rw[aH,fV]
def Yg{prog:List Nat}{s:St}{k n:Nat}(h:k<=n):xsN prog s k <+: xsN prog s n:=by
 have e:xsN prog s k=(xsN prog s n).take k:=by unfold xsN;rw[<-eO,List.take_range,kD h]
 rw[e];exact List.take_prefix _ _
def cntN(prog:List Nat):Nat->St->Nat
 |0,_=>0
 |n+1,s=>if s.halt=0 then cntN prog n (gE prog s).1+1 else 0
theorem AB(prog:List Nat):∀n s,cntN prog n s<=n
 |0,_=>aC 0
 |n+1,s=>by
  have:=AB prog n (gE prog s).1;unfold cntN;split<;>omega
theorem Hd{prog:List Nat}:∀{n:Nat} {s:St} {k:Nat},k<cntN prog n s->(stN prog s k).halt=0
 |0,s,k,h=>absurd h (dG k)
 | n+1,s,k,h=>by
  unfold cntN at h;split at h
  ·rename_i h0
   cases k with
   |zero=>exact h0
   |succ k=>rw[<-Sj];exact Hd (n:=n) omT
  ·omega
theorem Dj{prog:List Nat}:∀{n:Nat} {s:St},cntN prog n s<n->(stN prog s (cntN prog n s)).halt≠0
 |0,s,h=>absurd h (dG _)
 | n+1,s,h=>by
  unfold cntN at h⊢;split at h
  ·rename_i h0;rw[af1 h0, <-Sj];exact Dj omT
  ·rename_i h0;rw[dZ h0];exact h0
def Vi{prog:List Nat}{n:Nat}{s:St}{k:Nat}(h:k<=cntN prog n s)(h1:k<n)(h2:(stN prog s k).halt=0):k<cntN prog n s:=by
 rcases al_Nat_lt_or_ge k (cntN prog n s)with h3|h3
 ·exact h3
 have e:k=cntN prog n s:=oT;exact absurd h2 (e ▸ Dj omT)
def aaT{prog:List Nat}{n:Nat}{s:St}{k:Nat}(h:k<=cntN prog n s)(h1: ¬(k<n∧(stN prog s k).halt=0)):k=cntN prog n s:=by
 rcases al_Nat_lt_or_ge k (cntN prog n s)with h3|h3
 ·exact absurd ⟨af3 h3 (AB ..),Hd h3⟩ h1
 omega
def vD{a b:Bool}(h:cE a b false=true):a=true∧b=true:=by cases a<;>cases b<;>simp[cE]at h⊢
def Sk{a b:Bool}(h:cE a b false=false): ¬(a=true∧b=true):=by cases a<;>cases b<;>simp[cE]at h⊢
def afP(s:St)(l:List (St×Sp)):St:=(l.getLast?.map (·.1)).getD s
def NT(s:St)(l:List (St×Sp))(x:St×Sp):afP s (l++[x])=x.1:=by unfold afP;rw[List.getLast?_concat];rfl
def Jj(prog:List Nat)(s:St)(k:Nat):afP s (xsN prog s k)=stN prog s k:=by
 cases k with
 |zero=>rfl
 |succ k=>rw[<-KW,NT];rfl
def Mm(s:St)(why:Int)(hs:s.ok):bI C0 164 [stA s,.v (.int .i64 why)] (two (Gc s why 0)):=by
 refine dJZ func164 rfl ?_;refine zV (.agg [.v (.int .u32 ((s.pc:Nat):Int)),.v (.int .u32 ((s.pc:Nat):Int)),.v (.int .i64 0),.v (.int .u32 0),.v (.int .u32 0),.v (.int .i64 0),.v (.bool false),.v (.int .i64 why),.v (.int .i64 0)]) ?_;refine pO rfl rfl<|oR 2 rfl<|rSt rfl<|rSt rfl<|rE 18<|And.intro (by kernel_rfl)<|qXF 0 rfl ?_;exact qY rfl trivial rfl rfl
def Sm(s:St)(i:SI)(a b:Nat)(hs:s.ok)(hi:i.agR<=4294967295)(ha:a<=4294967295)(hb:b<=4294967295)(hw0:0<=wr i)(hw:wr i<32):bI C0 165 [stA s,siA i,.v (.int .u32 (a:Int)),.v (.int .u32 (b:Int))] (two (sN s i a b)):=by
 refine dJZ func165 rfl ?_;refine zR<|zV (.v (.int .u32 ((addrOf i a:Nat):Int)))<|zC (Gd i) ?_;refine rCi rfl (pS i)<|zW _ (okB (eqN _ _))<|zV (.v (.int .i64 (s.mem.size:Int)))<|zC (GY _ _ _ (oH hs.mem) (bG (Ay i a))) ?_;refine zB rfl (λh1=>?_) (λh1=>?_)
 ·skip
  refine zB rfl (λh2=>?_) (λh2=>?_)
  ·refine zC (Mm s (5) hs) ?_;refine pO rfl rfl<|oR 2 rfl<|rSt rfl<|rSt rfl<|rE 43<|And.intro (by kernel_rfl)<|qXF 0 rfl ?_;exact fT rfl (by unfold sN;rw[dZ (sU h1),af1 (sU h2)];rfl)
  refine zC (Mm s (4) hs) ?_;refine pO rfl rfl<|oR 2 rfl<|rSt rfl<|rSt rfl<|rE 42<|And.intro (by kernel_rfl)<|qXF 0 rfl ?_;exact fT rfl (by unfold sN;rw[dZ (sU h1),dZ (sU h2)];rfl)
 refine zR<|zV (.v (.int .u32 ((up4 s.pc:Nat):Int)))<|zC (Da i)<|zV (.agg [.v (.int .u32 ((s.pc:Nat):Int)),.v (.int .u32 ((up4 s.pc:Nat):Int)),.v (.int .i64 (wr i)),.v (.int .u32 0),.v (.int .u32 ((addrOf i a:Nat):Int)),.v (.int .i64 ((sizeOf' i.op:Nat):Int)),.v (.bool ((kindOf i.op)==4)),.v (.int .i64 0),.v (.int .i64 0)]) ?_;refine zB rfl (λh3=>?_) (λh3=>?_)
 ·refine zC (Nv b (sizeOf' i.op) (bG hb) (lQ i.op))<|zC (ZV _ (by rw[mP];exact lQ i.op))<|zC (aaA _ _ _ (by rw[mP];simpa using h1) hs.mem (Ay i a)) ?_;refine pO rfl rfl<|oR 2 rfl<|rSt rfl<|rSt rfl<|rE 70<|And.intro (by kernel_rfl)<|qXF 0 rfl ?_;exact fT rfl (by unfold sN;rw[af1 (sU h1),af1 (sU h3)];rfl)
 refine zV (.v (.bool ((wr i) != 0))) ?_;refine zB rfl (λh4=>?_) (λh4=>?_)
 ·refine zC (acM _ _ _ (sU h1) hs.mem (Ay i a))<|zC (ZW _ _ (UJ hs.mem _ _))<|nW (.ptr 0 (1+(wr i).toNat*1)) rfl rfl omT ?_;refine Ow (h':=upd _ 0 (some (.box (stL s.pc (setR s.r ((wr i).toNat) (loadP i.op (Cv s.mem (addrOf i a) (sizeOf' i.op)))) s.mem s.halt)))) rfl rfl (Wc (n:=(wr i).toNat) (v:=loadP i.op (Cv s.mem (addrOf i a) (sizeOf' i.op))) (r:=s.r) rfl rfl rfl omT) (trivial)<|qRC 0 rfl<|pO rfl rfl<|oR 2 rfl<|rSt rfl<|rSt rfl<|rE 71<|And.intro (by kernel_rfl)<|qXF 0 rfl ?_;exact fT rfl (by unfold sN;rw[af1 (sU h1),dZ (sU h3),dZ (sU h4)];rfl)
 refine pO rfl rfl<|oR 2 rfl<|rSt rfl<|rSt rfl<|rE 48<|And.intro (by kernel_rfl)<|qXF 0 rfl ?_;exact fT rfl (by unfold sN;rw[af1 (sU h1),dZ (sU h3),af1 (sU h4)];rfl)
def Yh(s:St)(i:SI)(a b:Nat)(hs:s.ok)(hi:i.agR<=4294967295)(ha:a<=4294967295)(hb:b<=4294967295)(hw0:0<=wr i)(hw:wr i<32):bI C0 166 [stA s,siA i,.v (.int .u32 (a:Int)),.v (.int .u32 (b:Int))] (two (oN s i a b)):=by
 refine dJZ func166 rfl ?_;refine zR<|zV (.v (.int .u32 ((up4 s.pc:Nat):Int)))<|zC (Da i)<|zV (.agg [.v (.int .u32 ((s.pc:Nat):Int)),.v (.int .u32 ((up4 s.pc:Nat):Int)),.v (.int .i64 (wr i)),.v (.int .u32 0),.v (.int .u32 0),.v (.int .i64 0),.v (.bool false),.v (.int .i64 0),.v (.int .i64 0)]) ?_;refine zC (pS i)<|zWB (okB (eqN _ _)) (λh1=>?_) (λh1=>?_)
 ·refine zC (LW i _ _ _ (bG hi) (bG hs.pc) (bG ha) (bG hb)) ?_;refine zB rfl (λh2=>?_) (λh2=>?_)
  ·refine zC (Mm s (3) hs) ?_;exact fT rfl (by unfold oN IJ;rw[af1 (sU h1),dZ (sU h2)];rfl)
  refine zV (.v (.bool ((wr i) != 0))) ?_;refine zB rfl (λh3=>?_) (λh3=>?_)
  ·refine zC (Nu i _ _ _ (bG hi) (bG hs.pc) (bG ha) (bG hb))<|nW (.ptr 0 (1+(wr i).toNat*1)) rfl rfl omT<|Ow (h':=upd _ 0 (some (.box (stL s.pc (setR s.r ((wr i).toNat) (BF i.op i.agR s.pc a b)) s.mem s.halt)))) rfl rfl (Wc (n:=(wr i).toNat) (v:=BF i.op i.agR s.pc a b) (r:=s.r) rfl rfl rfl omT) (trivial) ?_;refine qRC 0 rfl<|pO rfl rfl<|oR 2 rfl<|rSt rfl<|rSt rfl<|rE 60<|And.intro (by kernel_rfl)<|qXF 0 rfl ?_;exact fT rfl (by unfold oN IJ;rw[af1 (sU h1),af1 (sU h2),dZ (sU h3)];rfl)
  refine pO rfl rfl<|oR 2 rfl<|rSt rfl<|rSt rfl<|rE 45<|And.intro (by kernel_rfl)<|qXF 0 rfl ?_;exact fT rfl (by unfold oN IJ;rw[af1 (sU h1),af1 (sU h2),af1 (sU h3)];rfl)
 refine zWB (okB (eqN _ _)) (λh4=>?_) (λh4=>?_)
 ·refine zC (Xz _ _ _ (bG ha) (bG hb))<|zV (.v (.bool ((wr i) != 0))) ?_;refine zB rfl (λh5=>?_) (λh5=>?_)
  ·refine zC (Nu i _ _ _ (bG hi) (bG hs.pc) (bG ha) (bG hb))<|nW (.ptr 0 (1+(wr i).toNat*1)) rfl rfl omT<|Ow (h':=upd _ 0 (some (.box (stL s.pc (setR s.r ((wr i).toNat) (BF i.op i.agR s.pc a b)) s.mem s.halt)))) rfl rfl (Wc (n:=(wr i).toNat) (v:=BF i.op i.agR s.pc a b) (r:=s.r) rfl rfl rfl omT) (trivial) ?_;refine qRC 0 rfl<|pO rfl rfl<|oR 2 rfl<|rSt rfl<|rSt rfl<|rE 53<|And.intro (by kernel_rfl)<|qXF 0 rfl ?_;exact fT rfl (by unfold oN IJ;rw[dZ (sU h1),dZ (sU h5),af1 (sU h4)];rfl)
  refine pO rfl rfl<|oR 2 rfl<|rSt rfl<|rSt rfl<|rE 38<|And.intro (by kernel_rfl)<|qXF 0 rfl ?_;exact fT rfl (by unfold oN IJ;rw[dZ (sU h1),af1 (sU h5),af1 (sU h4)];rfl)
 refine zV (.v (.bool ((wr i) != 0))) ?_;refine zB rfl (λh6=>?_) (λh6=>?_)
 ·refine zC (Nu i _ _ _ (bG hi) (bG hs.pc) (bG ha) (bG hb))<|nW (.ptr 0 (1+(wr i).toNat*1)) rfl rfl omT<|Ow (h':=upd _ 0 (some (.box (stL s.pc (setR s.r ((wr i).toNat) (BF i.op i.agR s.pc a b)) s.mem s.halt)))) rfl rfl (Wc (n:=(wr i).toNat) (v:=BF i.op i.agR s.pc a b) (r:=s.r) rfl rfl rfl omT) (trivial) ?_;refine qRC 0 rfl<|pO rfl rfl<|oR 2 rfl<|rSt rfl<|rSt rfl<|rE 46<|And.intro (by kernel_rfl)<|qXF 0 rfl ?_;exact fT rfl (by unfold oN IJ;rw[dZ (sU h1),dZ (sU h6),dZ (sU h4)];rfl)
 refine pO rfl rfl<|oR 2 rfl<|rSt rfl<|rSt rfl<|rE 31<|And.intro (by kernel_rfl)<|qXF 0 rfl ?_;exact fT rfl (by unfold oN IJ;rw[dZ (sU h1),af1 (sU h6),dZ (sU h4)];rfl)
def Yi(prog:List Nat)(s:St)(clip:Bool)(hp:∀x∈prog,x<=4294967295)(hl:prog.length<=1000000)(hs:s.ok):bI C0 132 [.sl 1 (prog.map dU) clip,stA s] (two (gE prog s)):=by
 refine dJ func132 ?_;have hd:0<=(rA prog s).rd∧(rA prog s).rd<32∧0<=(rA prog s).ag0∧(rA prog s).ag0<32∧0<=(rA prog s).ag1∧(rA prog s).ag1<32∧(rA prog s).agR<=4294967295:=by have:=IK (fetchW prog s.pc);exact⟨this.1,this.2.1,this.2.2.1,this.2.2.2.1,this.2.2.2.2.1,this.2.2.2.2.2.1,aI this.2.2.2.2.2.2⟩
 have hv:=ZU (fetchW prog s.pc);refine qS 0 rfl<|rV (.v (.bool (s.halt != 0))) rfl ?_;refine qRC 0 rfl<|aV rfl (λh1=>?_) (λh1=>?_)
 ·refine qC 0 rfl<|rV (.agg [.v (.int .u32 0),.v (.int .u32 0),.v (.int .i64 0),.v (.int .u32 0),.v (.int .u32 0),.v (.int .i64 0),.v (.bool false),.v (.int .i64 0),.v (.int .i64 0)]) rfl<|qRF 0 rfl ?_;exact fT rfl (by unfold gE doI;rw[dZ (sU h1)];rfl)
 refine qC 0 rfl<|rCi rfl (ND prog s.pc clip hp hl hs.pc) ?_;refine qRC 0 rfl<|aV rfl (λh2=>?_) (λh2=>?_)
 ·refine qC 0 rfl<|rCi rfl (Mm s (1) hs)<|qRF 0 rfl ?_;exact fT rfl (by unfold gE doI;rw[af1 (sU h1),dZ (sU h2)];rfl)
 refine qC 0 rfl<|rCi rfl (IV _ (bG (KE hp s.pc)))<|qR 0 rfl<|rW _ rfl (okB (neN _ _)) ?_;refine qRC 0 rfl<|aV rfl (λh3=>?_) (λh3=>?_)
 ·refine qC 0 rfl<|rCi rfl (Mm s (2) hs)<|qRF 0 rfl ?_;exact fT rfl (by unfold gE doI;rw[af1 (sU h1),af1 (sU h2),af1 ((Dd _).1 h3)];rfl)
 refine qC 0 rfl<|rV (.v (.bool (((rA prog s).op)==47))) rfl ?_;refine qRC 0 rfl<|aV rfl (λh4=>?_) (λh4=>?_)
 ·refine qC 0 rfl<|rCi rfl (Mm s (6) hs)<|qRF 0 rfl ?_;exact fT rfl (by unfold gE doI;rw[af1 (sU h1),af1 (sU h2),dZ (λe=>by rw[(Dd _).2 e]at h3;cases h3),af1 (sU h4)];rfl)
 refine qC 0 rfl<|rV (.v (.bool (((rA prog s).op)==48))) rfl ?_;refine qRC 0 rfl<|aV rfl (λh5=>?_) (λh5=>?_)
 ·refine qC 0 rfl<|rCi rfl (Mm s (7) hs)<|qRF 0 rfl ?_;exact fT rfl (by unfold gE doI;rw[af1 (sU h1),af1 (sU h2),dZ (λe=>by rw[(Dd _).2 e]at h3;cases h3),dZ (sU h4),af1 (sU h5)];rfl)
 refine qC 0 rfl<|rCi rfl (Fs (rA prog s))<|qRC 0 rfl<|cRg<|oR 2 rfl<|nW (.ptr 0 (1+((rA prog s).ag0).toNat*1)) rfl rfl omT<|rW _ rfl (ldR s.pc s.r s.mem s.halt (((rA prog s).ag0).toNat) omT)<|oR 2 rfl<|nW (.ptr 0 (1+((rA prog s).ag1).toNat*1)) rfl rfl omT<|rW _ rfl (ldR s.pc s.r s.mem s.halt (((rA prog s).ag1).toNat) omT)<|oR 2 rfl ?_;refine rE 50<|qX 0 rfl<|rCi rfl (pS (rA prog s))<|qR 0 rfl<|rW _ rfl (okB (eqN _ _)) ?_;refine qRC 0 rfl<|aV rfl (λh6=>?_) (λh6=>?_)
 ·skip
  refine qCC 0 rfl<|aV rfl (λ_=>?_) (λh7=>Bool.noConfusion (h6.symm.trans h7));refine qC 0 rfl<|rCi rfl (Sm s (rA prog s) (s.r (rA prog s).ag0.toNat) (s.r (rA prog s).ag1.toNat) hs hd.2.2.2.2.2.2 (hs.r _) (hs.r _) hv.1 hv.2)<|qRF 0 rfl ?_;exact fT rfl (by unfold gE doI;rw[af1 (sU h1),af1 (sU h2),dZ (λe=>by rw[(Dd _).2 e]at h3;cases h3),dZ (sU h4),dZ (sU h5),af1 (by simp at h6;first|exact .inl h6|exact .inr h6)];rfl)
 refine qC 0 rfl<|rW _ rfl (okB (eqN _ _)) ?_;refine qRC 0 rfl<|aV rfl (λh8=>?_) (λh8=>?_)
 ·refine qC 0 rfl<|rCi rfl (Sm s (rA prog s) (s.r (rA prog s).ag0.toNat) (s.r (rA prog s).ag1.toNat) hs hd.2.2.2.2.2.2 (hs.r _) (hs.r _) hv.1 hv.2)<|qRF 0 rfl ?_;exact fT rfl (by unfold gE doI;rw[af1 (sU h1),af1 (sU h2),dZ (λe=>by rw[(Dd _).2 e]at h3;cases h3),dZ (sU h4),dZ (sU h5),af1 (by simp at h8;first|exact .inl h8|exact .inr h8)];rfl)
 refine qC 0 rfl<|rCi rfl (Yh s (rA prog s) (s.r (rA prog s).ag0.toNat) (s.r (rA prog s).ag1.toNat) hs hd.2.2.2.2.2.2 (hs.r _) (hs.r _) hv.1 hv.2)<|qRF 0 rfl ?_;exact fT rfl (by unfold gE doI;rw[af1 (sU h1),af1 (sU h2),dZ (λe=>by rw[(Dd _).2 e]at h3;cases h3),dZ (sU h4),dZ (sU h5),dZ (by simp at h6 h8;omega)];rfl)
def aaU(prog:List Nat)(s0:St)(n:Int)(ck:Bool)(hp:∀x∈prog,x<=4294967295)(hl:prog.length<=1000)(hs:s0.ok)(hn:n<=10000):RN C0 131 [.dp 35 0 (stL s0.pc s0.r s0.mem s0.halt),.dp 1 0 [vI n],.dp 1 0 [.sl 1 (prog.map dU) ck]] aaS (xsN prog s0 (cntN prog n.toNat s0)):=by
 refine RN.intro c0Ok func131 rfl rfl (by kernel_rfl) rfl ?_;intro y;refine rQ<|nU rfl<|cRg<|oR 1 rfl<|rAl 1 rfl rfl<|rSt rfl<|rE 3<|rQ<|nU rfl<|cRg<|oR 1 rfl<|rE 4<|AA<|NH (κ:=Nat) (λk=>⟨slotsF [(0,.v y),(1,.dp 35 0 (stL s0.pc s0.r s0.mem s0.halt)),(2,.dp 1 0 ([vI n])),(3,.dp 1 0 ([.sl 1 (prog.map dU) ck])),(5,.ptr 0 0),(6,vN k)],heapF [(0,.box (stL (stN prog s0 k).pc (stN prog s0 k).r (stN prog s0 k).mem (stN prog s0 k).halt))],1⟩) (λk=>xsN prog s0 k) (λk=>k<=cntN prog n.toNat s0) (λk=>cntN prog n.toNat s0-k) 0 (λs=>match s with|0=>1|s=>s) (wOL (λs=>match s with|0=>1|s=>s) wT wH rfl) rfl (rfl) (aE _) ?_;intro k hk;have hkc:k<=cntN prog n.toNat s0:=hk;have hcl:=AB prog n.toNat s0;have hkB:k<=10000:=oT;refine rQ<|rQ<|nU rfl<|cRg<|oR 2 rfl<|rV (vB (decide ((k:Int)<n))) rfl<|oR 1 rfl<|gN rfl<|gS rfl id<|gBS (x:=vB (((stN prog s0 k).halt)==0)) rfl id rfl<|bO rfl rfl rfl (λh=>h)<|rE 9 ?_;refine Cz (v:=cE (decide ((k:Int)<n)) (((stN prog s0 k).halt)==0) false) rfl (λh1=>?_) (λh1=>?_)
 ·have hk1:k<cntN prog n.toNat s0:=Vi hkc (oH (af0 (vD h1).1)) (mT (vD h1).2);refine nU rfl<|mF<|rQ<|AA<|rQ<|nU rfl<|cRg<|oR 2 rfl<|rCi rfl (Yi prog (stN prog s0 k) ck hp omT (Si hs k))<|oR 3 rfl<|rAl 15 rfl rfl<|rAl 16 rfl rfl<|rSt rfl<|rSt rfl<|rE 19<|rQ ?_;refine nU rfl<|cRg<|oR 1 rfl<|rSt rfl<|rE 21<|rQ<|NI rfl 3 rfl rfl rfl<|oR 3 rfl<|rE 24 ?_;refine⟨(gE prog (stN prog s0 k)),_,⟨slotsF [(0,.v y),(1,.dp 35 0 (stL s0.pc s0.r s0.mem s0.halt)),(2,.dp 1 0 ([vI n])),(3,.dp 1 0 ([.sl 1 (prog.map dU) ck])),(6,vN k),(5,.ptr 0 0),(27,.v y),(28,.agg (stL ((gE prog (stN prog s0 k)).1).pc ((gE prog (stN prog s0 k)).1).r ((gE prog (stN prog s0 k)).1).mem ((gE prog (stN prog s0 k)).1).halt)),(29,.agg (spL ((gE prog (stN prog s0 k)).2)))],heapF [(0,.box (stL (stN prog s0 (k+1)).pc (stN prog s0 (k+1)).r (stN prog s0 (k+1)).mem (stN prog s0 (k+1)).halt))],1⟩,λs=>match s with|0=>0|s=>s,wOL _ wT wH rfl,rfl,rfl,rfl,rfl,rfl,rfl,(by rw[KW];exact Yg hk1),λyb1=>?_⟩;refine oR 1 rfl<|rE 26 ?_;refine Cz (v:= !yb1) rfl (λh2=>?_) (λh2=>?_)
  ·refine nU rfl<|FQ ?_;intro hs;rw[h2]at hs;cases hs
  refine nU rfl<|mF<|nU rfl<|cRg<|oR 1 rfl ?_;have b1:k+1<=10001:=aD hkB (aC 1);refine rW _ rfl (okI (bH b1 rfl))<|oR 1 rfl<|rE 29 ?_;refine⟨h2,k+1,λs=>s,wOL _ wT wH rfl,rfl,(KW prog s0 k).symm,hk1,(by show cntN prog n.toNat s0-(k+1)<cntN prog n.toNat s0-k;omega)⟩
 have hke:k=cntN prog n.toNat s0:=aaT hkc λq=>Sk h1 ⟨jP omT,sU q.2⟩;refine nU rfl<|Bh ?_;intro _;rw[hke]
def newSt(m:ByteArray):St:=⟨0,λ_=>0,jB m,0⟩
def Jk(m:ByteArray):(newSt m).ok:=⟨aE _,λ_=>aE _,by show(jB m).size<=256;rw[wE];exact(RA _)⟩
def aaV(prog:List Nat)(s0:St)(n:Int)(ck:Bool)(hp:∀x∈prog,x<=4294967295)(hl:prog.length<=1000)(hs:s0.ok):bI C0 73 [.sl 1 (prog.map dU) ck,stA s0,vI n] (.clo 131 [] [.dp 35 0 (stL s0.pc s0.r s0.mem s0.halt),.dp 1 0 [vI n],.dp 1 0 [.sl 1 (prog.map dU) ck]]):=by
 refine dIZ func73 rfl ?_;refine zV (.clo 131 [] [.ptr 1 0,.ptr 2 0,.ptr 0 0]) ?_;exact dK rfl tvT rfl rfl
def aaW(prog:List Nat)(m:ByteArray)(n:Int)(ck:Bool)(hp:∀x∈prog,x<=4294967295)(hl:prog.length<=1000):bI C0 38 [.sl 1 (prog.map dU) ck,.v (.string m),vI n] (.tup [stA (afP (newSt m) (xsN prog (newSt m) (cntN prog (min n 10000).toNat (newSt m)))),.sl 9 (((xsN prog (newSt m) (cntN prog (min n 10000).toNat (newSt m))).map Prod.snd).map spL) false]):=by
 refine dc1 (bI.introR (C:=C1) (λd=>c1Ok.wd d) (λn=>c1Ok.at) func38 rfl rfl (by kernel_rfl) rfl ?_);refine uO<|tQ rfl<|cRg<|rAl 0 rfl rfl<|oR 1 rfl<|rE 2<|uO<|tQ rfl<|cRg<|oR 2 rfl<|rCi rfl (aeO _ m)<|rAl 5 rfl rfl<|rSt rfl<|rE 7<|uO<|tQ rfl ?_;refine cRg<|rAl 7 rfl rfl<|rE 8<|uO<|uO<|tQ rfl<|cRg<|oR 3 rfl<|rW _ rfl (okI (Qk n 10000))<|rCi rfl (aaV prog (newSt m) (min n 10000) ck hp hl (Jk m))<|rE 13<|Ja ?_;refine Md (.mk _ (.refl _) ⟨⟨slotsF [(6,.ptr 0 0),(8,.ptr 1 0),(9,.ptr 2 0),(19,.clo 131 [] [.dp 35 0 (stL (newSt m).pc (newSt m).r (newSt m).mem (newSt m).halt),.dp 1 0 ([vI (min n 10000)]),.dp 1 0 ([.sl 1 (prog.map dU) ck])])],heapF [(0,.box (stL 0 (λ_=>0) (⟨#[]⟩:ByteArray) 0)),(1,.box (stL (newSt m).pc (newSt m).r (newSt m).mem (newSt m).halt)),(2,.box [.sl 0 ([]) true])],3⟩,λs=>match s with|0=>0|1=>5|2=>7|s=>s,wOL _ wT wH rfl,rfl,?_⟩);refine .mk (St×Sp) 131 [.dp 35 0 (stL (newSt m).pc (newSt m).r (newSt m).mem (newSt m).halt),.dp 1 0 ([vI (min n 10000)]),.dp 1 0 ([.sl 1 (prog.map dU) ck])] (λx:St×Sp=>[stA x.1,spA x.2]) aaS (xsN prog (newSt m) (cntN prog (min n 10000).toNat (newSt m))) (λ_=>True) 3 (λpre=>match pre with|[]=>heapF [(0,.box (stL 0 (λ_=>0) (⟨#[]⟩:ByteArray) 0)),(1,.box (stL (newSt m).pc (newSt m).r (newSt m).mem (newSt m).halt)),(2,.box [.sl 0 ([]) true])]|y_::l_=>heapF [(0,.box (stL 0 (λ_=>0) (⟨#[]⟩:ByteArray) 0)),(1,.box (stL (afP (newSt m) (y_::l_)).pc (afP (newSt m) (y_::l_)).r (afP (newSt m) (y_::l_)).mem (afP (newSt m) (y_::l_)).halt)),(2,.box [.osl 3 0 ((y_::l_).length) false]),(3,.arr (((y_::l_).map Prod.snd).map spL) 9)]) (λpre=>match pre with|[]=>3|_::_=>4) rfl rfl ⟨_,func131,rfl,rfl⟩ (aaU prog (newSt m) (min n 10000) ck hp hl (Jk m) omT) (λx S w β=>BL (show Ju [stA x.1,spA x.2]=some _ from rfl)) (λ_=>rfl) rfl rfl (λpre=>by cases pre<;>rfl) (wOL (hp:=[]) (λs=>s) wT trivial rfl) ?_ ?_
 ·intro pre_ x hp_ hN_;rcases pre_ with _|⟨y_,l_⟩
  ·refine cSR<|rAl 3 rfl rfl<|rSt rfl<|rE 5<|cRg<|rAl 5 rfl rfl<|rSt rfl<|rE 7 ?_;refine⟨rfl,?_⟩;refine kO<|cSR<|oR 1 rfl<|rSt rfl<|rE 9<|cRg<|oR 2 rfl<|rV (.sl 9 ([[vU x.2.pc,vU x.2.next,vI x.2.rd,vU x.2.value,vU x.2.agZ,vI x.2.size,vB x.2.store,vI x.2.halt,vI x.2.agV]]) true) rfl<|rFx (x:=.osl 12 0 1 false) (h':=upd _ 12 (some (.arr (([x.2]).map spL) 9))) rfl rfl (Iw omT) (⟨rfl,by exact omT,by exact omT,trivial⟩)<|rSt rfl<|rE 14 ?_;exact⟨trivial,.mk _ (.refl _) ⟨λs=>match s with|3=>12|s=>s,rfl,wOL (l:=[]) (hp:=[(0,.box (stL 0 (λ_=>0) (⟨#[]⟩:ByteArray) 0)),(1,.box (stL (afP (newSt m) (x::[])).pc (afP (newSt m) (x::[])).r (afP (newSt m) (x::[])).mem (afP (newSt m) (x::[])).halt)),(2,.box [.osl 3 0 ((x::[]).length) false]),(3,.arr (((x::[]).map Prod.snd).map spL) 9)]) (λs=>match s with|3=>12|s=>s) trivial wH rfl⟩⟩
  have hlen:(y_::l_).length<=10000:=by have h1:=hp_.length_le;rw[afO,aU]at h1;have h2:=AB prog (min n 10000).toNat (newSt m);omega
  have hlq:(y_::l_).length=l_.length+1:=rfl;refine cSR<|rAl 4 rfl rfl<|rSt rfl<|rE 6<|cRg<|rAl 6 rfl rfl<|rSt rfl<|rE 8 ?_;refine⟨rfl,?_⟩;refine kO<|cSR<|oR 1 rfl<|rSt rfl<|rE 10<|cRg<|oR 2 rfl<|rV (.sl 9 ([[vU x.2.pc,vU x.2.next,vI x.2.rd,vU x.2.value,vU x.2.agZ,vI x.2.size,vB x.2.store,vI x.2.halt,vI x.2.agV]]) true) rfl<|rFx (x:=.osl 13 0 ((y_::l_).length+1) false) (h':=upd (upd _ 3 none) 13 (some (.arr ((((y_::l_).map Prod.snd)++([x.2])).map spL) 9))) rfl rfl (iP spL ((y_::l_).map Prod.snd) ([x.2]) omT omT) (⟨by exact omT,by exact omT,trivial⟩)<|rSt rfl<|rE 15 ?_;exact⟨trivial,.mk _ (.refl _) ⟨λs=>match s with|3=>13|s=>s,rfl,wOL (l:=[]) (hp:=[(0,.box (stL 0 (λ_=>0) (⟨#[]⟩:ByteArray) 0)),(1,.box (stL (afP (newSt m) (y_::(l_++[x]))).pc (afP (newSt m) (y_::(l_++[x]))).r (afP (newSt m) (y_::(l_++[x]))).mem (afP (newSt m) (y_::(l_++[x]))).halt)),(2,.box [.osl 3 0 ((y_::(l_++[x])).length) false]),(3,.arr (((y_::(l_++[x])).map Prod.snd).map spL) 9)]) (λs=>match s with|3=>13|s=>s) trivial ⟨⟨rfl,rfl,rfl⟩,⟨rfl,(af2 (λz:St=>some (Blk.box (stL z.pc z.r z.mem z.halt))) (NT (newSt m) (y_::l_) x).symm),rfl⟩,⟨rfl,(af2 (λz:Nat=>some (Blk.box [AV.osl 13 0 z false])) (show(y_::l_).length+1=(y_::(l_++[x])).length by simp)),rfl⟩,⟨rfl,(af2 (λz:List Sp=>some (Blk.arr (z.map spL) 9)) (show(y_::l_).map Prod.snd++[x.2]=(y_::(l_++[x])).map Prod.snd by simp)),rfl⟩,trivial⟩ rfl⟩⟩
 intro hN D;rcases hxs:xsN prog (newSt m) (cntN prog (min n 10000).toNat (newSt m))with _|⟨y_,l_⟩
 ·refine uO<|tQ rfl<|pO rfl rfl<|oR 2 rfl<|rSt rfl<|oR 1 rfl<|rE 7<|And.intro (by kernel_rfl)<|tQ rfl<|FQ ?_;exact⟨_,rfl,trivial,rfl,Sub.tup ⟨Sub.refl _,oM 9 false,trivial⟩⟩
 have hlen:(y_::l_).length<=10000:=by rw[<-hxs,afO];have h2:=AB prog (min n 10000).toNat (newSt m);omega
 have hlq:(y_::l_).length=l_.length+1:=rfl;refine uO<|tQ rfl<|pO rfl rfl<|oR 2 rfl<|rSt rfl<|oR 1 rfl<|rE 8<|And.intro (by kernel_rfl)<|tQ rfl<|FQ ?_;exact⟨_,rfl,⟨tvT,(by show 0+((y_::l_).length)<=(((y_::l_).map Prod.snd).map spL).length;exact omT),trivial⟩,rfl,Sub.tup ⟨Sub.refl _,(by show Sub (.sl 9 (List.take (y_::l_).length (List.drop 0 (((y_::l_).map Prod.snd).map spL))) false) (.sl 9 (((y_::l_).map Prod.snd).map spL) false);rw[bS,aN (by simp)];exact Sub.refl _),trivial⟩⟩
end Go.Proofs.YtchifhhdlhicjaaGreatDoor
namespace Go.Proofs.YtchifhhdlhicjaaGreatDoor
open Go.RowKit
end Go.Proofs.YtchifhhdlhicjaaGreatDoor
namespace Go.Proofs.YtchifhhdlhicjaaGreatDoor
open Go.RowKit
structure Kp(c d:Co):Prop where
 cycle:d.cycle=c.cycle
 ret:c.agG <+: d.agG
 mem:d.mem.size=c.mem.size
theorem Kp.refl(c:Co):Kp c c:=⟨rfl,List.prefix_refl _,rfl⟩
theorem Kp.trans{a b c:Co}(h:Kp a b)(k:Kp b c):Kp a c:=⟨k.cycle.trans h.cycle,List.IsPrefix.trans h.ret k.ret,k.mem.trans h.mem⟩
end Go.Proofs.YtchifhhdlhicjaaGreatDoor
