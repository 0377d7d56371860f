import Derived.WideShapes
import Derived.Test.YtiaekocjeinkjaaGreatDoorS8
import Derived.Test.YtiaekocjeinkjaaGreatDoorS35
set_option linter.all false
namespace Go.Proofs.YtiaekocjeinkjaaGreatDoor
open Go.Proofs.Tryz
set_option maxRecDepth 100000
set_option maxHeartbeats 4000000
open Go.RowKit
def WP(c:Co)(T:Nat)(b:c.E T)(A B:List ai)(lo n:Nat)(d:Bool)(a:A.length=lo)(f:c.Z.length=n)(hA:A.length+n+B.length<=1000)(U:∀x∈A,x.ok)(V:∀x∈B,x.ok)(K:yD (b5 c)=none)(g i:Bool)(l m:List (List AV)):pM C0.P C0.G 76 [.ptr 0 0] (aq [(0,.box (az c (.X 1 lo n d) (.Y 2 (c.L.map a_) true) (.Y 2 l g) (.Y 9 m i))),(1,.arr ((A++c.Z++B).map ab) 17)]) 2 (λx h'=>x=.F []/\VF 2 (kK c) (.Y 2 ((kK c).L.map a_) true) (.Y 2 l g) (.Y 9 m i) h'):=by
 refine hZ 2 func76 R<|de (c.halt != 0) (λw=>?_) (λw=>?_)
 .have o:=wM w;have v:kK c=c:=aa o;rw[v];exact BH (rs:=[]) R (r:=.F []) (h':=aq [(0,.box (az (c) (.X 1 lo n d) (.Y 2 (c.L.map a_) true) (.Y 2 l g) (.Y 9 m i))),(1,.arr ((A++c.Z++B).map ab) 17)]) (σ:=λz=>z) ⟨R,.inr ⟨1,A,B,d,.inl ⟨R,dT⟩,(by show A.length+(c.Z).length+B.length<=1000;omega),(by show _=aq [(0,.box (az (c) (.X 1 A.length (c.Z).length d) _ _ _)),_];rw[a,f])⟩⟩ R (ah (λz=>z) R R wH R)
 have o:=wN w;refine zV (vN n)<|lb (κ:=Nat) (λk=>⟨a6 [(0,.ptr 0 0),(16,vB (c.halt != 0)),(21,.X 1 lo n d),(22,vN n),(23,vN k)],aq [(0,.box (az c (.X 1 lo n d) (.Y 2 (c.L.map a_) true) (.Y 2 l g) (.Y 9 m i))),(1,.arr ((A++(oY bn c.Z k)++B).map ab) 17)],15⟩) (λk=>k<=n) (λk=>n-k) 0 (λs=>s) (au (λs=>s) wT wH R) R (aE _) ?_;intro k S;have X:k<=n:=S;have J:k<=1000:=oH b.Z;have Y:(oY bn c.Z k).length=n:=ps.trans f;refine b0 (ak (bl _ _)) (λy=>?_) (λy=>?_)
 .have G:=ax y;refine nW (.x 1 (lo+k) 0) R R fd ?_;obtain⟨x,e⟩:∃F,(oY bn c.Z k)[k]?=some F:=⟨_,aA ad⟩;have t:=(Ii (λx h=>QH h) b.ok.Z6 k) x (aB e);refine zX (ab x) (.agg (ab x)) R (iH (jK a e))<|a7<|oR 7 R<|aW R (t_ x t)<|nW (.x 1 (lo+k) 0) R R fd ?_;have ag:((oY bn c.Z k).set k (bn x))[k]?=some (bn x):=aZ ad;refine nM (ab x) (h':=an _ 1 (some (.arr ((A++((oY bn c.Z k).set k (bn x))++B).map ab) 17))) R R R (⟨aG _,iH ((jK a e))⟩) (uL (f:=ab) (x:=(bn x)) (l:=oY bn c.Z k) (i:=k) a ad)<|rE 32 ?_;have L:k+1<=1001:=aD J (aC 1);refine qX 0 R<|zW _ (ap (bH L R))<|.mk _ (.refl _) ⟨k+1,λs=>s,au _ wT ⟨⟨R,R,R⟩,⟨R,(am (λz:List ai=>some (a'.arr ((A++z++B).map ab) 17)) (Cg e)),R⟩,tr⟩ R,R,oT,by show n-(k+1)<n-k;omega⟩
 have G:=aF y;refine zV (vN n)<|lb (κ:=Nat) (λj=>⟨a6 [(0,.ptr 0 0),(16,vB (c.halt != 0)),(24,vB (decide (k<n))),(42,.X 1 lo n d),(43,vN n),(44,vN j)],aq [(0,.box (az c (.X 1 lo n d) (.Y 2 (c.L.map a_) true) (.Y 2 l g) (.Y 9 m i))),(1,.arr ((A++(cN c.r (c.Z.map bn) j)++B).map ab) 17)],23⟩) (λj=>j<=n) (λj=>n-j) 0 (λs=>s) (au (λs=>s) wT ⟨⟨R,R,R⟩,⟨R,(am (λz:List ai=>some (a'.arr ((A++z++B).map ab) 17)) (EQ (f:=bn) (l:=c.Z) ad)),R⟩,tr⟩ R) R (aE _) ?_;intro j Q;have W:j<=n:=Q;have r:j<=1000:=oH b.Z;have Z:(cN c.r (c.Z.map bn) j).length=n:=Ds.trans ((aH ..).trans f);refine b0 (ak (bl _ _)) (λC=>?_) (λC=>?_)
 .have H:=ax C;refine nW (.x 1 (lo+j) 0) R R fd ?_;obtain⟨x,e⟩:∃F,(cN c.r (c.Z.map bn) j)[j]?=some F:=⟨_,aA ad⟩;have t:=(kz (tI b.ok.Z6) b.ok.r j) x (aB e);refine zX (ab x) (.agg (ab x)) R (iH (jK a e))<|aW R (pS x.i)<|b0 (ak (db _ _)) (λD=>?_) (λD=>?_)
  .have p:=wM D;have M:j+1<=1001:=aD r (aC 1);refine zW _ (ap (bH M R))<|.mk _ (.refl _) ⟨j+1,λs=>s,au _ wT ⟨⟨R,R,R⟩,⟨R,(am (λz:List ai=>some (a'.arr ((A++z++B).map ab) 17)) (show cN c.r (c.Z.map bn) j=cN c.r (c.Z.map bn) (j+1)from(CS e p).symm)),R⟩,tr⟩ R,R,oT,by show n-(j+1)<n-j;omega⟩
  have p:=wN D;refine zC (Fs x.i)<|zR<|zL (x:=.F [vU ((lK (cN c.r (c.Z.map bn) j) c.r j x.i.A).getD 0),vB ((lK (cN c.r (c.Z.map bn) j) c.r j x.i.A).isSome)]) R (.inr ⟨R,⟨(by show lo+n<=((A++(cN c.r (c.Z.map bn) j)++B).map ab).length;exact ad),ga,tr,tr,tr⟩⟩) ((show bI C0 130 [.Y 17 (List.take n (List.drop lo ((A++(cN c.r (c.Z.map bn) j)++B).map ab))) d,.agg (Ks c.r),vN j,vI x.i.A] _ from by rw[tV (l:=cN c.r (c.Z.map bn) j) a (by first|assumption|exact f)];exact Kl (cN c.r (c.Z.map bn) j) c.r d j x.i.A (oH b.Z) (kz (tI b.ok.Z6) b.ok.r j) b.ok.r (oH b.Z)))<|aV rfl (λE=>?_) (λE=>?_)
  .refine a7<|oR 8 R<|aW R (RS x ((lK (cN c.r (c.Z.map bn) j) c.r j x.i.A).getD 0) t (Ck (kz (tI b.ok.Z6) b.ok.r j) b.ok.r j x.i.A))<|nW (.x 1 (lo+j) 0) R R fd ?_;have aj:((cN c.r (c.Z.map bn) j).set j (uF x ((lK (cN c.r (c.Z.map bn) j) c.r j x.i.A).getD 0)))[j]?=some (uF x ((lK (cN c.r (c.Z.map bn) j) c.r j x.i.A).getD 0)):=aZ ad;refine nM (ab x) (h':=an _ 1 (some (.arr ((A++((cN c.r (c.Z.map bn) j).set j (uF x ((lK (cN c.r (c.Z.map bn) j) c.r j x.i.A).getD 0)))++B).map ab) 17))) R R R (⟨aG _,iH ((jK a e))⟩) (uL (f:=ab) (x:=(uF x ((lK (cN c.r (c.Z.map bn) j) c.r j x.i.A).getD 0))) (l:=cN c.r (c.Z.map bn) j) (i:=j) a ad)<|rE 72 ?_;have N:j+1<=1001:=aD r (aC 1);refine qX 0 R<|zW _ (ap (bH N R))<|.mk _ (.refl _) ⟨j+1,λs=>s,au _ wT ⟨⟨R,R,R⟩,⟨R,(am (λz:List ai=>some (a'.arr ((A++z++B).map ab) 17)) (show(cN c.r (c.Z.map bn) j).set j (uF x ((lK (cN c.r (c.Z.map bn) j) c.r j x.i.A).getD 0))=cN c.r (c.Z.map bn) (j+1)from(Am e (p) E).symm)),R⟩,tr⟩ R,R,oT,by show n-(j+1)<n-j;omega⟩
  skip
  have O:j+1<=1001:=aD r (aC 1);refine qC 0 R<|zW _ (ap (bH O R))<|.mk _ (.refl _) ⟨j+1,λs=>s,au _ wT ⟨⟨R,R,R⟩,⟨R,(am (λz:List ai=>some (a'.arr ((A++z++B).map ab) 17)) (show cN c.r (c.Z.map bn) j=cN c.r (c.Z.map bn) (j+1)from(qd e E).symm)),R⟩,tr⟩ R,R,oT,by show n-(j+1)<n-j;omega⟩
 have H:=aF C;have u:cN c.r (c.Z.map bn) j=b5 c:=by have q:j=c.Z.length:=ad;rw[q];rfl
 have I:(b5 c).length=n:=(nN c).trans f;refine zL (x:=vI (-1)) R (.inr ⟨R,⟨(by show lo+n<=((A++(cN c.r (c.Z.map bn) j)++B).map ab).length;exact ad),tr⟩⟩) ((show bI C0 _ [.Y 17 (List.take n (List.drop lo ((A++(cN c.r (c.Z.map bn) j)++B).map ab))) d] (vI (-1))from by rw[show vI (-1)=vI (DM (yD (b5 c)))from by rw[K];rfl,tV (l:=cN c.r (c.Z.map bn) j) a (by first|assumption|exact f),u];exact QR (b5 c) d (by rw[nN];have:=b.Z;omega) (vV b)))<|zV (vB (decide ((-1)>=0)))<|aV R (λP=>by exact absurd P dT) (λ_=>?_);have v:kK c={c with Z:=b5 c}:=GE (λq=>q o) K;rw[v];exact jj 0 R<|BH (rs:=[]) R (r:=.F []) (h':=aq [(0,.box (az ({c with Z:=b5 c}) (.X 1 lo n d) (.Y 2 (c.L.map a_) true) (.Y 2 l g) (.Y 9 m i))),(1,.arr ((A++b5 c++B).map ab) 17)]) (σ:=λz=>z) ⟨R,.inr ⟨1,A,B,d,.inl ⟨R,dT⟩,(by show A.length+(b5 c).length+B.length<=1000;omega),(by show _=aq [(0,.box (az ({c with Z:=b5 c}) (.X 1 A.length (b5 c).length d) _ _ _)),_];rw[a,I])⟩⟩ R (ah (λz=>z) R R ⟨⟨R,R,R⟩,⟨R,(by show some (a'.arr ((A++cN c.r (c.Z.map bn) j++B).map ab) 17)=_;rw[u];rfl),R⟩,tr⟩ R)
def WQ(c:Co)(nb:Nat)(a:c.E nb)(A B:List ai)(lo n:Nat)(d:Bool)(b:A.length=lo)(o:c.Z.length=n)(hA:A.length+n+B.length<=1000)(N:∀x∈A,x.ok)(O:∀x∈B,x.ok)(i:Nat)(w:yD (b5 c)=some i)(f g:Bool)(l m:List (List AV)):pM C0.P C0.G 76 [.ptr 0 0] (aq [(0,.box (az c (.X 1 lo n d) (.Y 2 (c.L.map a_) true) (.Y 2 l f) (.Y 9 m g))),(1,.arr ((A++c.Z++B).map ab) 17)]) 2 (λx h'=>x=.F []/\VF 2 (kK c) (.Y 2 ((kK c).L.map a_) true) (.Y 2 l f) (.Y 9 m g) h'):=by
 refine hZ 2 func76 R ?_;have ag:i<n:=by have q:=ER w;rw[nN]at q;omega
 refine de (c.halt != 0) (λD=>?_) (λD=>?_)
 .have p:=wM D;have C:kK c=c:=aa p;rw[C];exact BH (rs:=[]) R (r:=.F []) (h':=aq [(0,.box (az (c) (.X 1 lo n d) (.Y 2 (c.L.map a_) true) (.Y 2 l f) (.Y 9 m g))),(1,.arr ((A++c.Z++B).map ab) 17)]) (σ:=λz=>z) ⟨R,.inr ⟨1,A,B,d,.inl ⟨R,dT⟩,(by show A.length+(c.Z).length+B.length<=1000;omega),(by show _=aq [(0,.box (az (c) (.X 1 A.length (c.Z).length d) _ _ _)),_];rw[b,o])⟩⟩ R (ah (λz=>z) R R wH R)
 have p:=wN D;refine zV (vN n)<|lb (κ:=Nat) (λk=>⟨a6 [(0,.ptr 0 0),(16,vB (c.halt != 0)),(21,.X 1 lo n d),(22,vN n),(23,vN k)],aq [(0,.box (az c (.X 1 lo n d) (.Y 2 (c.L.map a_) true) (.Y 2 l f) (.Y 9 m g))),(1,.arr ((A++(oY bn c.Z k)++B).map ab) 17)],15⟩) (λk=>k<=n) (λk=>n-k) 0 (λs=>s) (au (λs=>s) wT wH R) R (aE _) ?_;intro k hk;have ao:k<=n:=hk;have S:k<=1000:=oH a.Z;have ar:(oY bn c.Z k).length=n:=ps.trans o;refine b0 (ak (bl _ _)) (λE=>?_) (λE=>?_)
 .have L:=ax E;refine nW (.x 1 (lo+k) 0) R R fd ?_;obtain⟨x,e⟩:∃K,(oY bn c.Z k)[k]?=some K:=⟨_,aA ad⟩;have v:=(Ii (λx h=>QH h) a.ok.Z6 k) x (aB e);refine zX (ab x) (.agg (ab x)) R (iH (jK b e))<|a7<|oR 7 R<|aW R (t_ x v)<|nW (.x 1 (lo+k) 0) R R fd ?_;have aw:((oY bn c.Z k).set k (bn x))[k]?=some (bn x):=aZ ad;refine nM (ab x) (h':=an _ 1 (some (.arr ((A++((oY bn c.Z k).set k (bn x))++B).map ab) 17))) R R R (⟨aG _,iH ((jK b e))⟩) (uL (f:=ab) (x:=(bn x)) (l:=oY bn c.Z k) (i:=k) b ad)<|rE 32 ?_;have U:k+1<=1001:=aD S (aC 1);refine qX 0 R<|zW _ (ap (bH U R))<|.mk _ (.refl _) ⟨k+1,λs=>s,au _ wT ⟨⟨R,R,R⟩,⟨R,(am (λz:List ai=>some (a'.arr ((A++z++B).map ab) 17)) (Cg e)),R⟩,tr⟩ R,R,oT,by show n-(k+1)<n-k;omega⟩
 have L:=aF E;refine zV (vN n)<|lb (κ:=Nat) (λj=>⟨a6 [(0,.ptr 0 0),(16,vB (c.halt != 0)),(24,vB (decide (k<n))),(42,.X 1 lo n d),(43,vN n),(44,vN j)],aq [(0,.box (az c (.X 1 lo n d) (.Y 2 (c.L.map a_) true) (.Y 2 l f) (.Y 9 m g))),(1,.arr ((A++(cN c.r (c.Z.map bn) j)++B).map ab) 17)],23⟩) (λj=>j<=n) (λj=>n-j) 0 (λs=>s) (au (λs=>s) wT ⟨⟨R,R,R⟩,⟨R,(am (λz:List ai=>some (a'.arr ((A++z++B).map ab) 17)) (EQ (f:=bn) (l:=c.Z) ad)),R⟩,tr⟩ R) R (aE _) ?_;intro j Z;have al:j<=n:=Z;have u:j<=1000:=oH a.Z;have av:(cN c.r (c.Z.map bn) j).length=n:=Ds.trans ((aH ..).trans o);refine b0 (ak (bl _ _)) (λF=>?_) (λF=>?_)
 .have M:=ax F;refine nW (.x 1 (lo+j) 0) R R fd ?_;obtain⟨x,e⟩:∃K,(cN c.r (c.Z.map bn) j)[j]?=some K:=⟨_,aA ad⟩;have v:=(kz (tI a.ok.Z6) a.ok.r j) x (aB e);refine zX (ab x) (.agg (ab x)) R (iH (jK b e))<|aW R (pS x.i)<|b0 (ak (db _ _)) (λG=>?_) (λG=>?_)
  .have r:=wM G;have V:j+1<=1001:=aD u (aC 1);refine zW _ (ap (bH V R))<|.mk _ (.refl _) ⟨j+1,λs=>s,au _ wT ⟨⟨R,R,R⟩,⟨R,(am (λz:List ai=>some (a'.arr ((A++z++B).map ab) 17)) (show cN c.r (c.Z.map bn) j=cN c.r (c.Z.map bn) (j+1)from(CS e r).symm)),R⟩,tr⟩ R,R,oT,by show n-(j+1)<n-j;omega⟩
  have r:=wN G;refine zC (Fs x.i)<|zR<|zL (x:=.F [vU ((lK (cN c.r (c.Z.map bn) j) c.r j x.i.A).getD 0),vB ((lK (cN c.r (c.Z.map bn) j) c.r j x.i.A).isSome)]) R (.inr ⟨R,⟨(by show lo+n<=((A++(cN c.r (c.Z.map bn) j)++B).map ab).length;exact ad),ga,tr,tr,tr⟩⟩) ((show bI C0 130 [.Y 17 (List.take n (List.drop lo ((A++(cN c.r (c.Z.map bn) j)++B).map ab))) d,.agg (Ks c.r),vN j,vI x.i.A] _ from by rw[tV (l:=cN c.r (c.Z.map bn) j) b (by first|assumption|exact o)];exact Kl (cN c.r (c.Z.map bn) j) c.r d j x.i.A (oH a.Z) (kz (tI a.ok.Z6) a.ok.r j) a.ok.r (oH a.Z)))<|aV rfl (λH=>?_) (λH=>?_)
  .refine a7<|oR 8 R<|aW R (RS x ((lK (cN c.r (c.Z.map bn) j) c.r j x.i.A).getD 0) v (Ck (kz (tI a.ok.Z6) a.ok.r j) a.ok.r j x.i.A))<|nW (.x 1 (lo+j) 0) R R fd ?_;have ay:((cN c.r (c.Z.map bn) j).set j (uF x ((lK (cN c.r (c.Z.map bn) j) c.r j x.i.A).getD 0)))[j]?=some (uF x ((lK (cN c.r (c.Z.map bn) j) c.r j x.i.A).getD 0)):=aZ ad;refine nM (ab x) (h':=an _ 1 (some (.arr ((A++((cN c.r (c.Z.map bn) j).set j (uF x ((lK (cN c.r (c.Z.map bn) j) c.r j x.i.A).getD 0)))++B).map ab) 17))) R R R (⟨aG _,iH ((jK b e))⟩) (uL (f:=ab) (x:=(uF x ((lK (cN c.r (c.Z.map bn) j) c.r j x.i.A).getD 0))) (l:=cN c.r (c.Z.map bn) j) (i:=j) b ad)<|rE 72 ?_;have W:j+1<=1001:=aD u (aC 1);refine qX 0 R<|zW _ (ap (bH W R))<|.mk _ (.refl _) ⟨j+1,λs=>s,au _ wT ⟨⟨R,R,R⟩,⟨R,(am (λz:List ai=>some (a'.arr ((A++z++B).map ab) 17)) (show(cN c.r (c.Z.map bn) j).set j (uF x ((lK (cN c.r (c.Z.map bn) j) c.r j x.i.A).getD 0))=cN c.r (c.Z.map bn) (j+1)from(Am e (r) H).symm)),R⟩,tr⟩ R,R,oT,by show n-(j+1)<n-j;omega⟩
  skip
  have X:j+1<=1001:=aD u (aC 1);refine qC 0 R<|zW _ (ap (bH X R))<|.mk _ (.refl _) ⟨j+1,λs=>s,au _ wT ⟨⟨R,R,R⟩,⟨R,(am (λz:List ai=>some (a'.arr ((A++z++B).map ab) 17)) (show cN c.r (c.Z.map bn) j=cN c.r (c.Z.map bn) (j+1)from(qd e H).symm)),R⟩,tr⟩ R,R,oT,by show n-(j+1)<n-j;omega⟩
 have M:=aF F;have t:cN c.r (c.Z.map bn) j=b5 c:=by have q:j=c.Z.length:=ad;rw[q];rfl
 have P:(b5 c).length=n:=(nN c).trans o;have aj:i<n:=oH (ER w);obtain⟨y,J⟩:∃y,(b5 c)[i]?=some y:=⟨_,aA ad⟩;have aI:=vV a y (aB J);have I:∀x∈A++b5 c++B,x.ok:=sJ (sJ N (vV a)) O;have T:(cN c.r (c.Z.map bn) j)[i]?=some y:=by rw[t];exact J
 refine zL (x:=vN i) R (.inr ⟨R,⟨(by show lo+n<=((A++(cN c.r (c.Z.map bn) j)++B).map ab).length;exact ad),tr⟩⟩) ((show bI C0 _ [.Y 17 (List.take n (List.drop lo ((A++(cN c.r (c.Z.map bn) j)++B).map ab))) d] (vN i)from by rw[show vN i=vI (DM (yD (b5 c)))from by rw[w];rfl,tV (l:=cN c.r (c.Z.map bn) j) b (by first|assumption|exact o),t];exact QR (b5 c) d (by rw[nN];have:=a.Z;omega) (vV a)))<|b0 (ak (im _ _)) (λ_=>?_) (λY=>by exact absurd Y (by simp));refine zM (.x 1 (lo+i) 0) R fd<|ja (ab y) (vU y.next) R R (iH (jK b T)) R<|d_ 0 R<|dv 0 (az ({c with J:=y.next}:Co) (.X 1 lo n d) (.Y 2 (c.L.map a_) true) (.Y 2 l f) (.Y 9 m g)) R R R<|qR 0 R<|fU _ R R R ((show pM C0.P C0.G 133 [.X 0 lo n d,vN i] (aq [(0,.arr ((A++b5 c++B).map ab) 17)]) 1 (λx h'=>x=.X 1 0 (i+1) false/\h'=aq [(0,.arr ((A++b5 c++B).map ab) 17),(1,.arr ((DY (b5 c) i).map ab) 17)])from by have q:=C8 (A++b5 c++B) lo n i d (by simp only[aU,nN];omega) (by simp only[aU,nN];omega) ad I;rwa [Qs b P]at q).YU 1 _ _ R (by show some (a'.arr ((A++cN c.r (c.Z.map bn) j++B).map ab) 17)=_;rw[t]) R) ?_;rintro _ _ ⟨rfl,rfl⟩;refine d_ 0 R<|dv 0 (az ({c with J:=y.next}:Co) (.X 54 0 (i+1) false) (.Y 2 (c.L.map a_) true) (.Y 2 l f) (.Y 9 m g)) R R R<|d_ 0 R<|dv 0 (az ({c with J:=y.next}:Co) (.X 54 0 (i+1) false) (.Y 0 ([]) true) (.Y 2 l f) (.Y 9 m g)) R R R<|d_ 0 R<|dv 0 (az ({c with J:=y.next,stop:=false}:Co) (.X 54 0 (i+1) false) (.Y 0 ([]) true) (.Y 2 l f) (.Y 9 m g)) R R R ?_;have C:kK c={c with Z:=DY (b5 c) i,J:=y.next,L:=[],stop:=false}:=GF (λq=>q p) w J;have Q:(DY (b5 c) i).length=i+1:=MO ad;rw[C];exact cg 0 R<|SY (rs:=[]) R (.step none (ee (l:=[(0,.F [])]) (hp:=[(0,.box (az ({c with Z:=DY (b5 c) i,J:=y.next,L:=[],stop:=false}) (.X 54 0 (i+1) false) (.Y 2 [] true) (.Y 2 l f) (.Y 9 m g))),(54,.arr ((DY (b5 c) i).map ab) 17)]) tr ⟨.refl _,tr⟩ ⟨⟨tr,_,R,eg.ZU (qQ (.refl _) (.nil 2 true) (.refl _) (.refl _))⟩,⟨tr,_,R,.refl _⟩,tr⟩) (.refl _)) (r:=.F []) (h':=aq [(0,.box (az ({c with Z:=DY (b5 c) i,J:=y.next,L:=[],stop:=false}) (.X 2 0 (i+1) false) (.Y 2 [] true) (.Y 2 l f) (.Y 9 m g))),(2,.arr ((DY (b5 c) i).map ab) 17)]) (σ:=λz=>match z with|2=>54|z=>z) ⟨R,.inr ⟨2,[],[],false,.inr R,(by show 0+(DY (b5 c) i).length+0<=1000;have:=a.Z;omega),(by show _=aq [(0,.box (az ({c with Z:=DY (b5 c) i,J:=y.next,L:=[],stop:=false}) (.X 2 0 (DY (b5 c) i).length false) _ _ _)),(2,.arr (([]++DY (b5 c) i++[]).map ab) 17)];rw[Q,iA,dY];rfl)⟩⟩ R (qT (λz=>match z with|2=>54|z=>z) R R wH R)
def WR(c:Co)(n:Nat)(t:c.E n)(a:c.Z=[])(b d:Bool)(e f:List (List AV)):pM C0.P C0.G 76 [.ptr 0 0] (aq [(0,.box (az c (.Y 17 [] false) (.Y 2 (c.L.map a_) true) (.Y 2 e b) (.Y 9 f d)))]) 1 (λx h'=>x=.F []/\VF 1 (kK c) (.Y 2 ((kK c).L.map a_) true) (.Y 2 e b) (.Y 9 f d) h'):=by
 refine hZ 1 func76 R<|de (c.halt != 0) (λg=>?_) (λg=>?_)
 .rw[Ka a];exact BH (rs:=[]) R (r:=.F []) (σ:=λz=>z) ⟨R,.inl ⟨a,R⟩⟩ R (ah (λz=>z) R R wH R)
 refine zW _ (vW ab ([]:List ai) ad)<|lb (κ:=Nat) (λk=>⟨a6 [(0,.ptr 0 0),(16,vB (c.halt != 0)),(21,.Y 17 (([]:List ai).map ab) false),(22,vN 0),(23,vN k)],aq [(0,.box (az c (.Y 17 (([]:List ai).map ab) false) (.Y 2 (c.L.map a_) true) (.Y 2 e b) (.Y 9 f d)))],14⟩) (λk=>k<=0) (λk=>0-k) 0 (λs=>s) (au (λs=>s) wT wH R) R (aE _) ?_;intro k r;have p:k<=1000:=oT;refine b0 (ak (bl _ _)) (λi=>by exact absurd (ax i) (dG _)) (λ_=>?_);refine zW _ (vW ab ([]:List ai) ad)<|lb (κ:=Nat) (λj=>⟨a6 [(0,.ptr 0 0),(16,vB (c.halt != 0)),(24,vB (decide (k<0))),(42,.Y 17 (([]:List ai).map ab) false),(43,vN 0),(44,vN j)],aq [(0,.box (az c (.Y 17 (([]:List ai).map ab) false) (.Y 2 (c.L.map a_) true) (.Y 2 e b) (.Y 9 f d)))],22⟩) (λj=>j<=0) (λj=>0-j) 0 (λs=>s) (au (λs=>s) wT wH R) R (aE _) ?_;intro j q;have o:j<=1000:=oT;refine b0 (ak (bl _ _)) (λl=>by exact absurd (ax l) (dG _)) (λ_=>?_);refine zC (x:=vI (-1)) ((show bI C0 _ [.Y 17 [] false] (vI (-1))from QR [] false dT (λx h=>by cases h)))<|zV (vB (decide ((-1)>=0)))<|aV R (λm=>by exact absurd m dT) (λ_=>?_);rw[Ka a];exact jj 0 R<|BH (rs:=[]) R (r:=.F []) (σ:=λz=>z) ⟨R,.inl ⟨a,R⟩⟩ R (ah (λz=>z) R R wH R)
def jJ(c:Co):Co:={c with U:=(eH c.U).1}
def kC(c:Co):lM c=if(eH c.U).2.2=true then ID (jJ c) (eH c.U).2.1 else jJ c:=rfl
def wY{q:List bp}(h:∀x∈q,x.ok):(eH q).1.length<=q.length/\(∀x∈(eH q).1,x.ok)/\(eH q).2.1.S<=4294967295:=by
 unfold eH
 cases q with
 |nil=>exact⟨aC _,h,aE _⟩
 |cons y l=>
  have c:=h y (ce ..);have b:∀x∈l,x.ok:=λx a=>h x (bY _ a);dsimp only;split
  .exact⟨aC _,(λx a=>(eu.1 a).elim (λe=>e ▸ ⟨c.S⟩) (b x)),aE _⟩
  .exact⟨fF _,b,c.S⟩
def Aj{c:Co}{n:Nat}(h:c.E n):(jJ c).E n:=by
 have a:=wY h.ok.Z_;exact⟨⟨h.ok.Q,h.ok.prog,h.ok.Z4,h.ok.r,h.ok.J,h.ok.Z5,h.ok.ZV,h.ok.Z,h.ok.Z6,h.ok.Z',h.ok.Z0,h.ok.data,h.ok.u,aL a.1 h.ok.U,a.2.1,h.ok.asked,h.ok.Z1,h.ok.mem,h.ok.K,h.ok.ret,h.ok.ZW⟩,h.nb,h.cf,h.data,h.u,h.K,h.Z,h.Z5,h.Z',h.prog,h.mem,h.ZO⟩
def EP{e:ai}(h:e.ok):({e with Z8:=true}:ai).ok:=⟨h.M,h.C,h.K,h.value,h.next,h.W⟩
def MN{c:Co}{agY:Nat}{e:ai}(h:e.ok):(wO c agY e).ok:=by
 unfold wO;split
 .exact Il (EP h) _
 exact h
def TS{c:Co}{agY:Nat}{e:ai}(h:e.is=2/\ao e.W=agY):wO c agY e=uM {e with Z8:=true} (oL c e):=aa h
def WN{c:Co}{agY:Nat}{e:ai}(h: ¬(e.is=2/\ao e.W=agY)):wO c agY e=e:=dZ h
def LH{c:Co}{n:Nat}(h:c.E n)(b:n+1<=890000):(lM c).E (n+1):=by
 have a:=(Aj h).mono (fF n) b;have d:=(wY h.ok.Z_).2.2;rw[kC];split
 .unfold ID
  repeat' split
  .have e:∀x∈(jJ c).Z.map (wO (jJ c) (eH c.U).2.1.S),x.ok:=by
    intro x f;obtain⟨y,i,rfl⟩:=pG.1 f;exact MN (a.ok.Z6 y i)
   exact⟨⟨a.ok.Q,a.ok.prog,a.ok.Z4,a.ok.r,a.ok.J,a.ok.Z5,a.ok.ZV,by rw[aH];exact a.ok.Z,e,a.ok.Z',a.ok.Z0,a.ok.data,a.ok.u,a.ok.U,a.ok.Z_,a.ok.asked,a.ok.Z1,a.ok.mem,a.ok.K,a.ok.ret,a.ok.ZW⟩,a.nb,a.cf,a.data,a.u,a.K,by rw[aH];exact a.Z,a.Z5,a.Z',a.prog,a.mem,a.ZO⟩
  .have g:=ir.1 (a.gw.put d oZ false);exact⟨⟨a.ok.Q,a.ok.prog,a.ok.Z4,a.ok.r,a.ok.J,a.ok.Z5,a.ok.ZV,a.ok.Z,a.ok.Z6,a.ok.Z',a.ok.Z0,a.ok.data,g.2,a.ok.U,a.ok.Z_,a.ok.asked,a.ok.Z1,a.ok.mem,a.ok.K,a.ok.ret,a.ok.ZW⟩,a.nb,a.cf,a.data,g.1,a.K,a.Z,a.Z5,a.Z',a.prog,a.mem,a.ZO⟩
  .exact EX (Aj h) b d
  .exact⟨⟨a.ok.Q,a.ok.prog,a.ok.Z4,a.ok.r,a.ok.J,a.ok.Z5,a.ok.ZV,a.ok.Z,a.ok.Z6,a.ok.Z',a.ok.Z0,a.ok.data,a.ok.u,a.ok.U,a.ok.Z_,a.ok.asked,a.ok.Z1,by rw[iY];exact a.ok.mem,a.ok.K,a.ok.ret,a.ok.ZW⟩,a.nb,a.cf,a.data,a.u,a.K,a.Z,a.Z5,a.Z',a.prog,by rw[iY];exact a.mem,a.ZO⟩
  exact a
 exact a
def zm(c:Co)(n:Nat)(k:c.E n)(agY:Nat)(a:agY<=4294967295)(d:Bool)(h:List (List AV))(b:Bool)(g:List (List AV))(e:Bool)(i:List (List AV))(f:Bool)(j:List (List AV)):pM C0.P C0.G 125 [.ptr 0 0,vU agY] (aq [(0,.box (az c (.Y 17 h d) (.Y 2 g b) (.Y 2 i e) (.Y 9 j f)))]) 1 (λx h'=>x=.F []/\h'=aq [(0,.box (az (ET c agY) (.Y 17 h d) (.Y 2 g b) (.Y 2 i e) (.Y 9 j f)))]):=by rw[uY];exact C5 c n k agY a d h b g e i f j
def ys(c:Co)(n:Nat)(m:c.E n)(agY:Nat)(a:agY<=4294967295)(g h:Nat)(d:Bool)(i:List (List AV))(b:Bool)(j:List (List AV))(e:Bool)(k:List (List AV))(f:Bool)(l:List (List AV)):pM C0.P C0.G 125 [.ptr 0 0,vU agY] (aq [(0,.box (az c (.X 1 g h d) (.Y 2 j b) (.Y 2 k e) (.Y 9 l f))),(1,.arr i 17)]) 2 (λx h'=>x=.F []/\h'=aq [(0,.box (az (ET c agY) (.X 1 g h d) (.Y 2 j b) (.Y 2 k e) (.Y 9 l f))),(1,.arr i 17)]):=by rw[uY];exact z' c n m agY a g h d i b j e k f l
def yt(c:Co)(I:Nat)(a:c.E I)(A B:List ai)(lo n:Nat)(r:Bool)(m:A.length=lo)(N:c.Z.length=n)(T:A.length+n+B.length<=1000)(q t u:Bool)(v w:List (List AV)):pM C0.P C0.G 75 [.ptr 0 0] (aq [(0,.box (az c (.X 1 lo n r) (.Y 2 v q) (.Y 2 (c.V.map ay) t) (.Y 9 w u))),(1,.arr ((A++c.Z++B).map ab) 17)]) 2 (λx h'=>x=.F []/\h'=aq [(0,.box (az (lM c) (.X 1 lo n r) (.Y 2 v q) (.Y 2 (c.V.map ay) t) (.Y 9 w u))),(1,.arr ((A++(lM c).Z++B).map ab) 17)]):=by
 refine hI 2 func75 ?_;refine bk<|oR 5 R<|aW R (VL c.U false (oH a.U) a.ok.Z_)<|oR 4 R<|dm 12 R R<|oR 1 R<|a1 R<|oR 1 R<|rE 16<|bk<|oR 5 R<|a1 R<|rE 22<|uR<|bk<|oR 2 R<|rE 24<|aV R (λg=>?_) (λg=>?_)
 .refine FQ ?_;have b:=kC c;have d:lM c=(jJ c):=b.trans (dZ (by rw[FV g];decide));rw[d];exact BH (rs:=[]) R (r:=.F []) (σ:=λz=>z) ⟨R,R⟩ R (ah (λz=>z) R R wH R)
 refine mF<|bk<|oR 2 R<|rE 26<|kO<|bk<|rV (vB (((eH c.U).2.1.kind)==1)) R<|oR 1 R<|rE 28<|aV R (λC=>?_) (λC=>?_)
 .have e:=mT C;refine bk<|oR 5 R<|rV (vN n) R<|oR 1 R<|rE 35<|kO<|sX (κ:=Nat) (λk=>⟨a6 [(0,.ptr 0 0),(3,.ptr 12 0),(23,vB (!((eH c.U).2.2))),(25,vI ((eH c.U).2.1.kind)),(26,vB (((eH c.U).2.1.kind)==1)),(32,.X 1 lo n r),(33,vN n),(34,vN k)],aq [(0,.box (az ({c with U:=(eH c.U).1}:Co) (.X 1 lo n r) (.Y 2 v q) (.Y 2 (c.V.map ay) t) (.Y 9 w u))),(1,.arr ((A++(oY (wO (jJ c) (eH c.U).2.1.S) c.Z k)++B).map ab) 17),(12,.box (bv ((eH c.U).2.1)))],35⟩) (λk=>k<=n) (λk=>n-k) 0 (λs=>s) (au (λs=>s) wT wH R) R (aE _) ?_;intro k M;have P:k<=n:=M;have y:k<=1000:=oH a.Z;have Q:(oY (wO (jJ c) (eH c.U).2.1.S) c.Z k).length=n:=ps.trans N;refine bk<|rW _ R (ak (bl _ _))<|rE 36<|uR<|aV R (λD=>?_) (λD=>?_)
  .have J:=ax D;refine mF<|uR<|kO<|bk<|oR 1 R<|nW (.x 1 (lo+k) 0) R R fd ?_;obtain⟨x,o⟩:∃O,(oY (wO (jJ c) (eH c.U).2.1.S) c.Z k)[k]?=some O:=⟨_,aA ad⟩;have p:=(Ii (λx h=>MN h) a.ok.Z6 k) x (aB o);refine ja (ab x) (.agg (ab x)) R R (iH (jK m o)) R<|dm 39 R R<|oR 1 R<|a1 R<|rE 42<|bk<|oR 2 R<|rV (vB (x.is==2)) R<|oR 1 R<|gN R<|gS R id<|jQ (x:=vU (ao x.W)) (g:=x.is==2) R R R R (λh=>h) R R R (.inl R) R (λU=>tN x.W p.W)<|gN R<|gS R id<|aw R b9 (ak (ba _ _))<|bO R R R (λh=>h)<|rE 53<|aV R (λE=>?_) (λE=>?_)
   .have l:(x.is=2/\ao x.W=(eH c.U).2.1.S):=by have z:=E;simpa [iz]using z
    refine bk<|oR 1 R<|a1 R<|rE 55<|a7<|oR 9 R<|g5 R (.inr ⟨R,⟨tr,ga,tr⟩⟩) (MV (jJ c) I (Aj a) .any (.Y 2 v q) (.Y 9 w u) t ({x with Z8:=true}:ai) (EP p))<|aW R (RR ({x with Z8:=true}:ai) (oL (jJ c) x) (EP p) (by have:=GN (c:=(jJ c)) (by have:=a.mem;exact this) x;omega))<|nW (.x 1 (lo+k) 0) R R fd ?_;have S:((oY (wO (jJ c) (eH c.U).2.1.S) c.Z k).set k (uM ({x with Z8:=true}:ai) (oL (jJ c) x)))[k]?=some (uM ({x with Z8:=true}:ai) (oL (jJ c) x)):=aZ ad;refine nM (ab x) (h':=an _ 1 (some (.arr ((A++((oY (wO (jJ c) (eH c.U).2.1.S) c.Z k).set k (uM ({x with Z8:=true}:ai) (oL (jJ c) x)))++B).map ab) 17))) R R R (⟨aG _,iH ((jK m o))⟩) (uL (f:=ab) (x:=(uM ({x with Z8:=true}:ai) (oL (jJ c) x))) (l:=oY (wO (jJ c) (eH c.U).2.1.S) c.Z k) (i:=k) m ad)<|rE 68<|a7 ?_;have K:k+1<=1001:=aD y (aC 1);refine rW _ R (ap (bH K R))<|oR 1 R<|rE 70<|.mk _ (.refl _) ⟨k+1,λs=>s,au _ wT ⟨⟨R,R,R⟩,⟨R,(am (λz:List ai=>some (a'.arr ((A++z++B).map ab) 17)) (show(oY (wO (jJ c) (eH c.U).2.1.S) c.Z k).set k (uM ({x with Z8:=true}:ai) (oL (jJ c) x))=oY (wO (jJ c) (eH c.U).2.1.S) c.Z (k+1)from by rw[<-Cg o,TS l])),R⟩,⟨R,R,R⟩,tr⟩ R,R,oT,by show n-(k+1)<n-k;omega⟩
   have l: ¬(x.is=2/\ao x.W=(eH c.U).2.1.S):=by have z:=E;simpa [iz]using z
   refine mF<|a7 ?_;have L:k+1<=1001:=aD y (aC 1);refine rW _ R (ap (bH L R))<|oR 1 R<|rE 55<|.mk _ (.refl _) ⟨k+1,λs=>s,au _ wT ⟨⟨R,R,R⟩,⟨R,(am (λz:List ai=>some (a'.arr ((A++z++B).map ab) 17)) (show oY (wO (jJ c) (eH c.U).2.1.S) c.Z k=oY (wO (jJ c) (eH c.U).2.1.S) c.Z (k+1)from OC o (WN l))),R⟩,⟨R,R,R⟩,tr⟩ R,R,oT,by show n-(k+1)<n-k;omega⟩
  have J:=aF D;refine Bh ?_;have b:=kC c;have d:lM c={jJ c with Z:=c.Z.map (wO (jJ c) (eH c.U).2.1.S)}:=((b.trans (aa (dQ (sI g)))).trans (aa e));rw[d];exact BH (rs:=[]) R (r:=.F []) (σ:=λz=>z) ⟨R,R⟩ R (ah (λz=>z) R R ⟨⟨R,R,R⟩,⟨R,(am (λz:List ai=>some (a'.arr ((A++z++B).map ab) 17)) (EQ (f:=wO (jJ c) (eH c.U).2.1.S) (l:=c.Z) ad)),R⟩,tr⟩ R)
 have e:=nA C;refine bk<|rV (vB (((eH c.U).2.1.kind)==2)) R<|oR 1 R<|rE 30<|aV R (λF=>?_) (λF=>?_)
 .have f:=mT F;refine a7<|oR 8 R<|aW R (Re c.u (eH c.U).2.1.S oZ false a.ok.u (wY a.ok.Z_).2.2)<|oR 7 R<|a1 R<|rE 47 ?_;have b:=kC c;have d:lM c={jJ c with u:=(qZ c.u (eH c.U).2.1.S oZ false).1}:=(((b.trans (aa (dQ (sI g)))).trans (dZ e)).trans (aa f));rw[d];exact BH (rs:=[]) R (r:=.F []) (σ:=λz=>z) ⟨R,R⟩ R (ah (λz=>z) R R wH R)
 have f:=nA F;refine bk<|rV (vB (((eH c.U).2.1.kind)==3)) R<|oR 1 R<|rE 32<|aV R (λG=>?_) (λG=>?_)
 .have i:=mT G;refine a7<|oR 3 R<|fU _ R R R ((ys (jJ c) I (Aj a) (eH c.U).2.1.S (wY a.ok.Z_).2.2 lo n r ((A++c.Z++B).map ab) q v t (c.V.map ay) u w).fB (λz=>z)) ?_;rintro _ _ ⟨rfl,rfl⟩;refine rE 36 ?_;have b:=kC c;have d:lM c=ET (jJ c) (eH c.U).2.1.S:=(((((b.trans (aa (dQ (sI g)))).trans (dZ e)).trans (dZ f)).trans (aa i))).trans (uY _ _).symm;rw[d];exact BH (rs:=[]) R (r:=.F []) (σ:=λz=>z) ⟨R,R⟩ R (ah (λz=>z) R R wH R)
 have i:=nA G;refine bk<|rV (vB (((eH c.U).2.1.kind)==4)) R<|oR 1 R<|rE 34<|aV R (λH=>?_) (λH=>?_)
 all_goals
  first|(have j:=mT H;refine a7<|oR 10 R<|rV (.agg [vU ((eH c.U).2.1.S),.v (.string ((eH c.U).2.1.data))]) R<|rV (.Y 2 ([[vU ((eH c.U).2.1.S),.v (.string ((eH c.U).2.1.data))]]) true) R<|aW R (QX c.mem [⟨(eH c.U).2.1.S,(eH c.U).2.1.data⟩] true (oH a.mem) (by show 1<=1000000;decide) (sK (P:=Pt.ok) ⟨(wY a.ok.Z_).2.2⟩))<|oR 3 R<|a1 R<|rE 51 ?_)|(have j:=nA H;refine mF ?_)
  have b:=kC c
  first|have d:lM c={jJ c with mem:=rP c.mem [⟨(eH c.U).2.1.S,(eH c.U).2.1.data⟩]}:=(((((b.trans (aa (dQ (sI g)))).trans (dZ e)).trans (dZ f)).trans (dZ i)).trans (aa j))|have d:lM c=(jJ c):=(((((b.trans (aa (dQ (sI g)))).trans (dZ e)).trans (dZ f)).trans (dZ i)).trans (dZ j))
  rw[d];exact BH (rs:=[]) R (r:=.F []) (σ:=λz=>z) ⟨R,R⟩ R (ah (λz=>z) R R wH R)
def WO(c:Co)(u:Nat)(f:c.E u)(y:c.Z=[])(j l m:Bool)(n o:List (List AV)):pM C0.P C0.G 75 [.ptr 0 0] (aq [(0,.box (az c (.Y 17 [] false) (.Y 2 n j) (.Y 2 (c.V.map ay) l) (.Y 9 o m)))]) 1 (λx h'=>x=.F []/\h'=aq [(0,.box (az (lM c) (.Y 17 [] false) (.Y 2 n j) (.Y 2 (c.V.map ay) l) (.Y 9 o m)))]):=by
 refine hI 1 func75 ?_;refine bk<|oR 5 R<|aW R (VL c.U false (oH f.U) f.ok.Z_)<|oR 4 R<|dm 11 R R<|oR 1 R<|a1 R<|oR 1 R<|rE 15<|bk<|oR 5 R<|a1 R<|rE 21<|uR<|bk<|oR 2 R<|rE 23<|aV R (λg=>?_) (λg=>?_)
 .refine FQ ?_;have a:=kC c;have b:lM c=(jJ c):=a.trans (dZ (by rw[FV g];decide));rw[b];exact BH (rs:=[]) R (r:=.F []) (σ:=λz=>z) ⟨R,R⟩ R (ah (λz=>z) R R wH R)
 refine mF<|bk<|oR 2 R<|rE 25<|kO<|bk<|rV (vB (((eH c.U).2.1.kind)==1)) R<|oR 1 R<|rE 27<|aV R (λp=>?_) (λp=>?_)
 .have d:=mT p;refine bk<|oR 5 R<|rW _ R (vW ab ([]:List ai) ad)<|oR 1 R<|rE 34<|kO<|sX (κ:=Nat) (λk=>⟨a6 [(0,.ptr 0 0),(3,.ptr 11 0),(23,vB (!((eH c.U).2.2))),(25,vI ((eH c.U).2.1.kind)),(26,vB (((eH c.U).2.1.kind)==1)),(32,.Y 17 (([]:List ai).map ab) false),(33,vN 0),(34,vN k)],aq [(0,.box (az ({c with U:=(eH c.U).1}:Co) (.Y 17 (([]:List ai).map ab) false) (.Y 2 n j) (.Y 2 (c.V.map ay) l) (.Y 9 o m))),(11,.box (bv ((eH c.U).2.1)))],34⟩) (λk=>k<=0) (λk=>0-k) 0 (λs=>s) (au (λs=>s) wT wH R) R (aE _) ?_;intro k A;have w:k<=1000:=oT;refine bk<|rW _ R (ak (bl _ _))<|rE 35<|uR<|aV R (λv=>by exact absurd (ax v) (dG _)) (λ_=>?_);refine Bh ?_;have a:=kC c;have b:lM c={jJ c with Z:=c.Z.map (wO (jJ c) (eH c.U).2.1.S)}:=((a.trans (aa (dQ (sI g)))).trans (aa d));rw[b];exact BH (rs:=[]) R (r:=.F []) (σ:=λz=>z) ⟨R,R⟩ R (ah (λz=>z) R R wH R)
 have d:=nA p;refine bk<|rV (vB (((eH c.U).2.1.kind)==2)) R<|oR 1 R<|rE 29<|aV R (λq=>?_) (λq=>?_)
 .have e:=mT q;refine a7<|oR 8 R<|aW R (Re c.u (eH c.U).2.1.S oZ false f.ok.u (wY f.ok.Z_).2.2)<|oR 7 R<|a1 R<|rE 46 ?_;have a:=kC c;have b:lM c={jJ c with u:=(qZ c.u (eH c.U).2.1.S oZ false).1}:=(((a.trans (aa (dQ (sI g)))).trans (dZ d)).trans (aa e));rw[b];exact BH (rs:=[]) R (r:=.F []) (σ:=λz=>z) ⟨R,R⟩ R (ah (λz=>z) R R wH R)
 have e:=nA q;refine bk<|rV (vB (((eH c.U).2.1.kind)==3)) R<|oR 1 R<|rE 31<|aV R (λr=>?_) (λr=>?_)
 .have h:=mT r;refine a7<|oR 3 R<|fU _ R R R ((zm (jJ c) u (Aj f) (eH c.U).2.1.S (wY f.ok.Z_).2.2 false [] j n l (c.V.map ay) m o).fB (λz=>z)) ?_;rintro _ _ ⟨rfl,rfl⟩;refine rE 35 ?_;have a:=kC c;have b:lM c=ET (jJ c) (eH c.U).2.1.S:=(((((a.trans (aa (dQ (sI g)))).trans (dZ d)).trans (dZ e)).trans (aa h))).trans (uY _ _).symm;rw[b];exact BH (rs:=[]) R (r:=.F []) (σ:=λz=>z) ⟨R,R⟩ R (ah (λz=>z) R R wH R)
 have h:=nA r;refine bk<|rV (vB (((eH c.U).2.1.kind)==4)) R<|oR 1 R<|rE 33<|aV R (λt=>?_) (λt=>?_)
 all_goals
  first|(have i:=mT t;refine a7<|oR 10 R<|rV (.agg [vU ((eH c.U).2.1.S),.v (.string ((eH c.U).2.1.data))]) R<|rV (.Y 2 ([[vU ((eH c.U).2.1.S),.v (.string ((eH c.U).2.1.data))]]) true) R<|aW R (QX c.mem [⟨(eH c.U).2.1.S,(eH c.U).2.1.data⟩] true (oH f.mem) (by show 1<=1000000;decide) (sK (P:=Pt.ok) ⟨(wY f.ok.Z_).2.2⟩))<|oR 3 R<|a1 R<|rE 50 ?_)|(have i:=nA t;refine mF ?_)
  have a:=kC c
  first|have b:lM c={jJ c with mem:=rP c.mem [⟨(eH c.U).2.1.S,(eH c.U).2.1.data⟩]}:=(((((a.trans (aa (dQ (sI g)))).trans (dZ d)).trans (dZ e)).trans (dZ h)).trans (aa i))|have b:lM c=(jJ c):=(((((a.trans (aa (dQ (sI g)))).trans (dZ d)).trans (dZ e)).trans (dZ h)).trans (dZ i))
  rw[b];exact BH (rs:=[]) R (r:=.F []) (σ:=λz=>z) ⟨R,R⟩ R (ah (λz=>z) R R wH R)
def FU{c:Co}{n:Nat}{s:Sp}(h:c.E n)(b:n+1<=890000)(e:s.ok):(tM c s).E (n+1):=by
 have d:(c.N++[s]).length<=n+1:=by have:=h.ok.ret;simp;omega
 exact⟨⟨h.ok.Q,h.ok.prog,h.ok.Z4,h.ok.r,h.ok.J,aE _,(λx a=>by cases a),aE _,(λx a=>by cases a),h.ok.Z',h.ok.Z0,h.ok.data,h.ok.u,qJ h.ok.U,h.ok.Z_,h.ok.asked,h.ok.Z1,h.ok.mem,h.ok.K,d,sJ h.ok.ZW (sK (P:=Sp.ok) e)⟩,b,h.cf,h.data,h.u,h.K,aE _,aE _,h.Z',h.prog,h.mem,h.ZO⟩
theorem Ah:∀{n:Nat} {c:Co} {m:Nat},c.E m->m+2*n<=890000->(bx n c).E (m+2*n)
 |0,_,_,h,_=>h
 | n + 1,c,m,h,b=>by
  have a:m<=m+2*(n+1):=oT;by_cases f:c.halt≠0\/c.Z.length=0
  .rw[mG f];exact h.mono a b
  .have i:c.Z[0]?=some (c.Z[0]'ad):=aA ad;have e:=WV h i;rw[iX ad (λq=>f (.inl q)) i];split
   .exact h.mono a b
   .split
    .exact(FU h ad (fE e)).mono ad b
    .split
     .exact h.mono a b
     .rename_i j;have d:(cA (c.Z[0]'ad)).store=true->c.V.length<=999:=λq=>by
       have:=pD h.cf;have: ¬(c.V.length:Int)>=c.Q.V:=λz=>j ⟨q,z⟩;omega
      rw[kB,(oT:m+2*(n+1)=(m+2)+2*n)];by_cases g:aj (c.Z[0]'ad).i.op=3
      .rw[Ke g];exact Ah (GJ h ad e d) ad
      .rw[An g];exact Ah (xZ h ad e d) ad
def TR{c:Co}{n:Nat}(h:c.E n):c.Q.o.toNat<=2:=oH (pD h.cf)
def Ih{c:Co}{m:Nat}(h:c.E m)(a:m+4<=890000):(ei c).E (m+4):=by
 have b:=TR h;exact(Ah h ad).mono ad a
theorem EM:∀{p:List Nat} {c:Co} {m:Nat},c.E m->m+p.length<=890000->(p.foldl iS c).E (m+p.length)
 |[],_,_,h,_=>h
 |i::p,c,m,h,a=>by
  have b:(i::p).length=p.length+1:=rfl;rw[b]at a⊢;rw[(oT:m+(p.length+1)=(m+1)+p.length)];exact EM (yY h ad i).1 ad
def JX{c:Co}{m:Nat}(h:c.E m)(a:m+2<=890000):(gY c).E (m+2):=by
 by_cases b:c.halt≠0
 .rw[show gY c=c from aa b];exact h.mono ad a
 obtain⟨p, -,hp, -,d⟩:=Ao (k:=c.Z.length) h.cf b R;rw[hp];exact(EM h ad).mono ad a
theorem Dq:∀{p:List Nat} {c:Co} {m:Nat},c.E m->m+p.length<=890000->(p.foldl iS c).Z.length=c.Z.length/\(p.foldl iS c).V=c.V/\(p.foldl iS c).L=c.L/\(p.foldl iS c).N=c.N
 |[],_,_,_,_=>⟨R,R,R,R⟩
 |i::p,c,m,h,b=>by
  have d:(i::p).length=p.length+1:=rfl;rw[d]at b;have a:=yY h ad i;have ih:=Dq (p:=p) a.1 ad;exact⟨ih.1.trans a.2.1,ih.2.1.trans a.2.2.2.1,ih.2.2.1.trans a.2.2.2.2.1,ih.2.2.2.trans a.2.2.2.2.2⟩
def nO{c:Co}{m:Nat}(h:c.E m)(b:m+2<=890000):(gY c).Z.length=c.Z.length/\(gY c).V=c.V/\(gY c).L=c.L/\(gY c).N=c.N:=by
 by_cases a:c.halt≠0
 .rw[show gY c=c from aa a];exact⟨R,R,R,R⟩
 obtain⟨p, -,hp, -,d⟩:=Ao (k:=c.Z.length) h.cf a R;rw[hp];exact Dq h ad
theorem EN:∀{n:Nat} {c:Co} {m:Nat},c.E m->(cl n c).E m/\(cl n c).V=c.V/\(cl n c).N=c.N
 |0,_,_,h=>⟨h,R,R⟩
 | n+1,c,m,h=>by
  by_cases a:(c.Z.length:Int)>=c.Q.Z\/c.L.length=0
  .rw[Ap a];exact⟨h,R,R⟩
  .have b:c.L[0]?=some (c.L[0]'ad):=aA ad;have d:=h.ok.ZV _ (aB b);have f:c.Z.length<=999:=oH (pD h.cf);have e:=CU (n:=n+1) (k:=0) ad (λq=>a (.inl q)) b;rw[(oT:n+1-(0+1)=n),(oT:n+1-0=n+1)]at e;rw[<-e];have ih:=EN (n:=n) (CV h d f);exact⟨ih.1,ih.2.1,ih.2.2⟩
def Ai{c:Co}{m:Nat}(h:c.E m):(lP c).E m/\(lP c).V=c.V/\(lP c).N=c.N:=by
 unfold lP;split
 .exact⟨h,R,R⟩
 exact EN h
def LF(c:Co)(w:Nat):(dM c w).1.V=c.V/\(dM c w).1.N=c.N/\(dM c w).1.Z=c.Z:=by
 unfold dM;split
 .exact⟨R,R,R⟩
 split<;>exact⟨R,R,R⟩
def LG(d:Co):(zP d).V=d.V/\(zP d).N=d.N/\(zP d).Z=d.Z:=LF (lJ d) (a8 d.prog d.J)
def JY{c:Co}{m:Nat}(h:c.E m)(b:c.L.length<=999):Co.E {c with L:=c.L++[⟨c.J,b_ c.J⟩],stop:=true} m:=by
 have a:(c.L++[(⟨c.J,b_ c.J⟩:Ft)]).length<=1000:=by simp;omega
 exact⟨⟨h.ok.Q,h.ok.prog,h.ok.Z4,h.ok.r,h.ok.J,aL a dT,sJ h.ok.ZV (sK ⟨h.ok.J,uT _⟩),h.ok.Z,h.ok.Z6,h.ok.Z',h.ok.Z0,h.ok.data,h.ok.u,h.ok.U,h.ok.Z_,h.ok.asked,h.ok.Z1,h.ok.mem,h.ok.K,h.ok.ret,h.ok.ZW⟩,h.nb,h.cf,h.data,h.u,h.K,h.Z,a,h.Z',h.prog,h.mem,h.ZO⟩
theorem Dr:∀{n:Nat} {c:Co} {m:Nat},c.E m->m+1<=890000->(ch n c).E (m+1)/\(ch n c).V=c.V/\(ch n c).N=c.N/\(ch n c).Z=c.Z
 |0,_,_,h,a=>⟨h.mono (fF _) a,R,R,R⟩
 | n +1,c,m,h,a=>by
  have d:=h.mono (fF m) a;by_cases b:c.stop=true\/(c.L.length:Int)>=c.Q.queue
  .rw[yZ b];exact⟨d,R,R,R⟩
  .have i:c.L.length<=999:=oH (pD h.cf);by_cases f:(es c.prog c.J).isSome=false
   .rw[Aq ad b f];exact⟨JY d i,R,R,R⟩
   .by_cases j:(bK c.u (ao c.J)).2.isSome=false
    .rw[uD ad b f j];split
     .exact⟨sH h a 2 (dV h.ok.J) oZ,R,R,R⟩
     .exact⟨d,R,R,R⟩
    .have e:=BC (n:=n+1) (k:=0) ad b f j;rw[(oT:n+1-(0+1)=n),(oT:n+1-0=n+1)]at e;rw[<-e];have ih:=Dr (n:=n) (CW h i) a;have g:=LG c;exact⟨ih.1,ih.2.1.trans g.1,ih.2.2.1.trans g.2.1,ih.2.2.2.trans g.2.2⟩
def uX{c:Co}{m:Nat}(h:c.E m)(a:m+1<=890000):(eN c).E (m+1)/\(eN c).V=c.V/\(eN c).N=c.N/\(eN c).Z=c.Z:=by
 unfold eN;split
 .exact⟨h.mono (fF _) a,R,R,R⟩
 exact Dr h a
def JZ{c:Co}{m:Nat}(h:c.E m)(b:m+1<=890000):(c5 c).E (m+1)/\(c5 c).L=c.L/\(c5 c).N=c.N/\(c5 c).Z=c.Z/\(c5 c).V=c.V:=by
 unfold c5
 cases a:c.V with
 |nil=>exact⟨h.mono (fF _) b,R,R,R,a⟩
 |cons p l=>
  dsimp only;split
  .exact⟨sH h b 3 (dV (h.ok.Z0 p (by rw[a];exact ce ..)).W) oZ,R,R,R,a⟩
  .exact⟨h.mono (fF _) b,R,R,R,a⟩
def EO{c:Co}{m:Nat}(h:c.E m)(b:m+1<=890000):(cj c).E (m+1)/\(cj c).L=c.L/\(cj c).N=c.N/\(cj c).Z=c.Z/\(cj c).V=c.V:=by
 have d:=h.mono (fF m) b;unfold cj;split
 .exact⟨d,R,R,R,R⟩
 by_cases e:(cR c.data).isSome=true/\((cR c.data).getD qE).data.size≠0
 .rw[uZ e];have a:=sH h b 4 h.gd.ZP ((cR c.data).getD qE).data;have g:=ir.1 (h.gd.Y5 ((cR c.data).getD qE).S);exact⟨⟨⟨a.ok.Q,a.ok.prog,a.ok.Z4,a.ok.r,a.ok.J,a.ok.Z5,a.ok.ZV,a.ok.Z,a.ok.Z6,a.ok.Z',a.ok.Z0,g.2,a.ok.u,a.ok.U,a.ok.Z_,a.ok.asked,a.ok.Z1,a.ok.mem,a.ok.K,a.ok.ret,a.ok.ZW⟩,b,a.cf,g.1,a.u,a.K,a.Z,a.Z5,a.Z',a.prog,a.mem,a.ZO⟩,R,R,R,R⟩
 rw[wZ e];exact⟨d,R,R,R,R⟩
def wX{c:Co}{m:Nat}(h:c.E m)(e:m+2<=890000):(tY c).E (m+2)/\(tY c).L=c.L/\(tY c).N=c.N/\(tY c).Z=c.Z:=by
 rw[mO];have d:=eR h;split
 .have b:=JZ d ad;have a:=EO b.1 ad;exact⟨a.1,a.2.1.trans b.2.1,a.2.2.1.trans b.2.2.1,a.2.2.2.1.trans b.2.2.2.1⟩
 have a:=EO d ad;exact⟨a.1.mono ad e,a.2.1,a.2.2.1,a.2.2.2.1⟩
def rG(c:Co):(lM c).L=c.L/\(lM c).V=c.V/\(lM c).N=c.N/\(lM c).Z.length=c.Z.length:=by
 rw[kC];split
 .unfold ID
  repeat' split
  .exact⟨R,R,R,aH ..⟩
  .exact⟨R,R,R,R⟩
  .rw[<-uY];exact⟨R,R,R,R⟩
  .exact⟨R,R,R,R⟩
  exact⟨R,R,R,R⟩
 exact⟨R,R,R,R⟩
def mC(c:Co):(kK c).V=c.V/\(kK c).N=c.N:=by
 unfold kK;split
 .exact⟨R,R⟩
 split<;>exact⟨R,R⟩
def EL{c:Co}{n:Nat}(h:c.ok n)(l:n<=890000)(d:jF c=true):c.E n:=by
 unfold jF at d;simp only[aP,aY]at d;obtain⟨⟨⟨⟨⟨⟨⟨⟨⟨⟨⟨f,s⟩,j⟩,t⟩,u⟩,v⟩,a⟩,b⟩,k⟩,q⟩,r⟩,g⟩:=d;unfold Ax at a b;simp only[aP,aY]at a b;have w:=pD f;have m:c.mem.size<=256:=by
  have e:c.mem.toList=(jB c.mem).toList:=sU j;have i:c.mem.size=(jB c.mem).size:=by rw[<-oc, <-oc (jB c.mem),e]
  rw[i,wE];unfold hY;repeat' split
  all_goals omega
 have o:∀x∈c.V,x.data.size<=4:=λx p=>by
  have:=rC.1 g x p;unfold kZ at this;simp only[aP,aY]at this;omega
 exact⟨h,l,f,a.1.1,b.1.1,k,oT,oT,oT,oT,m,o⟩
def pv(K:AH)(m a s2:Nat)(c:Co)(F S T:AV)(h':AH):Prop:=
 (c.Z=[]/\h'=an K m (some (.box (az c (.Y 17 [] false) F S T))))\/
 ∃(b:Nat) (A B:List ai) (k:Bool),(b=a\/b=s2)/\A.length+c.Z.length+B.length<=1000/\h'=an (an K m (some (.box (az c (.X b A.length c.Z.length k) F S T)))) b (some (.arr ((A++c.Z++B).map ab) 17))
def Qp{f:FuncId}{h:a'}{c:Co}{l n o:Bool}{p q r:List (List AV)}(H:pM C0.P C0.G f [.ptr 0 0] (aq [(0,h)]) 1 (λx h'=>x=.F []/\VF 1 c (.Y 2 p l) (.Y 2 q n) (.Y 9 r o) h'))(m:Nat)(K:AH)(s2:Nat)(t:jm (λ_=>m) K 1 s2 [(0,h)]):
  pM C0.P C0.G f [.ptr m 0] K s2 (λx h'=>x=.F []/\pv K m s2 s2 c (.Y 2 p l) (.Y 2 q n) (.Y 9 r o) h'):=by
 refine H.ZH (λ_=>m) K s2 R t R R _ λw h' g=>?_;obtain⟨rfl,g⟩:=g;rcases g with ⟨s,rfl⟩|⟨b,A,B,k,v,u,rfl⟩
 .refine⟨_,⟨rfl,.inl ⟨s,rfl⟩⟩,λy blk a=>?_⟩;by_cases d:y=m
  .subst d;rw[dB]at a;injection a with a;subst a;exact .inl ⟨0,_,R,R,R⟩
  rw[cI _ _ d]at a;exact .inr ⟨a,λx _ e=>d e.symm⟩
 have i:b=1:=oT;subst i;refine⟨_,⟨R,.inr ⟨s2,A,B,k,.inr R,u,R⟩⟩,λy blk a=>?_⟩;by_cases j:y=s2
 .subst j;rw[dB]at a;injection a with a;subst a;exact .inl ⟨1,_,R,(wD _ _ _).symm,R⟩
 rw[cI _ _ j]at a;by_cases d:y=m
 .subst d;rw[dB]at a;injection a with a;subst a;exact .inl ⟨0,_,R,R,R⟩
 rw[cI _ _ d]at a;exact .inr ⟨a,λx _ e=>d e.symm⟩
def Qq{f:FuncId}{D E:a'}{c:Co}{l n o:Bool}{p q r:List (List AV)}(H:pM C0.P C0.G f [.ptr 0 0] (aq [(0,D),(1,E)]) 2 (λx h'=>x=.F []/\VF 2 c (.Y 2 p l) (.Y 2 q n) (.Y 9 r o) h'))(m d:Nat)(K:AH)(s2:Nat)(N:jm (λz=>match z with|0=>m|_=>d) K 2 s2 [(0,D),(1,E)])(F:m≠d):
  pM C0.P C0.G f [.ptr m 0] K s2 (λx h'=>x=.F []/\pv (an K d none) m d s2 c (.Y 2 p l) (.Y 2 q n) (.Y 9 r o) h'):=by
 have O:UQ (λz=>match z with|0=>m|_=>d) 2=true:=by
  have:Nat.beq m d=false:=by rw[<-eJ];exact λe=>F (aO e)
  simp[UQ,List.range,List.range.loop,this]
 have u:∀y, ¬y=m-> ¬y=d->∀x,x<2->(λz=>match z with|0=>m|_=>d) x≠y:=by
  intro y L M x _ e
  cases x with
  |zero=>exact L e.symm
  |succ x=>exact M e.symm
 refine H.ZH (λz=>match z with|0=>m|_=>d) K s2 R N O R _ λS h' w=>?_;obtain⟨rfl,w⟩:=w;rcases w with ⟨J,rfl⟩|⟨b,A,B,k,Q,P,rfl⟩
 .refine⟨_,⟨rfl,.inl ⟨J,rfl⟩⟩,λy blk a=>?_⟩;by_cases g:y=m
  .subst g;rw[dB]at a;injection a with a;subst a;exact .inl ⟨0,_,R,R,R⟩
  .rw[cI _ _ g]at a;by_cases h:y=d
   .subst h;rw[dB]at a;cases a
   .rw[cI _ _ h]at a;exact .inr ⟨a,u y g h⟩
 .have s:b=1\/b=2:=oT;have v:∀i,i=Gg (λz=>match z with|0=>m|_=>d) 2 s2 b->(i=d\/i=s2)->∃C,((uW (Gg (λz=>match z with|0=>m|_=>d) 2 s2) (.F [])=.F [])/\pv (an K d none) m d s2 c (.Y 2 p l) (.Y 2 q n) (.Y 9 r o) C)/\∀y blk,C y=some blk->(∃x j,aq [(0,.box (az c (.X b A.length c.Z.length k) (.Y 2 p l) (.Y 2 q n) (.Y 9 r o))),(b,.arr ((A++c.Z++B).map ab) 17)] x=some j/\y=Gg (λz=>match z with|0=>m|_=>d) 2 s2 x/\blk=DI (Gg (λz=>match z with|0=>m|_=>d) 2 s2) j)\/(K y=some blk/\∀x,x<2->(λz=>match z with|0=>m|_=>d) x≠y):=by
   intro i t G;refine⟨_,⟨R,.inr ⟨i,A,B,k,G,P,R⟩⟩,λy blk a=>?_⟩;by_cases I:y=i
   .subst I;rw[dB]at a;injection a with a;subst a;refine .inl ⟨b,.arr ((A++c.Z++B).map ab) 17,?_,t,R⟩;rcases s with rfl|rfl<;>rfl
   .rw[cI _ _ I]at a;by_cases g:y=m
    .subst g;rw[dB]at a;injection a with a;subst a;refine .inl ⟨0,_,R,R,?_⟩;rw[t];rfl
    .rw[cI _ _ g]at a;by_cases h:y=d
     .subst h;rw[dB]at a;cases a
     .rw[cI _ _ h]at a;exact .inr ⟨a,u y g h⟩
  rcases s with rfl|rfl
  .exact v d rfl (.inl rfl)
  .exact v s2 rfl (.inr rfl)
def yr{f:FuncId}{d:a'}{n:Nat}{c:Co}{h i j:Bool}{k l o:List (List AV)}{rows:List (List AV)}(H:pM C0.P C0.G f [.ptr 0 0] (aq [(0,d)]) 1 (λx h'=>x=.F []/\h'=aq [(0,.box (az c (.X 1 0 n false) (.Y 2 k h) (.Y 2 l i) (.Y 9 o j))),(1,.arr rows 17)]))(m:Nat)(K:AH)(s2:Nat)(p:jm (λ_=>m) K 1 s2 [(0,d)]):
  pM C0.P C0.G f [.ptr m 0] K s2 (λx h'=>x=.F []/\h'=an (an K m (some (.box (az c (.X s2 0 n false) (.Y 2 k h) (.Y 2 l i) (.Y 9 o j))))) s2 (some (.arr rows 17))):=by
 refine H.ZH (λ_=>m) K s2 R p R R _ λr h' q=>?_;obtain⟨rfl,rfl⟩:=q;refine⟨_,⟨R,R⟩,λy blk a=>?_⟩;by_cases g:y=s2
 .subst g;rw[dB]at a;injection a with a;subst a;exact .inl ⟨1,_,R,(wD _ _ _).symm,R⟩
 rw[cI _ _ g]at a;by_cases b:y=m
 .subst b;rw[dB]at a;injection a with a;subst a;exact .inl ⟨0,_,R,R,R⟩
 rw[cI _ _ b]at a;exact .inr ⟨a,λx _ e=>b e.symm⟩
def s0(c:Co):Co:={c with Z3:=wrap64 (c.Z3+1)}
def s1(c:Co):Co:=lM (s0 c)
def s2(c:Co):Co:=kK (s1 c)
def s3(c:Co):Co:=ei (s2 c)
def eC(c:Co):Co:=gY (s3 c)
def e6(c:Co):Co:=lP (eC c)
def e7(c:Co):Co:=eN (e6 c)
def eL(c:Co):Co:=tY (e7 c)
def TM(c:Co):g6 c=eL c:=rfl
def ym{c:Co}{n:Nat}(h:c.E n):(s0 c).E n:=⟨⟨h.ok.Q,h.ok.prog,h.ok.Z4,h.ok.r,h.ok.J,h.ok.Z5,h.ok.ZV,h.ok.Z,h.ok.Z6,h.ok.Z',h.ok.Z0,h.ok.data,h.ok.u,h.ok.U,h.ok.Z_,h.ok.asked,h.ok.Z1,h.ok.mem,h.ok.K,h.ok.ret,h.ok.ZW⟩,h.nb,h.cf,h.data,h.u,h.K,h.Z,h.Z5,h.Z',h.prog,h.mem,h.ZO⟩
structure r7(c:Co)(n:Nat):Prop where
 k0:(s0 c).E n
 k1:(s1 c).E (n+1)
 k2:(s2 c).E (n+1)
 k3:(s3 c).E (n+5)
 k4:(eC c).E (n+7)
 k5:(e6 c).E (n+7)
 k6:(e7 c).E (n+8)
 k7:(eL c).E (n+10)
def Ql{c:Co}{n:Nat}(h:c.E n)(j:n+20<=890000):r7 c n:=by
 have a:=ym h;have b:(s1 c).E (n+1):=LH a ad;have d:(s2 c).E (n+1):=LJ b;have e:(s3 c).E (n+5):=Ih d ad;have f:(eC c).E (n+7):=JX e ad;have g:(e6 c).E (n+7):=(Ai f).1;have i:(e7 c).E (n+8):=(uX g ad).1;exact⟨a,b,d,e,f,g,i,(wX i ad).1⟩
def xX{c:Co}{n:Nat}(h:c.ok n)(a:n+20<=890000):(uG c).ok (n+10):=by
 unfold uG;split
 .rename_i b;rw[TM];exact(Ql (EL h ad b) a).k7.ok
 exact⟨h.Q,h.prog,h.Z4,h.r,h.J,h.Z5,h.ZV,h.Z,h.Z6,h.Z',h.Z0,h.data,h.u,aL h.U ad,h.Z_,h.asked,h.Z1,h.mem,h.K,aL h.ret ad,h.ZW⟩
def Ie{c:Co}{R b F a S d T e:AV}(g:R=b)(f:F=a)(h:S=d)(i:T=e):some (a'.box (az c R F S T))=some (a'.box (az c b a d e)):=by rw[g,f,h,i]
inductive pk where
 |e0|o0|e1|o1|e2
 |o2 (A B:List ai) (k:Bool)
 |e3
 |o3 (A B:List ai) (k:Bool)
 |s4|s5|s6|s7
def zl(c:Co)(k:Nat)(d:c.E k)(f:c.Z≠[])(h g i j:Bool):pM C0.P C0.G 74 [.ptr 0 0] (aq [(0,.box (az c (.Y 17 (c.Z.map ab) h) (.Y 2 (c.L.map a_) g) (.Y 2 (c.V.map ay) i) (.Y 9 (c.N.map a2) j)))]) 1 (λx h'=>x=.F []/\h'=aq [(0,.box (az c (.X 1 0 c.Z.length false) (.Y 2 (c.L.map a_) true) (.Y 2 (c.V.map ay) true) (.Y 9 (c.N.map a2) true))),(1,.arr (c.Z.map ab) 17)]):=by
 obtain⟨e,l,a⟩:=List.exists_cons_of_ne_nil f;have b:=d.Z;rw[a]at b⊢;exact A5 c k d e l b h g i j
def WI(c:Co)(k:Nat)(m:c.E k)(A B:List ai)(lo n:Nat)(j:Bool)(h:A.length=lo)(o:c.Z.length=n)(l:A.length+n+B.length<=1000)(f:∀x∈A,x.ok)(g:∀x∈B,x.ok)(a b:Bool)(d e:List (List AV)):pM C0.P C0.G 76 [.ptr 0 0] (aq [(0,.box (az c (.X 1 lo n j) (.Y 2 (c.L.map a_) true) (.Y 2 d a) (.Y 9 e b))),(1,.arr ((A++c.Z++B).map ab) 17)]) 2 (λx h'=>x=.F []/\VF 2 (kK c) (.Y 2 ((kK c).L.map a_) true) (.Y 2 d a) (.Y 9 e b) h'):=by
 cases p:yD (b5 c)with
 |none=>exact WP c k m A B lo n j h o l f g p a b d e
 |some i=>exact WQ c k m A B lo n j h o l f g i p a b d e
def Qm{a:Type}{l m:List a}(h:l=[])(e:m.length=l.length):[]=m:=by
 subst h;exact(gq e).symm
def VB{b:Bool}(h:(!b)=true): ¬b=true:=by cases b<;>simp_all
def yn(c:Co)(a:Nat)(b:c.ok a)(f:a+20<=890000)(d:jF c=false):bI C0 47 [.agg (fm c)] (.agg (fm (uG c))):=by
 refine eb func47 R<|zC (Ip c a b ad)<|aV R (λ_=>?_) (λe=>by exact absurd (dQ (sI e)) (by rw[d];decide));refine S' 0 R<|a1 R<|cg 0 R ?_;rw[show uG c=c from dZ (by rw[d];decide)];exact dK R ga R R
noncomputable def BY:Code->Code
 | .seq a _=>a
 |c=>c
noncomputable def WJ:Code->Code
 | .seq _ b=>b
 |c=>c
noncomputable def WK:Code:=(WJ (BY (WJ (WJ (WJ (WJ (WJ (WJ (Tryz.f47.body.getD .skip)))))))))
abbrev tx(c:Co):pk->a4:=λb=>match b with| .e0=>⟨a6 [(2,.ptr 1 0),(9,vB (!(jF c))),(3,.ptr 7 0),(21,.agg [.a 75 [] [],.a 76 [] [],.a 77 [] [],.a 78 [] [],.a 79 [] [],.a 80 [] [],.a 81 [] []]),(22,vI 0)],aq [(1,.box h5),(7,.box (az (s0 c) (.Y 17 ([]) false) (.Y 2 ((s0 c).L.map a_) true) (.Y 2 ((s0 c).V.map ay) true) (.Y 9 ((s0 c).N.map a2) true)))],23⟩| .o0=>⟨a6 [(2,.ptr 1 0),(9,vB (!(jF c))),(3,.ptr 7 0),(21,.agg [.a 75 [] [],.a 76 [] [],.a 77 [] [],.a 78 [] [],.a 79 [] [],.a 80 [] [],.a 81 [] []]),(22,vI 0)],aq [(1,.box h5),(7,.box (az (s0 c) (.X 22 0 c.Z.length false) (.Y 2 ((s0 c).L.map a_) true) (.Y 2 ((s0 c).V.map ay) true) (.Y 9 ((s0 c).N.map a2) true))),(22,.arr ((([]:List ai)++(s0 c).Z++[]).map ab) 17)],23⟩| .e1=>⟨a6 [(2,.ptr 1 0),(9,vB (!(jF c))),(3,.ptr 7 0),(21,.agg [.a 75 [] [],.a 76 [] [],.a 77 [] [],.a 78 [] [],.a 79 [] [],.a 80 [] [],.a 81 [] []]),(22,vI 1)],aq [(1,.box h5),(7,.box (az (s1 c) (.Y 17 ([]) false) (.Y 2 ((s1 c).L.map a_) true) (.Y 2 ((s1 c).V.map ay) true) (.Y 9 ((s1 c).N.map a2) true)))],23⟩| .o1=>⟨a6 [(2,.ptr 1 0),(9,vB (!(jF c))),(3,.ptr 7 0),(21,.agg [.a 75 [] [],.a 76 [] [],.a 77 [] [],.a 78 [] [],.a 79 [] [],.a 80 [] [],.a 81 [] []]),(22,vI 1)],aq [(1,.box h5),(7,.box (az (s1 c) (.X 22 0 c.Z.length false) (.Y 2 ((s1 c).L.map a_) true) (.Y 2 ((s1 c).V.map ay) true) (.Y 9 ((s1 c).N.map a2) true))),(22,.arr ((([]:List ai)++(s1 c).Z++[]).map ab) 17)],23⟩| .e2=>⟨a6 [(2,.ptr 1 0),(9,vB (!(jF c))),(3,.ptr 7 0),(21,.agg [.a 75 [] [],.a 76 [] [],.a 77 [] [],.a 78 [] [],.a 79 [] [],.a 80 [] [],.a 81 [] []]),(22,vI 2)],aq [(1,.box h5),(7,.box (az (s2 c) (.Y 17 ([]) false) (.Y 2 ((s2 c).L.map a_) true) (.Y 2 ((s2 c).V.map ay) true) (.Y 9 ((s2 c).N.map a2) true)))],23⟩| .o2 A B a=>⟨a6 [(2,.ptr 1 0),(9,vB (!(jF c))),(3,.ptr 7 0),(21,.agg [.a 75 [] [],.a 76 [] [],.a 77 [] [],.a 78 [] [],.a 79 [] [],.a 80 [] [],.a 81 [] []]),(22,vI 2)],aq [(1,.box h5),(7,.box (az (s2 c) (.X 22 A.length ((s2 c).Z.length) a) (.Y 2 ((s2 c).L.map a_) true) (.Y 2 ((s2 c).V.map ay) true) (.Y 9 ((s2 c).N.map a2) true))),(22,.arr ((A++(s2 c).Z++B).map ab) 17)],23⟩| .e3=>⟨a6 [(2,.ptr 1 0),(9,vB (!(jF c))),(3,.ptr 7 0),(21,.agg [.a 75 [] [],.a 76 [] [],.a 77 [] [],.a 78 [] [],.a 79 [] [],.a 80 [] [],.a 81 [] []]),(22,vI 3)],aq [(1,.box h5),(7,.box (az (s3 c) (.Y 17 ([]) false) (.Y 2 ((s3 c).L.map a_) true) (.Y 2 ((s3 c).V.map ay) false) (.Y 9 ((s3 c).N.map a2) false)))],23⟩| .o3 A B a=>⟨a6 [(2,.ptr 1 0),(9,vB (!(jF c))),(3,.ptr 7 0),(21,.agg [.a 75 [] [],.a 76 [] [],.a 77 [] [],.a 78 [] [],.a 79 [] [],.a 80 [] [],.a 81 [] []]),(22,vI 3)],aq [(1,.box h5),(7,.box (az (s3 c) (.X 22 A.length ((s3 c).Z.length) a) (.Y 2 ((s3 c).L.map a_) true) (.Y 2 ((s3 c).V.map ay) false) (.Y 9 ((s3 c).N.map a2) false))),(22,.arr ((A++(s3 c).Z++B).map ab) 17)],23⟩| .s4=>⟨a6 [(2,.ptr 1 0),(9,vB (!(jF c))),(3,.ptr 7 0),(21,.agg [.a 75 [] [],.a 76 [] [],.a 77 [] [],.a 78 [] [],.a 79 [] [],.a 80 [] [],.a 81 [] []]),(22,vI 4)],aq [(1,.box h5),(7,.box (az (eC c) (.Y 17 ((eC c).Z.map ab) false) (.Y 2 ((eC c).L.map a_) true) (.Y 2 ((eC c).V.map ay) false) (.Y 9 ((eC c).N.map a2) false)))],23⟩| .s5=>⟨a6 [(2,.ptr 1 0),(9,vB (!(jF c))),(3,.ptr 7 0),(21,.agg [.a 75 [] [],.a 76 [] [],.a 77 [] [],.a 78 [] [],.a 79 [] [],.a 80 [] [],.a 81 [] []]),(22,vI 5)],aq [(1,.box h5),(7,.box (az (e6 c) (.Y 17 ((e6 c).Z.map ab) false) (.Y 2 ((e6 c).L.map a_) true) (.Y 2 ((e6 c).V.map ay) false) (.Y 9 ((e6 c).N.map a2) false)))],23⟩| .s6=>⟨a6 [(2,.ptr 1 0),(9,vB (!(jF c))),(3,.ptr 7 0),(21,.agg [.a 75 [] [],.a 76 [] [],.a 77 [] [],.a 78 [] [],.a 79 [] [],.a 80 [] [],.a 81 [] []]),(22,vI 6)],aq [(1,.box h5),(7,.box (az (e7 c) (.Y 17 ((e7 c).Z.map ab) false) (.Y 2 ((e7 c).L.map a_) false) (.Y 2 ((e7 c).V.map ay) false) (.Y 9 ((e7 c).N.map a2) false)))],23⟩| .s7=>⟨a6 [(2,.ptr 1 0),(9,vB (!(jF c))),(3,.ptr 7 0),(21,.agg [.a 75 [] [],.a 76 [] [],.a 77 [] [],.a 78 [] [],.a 79 [] [],.a 80 [] [],.a 81 [] []]),(22,vI 7)],aq [(1,.box h5),(7,.box (az (eL c) (.Y 17 ((eL c).Z.map ab) false) (.Y 2 ((eL c).L.map a_) false) (.Y 2 ((eL c).V.map ay) false) (.Y 9 ((eL c).N.map a2) false)))],23⟩
abbrev tz(c:Co):pk->Prop:=λa=>match a with| .e0=>(s0 c).Z=[]| .e1=>(s1 c).Z=[]| .e2=>(s2 c).Z=[]| .e3=>(s3 c).Z=[]| .o2 A B _=>A.length+(s2 c).Z.length+B.length<=1000| .o3 A B _=>A.length+(s3 c).Z.length+B.length<=1000|_=>True
abbrev B0:pk->Nat:=λa=>match a with| .e0| .o0=>7| .e1| .o1=>6| .e2| .o2 _ _ _=>5| .e3| .o3 _ _ _=>4| .s4=>3| .s5=>2| .s6=>1| .s7=>0
def MJ(c:Co)(b:Nat)(m:c.E b)(r:b+20<=890000)(a:r7 c b){Q:c8->a4->Prop}(o:∀k n,di k ⟨a6 [(2,.ptr 1 0),(3,.ptr 7 0)],aq [(1,.box h5),(7,.box (az (eL c) (.Y 17 ((eL c).Z.map ab) false) (.Y 2 ((eL c).L.map a_) false) (.Y 2 ((eL c).V.map ay) false) (.Y 9 ((eL c).N.map a2) false)))],23⟩ n->Q .normal k)(l:pk)(g:tz c l){st:a4}(σ:Nat->Nat)(p:di st (tx c l) σ):eA C1 (bI C1) WK st Q:=by
 refine kO<|sX (κ:=pk) (tx c) (tz c) B0 l (σ) p R g ?_;intro q j;rcases q with _|_|_|_|_|⟨A,B,e⟩|_|⟨A,B,e⟩|_|_|_|_
 .have d:(s0 c).Z=[]:=j;refine bk<|rV (vB true) R<|rE 24<|uR<|aV R (λ_=>?_) (λh=>by cases h);refine mF<|uR<|kO<|bk<|nW (.a 75 [] []) R R (⟨dT,dT⟩)<|oR 1 R<|rE 26<|a7<|oR 1 R<|fU _ R R R ((WO (s0 c) b a.k0 d true true true ((s0 c).L.map a_) ((s0 c).N.map a2)).fB (λ_=>7)) ?_;rintro _ _ ⟨rfl,rfl⟩;refine rE 28<|a7<|rV (vI 1) R<|oR 1 R<|rE 30<|.mk _ (.refl _) ⟨.e1,λi=>i,au _ wT ⟨⟨R,R,R⟩,⟨R,(Ie (c:=s1 c) R (am (λz:List Ft=>AV.Y 2 (z.map a_) true) (show(s0 c).L=(s1 c).L from((rG (s0 c)).1).symm)) (am (λz:List Pt=>AV.Y 2 (z.map ay) true) (show(s0 c).V=(s1 c).V from((rG (s0 c)).2.1).symm)) (am (λz:List Sp=>AV.Y 9 (z.map a2) true) (show(s0 c).N=(s1 c).N from((rG (s0 c)).2.2.1).symm))),R⟩,tr⟩ R,R,(Qm d (rG (s0 c)).2.2.2).symm,by show(6:Nat)<7;decide⟩
 .refine bk<|rV (vB true) R<|rE 24<|uR<|aV R (λ_=>?_) (λh=>by cases h);refine mF<|uR<|kO<|bk<|nW (.a 75 [] []) R R (⟨dT,dT⟩)<|oR 1 R<|rE 26<|a7<|oR 1 R<|fU _ R R R ((yt (s0 c) b a.k0 [] [] 0 c.Z.length false R R (by have:=m.Z;simpa using this) true true true ((s0 c).L.map a_) ((s0 c).N.map a2)).Y4 (λz=>match z with|0=>7|_=>22)) ?_;rintro _ _ ⟨rfl,rfl⟩;refine rE 28<|a7<|rV (vI 1) R<|oR 1 R<|rE 30<|.mk _ (.refl _) ⟨.o1,λi=>i,au _ wT ⟨⟨R,R,R⟩,⟨R,(Ie (c:=s1 c) R (am (λz:List Ft=>AV.Y 2 (z.map a_) true) (show(s0 c).L=(s1 c).L from((rG (s0 c)).1).symm)) (am (λz:List Pt=>AV.Y 2 (z.map ay) true) (show(s0 c).V=(s1 c).V from((rG (s0 c)).2.1).symm)) (am (λz:List Sp=>AV.Y 9 (z.map a2) true) (show(s0 c).N=(s1 c).N from((rG (s0 c)).2.2.1).symm))),R⟩,⟨R,R,R⟩,tr⟩ R,R,tr,by show(6:Nat)<7;decide⟩
 .have d:(s1 c).Z=[]:=j;refine bk<|rV (vB true) R<|rE 24<|uR<|aV R (λ_=>?_) (λh=>by cases h);refine mF<|uR<|kO<|bk<|nW (.a 76 [] []) R R (⟨dT,dT⟩)<|oR 1 R<|rE 26<|a7<|oR 1 R<|fU _ R R R (Qp (WR (s1 c) (b+1) a.k1 d true true ((s1 c).V.map ay) ((s1 c).N.map a2)) 7 _ _ ⟨⟨R,R,R,R⟩,tr⟩) ?_;rintro _ _ ⟨rfl,⟨g,rfl⟩|⟨_,A,B,e,rfl|rfl,f,rfl⟩⟩
  .refine rE 28<|a7<|rV (vI 2) rfl<|oR 1 rfl<|rE 30<|.mk _ (.refl _) ⟨.e2,λi=>i,au _ wT ⟨⟨R,R,R⟩,⟨R,(Ie (c:=s2 c) R R (am (λz:List Pt=>AV.Y 2 (z.map ay) true) (show(s1 c).V=(s2 c).V from((mC (s1 c)).1).symm)) (am (λz:List Sp=>AV.Y 9 (z.map a2) true) (show(s1 c).N=(s2 c).N from((mC (s1 c)).2).symm))),R⟩,tr⟩ R,R,g,by show(5:Nat)<6;decide⟩
  all_goals (refine rE 28<|a7<|rV (vI 2) R<|oR 1 R<|rE 30<|.mk _ (.refl _) ⟨(.o2 A B e),λi=>match i with|22=>27|i=>i,au _ wT ⟨⟨R,R,R⟩,⟨R,(Ie (c:=s2 c) R R (am (λz:List Pt=>AV.Y 2 (z.map ay) true) (show(s1 c).V=(s2 c).V from((mC (s1 c)).1).symm)) (am (λz:List Sp=>AV.Y 9 (z.map a2) true) (show(s1 c).N=(s2 c).N from((mC (s1 c)).2).symm))),R⟩,⟨R,R,R⟩,tr⟩ R,R,f,by show(5:Nat)<6;decide⟩)
 .refine bk<|rV (vB true) R<|rE 24<|uR<|aV R (λ_=>?_) (λh=>by cases h);refine mF<|uR<|kO<|bk<|nW (.a 76 [] []) R R (⟨dT,dT⟩)<|oR 1 R<|rE 26<|a7<|oR 1 R<|fU _ R R R (Qq (WI (s1 c) (b+1) a.k1 [] [] 0 c.Z.length false R (rG (s0 c)).2.2.2 (by have:=m.Z;simpa using this) (λx h=>by cases h) (λx h=>by cases h) true true ((s1 c).V.map ay) ((s1 c).N.map a2)) 7 22 _ _ ⟨⟨R,R,R,R⟩,⟨R,R,R,R⟩,tr⟩ dT) ?_;rintro _ _ ⟨rfl,⟨g,rfl⟩|⟨_,A,B,e,rfl|rfl,f,rfl⟩⟩
  .refine rE 28<|a7<|rV (vI 2) rfl<|oR 1 rfl<|rE 30<|.mk _ (.refl _) ⟨.e2,λi=>i,au _ wT ⟨⟨R,R,R⟩,⟨R,(Ie (c:=s2 c) R R (am (λz:List Pt=>AV.Y 2 (z.map ay) true) (show(s1 c).V=(s2 c).V from((mC (s1 c)).1).symm)) (am (λz:List Sp=>AV.Y 9 (z.map a2) true) (show(s1 c).N=(s2 c).N from((mC (s1 c)).2).symm))),R⟩,tr⟩ R,R,g,by show(5:Nat)<6;decide⟩
  .refine rE 28<|a7<|rV (vI 2) R<|oR 1 R<|rE 30<|.mk _ (.refl _) ⟨(.o2 A B e),λi=>i,au _ wT ⟨⟨R,R,R⟩,⟨R,(Ie (c:=s2 c) R R (am (λz:List Pt=>AV.Y 2 (z.map ay) true) (show(s1 c).V=(s2 c).V from((mC (s1 c)).1).symm)) (am (λz:List Sp=>AV.Y 9 (z.map a2) true) (show(s1 c).N=(s2 c).N from((mC (s1 c)).2).symm))),R⟩,⟨R,R,R⟩,tr⟩ R,R,f,by show(5:Nat)<6;decide⟩
  refine rE 28<|a7<|rV (vI 2) R<|oR 1 R<|rE 30<|.mk _ (.refl _) ⟨(.o2 A B e),λi=>match i with|22=>27|i=>i,au _ wT ⟨⟨R,R,R⟩,⟨R,(Ie (c:=s2 c) R R (am (λz:List Pt=>AV.Y 2 (z.map ay) true) (show(s1 c).V=(s2 c).V from((mC (s1 c)).1).symm)) (am (λz:List Sp=>AV.Y 9 (z.map a2) true) (show(s1 c).N=(s2 c).N from((mC (s1 c)).2).symm))),R⟩,⟨R,R,R⟩,tr⟩ R,R,f,by show(5:Nat)<6;decide⟩
 .have d:(s2 c).Z=[]:=j;refine bk<|rV (vB true) R<|rE 24<|uR<|aV R (λ_=>?_) (λh=>by cases h);refine mF<|uR<|kO<|bk<|nW (.a 77 [] []) R R (⟨dT,dT⟩)<|oR 1 R<|rE 26<|a7<|oR 1 R<|fU _ R R R (Qp (Qu (s2 c) (b+1) a.k2 d) 7 _ _ ⟨⟨R,R,R,R⟩,tr⟩) ?_;rintro _ _ ⟨rfl,⟨g,rfl⟩|⟨_,A,B,e,rfl|rfl,f,rfl⟩⟩
  .refine rE 28<|a7<|rV (vI 3) rfl<|oR 1 rfl<|rE 30<|.mk _ (.refl _) ⟨.e3,λi=>i,au _ wT ⟨⟨R,R,R⟩,⟨R,(Ie (c:=s3 c) R R R R),R⟩,tr⟩ R,R,g,by show(4:Nat)<5;decide⟩
  all_goals (refine rE 28<|a7<|rV (vI 3) R<|oR 1 R<|rE 30<|.mk _ (.refl _) ⟨(.o3 A B e),λi=>match i with|22=>27|i=>i,au _ wT ⟨⟨R,R,R⟩,⟨R,(Ie (c:=s3 c) R R R R),R⟩,⟨R,R,R⟩,tr⟩ R,R,f,by show(4:Nat)<5;decide⟩)
 .have d:A.length+(s2 c).Z.length+B.length<=1000:=j;refine bk<|rV (vB true) R<|rE 24<|uR<|aV R (λ_=>?_) (λh=>by cases h);refine mF<|uR<|kO<|bk<|nW (.a 77 [] []) R R (⟨dT,dT⟩)<|oR 1 R<|rE 26<|a7<|oR 1 R<|fU _ R R R (Qq (TW (s2 c) (b+1) a.k2 ad A B A.length (s2 c).Z.length e R R d) 7 22 _ _ ⟨⟨R,R,R,R⟩,⟨R,R,R,R⟩,tr⟩ dT) ?_;rintro _ _ ⟨rfl,⟨g,rfl⟩|⟨_,A,B,e,rfl|rfl,f,rfl⟩⟩
  .refine rE 28<|a7<|rV (vI 3) rfl<|oR 1 rfl<|rE 30<|.mk _ (.refl _) ⟨.e3,λi=>i,au _ wT ⟨⟨R,R,R⟩,⟨R,(Ie (c:=s3 c) R R R R),R⟩,tr⟩ R,R,g,by show(4:Nat)<5;decide⟩
  .refine rE 28<|a7<|rV (vI 3) R<|oR 1 R<|rE 30<|.mk _ (.refl _) ⟨(.o3 A B e),λi=>i,au _ wT ⟨⟨R,R,R⟩,⟨R,(Ie (c:=s3 c) R R R R),R⟩,⟨R,R,R⟩,tr⟩ R,R,f,by show(4:Nat)<5;decide⟩
  refine rE 28<|a7<|rV (vI 3) R<|oR 1 R<|rE 30<|.mk _ (.refl _) ⟨(.o3 A B e),λi=>match i with|22=>27|i=>i,au _ wT ⟨⟨R,R,R⟩,⟨R,(Ie (c:=s3 c) R R R R),R⟩,⟨R,R,R⟩,tr⟩ R,R,f,by show(4:Nat)<5;decide⟩
 .have d:(s3 c).Z=[]:=j;refine bk<|rV (vB true) R<|rE 24<|uR<|aV R (λ_=>?_) (λh=>by cases h);refine mF<|uR<|kO<|bk<|nW (.a 78 [] []) R R (⟨dT,dT⟩)<|oR 1 R<|rE 26<|a7<|oR 1 R<|fU _ R R R ((TX (s3 c) (b+5) a.k3 d true false false ((s3 c).L.map a_) ((s3 c).N.map a2)).fB (λ_=>7)) ?_;rintro _ _ ⟨rfl,rfl⟩;refine rE 28<|a7<|rV (vI 4) R<|oR 1 R<|rE 30<|.mk _ (.refl _) ⟨.s4,λi=>i,au _ wT ⟨⟨R,R,R⟩,⟨R,(Ie (c:=eC c) (am (λz:List ai=>AV.Y 17 (z.map ab) false) (Qm d (nO a.k3 ad).1)) (am (λz:List Ft=>AV.Y 2 (z.map a_) true) (show(s3 c).L=(eC c).L from((nO a.k3 ad).2.2.1).symm)) R (am (λz:List Sp=>AV.Y 9 (z.map a2) false) (show(s3 c).N=(eC c).N from((nO a.k3 ad).2.2.2).symm))),R⟩,tr⟩ R,R,tr,by show(3:Nat)<4;decide⟩
 .have d:A.length+(s3 c).Z.length+B.length<=1000:=j;refine bk<|rV (vB true) R<|rE 24<|uR<|aV R (λ_=>?_) (λh=>by cases h);refine mF<|uR<|kO<|bk<|nW (.a 78 [] []) R R (⟨dT,dT⟩)<|oR 1 R<|rE 26<|a7<|oR 1 R<|fU _ R R R ((WU (s3 c) (b+5) a.k3 ad A B A.length (s3 c).Z.length e true false false ((s3 c).L.map a_) ((s3 c).N.map a2) R R d).Y4 (λz=>match z with|0=>7|_=>22)) ?_;rintro _ _ ⟨rfl,rfl⟩;refine rE 28<|a7<|rV (vI 4) R<|oR 1 R<|rE 30<|.mk _ (.step (some (22,17,(A++(eC c).Z++B).map ab)) (ee (l:=[(2,.ptr 1 0),(9,vB (!(jF c))),(3,.ptr 7 0),(21,.agg [.a 75 [] [],.a 76 [] [],.a 77 [] [],.a 78 [] [],.a 79 [] [],.a 80 [] [],.a 81 [] []]),(22,vI 4)]) (hp:=[(1,.box h5),(7,.box (az (eC c) (.Y 17 ((((A++(eC c).Z++B).drop A.length).take (s3 c).Z.length).map ab) false) (.Y 2 ((s3 c).L.map a_) true) (.Y 2 ((eC c).V.map ay) false) (.Y 9 ((s3 c).N.map a2) false)))]) R jb ⟨⟨R,_,R,.refl _⟩,⟨R,_,R,eg.ZU (qQ (Iy (by simp only[aU];have:=(nO a.k3 ad).1;show A.length+(s3 c).Z.length<=A.length+(gY (s3 c)).Z.length+B.length;omega)) (.refl _) (.refl _) (.refl _))⟩,tr⟩) (.refl _)) ⟨.s4,λi=>i,au _ wT ⟨⟨R,R,R⟩,⟨R,(Ie (c:=eC c) (am (λz:List ai=>AV.Y 17 (z.map ab) false) (Qs R (nO a.k3 ad).1)) (am (λz:List Ft=>AV.Y 2 (z.map a_) true) (show(s3 c).L=(eC c).L from((nO a.k3 ad).2.2.1).symm)) R (am (λz:List Sp=>AV.Y 9 (z.map a2) false) (show(s3 c).N=(eC c).N from((nO a.k3 ad).2.2.2).symm))),R⟩,tr⟩ R,R,tr,by show(3:Nat)<4;decide⟩
 .refine bk<|rV (vB true) R<|rE 24<|uR<|aV R (λ_=>?_) (λh=>by cases h);refine mF<|uR<|kO<|bk<|nW (.a 79 [] []) R R (⟨dT,dT⟩)<|oR 1 R<|rE 26<|a7<|oR 1 R<|fU _ R R R ((WW (eC c) (b+7) a.k4 false ((eC c).V.map ay) false ((eC c).N.map a2)).fB (λ_=>7)) ?_;rintro _ _ ⟨rfl,rfl⟩;refine rE 28<|a7<|rV (vI 5) R<|oR 1 R<|rE 30<|.mk _ (.refl _) ⟨.s5,λi=>i,au _ wT ⟨⟨R,R,R⟩,⟨R,(Ie (c:=e6 c) R R (am (λz:List Pt=>AV.Y 2 (z.map ay) false) (show(eC c).V=(e6 c).V from((Ai a.k4).2.1).symm)) (am (λz:List Sp=>AV.Y 9 (z.map a2) false) (show(eC c).N=(e6 c).N from((Ai a.k4).2.2).symm))),R⟩,tr⟩ R,R,tr,by show(2:Nat)<3;decide⟩
 .refine bk<|rV (vB true) R<|rE 24<|uR<|aV R (λ_=>?_) (λh=>by cases h);refine mF<|uR<|kO<|bk<|nW (.a 80 [] []) R R (⟨dT,dT⟩)<|oR 1 R<|rE 26<|a7<|oR 1 R<|fU _ R R R ((TZ (e6 c) (b+7) a.k5 false ((e6 c).Z.map ab) false ((e6 c).V.map ay) false ((e6 c).N.map a2)).fB (λ_=>7)) ?_;rintro _ _ ⟨rfl,rfl⟩;refine rE 28<|a7<|rV (vI 6) R<|oR 1 R<|rE 30<|.mk _ (.refl _) ⟨.s6,λi=>i,au _ wT ⟨⟨R,R,R⟩,⟨R,(Ie (c:=e7 c) (am (λz:List ai=>AV.Y 17 (z.map ab) false) (show(e6 c).Z=(e7 c).Z from((uX a.k5 ad).2.2.2).symm)) R (am (λz:List Pt=>AV.Y 2 (z.map ay) false) (show(e6 c).V=(e7 c).V from((uX a.k5 ad).2.1).symm)) (am (λz:List Sp=>AV.Y 9 (z.map a2) false) (show(e6 c).N=(e7 c).N from((uX a.k5 ad).2.2.1).symm))),R⟩,tr⟩ R,R,tr,by show(1:Nat)<2;decide⟩
 .refine bk<|rV (vB true) R<|rE 24<|uR<|aV R (λ_=>?_) (λh=>by cases h);refine mF<|uR<|kO<|bk<|nW (.a 81 [] []) R R (⟨dT,dT⟩)<|oR 1 R<|rE 26<|a7<|oR 1 R<|fU _ R R R ((WY (e7 c) (b+8) a.k6 ad false ((e7 c).Z.map ab) false ((e7 c).L.map a_) false ((e7 c).N.map a2)).fB (λ_=>7)) ?_;rintro _ _ ⟨rfl,rfl⟩;refine rE 28<|a7<|rV (vI 7) R<|oR 1 R<|rE 30<|.mk _ (.refl _) ⟨.s7,λi=>i,au _ wT ⟨⟨R,R,R⟩,⟨R,(Ie (c:=eL c) (am (λz:List ai=>AV.Y 17 (z.map ab) false) (show(e7 c).Z=(eL c).Z from((wX a.k6 ad).2.2.2).symm)) (am (λz:List Ft=>AV.Y 2 (z.map a_) false) (show(e7 c).L=(eL c).L from((wX a.k6 ad).2.1).symm)) R (am (λz:List Sp=>AV.Y 9 (z.map a2) false) (show(e7 c).N=(eL c).N from((wX a.k6 ad).2.2.1).symm))),R⟩,tr⟩ R,R,tr,by show(0:Nat)<1;decide⟩
 refine bk<|rV (vB false) R<|rE 24<|uR<|aV R (λh=>by cases h) (λ_=>?_);refine Bh ?_;exact o _ (λs=>s) (au (λs=>s) wT wH R)
def yo(c:Co)(a:Nat)(b:c.ok a)(g:a+20<=890000)(e:jF c=true)(f:c.Z=[]):bI C0 47 [.agg (fm c)] (.agg (fm (uG c))):=by
 refine dJ func47 ?_;have d:=EL b ad e;have k:=Ql d g;refine bk<|dm 0 R R<|dm 1 R R<|rE 2<|uR<|bk<|oR 1 R<|aW R (Ip c a b ad)<|oR 1 R<|rE 5<|aV R (λj=>by exact absurd e (VB j)) (λ_=>?_);refine mF<|bk<|oR 1 R<|rV (.agg (fm c)) R<|dm 7 R R<|a1 R<|rE 9<|bk<|fU _ R R R ((show pM C0.P C0.G 74 [.ptr 0 0] (aq [(0,.box (az c (.Y 17 (c.Z.map ab) false) (.Y 2 (c.L.map a_) false) (.Y 2 (c.V.map ay) false) (.Y 9 (c.N.map a2) false)))]) 1 _ from by rw[f];exact A4 c a d false false false false).fB (λ_=>7)) ?_;rintro _ _ ⟨rfl,rfl⟩;refine rE 10<|bk<|oR 3 R<|rW (vI (wrap64 (c.Z3+1))) R (ap (af _))<|oR 2 R<|a1 R<|rE 17<|bk<|rV (.agg [.a 75 [] [],.a 76 [] [],.a 77 [] [],.a 78 [] [],.a 79 [] [],.a 80 [] [],.a 81 [] []]) R<|dm 18 R R<|a1 R<|rE 20<|Fq (κ:=Unit) (λi=>⟨a6 [(2,.ptr 1 0),(3,.ptr 7 0)],aq [(1,.box h5),(7,.box (az (eL c) (.Y 17 ((eL c).Z.map ab) false) (.Y 2 ((eL c).L.map a_) false) (.Y 2 ((eL c).V.map ay) false) (.Y 9 ((eL c).N.map a2) false)))],23⟩) (λi=>True) ?_ ?_
 .refine bk<|oR 2 R<|rE 22<|MJ c a d g k ?_ .e0 f (λs=>s) (au (λs=>s) wT wH R);intro l σ h;exact .mk _ (.refl _) ⟨(),σ,h,R,tr⟩
 intro i _;refine bk<|oR 2 R<|a1 R<|rE 26<|FQ ?_;rw[show uG c=eL c from aa e];exact dK R ga R R
def yp(c:Co)(a:Nat)(b:c.ok a)(f:a+20<=890000)(e:jF c=true)(g:c.Z≠[]):bI C0 47 [.agg (fm c)] (.agg (fm (uG c))):=by
 refine dJ func47 ?_;have d:=EL b ad e;have l:=Ql d f;refine bk<|dm 0 R R<|dm 1 R R<|rE 2<|uR<|bk<|oR 1 R<|aW R (Ip c a b ad)<|oR 1 R<|rE 5<|aV R (λk=>by exact absurd e (VB k)) (λ_=>?_);refine mF<|bk<|oR 1 R<|rV (.agg (fm c)) R<|dm 7 R R<|a1 R<|rE 9<|bk<|fU _ R R R (yr (zl c a d g false false false false) 7 _ _ ⟨⟨R,R,R,R⟩,tr⟩) ?_;rintro _ _ ⟨rfl,rfl⟩;refine rE 10<|bk<|oR 3 R<|rW (vI (wrap64 (c.Z3+1))) R (ap (af _))<|oR 2 R<|a1 R<|rE 17<|bk<|rV (.agg [.a 75 [] [],.a 76 [] [],.a 77 [] [],.a 78 [] [],.a 79 [] [],.a 80 [] [],.a 81 [] []]) R<|dm 18 R R<|a1 R<|rE 20<|Fq (κ:=Unit) (λj=>⟨a6 [(2,.ptr 1 0),(3,.ptr 7 0)],aq [(1,.box h5),(7,.box (az (eL c) (.Y 17 ((eL c).Z.map ab) false) (.Y 2 ((eL c).L.map a_) false) (.Y 2 ((eL c).V.map ay) false) (.Y 9 ((eL c).N.map a2) false)))],23⟩) (λj=>True) ?_ ?_
 .refine bk<|oR 2 R<|rE 22<|MJ c a d f l ?_ .o0 tr (λi=>match i with|22=>9|i=>i) (au (λi=>match i with|22=>9|i=>i) wT ⟨⟨R,R,R⟩,⟨R,R,R⟩,⟨R,(by show some (a'.arr (c.Z.map ab) 17)=some (a'.arr (([]++c.Z++[]).map ab) 17);rw[iA,dY]),R⟩,tr⟩ R);intro m σ h;exact .mk _ (.refl _) ⟨(),σ,h,R,tr⟩
 intro j _;refine bk<|oR 2 R<|a1 R<|rE 26<|FQ ?_;rw[show uG c=eL c from aa e];exact dK R ga R R
def yq(c:Co)(b:Nat)(a:c.ok b)(d:b+20<=890000):bI C0 47 [.agg (fm c)] (.agg (fm (uG c))):=by
 cases e:jF c with
 |false=>exact yn c b a d e
 |true=>
  by_cases f:c.Z=[]
  .exact yo c b a d e f
  .exact yp c b a d e f
def Cd(n:Int):Nat:=(min n 2000).toNat
def Qk(a b:Int):(if b<a then b else a)=min a b:=by split<;>omega
def MI(a b:Int):(CZ a b).ok:=by
 unfold CZ;refine⟨?_,λs c=>?_⟩
 .have h:(if bV a 1 4=3 then 2 else bV a 1 4).toNat<=4:=by unfold bV;(repeat' split)<;>omega
  show(List.replicate _ _).length<=_;rw[cM];omega
 rw[gK c];exact⟨aE _,λx d=>by cases d⟩
def TL:po.ok:=by
 refine⟨dT,dT,dT,?_,?_⟩
 .intro x a;have:x=⟨0,0⟩:=gK (n:=8) a;subst this;exact⟨aE _,aE _⟩
 intro x a;cases a
def Id(c:Cf)(prog:List Nat)(m:ByteArray)(b:c.ok)(hp:∀x∈prog,x<=4294967295):(fX c prog m).ok 0:=by
 have e:(jB m).size<=256:=by
  rw[wE];unfold hY;repeat' split
  all_goals omega
 have d:(prog.take (min prog.length 64)).length<=9223372036854775807:=by rw[aM];omega
 refine⟨⟨aL (QT c) dT,aL (OL c) dT,Iq b.tp⟩,d,zD (P:=λx=>x<=4294967295) hp,λ_=>aE _,aE _,aE _,(λx a=>by cases a),aE _,(λx a=>by cases a),aE _,(λx a=>by cases a),MI _ _,MI _ _,aE _,(λx a=>by cases a),(by show(0:Int)<=9223372036854775807;decide),(by show(0:Int)<=9223372036854775807;decide),?_,TL,aE _,(λx a=>by cases a)⟩;show(jB m).size<=1000000;omega
theorem wW{c:Co}{n:Nat}(h:c.ok n):∀k,n+10*k+20<=890000->(bz c k).ok (n+10*k)
 |0,_=>h
 |k+1,a=>by
  have ih:=xX (wW h k ad) ad;rw[(oT:n+10*(k+1)=n+10*k+10)];exact ih
open Go.RowKit Go.ChangeShapes Go.WideShapes Go.ChangeAt Go.Deep
structure Co.Yx(c:Co):Prop where
 Q:c.Q.okW
 prog:c.prog.length<=9223372036854775807
 Z4:∀x∈c.prog,x<=4294967295
 r:∀k,c.r k<=4294967295
 J:c.J<=4294967295
 Z5:c.L.length<=9223372036854775807
 ZV:∀x∈c.L,x.ok
 Z:c.Z.length<=9223372036854775807
 Z6:∀x∈c.Z,x.ok
 Z':c.V.length<=9223372036854775807
 Z0:∀x∈c.V,x.ok
 data:c.data.ok
 u:c.u.ok
 U:c.U.length<=9223372036854775807
 Z_:∀x∈c.U,x.ok
 asked:c.asked<=9223372036854775807
 Z1:c.Z1<=9223372036854775807
 mem:c.mem.size<=9223372036854775807
 K:c.K.ok
 ret:c.N.length<=9223372036854775807
 ZW:∀x∈c.N,x.ok
def Qj{w:World}(h:EE w):0<w.heap.size:=by
 have:=h 0 dT;unfold World.cell? at this
 cases a:w.heap[0]? with
 |none=>simp[a]at this
 |some o=>exact(DP.1 a).1
theorem bI.law{f:FuncId}{args:List AV}{a:List Value}{w:World}(h:bI C0 f args (.v (.bool true)))(b:EE w)(c:b6 (· <w.heap.size) w cy args a):
  Calls Tryz.prog f a.toArray w λe w'=>e=.returned (.bool true)/\Below w.heap.size w w':=
 (h.2 (· <w.heap.size) w a (λ_ h=>h) (D3 b (Qj b)) c).mono λe w' ⟨v,z,h2,h3⟩=>⟨by rw[z,lV h3],h2⟩
end Go.Proofs.YtiaekocjeinkjaaGreatDoor
namespace Go.Proofs.YtiaekocjeinkjaaGreatDoor
open Go.RowKit Go.ChangeShapes Go.WideShapes
end Go.Proofs.YtiaekocjeinkjaaGreatDoor
namespace Go.Proofs.YtiaekocjeinkjaaGreatDoor
open Go.Proofs.Tryz
set_option maxRecDepth 100000
set_option maxHeartbeats 4000000
open Go.RowKit
def T4(s:St):Value:=.agg ((c6 s.M s.r s.mem s.halt).map r2).toArray
def T2(x:Sp):Value:=.agg ((a2 x).map r2).toArray
def s_(x:St×Sp):Array Value:= #[T4 x.1,T2 x.2]
def Sg{r:Nat->Nat}(h:∀k,r k<=4294967295){v:Nat}(a:v<=4294967295)(n:Nat):∀k,hL r n v k<=4294967295:=by
 intro k;unfold hL;split
 .exact a
 exact h k
def Ml{m:ByteArray}{a:Nat}{b:ByteArray}(h:a+b.size<=m.size):(DD m a b).size=m.size:=by
 show(DD m a b).data.size=m.data.size;have h':a+b.data.size<=m.data.size:=h;simp only[DD,kP,aU,aM,bD,cV];show min a m.data.size+b.data.size+(m.data.size-(a+b.data.size))=m.data.size;omega
def Bb{s:St}(h:s.ok)(b:Int)(a:Nat):(Gc s b a).1.ok:=⟨h.M,h.r,h.mem⟩
def Sh{s:St}(h:s.ok){i:SI}{a b d:Nat}{tk:Int}(g:i.C<=4294967295)(e:a<=4294967295)(f:b<=4294967295)(c:d<=4294967295):(IJ s i a b d tk).1.ok:=by
 unfold IJ;split
 .exact⟨c,h.r,h.mem⟩
 exact⟨c,Sg h.r (aI (Rp i.op i.C s.M a b (bG g) (bG e) (bG f))) _,h.mem⟩
def Vh{prog:List Nat}{s:St}(h:s.ok):(gE prog s).1.ok:=by
 unfold gE;split
 .split
  .split
   .exact Bb h _ _
   have b:=IK (a8 prog s.M);have a:(rA prog s).C<=4294967295:=aI b.2.2.2.2.2.2;unfold dj;split
   .exact Bb h _ _
   split
   .exact Bb h _ _
   split
   .unfold sN;split
    .rename_i d;have c:=sQ d;split
     .exact⟨uT _,h.r,by rw[Ml (by rw[mP];exact c.1)];exact h.mem⟩
     split
     .exact⟨uT _,h.r,h.mem⟩
     exact⟨uT _,Sg h.r (MT _ _) _,h.mem⟩
    exact Bb h _ _
   unfold oN;split
   .split
    .exact Sh h a (h.r _) (h.r _) (aI (Ed _ _ _ _ _))
    exact Bb h _ _
   exact Sh h a (h.r _) (h.r _) (uT _)
  exact Bb h _ _
 exact h
def Wc{ev:Operand->AV}{h:AH}{s b n v:Nat}{a x:Operand}{pc:Nat}{r:Nat->Nat}{m:ByteArray}{c:Int}(d:ev a=.ptr b (1+n*1))(e:h b=some (.box (c6 pc r m c)))(g:ev x=.v (.int .u32 (v:Int)))(f:n<32):
  bj C1 ev h s (.store 29 a x)=.fx True .any (an h b (some (.box (c6 pc (hL r n v) m c)))):=T3 (s:=s) d e g f
def bf(prog:List Nat)(s:St):Nat->St
 |0=>s
 |k+1=>(gE prog (bf prog s k)).1
theorem Si{prog:List Nat}{s:St}(h:s.ok):∀k,(bf prog s k).ok
 |0=>h
 |k+1=>Vh (Si h k)
theorem Sj(prog:List Nat)(s:St):∀k,bf prog (gE prog s).1 k=bf prog s (k+1)
 |0=>rfl
 |k+1=>am (λz=>(gE prog z).1) (Sj prog s k)
def e9(prog:List Nat)(s:St)(k:Nat):List (St×Sp):=(List.range k).map λi=>gE prog (bf prog s i)
def KW(prog:List Nat)(s:St)(k:Nat):e9 prog s k++[gE prog (bf prog s k)]=e9 prog s (k+1):=by
 unfold e9;rw[gZ,dH];rfl
def lR(prog:List Nat)(s:St)(k:Nat):(e9 prog s k).length=k:=by unfold e9;rw[aH,fV]
def Yg{prog:List Nat}{s:St}{k n:Nat}(h:k<=n):e9 prog s k <+: e9 prog s n:=by
 have e:e9 prog s k=(e9 prog s n).take k:=by unfold e9;rw[<-eO,List.take_range,kD h]
 rw[e];exact List.take_prefix _ _
def cz(prog:List Nat):Nat->St->Nat
 |0,_=>0
 |n+1,s=>if s.halt=0 then cz prog n (gE prog s).1+1 else 0
theorem AB(prog:List Nat):∀n s,cz prog n s<=n
 |0,_=>aC 0
 |n+1,s=>by
  have:=AB prog n (gE prog s).1;unfold cz;split<;>omega
theorem Hd{prog:List Nat}:∀{n:Nat} {s:St} {k:Nat},k<cz prog n s->(bf prog s k).halt=0
 |0,s,k,h=>absurd h (dG k)
 | n+1,s,k,h=>by
  unfold cz at h;split at h
  .rename_i a
   cases k with
   |zero=>exact a
   |succ k=>rw[<-Sj];exact Hd (n:=n) ad
  .omega
theorem Dj{prog:List Nat}:∀{n:Nat} {s:St},cz prog n s<n->(bf prog s (cz prog n s)).halt≠0
 |0,s,h=>absurd h (dG _)
 | n+1,s,h=>by
  unfold cz at h⊢;split at h
  .rename_i a;rw[aa a, <-Sj];exact Dj ad
  .rename_i a;rw[dZ a];exact a
def Vi{prog:List Nat}{n:Nat}{s:St}{k:Nat}(h:k<=cz prog n s)(b:k<n)(a:(bf prog s k).halt=0):k<cz prog n s:=by
 rcases fb k (cz prog n s)with h3|h3
 .exact h3
 have e:k=cz prog n s:=oT;exact absurd a (e ▸ Dj ad)
def ze{prog:List Nat}{n:Nat}{s:St}{k:Nat}(h:k<=cz prog n s)(a: ¬(k<n/\(bf prog s k).halt=0)):k=cz prog n s:=by
 rcases fb k (cz prog n s)with h3|h3
 .exact absurd ⟨e5 h3 (AB ..),Hd h3⟩ a
 omega
def vD{a b:Bool}(h:cE a b false=true):a=true/\b=true:=by cases a<;>cases b<;>simp[cE]at h⊢
def Sk{a b:Bool}(h:cE a b false=false): ¬(a=true/\b=true):=by cases a<;>cases b<;>simp[cE]at h⊢
def hv(s:St)(l:List (St×Sp)):St:=(l.getLast?.map (·.1)).getD s
def NT(s:St)(l:List (St×Sp))(x:St×Sp):hv s (l++[x])=x.1:=by unfold hv;rw[List.getLast?_concat];rfl
def Jj(prog:List Nat)(s:St)(k:Nat):hv s (e9 prog s k)=bf prog s k:=by
 cases k with
 |zero=>rfl
 |succ k=>rw[<-KW,NT];rfl
def Mm(s:St)(a:Int)(b:s.ok):bI C0 218 [h_ s,.v (.int .i64 a)] (jl (Gc s a 0)):=by
 refine eb func218 R ?_;refine zV (.agg [.v (.int .u32 ((s.M:Nat):Int)),.v (.int .u32 ((s.M:Nat):Int)),.v (.int .i64 0),.v (.int .u32 0),.v (.int .u32 0),.v (.int .i64 0),.v (.bool false),.v (.int .i64 a),.v (.int .i64 0)]) ?_;refine pO R R<|oR 2 R<|a1 R<|a1 R<|rE 18<|And.intro (by kernel_rfl)<|ck 0 R ?_;exact qY R tr R R
def Sm(s:St)(i:SI)(a b:Nat)(d:s.ok)(l:i.C<=4294967295)(k:a<=4294967295)(h:b<=4294967295)(j:0<=wr i)(m:wr i<32):bI C0 219 [h_ s,g9 i,.v (.int .u32 (a:Int)),.v (.int .u32 (b:Int))] (jl (sN s i a b)):=by
 refine eb func219 R ?_;refine zR<|zV (.v (.int .u32 ((fa i a:Nat):Int)))<|zC (Gd i) ?_;refine aW R (pS i)<|zW _ (ak (ba _ _))<|zV (.v (.int .i64 (s.mem.size:Int)))<|zC (GY _ _ _ (oH d.mem) (bG (Ay i a))) ?_;refine zB R (λc=>?_) (λc=>?_)
 .skip
  refine zB R (λf=>?_) (λf=>?_)
  .refine zC (Mm s (5) d) ?_;refine pO R R<|oR 2 R<|a1 R<|a1 R<|rE 43<|And.intro (by kernel_rfl)<|ck 0 R ?_;exact fT R (by unfold sN;rw[dZ (sU c),aa (sU f)];rfl)
  refine zC (Mm s (4) d) ?_;refine pO R R<|oR 2 R<|a1 R<|a1 R<|rE 42<|And.intro (by kernel_rfl)<|ck 0 R ?_;exact fT R (by unfold sN;rw[dZ (sU c),dZ (sU f)];rfl)
 refine zR<|zV (.v (.int .u32 ((b_ s.M:Nat):Int)))<|zC (Da i)<|zV (.agg [.v (.int .u32 ((s.M:Nat):Int)),.v (.int .u32 ((b_ s.M:Nat):Int)),.v (.int .i64 (wr i)),.v (.int .u32 0),.v (.int .u32 ((fa i a:Nat):Int)),.v (.int .i64 ((bh i.op:Nat):Int)),.v (.bool ((aj i.op)==4)),.v (.int .i64 0),.v (.int .i64 0)]) ?_;refine zB R (λe=>?_) (λe=>?_)
 .refine zC (Nv b (bh i.op) (bG h) (lQ i.op))<|zC (se _ (by rw[mP];exact lQ i.op))<|zC (y6 _ _ _ (by rw[mP];simpa using c) d.mem (Ay i a)) ?_;refine pO R R<|oR 2 R<|a1 R<|a1 R<|rE 70<|And.intro (by kernel_rfl)<|ck 0 R ?_;exact fT R (by unfold sN;rw[aa (sU c),aa (sU e)];rfl)
 refine zV (.v (.bool ((wr i) != 0))) ?_;refine zB R (λg=>?_) (λg=>?_)
 .refine zC (A1 _ _ _ (sU c) d.mem (Ay i a))<|zC (sf _ _ (UJ d.mem _ _))<|nW (.ptr 0 (1+(wr i).toNat*1)) R R ad ?_;refine Ow (h':=an _ 0 (some (.box (c6 s.M (hL s.r ((wr i).toNat) (hG i.op (Cv s.mem (fa i a) (bh i.op)))) s.mem s.halt)))) R R (Wc (n:=(wr i).toNat) (v:=hG i.op (Cv s.mem (fa i a) (bh i.op))) (r:=s.r) R R R ad) (trivial)<|cr 0 R<|pO R R<|oR 2 R<|a1 R<|a1 R<|rE 71<|And.intro (by kernel_rfl)<|ck 0 R ?_;exact fT R (by unfold sN;rw[aa (sU c),dZ (sU e),dZ (sU g)];rfl)
 refine pO R R<|oR 2 R<|a1 R<|a1 R<|rE 48<|And.intro (by kernel_rfl)<|ck 0 R ?_;exact fT R (by unfold sN;rw[aa (sU c),dZ (sU e),aa (sU g)];rfl)
def Yh(s:St)(i:SI)(a b:Nat)(g:s.ok)(j:i.C<=4294967295)(e:a<=4294967295)(f:b<=4294967295)(n:0<=wr i)(o:wr i<32):bI C0 220 [h_ s,g9 i,.v (.int .u32 (a:Int)),.v (.int .u32 (b:Int))] (jl (oN s i a b)):=by
 refine eb func220 R ?_;refine zR<|zV (.v (.int .u32 ((b_ s.M:Nat):Int)))<|zC (Da i)<|zV (.agg [.v (.int .u32 ((s.M:Nat):Int)),.v (.int .u32 ((b_ s.M:Nat):Int)),.v (.int .i64 (wr i)),.v (.int .u32 0),.v (.int .u32 0),.v (.int .i64 0),.v (.bool false),.v (.int .i64 0),.v (.int .i64 0)]) ?_;refine zC (pS i)<|b0 (ak (ba _ _)) (λc=>?_) (λc=>?_)
 .refine zC (LW i _ _ _ (bG j) (bG g.M) (bG e) (bG f)) ?_;refine zB R (λh=>?_) (λh=>?_)
  .refine zC (Mm s (3) g) ?_;exact fT R (by unfold oN IJ;rw[aa (sU c),dZ (sU h)];rfl)
  refine zV (.v (.bool ((wr i) != 0))) ?_;refine zB R (λk=>?_) (λk=>?_)
  .refine zC (Nu i _ _ _ (bG j) (bG g.M) (bG e) (bG f))<|nW (.ptr 0 (1+(wr i).toNat*1)) R R ad<|Ow (h':=an _ 0 (some (.box (c6 s.M (hL s.r ((wr i).toNat) (BF i.op i.C s.M a b)) s.mem s.halt)))) R R (Wc (n:=(wr i).toNat) (v:=BF i.op i.C s.M a b) (r:=s.r) R R R ad) (trivial) ?_;refine cr 0 R<|pO R R<|oR 2 R<|a1 R<|a1 R<|rE 60<|And.intro (by kernel_rfl)<|ck 0 R ?_;exact fT R (by unfold oN IJ;rw[aa (sU c),aa (sU h),dZ (sU k)];rfl)
  refine pO R R<|oR 2 R<|a1 R<|a1 R<|rE 45<|And.intro (by kernel_rfl)<|ck 0 R ?_;exact fT R (by unfold oN IJ;rw[aa (sU c),aa (sU h),aa (sU k)];rfl)
 refine b0 (ak (ba _ _)) (λd=>?_) (λd=>?_)
 .refine zC (Xz _ _ _ (bG e) (bG f))<|zV (.v (.bool ((wr i) != 0))) ?_;refine zB R (λl=>?_) (λl=>?_)
  .refine zC (Nu i _ _ _ (bG j) (bG g.M) (bG e) (bG f))<|nW (.ptr 0 (1+(wr i).toNat*1)) R R ad<|Ow (h':=an _ 0 (some (.box (c6 s.M (hL s.r ((wr i).toNat) (BF i.op i.C s.M a b)) s.mem s.halt)))) R R (Wc (n:=(wr i).toNat) (v:=BF i.op i.C s.M a b) (r:=s.r) R R R ad) (trivial) ?_;refine cr 0 R<|pO R R<|oR 2 R<|a1 R<|a1 R<|rE 53<|And.intro (by kernel_rfl)<|ck 0 R ?_;exact fT R (by unfold oN IJ;rw[dZ (sU c),dZ (sU l),aa (sU d)];rfl)
  refine pO R R<|oR 2 R<|a1 R<|a1 R<|rE 38<|And.intro (by kernel_rfl)<|ck 0 R ?_;exact fT R (by unfold oN IJ;rw[dZ (sU c),aa (sU l),aa (sU d)];rfl)
 refine zV (.v (.bool ((wr i) != 0))) ?_;refine zB R (λm=>?_) (λm=>?_)
 .refine zC (Nu i _ _ _ (bG j) (bG g.M) (bG e) (bG f))<|nW (.ptr 0 (1+(wr i).toNat*1)) R R ad<|Ow (h':=an _ 0 (some (.box (c6 s.M (hL s.r ((wr i).toNat) (BF i.op i.C s.M a b)) s.mem s.halt)))) R R (Wc (n:=(wr i).toNat) (v:=BF i.op i.C s.M a b) (r:=s.r) R R R ad) (trivial) ?_;refine cr 0 R<|pO R R<|oR 2 R<|a1 R<|a1 R<|rE 46<|And.intro (by kernel_rfl)<|ck 0 R ?_;exact fT R (by unfold oN IJ;rw[dZ (sU c),dZ (sU m),dZ (sU d)];rfl)
 refine pO R R<|oR 2 R<|a1 R<|a1 R<|rE 31<|And.intro (by kernel_rfl)<|ck 0 R ?_;exact fT R (by unfold oN IJ;rw[dZ (sU c),aa (sU m),dZ (sU d)];rfl)
def Yi(prog:List Nat)(s:St)(i:Bool)(hp:∀x∈prog,x<=4294967295)(n:prog.length<=1000000)(a:s.ok):bI C0 194 [.Y 1 (prog.map dU) i,h_ s] (jl (gE prog s)):=by
 refine dJ func194 ?_;have l:0<=(rA prog s).rd/\(rA prog s).rd<32/\0<=(rA prog s).y/\(rA prog s).y<32/\0<=(rA prog s).A/\(rA prog s).A<32/\(rA prog s).C<=4294967295:=by have:=IK (a8 prog s.M);exact⟨this.1,this.2.1,this.2.2.1,this.2.2.2.1,this.2.2.2.2.1,this.2.2.2.2.2.1,aI this.2.2.2.2.2.2⟩
 have h:=pq (a8 prog s.M);refine qS 0 R<|rV (.v (.bool (s.halt != 0))) R ?_;refine cr 0 R<|aV R (λc=>?_) (λc=>?_)
 .refine qC 0 R<|rV (.agg [.v (.int .u32 0),.v (.int .u32 0),.v (.int .i64 0),.v (.int .u32 0),.v (.int .u32 0),.v (.int .i64 0),.v (.bool false),.v (.int .i64 0),.v (.int .i64 0)]) R<|cg 0 R ?_;exact fT R (by unfold gE dj;rw[dZ (sU c)];rfl)
 refine qC 0 R<|aW R (ND prog s.M i hp n a.M) ?_;refine cr 0 R<|aV R (λd=>?_) (λd=>?_)
 .refine qC 0 R<|aW R (Mm s (1) a)<|cg 0 R ?_;exact fT R (by unfold gE dj;rw[aa (sU c),dZ (sU d)];rfl)
 refine qC 0 R<|aW R (IV _ (bG (KE hp s.M)))<|qR 0 R<|rW _ R (ak (db _ _)) ?_;refine cr 0 R<|aV R (λb=>?_) (λb=>?_)
 .refine qC 0 R<|aW R (Mm s (2) a)<|cg 0 R ?_;exact fT R (by unfold gE dj;rw[aa (sU c),aa (sU d),aa ((Dd _).1 b)];rfl)
 refine qC 0 R<|rV (.v (.bool (((rA prog s).op)==47))) R ?_;refine cr 0 R<|aV R (λf=>?_) (λf=>?_)
 .refine qC 0 R<|aW R (Mm s (6) a)<|cg 0 R ?_;exact fT R (by unfold gE dj;rw[aa (sU c),aa (sU d),dZ (λe=>by rw[(Dd _).2 e]at b;cases b),aa (sU f)];rfl)
 refine qC 0 R<|rV (.v (.bool (((rA prog s).op)==48))) R ?_;refine cr 0 R<|aV R (λj=>?_) (λj=>?_)
 .refine qC 0 R<|aW R (Mm s (7) a)<|cg 0 R ?_;exact fT R (by unfold gE dj;rw[aa (sU c),aa (sU d),dZ (λe=>by rw[(Dd _).2 e]at b;cases b),dZ (sU f),aa (sU j)];rfl)
 refine qC 0 R<|aW R (Fs (rA prog s))<|cr 0 R<|a7<|oR 2 R<|nW (.ptr 0 (1+((rA prog s).y).toNat*1)) R R ad<|rW _ R (o8 s.M s.r s.mem s.halt (((rA prog s).y).toNat) ad)<|oR 2 R<|nW (.ptr 0 (1+((rA prog s).A).toNat*1)) R R ad<|rW _ R (o8 s.M s.r s.mem s.halt (((rA prog s).A).toNat) ad)<|oR 2 R ?_;refine rE 50<|qX 0 R<|aW R (pS (rA prog s))<|qR 0 R<|rW _ R (ak (ba _ _)) ?_;refine cr 0 R<|aV R (λg=>?_) (λg=>?_)
 .skip
  refine j4 0 R<|aV R (λ_=>?_) (λm=>Bool.noConfusion (g.symm.trans m));refine qC 0 R<|aW R (Sm s (rA prog s) (s.r (rA prog s).y.toNat) (s.r (rA prog s).A.toNat) a l.2.2.2.2.2.2 (a.r _) (a.r _) h.1 h.2)<|cg 0 R ?_;exact fT R (by unfold gE dj;rw[aa (sU c),aa (sU d),dZ (λe=>by rw[(Dd _).2 e]at b;cases b),dZ (sU f),dZ (sU j),aa (by simp at g;first|exact .inl g|exact .inr g)];rfl)
 refine qC 0 rfl<|rW _ rfl (ak (ba _ _)) ?_;refine cr 0 rfl<|aV rfl (λk=>?_) (λk=>?_)
 .refine qC 0 R<|aW R (Sm s (rA prog s) (s.r (rA prog s).y.toNat) (s.r (rA prog s).A.toNat) a l.2.2.2.2.2.2 (a.r _) (a.r _) h.1 h.2)<|cg 0 R ?_;exact fT R (by unfold gE dj;rw[aa (sU c),aa (sU d),dZ (λe=>by rw[(Dd _).2 e]at b;cases b),dZ (sU f),dZ (sU j),aa (by simp at k;first|exact .inl k|exact .inr k)];rfl)
 refine qC 0 rfl<|aW rfl (Yh s (rA prog s) (s.r (rA prog s).y.toNat) (s.r (rA prog s).A.toNat) a l.2.2.2.2.2.2 (a.r _) (a.r _) h.1 h.2)<|cg 0 rfl ?_;exact fT rfl (by unfold gE dj;rw[aa (sU c),aa (sU d),dZ (λe=>by rw[(Dd _).2 e]at b;cases b),dZ (sU f),dZ (sU j),dZ (by simp at g k;omega)];rfl)
def zf(prog:List Nat)(s0:St)(n:Int)(a:Bool)(hp:∀x∈prog,x<=4294967295)(p:prog.length<=1000)(c:s0.ok)(r:n<=10000):RN C0 193 [.k 35 0 (c6 s0.M s0.r s0.mem s0.halt),.k 1 0 [vI n],.k 1 0 [.Y 1 (prog.map dU) a]] s_ (e9 prog s0 (cz prog n.toNat s0)):=by
 refine RN.intro gr func193 R R (by kernel_rfl) R ?_;intro y;refine rQ<|nU R<|a7<|oR 1 R<|dm 1 R R<|a1 R<|rE 3<|rQ<|nU R<|a7<|oR 1 R<|rE 4<|AA<|NH (κ:=Nat) (λk=>⟨a6 [(0,.v y),(1,.k 35 0 (c6 s0.M s0.r s0.mem s0.halt)),(2,.k 1 0 ([vI n])),(3,.k 1 0 ([.Y 1 (prog.map dU) a])),(5,.ptr 0 0),(6,vN k)],aq [(0,.box (c6 (bf prog s0 k).M (bf prog s0 k).r (bf prog s0 k).mem (bf prog s0 k).halt))],1⟩) (λk=>e9 prog s0 k) (λk=>k<=cz prog n.toNat s0) (λk=>cz prog n.toNat s0-k) 0 (λs=>match s with|0=>1|s=>s) (au (λs=>match s with|0=>1|s=>s) wT wH R) R (rfl) (aE _) ?_;intro k m;have e:k<=cz prog n.toNat s0:=m;have o:=AB prog n.toNat s0;have g:k<=10000:=oT;refine rQ<|rQ<|nU R<|a7<|oR 2 R<|rV (vB (decide ((k:Int)<n))) R<|oR 1 R<|gN R<|gS R id<|aw (x:=vB (((bf prog s0 k).halt)==0)) R id R<|bO R R R (λh=>h)<|rE 9 ?_;refine Cz (v:=cE (decide ((k:Int)<n)) (((bf prog s0 k).halt)==0) false) R (λb=>?_) (λb=>?_)
 .have d:k<cz prog n.toNat s0:=Vi e (oH (ax (vD b).1)) (mT (vD b).2);refine nU R<|mF<|rQ<|AA<|rQ<|nU R<|a7<|oR 2 R<|aW R (Yi prog (bf prog s0 k) a hp ad (Si c k))<|oR 3 R<|dm 15 R R<|dm 16 R R<|a1 R<|a1 R<|rE 19<|rQ ?_;refine nU R<|a7<|oR 1 R<|a1 R<|rE 21<|rQ<|NI R 3 R R R<|oR 3 R<|rE 24 ?_;refine⟨(gE prog (bf prog s0 k)),_,⟨a6 [(0,.v y),(1,.k 35 0 (c6 s0.M s0.r s0.mem s0.halt)),(2,.k 1 0 ([vI n])),(3,.k 1 0 ([.Y 1 (prog.map dU) a])),(6,vN k),(5,.ptr 0 0),(27,.v y),(28,.agg (c6 ((gE prog (bf prog s0 k)).1).M ((gE prog (bf prog s0 k)).1).r ((gE prog (bf prog s0 k)).1).mem ((gE prog (bf prog s0 k)).1).halt)),(29,.agg (a2 ((gE prog (bf prog s0 k)).2)))],aq [(0,.box (c6 (bf prog s0 (k+1)).M (bf prog s0 (k+1)).r (bf prog s0 (k+1)).mem (bf prog s0 (k+1)).halt))],1⟩,λs=>match s with|0=>0|s=>s,au _ wT wH R,R,R,R,R,R,R,(by rw[KW];exact Yg d),λj=>?_⟩;refine oR 1 R<|rE 26 ?_;refine Cz (v:= !j) R (λf=>?_) (λf=>?_)
  .refine nU R<|FQ ?_;intro c;rw[f]at c;cases c
  refine nU R<|mF<|nU R<|a7<|oR 1 R ?_;have l:k+1<=10001:=aD g (aC 1);refine rW _ R (ap (bH l R))<|oR 1 R<|rE 29 ?_;refine⟨f,k+1,λs=>s,au _ wT wH R,R,(KW prog s0 k).symm,d,(by show cz prog n.toNat s0-(k+1)<cz prog n.toNat s0-k;omega)⟩
 have i:k=cz prog n.toNat s0:=ze e λq=>Sk b ⟨jP ad,sU q.2⟩;refine nU R<|Bh ?_;intro _;rw[i]
def a3(m:ByteArray):St:=⟨0,λ_=>0,jB m,0⟩
def Jk(m:ByteArray):(a3 m).ok:=⟨aE _,λ_=>aE _,by show(jB m).size<=256;rw[wE];exact(RA _)⟩
def zg(prog:List Nat)(s0:St)(n:Int)(a:Bool)(hp:∀x∈prog,x<=4294967295)(b:prog.length<=1000)(c:s0.ok):bI C0 153 [.Y 1 (prog.map dU) a,h_ s0,vI n] (.a 193 [] [.k 35 0 (c6 s0.M s0.r s0.mem s0.halt),.k 1 0 [vI n],.k 1 0 [.Y 1 (prog.map dU) a]]):=by
 refine bc func153 R ?_;refine zV (.a 193 [] [.ptr 1 0,.ptr 2 0,.ptr 0 0]) ?_;exact dK R ga R R
def zh(prog:List Nat)(m:ByteArray)(n:Int)(b:Bool)(hp:∀x∈prog,x<=4294967295)(f:prog.length<=1000):bI C0 82 [.Y 1 (prog.map dU) b,.v (.string m),vI n] (.F [h_ (hv (a3 m) (e9 prog (a3 m) (cz prog (min n 10000).toNat (a3 m)))),.Y 9 (((e9 prog (a3 m) (cz prog (min n 10000).toNat (a3 m))).map Prod.snd).map a2) false]):=by
 refine ry (bI.Zh (C:=C1) (λd=>l'.wd d) (λn=>l'.at) func82 R R (by kernel_rfl) R ?_);refine uO<|tQ R<|a7<|dm 0 R R<|oR 1 R<|rE 2<|uO<|tQ R<|a7<|oR 2 R<|aW R (D4 _ m)<|dm 5 R R<|a1 R<|rE 7<|uO<|tQ R ?_;refine a7<|dm 7 R R<|rE 8<|uO<|uO<|tQ R<|a7<|oR 3 R<|rW _ R (ap (Qk n 10000))<|aW R (zg prog (a3 m) (min n 10000) b hp f (Jk m))<|rE 13<|Ja ?_;refine Md (.mk _ (.refl _) ⟨⟨a6 [(6,.ptr 0 0),(8,.ptr 1 0),(9,.ptr 2 0),(19,.a 193 [] [.k 35 0 (c6 (a3 m).M (a3 m).r (a3 m).mem (a3 m).halt),.k 1 0 ([vI (min n 10000)]),.k 1 0 ([.Y 1 (prog.map dU) b])])],aq [(0,.box (c6 0 (λ_=>0) (⟨#[]⟩:ByteArray) 0)),(1,.box (c6 (a3 m).M (a3 m).r (a3 m).mem (a3 m).halt)),(2,.box [.Y 0 ([]) true])],3⟩,λs=>match s with|0=>0|1=>5|2=>7|s=>s,au _ wT wH R,R,?_⟩);refine .mk (St×Sp) 193 [.k 35 0 (c6 (a3 m).M (a3 m).r (a3 m).mem (a3 m).halt),.k 1 0 ([vI (min n 10000)]),.k 1 0 ([.Y 1 (prog.map dU) b])] (λx:St×Sp=>[h_ x.1,r1 x.2]) s_ (e9 prog (a3 m) (cz prog (min n 10000).toNat (a3 m))) (λ_=>True) 3 (λpre=>match pre with|[]=>aq [(0,.box (c6 0 (λ_=>0) (⟨#[]⟩:ByteArray) 0)),(1,.box (c6 (a3 m).M (a3 m).r (a3 m).mem (a3 m).halt)),(2,.box [.Y 0 ([]) true])]|y_::a=>aq [(0,.box (c6 0 (λ_=>0) (⟨#[]⟩:ByteArray) 0)),(1,.box (c6 (hv (a3 m) (y_::a)).M (hv (a3 m) (y_::a)).r (hv (a3 m) (y_::a)).mem (hv (a3 m) (y_::a)).halt)),(2,.box [.X 3 0 ((y_::a).length) false]),(3,.arr (((y_::a).map Prod.snd).map a2) 9)]) (λpre=>match pre with|[]=>3|_::_=>4) R R ⟨_,func193,R,R⟩ (zf prog (a3 m) (min n 10000) b hp f (Jk m) ad) (λx S w β=>BL (show Ju [h_ x.1,r1 x.2]=some _ from R)) (λ_=>rfl) R R (λpre=>by cases pre<;>rfl) (au (hp:=[]) (λs=>s) wT tr R) ?_ ?_
 .intro e x h l;rcases e with _|⟨y_,a⟩
  .refine bk<|dm 3 rfl rfl<|a1 rfl<|rE 5<|a7<|dm 5 rfl rfl<|a1 rfl<|rE 7 ?_;refine⟨rfl,?_⟩;refine kO<|bk<|oR 1 rfl<|a1 rfl<|rE 9<|a7<|oR 2 rfl<|rV (.Y 9 ([[vU x.2.M,vU x.2.next,vI x.2.rd,vU x.2.value,vU x.2.W,vI x.2.size,vB x.2.store,vI x.2.halt,vI x.2.d]]) true) rfl<|eo (x:=.X 12 0 1 false) (h':=an _ 12 (some (.arr (([x.2]).map a2) 9))) R R (Iw ad) (⟨R,by exact ad,by exact ad,tr⟩)<|a1 R<|rE 14 ?_;exact⟨tr,.mk _ (.refl _) ⟨λs=>match s with|3=>12|s=>s,R,au (l:=[]) (hp:=[(0,.box (c6 0 (λ_=>0) (⟨#[]⟩:ByteArray) 0)),(1,.box (c6 (hv (a3 m) (x::[])).M (hv (a3 m) (x::[])).r (hv (a3 m) (x::[])).mem (hv (a3 m) (x::[])).halt)),(2,.box [.X 3 0 ((x::[]).length) false]),(3,.arr (((x::[]).map Prod.snd).map a2) 9)]) (λs=>match s with|3=>12|s=>s) tr wH R⟩⟩
  have c:(y_::a).length<=10000:=by have j:=h.length_le;rw[lR,aU]at j;have k:=AB prog (min n 10000).toNat (a3 m);omega
  have g:(y_::a).length=a.length+1:=rfl;refine bk<|dm 4 R R<|a1 R<|rE 6<|a7<|dm 6 R R<|a1 R<|rE 8 ?_;refine⟨R,?_⟩;refine kO<|bk<|oR 1 R<|a1 R<|rE 10<|a7<|oR 2 R<|rV (.Y 9 ([[vU x.2.M,vU x.2.next,vI x.2.rd,vU x.2.value,vU x.2.W,vI x.2.size,vB x.2.store,vI x.2.halt,vI x.2.d]]) true) R<|eo (x:=.X 13 0 ((y_::a).length+1) false) (h':=an (an _ 3 none) 13 (some (.arr ((((y_::a).map Prod.snd)++([x.2])).map a2) 9))) R R (iP a2 ((y_::a).map Prod.snd) ([x.2]) ad ad) (⟨by exact ad,by exact ad,tr⟩)<|a1 R<|rE 15 ?_;exact⟨tr,.mk _ (.refl _) ⟨λs=>match s with|3=>13|s=>s,R,au (l:=[]) (hp:=[(0,.box (c6 0 (λ_=>0) (⟨#[]⟩:ByteArray) 0)),(1,.box (c6 (hv (a3 m) (y_::(a++[x]))).M (hv (a3 m) (y_::(a++[x]))).r (hv (a3 m) (y_::(a++[x]))).mem (hv (a3 m) (y_::(a++[x]))).halt)),(2,.box [.X 3 0 ((y_::(a++[x])).length) false]),(3,.arr (((y_::(a++[x])).map Prod.snd).map a2) 9)]) (λs=>match s with|3=>13|s=>s) tr ⟨⟨R,R,R⟩,⟨R,(am (λz:St=>some (a'.box (c6 z.M z.r z.mem z.halt))) (NT (a3 m) (y_::a) x).symm),R⟩,⟨R,(am (λz:Nat=>some (a'.box [AV.X 13 0 z false])) (show(y_::a).length+1=(y_::(a++[x])).length by simp)),R⟩,⟨R,(am (λz:List Sp=>some (a'.arr (z.map a2) 9)) (show(y_::a).map Prod.snd++[x.2]=(y_::(a++[x])).map Prod.snd by simp)),R⟩,tr⟩ R⟩⟩
 intro o D;rcases i:e9 prog (a3 m) (cz prog (min n 10000).toNat (a3 m))with _|⟨y_,a⟩
 .refine uO<|tQ rfl<|pO rfl rfl<|oR 2 rfl<|a1 rfl<|oR 1 rfl<|rE 7<|And.intro (by kernel_rfl)<|tQ rfl<|FQ ?_;exact⟨_,rfl,trivial,rfl,Sub.F ⟨Sub.refl _,oM 9 false,trivial⟩⟩
 have c:(y_::a).length<=10000:=by rw[<-i,lR];have k:=AB prog (min n 10000).toNat (a3 m);omega
 have g:(y_::a).length=a.length+1:=rfl;refine uO<|tQ R<|pO R R<|oR 2 R<|a1 R<|oR 1 R<|rE 8<|And.intro (by kernel_rfl)<|tQ R<|FQ ?_;exact⟨_,R,⟨ga,(by show 0+((y_::a).length)<=(((y_::a).map Prod.snd).map a2).length;exact ad),tr⟩,R,Sub.F ⟨Sub.refl _,(by show Sub (.Y 9 (List.take (y_::a).length (List.drop 0 (((y_::a).map Prod.snd).map a2))) false) (.Y 9 (((y_::a).map Prod.snd).map a2) false);rw[bS,aN (by simp)];exact Sub.refl _),tr⟩⟩
end Go.Proofs.YtiaekocjeinkjaaGreatDoor
namespace Go.Proofs.YtiaekocjeinkjaaGreatDoor
open Go.RowKit
end Go.Proofs.YtiaekocjeinkjaaGreatDoor
namespace Go.Proofs.YtiaekocjeinkjaaGreatDoor
open Go.RowKit
structure Kp(c d:Co):Prop where
 Z3:d.Z3=c.Z3
 ret:c.N <+: d.N
 mem:d.mem.size=c.mem.size
theorem Kp.refl(c:Co):Kp c c:=⟨R,List.prefix_refl _,R⟩
theorem Kp.trans{a b c:Co}(h:Kp a b)(k:Kp b c):Kp a c:=⟨k.Z3.trans h.Z3,List.IsPrefix.trans h.ret k.ret,k.mem.trans h.mem⟩
def G9(c:Co):Kp c (lM c):=by
 rw[kC];split
 .unfold ID
  repeat' split
  .exact⟨R,List.prefix_refl _,R⟩
  .exact⟨R,List.prefix_refl _,R⟩
  .rw[<-uY];exact⟨R,List.prefix_refl _,R⟩
  .exact⟨R,List.prefix_refl _,iY ..⟩
  exact⟨R,List.prefix_refl _,R⟩
 exact⟨R,List.prefix_refl _,R⟩
def G_(c:Co):Kp c (kK c):=by
 unfold kK;split
 .exact .refl c
 split<;>exact⟨R,List.prefix_refl _,R⟩
def G4(d:Co)(e:ai):Kp d (Bm d e):=⟨R,List.prefix_append _ _,R⟩
def G5(d:Co)(e:ai):Kp d (MP d e):=⟨R,List.prefix_append _ _,R⟩
theorem q2:∀(n:Nat) (c:Co),Kp c (bx n c)
 |0,c=>.refl c
 | n +1,c=>by
  by_cases a:c.halt≠0\/c.Z.length=0
  .rw[mG a];exact .refl c
  .have d:c.Z[0]?=some (c.Z[0]'ad):=aA ad;rw[iX ad (λq=>a (.inl q)) d];split
   .exact .refl c
   .split
    .exact⟨R,List.prefix_append _ _,R⟩
    .split
     .exact .refl c
     .rw[kB];by_cases b:aj (c.Z[0]'ad).i.op=3
      .rw[Ke b];exact(G5 c _).trans (q2 n _)
      .rw[An b];exact(G4 c _).trans (q2 n _)
def J7(c:Co)(i:Nat):Kp c (oE c i):=by
 unfold oE
 cases c.Z[i]? with
 |none=>exact .refl c
 |some e=>
  dsimp only
  repeat' split
  all_goals exact⟨R,List.prefix_refl _,R⟩
def G'(c:Co)(i:Nat):Kp c (iS c i):=by
 unfold iS
 cases c.Z[i]? with
 |none=>exact .refl c
 | some e=>
  dsimp only;split
  .exact⟨R,List.prefix_refl _,R⟩
  .split
   .exact Kp.trans (b:=fh c i (yC e c.mem.size (mI c.Z c.r i).1)) ⟨R,List.prefix_refl _,R⟩ (J7 _ i)
   .exact⟨R,List.prefix_refl _,R⟩
theorem um:∀(p:List Nat) (c:Co),Kp c (p.foldl iS c)
 |[],c=>.refl c
 |i::p,c=>(G' c i).trans (um p _)
def G6(c:Co):Kp c (gY c):=by
 unfold gY;split
 .exact .refl c
 exact um _ c
theorem ux:∀(n:Nat) (c:Co),Kp c (cl n c)
 |0,c=>.refl c
 | n+1,c=>by
  by_cases a:(c.Z.length:Int)>=c.Q.Z\/c.L.length=0
  .rw[Ap a];exact .refl c
  .have d:c.L[0]?=some (c.L[0]'ad):=aA ad;have e:=CU (n:=n+1) (k:=0) ad (λq=>a (.inl q)) d;rw[(oT:n+1-(0+1)=n),(oT:n+1-0=n+1)]at e;rw[<-e];have b:Kp c (Kh c (c.L[0]'ad)):=⟨R,List.prefix_refl _,R⟩;exact b.trans (ux n _)
def FX(c:Co):Kp c (lP c):=by
 unfold lP;split
 .exact .refl c
 exact ux _ c
def F0(c:Co):Kp c (zP c):=by
 have h:Kp (lJ c) (dM (lJ c) (a8 c.prog c.J)).1:=by
  unfold dM;split
  .exact .refl _
  split<;>exact⟨R,List.prefix_refl _,R⟩
 exact⟨h.Z3,h.ret,h.mem⟩
theorem uk:∀(n:Nat) (c:Co),Kp c (ch n c)
 |0,c=>.refl c
 | n +1,c=>by
  by_cases a:c.stop=true\/(c.L.length:Int)>=c.Q.queue
  .rw[yZ a];exact .refl c
  .by_cases b:(es c.prog c.J).isSome=false
   .rw[Aq ad a b];exact⟨R,List.prefix_refl _,R⟩
   .by_cases d:(bK c.u (ao c.J)).2.isSome=false
    .rw[uD ad a b d];split
     .exact⟨R,List.prefix_refl _,R⟩
     .exact .refl c
    .have e:=BC (n:=n+1) (k:=0) ad a b d;rw[(oT:n+1-(0+1)=n),(oT:n+1-0=n+1)]at e;rw[<-e];exact(F0 c).trans (uk n _)
def F5(c:Co):Kp c (eN c):=by
 unfold eN;split
 .exact .refl c
 exact uk _ c
def E9(c:Co):Kp c (c5 c):=by
 unfold c5;split
 .exact .refl c
 split
 .exact⟨R,List.prefix_refl _,R⟩
 exact .refl c
def uy(c:Co):Kp c (cj c):=by
 unfold cj;split
 .exact .refl c
 unfold pE;split
 .split
  .exact⟨R,List.prefix_refl _,R⟩
  exact .refl c
 exact .refl c
def F1(c:Co):Kp c (tY c):=by
 have a:Kp c (al c):=⟨R,List.prefix_refl _,R⟩;rw[mO];split
 .exact(a.trans (E9 _)).trans (uy _)
 exact a.trans (uy _)
def J8(c:Co):Kp (s0 c) (g6 c):=
 ((((((G9 (s0 c)).trans (G_ _)).trans (q2 _ _)).trans (G6 _)).trans (FX _)).trans (F5 _)).trans (F1 _)
def J9{c:Co}(h:jF c=true):(uG c).Z3=wrap64 (c.Z3+1)/\c.N <+: (uG c).N/\(uG c).mem.size=c.mem.size:=by
 have k:=J8 c;unfold uG;rw[aa h];exact⟨k.Z3,k.ret,k.mem⟩
end Go.Proofs.YtiaekocjeinkjaaGreatDoor
