import Derived.Test.YtiaekocjeinkjaaGreatDoorS33
set_option linter.all false
namespace Go.Proofs.YtiaekocjeinkjaaGreatDoor
open Go.Proofs.Tryz
set_option maxRecDepth 100000
set_option maxHeartbeats 4000000
open Go.RowKit
theorem GO{a:List ai}{b:Int}:∀{n k:Nat},fe a b n=some k->k<n
 |0,k,h=>by cases h
 |n+1,k,h=>by
  simp[fe]at h;split at h
  .injection h with h;omega
  .have:=GO h;omega
def EY{a}{i k}{b}(h:cx a i b=some k):k<i/\k<a.length:=by
 unfold cx at h;split at h
 .cases h
 have:=GO h;omega
def MW{o}(h:DM o<0):o=none:=by cases o with|none=>rfl|some k=>exact absurd h (oT:¬((k:Int)<0))
def Im{o}(h: ¬DM o<0):∃k,o=some k:=by cases o with|none=>exact absurd dT h|some k=>exact⟨k,R⟩
def Kl(b)(r)(t)(i)(a)(v:b.length<=1000)(w:∀x∈b,x.ok)(C:∀k,r k<=4294967295)(y:i<=1000):bI C0 130 [.Y 17 (b.map ab) t,.agg (Ks r),vN i,vI a] (.F [vU ((lK b r i a).getD 0),vB (lK b r i a).isSome]):=by
 refine bc func130 R<|de _ (λm=>?_) (λm=>?_)
 .have d:=mT m;have c:lK b r i a=some 0:=by unfold lK;rw[aa d]
  exact fT R (by rw[c];rfl)
 have d:=nA m;refine zV (vB (decide (a<0)))<|aw R id R<|zN R (by simp)<|zB R (λn=>?_) (λn=>?_)
 .have g:(a<0\/a>31):=by have z:=n;simp[ae]at z;grind
  have c:lK b r i a=none:=by unfold lK;rw[dZ d,aa g]
  exact fT R (by rw[c];rfl)
 have g: ¬(a<0\/a>31):=by have z:=n;simp[ae]at z;grind
 refine zC (QN b t (i) (a) v w ad)<|de (decide ((DM (cx b (i) (a)))<0)) (λo=>?_) (λo=>?_)
 .have u:=ax o;have e:=MW u;refine nW (.ptr 0 (0+a.toNat*1)) R R ad<|zW _ (S_ r a.toNat ad) ?_;have c:lK b r i a=some (r a.toNat):=by unfold lK;rw[dZ d,dZ g,e]
  exact fT R (by rw[c];rfl)
 let⟨j,e⟩:=Im (aF o);let⟨x,s⟩:∃x,b[j]?=some x:=⟨_,aA (EY e).2⟩;refine FO (ab x) R R R (by rw[e];exact⟨aG _,iH s⟩) R<|qR 0 R<|zV (vB (x.is==3))<|gS R id<|aw R id R<|zN R (λh=>h)<|zB R (λp=>?_) (λp=>?_)
 .have q:(x.is=3/\x.halt=0):=by have z:=p;simp[qA]at z;grind
  have c:lK b r i a=some x.value:=by unfold lK;rw[dZ d,dZ g,e];simp only[s];exact aa q
  exact fT R (by rw[c];rfl)
 have q: ¬(x.is=3/\x.halt=0):=by have z:=p;simp[qA]at z;grind
 have c:lK b r i a=none:=by unfold lK;rw[dZ d,dZ g,e];simp only[s];exact dZ q
 exact fT R (by rw[c];rfl)
def Ck{a}{r}(d:∀x∈a,x.ok)(g:∀k,r k<=4294967295)(i)(b):(lK a r i b).getD 0<=4294967295:=by
 unfold lK;split
 .exact aE _
 split
 .exact aE _
 split
 .exact g _
 split
 .rename_i e c;split
  .exact(d e (aB c)).value
  exact aE _
 exact aE _
def VK(a)(r)(b)(i)(g:a.length<=1000)(d:∀x∈a,x.ok)(j:∀k,r k<=4294967295)(p:i<=1000):bI C0 180 [.Y 17 (a.map ab) b,.agg (Ks r),vN i] (.F [vU (mI a r i).1,vU (mI a r i).2.1,vB (mI a r i).2.2]):=by
 refine bc func180 R<|zW _ (ak (bl _ _))<|aw R id (cD ab a)<|aw R b9 (ak (im _ _))<|zN R (by simp)<|zB R (λc=>?_) (λc=>?_)
 .have m:(i>=a.length):=by have z:=c;simp[ae]at z;grind
  have n:a[i]?=none:=bE ad;exact fT R (by rw[show mI a r i=(0,0,false)from by unfold mI;rw[n]];rfl)
 have m: ¬(i>=a.length):=by have z:=c;simp[ae]at z;grind
 let⟨x,e⟩:=d7 a i;have o:=d x (aB e);exact zX _ (.k 17 0 (ab x)) R (iH e)<|zC (Fs x.i)<|zC (Kl a r b (i) (x.i.y) g d j ad)<|zC (Kl a r b (i) (x.i.A) g d j ad)<|zN R (λh=>h)<|fT R (by rw[show mI a r i=((lK a r i x.i.y).getD 0,(lK a r i x.i.A).getD 0,(lK a r i x.i.y).isSome&&(lK a r i x.i.A).isSome)from by unfold mI;rw[e]];simp[<-qA];rfl)
def Ac(e)(j:e.ok):bI C0 243 [.agg (ab e)] (vB (LT e)):=by
 refine bc func243 R<|de _ (λa=>?_) (λa=>?_)
 .replace a:=sP a;exact fT R (dR (by unfold LT;grind))
 refine zC (pS e.i)<|b0 (ak (ba _ _)) (λb=>?_) (λb=>?_)
 .replace a:=sP a;replace b:=sP b;exact fT R (dR (by unfold LT;grind))
 refine b0 (ak (ba _ _)) (λc=>?_) (λc=>?_)
 .refine zB R (λ_=>?_) (λh=>Bool.noConfusion (c.symm.trans h));replace a:=sP a;replace b:=sP b;replace c:=sP c;exact fT R (dR (by unfold LT;grind))
 refine b0 (ak (ba _ _)) (λd=>?_) (λd=>?_)
 .refine zB R (λ_=>?_) (λi=>Bool.noConfusion (d.symm.trans i));replace a:=sP a;replace b:=sP b;replace c:=sP c;replace d:=sP d;exact fT R (dR (by unfold LT;grind))
 refine b0 (ak (ba _ _)) (λg=>?_) (λg=>?_)
 all_goals (replace a:=sP a;replace b:=sP b;replace c:=sP c;replace d:=sP d;replace g:=sP g;exact fT R (dR (by unfold LT;grind)))
def Xd{α:Type}{p:α->Bool}{l:List α}{k:Nat}{x:α}(a:l[k]?=some x)(hp:p x=true)(h:∀y∈l.take k,p y=false):l.findIdx p=k:=by
 have:=QP a hp h;rw[List.findIdx?_eq_some_iff_findIdx_eq]at this;exact this.2
def Xe{α}{p}{l:List α}{k}(a:l.length<=k)(h:∀y∈l.take k,p y=false):l.findIdx p=l.length:=by
 rw[aN a]at h;exact List.findIdx_eq_length.2 h
def QJ(a)(d)(o:a.length<=1000)(m:∀x∈a,x.ok):bI C0 227 [.Y 17 (a.map ab) d] (vN (Cq a)):=by
 refine eb func227 R<|zW _ (cD ab a)<|dk (λk=>⟨a6 [(0,.Y 17 _ d),(5,.Y 17 _ d),(6,vN a.length),(7,vN k)],aq [],4⟩) (λk=>k<=a.length/\∀y∈a.take k,(!LT y)=false) (λk=>a.length-k) 0 (λs=>s) (au (λs=>s) wT tr R) ⟨aE _,QQ⟩ ?_;intro k b;have n:k<=a.length:=b.1;refine b0 (ak (bl _ _)) (λe=>?_) (λe=>?_)
 .have h:=ax e;let⟨x,c⟩:=d7 a k;have i:=m x (aB c);refine zX _ (.k 17 0 (ab x)) R (iH c)<|zC (Ac x i)<|zB R (λg=>?_) (λg=>?_)
  .exact fT R (nT (by unfold Cq;rw[Xd c (sU g) b.2]))
  skip
  have j:k+1<=1000001:=aD oT (aC 1);refine zW _ (ap (bH j R)) ?_;refine⟨k+1,λs=>s,au _ wT tr R,⟨oT,QO c (sU g) b.2⟩,c7⟩
 have h:=aF e;exact zW _ (cD ab a)<|fT R (nT (by unfold Cq;rw[Xe ad b.2]))
def MX(a)(b)(i)(c:a.length<=1000)(d:∀x∈a,x.ok)(g:i<=1000):bI C0 210 [.Y 17 (a.map ab) b,vN i] (vB (vC a i)):=by
 exact bc func210 R<|zW _ (ak (im _ _))<|aw R id (cD ab a)<|aw R b9 (ak (ju _ _))<|zN R (λh=>h)<|jQ R R R R (λh=>h) R R R (.inl R) R (λe=>QJ a b c d)<|aw R b9 (ak (ju _ _))<|zN R (λh=>h)<|fT R (dR (by unfold vC;rw[bB];simp[qA]))
theorem mH(a:List ai):∀k,(cN a k).length=k
 |0=>rfl
 |k+1=>by simp[cN,aU,mH a k,bN,cX]
def Ub{a}{k j}{x}{o}(b:o=some j)(c:(cN a k)[j]?=some x):sZ (cN a k) o=x:=by
 subst b;show(cN a k).getD j _=x;rw[aR,c];rfl
def QK(a:List ai)(d:Bool)(i k:Nat)(b:Int)(m:a.length<=1000)(n:∀x∈a,x.ok)(r:i<=k)(s:k<=1000):pM C0.P C0.G 242 [vN i,vI b,.ptr 0 0,.ptr 1 0] (aq [(0,.box [.Y 17 (a.map ab) d]),(1,.box [.X 2 0 k false]),(2,.arr ((cN a k).map bm) 1)]) 3 (λx h'=>x=vI (sZ (cN a k) (cx a i b))/\h'=aq [(0,.box [.Y 17 (a.map ab) d]),(1,.box [.X 2 0 k false]),(2,.arr ((cN a k).map bm) 1)]):=by
 refine HCall.intro (C:=C0) (s:=3) gr.at func242 R R (by kernel_rfl) R R<|qS 0 R<|zC (QN a d (i) (b) m n ad)<|de (decide ((DM (cx a (i) (b)))>=0)) (λe=>?_) (λe=>?_)
 .have g:=ax e;obtain⟨j,c⟩:=Im (oT:¬DM (cx a i b)<0);have p:=EY c;have q:=mH a k;refine nW _ R ((show b1.Z9 _ (AV.x 2 (0+(DM (cx a i b)).toNat) 0)=b1.Z9 _ (AV.x 2 (0+j) 0)from by rw[c];rfl)) (by(try rw[c]);exact⟨aG _,by show(j:Int)<(k:Int);omega⟩) ?_;obtain⟨x,h⟩:∃o,(cN a k)[j]?=some o:=⟨_,aA ad⟩;refine zX (bm x) (vI x) R (Jv (iH h))<|BH (rs:=[vI x]) R (r:=vI (sZ (cN a k) (cx a i b))) (σ:=λz=>z) ⟨R,R⟩ R (ah (λz=>z) (by rw[Ub c h];rfl) R wH R)
 have g:=aF e;have c:=MW (oT:DM (cx a i b)<0);refine BH (rs:=[vI (-1)]) R (r:=vI (sZ (cN a k) (cx a i b))) (σ:=λz=>z) ⟨R,R⟩ R (ah (λz=>z) (by rw[c];rfl) R wH R)
def yx(a b:Int):(if b>a then b else a)=max a b:=oT
def EZ{p}{H}{s rs}{a}{k}{x}(b:(cN a k).length=k)(c:x=DB a (cN a k) k):
  b1.fx p (.X s 0 ((List.take k (List.drop 0 ((cN a k).map bm))).length+[[AV.v (.int .i64 x)]].length) false) (an H s (some (.arr (List.take k (List.drop 0 ((cN a k).map bm))++[[AV.v (.int .i64 x)]]) rs)))=.fx p (.X s 0 (k+1) false) (an H s (some (.arr ((cN a (k+1)).map bm) rs))):=by
 rw[bS,aN (by rw[aH,b];exact aC _),aH,b];simp only[cN,dH,jC,List.map_nil, <-c];rfl
def yy(a)(d)(o:a.length<=1000)(i:∀x∈a,x.ok):bI C0 226 [.Y 17 (a.map ab) d] (.Y 1 ((jo a).map bm) false):=by
 refine eb func226 R<|zC (QJ a d o i)<|rW _ R (cD ab a)<|zF R (⟨dT,FG.2 ad,by show((a.length:Nat):Int)<=1000000;omega⟩)<|zV (.a 242 [] [.ptr 0 0,.ptr 8 0])<|zW _ (cD ab a)<|dk (λk=>⟨a6 [(2,.Y 0 [] true),(3,vN (Cq a)),(4,.ptr 8 0),(5,.a 242 [] [.ptr 0 0,.ptr 8 0]),(17,.Y 17 (a.map ab) d),(18,vN a.length),(19,vN k)],aq [(0,.box [.Y 17 (a.map ab) d]),(7,.arr ((cN a k).map bm) 1),(8,.box [.X 7 0 k false])],15⟩) (λk=>k<=a.length) (λk=>a.length-k) 0 (λs=>s) (au (λs=>s) wT wH R) (aE _) ?_;intro k w;have y:k<=a.length:=w;have g:k<=1000:=oT;refine b0 (ak (bl _ _)) (λj=>?_) (λj=>?_)
 .have p:=ax j;let⟨x,h⟩:=d7 a k;have C:=i x (aB h);refine zX (ab x) (.k 17 0 (ab x)) R (iH h)<|aW R (pS x.i)<|b0 (ak (db _ _)) (λm=>?_) (λm=>?_)
  .have c:=wM m;refine zC (Fs x.i)<|zH R ((QK a d k k x.i.y o i (aC k) ad).Y_ (λz=>match z with|0=>0|1=>8|2=>7|z=>z) _ _ R ⟨d8,d8,d8,tr⟩ R R R) ?_;rintro _ _ ⟨rfl,rfl⟩;apply fU _ R R R ((QK a d k k x.i.A o i (aC k) ad).Y_ (λz=>match z with|0=>0|1=>8|2=>7|z=>z) _ _ R ⟨⟨R,R,R,R⟩,⟨R,R,R,R⟩,⟨R,R,R,R⟩,tr⟩ R R R);rintro _ _ ⟨rfl,rfl⟩;refine zW (vI (if(sZ (cN a k) (cx a k x.i.A))>(sZ (cN a k) (cx a k x.i.y))then(sZ (cN a k) (cx a k x.i.A))else(sZ (cN a k) (cx a k x.i.y)))) R<|rV (.Y 1 ([[vI (if(sZ (cN a k) (cx a k x.i.A))>(sZ (cN a k) (cx a k x.i.y))then(sZ (cN a k) (cx a k x.i.A))else(sZ (cN a k) (cx a k x.i.y)))]]) true) R ?_;have b:(if(sZ (cN a k) (cx a k x.i.A))>(sZ (cN a k) (cx a k x.i.y))then(sZ (cN a k) (cx a k x.i.A))else(sZ (cN a k) (cx a k x.i.y)))=DB a (cN a k) k:=by unfold DB;rw[h];exact(yx _ _).trans (aa c).symm
   refine zF (x:=.X 48 0 (k+1) false) (h':=an (an _ 7 none) 48 (some (.arr ((cN a (k+1)).map bm) 1))) (EZ (mH a k) b) ⟨by simp[aH,bN,cX,aM,bD,mH,jH];omega,by simp only[aH,mH];omega,tr⟩ ?_;have t:k+1<=1001:=aD g (aC 1);refine zW _ (ap (bH t R)) ?_;refine⟨k+1,λz=>match z with|7=>48|z=>z,au _ wT wH R,oT,c7⟩
  have c:=wN m;refine b0 (ak (fq _ _)) (λn=>?_) (λn=>?_)
  .have e:=ax n;apply rV (.Y 1 ([[vN k]]) true) R;have b:(k:Int)=DB a (cN a k) k:=by unfold DB;rw[h];dsimp only;rw[dZ (show ¬aj x.i.op≠3 from λq=>q c),aa e]
   refine zF (x:=.X 35 0 (k+1) false) (h':=an (an _ 7 none) 35 (some (.arr ((cN a (k+1)).map bm) 1))) (EZ (mH a k) b) ⟨by simp[aH,bN,cX,aM,bD,mH,jH];omega,by simp only[aH,mH];omega,tr⟩ ?_;have u:k+1<=1001:=aD g (aC 1);refine zW _ (ap (bH u R)) ?_;refine⟨k+1,λz=>match z with|7=>35|z=>z,au _ wT wH R,oT,c7⟩
  have e:=aF n;apply rV (.Y 1 ([[vI (-1)]]) true) R;have b:(-1)=DB a (cN a k) k:=by unfold DB;rw[h];dsimp only;rw[dZ (show ¬aj x.i.op≠3 from λq=>q c),dZ e]
  refine zF (x:=.X 33 0 (k+1) false) (h':=an (an _ 7 none) 33 (some (.arr ((cN a (k+1)).map bm) 1))) (EZ (mH a k) b) ⟨by simp[aH,bN,cX,aM,bD,mH,jH];omega,by simp only[aH,mH];omega,tr⟩ ?_;have v:k+1<=1001:=aD g (aC 1);refine zW _ (ap (bH v R)) ?_;refine⟨k+1,λz=>match z with|7=>33|z=>z,au _ wT wH R,oT,c7⟩
 have p:=aF j;have r:k=a.length:=oT;subst r;apply dK R (by show 0+a.length<=((cN a a.length).map bm).length;rw[aH,mH];omega) R;show AV.Y 1 (List.take a.length (List.drop 0 ((cN a a.length).map bm))) false=_;rw[jW bm (cN a a.length) (by rw[mH];exact aC _)];rfl
def yz{a}{i}{b}(d:decide (DM (cx a i b)>=0)=true):0<=DM (cx a i b)/\((jo a).map bm)[(DM (cx a i b)).toNat]?=some (bm ((jo a).getD (DM (cx a i b)).toNat (-1))):=by
 have h:=ax d;let⟨j,c⟩:=Im (oT:¬DM (cx a i b)<0);refine⟨h,?_⟩;rw[c];have e:=(EY c).2;have g:(jo a).length=a.length:=mH a a.length;show((jo a).map bm)[j]?=some (bm ((jo a).getD j (-1)));rw[aX,aR,aA ad];rfl
def Uc(a)(i)(b):cE (decide (DM (cx a i b)>=0)) (decide ((jo a).getD (DM (cx a i b)).toNat (-1)>=0)) false=IC a i b:=by
 unfold IC
 cases h:cx a i b with
 |none=>rfl
 |some j=>
  rw[show decide (DM (some j)>=0)=true from jP (aG _)];rfl
def Ud(a)(c)(i)(b)(e:a.length<=1000)(g:∀x∈a,x.ok)(j:i<=1000):bI C0 208 [.Y 17 (a.map ab) c,vN i,vI b] (vB (IC a i b)):=by
 exact bc func208 R<|zC (QN a c (i) (b) e g ad)<|zV (vB (decide ((DM (cx a (i) (b)))>=0)))<|zQ (x:=.Y 1 ((jo a).map bm) false) (g:=decide ((DM (cx a (i) (b)))>=0)) R (λh=>h) R (.inl R) (λd=>yy a c e g)<|DK (bm ((jo a).getD (DM (cx a i b)).toNat (-1))) (x:=.k 1 0 (bm ((jo a).getD (DM (cx a i b)).toNat (-1)))) (g:=decide ((DM (cx a (i) (b)))>=0)) R R R R b9 R R (λd=>yz d) R<|gS R id<|aw R id R<|zN R (λh=>h)<|fT R (dR (Uc a i b))
def y0(e)(j:e.ok):bI C0 206 [.agg (ab e)] (vB (DC e)):=by
 refine bc func206 R<|zC (pS e.i)<|b0 (ak (ba _ _)) (λa=>?_) (λa=>?_)
 .refine zB R (λ_=>?_) (λg=>Bool.noConfusion (a.symm.trans g));replace a:=sP a;exact fT R (dR (by unfold DC;rw[bB];simp[aY];grind))
 refine b0 (ak (ba _ _)) (λb=>?_) (λb=>?_)
 .refine zB R (λ_=>?_) (λh=>Bool.noConfusion (b.symm.trans h));replace a:=sP a;replace b:=sP b;exact fT R (dR (by unfold DC;rw[bB];simp[aY];grind))
 refine b0 (ak (ba _ _)) (λc=>?_) (λc=>?_)
 .refine zB R (λ_=>?_) (λi=>Bool.noConfusion (c.symm.trans i));replace a:=sP a;replace b:=sP b;replace c:=sP c;exact fT R (dR (by unfold DC;rw[bB];simp[aY];grind))
 refine b0 (ak (ba _ _)) (λd=>?_) (λd=>?_)
 all_goals (replace a:=sP a;replace b:=sP b;replace c:=sP c;replace d:=sP d;exact fT R (dR (by unfold DC;rw[bB];simp[aY];grind)))
def y1(e)(h:e.ok):bI C0 209 [.agg (ab e)] (.Y 1 ((qD e).map bm) true):=by
 refine bc func209 R<|zC (Fs e.i)<|zC (pS e.i)<|zW (vB ((aj e.i.op)==3)) (ak (ba _ _))<|zB R (λa=>?_) (λa=>?_)
 .have c:=mT a;refine zB R (λ_=>?_) (λg=>Bool.noConfusion (a.symm.trans g));apply zV _;exact fT R (by rw[show qD e=[e.i.y]from by unfold qD;exact aa ad];rfl)
 have c:=nA a;refine zW (vB ((aj e.i.op)==4)) (ak (ba _ _))<|zB R (λb=>?_) (λb=>?_)
 .have d:=mT b;apply zV _;exact fT R (by rw[show qD e=[e.i.y]from by unfold qD;exact aa ad];rfl)
 have d:=nA b;apply zV _;exact fT R (by rw[show qD e=[e.i.y,e.i.A]from by unfold qD;exact dZ ad];rfl)
def Ue(e):(qD e).length<=2:=by unfold qD;split<;>simp
def Xf(a)(c)(i)(b)(e:a.length<=1000)(g:∀x∈a,x.ok)(d:i<=1000):bI C0 207 [vI b,.k 1 0 [.Y 17 (a.map ab) c],.k 1 0 [vN i]] (vB (!IC a i b)):=by
 apply bc func207 R;exact zC (Ud a c i b e g d)<|fT R R
def C6(b)(a)(j)(i)(E:a.length<=1000)(v:∀x∈a,x.ok)(D:i<=1000):bI C0 179 [vI b,.Y 17 (a.map ab) j,vN i] (vB (Pr b a i)):=by
 refine bc func179 R<|zW _ (ak (bl _ _))<|aw R id (cD ab a)<|aw R b9 (ak (im _ _))<|zN R (by simp)<|zB R (λn=>?_) (λn=>?_)
 .have H:(i>=a.length):=by have z:=n;simp[ae]at z;grind
  have I:a[i]?=none:=bE ad;exact fT R (dR (by unfold Pr;rw[I]))
 have H: ¬(i>=a.length):=by have z:=n;simp[ae]at z;grind
 let⟨x,d⟩:=d7 a i;have m:=v x (aB d);refine zX (ab x) (.k 17 0 (ab x)) R (iH d)<|zC (y0 x m)<|zB R (λg=>?_) (λg=>?_)
 .exact fT R (dR (by unfold Pr;rw[d];dsimp only;rw[aa (sU g)]))
 refine zV (.a 207 [] [.ptr 0 0,.ptr 1 0])<|de (b==0) (λo=>?_) (λo=>?_)
 .have c:=mT o;exact fT R (dR (by unfold Pr;rw[d];dsimp only;rw[dZ (sU g),aa c]))
 have c:=nA o;refine de (b==1) (λp=>?_) (λp=>?_)
 .have e:=mT p;refine zX (ab x) (.k 17 0 (ab x)) R (iH d)<|aW R (y1 x m)<|zW _ (cD bm (qD x))<|dk (λk=>⟨a6 [(4,.ptr 0 0),(5,.ptr 1 0),(17,vB (cE (decide (i<0)) true (decide (i>=a.length)))),(23,vB (!(DC x))),(7,.a 207 [] [.ptr 0 0,.ptr 1 0]),(25,vI b),(26,vB (b==0)),(28,vB (b==1)),(34,.Y 1 ((qD x).map bm) true),(35,vN ((qD x).length)),(36,vN k)],aq [(0,.box [.Y 17 (a.map ab) j]),(1,.box [vN i])],31⟩) (λk=>k<=(qD x).length/\((qD x).take k).all (λF=> !IC a i F)=true) (λk=>(qD x).length-k) 0 (λs=>s) (au (λs=>s) wT wH R) ⟨aE _,R⟩ ?_;intro k u;have J:k<=(qD x).length:=u.1;refine b0 (ak (bl _ _)) (λq=>?_) (λq=>?_)
  .have y:=ax q;let⟨w,h⟩:=d7 (qD x) k;refine zX (bm w) (.k 1 0 (bm w)) R (iH h)<|zL R (.inr ⟨R,tr,tr,tr,tr⟩) (Xf a j i w E v D)<|zB R (λr=>?_) (λr=>?_)
   .have z:=r;exact fT R (dR (by unfold Pr;rw[d];dsimp only;rw[dZ (sU g),dZ c,aa e,Ir h (sU z)]))
   skip
   have G:k+1<=1000001:=aD (oH (Ue x)) (aC 1);refine zW _ (ap (bH G R)) ?_;refine⟨k+1,λs=>s,au _ wT wH R,⟨oT,DV h (sU r) u.2⟩,by show(qD x).length-(k+1)<(qD x).length-k;omega⟩
  have y:=aF q;exact fT R (dR (by unfold Pr;rw[d];dsimp only;rw[dZ (sU g),dZ c,aa e,DW ad u.2]))
 have e:=nA p;refine de (b==2) (λt=>?_) (λt=>?_)
 .have C:=mT t;exact zC (MX a j i E v D)<|fT R (dR (by unfold Pr;rw[d];dsimp only;rw[dZ (sU g),dZ c,dZ e,aa C]))
 exact fT R (dR (by unfold Pr;rw[d];dsimp only;rw[dZ (sU g),dZ c,dZ e,dZ (nA t)]))
abbrev RP(n:Nat):List AV:=[vI (n:Int)]
theorem NM{α:Type}(f:α->Value):∀(l:List α),(l.flatMap λa=>[f a])=l.map f
 |[]=>rfl
 |a::l=>by rw[gW,NM f l];rfl
def KU{α:Type}{f:α->Value}{l:List α}{S:Nat->Prop}{w:World}{v:Value}{g:Bool}(e:TypeId)(s:∀b,S b->b<w.heap.size)(h:av S w cy (.Y 1 (l.map λa=>[AV.v (f a)]) g) v):Sl w.heap.size e 1 w v l.length (l.flatMap λa=>[f a]):=by
 cases h with
 |Y _ _ _ A c b o u p t G H r E I D=>
  rw[aH]at p;refine⟨A,c,by rw[aH],p,t,by rw[NM,aH,iD],λC=>?_⟩;let⟨m,n⟩:=r (by rw[aH];exact C);refine⟨b,o,m,.inl (s b n),λj x q=>?_⟩;rw[NM,aX]at q;obtain⟨y,F,rfl⟩:=Gi.1 q;have d:(l.map λa=>[AV.v (f a)])[j]?=some [AV.v (f y)]:=by rw[aX,F];rfl
  have i:=E j _ 0 _ d R;have k:=D j _ 0 _ d R;rw[(oT:o+j*1+0=o+j)]at i;rw[i];generalize u j 0=z at k;cases k;rfl
def Pg{α:Type}{f:α->Value}(y:∀a,(f a).oneCell'=true){l:List α}{w:World}{v:Value}{base:Nat}{e:TypeId}(h:w.ownsRow base e 1 v l.length (l.flatMap λa=>[f a]))(S:Nat->Prop)(z:∀b,base<=b->b<w.heap.size->S b):av S w cy (.Y 1 (l.map λa=>[AV.v (f a)]) false) v:=by
 obtain⟨H,⟨rfl,u⟩|⟨g,r,n,rfl,C,s,E,D,G,t⟩⟩:=h
 .have:l=[]:=gq u;subst this;exact .Y 1 [] false none 0 0 0 (λ_ _=>.bool false) (aC _) (aE _) nofun nofun (λh=>absurd h (iI 0)) (λi row j a h=>by simp at h) (λ_ _=>rfl) λi row j a h=>by simp at h
 .rw[NM,iD]at t;have k:∀(i:Nat) row (j:Nat) a,(l.map λa=>[AV.v (f a)])[i]?=some row->row[j]?=some a->∃x,l[i]?=some x/\j=0/\a=.v (f x)/\n[i]?=some (f x):=by
   intro i row j a c d;rw[aX]at c;obtain⟨x,q,rfl⟩:=Gi.1 c
   cases j with
   |zero=>
    injection d with d;refine⟨x,q,R,d.symm,?_⟩;have:(l.map f)[i]?=some (f x):=by rw[aX,q];rfl
    rw[<-t,cU]at this;split at this
    .rwa[<-bQ]
    .cases this
   |succ j=>simp at d
  have o:(l.map λa=>[AV.v (f a)]).length=l.length:=aH ..;rw[<-o];refine .Y 1 _ false (some ⟨g,0,none⟩) r g 0 (λi j=>if i<l.length then n.getD i undef else .bool false) (by rw[o];exact E) D nofun (λrow F=>?_) (λ_=>⟨R,z g C (fJ s)⟩) (λi row j a c d=>?_) (λi j=>?_) λi row j a c d=>?_
  .obtain⟨x,_,rfl⟩:=pG.1 F;rfl
  .obtain⟨x,p,rfl,rfl,m⟩:=k i row j a c d;rw[aa (Em.1 p).1,gP s];rw[(oT:0+i*1+0=i),m,aK,m];rfl
  .show(if i<l.length then n.getD i undef else .bool false).oneCell'=true;by_cases c:i<l.length
   .rw[aa c];let⟨x,p,_,_,m⟩:=k i [AV.v (f l[i])] 0 (.v (f l[i])) (by rw[aX,aA c];rfl) R;rw[aK,m];exact y x
   .rw[dZ c];rfl
  .obtain⟨x,p,rfl,rfl,m⟩:=k i row j a c d;rw[aa (Em.1 p).1,aK,m];exact .v _
def sx(agN)(busy)(kinds)(can)(h c2)(u:kinds.length<=1000)(x:can.length<=1000):bI C0 139 [vI agN,vB busy,.Y 1 (kinds.map bm) h,.Y 1 (can.map h8) c2] (.Y 1 ((kj agN busy kinds can).map RP) false):=by
 refine⟨⟨_,func139,R,R⟩,λS w t c y a=>?_⟩
 match t,a with
 |[r,s,d,g],a=>
  have i:=a.2 1 _ s R R;have j:=a.2 2 _ d R R;have k:=a.2 3 _ g R R;cases (a.2 0 _ r R R);cases i
  apply(UO agN busy kinds can w.heap.size kinds.length can.length d g w (KU _ c j) (KU _ c k) R R ad ad).mono;rintro e w' ⟨v,n,o,m⟩
  exact⟨v,n,m,Pg (λ_=>rfl) o _ λb p q=>.inr ⟨p,q⟩⟩
 |[],a=>exact absurd a.1 (by simp)
 |[_],a=>exact absurd a.1 (by simp)
 |[_,_],a=>exact absurd a.1 (by simp)
 |[_,_,_],a=>exact absurd a.1 (by simp)
 |_::_::_::_::_::_,a=>exact absurd a.1 (by simp)
def Mi(q:List bp)(agY:Nat)(kinds:List Int):Bool:=q.any λx=>kinds.any λk=>decide (x.S=agY)&&decide (x.kind=k)
def UR(q:List bp):yH q<=q.length:=List.length_filter_le _ _
def Hb{q:List bp}{k}{x}(h:q[k]?=some x):yH (q.take (k+1))=yH (q.take k)+(if x.kind=4 then 0 else 1):=by
 unfold yH;rw[bW,h];by_cases e:x.kind=4<;>simp[mL,e]
def XR(q)(e)(o:q.length<=1000000)(i:∀x∈q,x.S<=4294967295):bI C0 188 [.Y 4 (q.map bv) e] (vN (yH q)):=by
 refine bc func188 R<|zW _ (cD bv q)<|dk (λk=>⟨a6 [(6,.Y 4 _ e),(7,vN q.length),(3,vN (yH (q.take k))),(8,vN k)],aq [],5⟩) (λk=>k<=q.length) (λk=>q.length-k) 0 (λs=>s) (au (λs=>s) wT tr R) (aE _) ?_;intro k n;have c:k<=1000000:=oT;have g:yH (q.take k)<=1000000:=by have:=UR (q.take k);rw[aM]at this;omega
 refine zW _ (ak (bl _ _))<|zB R (λa=>?_) (λa=>?_)
 .skip
  let⟨x,b⟩:∃x,q[k]?=some x:=⟨_,aA (ax a)⟩;have m:=i x (aB b);refine zX _ (.k 4 0 (bv x)) R (iH b)<|de _ (λd=>?_) (λd=>?_)
  .skip
   have h:(yH _)+1<=1000001:=aD g (aC 1);refine zW _ (ap (bH h R)) ?_;refine zW _ (ap (bH (aD c (aC 1)) R)) ?_;refine⟨k+1,λs=>s,au _ ⟨a9,a9,⟨(am (λz:Nat=>AV.v (.int .i64 (z:Int))) (by rw[Hb b];have q:=d;simp at q;simp[q])),R⟩,a9,tr⟩ tr R,ax a,oH (ax a)⟩
  skip
  refine zW _ (ap (bH (aD c (aC 1)) R)) ?_;refine⟨k+1,λs=>s,au _ ⟨a9,a9,⟨(am (λz:Nat=>AV.v (.int .i64 (z:Int))) (by rw[Hb b];have q:=d;simp at q;simp[q])),R⟩,a9,tr⟩ tr R,ax a,oH (ax a)⟩
 have j:=aF a;exact fT R (nT (by rw[aN (oT:q.length<=k)]))
def Je{α}{f}{l:List α}{k}{x}(h:l[k]?=some x)(b:f x=false)(a:(l.take k).any f=false):(l.take (k+1)).any f=false:=by
 rw[bW,h];simp[List.any_append,b]at a⊢;exact a
def Jf{α:Type}{f:α->Bool}{l:List α}{k:Nat}{x:α}(h:l[k]?=some x)(a:f x=true):l.any f=true:=Mv.2 ⟨x,aB h,a⟩
def Mj{α}{f}{l:List α}{k}(h:l.length<=k)(a:(l.take k).any f=false):l.any f=false:=by rwa [aN h]at a
def RQ(q)(agY)(kinds)(g a)(y:q.length<=1000000)(w:∀x∈q,x.S<=4294967295)(r:agY<=4294967295)(v:kinds.length<=1000000):bI C0 144 [.Y 4 (q.map bv) g,vU agY,.Y 1 (kinds.map bm) a] (vB (Mi q agY kinds)):=by
 refine bc func144 R<|zW _ (cD bv q)<|dk (λk=>⟨a6 [(1,vU agY),(2,.Y 1 (kinds.map bm) a),(11,.Y 4 (q.map bv) g),(12,vN q.length),(13,vN k)],aq [],4⟩) (λk=>k<=q.length/\(q.take k).any (λx:bp=>kinds.any λk=>decide (x.S=agY)&&decide (x.kind=k))=false) (λk=>q.length-k) 0 (λs=>s) (au (λs=>s) wT tr R) ⟨aE _,R⟩ ?_;intro k n;refine b0 (ak (bl _ _)) (λb=>?_) (λb=>?_)
 .skip
  let⟨x,o⟩:∃x,q[k]?=some x:=⟨_,aA (ax b)⟩;refine zX (bv x) (.k 4 0 (bv x)) R (iH o)<|zW _ (cD bm kinds)<|dk (λj=>⟨a6 [(1,vU agY),(2,.Y 1 (kinds.map bm) a),(8,.ptr 7 0),(11,.Y 4 (q.map bv) g),(12,vN q.length),(13,vN k),(17,.Y 1 (kinds.map bm) a),(18,vN kinds.length),(19,vN j)],aq [(7,.box [vI x.kind,vU x.S,vI x.left,.v (.string x.data)])],12⟩) (λj=>j<=kinds.length/\(kinds.take j).any (λk:Int=>decide (x.S=agY)&&decide (x.kind=k))=false) (λj=>kinds.length-j) 0 (λs=>s) (au (λs=>s) wT wH R) ⟨aE _,R⟩ ?_;intro j m;have p:j<=1000000:=oH m.1;refine b0 (ak (bl _ _)) (λc=>?_) (λc=>?_)
  .skip
   let⟨e,d⟩:∃e,kinds[j]?=some e:=⟨_,aA (ax c)⟩;refine zX (bm e) (.k 1 0 (bm e)) R (iH d)<|zW _ (ak (ba _ _))<|zG R id<|aw R b9 R<|zN R (λh=>h)<|zB R (λi=>?_) (λi=>?_)
   .exact fT R (am (λz=>AV.v (.bool z)) (Jf o (Jf d (by have z:=i;simpa [c2]using z))).symm)
   skip
   have t:j+1<=1000001:=aD p (aC 1);refine zW _ (ap (bH t R)) ?_;refine⟨j+1,λs=>s,au _ wT wH R,⟨ax c,Je d (by have z:=i;simpa [c2]using z) m.2⟩,oH (ax c)⟩
  have u:k+1<=1000001:=aD (oH n.1) (aC 1);refine zW _ (ap (bH u R)) ?_;refine⟨k+1,λs=>s,au _ wT tr R,⟨ax b,Je o (Mj (oH (aF c)) m.2) n.2⟩,oH (ax b)⟩
 exact fT R (am (λz=>AV.v (.bool z)) (Mj (oH (aF b)) n.2).symm)
structure Co.E(c:Co)(n:Nat):Prop where
 ok:c.ok n
 nb:n<=890000
 cf:wA c.Q=true
 data:gG c.data=true
 u:gG c.u=true
 K:sM c.K=true
 Z:c.Z.length<=1000
 Z5:c.L.length<=1000
 Z':c.V.length<=1000
 prog:c.prog.length<=1000
 mem:c.mem.size<=256
 ZO:∀x∈c.V,x.data.size<=4
theorem Co.E.U{c:Co}{n}(h:c.E n):c.U.length<=890000:=aL h.ok.U h.nb
theorem Co.E.ret{c:Co}{n}(h:c.E n):c.N.length<=890000:=aL h.ok.ret h.nb
def pD{c}(h:wA c=true):c.q.length<=64/\c.tape.length<=64/\1<=c.o/\c.o<=2/\c.Z<=8/\2<=c.Z/\c.queue<=4/\1<=c.queue/\c.V<=4/\1<=c.V/\c.m<=6/\2<=c.m/\0<=c.mode/\c.mode<=2:=by
 unfold wA jf at h;simp[aP,aY]at h;omega
theorem Co.E.Q{c:Co}{n}(h:c.E n):c.Q.ok:=⟨oH ((pD h.cf).1),oH ((pD h.cf).2.1),h.ok.Q.tp⟩
theorem Co.E.d4{c:Co}{n}(h:c.E n):c.data.O.length<=4:=(kJ h.data).2.1
theorem Co.E.d2{c:Co}{n}(h:c.E n):∀s∈c.data.O,s.length<=2:=λs a=>by have:=kJ h.data;have:=this.2.2.2.2 s a;omega
def MU(agF)(c)(q)(m):(jz agF c q m).size=m.size:=by unfold jz Ct jZ;rw[iY,iY,iY]
def Ua(c)(n)(a:c.E n)(R F S T)(first):bI C0 145 [.k 64 0 (az c R F S T),vB first] (vB (tA c first)):=by
 refine bc func145 rfl<|zC (XR c.U false (oH a.U) (λx d=>(a.ok.Z_ x d).S))<|zB rfl (λb=>?_) (λb=>?_)
 .exact zV (vB (decide (((yH c.U:Nat):Int)<c.Q.m)))<|fT rfl (dR (by unfold tA;rw[aa b]))
 exact rW _ rfl (ap (dd (oH (pD a.cf)) (oH (pD a.cf))))<|zV (vB (decide (((yH c.U:Nat):Int)<(c.Q.m-1))))<|fT rfl (dR (by unfold tA;rw[dZ (by rw[b];decide)]))
def QI{m a n:Nat}(h:kZ (m:Int) a (n:Int)=true):a+n<=m:=by
 unfold kZ at h;simp[aP,aY]at h;omega
def yu(m)(a n)(h:m.size<=1000)(d:a<=4294967295)(e:n<=4):bI C0 166 [.v (.string m),vU a,vN n] (.F [.v (.string (if kZ (m.size:Int) a (n:Int)=true then Cv m a n else oZ)),vI (if kZ (m.size:Int) a (n:Int)=true then 0 else 1)]):=by
 refine bc func166 R<|zV (vN m.size)<|zC (GY (m.size:Int) a (n:Int) ad (CI d))<|zB R (λc=>?_) (λc=>?_)
 .have b: ¬kZ (m.size:Int) a (n:Int)=true:=sU c;exact fT R (by rw[dZ b,dZ b];rfl)
 have g:=QI (sU c:kZ (m.size:Int) a (n:Int)=true);refine zW _ (ap (bH d R)) ?_;refine rW _ R (ap (bH (aD d e) R))<|zM (.v (.string (m.extract a (a+n)))) R (by refine⟨?_,?_,?_⟩<;>(first|exact aG _|decide|(apply FG.2;exact ad))) ?_;have b:kZ (m.size:Int) a (n:Int)=true:=sU c;exact fT R (by rw[aa b,aa b];rfl)
def MV(c)(n)(a:c.E n)(R F T)(b)(e)(d:e.ok):bI C0 123 [.k 64 0 (az c R F (.Y 2 (c.V.map ay) b) T),.agg (ab e)] (.v (.string (oL c e))):=by
 exact bc func123 rfl<|zR<|zC (AI c.V c.data c.U c.mem false b a.ok.data a.d4 a.d2 (oH a.mem) (oH a.U) a.ok.Z_ (oH a.Z') a.ok.Z0)<|zC (Gd e.i)<|zC (yu (jz c.V c.data c.U c.mem) e.W (bh e.i.op) (by rw[MU];have:=a.mem;omega) d.W (lQ e.i.op))<|fT rfl rfl
def Xb(c)(n)(m:c.E n)(F S T)(o)(agY)(a:agY<=4294967295):bI C0 212 [.k 64 0 (az c (.Y 17 (c.Z.map ab) o) F S T),vU agY] (vB (Kt c agY)):=by
 refine eb func212 R<|zC (As c.data agY m.ok.data a)<|zB R (λd=>?_) (λd=>?_)
 .exact fT R (dR (by unfold Kt;rw[d];rfl))
 refine zW _ (cD ab c.Z)<|dk (λk=>⟨a6 [(1,vU agY),(21,vB ((bK c.data agY).2.isSome)),(26,.Y 17 (c.Z.map ab) o),(27,vN c.Z.length),(28,vN k)],aq [],23⟩) (λk=>k<=c.Z.length/\(c.Z.take k).any (λe:ai=>e.Z8&&decide (ao e.W=agY))=false) (λk=>c.Z.length-k) 0 (λs=>s) (au (λs=>s) wT tr R) ⟨aE _,R⟩ ?_;intro k j;have t:k<=c.Z.length:=j.1;refine b0 (ak (bl _ _)) (λg=>?_) (λg=>?_)
 .have p:=ax g;let⟨x,b⟩:=d7 c.Z k;have q:=m.ok.Z6 x (aB b);refine zX (ab x) (.k 17 0 (ab x)) R (iH b)<|gS R id<|zQ R (λh=>h) R (.inl R) (λu=>tN x.W q.W)<|aw R b9 (ak (ba _ _))<|zN R (λh=>h)<|zB R (λi=>?_) (λi=>?_)
  .have z:=i;exact fT R (dR (by unfold Kt;rw[Jf b (by simpa [qA]using z)];simp))
  skip
  have r:k+1<=1001:=aD (oH m.Z) (aC 1);refine zW _ (ap (bH r R)) ?_;refine⟨k+1,λs=>s,au _ wT tr R,⟨oT,Je b (by have z:=i;simpa [qA]using z) j.2⟩,c7⟩
 have p:=aF g;exact fT R (dR (by unfold Kt;rw[d,Mj ad j.2];rfl))
def yv(c)(n)(a:c.E n)(F S T)(e)(i)(s:i<c.Z.length):bI C0 138 [.k 64 0 (az c (.Y 17 (c.Z.map ab) e) F S T),vN i] (vB (fl c i)):=by
 apply eb func138 R;let⟨x,d⟩:=d7 c.Z i;have r:=a.ok.Z6 x (aB d);refine zX (ab x) (.k 17 0 (ab x)) R (iH d)<|de (x.is != 0) (λj=>?_) (λj=>?_)
 .have g:=wM j;exact fT R (dR (by unfold fl;rw[d];dsimp only;rw[aa g]))
 have g:=wN j;refine zR<|zC (C6 c.Q.mode c.Z e i a.Z a.ok.Z6 (oH a.Z))<|zC (Fs x.i)<|zR<|zC (Kl c.Z c.r e i (x.i.y) a.Z a.ok.Z6 a.ok.r (oH a.Z))<|zC (pS x.i)<|b0 (ak (ba _ _)) (λk=>?_) (λk=>?_)
 .have b:=mT k;exact zG R id<|pB R R R R (λh=>h) R R (λq p=>by first|(rw[q,p];rfl)|simp_all)<|zN rfl (by simp)<|fT rfl (dR (by unfold fl;rw[d];dsimp only;rw[dZ ad,aa b];simp[qA,ae,lG]))
 have b:=nA k;refine b0 (ak (ba _ _)) (λm=>?_) (λm=>?_)
 .have o:=mT m;exact zN R (λh=>h)<|zN R (λh=>h)<|fT R (dR (by unfold fl;rw[d];dsimp only;rw[dZ ad,dZ b,aa o];simp[qA,ae,lG]))
 exact zR<|zC (VK c.Z c.r e i a.Z a.ok.Z6 a.ok.r (oH a.Z))<|zN R (λh=>h)<|fT R (dR (by unfold fl;rw[d];dsimp only;rw[dZ ad,dZ b,dZ (nA m)];simp[qA,ae,lG]))
theorem pM.ZA{P}{G}{f}{args}{g c}{L}{s}{r}(H:pM P G f args (aq ((0,g)::L)) s (λx h'=>x=r/\h'=aq ((0,c)::L)))(ρ)(K)(s2)(b:hD (aq ((0,g)::L)) s=true)(h:jm ρ K s s2 ((0,g)::L))(p:UQ ρ s=true)(n:mS s args=true)(q:eP r=true)(o:qM s c=true):
  pM P G f (Bg ρ args) K s2 (λx h'=>x=r/\h'=an K (ρ 0) (some (DI ρ c))):=by
 have t:0<s:=aJ h.1.2.1;refine H.ZH ρ K s2 b h p n _ λr' h' m=>?_;obtain⟨rfl,rfl⟩:=m;refine⟨_,⟨od _ _ q,R⟩,λy blk a=>?_⟩;by_cases i:y=ρ 0
 .subst i;rw[dB]at a;injection a with a;exact .inl ⟨0,c,R,(rL ρ ad).symm,by rw[<-a,yL ρ s s2 c o]⟩
 rw[cI _ _ i]at a;by_cases k:∃x,x<s/\ρ x=y
 .obtain⟨x,d,rfl⟩:=k;let⟨bb,b4⟩:=DQ.1 (uH b x d);have j:=h.get x bb b4;rw[j.2.2.2]at a;injection a with a;refine .inl ⟨x,bb,?_,(rL ρ ad).symm,?_⟩
  .have:Nat.beq 0 x=false:=by rw[<-eJ];exact λe=>(λe=>i (by rw[e])) (aO e).symm
   simp[aq,this]at b4⊢;exact b4
  rw[<-a];exact(yL ρ s s2 bb j.2.2.1).symm
 exact .inr ⟨a,λx d e=>k ⟨x,d,e⟩⟩
theorem pM.fB{P}{G}{f}{args}{b c}{L}{s}{r}(H:pM P G f args (aq ((0,b)::L)) s (λx h'=>x=r∧h'=aq ((0,c)::L)))(ρ){K}{s2}(a:hD (aq ((0,b)::L)) s=true:=by rfl)(d:jm ρ K s s2 ((0,b)::L):=by repeat (first|exact trivial|refine⟨d8,?_⟩))(bb:UQ ρ s=true:=by rfl)(e:mS s args=true:=by rfl)(h:eP r=true:=by rfl)(g:qM s c=true:=by rfl):
  pM P G f (Bg ρ args) K s2 (λx h'=>x=r∧h'=an K (ρ 0) (some (DI ρ c))):=H.ZA ρ K s2 a d bb e h g
def zA{c}{agY}(h:(iQ c.data c.U c.mem agY (lX c.Q c.asked)).2.2=true):oK c agY={c with data:=(iQ c.data c.U c.mem agY (lX c.Q c.asked)).1,U:=(iQ c.data c.U c.mem agY (lX c.Q c.asked)).2.1,asked:=wrap64 (c.asked+1)}:=by unfold oK;generalize iQ c.data c.U c.mem agY _=t at h⊢;let⟨d,q,a⟩:=t;dsimp only at h;subst h;rfl
def AN{c}{agY}(h:(iQ c.data c.U c.mem agY (lX c.Q c.asked)).2.2=false):oK c agY={c with data:=(iQ c.data c.U c.mem agY (lX c.Q c.asked)).1,U:=(iQ c.data c.U c.mem agY (lX c.Q c.asked)).2.1}:=by unfold oK;generalize iQ c.data c.U c.mem agY _=t at h⊢;let⟨d,q,a⟩:=t;dsimp only at h;subst h;rfl
def mq(c)(n)(e:c.E n)(b)(agY)(a)(d:agY<=4294967295)(h)(m)(g)(k)(i)(o)(j)(p):pM C0.P C0.G 146 [.ptr 0 0,vI b,vU agY,.v (.string a)] (aq [(0,.box (az c (.Y 17 m h) (.Y 2 k g) (.Y 2 o i) (.Y 9 p j)))]) 1 (λx h'=>x=.F []/\h'=aq [(0,.box (az (jE c b agY a) (.Y 17 m h) (.Y 2 k g) (.Y 2 o i) (.Y 9 p j)))]):=by
 apply hZ 1 func146 R;exact a7<|oR 18 R<|aW R (Fa c.Q c.asked e.Q e.ok.asked)<|oR 1 R<|aW R (Ng c.U b agY (lX c.Q c.asked) a false (oH e.U) e.ok.Z_ d)<|oR 3 R<|a1 R<|rE 26<|qX 0 R<|rW _ R (ap (af _))<|d_ 0 R<|a1 R<|cg 0 R<|du
def zo(c)(n)(e:c.E n)(b)(agY)(a)(d:agY<=4294967295)(k m)(h)(o)(g)(p)(i)(q)(j)(r):pM C0.P C0.G 146 [.ptr 0 0,vI b,vU agY,.v (.string a)] (aq [(0,.box (az c (.X 1 k m h) (.Y 2 p g) (.Y 2 q i) (.Y 9 r j))),(1,.arr o 17)]) 2 (λx h'=>x=.F []/\h'=aq [(0,.box (az (jE c b agY a) (.X 1 k m h) (.Y 2 p g) (.Y 2 q i) (.Y 9 r j))),(1,.arr o 17)]):=by
 apply hZ 2 func146 R;exact a7<|oR 18 R<|aW R (Fa c.Q c.asked e.Q e.ok.asked)<|oR 1 R<|aW R (Ng c.U b agY (lX c.Q c.asked) a false (oH e.U) e.ok.Z_ d)<|oR 3 R<|a1 R<|rE 27<|qX 0 R<|rW _ R (ap (af _))<|d_ 0 R<|a1 R<|cg 0 R<|du
def z_(c)(n)(e:c.E n)(b)(agY)(a)(d:agY<=4294967295)(h)(o)(k m)(g)(rF)(i)(p)(j)(q):pM C0.P C0.G 146 [.ptr 0 0,vI b,vU agY,.v (.string a)] (aq [(0,.box (az c (.Y 17 o h) (.X 1 k m g) (.Y 2 p i) (.Y 9 q j))),(1,.arr rF 2)]) 2 (λx h'=>x=.F []/\h'=aq [(0,.box (az (jE c b agY a) (.Y 17 o h) (.X 1 k m g) (.Y 2 p i) (.Y 9 q j))),(1,.arr rF 2)]):=by
 apply hZ 2 func146 R;exact a7<|oR 18 R<|aW R (Fa c.Q c.asked e.Q e.ok.asked)<|oR 1 R<|aW R (Ng c.U b agY (lX c.Q c.asked) a false (oH e.U) e.ok.Z_ d)<|oR 3 R<|a1 R<|rE 27<|qX 0 R<|rW _ R (ap (af _))<|d_ 0 R<|a1 R<|cg 0 R<|du
def C5(c)(n)(a:c.E n)(agY)(b:agY<=4294967295)(g)(k)(e)(j)(h)(m)(i)(o):pM C0.P C0.G 125 [.ptr 0 0,vU agY] (aq [(0,.box (az c (.Y 17 k g) (.Y 2 j e) (.Y 2 m h) (.Y 9 o i)))]) 1 (λx h'=>x=.F []/\h'=aq [(0,.box (az (oK c agY) (.Y 17 k g) (.Y 2 j e) (.Y 2 m h) (.Y 9 o i)))]):=by
 refine hZ 1 func125 R<|a7<|oR 28 R<|aW R (Fa c.Q c.asked a.Q a.ok.asked)<|aW R (Nb c.data c.U c.mem agY (lX c.Q c.asked) a.ok.data (oH a.U) a.ok.Z_ (oH a.mem) b)<|oR 7 R<|a1 R<|oR 3 R<|a1 R<|oR 1 R<|rE 45<|jk 0 R<|aV R (λd=>?_) (λd=>?_)
 .refine qC 0 R<|rW _ R (ap (af _))<|d_ 0 R<|a1 R ?_;rw[zA d];exact cg 0 R<|du
 skip
 rw[AN d];exact jj 0 R<|du
def z'(c)(n)(a:c.E n)(agY)(b:agY<=4294967295)(j k)(g)(m)(e)(o)(h)(p)(i)(q):pM C0.P C0.G 125 [.ptr 0 0,vU agY] (aq [(0,.box (az c (.X 1 j k g) (.Y 2 o e) (.Y 2 p h) (.Y 9 q i))),(1,.arr m 17)]) 2 (λx h'=>x=.F []/\h'=aq [(0,.box (az (oK c agY) (.X 1 j k g) (.Y 2 o e) (.Y 2 p h) (.Y 9 q i))),(1,.arr m 17)]):=by
 refine hZ 2 func125 R<|a7<|oR 28 R<|aW R (Fa c.Q c.asked a.Q a.ok.asked)<|aW R (Nb c.data c.U c.mem agY (lX c.Q c.asked) a.ok.data (oH a.U) a.ok.Z_ (oH a.mem) b)<|oR 7 R<|a1 R<|oR 3 R<|a1 R<|oR 1 R<|rE 46<|jk 0 R<|aV R (λd=>?_) (λd=>?_)
 .refine qC 0 R<|rW _ R (ap (af _))<|d_ 0 R<|a1 R ?_;rw[zA d];exact cg 0 R<|du
 skip
 rw[AN d];exact jj 0 R<|du
def yw(c)(n)(a:c.E n)(agY)(b:agY<=4294967295)(j m)(g)(p)(e)(r)(h)(s)(k o)(i)(q):pM C0.P C0.G 125 [.ptr 0 0,vU agY] (aq [(0,.box (az c (.X 1 j m g) (.Y 2 r e) (.Y 2 s h) (.X 2 k o i))),(1,.arr p 17),(2,.arr q 9)]) 3 (λx h'=>x=.F []/\h'=aq [(0,.box (az (oK c agY) (.X 1 j m g) (.Y 2 r e) (.Y 2 s h) (.X 2 k o i))),(1,.arr p 17),(2,.arr q 9)]):=by
 refine hZ 3 func125 R<|a7<|oR 28 R<|aW R (Fa c.Q c.asked a.Q a.ok.asked)<|aW R (Nb c.data c.U c.mem agY (lX c.Q c.asked) a.ok.data (oH a.U) a.ok.Z_ (oH a.mem) b)<|oR 7 R<|a1 R<|oR 3 R<|a1 R<|oR 1 R<|rE 47<|jk 0 R<|aV R (λd=>?_) (λd=>?_)
 .refine qC 0 R<|rW _ R (ap (af _))<|d_ 0 R<|a1 R ?_;rw[zA d];exact cg 0 R<|du
 skip
 rw[AN d];exact jj 0 R<|du
def Xc(c)(n)(a:c.E n)(agY)(b:agY<=4294967295)(j o)(g)(r)(e)(t)(k p)(h)(rS)(m q)(i)(s):pM C0.P C0.G 125 [.ptr 0 0,vU agY] (aq [(0,.box (az c (.X 1 j o g) (.Y 2 t e) (.X 2 k p h) (.X 3 m q i))),(1,.arr r 17),(2,.arr rS 2),(3,.arr s 9)]) 4 (λx h'=>x=.F []/\h'=aq [(0,.box (az (oK c agY) (.X 1 j o g) (.Y 2 t e) (.X 2 k p h) (.X 3 m q i))),(1,.arr r 17),(2,.arr rS 2),(3,.arr s 9)]):=by
 refine hZ 4 func125 R<|a7<|oR 28 R<|aW R (Fa c.Q c.asked a.Q a.ok.asked)<|aW R (Nb c.data c.U c.mem agY (lX c.Q c.asked) a.ok.data (oH a.U) a.ok.Z_ (oH a.mem) b)<|oR 7 R<|a1 R<|oR 3 R<|a1 R<|oR 1 R<|rE 48<|jk 0 R<|aV R (λd=>?_) (λd=>?_)
 .refine qC 0 R<|rW _ R (ap (af _))<|d_ 0 R<|a1 R ?_;rw[zA d];exact cg 0 R<|du
 skip
 rw[AN d];exact jj 0 R<|du
def t_(e)(d:e.ok):bI C0 127 [.agg (ab e)] (.agg (ab (bn e))):=by
 refine bc func127 R<|de (e.is != 1) (λa=>?_) (λa=>?_)
 .replace a:=sP a;refine dK R dc R (oW ?_);simp[af,bn,a]<;>(intros;simp_all)
 refine zV (vI (IntKind.wrap .i64 (e.left-1)))<|de (decide ((IntKind.wrap .i64 (e.left-1))<=0)) (λb=>?_) (λb=>?_)
 .refine aW R (pS e.i)<|zW _ (ak (ba _ _))<|gS R id<|aw R id R<|zN R (λh=>h)<|zB R (λc=>?_) (λc=>?_)
  all_goals
   replace a:=sP a;replace b:=sP b;replace c:=sP c
   first|refine dK rfl dc rfl (oW (e:=(⟨e.no,e.M,⟨e.i.op,e.i.rd,e.i.y,e.i.A,e.i.C⟩,e.K,3,0,e.value,e.next,e.W,e.halt,e.d,true,e.Z8⟩:ai)) ?_)|refine dK rfl dc rfl (oW (e:=(⟨e.no,e.M,⟨e.i.op,e.i.rd,e.i.y,e.i.A,e.i.C⟩,e.K,3,0,e.value,e.next,e.W,e.halt,e.d,e.known,e.Z8⟩:ai)) ?_)
   simp[af,bn,a,b,c]<;>(intros;simp_all)
 replace a:=sP a;replace b:=sP b;refine dK R dc R (oW (e:=(⟨e.no,e.M,⟨e.i.op,e.i.rd,e.i.y,e.i.A,e.i.C⟩,e.K,e.is,IntKind.wrap .i64 (e.left-1),e.value,e.next,e.W,e.halt,e.d,e.known,e.Z8⟩:ai)) ?_);simp[af,bn,a,b]<;>(intros;simp_all)
def XS(e)(a b)(k:e.ok)(m:a<=4294967295)(n:b<=4294967295):bI C0 184 [.agg (ab e),vU a,vU b] (.agg (ab (rJ e a b))):=by
 refine bc func184 R<|zC (pS e.i)<|zV (vB (e.is != 0))<|aw R id (ak (ba _ _))<|zN R (by simp)<|aw R id (ak (ba _ _))<|zN R (by simp)<|zB R (λc=>?_) (λc=>?_)
 .replace c:=sP c;refine dK R dc R (oW ?_);simp[af,rJ,uE,b_,c]<;>(intros;simp_all)
 refine aW R (Da e.i)<|de ((wr e.i) != 0) (λd=>?_) (λd=>?_)
 all_goals
  first|refine zC (Nu e.i e.M a b (CI k.C) (CI k.M) (CI m) (CI n)) ?_|skip
  refine zV (vU ((e.M+4)%4294967296))<|b0 (ak (ba _ _)) (λg=>?_) (λg=>?_)
  .replace c:=sP c;replace d:=sP d;replace g:=sP g
   first|refine dK rfl dc rfl (oW (e:=(⟨e.no,e.M,⟨e.i.op,e.i.rd,e.i.y,e.i.A,e.i.C⟩,e.K,1,3,BF e.i.op e.i.C e.M a b,(e.M+4)%4294967296,e.W,e.halt,e.d,e.known,e.Z8⟩:ai)) ?_)|refine dK rfl dc rfl (oW (e:=(⟨e.no,e.M,⟨e.i.op,e.i.rd,e.i.y,e.i.A,e.i.C⟩,e.K,1,3,0,(e.M+4)%4294967296,e.W,e.halt,e.d,e.known,e.Z8⟩:ai)) ?_)
   simp[af,rJ,uE,b_,c,d,g]<;>(intros;simp_all)
  refine b0 (ak (ba _ _)) (λh=>?_) (λh=>?_)
  .apply zC (Xz e.i.op a b (CI m) (CI n));replace c:=sP c;replace d:=sP d;replace g:=sP g;replace h:=sP h
   first|refine dK rfl dc rfl (oW (e:=(⟨e.no,e.M,⟨e.i.op,e.i.rd,e.i.y,e.i.A,e.i.C⟩,e.K,1,(e8 e.i.op a b:Int),BF e.i.op e.i.C e.M a b,(e.M+4)%4294967296,e.W,e.halt,(e8 e.i.op a b:Int),e.known,e.Z8⟩:ai)) ?_)|refine dK rfl dc rfl (oW (e:=(⟨e.no,e.M,⟨e.i.op,e.i.rd,e.i.y,e.i.A,e.i.C⟩,e.K,1,(e8 e.i.op a b:Int),0,(e.M+4)%4294967296,e.W,e.halt,(e8 e.i.op a b:Int),e.known,e.Z8⟩:ai)) ?_)
   simp[af,rJ,uE,b_,c,d,g,h]<;>(intros;simp_all)
  refine b0 (ak (ba _ _)) (λi=>?_) (λi=>?_)
  .refine zC (LW e.i e.M a b (CI k.C) (CI k.M) (CI m) (CI n))<|zB R (λj=>?_) (λj=>?_)
   all_goals
    replace c:=sP c;replace d:=sP d;replace g:=sP g;replace h:=sP h;replace i:=sP i;replace j:=sP j
    first|refine dK rfl dc rfl (oW (e:=(⟨e.no,e.M,⟨e.i.op,e.i.rd,e.i.y,e.i.A,e.i.C⟩,e.K,1,1,BF e.i.op e.i.C e.M a b,qP e.i.op e.i.C e.M a b,e.W,e.halt,e.d,e.known,e.Z8⟩:ai)) ?_)|refine dK rfl dc rfl (oW (e:=(⟨e.no,e.M,⟨e.i.op,e.i.rd,e.i.y,e.i.A,e.i.C⟩,e.K,1,1,0,qP e.i.op e.i.C e.M a b,e.W,e.halt,e.d,e.known,e.Z8⟩:ai)) ?_)|refine dK rfl dc rfl (oW (e:=(⟨e.no,e.M,⟨e.i.op,e.i.rd,e.i.y,e.i.A,e.i.C⟩,e.K,1,1,0,(e.M+4)%4294967296,e.W,3,e.d,e.known,e.Z8⟩:ai)) ?_)
    simp[af,rJ,uE,b_,c,d,g,h,i,j]<;>(intros;simp_all)
  replace c:=sP c;replace d:=sP d;replace g:=sP g;replace h:=sP h;replace i:=sP i
  first|refine dK rfl dc rfl (oW (e:=(⟨e.no,e.M,⟨e.i.op,e.i.rd,e.i.y,e.i.A,e.i.C⟩,e.K,1,1,BF e.i.op e.i.C e.M a b,(e.M+4)%4294967296,e.W,e.halt,e.d,e.known,e.Z8⟩:ai)) ?_)|refine dK rfl dc rfl (oW (e:=(⟨e.no,e.M,⟨e.i.op,e.i.rd,e.i.y,e.i.A,e.i.C⟩,e.K,1,1,0,(e.M+4)%4294967296,e.W,e.halt,e.d,e.known,e.Z8⟩:ai)) ?_)
  simp[af,rJ,uE,b_,c,d,g,h,i]<;>(intros;simp_all)
def VV(e)(size)(a)(j:e.ok)(g:size<9223372036854775808)(i:a<=4294967295):bI C0 182 [.agg (ab e),vI size,vU a] (.agg (ab (yC e size a))):=by
 refine bc func182 R<|zC (pS e.i)<|zW _ (ak (db _ _))<|aw R id (ak (db _ _))<|zN R (λh=>h)<|gS R id<|aw R id R<|zN R (by simp)<|gS R id<|zN R (by simp)<|zB R (λb=>?_) (λb=>?_)
 .replace b:=sP b;refine dK R dc R (oW ?_);simp[af,yC,b]<;>(intros;simp_all)
 skip;refine zV (vU ((a+e.i.C)%4294967296))<|zR<|zC (Gd e.i)<|zC (GY size ((a+e.i.C)%4294967296) (bh e.i.op:Nat) g (aQ _ dT))<|zB R (λc=>?_) (λc=>?_)
 .replace b:=sP b;replace c:=sP c;refine dK R dc R (oW (e:=(⟨e.no,e.M,⟨e.i.op,e.i.rd,e.i.y,e.i.A,e.i.C⟩,e.K,e.is,e.left,e.value,e.next,(a+e.i.C)%4294967296,e.halt,e.d,true,e.Z8⟩:ai)) ?_);simp[af,yC,b,c]<;>(intros;simp_all)
 refine b0 (ak (ba _ _)) (λd=>?_) (λd=>?_)
 all_goals
  replace b:=sP b;replace c:=sP c;replace d:=sP d
  first|refine dK rfl dc rfl (oW (e:=(⟨e.no,e.M,⟨e.i.op,e.i.rd,e.i.y,e.i.A,e.i.C⟩,e.K,3,e.left,e.value,e.next,(a+e.i.C)%4294967296,5,e.d,e.known,e.Z8⟩:ai)) ?_)|refine dK rfl dc rfl (oW (e:=(⟨e.no,e.M,⟨e.i.op,e.i.rd,e.i.y,e.i.A,e.i.C⟩,e.K,3,e.left,e.value,e.next,(a+e.i.C)%4294967296,4,e.d,e.known,e.Z8⟩:ai)) ?_)
  simp[af,yC,b,c,d]<;>(intros;simp_all)
def RR(e)(s)(i:e.ok)(g:s.size<9223372036854775808):bI C0 122 [.agg (ab e),.v (.string s)] (.agg (ab (uM e s))):=by
 refine bc func122 R<|aW R (pS e.i)<|zW _ (ak (db _ _))<|gS R id<|gS R id<|zN R (by simp)<|gS R id<|aw R id R<|zG R id<|gS R id<|aw R id R<|pB R R R R (λh=>h) R R (λd c=>by first|(rw[d,c];rfl)|simp_all)<|zN rfl (by simp)<|zB rfl (λa=>?_) (λa=>?_)
 .replace a:=sP a;refine dK R dc R (oW ?_);simp[af,uM,a]<;>(intros;simp_all)
 skip
 refine aW R (Da e.i)<|de _ (λb=>?_) (λb=>?_)
 .apply zC (sf e.i.op s g);replace a:=sP a;replace b:=sP b;refine dK R dc R (oW (e:=(⟨e.no,e.M,⟨e.i.op,e.i.rd,e.i.y,e.i.A,e.i.C⟩,e.K,1,1,hG e.i.op s,e.next,e.W,e.halt,e.d,e.known,e.Z8⟩:ai)) ?_);simp[af,uM,a,b]<;>(intros;simp_all)
 replace a:=sP a;replace b:=sP b;refine dK R dc R (oW (e:=(⟨e.no,e.M,⟨e.i.op,e.i.rd,e.i.y,e.i.A,e.i.C⟩,e.K,1,1,0,e.next,e.W,e.halt,e.d,e.known,e.Z8⟩:ai)) ?_);simp[af,uM,a,b]<;>(intros;simp_all)
def XT(x n:Nat)(b:x<4294967296)(a:n<=4):bI C0 174 [vU x,vI (n:Int)] (vU (la x n)):=by
 exact bc func174 R<|zC (Nv x n b a)<|zC (se (oF x n) (by rw[mP];exact a))<|fT R R
def RS(e)(b)(d:e.ok)(c:b<=4294967295):bI C0 131 [.agg (ab e),vU b] (.agg (ab (uF e b))):=by
 refine bc func131 R<|aW R (pS e.i)<|zW _ (ak (db _ _))<|gS R id<|gS R id<|zN R (by simp)<|gS R id<|aw R id R<|zN R (by simp)<|zB R (λa=>?_) (λa=>?_)
 .replace a:=sP a;refine dK R dc R (oW ?_);simp[af,uF,a]<;>(intros;simp_all)
 refine aW R (Gd e.i)<|zC (XT b (bh e.i.op) (CI c) (lQ e.i.op)) ?_;replace a:=sP a;refine dK R dc R (oW (e:=(⟨e.no,e.M,⟨e.i.op,e.i.rd,e.i.y,e.i.A,e.i.C⟩,e.K,3,e.left,la b (bh e.i.op),e.next,e.W,e.halt,e.d,e.known,e.Z8⟩:ai)) ?_);simp[af,uF,a]<;>(intros;simp_all)
def RT(e)(j:e.ok):bI C0 134 [.agg (ab e)] (.agg (a2 (cA e))):=by
 refine bc func134 R<|de (e.halt != 0) (λa=>?_) (λa=>?_)
 .refine zV (.agg [vU e.M,vU e.M,vI 0,zU,zU,vI 0,vB false,vI e.halt,vI 0])<|zV (vB (e.halt==4))<|gS R id<|aw R id R<|zN R (by simp)<|zB R (λg=>?_) (λg=>?_)
  .replace a:=sP a;replace g:=sP g;refine dK R dc R (DL (e:=⟨e.M,e.M,0,0,e.W,0,false,e.halt,0⟩) ?_);simp[cA,b_,a,g]<;>(intros;simp_all)
  replace a:=sP a;replace g:=sP g;refine dK R dc R (DL (e:=⟨e.M,e.M,0,0,0,0,false,e.halt,0⟩) ?_);simp[cA,b_,a,g]<;>(intros;simp_all)
 refine zR ?_;refine zV (vU ((e.M+4)%4294967296))<|zC (Da e.i)<|zV (.agg [vU e.M,vU ((e.M+4)%4294967296),vI (wr e.i),zU,zU,vI 0,vB false,vI 0,vI 0])<|de ((wr e.i) != 0) (λb=>?_) (λb=>?_)
 all_goals
  refine zC (pS e.i)<|b0 (ak (ba _ _)) (λc=>?_) (λc=>?_)
  .skip;apply zC (Gd e.i);replace a:=sP a;replace b:=sP b;replace c:=sP c;refine dK R dc R (DL (e:=⟨e.M,(e.M+4)%4294967296,wr e.i,e.value,e.W,bh e.i.op,true,0,0⟩) ?_);simp[cA,b_,a,b,c]<;>(intros;simp_all)
  refine b0 (ak (ba _ _)) (λd=>?_) (λd=>?_)
  .apply zC (Gd e.i);replace a:=sP a;replace b:=sP b;replace c:=sP c;replace d:=sP d
   first|refine dK rfl dc rfl (DL (e:=⟨e.M,(e.M+4)%4294967296,wr e.i,e.value,e.W,bh e.i.op,false,0,0⟩) ?_)|refine dK rfl dc rfl (DL (e:=⟨e.M,(e.M+4)%4294967296,wr e.i,0,e.W,bh e.i.op,false,0,0⟩) ?_)
   simp[cA,b_,a,b,c,d]<;>(intros;simp_all)
  refine b0 (ak (ba _ _)) (λh=>?_) (λh=>?_)
  .replace a:=sP a;replace b:=sP b;replace c:=sP c;replace d:=sP d;replace h:=sP h
   first|refine dK rfl dc rfl (DL (e:=⟨e.M,(e.M+4)%4294967296,wr e.i,e.value,0,0,false,0,e.d⟩) ?_)|refine dK rfl dc rfl (DL (e:=⟨e.M,(e.M+4)%4294967296,wr e.i,0,0,0,false,0,e.d⟩) ?_)
   simp[cA,b_,a,b,c,d,h]<;>(intros;simp_all)
  refine b0 (ak (ba _ _)) (λi=>?_) (λi=>?_)
  all_goals
   replace a:=sP a;replace b:=sP b;replace c:=sP c;replace d:=sP d;replace h:=sP h;replace i:=sP i
   first|refine dK rfl dc rfl (DL (e:=⟨e.M,e.next,wr e.i,e.value,0,0,false,0,0⟩) ?_)|refine dK rfl dc rfl (DL (e:=⟨e.M,e.next,wr e.i,0,0,0,false,0,0⟩) ?_)|refine dK rfl dc rfl (DL (e:=⟨e.M,(e.M+4)%4294967296,wr e.i,e.value,0,0,false,0,0⟩) ?_)|refine dK rfl dc rfl (DL (e:=⟨e.M,(e.M+4)%4294967296,wr e.i,0,0,0,false,0,0⟩) ?_)
   simp[cA,b_,a,b,c,d,h,i]<;>(intros;simp_all)
def D5(n:Nat):(if(0:Int)>(n:Int)then(0:Int)else(n:Int))=(n:Int):=dZ ad
def sy{n:Nat}(h:n<=1000):IntKind.wrap .i64 ((n:Int)-1)=(n:Int)-1:=dd ad ad
def XU{k:Nat}(a:0<k)(h:k<=1000):IntKind.wrap .i64 (((k:Int)-1)-1)=((k-1:Nat):Int)-1:=by rw[dd ad ad];omega
def A3{a b:Nat}(h:b<=a)(c:a<=4294967295):IntKind.wrap .u32 ((a:Int)-(b:Int))=((a-b:Nat):Int):=by
 rw[(oT:((a:Int)-(b:Int))=((a-b:Nat):Int))];exact nJ (by omega:a-b<=4294967295) R
def US(a n)(b:a<=4294967295)(c:n<=1000):bI C0 245 [vU a,vN n] (.v (.int .u64 ((a+n:Nat):Int))):=by
 apply bc func245 R;exact zW _ (ap (nJ b R))<|rW _ R (ap (D5 n))<|rW _ R (ap (nJ c R)) (zW _ (ap (nJ (aD b c) R))<|fT R R)
def zc(a n b m)(d:a<=4294967295)(i:n<=1000)(e:b<=4294967295)(g:m<=1000):bI C0 229 [vU a,vN n,vU b,vN m] (vB (hV a n b m)):=by
 refine bc func229 R<|zW _ (ak (ju _ _))<|aw R id (ak (ju _ _))<|zN R (by simp)<|zB R (λc=>?_) (λc=>?_)
 .exact fT R (dR (by have z:=c;simp[ae,qA,hV]at z⊢ <;>grind))
 exact zW _ (ap (nJ d R))<|aW R (US b m e g)<|zW _ (ak (bl _ _))<|gn R id (ap (nJ e R))<|jQ R R R R b9 R R R (.inl R) R (λj=>US a n d i)<|aw R b9 (ak (bl _ _))<|zN R (λh=>h)<|fT R (dR (by have z:=c;simp[ae,qA,hV]at z⊢ <;>grind))
def XV(a n b m)(c:a<=4294967295)(i:n<=1000)(d:b<=4294967295)(g:m<=1000):bI C0 230 [vU a,vN n,vU b,vN m] (vB (Fh a n b m)):=by
 exact bc func230 R<|zW _ (ak (fq _ _))<|aw R b9 (ak (ju _ _))<|zN R (λh=>h)<|zQ R b9 R (.inl R) (λe=>US b m d g)<|jQ R R R R b9 R R R (.inl R) R (λe=>US a n c i)<|aw R b9 (ak (ju _ _))<|zN R (λh=>h)<|fT R (dR (by simp[ae,qA,Fh]<;>grind))
def D6(s:Std):Value:=.agg #[.int .u32 (s.W:Int),.int .i64 (s.size:Int),.string s.data,.bool s.there]
def sT(s:Std):Array Value:= #[D6 s]
abbrev xt(s:Std):List AV:=[vU s.W,vN s.size,.v (.string s.data),vB s.there]
def NN(R:List ai)(k:Nat):List Std:=(((R.drop k).filter λe=>f' e 4).map Fg).reverse
def UT(R:List ai)(S:List Pt)(k:Nat):List Std:=NN R 0++((S.drop k).map CY).reverse
def NO(R:List ai)(S:List Pt):FW R S=NN R 0++(S.map CY).reverse:=rfl
def FA{α}{l:List α}{k}{x}(b:0<k)(h:l[k-1]?=some x):l.drop (k-1)=x::l.drop k:=by
 obtain⟨a,rfl⟩:=Em.1 h;rw[bF a,(oT:k-1+1=k)]
def NP{R}{k}{x}(a:0<k)(h:R[k-1]?=some x)(b:f' x 4=true):NN R (k-1)=NN R k++[Fg x]:=by
 unfold NN;rw[FA a h,List.filter_cons_of_pos (sU b)];simp
def XW{R}{k}{x}(a:0<k)(h:R[k-1]?=some x)(b:f' x 4=false):NN R k=NN R (k-1):=by
 unfold NN;rw[FA a h,List.filter_cons_of_neg (sU b)]
def UU(R)(S)(k):NN R k <+: FW R S:=by
 rw[NO];refine List.IsPrefix.trans ?_ (List.prefix_append _ _);refine⟨(((R.take k).filter λe=>f' e 4).map Fg).reverse,?_⟩;unfold NN;rw[<-List.reverse_append, <-dH, <-mL,j',bS]
def Ph(R):NN R R.length=[]:=by unfold NN;rw[List.drop_length];rfl
def KV{R}{S}{k}{x}(a:0<k)(h:S[k-1]?=some x):UT R S (k-1)=UT R S k++[CY x]:=by
 unfold UT;rw[FA a h];simp
def UV(R)(S)(k):UT R S k <+: FW R S:=by
 rw[NO];unfold UT;rw[List.prefix_append_right_inj];exact⟨((S.take k).map CY).reverse,by rw[<-List.reverse_append, <-dH,j']⟩
def Pi(R)(S):UT R S S.length=NN R 0:=by unfold UT;rw[List.drop_length];simp
def UW(R:List ai)(S:List Pt):UT R S 0=FW R S:=rfl
def UX{R}{S}(d:∀x∈R,x.ok)(a:∀x∈S,x.ok)(b:∀x∈S,x.data.size<=4){s}(h:s∈FW R S):s.W<=4294967295∧s.size<=4∧s.data.size=s.size:=by
 unfold FW at h;rcases dz.1 h with h|h
 .obtain⟨e,c,rfl⟩:=pG.1 (List.mem_reverse.1 h);exact⟨(d e (List.mem_filter.1 c).1).W,lQ _,mP _ _⟩
 obtain⟨p,hp,rfl⟩:=pG.1 (List.mem_reverse.1 h);exact⟨(a p hp).W,b p hp,rfl⟩
theorem DE{at_ n:Nat}:∀{l:List Std},(∀s,s∈l->hV s.W s.size at_ n=false)->xK at_ n l=(2,oZ)
 |[],_=>rfl
 |s::l,h=>by
  simp[xK];rw[aa (h s dg)];exact DE λy a=>h y (bY _ a)
theorem Dh{at_ n:Nat}{s:Std}:∀{pre l:List Std},pre++[s] <+: l->(∀y,y∈pre->hV y.W y.size at_ n=false)->hV s.W s.size at_ n=true->
  xK at_ n l=if Fh s.W s.size at_ n=false\/s.there=false then(0,oZ)else(1,s.data.extract (at_-s.W) (at_-s.W+n))
 |[],[],h,_,_=>by have:=h.length_le;simp at this
 |[],y::l,h,_,a=>by
  let⟨t,b⟩:=h;obtain⟨rfl, -⟩:=List.cons.inj b
  simp only[xK];rw[dZ (by simp[a])]
 |y::pre,[],h,_,_=>by have:=h.length_le;simp at this
 |y::pre,z::l,h,c,a=>by
  let⟨t,b⟩:=h;let⟨d,e⟩:=List.cons.inj b;subst d;simp[xK];rw[aa (c y dg)];exact Dh ⟨t,e⟩ (λy g=>c y (bY _ g)) a
def RU(R)(S)(c a)(J:R.length<=1000)(K:∀x∈R,x.ok)(F:S.length<=1000)(E:∀x∈S,x.ok):RN C0 244 [.k 1 0 ([.Y 17 (R.map ab) c]),.k 1 0 ([.Y 2 (S.map ay) a])] sT (FW R S):=by
 apply RN.intro gr func244 rfl rfl (by kernel_rfl) rfl;intro y;refine rQ<|rQ<|nU rfl<|a7<|oR 1 rfl<|rW _ rfl (cD ab R)<|rW _ rfl (ap (sy J))<|oR 1 rfl<|rE 4<|AA<|NH (κ:=Nat) (λk=>⟨a6 [(0,.v y),(1,.k 1 0 ([.Y 17 (R.map ab) c])),(2,.k 1 0 ([.Y 2 (S.map ay) a])),(4,vI ((k:Int)-1))],aq [],4⟩) (λk=>NN R k) (λk=>k<=R.length) (λk=>k) R.length (λs=>s) (au (λs=>s) wT trivial rfl) rfl (Ph R) (aC _) ?_;intro k I;have i:k<=1000:=by have:k<=R.length:=I;omega
 refine rQ<|rQ<|nU rfl<|a7<|oR 1 rfl<|rV (vB (decide (((k:Int)-1)>=0))) rfl<|rE 6<|Cz rfl (λn=>?_) (λn=>?_)
 .have u:=ax n;have b:0<k:=oT;refine nU rfl<|mF<|rQ<|AA<|rQ<|nU rfl<|a7<|oR 2 rfl ?_;let⟨x,h⟩:=d7 R (k-1);have G:=K x (aB h);refine FO (ab x) rfl rfl rfl (⟨oT,by rw[(oT:((k:Int)-1).toNat=k-1)];exact iH h⟩) rfl<|oR 1 rfl<|dm 10 rfl rfl<|a1 rfl<|rE 12<|rQ<|rQ<|nU rfl<|a7<|oR 2 rfl<|aW rfl (pS x.i)<|rW _ rfl (ak (db _ _))<|rE 16<|Cz rfl (λo=>?_) (λo=>?_)
  .have d:=wM o;have D:f' x 4=false:=by unfold f';simpa using d
   refine nU rfl<|Bh<|nU rfl<|a7<|oR 1 rfl<|rW _ rfl (ap (XU b i))<|oR 1 rfl<|rE 19 ?_;refine⟨rfl,k-1,λs=>s,au _ wT trivial rfl,rfl,(XW b h D).symm,(oT:k-1<=R.length),(oT:k-1<k)⟩
  have d:=wN o;have m:f' x 4=true:=by unfold f';simpa using d
  refine nU rfl<|mF<|rQ<|nU rfl<|a7<|oR 2 rfl<|aW rfl (Gd x.i)<|oR 1 rfl<|rE 20<|rQ<|nU rfl<|a7<|oR 3 rfl<|aW rfl (Nv x.value (bh x.i.op) (CI G.value) (lQ x.i.op))<|oR 5 rfl<|rE 29<|rQ<|NI rfl 9 rfl rfl rfl<|oR 7 rfl<|rV (vB (x.is==3)) rfl<|rV (.agg [vU x.W,vN (bh x.i.op),.v (.string (oF x.value (bh x.i.op))),vB (x.is==3)]) rfl<|rE 38 ?_;refine⟨Fg x,_,⟨a6 [(0,.v y),(1,.k 1 0 ([.Y 17 (R.map ab) c])),(2,.k 1 0 ([.Y 2 (S.map ay) a])),(4,vI ((k:Int)-1)),(36,.v y),(44,.agg [vU x.W,vN (bh x.i.op),.v (.string (oF x.value (bh x.i.op))),vB (x.is==3)])],aq [],0⟩,λs=>s,au _ wT trivial rfl,rfl,rfl,rfl,rfl,rfl,rfl,(by rw[<-NP b h m];exact UU R S _),λM=>?_⟩;refine oR 1 rfl<|rE 40<|Cz rfl (λq=>?_) (λq=>?_)
  .refine nU rfl<|FQ ?_;intro g;rw[q]at g;cases g
  refine nU rfl<|mF<|nU rfl<|a7<|oR 1 rfl<|rW _ rfl (ap (XU b i))<|oR 1 rfl<|rE 43 ?_;refine⟨q,k-1,λs=>s,au _ wT trivial rfl,rfl,(NP b h m),(oT:k-1<=R.length),(oT:k-1<k)⟩
 have u:=aF n;refine nU rfl<|Bh<|rQ<|nU rfl<|a7<|oR 1 rfl<|rW _ rfl (cD ay S)<|rW _ rfl (ap (sy F))<|oR 1 rfl<|rE 10<|AA ?_;obtain C:k=0:=oT;subst C;apply NH (κ:=Nat) (λj=>⟨a6 [(0,.v y),(1,.k 1 0 ([.Y 17 (R.map ab) c])),(2,.k 1 0 ([.Y 2 (S.map ay) a])),(9,vI ((j:Int)-1))],aq [],10⟩) (λj=>UT R S j) (λj=>j<=S.length) (λj=>j) S.length (λs=>s) (au (λs=>s) wT trivial rfl) rfl (Pi R S) (aC _);intro j H;have w:j<=1000:=by have:j<=S.length:=H;omega
 refine rQ<|rQ<|nU rfl<|a7<|oR 1 rfl<|rV (vB (decide (((j:Int)-1)>=0))) rfl<|rE 12<|Cz rfl (λr=>?_) (λr=>?_)
 .have v:=ax r;have e:0<j:=oT;refine nU rfl<|mF<|rQ<|AA<|rQ<|nU rfl<|a7<|oR 2 rfl ?_;let⟨p,hp⟩:=d7 S (j-1);have L:=E p (aB hp);refine FO (ay p) rfl rfl rfl (⟨oT,by rw[(oT:((j:Int)-1).toNat=j-1)];exact iH hp⟩) rfl<|oR 1 rfl<|dm 16 rfl rfl<|a1 rfl<|rE 18<|rQ<|NI rfl 9 rfl rfl rfl<|oR 5 rfl<|rV (vN p.data.size) rfl<|oR 2 rfl<|rV (.agg [vU p.W,vN p.data.size,.v (.string p.data),vB true]) rfl<|rE 27 ?_;refine⟨CY p,_,⟨a6 [(0,.v y),(1,.k 1 0 ([.Y 17 (R.map ab) c])),(2,.k 1 0 ([.Y 2 (S.map ay) a])),(9,vI ((j:Int)-1)),(58,.v y),(66,.agg [vU p.W,vN p.data.size,.v (.string p.data),vB true])],aq [],0⟩,λs=>s,au _ wT trivial rfl,rfl,rfl,rfl,rfl,rfl,rfl,(by rw[<-KV e hp];exact UV R S _),λN=>?_⟩;refine oR 1 rfl<|rE 29<|Cz rfl (λt=>?_) (λt=>?_)
  .refine nU rfl<|FQ ?_;intro g;rw[t]at g;cases g
  refine nU rfl<|mF<|nU rfl<|a7<|oR 1 rfl<|rW _ rfl (ap (XU e w))<|oR 1 rfl<|rE 32 ?_;refine⟨t,j-1,λs=>s,au _ wT trivial rfl,rfl,(KV e hp),(oT:j-1<=S.length),(oT:j-1<j)⟩
 have v:=aF r;refine nU rfl<|Bh ?_;intro _;obtain z:j=0:=oT;subst z;exact UW R S
def RV(R:List ai)(S:List Pt)(b a)(e:R.length<=1000)(g:∀x∈R,x.ok)(d:S.length<=1000)(c:∀x∈S,x.ok):bI C0 228 [.Y 17 (R.map ab) b,.Y 2 (S.map ay) a] (.a 244 [] [.k 1 0 [.Y 17 (R.map ab) b],.k 1 0 [.Y 2 (S.map ay) a]]):=by
 apply bc func228 rfl;apply zV (.a 244 [] [.ptr 0 0,.ptr 1 0]);exact dK rfl ga rfl rfl
def UY{l:List ai}{k}{x}(h:∀y,y∈l.take k->Aw y=false)(b:l[k]?=some x)(a:Aw x=false):∀y,y∈l.take (k+1)->Aw y=false:=by
 intro y hy;rw[bW,b]at hy;rcases dz.1 hy with hy|hy
 .exact h y hy
 have:y=x:=sU hy;rw[this];exact a
def UZ{a}{agF}{i}{e}(b:a[i]?=some e)(c: ¬aj e.i.op=3):lL a agF i=(0,oZ):=by
 unfold lL;rw[b];exact aa c
def RW{a}{agF}{i k:Nat}{e x}(b:a[i]?=some e)(c:aj e.i.op=3)(g:(a.take i)[k]?=some x)(d:Aw x=true):lL a agF i=(0,oZ):=by
 unfold lL;rw[b];exact(dZ (λh=>h c)).trans (aa (Mv.2 ⟨x,aB g,d⟩))
def RX{a}{agF}{i k}{e}(g:a[i]?=some e)(j:aj e.i.op=3)(b:∀y,y∈(a.take i).take k->Aw y=false)(c:(a.take i).length<=k):lL a agF i=xK e.W (bh e.i.op) (FW (a.take i) agF):=by
 unfold lL;rw[g];refine(dZ (λh=>h j)).trans (dZ λh=>?_);let⟨x,m,d⟩:=Mv.1 h;rw[aN c]at b;rw[b x m]at d;cases d
def XX(a)(agF)(j b)(i)(hl:a.length<=1000)(U:∀x∈a,x.ok)(I:agF.length<=1000)(C:∀x∈agF,x.ok)(Y:∀x∈agF,x.data.size<=4)(hi:i<a.length):bI C0 211 [.Y 17 (a.map ab) j,.Y 2 (agF.map ay) b,vN i] (.F [vI (lL a agF i).1,.v (.string (lL a agF i).2)]):=by
 refine ry (bI.Zh (C:=C1) (λd=>l'.wd d) (λn=>l'.at) func211 R R (by kernel_rfl) R ?_);have ai:i<=1000:=oT;have K:(a.take i).length<=1000:=by rw[aM];omega
 have E:∀x∈a.take i,x.ok:=λx r=>U x (cQ r);refine uO<|tQ R<|a7<|dm 0 R R<|dm 1 R R<|rE 2<|XO<|uO<|uO<|tQ R<|a7<|oR 1 R<|rW (vB (decide (i<0))) R (ak (bl _ _))<|oR 1 R<|gN R<|gN R<|aw R id (cD ab a)<|aw R b9 (ak (im _ _))<|bO R R R (by simp)<|oR 1 R<|gN R<|gN R ?_;let⟨e,m⟩:=d7 a i;have c:=U e (aB m);refine DK (ab e) (x:=.k 17 0 (ab e)) (g:= !(cE (decide (i<0)) true (decide (i>=a.length)))) R R R R b9 R R (λQ=>⟨aG _,iH m⟩) R<|gS R id<|gS R id<|jQ (x:=vN (aj e.i.op)) (g:= !(cE (decide (i<0)) true (decide (i>=a.length)))) R R R R (λh=>h) R R R (.inl R) R (λQ=>pS e.i)<|aw R id (ak (db _ _))<|bO R R R (by simp)<|rE 19<|VT (v:=cE (cE (decide (i<0)) true (decide (i>=a.length))) true ((aj e.i.op) != 3)) R (λL=>?_) (λL=>?_)
 .have g: ¬aj e.i.op=3:=by have z:=L;simp[ae]at z;grind
  refine uO<|tQ R<|a7<|a1 R<|a1 R<|rE 21<|tQ R<|FQ ?_;have o:=UZ (agF:=agF) m g;rw[o];exact fT R R
 have g:aj e.i.op=3:=by have z:=L;simp[ae]at z;grind
 refine tQ R<|mF<|uO<|uO<|tQ R<|a7<|oR 2 R<|nW (.Y 17 ((a.take i).map ab) (j&&false)) R (yB (vY ab a i)) g_<|rW (vN i) R (vW ab (a.take i) ad)<|oR 1 R<|rE 24<|Ja<|za<|jR (κ:=Nat) (λk=>⟨a6 [(0,.Y 17 (a.map ab) j),(1,.Y 2 (agF.map ay) b),(2,vN i),(6,.ptr 0 0),(7,.ptr 1 0),(30,vB (cE (cE (decide (i<0)) true (decide (i>=a.length))) true ((aj e.i.op) != 3))),(33,.Y 17 ((a.take i).map ab) (j&&false)),(34,vN i),(35,vN k)],aq [(0,.box [vI 0]),(1,.box [.v (.string (⟨#[]⟩:ByteArray))])],24⟩) (λk=>k<=i/\∀y,y∈(a.take i).take k->Aw y=false) (λk=>i-k) 0 (λs=>s) (au (λs=>s) wT wH R) ⟨aE _,nofun⟩ ?_;intro k T;have al:k<=i:=T.1;refine bk<|rW (vB (decide (k<i))) R (ak (bl _ _))<|rE 25<|uR<|aV R (λM=>?_) (λM=>?_)
 .have W:=ax M;refine mF<|uR<|kO<|bk ?_;let⟨x,r⟩:=d7 (a.take i) k;have am:=(zD U) x (aB r);refine ja (ab x) (.k 17 0 (ab x)) R R (iH r) R<|oR 1 R<|dm 27 R R<|a1 R<|rE 29<|bk<|oR 2 R<|aW R (pS x.i)<|rW (vB ((aj x.i.op)==4)) R (ak (ba _ _))<|oR 1 R<|gN R<|gS R id<|gS R id<|gS R id<|gN R<|gS R id<|aw R id R<|pB (x:=vB (cE (!x.known) true (x.halt != 0))) (g:=(aj x.i.op)==4) R R R R (λh=>h) R R (λQ hc=>by first|(rw[Q,hc];rfl)|simp_all)<|bO rfl rfl rfl (λh=>h)<|rE 43<|aV R (λN=>?_) (λN=>?_)
  .have V:Aw x=true:=by have z:=N;unfold Aw f';simp[ae,qA]at z⊢;grind
   refine bk<|a1 R<|a1 R<|rE 45<|FQ ?_;have o:=RW (agF:=agF) m g r V;rw[o];exact fT R R
  have V:Aw x=false:=by have z:=N;unfold Aw f';simp[ae,qA]at z⊢;grind
  refine mF<|a7 ?_;have Z:k+1<=1000001:=aD oT (aC 1);refine rW (vN (k+1)) R (ap (bH Z R))<|oR 1 R<|rE 45 ?_;refine⟨k+1,λs=>s,au _ wT wH R,⟨oT,UY T.2 r V⟩,c7⟩
 have W:=aF M;have t:=T.2;have u:(a.take i).length<=k:=by rw[aM];omega
 refine Bh<|uO<|tQ R<|a7<|oR 2 R<|ja (ab e) (.k 17 0 (ab e)) R R (iH m) R<|oR 4 R<|ja (ab e) (.k 17 0 (ab e)) R R (iH m) R<|oR 2 R<|aW R (Gd e.i)<|dm 36 R R<|dm 37 R R<|a1 R<|a1 R<|rE 40<|uO<|tQ R<|zb<|uO<|uO<|tQ R<|a7<|oR 2 R<|nW (.Y 17 ((a.take i).map ab) (j&&false)) R (yB (vY ab a i)) g_<|oR 1 R<|aW R (RV (a.take i) agF (j&&false) b K E I C)<|rE 45<|Ja<|Md (.mk _ (.refl _) ⟨⟨a6 [(6,.ptr 0 0),(7,.ptr 1 0),(10,.ptr 2 0),(11,.ptr 3 0),(69,.a 244 [] [.k 1 0 ([.Y 17 ((a.take i).map ab) (j&&false)]),.k 1 0 ([.Y 2 (agF.map ay) b])])],aq [(0,.box [vI 0]),(1,.box [.v (.string (⟨#[]⟩:ByteArray))]),(2,.box [vU e.W]),(3,.box [vN (bh e.i.op)])],4⟩,λs=>match s with|2=>36|3=>37|s=>s,au _ wT wH R,R,?_⟩);refine .mk Std 244 [.k 1 0 ([.Y 17 ((a.take i).map ab) (j&&false)]),.k 1 0 ([.Y 2 (agF.map ay) b])] (λs:Std=>[.agg (xt s)]) sT (FW (a.take i) agF) (λs:Std=>hV s.W s.size e.W (bh e.i.op)=false) 4 (λ_=>aq [(0,.box [vI 0]),(1,.box [.v (.string (⟨#[]⟩:ByteArray))]),(2,.box [vU e.W]),(3,.box [vN (bh e.i.op)])]) (λ_=>4) R R ⟨_,func244,R,R⟩ (RU (a.take i) agF (j&&false) b K E I C) (λx S w β=>BL (show Ju [.agg (xt x)]=some _ from R)) (λ_=>rfl) R R (λ_=>rfl) (au (hp:=[]) (λs=>s) wT tr R) ?_ ?_
 .intro ag s v F;have H:=UX E C Y (v.subset (List.mem_append_right _ (uJ.2 R)));have J:s.size<=1000:=oT;have G:bh e.i.op<=1000:=aL (lQ e.i.op) dT;refine a7<|dm 4 R R<|a1 R<|rE 6 ?_;refine⟨R,?_⟩;refine kO<|uR<|bk<|oR 6 R<|aW R (zc s.W s.size e.W (bh e.i.op) H.1 J c.W G)<|oR 1 R<|rE 14<|aV R (λO=>?_) (λO=>?_)
  .have q:hV s.W s.size e.W (bh e.i.op)=false:=sU O;exact Bh<|⟨q,.mk _ (.refl _) ⟨λs=>s,R,au (l:=[]) (hp:=[(0,.box [vI 0]),(1,.box [.v (.string (⟨#[]⟩:ByteArray))]),(2,.box [vU e.W]),(3,.box [vN (bh e.i.op)])]) (λs=>s) tr wH R⟩⟩
  have q:hV s.W s.size e.W (bh e.i.op)=true:=sU O;refine mF<|uR<|bk<|oR 6 R<|aW R (XV s.W s.size e.W (bh e.i.op) H.1 J c.W G)<|oR 2 R<|gN R<|gS R id<|gS R id<|bO R R R (by simp)<|rE 27<|aV R (λP=>?_) (λP=>?_)
  .have p:Fh s.W s.size e.W (bh e.i.op)=false\/s.there=false:=by have z:=P;simp[ae]at z;grind
   refine bk<|a1 R<|a1 R<|rE 29<|FQ<|.mk _ (.refl _) ⟨aq [(0,.box [vI 0]),(1,.box [.v (.string (⟨#[]⟩:ByteArray))]),(2,.box [vU e.W]),(3,.box [vN (bh e.i.op)])],4,λs=>s,R,R,au (l:=[]) (hp:=[(0,.box [vI 0]),(1,.box [.v (.string (⟨#[]⟩:ByteArray))]),(2,.box [vU e.W]),(3,.box [vN (bh e.i.op)])]) (λs=>s) tr wH R,?_⟩;intro D;have o:=(RX (agF:=agF) m g t u).trans ((Dh v F q).trans (aa p));rw[o];exact fT R R
  have p: ¬(Fh s.W s.size e.W (bh e.i.op)=false\/s.there=false):=by have z:=P;simp[ae]at z;grind
  have X:s.W<=e.W/\e.W+bh e.i.op<=s.W+s.size:=by have z:=p;simp[not_or,Bool.not_eq_false]at z;have y:=z.1;unfold Fh at y;simp[aP,aY]at y;omega
  refine mF<|bk<|oR 3 R<|rW (vU (e.W-s.W)) R (ap (A3 X.1 c.W))<|rW (vN (e.W-s.W)) R (ap (bH (aL (jT _ _) c.W) R))<|oR 1 R<|rE 33<|uR<|pO R R<|oR 5 R ?_;have b2:(e.W-s.W)+(bh e.i.op)<=4294967299:=aD (aL (jT _ _) c.W) (lQ e.i.op);refine rW (vN ((e.W-s.W)+(bh e.i.op))) R (ap (bH (aD (aL (jT _ _) c.W) (lQ e.i.op)) R))<|nW (.v (.string (s.data.extract (e.W-s.W) ((e.W-s.W)+(bh e.i.op))))) R R (by refine⟨?_,?_,?_⟩<;>(first|exact aG _|decide|(apply FG.2;exact ad)))<|a1 rfl<|a1 rfl<|rE 42<|And.intro (by kernel_rfl)<|FQ<|.mk _ (.refl _) ⟨aq [(0,.box [vI 1]),(1,.box [.v (.string (s.data.extract (e.W-s.W) ((e.W-s.W)+(bh e.i.op))))]),(2,.box [vU e.W]),(3,.box [vN (bh e.i.op)])],4,λs=>s,R,R,au (l:=[]) (hp:=[(0,.box [vI 1]),(1,.box [.v (.string (s.data.extract (e.W-s.W) ((e.W-s.W)+(bh e.i.op))))]),(2,.box [vU e.W]),(3,.box [vN (bh e.i.op)])]) (λs=>s) tr wH R,?_⟩;intro D;have o:=(RX (agF:=agF) m g t u).trans ((Dh v F q).trans (dZ p));rw[o];exact fT R R
 intro hN D;refine uO<|tQ R<|a7<|a1 R<|a1 R<|rE 6<|tQ R<|FQ ?_;rw[(RX (agF:=agF) m g t u).trans (DE hN)];exact fT R R
section
variable {α:Type}{f:α->List AV}{A l B:List α}{lo:Nat}
def jK{x}{i}(a:A.length=lo)(b:l[i]?=some x):(A++l++B)[lo+i]?=some x:=by
 rw[eD,bM ad, <-a,Nat.add_sub_cancel_left,cF ((Em.1 b).1),b]
def tV{n}(a:A.length=lo)(b:l.length=n):List.take n (List.drop lo ((A++l++B).map f))=l.map f:=by
 subst a b;rw[<-kM, <-eO];congr 1;rw[eD,List.drop_left,List.take_left]
def Xa{x}{i}(a:A.length=lo)(b:i<l.length):(A++l++B).set (lo+i) x=A++l.set i x++B:=by
 subst a;rw[eD,iN _ _ ad,Nat.add_sub_cancel_left,List.set_append_left _ _ b,eD]
def uL{x}{i}{h:AH}{b rs}(a:A.length=lo)(c:i<l.length):some (an h b (some (.arr (((A++l++B).map f).set (lo+i) (f x)) rs)))=some (an h b (some (.arr ((A++l.set i x++B).map f) rs))):=by
 rw[<-List.map_set,Xa a c]
end
def MT(a)(s):hG a s<=4294967295:=by
 unfold hG;split
 .rename_i h;have:=Fo s (oH (lQ a));split
  .exact aI (Ia _ _ ad)
  split
  .exact aI (Ia _ _ ad)
  omega
 exact aE _
def QG{e}(c:e.ok){a b}(h:a<=4294967295)(i:b<=4294967295):(rJ e a b).ok:=by
 have g:uE e a b<=4294967295:=by
  unfold uE;split
  .exact aE _
  exact aI (Rp _ _ _ _ _ (CI c.C) (CI h) (CI i))
 have d:b_ e.M<=4294967295:=by unfold b_;omega
 unfold rJ
 repeat' split
 all_goals first|exact c|exact⟨c.M,c.C,c.K,g,d,c.W⟩|exact⟨c.M,c.C,c.K,g,aI (Ed _ _ _ _ _),c.W⟩|exact⟨c.M,c.C,c.K,aE _,d,c.W⟩
def QH{e}(a:e.ok):(bn e).ok:=by
 unfold bn;repeat' split
 all_goals first|exact a|exact⟨a.M,a.C,a.K,a.value,a.next,a.W⟩
def Ik{e}(b:e.ok)(size)(a):(yC e size a).ok:=by
 have c:(a+e.i.C)%4294967296<=4294967295:=oT;unfold yC;repeat' split
 all_goals first|exact b|exact⟨b.M,b.C,b.K,b.value,b.next,c⟩
def Il{e}(a:e.ok)(s):(uM e s).ok:=by
 have b:hG e.i.op s<=4294967295:=MT e.i.op s;unfold uM;split
 .exact a
 refine⟨a.M,a.C,a.K,?_,a.next,a.W⟩;show(if wr e.i=0 then 0 else hG e.i.op s)<=_;split<;>omega
def Kj(b)(agF)(i):(lL b agF i).2.size<=100:=by
 have c:∀(l:List Std) (a n:Nat),n<=4->(xK a n l).2.size<=100:=by
  intro l a n d
  induction l with
  |nil=>exact aE _
  | cons s l ih=>
   unfold xK;split
   .exact ih
   .split
    .exact aE _
    .show(s.data.extract _ _).size<=100;rw[dA];omega
 unfold lL;split
 .exact aE _
 .split
  .exact aE _
  .split
   .exact aE _
   .exact c _ _ _ (lQ _)
def GN{c}(h:c.mem.size<=256)(e):(oL c e).size<=1000:=by
 unfold oL Cv;split
 .rw[dA];have:=MU c.V c.data c.U c.mem;unfold Xr;omega
 exact aE _
def Kk(q)(agY)(k):Mi q agY [k]=Ec q agY k:=by unfold Mi Ec;congr 1;funext x;simp
def zn(c)(y)(b:c.E y)(i)(G:i<c.Z.length)(A B)(lo n)(m s o t)(u v)(a:A.length=lo)(j:c.Z.length=n)(H:A.length+n+B.length<=1000):pM C0.P C0.G 183 [.ptr 0 0,vN i] (aq [(0,.box (az c (.X 1 lo n m) (.Y 2 u s) (.Y 2 (c.V.map ay) o) (.Y 9 v t))),(1,.arr ((A++(c).Z++B).map ab) 17)]) 2 (λx h'=>x=.F []/\h'=aq [(0,.box (az (oE c i) (.X 1 lo n m) (.Y 2 u s) (.Y 2 (c.V.map ay) o) (.Y 9 v t))),(1,.arr ((A++((oE c i)).Z++B).map ab) 17)]):=by
 refine hZ 2 func183 R<|nW (.x 1 (lo+i) 0) R R fd ?_;let⟨x,d⟩:=d7 c.Z i;have g:=b.ok.Z6 x (aB d);refine zX (ab x) (.agg (ab x)) R (iH (jK a d))<|zB R (λr=>?_) (λr=>?_)
 .have e:oE c i=c:=by unfold oE;rw[d];dsimp only;rw[aa (FV r)];try rfl
  rw[e];exact du
 refine zR<|zL (x:=.F [vI ((lL c.Z c.V i).1),.v (.string ((lL c.Z c.V i).2))]) R (.inr ⟨R,⟨(by show lo+n<=((A++c.Z++B).map ab).length;exact ad),tr,tr,tr⟩⟩) ((show bI C0 211 [.Y 17 (List.take n (List.drop lo ((A++c.Z++B).map ab))) m,.Y 2 (c.V.map ay) o,vN i] _ from by rw[tV (l:=c.Z) a (by first|exact j|(rw[cC];exact j)|(simp[cC];exact j))];exact XX c.Z c.V m o i b.Z b.ok.Z6 b.Z' b.ok.Z0 b.ZO G))<|zC (tN x.W g.W)<|zV (vB (((lL c.Z c.V i).1)==1))<|aV rfl (λD=>?_) (λD=>?_)
 .have k:=mT D;refine a7<|oR 8 R<|aW R (RR x ((lL c.Z c.V i).2) g (bL (Kj c.Z c.V i) dT))<|nW (.x 1 (lo+i) 0) R R fd ?_;refine nM (ab x) (h':=an _ 1 (some (.arr ((A++(c.Z.set i (uM x ((lL c.Z c.V i).2)))++B).map ab) 17))) R R R (⟨aG _,iH ((jK a d))⟩) (uL (f:=ab) (x:=(uM x ((lL c.Z c.V i).2))) (l:=c.Z) (i:=i) a ad)<|rE 50 ?_;have e:oE c i=fh c i (uM x ((lL c.Z c.V i).2)):=by unfold oE;rw[d];dsimp only;rw[dZ (sI r),aa k];try rfl
  rw[e];exact ck 0 R<|du
 have k:=nA D;refine qC 0 R<|de (((lL c.Z c.V i).1) != 2) (λE=>?_) (λE=>?_)
 .have p:=wM E;have e:oE c i=c:=by unfold oE;rw[d];dsimp only;rw[dZ (sI r),dZ k,aa p];try rfl
  rw[e];exact du
 have p:=wN E;apply zH (args:=[.ptr 0 0,vU (ao x.W)]) R (pM.Zv (C:=C0) (show bI C0 212 [.k 64 0 (az c (.Y 17 (List.take n (List.drop lo ((A++c.Z++B).map ab))) m) (.Y 2 u s) (.Y 2 (c.V.map ay) o) (.Y 9 v t)),vU (ao x.W)] _ from by rw[tV (l:=c.Z) a (by first|exact j|(rw[cC];exact j)|(simp[cC];exact j))];exact Xb c y b (.Y 2 u s) (.Y 2 (c.V.map ay) o) (.Y 9 v t) m (ao x.W) (dV g.W)) (by rfl) (by exact⟨⟨rfl,(r4 (r4 (r4 (r4 (r4 (r4 (r4 (r4 (r4 (r4 (r4 (r4 ⟨(by show lo+n<=((A++c.Z++B).map ab).length;simp[aH,aU,cC];omega),ga⟩))))))))))))⟩,trivial,trivial⟩) (by rfl));rintro _ _ ⟨rfl,rfl⟩;refine aV R (λw=>?_) (λw=>?_)
 .refine a7<|oR 9 R<|g5 R (.inr ⟨R,⟨tr,ga,tr⟩⟩) (MV c y b .any (.Y 2 u s) (.Y 9 v t) o x g)<|aW R (RR x (oL c x) g (by have:=GN (c:=c) (oH b.mem) x;omega))<|nW (.x 1 (lo+i) 0) R R fd ?_;refine nM (ab x) (h':=an _ 1 (some (.arr ((A++(c.Z.set i (uM x (oL c x)))++B).map ab) 17))) R R R (⟨aG _,iH ((jK a d))⟩) (uL (f:=ab) (x:=(uM x (oL c x))) (l:=c.Z) (i:=i) a ad)<|rE 59 ?_;have e:oE c i=fh c i (uM x (oL c x)):=by unfold oE;rw[d];dsimp only;rw[dZ (sI r),dZ k,dZ (λq=>q p),aa w];try rfl
  rw[e];exact ck 0 R<|du
 refine qC 0 R<|rV (.Y 1 ([[vI 1]]) true) R<|zC (x:=vB (Ec c.U (ao x.W) 1)) ((show bI C0 _ [_,_,.Y 1 ([(1:Int)].map bm) true] _ from by rw[<-Kk];exact RQ c.U (ao x.W) [1] false true (oH b.U) (λx d=>(b.ok.Z_ x d).S) (dV g.W) dT))<|zB R (λC=>?_) (λC=>?_)
 .apply zM (.x 1 (lo+i) 0) R fd;apply nM (ab x) (h':=an _ 1 (some (.arr ((A++(c.Z.set i (⟨x.no,x.M,⟨x.i.op,x.i.rd,x.i.y,x.i.A,x.i.C⟩,x.K,2,x.left,x.value,x.next,x.W,x.halt,x.d,x.known,x.Z8⟩:ai))++B).map ab) 17))) R R R (⟨aG _,iH ((jK a d))⟩) (uL (f:=ab) (x:=(⟨x.no,x.M,⟨x.i.op,x.i.rd,x.i.y,x.i.A,x.i.C⟩,x.K,2,x.left,x.value,x.next,x.W,x.halt,x.d,x.known,x.Z8⟩:ai)) (l:=c.Z) (i:=i) a ad);have e:oE c i=fh c i (⟨x.no,x.M,⟨x.i.op,x.i.rd,x.i.y,x.i.A,x.i.C⟩,x.K,2,x.left,x.value,x.next,x.W,x.halt,x.d,x.known,x.Z8⟩:ai):=by unfold oE;rw[d];dsimp only;rw[dZ (sI r),dZ k,dZ (λq=>q p),dZ (by rw[w];decide),aa C];try rfl
  rw[e];exact cg 0 R<|du
 refine g5 (x:=vB (vC c.Z i)) R (.inr ⟨R,⟨(by show lo+n<=((A++c.Z++B).map ab).length;exact ad),tr,tr⟩⟩) ((show bI C0 210 [.Y 17 (List.take n (List.drop lo ((A++c.Z++B).map ab))) m,vN i] _ from by rw[tV (l:=c.Z) a (by first|exact j|(rw[cC];exact j)|(simp[cC];exact j))];exact MX c.Z m i b.Z b.ok.Z6 (oH b.Z)))<|zH (args:=[.ptr 0 0,vB (vC c.Z i)]) R (pM.Zv (C:=C0) (show bI C0 145 [.k 64 0 (az c (.Y 17 (List.take n (List.drop lo ((A++c.Z++B).map ab))) m) (.Y 2 u s) (.Y 2 (c.V.map ay) o) (.Y 9 v t)),vB (vC c.Z i)] _ from by rw[tV (l:=c.Z) a (by first|exact j|(rw[cC];exact j)|(simp[cC];exact j))];exact Ua c y b (.Y 17 (c.Z.map ab) m) (.Y 2 u s) (.Y 2 (c.V.map ay) o) (.Y 9 v t) (vC c.Z i)) (by rfl) (by exact⟨⟨rfl,(r4 (r4 (r4 (r4 (r4 (r4 (r4 (r4 (r4 (r4 (r4 (r4 ⟨(by show lo+n<=((A++c.Z++B).map ab).length;simp[aH,aU,cC];omega),ga⟩))))))))))))⟩,trivial,trivial⟩) (by rfl)) ?_;rintro _ _ ⟨rfl,rfl⟩;refine gS R id<|gS R id<|gS R id<|zG R id<|gB R R<|jQ (args:=[.Y 4 (c.U.map bv) false,vU (ao x.W),.Y 1 ([[vI 3]]) true]) (x:=vB (Ec c.U (ao x.W) 3)) (g:=tA c (vC c.Z i)) R R R R b9 R R R (.inl R) R (λI=>(show bI C0 _ [_,_,.Y 1 ([(3:Int)].map bm) true] _ from by rw[<-Kk];exact RQ c.U (ao x.W) [3] false true (oH b.U) (λx d=>(b.ok.Z_ x d).S) (dV g.W) dT))<|gS R id<|zN R (λh=>h)<|aV R (λF=>?_) (λF=>?_)
 .refine qC 0 R<|zH (args:=[.ptr 0 0,vI 1,vU (ao x.W),.v (.string (⟨#[]⟩:ByteArray))]) R ((zo c y b 1 (ao x.W) (⟨#[]⟩:ByteArray) (dV g.W) lo n m ((A++c.Z++B).map ab) s u o (c.V.map ay) t v).fB (λz=>z)) ?_;rintro _ _ ⟨rfl,rfl⟩;apply zM (.x 1 (lo+i) 0) R fd;apply nM (ab x) (h':=an _ 1 (some (.arr ((A++(c.Z.set i (⟨x.no,x.M,⟨x.i.op,x.i.rd,x.i.y,x.i.A,x.i.C⟩,x.K,2,x.left,x.value,x.next,x.W,x.halt,x.d,x.known,x.Z8⟩:ai))++B).map ab) 17))) R R R (⟨aG _,iH ((jK a d))⟩) (uL (f:=ab) (x:=(⟨x.no,x.M,⟨x.i.op,x.i.rd,x.i.y,x.i.A,x.i.C⟩,x.K,2,x.left,x.value,x.next,x.W,x.halt,x.d,x.known,x.Z8⟩:ai)) (l:=c.Z) (i:=i) a ad);have e:oE c i=fh (jE c 1 (ao x.W) (⟨#[]⟩:ByteArray)) i (⟨x.no,x.M,⟨x.i.op,x.i.rd,x.i.y,x.i.A,x.i.C⟩,x.K,2,x.left,x.value,x.next,x.W,x.halt,x.d,x.known,x.Z8⟩:ai):=by unfold oE;rw[d];dsimp only;rw[dZ (sI r),dZ k,dZ (λq=>q p),dZ (by rw[w];decide),dZ (by rw[C];decide),aa (by have z:=F;simp[qA]at z;simpa using z)];try rfl
  rw[e];exact cg 0 R<|du
 skip
 have e:oE c i=c:=by unfold oE;rw[d];dsimp only;rw[dZ (sI r),dZ k,dZ (λq=>q p),dZ (by rw[w];decide),dZ (by rw[C];decide),dZ (by have z:=F;simp[qA]at z;simpa using z)];try rfl
 rw[e];exact jj 0 R<|du
theorem pM.Y3{P}{G}{f}{args}{i j c d}{L}{s}{r}(H:pM P G f args (aq ((0,i)::(1,j)::L)) s (λx h'=>x=r/\h'=aq ((0,c)::(1,d)::L)))(ρ)(K)(s2)(b:hD (aq ((0,i)::(1,j)::L)) s=true)(k:jm ρ K s s2 ((0,i)::(1,j)::L))(w:UQ ρ s=true)(v:mS s args=true)(z:eP r=true)(n:qM s c=true)(o:qM s d=true):
  pM P G f (Bg ρ args) K s2 (λx h'=>x=r/\h'=an (an K (ρ 0) (some (DI ρ c))) (ρ 1) (some (DI ρ d))):=by
 have E:1<s:=aJ k.2.1.2.1;refine H.ZH ρ K s2 b k w v _ λr' h' u=>?_;obtain⟨rfl,rfl⟩:=u;refine⟨_,⟨od _ _ z,R⟩,λy blk a=>?_⟩;by_cases g:y=ρ 1
 .subst g;rw[dB]at a;injection a with a;exact .inl ⟨1,d,R,(rL ρ ad).symm,by rw[<-a,yL ρ s s2 d o]⟩
 rw[cI _ _ g]at a;by_cases m:y=ρ 0
 .subst m;rw[dB]at a;injection a with a;exact .inl ⟨0,c,R,(rL ρ ad).symm,by rw[<-a,yL ρ s s2 c n]⟩
 rw[cI _ _ m]at a;by_cases q:∃x,x<s/\ρ x=y
 .obtain⟨x,h,rfl⟩:=q;have t:x≠1:=λe=>g (by rw[e]);let⟨bb,hb⟩:=DQ.1 (uH b x h);have p:=k.get x bb hb;rw[p.2.2.2]at a;injection a with a;refine .inl ⟨x,bb,?_,(rL ρ ad).symm,?_⟩
  .have C:Nat.beq 0 x=false:=by rw[<-eJ];exact λe=>(λe=>m (by rw[e])) (aO e).symm
   have D:Nat.beq 1 x=false:=by rw[<-eJ];exact λe=>t (aO e).symm
   simp[aq,C,D]at hb⊢;exact hb
  rw[<-a];exact(yL ρ s s2 bb p.2.2.1).symm
 exact .inr ⟨a,λx h e=>q ⟨x,h,e⟩⟩
theorem pM.Y4{P}{G}{f}{args}{b c d e}{L}{s}{r}(H:pM P G f args (aq ((0,b)::(1,c)::L)) s (λx h'=>x=r∧h'=aq ((0,d)::(1,e)::L)))(ρ){K}{s2}(a:hD (aq ((0,b)::(1,c)::L)) s=true:=by rfl)(i:jm ρ K s s2 ((0,b)::(1,c)::L):=by repeat (first|exact trivial|refine⟨d8,?_⟩))(bb:UQ ρ s=true:=by rfl)(j:mS s args=true:=by rfl)(k:eP r=true:=by rfl)(g:qM s d=true:=by rfl)(h:qM s e=true:=by rfl):
  pM P G f (Bg ρ args) K s2 (λx h'=>x=r∧h'=an (an K (ρ 0) (some (DI ρ d))) (ρ 1) (some (DI ρ e))):=H.Y3 ρ K s2 a i bb j k g h
def xA{c}{n}(h:c.E n)(i){e}(b:e.ok):(fh c i e).E n:=by
 have a:(c.Z.set i e).length=c.Z.length:=cC ..;exact⟨⟨h.ok.Q,h.ok.prog,h.ok.Z4,h.ok.r,h.ok.J,h.ok.Z5,h.ok.ZV,by show(c.Z.set i e).length<=_;rw[a];exact h.ok.Z,kt h.ok.Z6 b,h.ok.Z',h.ok.Z0,h.ok.data,h.ok.u,h.ok.U,h.ok.Z_,h.ok.asked,h.ok.Z1,h.ok.mem,h.ok.K,h.ok.ret,h.ok.ZW⟩,h.nb,h.cf,h.data,h.u,h.K,by show(c.Z.set i e).length<=_;rw[a];exact h.Z,h.Z5,h.Z',h.prog,h.mem,h.ZO⟩
def Cj{a}{r}(b:∀x∈a,x.ok)(c:∀k,r k<=4294967295)(i):(mI a r i).1<=4294967295/\(mI a r i).2.1<=4294967295:=by
 unfold mI;split
 .exact⟨Ck b c _ _,Ck b c _ _⟩
 exact⟨aE _,aE _⟩
def VJ(c)(v)(a:c.E v)(i)(y:i<c.Z.length)(A B)(lo n)(j p q r)(s t)(b:A.length=lo)(k:c.Z.length=n)(w:A.length+n+B.length<=1000):pM C0.P C0.G 140 [.ptr 0 0,vN i] (aq [(0,.box (az c (.X 1 lo n j) (.Y 2 s p) (.Y 2 (c.V.map ay) q) (.Y 9 t r))),(1,.arr ((A++(c).Z++B).map ab) 17)]) 2 (λx h'=>x=.F []/\h'=aq [(0,.box (az (iS c i) (.X 1 lo n j) (.Y 2 s p) (.Y 2 (c.V.map ay) q) (.Y 9 t r))),(1,.arr ((A++((iS c i)).Z++B).map ab) 17)]):=by
 refine hZ 2 func140 R<|nW (.x 1 (lo+i) 0) R R fd ?_;let⟨x,d⟩:=d7 c.Z i;have h:=a.ok.Z6 x (aB d);refine zX (ab x) (.agg (ab x)) R (iH (jK b d))<|zR<|zL (x:=.F [vU ((mI c.Z c.r i).1),vU ((mI c.Z c.r i).2.1),vB ((mI c.Z c.r i).2.2)]) R (.inr ⟨R,⟨(by show lo+n<=((A++c.Z++B).map ab).length;exact ad),ga,tr,tr⟩⟩) ((show bI C0 180 [.Y 17 (List.take n (List.drop lo ((A++c.Z++B).map ab))) j,.agg (Ks c.r),vN i] _ from by rw[tV (l:=c.Z) b (by first|exact k|(rw[cC];exact k)|(simp[cC];exact k))];exact VK c.Z c.r j i a.Z a.ok.Z6 a.ok.r (oH a.Z)))<|zC (pS x.i)<|zW _ (ak (ba _ _))<|aV rfl (λm=>?_) (λm=>?_)
 .have g:=mT m;refine a7<|oR 12 R<|rV (vN c.mem.size) R<|oR 1 R<|aW R (VV x ((c.mem.size:Nat):Int) ((mI c.Z c.r i).1) h (oH a.mem) (Cj a.ok.Z6 a.ok.r i).1)<|nW (.x 1 (lo+i) 0) R R fd ?_;refine nM (ab x) R R R (⟨aG _,iH ((jK b d))⟩) (uL b ad)<|rE 53 ?_;have e:iS c i=fh c i (yC x ((c.mem.size:Nat):Int) ((mI c.Z c.r i).1)):=by unfold iS;rw[d];dsimp only;rw[aa g]
  rw[e];exact ck 0 R<|du
 have g:=nA m;refine qC 0 R<|zW _ (ak (ba _ _))<|aV R (λo=>?_) (λo=>?_)
 .have u:=mT o;refine j4 0 R<|a7<|oR 12 R<|rV (vN c.mem.size) R<|oR 1 R<|aW R (VV x ((c.mem.size:Nat):Int) ((mI c.Z c.r i).1) h (oH a.mem) (Cj a.ok.Z6 a.ok.r i).1)<|nW (.x 1 (lo+i) 0) R R fd ?_;refine nM (ab x) R R R (⟨aG _,iH ((jK b d))⟩) (uL b ad)<|rE 55<|qX 0 R<|fU _ R R R ((zn (fh c i (yC x ((c.mem.size:Nat):Int) ((mI c.Z c.r i).1))) v (xA a i (Ik h _ _)) i (by show i<(c.Z.set i _).length;rw[cC];exact y) A B lo n j p q r s t b (by show(c.Z.set i _).length=n;rw[cC];exact k) w).Y4 (λz=>z)) ?_;rintro _ _ ⟨rfl,rfl⟩;have e:iS c i=oE (fh c i (yC x (c.mem.size:Int) (mI c.Z c.r i).1)) i:=by unfold iS;rw[d];dsimp only;rw[dZ g,aa u]
  rw[e];exact cg 0 R<|du
 refine a7<|oR 9 R<|aW R (XS x ((mI c.Z c.r i).1) ((mI c.Z c.r i).2.1) h (Cj a.ok.Z6 a.ok.r i).1 (Cj a.ok.Z6 a.ok.r i).2)<|nW (.x 1 (lo+i) 0) R R fd ?_;refine nM (ab x) R R R (⟨aG _,iH ((jK b d))⟩) (uL b ad)<|rE 50 ?_;have e:iS c i=fh c i (rJ x ((mI c.Z c.r i).1) ((mI c.Z c.r i).2.1)):=by unfold iS;rw[d];dsimp only;rw[dZ g,dZ (nA o)]
 rw[e];exact ck 0 R<|du
structure r9(n k:Nat)(w:Wy):Prop where
 S:ao w.S=w.S
 set:w.S/16%n=k
 data:w.data.size=0\/w.data.size=16
 le:w.S<=4294967295
structure j_(n:Nat)(ways:Int)(k:Nat)(s:List Wy):Prop where
 len:(s.length:Int)<=ways
 ZM:∀w∈s,r9 n k w
 one:(s.map (·.S)).Nodup
structure c_(c:Ca):Prop where
 O:c.O.length=1\/c.O.length=2\/c.O.length=4
 ways:c.ways=1\/c.ways=2
 set:∀k s,c.O[k]?=some s->j_ c.O.length c.ways k s
theorem QC:∀{s:List Wy} {agY:Nat},jY s agY=none↔∀w∈s,w.S≠agY
 |[],_=>by simp[jY]
 |w::l,agY=>by
  unfold jY;by_cases h:w.S=agY
  .rw[aa h];simp[h]
  .rw[dZ h,Option.map_eq_none_iff,QC];simp[h]
def WZ:∀{s:List Wy},(∀i x,s[i]?=some x->jY (s.take i) x.S=none)↔(s.map (·.S)).Nodup:=by
 intro s;rw[List.nodup_iff_pairwise_ne,List.pairwise_map,List.pairwise_iff_getElem];constructor
 .intro h i j a b c e;exact QC.1 (h j s[j] (aA b)) s[i] (aB (by rw[cU,aa c,aA a])) e
 intro h j x g;obtain⟨b,rfl⟩:=Em.1 g;refine QC.2 λw d=>?_;obtain⟨i,a,rfl⟩:=fY d;rw[aM]at a;rw[List.getElem_take];exact h i j ad b ad
def ir{c}:c_ c↔gG c=true/\c.ok:=by
 constructor
 .intro h;refine⟨(jL c).2 ⟨⟨h.O,h.ways⟩,λk s a=>(jX c k s).2 ?_⟩,⟨oH h.O,λs a=>?_⟩⟩
  .have g:=h.set k s a;refine⟨g.len,λi x b=>?_⟩;have d:=g.ZM x (aB b);exact⟨d.S,d.set,d.data,WZ.2 g.one i x b⟩
  obtain⟨k,p,rfl⟩:=fY a;have g:=h.set k _ (aA p);refine⟨by have:=g.len;have:=h.ways;omega,λx b=>⟨(g.ZM x b).le⟩⟩
 rintro⟨h,ok⟩;let⟨⟨j,m⟩,n⟩:=(jL c).1 h;refine⟨j,m,λk s a=>?_⟩;let⟨g1,g2⟩:=(jX c k s).1 (n k s a);refine⟨g1,λw e=>?_,WZ.1 λi x b=>(g2 i x b).2.2.2⟩;obtain⟨i,o,rfl⟩:=fY e;have g:=g2 i _ (aA o);exact⟨g.1,g.2.1,g.2.2.1,((ok.set s (aB a)).2 _ e).S⟩
theorem c_.Zc{c}(h:c_ c){k}{s}(d:j_ c.O.length c.ways k s):c_ (rK c k s):=by
 have b:(c.O.set k s).length=c.O.length:=cC ..;refine⟨by show(c.O.set k s).length=1\/(c.O.set k s).length=2\/(c.O.set k s).length=4;rw[b];exact h.O,h.ways,λj t a=>?_⟩;show j_ (c.O.set k s).length c.ways j t;rw[b];rw[show(rK c k s).O=c.O.set k s from R,mV]at a;split at a
 .rename_i e;subst e;split at a
  .injection a with a;subst a;exact d
  cases a
 exact h.set j t a
def EV{α}{l:List α}{k}(h:k<l.length):(eY l k).Perm l:=by
 unfold eY;rw[aA h,List.singleton_append,nV];apply(List.perm_middle.symm).trans;rw[<-bF h,j']
theorem j_.perm{n}{ways}{k}{s t}(h:j_ n ways k s)(p:t.Perm s):j_ n ways k t:=
 ⟨by rw[p.length_eq];exact h.len,λw a=>h.ZM w (p.mem_iff.1 a),(p.map _).nodup_iff.2 h.one⟩
theorem j_.modHd{n:Nat}{ways:Int}{k:Nat}{s:List Wy}(h:j_ n ways k s){f:Wy->Wy}(b:∀w∈s,(f w).S=w.S/\((f w).data.size=0\/(f w).data.size=16)):j_ n ways k (ku f s):=by
 cases s with
 |nil=>exact h
 | cons x l=>
  have a:=b x (dg ..);have g:=h.ZM x (dg ..);refine⟨h.len,λw hw=>?_,?_⟩
  .rcases eu.1 hw with rfl|hw
   .exact⟨by rw[a.1];exact g.S,by rw[a.1];exact g.set,a.2,by rw[a.1];exact g.le⟩
   .exact h.ZM w (bY _ hw)
  .show((f x).S::l.map (·.S)).Nodup;rw[a.1];exact h.one
theorem c_.at{c}(h:c_ c){k}(a:k<c.O.length):j_ c.O.length c.ways k (pF c k):=by
 rw[vA (aA a)];exact h.set k _ (aA a)
theorem c_.Zg{c}(h:c_ c)(agY):c_ (tO c agY):=by
 by_cases a:(bK c agY).2.isSome=true
 .rw[Dw a];have ff:=pR a;exact h.Zc ((h.at ff.2.2.1).perm (EV ff.2.2.2))
 rw[Dx (sU a)];exact h
def QD(d):(dC d).size=0\/(dC d).size=16:=by
 unfold dC;split
 .right;assumption
 left;rfl
theorem c_.put{c}(h:c_ c){agY}(n:agY<=4294967295)(d)(b):c_ (qZ c agY d b).1:=by
 have j:=(ir.1 h).1;by_cases i:(bK c agY).2.isSome=true
 .rw[Cn i];have ff:=pR i;have g:=(h.at ff.2.2.1).perm (EV ff.2.2.2);refine h.Zc (g.modHd λw hw=>⟨R,?_⟩);split
  .exact(g.ZM w hw).data
  exact QD d
 have a:(bK c agY).2.isSome=false:=sU i;rw[AR j a];have e:=rI (agY:=agY) j;have m:(bK c agY).1<c.O.length:=by rw[e];exact AP (kJ j).1 _
 have hn:jY (pF c (bK c agY).1) (ao agY)=none:=by rw[e]at a ⊢;simpa using a
 have g:=h.at m;split
 all_goals
  rename_i hw;refine h.Zc ⟨?_,λw hw=>?_,?_⟩
  .first|(have:=h.ways;rw[bN,oA])|(have:=g.len;rw[bN];push_cast)
   omega
  .rcases eu.1 hw with rfl|hw
   .exact (⟨by show ao (ao agY)=ao agY;unfold ao;omega,by rw[e];rfl,QD d,dV n⟩)
   first|exact g.ZM w (oC _ hw)|exact g.ZM w hw
  rw[jC,List.nodup_cons]
  first|refine⟨λk=>?_,g.one.sublist ((List.dropLast_sublist _).map _)⟩|refine⟨λk=>?_,g.one⟩
  let⟨w,hw,e⟩:=pG.1 k
  first|exact QC.1 hn w (oC _ hw) e|exact QC.1 hn w hw e
def OK{d b}{a}(h:b.size+a<=d.size):(Fk d a b).size=d.size:=by
 unfold Fk;simp[kH,dA];omega
theorem c_.write{c}(h:c_ c)(a)(b):c_ (xL c a b).1:=by
 by_cases d:(bK c a).2.isSome=true
 .have ff:=pR d;rw[At b d R (aA ff.2.2.2)];split
  .exact h
  rename_i j;have g:=(h.at ff.2.2.1).perm (EV ff.2.2.2);have i:=((h.at ff.2.2.1).ZM _ (jO ff.2.2.2)).data;have e:eY (pF c (bK c a).1) ((bK c a).2.getD 0)=(pF c (bK c a).1)[(bK c a).2.getD 0]::((pF c (bK c a).1).take ((bK c a).2.getD 0)++(pF c (bK c a).1).drop ((bK c a).2.getD 0+1)):=by
   unfold eY;rw[aA ff.2.2.2];rfl
  apply h.Zc;rw[e]at g⊢;have g1:=g.ZM _ (dg ..);refine⟨g.len,λw hw=>?_,g.one⟩;rcases eu.1 hw with rfl|hw
  .refine⟨g1.S,g1.set,.inr ?_,g1.le⟩;rw[OK ad];omega
  exact g.ZM w (bY _ hw)
 rw[GV b (sU d)];exact h
theorem c_.Y5{c}(h:c_ c)(agY):c_ (wB c agY):=by
 by_cases b:(bK c agY).2.isSome=true
 .rw[Dy b R];have g:=h.at (pR b).2.2.1;have d:(((pF c (bK c agY).1).modify ((bK c agY).2.getD 0) λw=>{w with f:=false}).map (·.S))=(pF c (bK c agY).1).map (·.S):=by
   apply dD;intro i;simp[aX,oD];split<;>simp[Option.map_map,Function.comp_def]
  refine h.Zc ⟨by rw[List.length_modify];exact g.len,λw j=>?_,by rw[d];exact g.one⟩;let⟨i,bb⟩:=List.getElem?_of_mem j;rw[oD]at bb;obtain⟨v,e,rfl⟩:=Gi.1 bb;have a:=g.ZM v (aB e);split
  .exact⟨a.S,a.set,a.data,a.le⟩
  exact a
 rw[Dz (sU b)];exact h
theorem c_.f{c}(h:c_ c){w}(hw:cR c=some w):w.S<=4294967295:=by
 unfold cR at hw;split at hw
 .have:=List.mem_of_find?_eq_some hw;let⟨s,hs,hw⟩:=List.mem_flatten.1 this;obtain⟨k,a,rfl⟩:=fY hs;exact((h.set k _ (aA a)).ZM w hw).le
 cases hw
def MS{q}(h:∀x∈q,x.ok){a}{agY}{left}{d}(b:agY<=4294967295):∀x∈Bi q a agY left d,x.ok:=by
 intro x hx;unfold Bi at hx;rcases dz.1 hx with hx|hx
 .exact h x hx
 rw[uJ.1 hx];exact⟨b⟩
def Ki(q)(a)(agY)(left)(d):(Bi q a agY left d).length=q.length+1:=by unfold Bi;simp
theorem Co.E.gd{c:Co}{n}(h:c.E n):c_ c.data:=ir.2 ⟨h.data,h.ok.data⟩
theorem Co.E.gw{c:Co}{n}(h:c.E n):c_ c.u:=ir.2 ⟨h.u,h.ok.u⟩
theorem Co.E.mono{c:Co}{n m}(h:c.E n)(a:n<=m)(b:m<=890000):c.E m:=
 ⟨⟨h.ok.Q,h.ok.prog,h.ok.Z4,h.ok.r,h.ok.J,h.ok.Z5,h.ok.ZV,h.ok.Z,h.ok.Z6,h.ok.Z',h.ok.Z0,h.ok.data,h.ok.u,aL h.ok.U a,h.ok.Z_,h.ok.asked,h.ok.Z1,h.ok.mem,h.ok.K,aL h.ok.ret a,h.ok.ZW⟩,b,h.cf,h.data,h.u,h.K,h.Z,h.Z5,h.Z',h.prog,h.mem,h.ZO⟩
def EW(z):wrap64 z<=9223372036854775807:=by unfold wrap64;omega
theorem Co.E.Zf{c:Co}{n}(h:c.E n){q}{d}{a}(j:q.length<=n+1)(e:∀x∈q,x.ok)(b:c_ d)(g:a<=9223372036854775807)(i:n+1<=890000):Co.E {c with U:=q,data:=d,asked:=a} (n+1):=
 ⟨⟨h.ok.Q,h.ok.prog,h.ok.Z4,h.ok.r,h.ok.J,h.ok.Z5,h.ok.ZV,h.ok.Z,h.ok.Z6,h.ok.Z',h.ok.Z0,(ir.1 b).2,h.ok.u,j,e,g,h.ok.Z1,h.ok.mem,h.ok.K,qJ h.ok.ret,h.ok.ZW⟩,i,h.cf,(ir.1 b).1,h.u,h.K,h.Z,h.Z5,h.Z',h.prog,h.mem,h.ZO⟩
def sH{c:Co}{n:Nat}(h:c.E n)(b:n+1<=890000)(a:Int){agY:Nat}(e:agY<=4294967295)(d:ByteArray):(jE c a agY d).E (n+1):=
 h.Zf (by rw[Ki];have:=h.ok.U;omega) (MS h.ok.Z_ e) h.gd (EW _) b
def QE{d}{q}{m}{agY}{left}(a:c_ d)(b:∀x∈q,x.ok)(h:agY<=4294967295):c_ (iQ d q m agY left).1/\(iQ d q m agY left).2.1.length<=q.length+1/\∀x∈(iQ d q m agY left).2.1,x.ok:=by
 unfold iQ;split
 .exact⟨a,fF _,b⟩
 split
 .exact⟨a.Zg _,fF _,b⟩
 have hp:=a.put (dV h) (Ga (jZ q m) (ao agY)) false;have c:=GR (ir.1 a).2 (ao agY) (Ga (jZ q m) (ao agY)) false;generalize qZ d (ao agY) (Ga (jZ q m) (ao agY)) false=t at hp c;let⟨e,g,i⟩:=t;dsimp only at hp c⊢;split
 .exact⟨hp,by rw[Ki];exact aC _,MS b c⟩
 exact⟨hp,fF _,b⟩
def EX{c}{n}(h:c.E n)(e:n+1<=890000){agY}(g:agY<=4294967295):(oK c agY).E (n+1):=by
 have b:=QE (m:=c.mem) (left:=lX c.Q c.asked) h.gd h.ok.Z_ g;unfold oK;generalize iQ c.data c.U c.mem agY _=t at b;let⟨d,q,a⟩:=t;dsimp only at b⊢;refine h.Zf (oH h.ok.U) b.2.2 b.1 ?_ e;split
 .exact EW _
 exact h.ok.asked
def QF{l}{c}(a:c_ c):c_ (sL l c).2.1/\(sL l c).1.length<=l.length/\∀x∈(sL l c).1,x∈l:=by
 unfold sL
 cases l with
 |nil=>exact⟨a,aC _,λx h=>h⟩
 |cons p l=>
  dsimp only;split
  .exact⟨a.write _ _,fF _,λx h=>bY _ h⟩
  .exact⟨a,aC _,λx h=>h⟩
def eR{c}{n}(h:c.E n):(bg c).E n:=by
 have a:=QF (l:=c.V) h.gd;exact⟨⟨h.ok.Q,h.ok.prog,h.ok.Z4,h.ok.r,h.ok.J,h.ok.Z5,h.ok.ZV,h.ok.Z,h.ok.Z6,aL a.2.1 h.ok.Z',λx b=>h.ok.Z0 x (a.2.2 x b),(ir.1 a.1).2,h.ok.u,h.ok.U,h.ok.Z_,h.ok.asked,h.ok.Z1,h.ok.mem,h.ok.K,h.ok.ret,h.ok.ZW⟩,h.nb,h.cf,(ir.1 a.1).1,h.u,h.K,h.Z,h.Z5,aL a.2.1 h.Z',h.prog,h.mem,λx b=>h.ZO x (a.2.2 x b)⟩
def mO(c):tY c=ec (if(sL c.V c.data).2.2=false/\(bg c).V≠[]then f_ (bg c)else bg c):=by
 unfold tY bg
 cases d:c.V with
 |nil=>simp[sL]
 | cons p l=>
  dsimp only
  cases a:(sL _ c.data).2.2 with
  |true=>simp
  | false=>
   have:(sL (p::l) c.data).1=p::l:=by
    unfold sL at a⊢;dsimp only at a⊢;by_cases b:(xL c.data p.W p.data).2=true
    .rw[aa b]at a;cases a
    .rw[dZ b]
   simp[this]
def iz{a b}:cE a b false=(a&&b):=by cases a<;>rfl
def ey{a b}:cE a true b=(a||b):=by cases a<;>rfl
def tK{d}{p}(hp:d.V[0]?=some p):f_ d=if Ec d.U (ao p.W) 3=false/\tA d true=true then jE d 3 (ao p.W) oZ else d:=by
 unfold f_
 cases a:d.V with
 |nil=>rw[a]at hp;simp at hp
 |cons y l=>rw[a]at hp;simp at hp;subst hp;rfl
def uZ{d}(h:(cR d.data).isSome=true/\((cR d.data).getD qE).data.size≠0):pE d={jE d 4 ((cR d.data).getD qE).S ((cR d.data).getD qE).data with data:=wB d.data ((cR d.data).getD qE).S}:=by
 unfold pE
 cases a:cR d.data with
 |none=>rw[a]at h;simp at h
 |some w=>rw[a]at h;exact aa h.2
def wZ{d}(h: ¬((cR d.data).isSome=true/\((cR d.data).getD qE).data.size≠0)):pE d=d:=by
 unfold pE
 cases a:cR d.data with
 |none=>rfl
 |some w=>rw[a]at h;exact dZ λe=>h ⟨R,e⟩
theorem c_.ZP{c}(h:c_ c):((cR c).getD qE).S<=4294967295:=by
 cases a:cR c with
 |none=>exact aE _
 |some w=>exact h.f a
def WY(c)(n)(a:c.E n)(H:n+2<=890000)(k)(q)(j)(o)(m)(r):pM C0.P C0.G 81 [.ptr 0 0] (aq [(0,.box (az c (.Y 17 q k) (.Y 2 o j) (.Y 2 (c.V.map ay) false) (.Y 9 r m)))]) 1 (λx h'=>x=.F []/\h'=aq [(0,.box (az (tY c) (.Y 17 q k) (.Y 2 o j) (.Y 2 ((tY c).V.map ay) false) (.Y 9 r m)))]):=by
 refine hZ 1 func81 R<|zR<|zC (x_ c.V c.data a.ok.data (oH a.Z') a.ok.Z0)<|pO R R<|oR 7 R<|a1 R<|oR 3 R<|a1 R<|rE 32<|And.intro (by kernel_rfl)<|qX 0 R<|gS R id<|gS R id<|gS R id<|gS R id<|aw R id (cD ay ((bg c).V))<|aw R id (ak (fq _ _))<|zN R (λh=>h)<|zB R (λt=>?_) (λt=>?_)
 .have d:((sL c.V c.data).2.2=false/\(bg c).V≠[]):=by have z:=t;simpa [iz,fC]using z
  have F:0<(bg c).V.length:=fC.2 d.2;let⟨p,hp⟩:=d7 ((bg c).V) 0;have g:=(eR a).ok.Z0 p (aB hp);refine FO (ay p) (x:=.k 2 0 (ay p)) R R R ⟨dT,iH hp⟩ R<|qR 0 R<|zC (tN p.W g.W)<|rV (.Y 1 ([[vI 3]]) true) R<|zC (x:=vB (Ec c.U (ao p.W) 3)) ((show bI C0 _ [_,_,.Y 1 ([(3:Int)].map bm) true] _ from by rw[<-Kk];exact RQ c.U (ao p.W) [3] false true (oH a.U) (λx G=>(a.ok.Z_ x G).S) (dV g.W) dT))<|jQ (x:=vB (tA (bg c) true)) (g:= !(Ec c.U (ao p.W) 3)) R R R R (λh=>h) R R R (.inr ⟨R,⟨tr,tr,tr⟩⟩) R (λI=>Ua (bg c) n (eR a) (.Y 17 q k) (.Y 2 o j) (.Y 2 (((bg c).V).map ay) false) (.Y 9 r m) true)<|zN R (λh=>h)<|zB R (λu=>?_) (λu=>?_)
  .have i:(Ec (bg c).U (ao p.W) 3=false/\tA (bg c) true=true):=by have z:=u;show(Ec c.U _ _=false/\_);simpa [iz]using z
   apply zH R ((mq (bg c) n (eR a) 3 (ao p.W) (⟨#[]⟩:ByteArray) (dV g.W) k q j o false ((bg c).V.map ay) m r).fB (λz=>z));rintro _ _ ⟨rfl,rfl⟩;refine rW (vN (((bg c).V).length)) R (cD ay ((bg c).V))<|zW (vB (decide ((((bg c).V).length)>0))) (ak (fq _ _))<|gS R id<|gS R id<|gS R id<|gS R id<|aw R id R<|zN R (by simp)<|zB R (λv=>?_) (λv=>?_)
   .have b:((bg c).V≠[]\/(jE (bg c) 3 (ao p.W) (⟨#[]⟩:ByteArray)).halt=0):=by have z:=v;simpa [ey,fC]using z
    rw[mO,aa d,tK hp,aa i,show ec (jE (bg c) 3 (ao p.W) oZ)=(jE (bg c) 3 (ao p.W) oZ)from aa b];exact du
   have b: ¬((bg c).V≠[]\/(jE (bg c) 3 (ao p.W) (⟨#[]⟩:ByteArray)).halt=0):=by have z:=v;simpa [ey,fC]using z
   refine zC (q0 (jE (bg c) 3 (ao p.W) (⟨#[]⟩:ByteArray)).data (sH (eR a) ad 3 (dV g.W) oZ).ok.data)<|gS R id<|aw R id R<|zN R (λh=>h)<|aV R (λw=>?_) (λw=>?_)
   .have e:((cR (jE (bg c) 3 (ao p.W) (⟨#[]⟩:ByteArray)).data).isSome=true/\((cR (jE (bg c) 3 (ao p.W) (⟨#[]⟩:ByteArray)).data).getD qE).data.size≠0):=by have z:=w;rw[jr]at z;simpa [qA]using z
    have s:Ca.ok (jE (bg c) 3 (ao p.W) (⟨#[]⟩:ByteArray)).data:=(sH (eR a) ad 3 (dV g.W) oZ).ok.data;refine qC 0 R<|zH R ((mq (jE (bg c) 3 (ao p.W) (⟨#[]⟩:ByteArray)) (n+1) (sH (eR a) ad 3 (dV g.W) oZ) 4 (((cR (jE (bg c) 3 (ao p.W) (⟨#[]⟩:ByteArray)).data).getD qE).S) (((cR (jE (bg c) 3 (ao p.W) (⟨#[]⟩:ByteArray)).data).getD qE).data) ((sH (eR a) ad 3 (dV g.W) oZ).gd.ZP) k q j o false ((bg c).V.map ay) m r).fB (λz=>z)) ?_;rintro _ _ ⟨rfl,rfl⟩;refine a7<|oR 8 R<|aW R (Iu ((jE (jE (bg c) 3 (ao p.W) (⟨#[]⟩:ByteArray)) 4 (((cR (jE (bg c) 3 (ao p.W) (⟨#[]⟩:ByteArray)).data).getD qE).S) (((cR (jE (bg c) 3 (ao p.W) (⟨#[]⟩:ByteArray)).data).getD qE).data)).data) (((cR (jE (bg c) 3 (ao p.W) (⟨#[]⟩:ByteArray)).data).getD qE).S) s ((sH (eR a) ad 3 (dV g.W) oZ).gd.ZP))<|oR 3 R<|a1 R<|rE 121 ?_;rw[mO,aa d,tK hp,aa i,show ec (jE (bg c) 3 (ao p.W) oZ)=pE (jE (bg c) 3 (ao p.W) oZ)from dZ b,uZ (d:=(jE (bg c) 3 (ao p.W) oZ)) e];exact ck 0 R<|du
   have e: ¬((cR (jE (bg c) 3 (ao p.W) (⟨#[]⟩:ByteArray)).data).isSome=true/\((cR (jE (bg c) 3 (ao p.W) (⟨#[]⟩:ByteArray)).data).getD qE).data.size≠0):=by have z:=w;rw[jr]at z;simpa [qA]using z
   rw[mO,aa d,tK hp,aa i,show ec (jE (bg c) 3 (ao p.W) oZ)=pE (jE (bg c) 3 (ao p.W) oZ)from dZ b,wZ (d:=(jE (bg c) 3 (ao p.W) oZ)) e];exact jj 0 R<|du
  have i: ¬(Ec (bg c).U (ao p.W) 3=false/\tA (bg c) true=true):=by have z:=u;show ¬(Ec c.U _ _=false/\_);simpa [iz]using z
  refine rW (vN (((bg c).V).length)) R (cD ay ((bg c).V))<|zW (vB (decide ((((bg c).V).length)>0))) (ak (fq _ _))<|gS R id<|gS R id<|gS R id<|gS R id<|aw R id R<|zN R (by simp)<|zB R (λy=>?_) (λy=>?_)
  .have b:((bg c).V≠[]\/c.halt=0):=by have z:=y;simpa [ey,fC]using z
   rw[mO,aa d,tK hp,dZ i,show ec (bg c)=(bg c)from aa b];exact du
  have b: ¬((bg c).V≠[]\/c.halt=0):=by have z:=y;simpa [ey,fC]using z
  refine zC (q0 (bg c).data (eR a).ok.data)<|gS R id<|aw R id R<|zN R (λh=>h)<|aV R (λC=>?_) (λC=>?_)
  .have e:((cR (bg c).data).isSome=true/\((cR (bg c).data).getD qE).data.size≠0):=by have z:=C;rw[jr]at z;simpa [qA]using z
   have s:Ca.ok (bg c).data:=(eR a).ok.data;refine qC 0 R<|zH R ((mq (bg c) n (eR a) 4 (((cR (bg c).data).getD qE).S) (((cR (bg c).data).getD qE).data) ((eR a).gd.ZP) k q j o false ((bg c).V.map ay) m r).fB (λz=>z)) ?_;rintro _ _ ⟨rfl,rfl⟩;refine a7<|oR 8 R<|aW R (Iu ((jE (bg c) 4 (((cR (bg c).data).getD qE).S) (((cR (bg c).data).getD qE).data)).data) (((cR (bg c).data).getD qE).S) s ((eR a).gd.ZP))<|oR 3 R<|a1 R<|rE 118 ?_;rw[mO,aa d,tK hp,dZ i,show ec (bg c)=pE (bg c)from dZ b,uZ (d:=(bg c)) e];exact ck 0 R<|du
  have e: ¬((cR (bg c).data).isSome=true/\((cR (bg c).data).getD qE).data.size≠0):=by have z:=C;rw[jr]at z;simpa [qA]using z
  rw[mO,aa d,tK hp,dZ i,show ec (bg c)=pE (bg c)from dZ b,wZ (d:=(bg c)) e];exact jj 0 R<|du
 have d: ¬((sL c.V c.data).2.2=false/\(bg c).V≠[]):=by have z:=t;simpa [iz,fC]using z
 refine rW (vN (((bg c).V).length)) R (cD ay ((bg c).V))<|zW (vB (decide ((((bg c).V).length)>0))) (ak (fq _ _))<|gS R id<|gS R id<|gS R id<|gS R id<|aw R id R<|zN R (by simp)<|zB R (λD=>?_) (λD=>?_)
 .have b:((bg c).V≠[]\/c.halt=0):=by have z:=D;simpa [ey,fC]using z
  rw[mO,dZ d,show ec (bg c)=(bg c)from aa b];exact du
 have b: ¬((bg c).V≠[]\/c.halt=0):=by have z:=D;simpa [ey,fC]using z
 refine zC (q0 (bg c).data (eR a).ok.data)<|gS R id<|aw R id R<|zN R (λh=>h)<|aV R (λE=>?_) (λE=>?_)
 .have e:((cR (bg c).data).isSome=true/\((cR (bg c).data).getD qE).data.size≠0):=by have z:=E;rw[jr]at z;simpa [qA]using z
  have s:Ca.ok (bg c).data:=(eR a).ok.data;refine qC 0 R<|zH R ((mq (bg c) n (eR a) 4 (((cR (bg c).data).getD qE).S) (((cR (bg c).data).getD qE).data) ((eR a).gd.ZP) k q j o false ((bg c).V.map ay) m r).fB (λz=>z)) ?_;rintro _ _ ⟨rfl,rfl⟩;refine a7<|oR 8 R<|aW R (Iu ((jE (bg c) 4 (((cR (bg c).data).getD qE).S) (((cR (bg c).data).getD qE).data)).data) (((cR (bg c).data).getD qE).S) ((eR a).ok.data) ((eR a).gd.ZP))<|oR 3 R<|a1 R<|rE 95 ?_;rw[mO,dZ d,show ec (bg c)=pE (bg c)from dZ b,uZ (d:=(bg c)) e];exact ck 0 R<|du
 have e: ¬((cR (bg c).data).isSome=true/\((cR (bg c).data).getD qE).data.size≠0):=by have z:=E;rw[jr]at z;simpa [qA]using z
 rw[mO,dZ d,show ec (bg c)=pE (bg c)from dZ b,wZ (d:=(bg c)) e];exact jj 0 R<|du
end Go.Proofs.YtiaekocjeinkjaaGreatDoor
