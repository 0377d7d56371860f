import Derived.Test.YtiaekocjeinkjaaGreatDoorS33
set_option linter.all false
namespace Go.Proofs.YtiaekocjeinkjaaGreatDoor
open Go.Proofs.Tryz
set_option maxRecDepth 100000
set_option maxHeartbeats 4000000
open Go.RowKit
theorem GO{a:List ai}{b:Int}:∀{n k:Nat},ec a b n=some k->k<n
 |0,k,h=>by cases h
 |n+1,k,h=>by
  simp only[ec]at h;split at h
  .injection h with h;omega
  .have:=GO h;omega
def EY{a:List ai}{i k:Nat}{b:Int}(h:bq a i b=some k):k<i/\k<a.length:=by
 unfold bq at h;split at h
 .cases h
 have:=GO h;omega
def MW{o:Option Nat}(h:DM o<0):o=none:=by cases o with|none=>rfl|some k=>exact absurd h (by show ¬((k:Int)<0);omega)
def Im{o:Option Nat}(h: ¬DM o<0):∃k,o=some k:=by cases o with|none=>exact absurd dT h|some k=>exact⟨k,R⟩
def Kl(b:List ai)(r:Nat->Nat)(u:Bool)(i:Nat)(a:Int)(w:b.length<=1000)(y:∀x∈b,x.ok)(D:∀k,r k<=4294967295)(C:i<=1000):bI C0 130 [.Y 17 (b.map ab) u,.agg (Ks r),vN i,vI a] (.F [vU ((lK b r i a).getD 0),vB (lK b r i a).isSome]):=by
 refine bc func130 R<|de (a==0) (λn=>?_) (λn=>?_)
 .have d:=mT n;have c:lK b r i a=some 0:=by unfold lK;rw[aa d]
  exact fT R (by rw[c];rfl)
 have d:=nA n;refine zV (vB (decide (a<0)))<|aw R id R<|zN R (by simp)<|zB R (λo=>?_) (λo=>?_)
 .have m:(a<0\/a>31):=by have z:=o;simp only[ae]at z;grind
  have c:lK b r i a=none:=by unfold lK;rw[dZ d,aa m]
  exact fT R (by rw[c];rfl)
 have m: ¬(a<0\/a>31):=by have z:=o;simp only[ae]at z;grind
 refine zC (QN b u (i) (a) w y ad)<|de (decide ((DM (bq b (i) (a)))<0)) (λp=>?_) (λp=>?_)
 .have g:=ax p;have e:=MW g;refine nW (.ptr 0 (0+a.toNat*1)) R R ad<|zW _ (S_ r a.toNat ad) ?_;have c:lK b r i a=some (r a.toNat):=by unfold lK;rw[dZ d,dZ m,e]
  exact fT R (by rw[c];rfl)
 have g:=aF p;obtain⟨j,e⟩:=Im g;have v:=EY e;obtain⟨x,t⟩:∃x,b[j]?=some x:=⟨_,aA v.2⟩;refine FO (ab x) (x:=.k 17 0 (ab x)) R R R (by rw[e];exact⟨aG _,iH t⟩) R<|qR 0 R<|zV (vB (x.is==3))<|gS R id<|aw R id R<|zN R (λh=>h)<|zB R (λq=>?_) (λq=>?_)
 .have s:(x.is=3/\x.halt=0):=by have z:=q;simp only[qA]at z;grind
  have c:lK b r i a=some x.value:=by unfold lK;rw[dZ d,dZ m,e];simp only[t];exact aa s
  exact fT R (by rw[c];rfl)
 have s: ¬(x.is=3/\x.halt=0):=by have z:=q;simp only[qA]at z;grind
 have c:lK b r i a=none:=by unfold lK;rw[dZ d,dZ m,e];simp only[t];exact dZ s
 exact fT R (by rw[c];rfl)
def Ck{a:List ai}{r:Nat->Nat}(d:∀x∈a,x.ok)(g:∀k,r k<=4294967295)(i:Nat)(b:Int):(lK a r i b).getD 0<=4294967295:=by
 unfold lK;split
 .exact aE _
 split
 .exact aE _
 split
 .exact g _
 split
 .rename_i e c;split
  .exact(d e (aB c)).value
  exact aE _
 exact aE _
def VK(a:List ai)(r:Nat->Nat)(b:Bool)(i:Nat)(g:a.length<=1000)(d:∀x∈a,x.ok)(j:∀k,r k<=4294967295)(q:i<=1000):bI C0 180 [.Y 17 (a.map ab) b,.agg (Ks r),vN i] (.F [vU (mI a r i).1,vU (mI a r i).2.1,vB (mI a r i).2.2]):=by
 refine bc func180 R<|zW _ (ak (bl _ _))<|aw R id (cD ab a)<|aw R b9 (ak (im _ _))<|zN R (by simp)<|zB R (λc=>?_) (λc=>?_)
 .have m:(i>=a.length):=by have z:=c;simp only[ae]at z;grind
  have n:a[i]?=none:=bE ad;exact fT R (by rw[show mI a r i=(0,0,false)from by unfold mI;rw[n]];rfl)
 have m: ¬(i>=a.length):=by have z:=c;simp only[ae]at z;grind
 obtain⟨x,e⟩:∃o,a[i]?=some o:=⟨_,aA ad⟩;have p:=d x (aB e);refine zX (ab x) (.k 17 0 (ab x)) R (iH e)<|zC (Fs x.i)<|zC (Kl a r b (i) (x.i.y) g d j ad)<|zC (Kl a r b (i) (x.i.A) g d j ad)<|zN R (λh=>h) ?_;exact fT R (by rw[show mI a r i=((lK a r i x.i.y).getD 0,(lK a r i x.i.A).getD 0,(lK a r i x.i.y).isSome&&(lK a r i x.i.A).isSome)from by unfold mI;rw[e]];simp only[<-qA];rfl)
def Ac(e:ai)(j:e.ok):bI C0 243 [.agg (ab e)] (vB (LT e)):=by
 refine bc func243 R<|de (e.halt != 0) (λa=>?_) (λa=>?_)
 .replace a:=sP a;exact fT R (dR (by unfold LT;grind))
 refine zC (pS e.i)<|b0 (ak (ba _ _)) (λb=>?_) (λb=>?_)
 .replace a:=sP a;replace b:=sP b;exact fT R (dR (by unfold LT;grind))
 refine b0 (ak (ba _ _)) (λc=>?_) (λc=>?_)
 .refine zB R (λ_=>?_) (λh=>Bool.noConfusion (c.symm.trans h));replace a:=sP a;replace b:=sP b;replace c:=sP c;exact fT R (dR (by unfold LT;grind))
 refine b0 (ak (ba _ _)) (λd=>?_) (λd=>?_)
 .refine zB R (λ_=>?_) (λi=>Bool.noConfusion (d.symm.trans i));replace a:=sP a;replace b:=sP b;replace c:=sP c;replace d:=sP d;exact fT R (dR (by unfold LT;grind))
 refine b0 (ak (ba _ _)) (λg=>?_) (λg=>?_)
 all_goals (replace a:=sP a;replace b:=sP b;replace c:=sP c;replace d:=sP d;replace g:=sP g;exact fT R (dR (by unfold LT;grind)))
def Xd{α:Type}{p:α->Bool}{l:List α}{k:Nat}{x:α}(a:l[k]?=some x)(hp:p x=true)(h:∀y∈l.take k,p y=false):l.findIdx p=k:=by
 have:=QP a hp h;rw[List.findIdx?_eq_some_iff_findIdx_eq]at this;exact this.2
def Xe{α:Type}{p:α->Bool}{l:List α}{k:Nat}(a:l.length<=k)(h:∀y∈l.take k,p y=false):l.findIdx p=l.length:=by
 rw[aN a]at h;exact List.findIdx_eq_length.2 h
def QJ(a:List ai)(d:Bool)(q:a.length<=1000)(n:∀x∈a,x.ok):bI C0 227 [.Y 17 (a.map ab) d] (vN (Cq a)):=by
 refine eb func227 R<|zW _ (cD ab a)<|dk (κ:=Nat) (λk=>⟨a6 [(0,.Y 17 (a.map ab) d),(5,.Y 17 (a.map ab) d),(6,vN a.length),(7,vN k)],aq [],4⟩) (λk=>k<=a.length/\∀y∈a.take k,(!LT y)=false) (λk=>a.length-k) 0 (λs=>s) (au (λs=>s) wT tr R) (⟨aE _,QQ⟩) ?_;intro k b;have p:k<=a.length:=b.1;have i:k<=1000000:=oT;refine b0 (ak (bl _ _)) (λe=>?_) (λe=>?_)
 .have h:=ax e;obtain⟨x,c⟩:∃o,a[k]?=some o:=⟨_,aA ad⟩;have j:=n x (aB c);refine zX (ab x) (.k 17 0 (ab x)) R (iH c)<|zC (Ac x j)<|zB R (λg=>?_) (λg=>?_)
  .exact fT R (nT (by unfold Cq;rw[Xd c (sU g) b.2]))
  skip
  have m:k+1<=1000001:=aD i (aC 1);refine zW _ (ap (bH m R)) ?_;refine⟨k+1,λs=>s,au _ wT tr R,⟨oT,QO c (sU g) b.2⟩,by show a.length-(k+1)<a.length-k;omega⟩
 have h:=aF e;refine zW _ (cD ab a) ?_;exact fT R (nT (by unfold Cq;rw[Xe ad b.2]))
def MX(a:List ai)(b:Bool)(i:Nat)(c:a.length<=1000)(d:∀x∈a,x.ok)(g:i<=1000):bI C0 210 [.Y 17 (a.map ab) b,vN i] (vB (vC a i)):=by
 refine bc func210 R<|zW _ (ak (im _ _))<|aw R id (cD ab a)<|aw R b9 (ak (ju _ _))<|zN R (λh=>h)<|jQ (x:=vN (Cq a)) (g:=cE (decide (i>=0)) (decide (i<=a.length)) false) R R R R (λh=>h) R R R (.inl R) R (λe=>QJ a b c d)<|aw R b9 (ak (ju _ _))<|zN R (λh=>h) ?_;exact fT R (dR (by unfold vC;rw[bB];simp[qA]))
theorem mH(a:List ai):∀k,(bg a k).length=k
 |0=>rfl
 |k+1=>by simp only[bg,aU,mH a k,bN,cX]
def Ub{a:List ai}{k j:Nat}{x:Int}{o:Option Nat}(b:o=some j)(c:(bg a k)[j]?=some x):sZ (bg a k) o=x:=by
 subst b;show(bg a k).getD j (-1)=x;rw[aR,c];rfl
def QK(a:List ai)(d:Bool)(i k:Nat)(b:Int)(m:a.length<=1000)(n:∀x∈a,x.ok)(r:i<=k)(s:k<=1000):pM C0.P C0.G 242 [vN i,vI b,.ptr 0 0,.ptr 1 0] (aq [(0,.box [.Y 17 (a.map ab) d]),(1,.box [.X 2 0 k false]),(2,.arr ((bg a k).map bm) 1)]) 3 (λx h'=>x=vI (sZ (bg a k) (bq a i b))/\h'=aq [(0,.box [.Y 17 (a.map ab) d]),(1,.box [.X 2 0 k false]),(2,.arr ((bg a k).map bm) 1)]):=by
 refine HCall.intro (C:=C0) (s:=3) gr.at func242 R R (by kernel_rfl) R R<|qS 0 R<|zC (QN a d (i) (b) m n ad)<|de (decide ((DM (bq a (i) (b)))>=0)) (λe=>?_) (λe=>?_)
 .have g:=ax e;obtain⟨j,c⟩:=Im (oT:¬DM (bq a i b)<0);have p:=EY c;have q:=mH a k;refine nW _ R ((show b1.Z9 _ (AV.x 2 (0+(DM (bq a i b)).toNat) 0)=b1.Z9 _ (AV.x 2 (0+j) 0)from by rw[c];rfl)) (by(try rw[c]);exact⟨aG _,by show(j:Int)<(k:Int);omega⟩) ?_;obtain⟨x,h⟩:∃o,(bg a k)[j]?=some o:=⟨_,aA ad⟩;refine zX (bm x) (vI x) R (Jv (iH h))<|BH (rs:=[vI x]) R (r:=vI (sZ (bg a k) (bq a i b))) (σ:=λz=>z) ⟨R,R⟩ R (ah (λz=>z) (by rw[Ub c h];rfl) R wH R)
 have g:=aF e;have c:=MW (oT:DM (bq a i b)<0);refine BH (rs:=[vI (-1)]) R (r:=vI (sZ (bg a k) (bq a i b))) (σ:=λz=>z) ⟨R,R⟩ R (ah (λz=>z) (by rw[c];rfl) R wH R)
def yx(a b:Int):(if b>a then b else a)=max a b:=oT
def EZ{p:Prop}{H:AH}{s rs:Nat}{a:List ai}{k:Nat}{x:Int}(b:(bg a k).length=k)(c:x=DB a (bg a k) k):
  b1.fx p (.X s 0 ((List.take k (List.drop 0 ((bg a k).map bm))).length+[[AV.v (.int .i64 x)]].length) false) (an H s (some (.arr (List.take k (List.drop 0 ((bg a k).map bm))++[[AV.v (.int .i64 x)]]) rs)))=.fx p (.X s 0 (k+1) false) (an H s (some (.arr ((bg a (k+1)).map bm) rs))):=by
 rw[bS,aN (by rw[aH,b];exact aC _),aH,b];simp only[bg,dH,jC,List.map_nil, <-c];rfl
def yy(a:List ai)(d:Bool)(o:a.length<=1000)(i:∀x∈a,x.ok):bI C0 226 [.Y 17 (a.map ab) d] (.Y 1 ((jo a).map bm) false):=by
 refine eb func226 R<|zC (QJ a d o i)<|rW _ R (cD ab a)<|zF (x:=.X 7 0 0 false) (h':=an _ 7 (some (.arr (([]:List Int).map bm) 1))) (rfl) (⟨dT,FG.2 ad,by show((a.length:Nat):Int)<=1000000;omega⟩)<|zV (.a 242 [] [.ptr 0 0,.ptr 8 0])<|zW _ (cD ab a)<|dk (κ:=Nat) (λk=>⟨a6 [(2,.Y 0 ([]) true),(3,vN (Cq a)),(4,.ptr 8 0),(5,.a 242 [] [.ptr 0 0,.ptr 8 0]),(17,.Y 17 (a.map ab) d),(18,vN a.length),(19,vN k)],aq [(0,.box [.Y 17 (a.map ab) d]),(7,.arr ((bg a k).map bm) 1),(8,.box [.X 7 0 k false])],15⟩) (λk=>k<=a.length) (λk=>a.length-k) 0 (λs=>s) (au (λs=>s) wT wH R) (aE _) ?_;intro k w;have C:k<=a.length:=w;have g:k<=1000:=oT;refine b0 (ak (bl _ _)) (λj=>?_) (λj=>?_)
 .have p:=ax j;obtain⟨x,h⟩:∃y,a[k]?=some y:=⟨_,aA ad⟩;have D:=i x (aB h);refine zX (ab x) (.k 17 0 (ab x)) R (iH h)<|aW R (pS x.i)<|b0 (ak (db _ _)) (λm=>?_) (λm=>?_)
  .have c:=wM m;refine zC (Fs x.i)<|zH R ((QK a d k k x.i.y o i (aC k) ad).Y_ (λz=>match z with|0=>0|1=>8|2=>7|z=>z) _ _ R ⟨⟨R,R,R,R⟩,⟨R,R,R,R⟩,⟨R,R,R,R⟩,tr⟩ R R R) ?_;rintro _ _ ⟨rfl,rfl⟩;refine fU _ R R R ((QK a d k k x.i.A o i (aC k) ad).Y_ (λz=>match z with|0=>0|1=>8|2=>7|z=>z) _ _ R ⟨⟨R,R,R,R⟩,⟨R,R,R,R⟩,⟨R,R,R,R⟩,tr⟩ R R R) ?_;rintro _ _ ⟨rfl,rfl⟩;refine zW (vI (if(sZ (bg a k) (bq a k x.i.A))>(sZ (bg a k) (bq a k x.i.y))then(sZ (bg a k) (bq a k x.i.A))else(sZ (bg a k) (bq a k x.i.y)))) R<|rV (.Y 1 ([[vI (if(sZ (bg a k) (bq a k x.i.A))>(sZ (bg a k) (bq a k x.i.y))then(sZ (bg a k) (bq a k x.i.A))else(sZ (bg a k) (bq a k x.i.y)))]]) true) R ?_;have b:(if(sZ (bg a k) (bq a k x.i.A))>(sZ (bg a k) (bq a k x.i.y))then(sZ (bg a k) (bq a k x.i.A))else(sZ (bg a k) (bq a k x.i.y)))=DB a (bg a k) k:=by unfold DB;rw[h];exact(yx _ _).trans (aa c).symm
   refine zF (x:=.X 48 0 (k+1) false) (h':=an (an _ 7 none) 48 (some (.arr ((bg a (k+1)).map bm) 1))) (EZ (mH a k) b) (⟨by simp only[aH,bN,cX,aM,bD,mH,jH];omega,by simp only[aH,mH];omega,tr⟩) ?_;have t:k+1<=1001:=aD g (aC 1);refine zW _ (ap (bH t R)) ?_;refine⟨k+1,λz=>match z with|7=>48|z=>z,au _ wT wH R,oT,by show a.length-(k+1)<a.length-k;omega⟩
  have c:=wN m;refine b0 (ak (fq _ _)) (λn=>?_) (λn=>?_)
  .have e:=ax n;refine rV (.Y 1 ([[vN k]]) true) R ?_;have b:(k:Int)=DB a (bg a k) k:=by unfold DB;rw[h];dsimp only;rw[dZ (show ¬aj x.i.op≠3 from λq=>q c),aa e]
   refine zF (x:=.X 35 0 (k+1) false) (h':=an (an _ 7 none) 35 (some (.arr ((bg a (k+1)).map bm) 1))) (EZ (mH a k) b) (⟨by simp only[aH,bN,cX,aM,bD,mH,jH];omega,by simp only[aH,mH];omega,tr⟩) ?_;have u:k+1<=1001:=aD g (aC 1);refine zW _ (ap (bH u R)) ?_;refine⟨k+1,λz=>match z with|7=>35|z=>z,au _ wT wH R,oT,by show a.length-(k+1)<a.length-k;omega⟩
  have e:=aF n;refine rV (.Y 1 ([[vI (-1)]]) true) R ?_;have b:(-1)=DB a (bg a k) k:=by unfold DB;rw[h];dsimp only;rw[dZ (show ¬aj x.i.op≠3 from λq=>q c),dZ e]
  refine zF (x:=.X 33 0 (k+1) false) (h':=an (an _ 7 none) 33 (some (.arr ((bg a (k+1)).map bm) 1))) (EZ (mH a k) b) (⟨by simp only[aH,bN,cX,aM,bD,mH,jH];omega,by simp only[aH,mH];omega,tr⟩) ?_;have v:k+1<=1001:=aD g (aC 1);refine zW _ (ap (bH v R)) ?_;refine⟨k+1,λz=>match z with|7=>33|z=>z,au _ wT wH R,oT,by show a.length-(k+1)<a.length-k;omega⟩
 have p:=aF j;have r:k=a.length:=oT;subst r;refine dK R (by show 0+a.length<=((bg a a.length).map bm).length;rw[aH,mH];omega) R ?_;show AV.Y 1 (List.take a.length (List.drop 0 ((bg a a.length).map bm))) false=_;rw[jW bm (bg a a.length) (by rw[mH];exact aC _)];rfl
def yz{a:List ai}{i:Nat}{b:Int}(d:decide (DM (bq a i b)>=0)=true):0<=DM (bq a i b)/\((jo a).map bm)[(DM (bq a i b)).toNat]?=some (bm ((jo a).getD (DM (bq a i b)).toNat (-1))):=by
 have h:=ax d;obtain⟨j,c⟩:=Im (oT:¬DM (bq a i b)<0);refine⟨h,?_⟩;rw[c];have e:=(EY c).2;have g:(jo a).length=a.length:=mH a a.length;show((jo a).map bm)[j]?=some (bm ((jo a).getD j (-1)));rw[aX,aR,aA ad];rfl
def Uc(a:List ai)(i:Nat)(b:Int):cE (decide (DM (bq a i b)>=0)) (decide ((jo a).getD (DM (bq a i b)).toNat (-1)>=0)) false=IC a i b:=by
 unfold IC
 cases h:bq a i b with
 |none=>rfl
 |some j=>
  rw[show decide (DM (some j)>=0)=true from jP (aG _)];rfl
def Ud(a:List ai)(c:Bool)(i:Nat)(b:Int)(e:a.length<=1000)(g:∀x∈a,x.ok)(j:i<=1000):bI C0 208 [.Y 17 (a.map ab) c,vN i,vI b] (vB (IC a i b)):=by
 refine bc func208 R<|zC (QN a c (i) (b) e g ad)<|zV (vB (decide ((DM (bq a (i) (b)))>=0)))<|zQ (x:=.Y 1 ((jo a).map bm) false) (g:=decide ((DM (bq a (i) (b)))>=0)) R (λh=>h) R (.inl R) (λd=>yy a c e g)<|DK (bm ((jo a).getD (DM (bq a i b)).toNat (-1))) (x:=.k 1 0 (bm ((jo a).getD (DM (bq a i b)).toNat (-1)))) (g:=decide ((DM (bq a (i) (b)))>=0)) R R R R b9 R R (λd=>yz d) R<|gS R id<|aw R id R<|zN R (λh=>h) ?_;exact fT R (dR (Uc a i b))
def y0(e:ai)(j:e.ok):bI C0 206 [.agg (ab e)] (vB (DC e)):=by
 refine bc func206 R<|zC (pS e.i)<|b0 (ak (ba _ _)) (λa=>?_) (λa=>?_)
 .refine zB R (λ_=>?_) (λg=>Bool.noConfusion (a.symm.trans g));replace a:=sP a;exact fT R (dR (by unfold DC;rw[bB];simp only[aY];grind))
 refine b0 (ak (ba _ _)) (λb=>?_) (λb=>?_)
 .refine zB R (λ_=>?_) (λh=>Bool.noConfusion (b.symm.trans h));replace a:=sP a;replace b:=sP b;exact fT R (dR (by unfold DC;rw[bB];simp only[aY];grind))
 refine b0 (ak (ba _ _)) (λc=>?_) (λc=>?_)
 .refine zB R (λ_=>?_) (λi=>Bool.noConfusion (c.symm.trans i));replace a:=sP a;replace b:=sP b;replace c:=sP c;exact fT R (dR (by unfold DC;rw[bB];simp only[aY];grind))
 refine b0 (ak (ba _ _)) (λd=>?_) (λd=>?_)
 all_goals (replace a:=sP a;replace b:=sP b;replace c:=sP c;replace d:=sP d;exact fT R (dR (by unfold DC;rw[bB];simp only[aY];grind)))
def y1(e:ai)(h:e.ok):bI C0 209 [.agg (ab e)] (.Y 1 ((qD e).map bm) true):=by
 refine bc func209 R<|zC (Fs e.i)<|zC (pS e.i)<|zW (vB ((aj e.i.op)==3)) (ak (ba _ _))<|zB R (λa=>?_) (λa=>?_)
 .have c:=mT a;refine zB R (λ_=>?_) (λg=>Bool.noConfusion (a.symm.trans g));refine zV (.Y 1 ([[vI e.i.y]]) true) ?_;exact fT R (by rw[show qD e=[e.i.y]from by unfold qD;exact aa ad];rfl)
 have c:=nA a;refine zW (vB ((aj e.i.op)==4)) (ak (ba _ _))<|zB R (λb=>?_) (λb=>?_)
 .have d:=mT b;refine zV (.Y 1 ([[vI e.i.y]]) true) ?_;exact fT R (by rw[show qD e=[e.i.y]from by unfold qD;exact aa ad];rfl)
 have d:=nA b;refine zV (.Y 1 ([[vI e.i.y],[vI e.i.A]]) true) ?_;exact fT R (by rw[show qD e=[e.i.y,e.i.A]from by unfold qD;exact dZ ad];rfl)
def Ue(e:ai):(qD e).length<=2:=by unfold qD;split<;>simp
def Xf(a:List ai)(c:Bool)(i:Nat)(b:Int)(e:a.length<=1000)(g:∀x∈a,x.ok)(d:i<=1000):bI C0 207 [vI b,.k 1 0 [.Y 17 (a.map ab) c],.k 1 0 [vN i]] (vB (!IC a i b)):=by
 refine bc func207 R ?_;refine zC (Ud a c i b e g d) ?_;exact fT R R
def C6(b:Int)(a:List ai)(n:Bool)(i:Nat)(I:a.length<=1000)(C:∀x∈a,x.ok)(G:i<=1000):bI C0 179 [vI b,.Y 17 (a.map ab) n,vN i] (vB (Pr b a i)):=by
 refine bc func179 R<|zW _ (ak (bl _ _))<|aw R id (cD ab a)<|aw R b9 (ak (im _ _))<|zN R (by simp)<|zB R (λp=>?_) (λp=>?_)
 .have K:(i>=a.length):=by have z:=p;simp only[ae]at z;grind
  have L:a[i]?=none:=bE ad;exact fT R (dR (by unfold Pr;rw[L]))
 have K: ¬(i>=a.length):=by have z:=p;simp only[ae]at z;grind
 obtain⟨x,e⟩:∃E,a[i]?=some E:=⟨_,aA ad⟩;have o:=C x (aB e);refine zX (ab x) (.k 17 0 (ab x)) R (iH e)<|zC (y0 x o)<|zB R (λh=>?_) (λh=>?_)
 .exact fT R (dR (by unfold Pr;rw[e];dsimp only;rw[aa (sU h)]))
 refine zV (.a 207 [] [.ptr 0 0,.ptr 1 0])<|de (b==0) (λq=>?_) (λq=>?_)
 .have d:=mT q;exact fT R (dR (by unfold Pr;rw[e];dsimp only;rw[dZ (sU h),aa d]))
 have d:=nA q;refine de (b==1) (λr=>?_) (λr=>?_)
 .have g:=mT r;refine zX (ab x) (.k 17 0 (ab x)) R (iH e)<|aW R (y1 x o)<|zW _ (cD bm (qD x))<|dk (κ:=Nat) (λk=>⟨a6 [(4,.ptr 0 0),(5,.ptr 1 0),(17,vB (cE (decide (i<0)) true (decide (i>=a.length)))),(23,vB (!(DC x))),(7,.a 207 [] [.ptr 0 0,.ptr 1 0]),(25,vI b),(26,vB (b==0)),(28,vB (b==1)),(34,.Y 1 ((qD x).map bm) true),(35,vN ((qD x).length)),(36,vN k)],aq [(0,.box [.Y 17 (a.map ab) n]),(1,.box [vN i])],31⟩) (λk=>k<=(qD x).length/\((qD x).take k).all (λc=> !IC a i c)=true) (λk=>(qD x).length-k) 0 (λs=>s) (au (λs=>s) wT wH R) (⟨aE _,R⟩) ?_;intro k y;have M:k<=(qD x).length:=y.1;have H:k<=1000000:=oH (Ue x);refine b0 (ak (bl _ _)) (λt=>?_) (λt=>?_)
  .have F:=ax t;obtain⟨D,m⟩:∃E,(qD x)[k]?=some E:=⟨_,aA ad⟩;refine zX (bm D) (.k 1 0 (bm D)) R (iH m)<|zL R (.inr ⟨R,tr,tr,tr,tr⟩) (Xf a n i D I C G)<|zB R (λu=>?_) (λu=>?_)
   .have z:=u;exact fT R (dR (by unfold Pr;rw[e];dsimp only;rw[dZ (sU h),dZ d,aa g,Ir (p:=λc=> !IC a i c) m (sU z)]))
   skip
   have J:k+1<=1000001:=aD H (aC 1);refine zW _ (ap (bH J R)) ?_;refine⟨k+1,λs=>s,au _ wT wH R,⟨oT,DV (p:=λc=> !IC a i c) m (sU u) y.2⟩,by show(qD x).length-(k+1)<(qD x).length-k;omega⟩
  have F:=aF t;have w:=DW (p:=λc=> !IC a i c) ad y.2;exact fT R (dR (by unfold Pr;rw[e];dsimp only;rw[dZ (sU h),dZ d,aa g,w]))
 have g:=nA r;refine de (b==2) (λv=>?_) (λv=>?_)
 .have j:=mT v;refine zC (MX a n i I C G) ?_;exact fT R (dR (by unfold Pr;rw[e];dsimp only;rw[dZ (sU h),dZ d,dZ g,aa j]))
 have j:=nA v;exact fT R (dR (by unfold Pr;rw[e];dsimp only;rw[dZ (sU h),dZ d,dZ g,dZ j]))
abbrev RP(n:Nat):List AV:=[.v (.int .i64 (n:Int))]
theorem NM{α:Type}(f:α->Value):∀(l:List α),(l.flatMap λa=>[f a])=l.map f
 |[]=>rfl
 |a::l=>by rw[gW,NM f l];rfl
def KU{α:Type}{f:α->Value}{l:List α}{S:Nat->Prop}{w:World}{v:Value}{g:Bool}(e:TypeId)(s:∀b,S b->b<w.heap.size)(h:av S w cy (.Y 1 (l.map λa=>[AV.v (f a)]) g) v):Sl w.heap.size e 1 w v l.length (l.flatMap λa=>[f a]):=by
 cases h with
 |Y _ _ _ A c b o u p t G H r E I D=>
  rw[aH]at p;refine⟨A,c,by rw[aH],p,t,by rw[NM,aH,iD],λC=>?_⟩;obtain⟨m,n⟩:=r (by rw[aH];exact C);refine⟨b,o,m,.inl (s b n),λj x q=>?_⟩;rw[NM,aX]at q;obtain⟨y,F,rfl⟩:=Gi.1 q;have d:(l.map λa=>[AV.v (f a)])[j]?=some [AV.v (f y)]:=by rw[aX,F];rfl
  have i:=E j _ 0 _ d R;have k:=D j _ 0 _ d R;rw[(oT:o+j*1+0=o+j)]at i;rw[i];generalize u j 0=z at k;cases k;rfl
def Pg{α:Type}{f:α->Value}(y:∀a,(f a).oneCell'=true){l:List α}{w:World}{v:Value}{base:Nat}{e:TypeId}(h:w.ownsRow base e 1 v l.length (l.flatMap λa=>[f a]))(S:Nat->Prop)(z:∀b,base<=b->b<w.heap.size->S b):av S w cy (.Y 1 (l.map λa=>[AV.v (f a)]) false) v:=by
 obtain⟨H,⟨rfl,u⟩|⟨g,r,n,rfl,C,s,E,D,G,t⟩⟩:=h
 .have:l=[]:=gq u;subst this;exact .Y 1 [] false none 0 0 0 (λ_ _=>.bool false) (aC _) (aE _) (λh=>by cases h) (λ_ h=>by cases h) (λh=>absurd h (iI 0)) (λi row j a h=>by simp at h) (λ_ _=>rfl) λi row j a h=>by simp at h
 .rw[NM,iD]at t;have k:∀(i:Nat) row (j:Nat) a,(l.map λa=>[AV.v (f a)])[i]?=some row->row[j]?=some a->∃x,l[i]?=some x/\j=0/\a=.v (f x)/\n[i]?=some (f x):=by
   intro i row j a c d;rw[aX]at c;obtain⟨x,q,rfl⟩:=Gi.1 c
   cases j with
   |zero=>
    injection d with d;refine⟨x,q,R,d.symm,?_⟩;have:(l.map f)[i]?=some (f x):=by rw[aX,q];rfl
    rw[<-t,cU]at this;split at this
    .rw[<-bQ];exact this
    .cases this
   |succ j=>simp at d
  have o:(l.map λa=>[AV.v (f a)]).length=l.length:=aH ..;rw[<-o];refine .Y 1 _ false (some ⟨g,0,none⟩) r g 0 (λi j=>if i<l.length then n.getD i undef else .bool false) (by rw[o];exact E) D (λh=>by cases h) (λrow F=>?_) (λ_=>⟨R,z g C (fJ s)⟩) (λi row j a c d=>?_) (λi j=>?_) λi row j a c d=>?_
  .obtain⟨x,_,rfl⟩:=pG.1 F;rfl
  .obtain⟨x,p,rfl,rfl,m⟩:=k i row j a c d;rw[aa (Em.1 p).1,gP s];rw[(oT:0+i*1+0=i),m,aK,m];rfl
  .show(if i<l.length then n.getD i undef else .bool false).oneCell'=true;by_cases c:i<l.length
   .rw[aa c];obtain⟨x,p,_,_,m⟩:=k i [AV.v (f l[i])] 0 (.v (f l[i])) (by rw[aX,aA c];rfl) R;rw[aK,m];exact y x
   .rw[dZ c];rfl
  .obtain⟨x,p,rfl,rfl,m⟩:=k i row j a c d;rw[aa (Em.1 p).1,aK,m];exact .v _
def sx(agN:Int)(busy:Bool)(kinds:List Int)(can:List Bool)(i c2:Bool)(z:kinds.length<=1000)(C:can.length<=1000):bI C0 139 [vI agN,vB busy,.Y 1 (kinds.map bm) i,.Y 1 (can.map h8) c2] (.Y 1 ((kj agN busy kinds can).map RP) false):=by
 refine⟨⟨_,func139,R,R⟩,λS w y d D c=>?_⟩
 match y,c with
 |[u,x,g,h],c=>
  have j:=c.2 0 _ u R R;have k:=c.2 1 _ x R R;have m:=c.2 2 _ g R R;have o:=c.2 3 _ h R R;cases j;cases k
  refine(UO agN busy kinds can w.heap.size kinds.length can.length g h w (KU (f:=λa:Int=>.int .i64 a) _ d m) (KU (f:=λa:Bool=>.bool a) _ d o) R R ad ad).mono ?_;rintro e w' ⟨v,s,t,r⟩
  exact⟨v,s,r,Pg (f:=λn:Nat=>.int .i64 (n:Int)) (λ_=>rfl) t _ λb p q=>.inr ⟨p,q⟩⟩
 |[],c=>exact absurd c.1 (by simp)
 |[_],c=>exact absurd c.1 (by simp)
 |[_,_],c=>exact absurd c.1 (by simp)
 |[_,_,_],c=>exact absurd c.1 (by simp)
 |_::_::_::_::_::_,c=>exact absurd c.1 (by simp)
def Mi(q:List bp)(agY:Nat)(kinds:List Int):Bool:=q.any λx=>kinds.any λk=>decide (x.S=agY)&&decide (x.kind=k)
def UR(q:List bp):yH q<=q.length:=List.length_filter_le _ _
def Hb{q:List bp}{k:Nat}{x:bp}(h:q[k]?=some x):yH (q.take (k+1))=yH (q.take k)+(if x.kind=4 then 0 else 1):=by
 unfold yH;rw[bW,h];by_cases e:x.kind=4<;>simp[mL,e]
def XR(q:List bp)(e:Bool)(r:q.length<=1000000)(m:∀x∈q,x.S<=4294967295):bI C0 188 [.Y 4 (q.map bv) e] (vN (yH q)):=by
 refine bc func188 R<|zW (vN q.length) (cD bv q)<|dk (κ:=Nat) (λk=>⟨a6 [(6,.Y 4 (q.map bv) e),(7,vN q.length),(3,vN (yH (q.take k))),(8,vN k)],aq [],5⟩) (λk=>k<=q.length) (λk=>q.length-k) 0 (λs=>s) (au (λs=>s) wT tr R) (aE _) ?_;intro k p;have c:k<=1000000:=oT;have g:yH (q.take k)<=1000000:=by have:=UR (q.take k);rw[aM]at this;omega
 refine zW (vB (decide (k<q.length))) (ak (bl _ _))<|zB R (λa=>?_) (λa=>?_)
 .skip
  obtain⟨x,b⟩:∃x,q[k]?=some x:=⟨_,aA (ax a)⟩;have o:=m x (aB b);refine zX (bv x) (.k 4 0 (bv x)) R (iH b)<|de (x.kind != 4) (λd=>?_) (λd=>?_)
  .skip
   have h:(yH (q.take k))+1<=1000001:=aD g (aC 1);refine zW (vN ((yH (q.take k))+1)) (ap (bH h R)) ?_;have i:k+1<=1000001:=aD c (aC 1);refine zW (vN (k+1)) (ap (bH i R)) ?_;refine⟨k+1,λs=>s,au _ ⟨⟨R,R⟩,⟨R,R⟩,⟨(am (λz:Nat=>AV.v (.int .i64 (z:Int))) (by rw[Hb b];have q:=d;simp at q;simp[q])),R⟩,⟨R,R⟩,tr⟩ tr R,ax a,oH (ax a)⟩
  skip
  have j:k+1<=1000001:=aD c (aC 1);refine zW (vN (k+1)) (ap (bH j R)) ?_;refine⟨k+1,λs=>s,au _ ⟨⟨R,R⟩,⟨R,R⟩,⟨(am (λz:Nat=>AV.v (.int .i64 (z:Int))) (by rw[Hb b];have q:=d;simp at q;simp[q])),R⟩,⟨R,R⟩,tr⟩ tr R,ax a,oH (ax a)⟩
 have n:=aF a;exact fT R (nT (by rw[aN (oT:q.length<=k)]))
def Je{α:Type}{f:α->Bool}{l:List α}{k:Nat}{x:α}(h:l[k]?=some x)(b:f x=false)(a:(l.take k).any f=false):(l.take (k+1)).any f=false:=by
 rw[bW,h];simp[List.any_append,b]at a⊢;exact a
def Jf{α:Type}{f:α->Bool}{l:List α}{k:Nat}{x:α}(h:l[k]?=some x)(a:f x=true):l.any f=true:=Mv.2 ⟨x,aB h,a⟩
def Mj{α:Type}{f:α->Bool}{l:List α}{k:Nat}(h:l.length<=k)(a:(l.take k).any f=false):l.any f=false:=by rwa [aN h]at a
def RQ(q:List bp)(agY:Nat)(kinds:List Int)(g a:Bool)(C:q.length<=1000000)(y:∀x∈q,x.S<=4294967295)(t:agY<=4294967295)(w:kinds.length<=1000000):bI C0 144 [.Y 4 (q.map bv) g,vU agY,.Y 1 (kinds.map bm) a] (.v (.bool (Mi q agY kinds))):=by
 refine bc func144 R<|zW _ (cD bv q)<|dk (κ:=Nat) (λk=>⟨a6 [(1,vU agY),(2,.Y 1 (kinds.map bm) a),(11,.Y 4 (q.map bv) g),(12,vN q.length),(13,vN k)],aq [],4⟩) (λk=>k<=q.length/\(q.take k).any (λx:bp=>kinds.any λk=>decide (x.S=agY)&&decide (x.kind=k))=false) (λk=>q.length-k) 0 (λs=>s) (au (λs=>s) wT tr R) (⟨aE _,R⟩) ?_;intro k n;have r:k<=1000000:=oH n.1;refine b0 (ak (bl _ _)) (λb=>?_) (λb=>?_)
 .skip
  obtain⟨x,o⟩:∃x,q[k]?=some x:=⟨_,aA (ax b)⟩;refine zX (bv x) (.k 4 0 (bv x)) R (iH o)<|zW _ (cD bm kinds)<|dk (κ:=Nat) (λj=>⟨a6 [(1,vU agY),(2,.Y 1 (kinds.map bm) a),(8,.ptr 7 0),(11,.Y 4 (q.map bv) g),(12,vN q.length),(13,vN k),(17,.Y 1 (kinds.map bm) a),(18,vN kinds.length),(19,vN j)],aq [(7,.box [vI x.kind,vU x.S,vI x.left,.v (.string x.data)])],12⟩) (λj=>j<=kinds.length/\(kinds.take j).any (λk:Int=>decide (x.S=agY)&&decide (x.kind=k))=false) (λj=>kinds.length-j) 0 (λs=>s) (au (λs=>s) wT wH R) (⟨aE _,R⟩) ?_;intro j m;have p:j<=1000000:=oH m.1;refine b0 (ak (bl _ _)) (λc=>?_) (λc=>?_)
  .skip
   obtain⟨e,d⟩:∃e,kinds[j]?=some e:=⟨_,aA (ax c)⟩;refine zX (bm e) (.k 1 0 (bm e)) R (iH d)<|zW _ (ak (ba _ _))<|zG R id<|aw R b9 R<|zN R (λh=>h)<|zB R (λi=>?_) (λi=>?_)
   .exact fT R (am (λz=>AV.v (.bool z)) (Jf o (Jf d (by have z:=i;simpa [c2]using z))).symm)
   skip
   have u:j+1<=1000001:=aD p (aC 1);refine zW _ (ap (bH u R)) ?_;refine⟨j+1,λs=>s,au _ wT wH R,⟨ax c,Je d (by have z:=i;simpa [c2]using z) m.2⟩,oH (ax c)⟩
  have v:k+1<=1000001:=aD r (aC 1);refine zW _ (ap (bH v R)) ?_;refine⟨k+1,λs=>s,au _ wT tr R,⟨ax b,Je o (Mj (oH (aF c)) m.2) n.2⟩,oH (ax b)⟩
 exact fT R (am (λz=>AV.v (.bool z)) (Mj (oH (aF b)) n.2).symm)
structure Co.E(c:Co)(n:Nat):Prop where
 ok:c.ok n
 nb:n<=890000
 cf:wA c.Q=true
 data:gG c.data=true
 u:gG c.u=true
 K:sM c.K=true
 Z:c.Z.length<=1000
 Z5:c.L.length<=1000
 Z':c.V.length<=1000
 prog:c.prog.length<=1000
 mem:c.mem.size<=256
 ZO:∀x∈c.V,x.data.size<=4
theorem Co.E.U{c:Co}{n:Nat}(h:c.E n):c.U.length<=890000:=aL h.ok.U h.nb
theorem Co.E.ret{c:Co}{n:Nat}(h:c.E n):c.N.length<=890000:=aL h.ok.ret h.nb
def pD{c:Cf}(h:wA c=true):c.q.length<=64/\c.tape.length<=64/\1<=c.o/\c.o<=2/\c.Z<=8/\2<=c.Z/\c.queue<=4/\1<=c.queue/\c.V<=4/\1<=c.V/\c.m<=6/\2<=c.m/\0<=c.mode/\c.mode<=2:=by
 unfold wA jf at h;simp only[aP,aY]at h;omega
theorem Co.E.Q{c:Co}{n:Nat}(h:c.E n):c.Q.ok:=⟨oH ((pD h.cf).1),oH ((pD h.cf).2.1),h.ok.Q.tp⟩
theorem Co.E.d4{c:Co}{n:Nat}(h:c.E n):c.data.O.length<=4:=(kJ h.data).2.1
theorem Co.E.d2{c:Co}{n:Nat}(h:c.E n):∀s∈c.data.O,s.length<=2:=λs a=>by have:=kJ h.data;have:=this.2.2.2.2 s a;omega
def MU(agF:List Pt)(c:Ca)(q:List bp)(m:ByteArray):(jz agF c q m).size=m.size:=by unfold jz Ct jZ;rw[iY,iY,iY]
def Ua(c:Co)(n:Nat)(a:c.E n)(R F S T:AV)(first:Bool):bI C0 145 [.k 64 0 (az c R F S T),vB first] (vB (tA c first)):=by
 refine bc func145 rfl<|zC (XR c.U false (oH a.U) (λx d=>(a.ok.Z_ x d).S))<|zB rfl (λb=>?_) (λb=>?_)
 .refine zV (vB (decide (((yH c.U:Nat):Int)<c.Q.m))) ?_;exact fT rfl (dR (by unfold tA;rw[aa b]))
 refine rW _ rfl (ap (dd (oH (pD a.cf)) (oH (pD a.cf))))<|zV (vB (decide (((yH c.U:Nat):Int)<(c.Q.m-1)))) ?_;exact fT rfl (dR (by unfold tA;rw[dZ (by rw[b];decide)]))
def QI{m a n:Nat}(h:kZ (m:Int) a (n:Int)=true):a+n<=m:=by
 unfold kZ at h;simp only[aP,aY]at h;omega
def yu(m:ByteArray)(a n:Nat)(i:m.size<=1000)(d:a<=4294967295)(g:n<=4):bI C0 166 [.v (.string m),vU a,vN n] (.F [.v (.string (if kZ (m.size:Int) a (n:Int)=true then Cv m a n else oZ)),vI (if kZ (m.size:Int) a (n:Int)=true then 0 else 1)]):=by
 refine bc func166 R<|zV (vN m.size)<|zC (GY (m.size:Int) a (n:Int) ad (CI d))<|zB R (λc=>?_) (λc=>?_)
 .have b: ¬kZ (m.size:Int) a (n:Int)=true:=sU c;exact fT R (by rw[dZ b,dZ b];rfl)
 have h:=QI (sU c:kZ (m.size:Int) a (n:Int)=true);refine zW _ (ap (bH d R)) ?_;have e:a+n<=4294967299:=aD d g;refine rW _ R (ap (bH e R))<|zM (.v (.string (m.extract a (a+n)))) R (by refine⟨?_,?_,?_⟩<;>(first|exact aG _|decide|(apply FG.2;exact ad))) ?_;have b:kZ (m.size:Int) a (n:Int)=true:=sU c;exact fT R (by rw[aa b,aa b];rfl)
def MV(c:Co)(n:Nat)(a:c.E n)(R F T:AV)(b:Bool)(e:ai)(d:e.ok):bI C0 123 [.k 64 0 (az c R F (.Y 2 (c.V.map ay) b) T),.agg (ab e)] (.v (.string (oL c e))):=by
 refine bc func123 rfl<|zR<|zC (AI c.V c.data c.U c.mem false b a.ok.data a.d4 a.d2 (oH a.mem) (oH a.U) a.ok.Z_ (oH a.Z') a.ok.Z0)<|zC (Gd e.i)<|zC (yu (jz c.V c.data c.U c.mem) e.W (bh e.i.op) (by rw[MU];have:=a.mem;omega) d.W (lQ e.i.op)) ?_;exact fT rfl rfl
def Xb(c:Co)(n:Nat)(m:c.E n)(F S T:AV)(o:Bool)(agY:Nat)(a:agY<=4294967295):bI C0 212 [.k 64 0 (az c (.Y 17 (c.Z.map ab) o) F S T),vU agY] (vB (Kt c agY)):=by
 refine eb func212 R<|zC (As c.data agY m.ok.data a)<|zB R (λd=>?_) (λd=>?_)
 .exact fT R (dR (by unfold Kt;rw[d];rfl))
 refine zW _ (cD ab c.Z)<|dk (κ:=Nat) (λk=>⟨a6 [(1,vU agY),(21,vB ((bK c.data agY).2.isSome)),(26,.Y 17 (c.Z.map ab) o),(27,vN c.Z.length),(28,vN k)],aq [],23⟩) (λk=>k<=c.Z.length/\(c.Z.take k).any (λe:ai=>e.Z8&&decide (ao e.W=agY))=false) (λk=>c.Z.length-k) 0 (λs=>s) (au (λs=>s) wT tr R) (⟨aE _,R⟩) ?_;intro k j;have v:k<=c.Z.length:=j.1;have q:k<=1000:=oH m.Z;refine b0 (ak (bl _ _)) (λg=>?_) (λg=>?_)
 .have p:=ax g;obtain⟨x,b⟩:∃u,c.Z[k]?=some u:=⟨_,aA ad⟩;have r:=m.ok.Z6 x (aB b);refine zX (ab x) (.k 17 0 (ab x)) R (iH b)<|gS R id<|zQ (x:=vU (ao x.W)) (g:=x.Z8) R (λh=>h) R (.inl R) (λw=>tN x.W r.W)<|aw R b9 (ak (ba _ _))<|zN R (λh=>h)<|zB R (λi=>?_) (λi=>?_)
  .have z:=i;exact fT R (dR (by unfold Kt;rw[Jf (f:=(λe:ai=>e.Z8&&decide (ao e.W=agY))) b (by simpa [qA]using z)];simp))
  skip
  have t:k+1<=1001:=aD q (aC 1);refine zW _ (ap (bH t R)) ?_;refine⟨k+1,λs=>s,au _ wT tr R,⟨oT,Je (f:=(λe:ai=>e.Z8&&decide (ao e.W=agY))) b (by have z:=i;simpa [qA]using z) j.2⟩,by show c.Z.length-(k+1)<c.Z.length-k;omega⟩
 have p:=aF g;exact fT R (dR (by unfold Kt;rw[d,Mj (f:=(λe:ai=>e.Z8&&decide (ao e.W=agY))) ad j.2];rfl))
def yv(c:Co)(n:Nat)(a:c.E n)(F S T:AV)(g:Bool)(i:Nat)(t:i<c.Z.length):bI C0 138 [.k 64 0 (az c (.Y 17 (c.Z.map ab) g) F S T),vN i] (vB (dg c i)):=by
 refine eb func138 R ?_;obtain⟨x,d⟩:∃r,c.Z[i]?=some r:=⟨_,aA ad⟩;have s:=a.ok.Z6 x (aB d);refine zX (ab x) (.k 17 0 (ab x)) R (iH d)<|de (x.is != 0) (λk=>?_) (λk=>?_)
 .have j:=wM k;exact fT R (dR (by unfold dg;rw[d];dsimp only;rw[aa j]))
 have j:=wN k;refine zR<|zC (C6 c.Q.mode c.Z g i a.Z a.ok.Z6 (oH a.Z))<|zC (Fs x.i)<|zR<|zC (Kl c.Z c.r g i (x.i.y) a.Z a.ok.Z6 a.ok.r (oH a.Z))<|zC (pS x.i)<|b0 (ak (ba _ _)) (λm=>?_) (λm=>?_)
 .have b:=mT m;refine zG R id<|pB (x:=vB (cE ((lK c.Z c.r i x.i.y).isSome) (Pr c.Q.mode c.Z i) false)) (g:= !x.known) R R R R (λh=>h) R R (λq p=>by first|(rw[q,p];rfl)|simp_all)<|zN rfl (by simp) ?_;exact fT rfl (dR (by unfold dg;rw[d];dsimp only;rw[dZ ad,aa b];simp only[qA,ae,lG]))
 have b:=nA m;refine b0 (ak (ba _ _)) (λo=>?_) (λo=>?_)
 .have e:=mT o;refine zN R (λh=>h)<|zN R (λh=>h) ?_;exact fT R (dR (by unfold dg;rw[d];dsimp only;rw[dZ ad,dZ b,aa e];simp only[qA,ae,lG]))
 have e:=nA o;refine zR<|zC (VK c.Z c.r g i a.Z a.ok.Z6 a.ok.r (oH a.Z))<|zN R (λh=>h) ?_;exact fT R (dR (by unfold dg;rw[d];dsimp only;rw[dZ ad,dZ b,dZ e];simp only[qA,ae,lG]))
theorem pM.ZA{P:Program}{G:Nat->Option (List AV)}{f:FuncId}{args:List AV}{i d:a'}{L:List (Nat×a')}{s:Nat}{r:AV}(H:pM P G f args (aq ((0,i)::L)) s (λx h'=>x=r/\h'=aq ((0,d)::L)))(ρ:Nat->Nat)(K:AH)(s2:Nat)(c:hD (aq ((0,i)::L)) s=true)(j:jm ρ K s s2 ((0,i)::L))(u:UQ ρ s=true)(q:mS s args=true)(v:eP r=true)(t:qM s d=true):
  pM P G f (Bg ρ args) K s2 (λx h'=>x=r/\h'=an K (ρ 0) (some (DI ρ d))):=by
 have w:0<s:=aJ j.1.2.1;refine H.ZH ρ K s2 c j u q _ λz h' p=>?_;obtain⟨rfl,rfl⟩:=p;refine⟨_,⟨od _ _ v,R⟩,λy blk a=>?_⟩;by_cases k:y=ρ 0
 .subst k;rw[dB]at a;injection a with a;exact .inl ⟨0,d,R,(rL ρ ad).symm,by rw[<-a,yL ρ s s2 d t]⟩
 rw[cI _ _ k]at a;by_cases n:∃x,x<s/\ρ x=y
 .obtain⟨x,h,rfl⟩:=n;have o:x≠0:=λe=>k (by rw[e]);obtain⟨b,g⟩:=DQ.1 (uH c x h);have m:=j.get x b g;rw[m.2.2.2]at a;injection a with a;refine .inl ⟨x,b,?_,(rL ρ ad).symm,?_⟩
  .have:Nat.beq 0 x=false:=by rw[<-eJ];exact λe=>o (aO e).symm
   simp only[aq,this]at g⊢;exact g
  rw[<-a];exact(yL ρ s s2 b m.2.2.1).symm
 exact .inr ⟨a,λx h e=>n ⟨x,h,e⟩⟩
theorem pM.fB{P:Program}{G:Nat->Option (List AV)}{f:FuncId}{args:List AV}{b c:a'}{L:List (Nat×a')}{s:Nat}{r:AV}(H:pM P G f args (aq ((0,b)::L)) s (λx h'=>x=r∧h'=aq ((0,c)::L)))(ρ:Nat->Nat){K:AH}{s2:Nat}(a:hD (aq ((0,b)::L)) s=true:=by rfl)(d:jm ρ K s s2 ((0,b)::L):=by repeat (first|exact trivial|refine⟨⟨rfl,rfl,rfl,rfl⟩,?_⟩))(z:UQ ρ s=true:=by rfl)(e:mS s args=true:=by rfl)(h:eP r=true:=by rfl)(g:qM s c=true:=by rfl):
  pM P G f (Bg ρ args) K s2 (λx h'=>x=r∧h'=an K (ρ 0) (some (DI ρ c))):=H.ZA ρ K s2 a d z e h g
def zA{c:Co}{agY:Nat}(h:(iQ c.data c.U c.mem agY (lX c.Q c.asked)).2.2=true):oK c agY={c with data:=(iQ c.data c.U c.mem agY (lX c.Q c.asked)).1,U:=(iQ c.data c.U c.mem agY (lX c.Q c.asked)).2.1,asked:=wrap64 (c.asked+1)}:=by unfold oK;generalize iQ c.data c.U c.mem agY (lX c.Q c.asked)=t at h⊢;obtain⟨d,q,a⟩:=t;dsimp only at h;subst h;rfl
def AN{c:Co}{agY:Nat}(h:(iQ c.data c.U c.mem agY (lX c.Q c.asked)).2.2=false):oK c agY={c with data:=(iQ c.data c.U c.mem agY (lX c.Q c.asked)).1,U:=(iQ c.data c.U c.mem agY (lX c.Q c.asked)).2.1}:=by unfold oK;generalize iQ c.data c.U c.mem agY (lX c.Q c.asked)=t at h⊢;obtain⟨d,q,a⟩:=t;dsimp only at h;subst h;rfl
def mq(c:Co)(n:Nat)(e:c.E n)(b:Int)(agY:Nat)(a:ByteArray)(d:agY<=4294967295)(h:Bool)(m:List (List AV))(g:Bool)(k:List (List AV))(i:Bool)(o:List (List AV))(j:Bool)(p:List (List AV)):pM C0.P C0.G 146 [.ptr 0 0,vI b,vU agY,.v (.string a)] (aq [(0,.box (az c (.Y 17 m h) (.Y 2 k g) (.Y 2 o i) (.Y 9 p j)))]) 1 (λx h'=>x=.F []/\h'=aq [(0,.box (az (jE c b agY a) (.Y 17 m h) (.Y 2 k g) (.Y 2 o i) (.Y 9 p j)))]):=by
 refine hZ 1 func146 R ?_;refine a7<|oR 18 R<|aW R (Fa c.Q c.asked e.Q e.ok.asked)<|oR 1 R<|aW R (Ng c.U b agY (lX c.Q c.asked) a false (oH e.U) e.ok.Z_ d)<|oR 3 R<|a1 R<|rE 26<|qX 0 R<|rW _ R (ap (af _))<|d_ 0 R<|a1 R ?_;exact cg 0 R<|du
def zo(c:Co)(n:Nat)(e:c.E n)(b:Int)(agY:Nat)(a:ByteArray)(d:agY<=4294967295)(k m:Nat)(h:Bool)(o:List (List AV))(g:Bool)(p:List (List AV))(i:Bool)(q:List (List AV))(j:Bool)(r:List (List AV)):pM C0.P C0.G 146 [.ptr 0 0,vI b,vU agY,.v (.string a)] (aq [(0,.box (az c (.X 1 k m h) (.Y 2 p g) (.Y 2 q i) (.Y 9 r j))),(1,.arr o 17)]) 2 (λx h'=>x=.F []/\h'=aq [(0,.box (az (jE c b agY a) (.X 1 k m h) (.Y 2 p g) (.Y 2 q i) (.Y 9 r j))),(1,.arr o 17)]):=by
 refine hZ 2 func146 R ?_;refine a7<|oR 18 R<|aW R (Fa c.Q c.asked e.Q e.ok.asked)<|oR 1 R<|aW R (Ng c.U b agY (lX c.Q c.asked) a false (oH e.U) e.ok.Z_ d)<|oR 3 R<|a1 R<|rE 27<|qX 0 R<|rW _ R (ap (af _))<|d_ 0 R<|a1 R ?_;exact cg 0 R<|du
def z_(c:Co)(n:Nat)(e:c.E n)(b:Int)(agY:Nat)(a:ByteArray)(d:agY<=4294967295)(h:Bool)(o:List (List AV))(k m:Nat)(g:Bool)(rF:List (List AV))(i:Bool)(p:List (List AV))(j:Bool)(q:List (List AV)):pM C0.P C0.G 146 [.ptr 0 0,vI b,vU agY,.v (.string a)] (aq [(0,.box (az c (.Y 17 o h) (.X 1 k m g) (.Y 2 p i) (.Y 9 q j))),(1,.arr rF 2)]) 2 (λx h'=>x=.F []/\h'=aq [(0,.box (az (jE c b agY a) (.Y 17 o h) (.X 1 k m g) (.Y 2 p i) (.Y 9 q j))),(1,.arr rF 2)]):=by
 refine hZ 2 func146 R ?_;refine a7<|oR 18 R<|aW R (Fa c.Q c.asked e.Q e.ok.asked)<|oR 1 R<|aW R (Ng c.U b agY (lX c.Q c.asked) a false (oH e.U) e.ok.Z_ d)<|oR 3 R<|a1 R<|rE 27<|qX 0 R<|rW _ R (ap (af _))<|d_ 0 R<|a1 R ?_;exact cg 0 R<|du
def C5(c:Co)(n:Nat)(a:c.E n)(agY:Nat)(b:agY<=4294967295)(g:Bool)(k:List (List AV))(e:Bool)(j:List (List AV))(h:Bool)(m:List (List AV))(i:Bool)(o:List (List AV)):pM C0.P C0.G 125 [.ptr 0 0,vU agY] (aq [(0,.box (az c (.Y 17 k g) (.Y 2 j e) (.Y 2 m h) (.Y 9 o i)))]) 1 (λx h'=>x=.F []/\h'=aq [(0,.box (az (oK c agY) (.Y 17 k g) (.Y 2 j e) (.Y 2 m h) (.Y 9 o i)))]):=by
 refine hZ 1 func125 R<|a7<|oR 28 R<|aW R (Fa c.Q c.asked a.Q a.ok.asked)<|aW R (Nb c.data c.U c.mem agY (lX c.Q c.asked) a.ok.data (oH a.U) a.ok.Z_ (oH a.mem) b)<|oR 7 R<|a1 R<|oR 3 R<|a1 R<|oR 1 R<|rE 45<|jk 0 R<|aV R (λd=>?_) (λd=>?_)
 .refine qC 0 R<|rW _ R (ap (af _))<|d_ 0 R<|a1 R ?_;rw[zA d];exact cg 0 R<|du
 skip
 rw[AN d];exact jj 0 R<|du
def z'(c:Co)(n:Nat)(a:c.E n)(agY:Nat)(b:agY<=4294967295)(j k:Nat)(g:Bool)(m:List (List AV))(e:Bool)(o:List (List AV))(h:Bool)(p:List (List AV))(i:Bool)(q:List (List AV)):pM C0.P C0.G 125 [.ptr 0 0,vU agY] (aq [(0,.box (az c (.X 1 j k g) (.Y 2 o e) (.Y 2 p h) (.Y 9 q i))),(1,.arr m 17)]) 2 (λx h'=>x=.F []/\h'=aq [(0,.box (az (oK c agY) (.X 1 j k g) (.Y 2 o e) (.Y 2 p h) (.Y 9 q i))),(1,.arr m 17)]):=by
 refine hZ 2 func125 R<|a7<|oR 28 R<|aW R (Fa c.Q c.asked a.Q a.ok.asked)<|aW R (Nb c.data c.U c.mem agY (lX c.Q c.asked) a.ok.data (oH a.U) a.ok.Z_ (oH a.mem) b)<|oR 7 R<|a1 R<|oR 3 R<|a1 R<|oR 1 R<|rE 46<|jk 0 R<|aV R (λd=>?_) (λd=>?_)
 .refine qC 0 R<|rW _ R (ap (af _))<|d_ 0 R<|a1 R ?_;rw[zA d];exact cg 0 R<|du
 skip
 rw[AN d];exact jj 0 R<|du
def yw(c:Co)(n:Nat)(a:c.E n)(agY:Nat)(b:agY<=4294967295)(j m:Nat)(g:Bool)(p:List (List AV))(e:Bool)(r:List (List AV))(h:Bool)(s:List (List AV))(k o:Nat)(i:Bool)(q:List (List AV)):pM C0.P C0.G 125 [.ptr 0 0,vU agY] (aq [(0,.box (az c (.X 1 j m g) (.Y 2 r e) (.Y 2 s h) (.X 2 k o i))),(1,.arr p 17),(2,.arr q 9)]) 3 (λx h'=>x=.F []/\h'=aq [(0,.box (az (oK c agY) (.X 1 j m g) (.Y 2 r e) (.Y 2 s h) (.X 2 k o i))),(1,.arr p 17),(2,.arr q 9)]):=by
 refine hZ 3 func125 R<|a7<|oR 28 R<|aW R (Fa c.Q c.asked a.Q a.ok.asked)<|aW R (Nb c.data c.U c.mem agY (lX c.Q c.asked) a.ok.data (oH a.U) a.ok.Z_ (oH a.mem) b)<|oR 7 R<|a1 R<|oR 3 R<|a1 R<|oR 1 R<|rE 47<|jk 0 R<|aV R (λd=>?_) (λd=>?_)
 .refine qC 0 R<|rW _ R (ap (af _))<|d_ 0 R<|a1 R ?_;rw[zA d];exact cg 0 R<|du
 skip
 rw[AN d];exact jj 0 R<|du
def Xc(c:Co)(n:Nat)(a:c.E n)(agY:Nat)(b:agY<=4294967295)(j o:Nat)(g:Bool)(r:List (List AV))(e:Bool)(t:List (List AV))(k p:Nat)(h:Bool)(rS:List (List AV))(m q:Nat)(i:Bool)(s:List (List AV)):pM C0.P C0.G 125 [.ptr 0 0,vU agY] (aq [(0,.box (az c (.X 1 j o g) (.Y 2 t e) (.X 2 k p h) (.X 3 m q i))),(1,.arr r 17),(2,.arr rS 2),(3,.arr s 9)]) 4 (λx h'=>x=.F []/\h'=aq [(0,.box (az (oK c agY) (.X 1 j o g) (.Y 2 t e) (.X 2 k p h) (.X 3 m q i))),(1,.arr r 17),(2,.arr rS 2),(3,.arr s 9)]):=by
 refine hZ 4 func125 R<|a7<|oR 28 R<|aW R (Fa c.Q c.asked a.Q a.ok.asked)<|aW R (Nb c.data c.U c.mem agY (lX c.Q c.asked) a.ok.data (oH a.U) a.ok.Z_ (oH a.mem) b)<|oR 7 R<|a1 R<|oR 3 R<|a1 R<|oR 1 R<|rE 48<|jk 0 R<|aV R (λd=>?_) (λd=>?_)
 .refine qC 0 R<|rW _ R (ap (af _))<|d_ 0 R<|a1 R ?_;rw[zA d];exact cg 0 R<|du
 skip
 rw[AN d];exact jj 0 R<|du
def t_(e:ai)(d:e.ok):bI C0 127 [.agg (ab e)] (.agg (ab (bn e))):=by
 refine bc func127 R<|de (e.is != 1) (λa=>?_) (λa=>?_)
 .replace a:=sP a;refine dK R dc R (oW (e:=(⟨e.no,e.M,⟨e.i.op,e.i.rd,e.i.y,e.i.A,e.i.C⟩,e.K,e.is,e.left,e.value,e.next,e.W,e.halt,e.d,e.known,e.Z8⟩:ai)) ?_);simp[af,bn,a]<;>(intros;simp_all)
 refine zV (vI (IntKind.wrap .i64 (e.left-1)))<|de (decide ((IntKind.wrap .i64 (e.left-1))<=0)) (λb=>?_) (λb=>?_)
 .refine aW R (pS e.i)<|zW _ (ak (ba _ _))<|gS R id<|aw R id R<|zN R (λh=>h)<|zB R (λc=>?_) (λc=>?_)
  all_goals
   replace a:=sP a;replace b:=sP b;replace c:=sP c
   first|refine dK rfl dc rfl (oW (e:=(⟨e.no,e.M,⟨e.i.op,e.i.rd,e.i.y,e.i.A,e.i.C⟩,e.K,3,0,e.value,e.next,e.W,e.halt,e.d,true,e.Z8⟩:ai)) ?_)|refine dK rfl dc rfl (oW (e:=(⟨e.no,e.M,⟨e.i.op,e.i.rd,e.i.y,e.i.A,e.i.C⟩,e.K,3,0,e.value,e.next,e.W,e.halt,e.d,e.known,e.Z8⟩:ai)) ?_)
   simp[af,bn,a,b,c]<;>(intros;simp_all)
 replace a:=sP a;replace b:=sP b;refine dK R dc R (oW (e:=(⟨e.no,e.M,⟨e.i.op,e.i.rd,e.i.y,e.i.A,e.i.C⟩,e.K,e.is,IntKind.wrap .i64 (e.left-1),e.value,e.next,e.W,e.halt,e.d,e.known,e.Z8⟩:ai)) ?_);simp[af,bn,a,b]<;>(intros;simp_all)
def XS(e:ai)(a b:Nat)(k:e.ok)(m:a<=4294967295)(n:b<=4294967295):bI C0 184 [.agg (ab e),vU a,vU b] (.agg (ab (rJ e a b))):=by
 refine bc func184 R<|zC (pS e.i)<|zV (vB (e.is != 0))<|aw R id (ak (ba _ _))<|zN R (by simp)<|aw R id (ak (ba _ _))<|zN R (by simp)<|zB R (λc=>?_) (λc=>?_)
 .replace c:=sP c;refine dK R dc R (oW (e:=(⟨e.no,e.M,⟨e.i.op,e.i.rd,e.i.y,e.i.A,e.i.C⟩,e.K,e.is,e.left,e.value,e.next,e.W,e.halt,e.d,e.known,e.Z8⟩:ai)) ?_);simp[af,rJ,uE,b_,c]<;>(intros;simp_all)
 refine aW R (Da e.i)<|de ((wr e.i) != 0) (λd=>?_) (λd=>?_)
 all_goals
  first|refine zC (Nu e.i e.M a b (CI k.C) (CI k.M) (CI m) (CI n)) ?_|skip
  refine zV (vU ((e.M+4)%4294967296))<|b0 (ak (ba _ _)) (λg=>?_) (λg=>?_)
  .replace c:=sP c;replace d:=sP d;replace g:=sP g
   first|refine dK rfl dc rfl (oW (e:=(⟨e.no,e.M,⟨e.i.op,e.i.rd,e.i.y,e.i.A,e.i.C⟩,e.K,1,3,BF e.i.op e.i.C e.M a b,(e.M+4)%4294967296,e.W,e.halt,e.d,e.known,e.Z8⟩:ai)) ?_)|refine dK rfl dc rfl (oW (e:=(⟨e.no,e.M,⟨e.i.op,e.i.rd,e.i.y,e.i.A,e.i.C⟩,e.K,1,3,0,(e.M+4)%4294967296,e.W,e.halt,e.d,e.known,e.Z8⟩:ai)) ?_)
   simp[af,rJ,uE,b_,c,d,g]<;>(intros;simp_all)
  refine b0 (ak (ba _ _)) (λh=>?_) (λh=>?_)
  .refine zC (Xz e.i.op a b (CI m) (CI n)) ?_;replace c:=sP c;replace d:=sP d;replace g:=sP g;replace h:=sP h
   first|refine dK rfl dc rfl (oW (e:=(⟨e.no,e.M,⟨e.i.op,e.i.rd,e.i.y,e.i.A,e.i.C⟩,e.K,1,(e8 e.i.op a b:Int),BF e.i.op e.i.C e.M a b,(e.M+4)%4294967296,e.W,e.halt,(e8 e.i.op a b:Int),e.known,e.Z8⟩:ai)) ?_)|refine dK rfl dc rfl (oW (e:=(⟨e.no,e.M,⟨e.i.op,e.i.rd,e.i.y,e.i.A,e.i.C⟩,e.K,1,(e8 e.i.op a b:Int),0,(e.M+4)%4294967296,e.W,e.halt,(e8 e.i.op a b:Int),e.known,e.Z8⟩:ai)) ?_)
   simp[af,rJ,uE,b_,c,d,g,h]<;>(intros;simp_all)
  refine b0 (ak (ba _ _)) (λi=>?_) (λi=>?_)
  .refine zC (LW e.i e.M a b (CI k.C) (CI k.M) (CI m) (CI n))<|zB R (λj=>?_) (λj=>?_)
   all_goals
    replace c:=sP c;replace d:=sP d;replace g:=sP g;replace h:=sP h;replace i:=sP i;replace j:=sP j
    first|refine dK rfl dc rfl (oW (e:=(⟨e.no,e.M,⟨e.i.op,e.i.rd,e.i.y,e.i.A,e.i.C⟩,e.K,1,1,BF e.i.op e.i.C e.M a b,qP e.i.op e.i.C e.M a b,e.W,e.halt,e.d,e.known,e.Z8⟩:ai)) ?_)|refine dK rfl dc rfl (oW (e:=(⟨e.no,e.M,⟨e.i.op,e.i.rd,e.i.y,e.i.A,e.i.C⟩,e.K,1,1,0,qP e.i.op e.i.C e.M a b,e.W,e.halt,e.d,e.known,e.Z8⟩:ai)) ?_)|refine dK rfl dc rfl (oW (e:=(⟨e.no,e.M,⟨e.i.op,e.i.rd,e.i.y,e.i.A,e.i.C⟩,e.K,1,1,0,(e.M+4)%4294967296,e.W,3,e.d,e.known,e.Z8⟩:ai)) ?_)
    simp[af,rJ,uE,b_,c,d,g,h,i,j]<;>(intros;simp_all)
  replace c:=sP c;replace d:=sP d;replace g:=sP g;replace h:=sP h;replace i:=sP i
  first|refine dK rfl dc rfl (oW (e:=(⟨e.no,e.M,⟨e.i.op,e.i.rd,e.i.y,e.i.A,e.i.C⟩,e.K,1,1,BF e.i.op e.i.C e.M a b,(e.M+4)%4294967296,e.W,e.halt,e.d,e.known,e.Z8⟩:ai)) ?_)|refine dK rfl dc rfl (oW (e:=(⟨e.no,e.M,⟨e.i.op,e.i.rd,e.i.y,e.i.A,e.i.C⟩,e.K,1,1,0,(e.M+4)%4294967296,e.W,e.halt,e.d,e.known,e.Z8⟩:ai)) ?_)
  simp[af,rJ,uE,b_,c,d,g,h,i]<;>(intros;simp_all)
def VV(e:ai)(size:Int)(a:Nat)(j:e.ok)(g:size<9223372036854775808)(i:a<=4294967295):bI C0 182 [.agg (ab e),vI size,vU a] (.agg (ab (yC e size a))):=by
 refine bc func182 R<|zC (pS e.i)<|zW _ (ak (db _ _))<|aw R id (ak (db _ _))<|zN R (λh=>h)<|gS R id<|aw R id R<|zN R (by simp)<|gS R id<|zN R (by simp)<|zB R (λb=>?_) (λb=>?_)
 .replace b:=sP b;refine dK R dc R (oW (e:=(⟨e.no,e.M,⟨e.i.op,e.i.rd,e.i.y,e.i.A,e.i.C⟩,e.K,e.is,e.left,e.value,e.next,e.W,e.halt,e.d,e.known,e.Z8⟩:ai)) ?_);simp[af,yC,b]<;>(intros;simp_all)
 skip;refine zV (vU ((a+e.i.C)%4294967296))<|zR<|zC (Gd e.i)<|zC (GY size ((a+e.i.C)%4294967296) (bh e.i.op:Nat) g (aQ _ dT))<|zB R (λc=>?_) (λc=>?_)
 .replace b:=sP b;replace c:=sP c;refine dK R dc R (oW (e:=(⟨e.no,e.M,⟨e.i.op,e.i.rd,e.i.y,e.i.A,e.i.C⟩,e.K,e.is,e.left,e.value,e.next,(a+e.i.C)%4294967296,e.halt,e.d,true,e.Z8⟩:ai)) ?_);simp[af,yC,b,c]<;>(intros;simp_all)
 refine b0 (ak (ba _ _)) (λd=>?_) (λd=>?_)
 all_goals
  replace b:=sP b;replace c:=sP c;replace d:=sP d
  first|refine dK rfl dc rfl (oW (e:=(⟨e.no,e.M,⟨e.i.op,e.i.rd,e.i.y,e.i.A,e.i.C⟩,e.K,3,e.left,e.value,e.next,(a+e.i.C)%4294967296,5,e.d,e.known,e.Z8⟩:ai)) ?_)|refine dK rfl dc rfl (oW (e:=(⟨e.no,e.M,⟨e.i.op,e.i.rd,e.i.y,e.i.A,e.i.C⟩,e.K,3,e.left,e.value,e.next,(a+e.i.C)%4294967296,4,e.d,e.known,e.Z8⟩:ai)) ?_)
  simp[af,yC,b,c,d]<;>(intros;simp_all)
def RR(e:ai)(s:ByteArray)(i:e.ok)(g:s.size<9223372036854775808):bI C0 122 [.agg (ab e),.v (.string s)] (.agg (ab (uM e s))):=by
 refine bc func122 R<|aW R (pS e.i)<|zW _ (ak (db _ _))<|gS R id<|gS R id<|zN R (by simp)<|gS R id<|aw R id R<|zG R id<|gS R id<|aw R id R<|pB (x:=vB (cE (e.is != 0) (e.is != 2) false)) (g:= !(cE ((aj e.i.op) != 3) true (!e.known))) R R R R (λh=>h) R R (λd c=>by first|(rw[d,c];rfl)|simp_all)<|zN rfl (by simp)<|zB rfl (λa=>?_) (λa=>?_)
 .replace a:=sP a;refine dK R dc R (oW (e:=(⟨e.no,e.M,⟨e.i.op,e.i.rd,e.i.y,e.i.A,e.i.C⟩,e.K,e.is,e.left,e.value,e.next,e.W,e.halt,e.d,e.known,e.Z8⟩:ai)) ?_);simp[af,uM,a]<;>(intros;simp_all)
 skip
 refine aW R (Da e.i)<|de ((wr e.i) != 0) (λb=>?_) (λb=>?_)
 .refine zC (sf e.i.op s g) ?_;replace a:=sP a;replace b:=sP b;refine dK R dc R (oW (e:=(⟨e.no,e.M,⟨e.i.op,e.i.rd,e.i.y,e.i.A,e.i.C⟩,e.K,1,1,hG e.i.op s,e.next,e.W,e.halt,e.d,e.known,e.Z8⟩:ai)) ?_);simp[af,uM,a,b]<;>(intros;simp_all)
 replace a:=sP a;replace b:=sP b;refine dK R dc R (oW (e:=(⟨e.no,e.M,⟨e.i.op,e.i.rd,e.i.y,e.i.A,e.i.C⟩,e.K,1,1,0,e.next,e.W,e.halt,e.d,e.known,e.Z8⟩:ai)) ?_);simp[af,uM,a,b]<;>(intros;simp_all)
def XT(x n:Nat)(b:x<4294967296)(a:n<=4):bI C0 174 [.v (.int .u32 (x:Int)),.v (.int .i64 (n:Int))] (.v (.int .u32 ((la x n:Nat):Int))):=by
 refine bc func174 R<|zC (Nv x n b a)<|zC (se (oF x n) (by rw[mP];exact a)) ?_;exact fT R R
def RS(e:ai)(b:Nat)(d:e.ok)(c:b<=4294967295):bI C0 131 [.agg (ab e),vU b] (.agg (ab (uF e b))):=by
 refine bc func131 R<|aW R (pS e.i)<|zW _ (ak (db _ _))<|gS R id<|gS R id<|zN R (by simp)<|gS R id<|aw R id R<|zN R (by simp)<|zB R (λa=>?_) (λa=>?_)
 .replace a:=sP a;refine dK R dc R (oW (e:=(⟨e.no,e.M,⟨e.i.op,e.i.rd,e.i.y,e.i.A,e.i.C⟩,e.K,e.is,e.left,e.value,e.next,e.W,e.halt,e.d,e.known,e.Z8⟩:ai)) ?_);simp[af,uF,a]<;>(intros;simp_all)
 refine aW R (Gd e.i)<|zC (XT b (bh e.i.op) (CI c) (lQ e.i.op)) ?_;replace a:=sP a;refine dK R dc R (oW (e:=(⟨e.no,e.M,⟨e.i.op,e.i.rd,e.i.y,e.i.A,e.i.C⟩,e.K,3,e.left,la b (bh e.i.op),e.next,e.W,e.halt,e.d,e.known,e.Z8⟩:ai)) ?_);simp[af,uF,a]<;>(intros;simp_all)
def RT(e:ai)(j:e.ok):bI C0 134 [.agg (ab e)] (.agg (a2 (cA e))):=by
 refine bc func134 R<|de (e.halt != 0) (λa=>?_) (λa=>?_)
 .refine zV (.agg [vU e.M,vU e.M,vI 0,.v (.int .u32 0),.v (.int .u32 0),vI 0,vB false,vI e.halt,vI 0])<|zV (vB (e.halt==4))<|gS R id<|aw R id R<|zN R (by simp)<|zB R (λg=>?_) (λg=>?_)
  .replace a:=sP a;replace g:=sP g;refine dK R dc R (DL (e:=⟨e.M,e.M,0,0,e.W,0,false,e.halt,0⟩) ?_);simp[cA,b_,a,g]<;>(intros;simp_all)
  replace a:=sP a;replace g:=sP g;refine dK R dc R (DL (e:=⟨e.M,e.M,0,0,0,0,false,e.halt,0⟩) ?_);simp[cA,b_,a,g]<;>(intros;simp_all)
 refine zR ?_;refine zV (vU ((e.M+4)%4294967296))<|zC (Da e.i)<|zV (.agg [vU e.M,vU ((e.M+4)%4294967296),vI (wr e.i),.v (.int .u32 0),.v (.int .u32 0),vI 0,vB false,vI 0,vI 0])<|de ((wr e.i) != 0) (λb=>?_) (λb=>?_)
 all_goals
  refine zC (pS e.i)<|b0 (ak (ba _ _)) (λc=>?_) (λc=>?_)
  .skip;refine zC (Gd e.i) ?_;replace a:=sP a;replace b:=sP b;replace c:=sP c;refine dK R dc R (DL (e:=⟨e.M,(e.M+4)%4294967296,wr e.i,e.value,e.W,bh e.i.op,true,0,0⟩) ?_);simp[cA,b_,a,b,c]<;>(intros;simp_all)
  refine b0 (ak (ba _ _)) (λd=>?_) (λd=>?_)
  .refine zC (Gd e.i) ?_;replace a:=sP a;replace b:=sP b;replace c:=sP c;replace d:=sP d
   first|refine dK rfl dc rfl (DL (e:=⟨e.M,(e.M+4)%4294967296,wr e.i,e.value,e.W,bh e.i.op,false,0,0⟩) ?_)|refine dK rfl dc rfl (DL (e:=⟨e.M,(e.M+4)%4294967296,wr e.i,0,e.W,bh e.i.op,false,0,0⟩) ?_)
   simp[cA,b_,a,b,c,d]<;>(intros;simp_all)
  refine b0 (ak (ba _ _)) (λh=>?_) (λh=>?_)
  .replace a:=sP a;replace b:=sP b;replace c:=sP c;replace d:=sP d;replace h:=sP h
   first|refine dK rfl dc rfl (DL (e:=⟨e.M,(e.M+4)%4294967296,wr e.i,e.value,0,0,false,0,e.d⟩) ?_)|refine dK rfl dc rfl (DL (e:=⟨e.M,(e.M+4)%4294967296,wr e.i,0,0,0,false,0,e.d⟩) ?_)
   simp[cA,b_,a,b,c,d,h]<;>(intros;simp_all)
  refine b0 (ak (ba _ _)) (λi=>?_) (λi=>?_)
  all_goals
   replace a:=sP a;replace b:=sP b;replace c:=sP c;replace d:=sP d;replace h:=sP h;replace i:=sP i
   first|refine dK rfl dc rfl (DL (e:=⟨e.M,e.next,wr e.i,e.value,0,0,false,0,0⟩) ?_)|refine dK rfl dc rfl (DL (e:=⟨e.M,e.next,wr e.i,0,0,0,false,0,0⟩) ?_)|refine dK rfl dc rfl (DL (e:=⟨e.M,(e.M+4)%4294967296,wr e.i,e.value,0,0,false,0,0⟩) ?_)|refine dK rfl dc rfl (DL (e:=⟨e.M,(e.M+4)%4294967296,wr e.i,0,0,0,false,0,0⟩) ?_)
   simp[cA,b_,a,b,c,d,h,i]<;>(intros;simp_all)
def D5(n:Nat):(if(0:Int)>(n:Int)then(0:Int)else(n:Int))=(n:Int):=dZ ad
def sy{n:Nat}(h:n<=1000):IntKind.wrap .i64 ((n:Int)-1)=(n:Int)-1:=dd ad ad
def XU{k:Nat}(a:0<k)(h:k<=1000):IntKind.wrap .i64 (((k:Int)-1)-1)=((k-1:Nat):Int)-1:=by rw[dd ad ad];omega
def A3{a b:Nat}(h:b<=a)(c:a<=4294967295):IntKind.wrap .u32 ((a:Int)-(b:Int))=((a-b:Nat):Int):=by
 rw[(oT:((a:Int)-(b:Int))=((a-b:Nat):Int))];exact nJ (by omega:a-b<=4294967295) R
def US(a n:Nat)(b:a<=4294967295)(c:n<=1000):bI C0 245 [vU a,vN n] (.v (.int .u64 ((a+n:Nat):Int))):=by
 refine bc func245 R ?_;refine zW _ (ap (nJ b R))<|rW _ R (ap (D5 n))<|rW _ R (ap (nJ c R)) ?_;have d:a+n<=4294968295:=aD b c;refine zW _ (ap (nJ d R)) ?_;exact fT R R
def zc(a n b m:Nat)(d:a<=4294967295)(i:n<=1000)(e:b<=4294967295)(g:m<=1000):bI C0 229 [vU a,vN n,vU b,vN m] (vB (dh a n b m)):=by
 refine bc func229 R<|zW _ (ak (ju _ _))<|aw R id (ak (ju _ _))<|zN R (by simp)<|zB R (λc=>?_) (λc=>?_)
 .exact fT R (dR (by have z:=c;simp only[ae,qA,dh]at z⊢ <;>grind))
 refine zW _ (ap (nJ d R))<|aW R (US b m e g)<|zW _ (ak (bl _ _))<|gn (x:=.v (.int .u64 (b:Int))) R id (ap (nJ e R))<|jQ (x:=.v (.int .u64 ((a+n:Nat):Int))) (g:=decide (a<(b+m))) R R R R b9 R R R (.inl R) R (λj=>US a n d i)<|aw R b9 (ak (bl _ _))<|zN R (λh=>h) ?_;exact fT R (dR (by have z:=c;simp only[ae,qA,dh]at z⊢ <;>grind))
def XV(a n b m:Nat)(c:a<=4294967295)(i:n<=1000)(d:b<=4294967295)(g:m<=1000):bI C0 230 [vU a,vN n,vU b,vN m] (vB (Fh a n b m)):=by
 refine bc func230 R<|zW _ (ak (fq _ _))<|aw R b9 (ak (ju _ _))<|zN R (λh=>h)<|zQ (x:=.v (.int .u64 ((b+m:Nat):Int))) (g:=cE (decide (m>0)) (decide (a<=b)) false) R b9 R (.inl R) (λe=>US b m d g)<|jQ (x:=.v (.int .u64 ((a+n:Nat):Int))) (g:=cE (decide (m>0)) (decide (a<=b)) false) R R R R b9 R R R (.inl R) R (λe=>US a n c i)<|aw R b9 (ak (ju _ _))<|zN R (λh=>h) ?_;exact fT R (dR (by simp only[ae,qA,Fh]<;>grind))
def D6(s:Std):Value:=.agg #[.int .u32 (s.W:Int),.int .i64 (s.size:Int),.string s.data,.bool s.there]
def sT(s:Std):Array Value:= #[D6 s]
abbrev xt(s:Std):List AV:=[vU s.W,vN s.size,.v (.string s.data),vB s.there]
def NN(R:List ai)(k:Nat):List Std:=(((R.drop k).filter λe=>f' e 4).map Fg).reverse
def UT(R:List ai)(S:List Pt)(k:Nat):List Std:=NN R 0++((S.drop k).map CY).reverse
def NO(R:List ai)(S:List Pt):FW R S=NN R 0++(S.map CY).reverse:=rfl
def FA{α:Type}{l:List α}{k:Nat}{x:α}(b:0<k)(h:l[k-1]?=some x):l.drop (k-1)=x::l.drop k:=by
 obtain⟨a,rfl⟩:=Em.1 h;rw[bF a,(oT:k-1+1=k)]
def NP{R:List ai}{k:Nat}{x:ai}(a:0<k)(h:R[k-1]?=some x)(b:f' x 4=true):NN R (k-1)=NN R k++[Fg x]:=by
 unfold NN;rw[FA a h,List.filter_cons_of_pos (sU b)];simp
def XW{R:List ai}{k:Nat}{x:ai}(a:0<k)(h:R[k-1]?=some x)(b:f' x 4=false):NN R k=NN R (k-1):=by
 unfold NN;rw[FA a h,List.filter_cons_of_neg (sU b)]
def UU(R:List ai)(S:List Pt)(k:Nat):NN R k <+: FW R S:=by
 rw[NO];refine List.IsPrefix.trans ?_ (List.prefix_append _ _);refine⟨(((R.take k).filter λe=>f' e 4).map Fg).reverse,?_⟩;unfold NN;rw[<-List.reverse_append, <-dH, <-mL,j',bS]
def Ph(R:List ai):NN R R.length=[]:=by unfold NN;rw[List.drop_length];rfl
def KV{R:List ai}{S:List Pt}{k:Nat}{x:Pt}(a:0<k)(h:S[k-1]?=some x):UT R S (k-1)=UT R S k++[CY x]:=by
 unfold UT;rw[FA a h];simp
def UV(R:List ai)(S:List Pt)(k:Nat):UT R S k <+: FW R S:=by
 rw[NO];unfold UT;rw[List.prefix_append_right_inj];refine⟨((S.take k).map CY).reverse,?_⟩;rw[<-List.reverse_append, <-dH,j']
def Pi(R:List ai)(S:List Pt):UT R S S.length=NN R 0:=by unfold UT;rw[List.drop_length];simp
def UW(R:List ai)(S:List Pt):UT R S 0=FW R S:=rfl
def UX{R:List ai}{S:List Pt}(d:∀x∈R,x.ok)(a:∀x∈S,x.ok)(b:∀x∈S,x.data.size<=4){s:Std}(h:s∈FW R S):s.W<=4294967295∧s.size<=4∧s.data.size=s.size:=by
 unfold FW at h;rcases dz.1 h with h|h
 .obtain⟨e,c,rfl⟩:=pG.1 (List.mem_reverse.1 h);exact⟨(d e (List.mem_filter.1 c).1).W,lQ _,mP _ _⟩
 obtain⟨p,hp,rfl⟩:=pG.1 (List.mem_reverse.1 h);exact⟨(a p hp).W,b p hp,rfl⟩
theorem DE{at_ n:Nat}:∀{l:List Std},(∀s,s∈l->dh s.W s.size at_ n=false)->xK at_ n l=(2,oZ)
 |[],_=>rfl
 |s::l,h=>by
  simp only[xK];rw[aa (h s ce)];exact DE λy a=>h y (bY _ a)
theorem Dh{at_ n:Nat}{s:Std}:∀{pre l:List Std},pre++[s] <+: l->(∀y,y∈pre->dh y.W y.size at_ n=false)->dh s.W s.size at_ n=true->
  xK at_ n l=if Fh s.W s.size at_ n=false\/s.there=false then(0,oZ)else(1,s.data.extract (at_-s.W) (at_-s.W+n))
 |[],[],h,_,_=>by have:=h.length_le;simp at this
 |[],y::l,h,_,a=>by
  obtain⟨t,b⟩:=h;obtain⟨rfl, -⟩:=List.cons.inj b
  simp only[xK];rw[dZ (by simp[a])]
 |y::pre,[],h,_,_=>by have:=h.length_le;simp at this
 |y::pre,z::l,h,c,a=>by
  obtain⟨t,b⟩:=h;obtain⟨d,e⟩:=List.cons.inj b;subst d;simp only[xK];rw[aa (c y ce)];exact Dh ⟨t,e⟩ (λy g=>c y (bY _ g)) a
def RU(R:List ai)(S:List Pt)(c a:Bool)(M:R.length<=1000)(N:∀x∈R,x.ok)(G:S.length<=1000)(F:∀x∈S,x.ok):RN C0 244 [.k 1 0 ([.Y 17 (R.map ab) c]),.k 1 0 ([.Y 2 (S.map ay) a])] sT (FW R S):=by
 refine RN.intro gr func244 rfl rfl (by kernel_rfl) rfl ?_;intro y;refine rQ<|rQ<|nU rfl<|a7<|oR 1 rfl<|rW _ rfl (cD ab R)<|rW _ rfl (ap (sy M))<|oR 1 rfl<|rE 4<|AA<|NH (κ:=Nat) (λk=>⟨a6 [(0,.v y),(1,.k 1 0 ([.Y 17 (R.map ab) c])),(2,.k 1 0 ([.Y 2 (S.map ay) a])),(4,vI ((k:Int)-1))],aq [],4⟩) (λk=>NN R k) (λk=>k<=R.length) (λk=>k) R.length (λs=>s) (au (λs=>s) wT trivial rfl) rfl (Ph R) (aC _) ?_;intro k L;have i:k<=1000:=by have:k<=R.length:=L;omega
 refine rQ<|rQ<|nU rfl<|a7<|oR 1 rfl<|rV (vB (decide (((k:Int)-1)>=0))) rfl<|rE 6<|Cz (v:=decide (((k:Int)-1)>=0)) rfl (λn=>?_) (λn=>?_)
 .have v:=ax n;have b:0<k:=oT;refine nU rfl<|mF<|rQ<|AA<|rQ<|nU rfl<|a7<|oR 2 rfl ?_;obtain⟨x,h⟩:∃u,R[k-1]?=some u:=⟨_,aA ad⟩;have H:=N x (aB h);refine FO (ab x) (x:=.k 17 0 (ab x)) rfl rfl rfl (⟨oT,by rw[(oT:((k:Int)-1).toNat=k-1)];exact iH h⟩) rfl<|oR 1 rfl<|dm 10 rfl rfl<|a1 rfl<|rE 12<|rQ<|rQ<|nU rfl<|a7<|oR 2 rfl<|aW rfl (pS x.i)<|rW _ rfl (ak (db _ _))<|rE 16<|Cz (v:=(aj x.i.op) != 4) rfl (λo=>?_) (λo=>?_)
  .have d:=wM o;have E:f' x 4=false:=by unfold f';simpa using d
   refine nU rfl<|Bh<|nU rfl<|a7<|oR 1 rfl<|rW _ rfl (ap (XU b i))<|oR 1 rfl<|rE 19 ?_;refine⟨rfl,k-1,λs=>s,au _ wT trivial rfl,rfl,(XW b h E).symm,(by show k-1<=R.length;omega),(by show k-1<k;omega)⟩
  have d:=wN o;have m:f' x 4=true:=by unfold f';simpa using d
  refine nU rfl<|mF<|rQ<|nU rfl<|a7<|oR 2 rfl<|aW rfl (Gd x.i)<|oR 1 rfl<|rE 20<|rQ<|nU rfl<|a7<|oR 3 rfl<|aW rfl (Nv x.value (bh x.i.op) (CI H.value) (lQ x.i.op))<|oR 5 rfl<|rE 29<|rQ<|NI rfl 9 rfl rfl rfl<|oR 7 rfl<|rV (vB (x.is==3)) rfl<|rV (.agg [vU x.W,vN (bh x.i.op),.v (.string (oF x.value (bh x.i.op))),vB (x.is==3)]) rfl<|rE 38 ?_;refine⟨Fg x,_,⟨a6 [(0,.v y),(1,.k 1 0 ([.Y 17 (R.map ab) c])),(2,.k 1 0 ([.Y 2 (S.map ay) a])),(4,vI ((k:Int)-1)),(36,.v y),(44,.agg [vU x.W,vN (bh x.i.op),.v (.string (oF x.value (bh x.i.op))),vB (x.is==3)])],aq [],0⟩,λs=>s,au _ wT trivial rfl,rfl,rfl,rfl,rfl,rfl,rfl,(by rw[<-NP b h m];exact UU R S _),λI=>?_⟩;refine oR 1 rfl<|rE 40<|Cz (v:= !I) rfl (λq=>?_) (λq=>?_)
  .refine nU rfl<|FQ ?_;intro g;rw[q]at g;cases g
  refine nU rfl<|mF<|nU rfl<|a7<|oR 1 rfl<|rW _ rfl (ap (XU b i))<|oR 1 rfl<|rE 43 ?_;refine⟨q,k-1,λs=>s,au _ wT trivial rfl,rfl,(NP b h m),(by show k-1<=R.length;omega),(by show k-1<k;omega)⟩
 have v:=aF n;refine nU rfl<|Bh<|rQ<|nU rfl<|a7<|oR 1 rfl<|rW _ rfl (cD ay S)<|rW _ rfl (ap (sy G))<|oR 1 rfl<|rE 10<|AA ?_;obtain D:k=0:=oT;subst D;refine NH (κ:=Nat) (λj=>⟨a6 [(0,.v y),(1,.k 1 0 ([.Y 17 (R.map ab) c])),(2,.k 1 0 ([.Y 2 (S.map ay) a])),(9,vI ((j:Int)-1))],aq [],10⟩) (λj=>UT R S j) (λj=>j<=S.length) (λj=>j) S.length (λs=>s) (au (λs=>s) wT trivial rfl) rfl (Pi R S) (aC _) ?_;intro j K;have z:j<=1000:=by have:j<=S.length:=K;omega
 refine rQ<|rQ<|nU rfl<|a7<|oR 1 rfl<|rV (vB (decide (((j:Int)-1)>=0))) rfl<|rE 12<|Cz (v:=decide (((j:Int)-1)>=0)) rfl (λr=>?_) (λr=>?_)
 .have w:=ax r;have e:0<j:=oT;refine nU rfl<|mF<|rQ<|AA<|rQ<|nU rfl<|a7<|oR 2 rfl ?_;obtain⟨p,hp⟩:∃u,S[j-1]?=some u:=⟨_,aA ad⟩;have O:=F p (aB hp);refine FO (ay p) (x:=.k 2 0 (ay p)) rfl rfl rfl (⟨oT,by rw[(oT:((j:Int)-1).toNat=j-1)];exact iH hp⟩) rfl<|oR 1 rfl<|dm 16 rfl rfl<|a1 rfl<|rE 18<|rQ<|NI rfl 9 rfl rfl rfl<|oR 5 rfl<|rV (vN p.data.size) rfl<|oR 2 rfl<|rV (.agg [vU p.W,vN p.data.size,.v (.string p.data),vB true]) rfl<|rE 27 ?_;refine⟨CY p,_,⟨a6 [(0,.v y),(1,.k 1 0 ([.Y 17 (R.map ab) c])),(2,.k 1 0 ([.Y 2 (S.map ay) a])),(9,vI ((j:Int)-1)),(58,.v y),(66,.agg [vU p.W,vN p.data.size,.v (.string p.data),vB true])],aq [],0⟩,λs=>s,au _ wT trivial rfl,rfl,rfl,rfl,rfl,rfl,rfl,(by rw[<-KV e hp];exact UV R S _),λJ=>?_⟩;refine oR 1 rfl<|rE 29<|Cz (v:= !J) rfl (λt=>?_) (λt=>?_)
  .refine nU rfl<|FQ ?_;intro g;rw[t]at g;cases g
  refine nU rfl<|mF<|nU rfl<|a7<|oR 1 rfl<|rW _ rfl (ap (XU e z))<|oR 1 rfl<|rE 32 ?_;refine⟨t,j-1,λs=>s,au _ wT trivial rfl,rfl,(KV e hp),(by show j-1<=S.length;omega),(by show j-1<j;omega)⟩
 have w:=aF r;refine nU rfl<|Bh ?_;intro _;obtain C:j=0:=oT;subst C;exact UW R S
def RV(R:List ai)(S:List Pt)(b a:Bool)(e:R.length<=1000)(g:∀x∈R,x.ok)(d:S.length<=1000)(c:∀x∈S,x.ok):bI C0 228 [.Y 17 (R.map ab) b,.Y 2 (S.map ay) a] (.a 244 [] [.k 1 0 [.Y 17 (R.map ab) b],.k 1 0 [.Y 2 (S.map ay) a]]):=by
 refine bc func228 rfl ?_;refine zV (.a 244 [] [.ptr 0 0,.ptr 1 0]) ?_;exact dK rfl ga rfl rfl
def UY{l:List ai}{k:Nat}{x:ai}(h:∀y,y∈l.take k->Aw y=false)(b:l[k]?=some x)(a:Aw x=false):∀y,y∈l.take (k+1)->Aw y=false:=by
 intro y hy;rw[bW,b]at hy;rcases dz.1 hy with hy|hy
 .exact h y hy
 have:y=x:=sU hy;rw[this];exact a
def UZ{a:List ai}{agF:List Pt}{i:Nat}{e:ai}(b:a[i]?=some e)(c: ¬aj e.i.op=3):lL a agF i=(0,oZ):=by
 unfold lL;rw[b];exact aa c
def RW{a:List ai}{agF:List Pt}{i k:Nat}{e x:ai}(b:a[i]?=some e)(c:aj e.i.op=3)(g:(a.take i)[k]?=some x)(d:Aw x=true):lL a agF i=(0,oZ):=by
 unfold lL;rw[b];exact(dZ (λh=>h c)).trans (aa (Mv.2 ⟨x,aB g,d⟩))
def RX{a:List ai}{agF:List Pt}{i k:Nat}{e:ai}(g:a[i]?=some e)(j:aj e.i.op=3)(b:∀y,y∈(a.take i).take k->Aw y=false)(c:(a.take i).length<=k):lL a agF i=xK e.W (bh e.i.op) (FW (a.take i) agF):=by
 unfold lL;rw[g];refine(dZ (λh=>h j)).trans (dZ λh=>?_);obtain⟨x,m,d⟩:=Mv.1 h;rw[aN c]at b;rw[b x m]at d;cases d
def XX(a:List ai)(agF:List Pt)(g b:Bool)(i:Nat)(hl:a.length<=1000)(U:∀x∈a,x.ok)(I:agF.length<=1000)(C:∀x∈agF,x.ok)(ag:∀x∈agF,x.data.size<=4)(hi:i<a.length):bI C0 211 [.Y 17 (a.map ab) g,.Y 2 (agF.map ay) b,vN i] (.F [vI (lL a agF i).1,.v (.string (lL a agF i).2)]):=by
 refine ry (bI.Zh (C:=C1) (λd=>l'.wd d) (λn=>l'.at) func211 R R (by kernel_rfl) R ?_);have am:i<=1000:=oT;have K:(a.take i).length<=1000:=by rw[aM];omega
 have E:∀x∈a.take i,x.ok:=λx r=>U x (cQ r);refine uO<|tQ R<|a7<|dm 0 R R<|dm 1 R R<|rE 2<|XO<|uO<|uO<|tQ R<|a7<|oR 1 R<|rW (vB (decide (i<0))) R (ak (bl _ _))<|oR 1 R<|gN R<|gN R<|aw R id (cD ab a)<|aw R b9 (ak (im _ _))<|bO R R R (by simp)<|oR 1 R<|gN R<|gN R ?_;obtain⟨e,m⟩:∃W,a[i]?=some W:=⟨_,aA ad⟩;have o:=U e (aB m);refine DK (ab e) (x:=.k 17 0 (ab e)) (g:= !(cE (decide (i<0)) true (decide (i>=a.length)))) R R R R b9 R R (λQ=>⟨aG _,iH m⟩) R<|gS R id<|gS R id<|jQ (x:=vN (aj e.i.op)) (g:= !(cE (decide (i<0)) true (decide (i>=a.length)))) R R R R (λh=>h) R R R (.inl R) R (λQ=>pS e.i)<|aw R id (ak (db _ _))<|bO R R R (by simp)<|rE 19<|VT (v:=cE (cE (decide (i<0)) true (decide (i>=a.length))) true ((aj e.i.op) != 3)) R (λL=>?_) (λL=>?_)
 .have c: ¬aj e.i.op=3:=by have z:=L;simp only[ae]at z;grind
  refine uO<|tQ R<|a7<|a1 R<|a1 R<|rE 21<|tQ R<|FQ ?_;have j:=UZ (agF:=agF) m c;rw[j];exact fT R R
 have c:aj e.i.op=3:=by have z:=L;simp only[ae]at z;grind
 refine tQ R<|mF<|uO<|uO<|tQ R<|a7<|oR 2 R<|nW (.Y 17 ((a.take i).map ab) (g&&false)) R (yB (vY ab a i)) g_<|rW (vN i) R (vW ab (a.take i) ad)<|oR 1 R<|rE 24<|Ja<|za<|jR (κ:=Nat) (λk=>⟨a6 [(0,.Y 17 (a.map ab) g),(1,.Y 2 (agF.map ay) b),(2,vN i),(6,.ptr 0 0),(7,.ptr 1 0),(30,vB (cE (cE (decide (i<0)) true (decide (i>=a.length))) true ((aj e.i.op) != 3))),(33,.Y 17 ((a.take i).map ab) (g&&false)),(34,vN i),(35,vN k)],aq [(0,.box [vI 0]),(1,.box [.v (.string (⟨#[]⟩:ByteArray))])],24⟩) (λk=>k<=i/\∀y,y∈(a.take i).take k->Aw y=false) (λk=>i-k) 0 (λs=>s) (au (λs=>s) wT wH R) (⟨aE _,(λy hy=>by cases hy)⟩) ?_;intro k T;have an:k<=i:=T.1;have Y:k<=1000000:=oT;refine bk<|rW (vB (decide (k<i))) R (ak (bl _ _))<|rE 25<|uR<|aV R (λM=>?_) (λM=>?_)
 .have X:=ax M;refine mF<|uR<|kO<|bk ?_;obtain⟨x,r⟩:∃W,(a.take i)[k]?=some W:=⟨_,aA ad⟩;have ao:=(zD U) x (aB r);refine ja (ab x) (.k 17 0 (ab x)) R R (iH r) R<|oR 1 R<|dm 27 R R<|a1 R<|rE 29<|bk<|oR 2 R<|aW R (pS x.i)<|rW (vB ((aj x.i.op)==4)) R (ak (ba _ _))<|oR 1 R<|gN R<|gS R id<|gS R id<|gS R id<|gN R<|gS R id<|aw R id R<|pB (x:=vB (cE (!x.known) true (x.halt != 0))) (g:=(aj x.i.op)==4) R R R R (λh=>h) R R (λQ hc=>by first|(rw[Q,hc];rfl)|simp_all)<|bO rfl rfl rfl (λh=>h)<|rE 43<|aV R (λN=>?_) (λN=>?_)
  .have V:Aw x=true:=by have z:=N;unfold Aw f';simp only[ae,qA]at z⊢;grind
   refine bk<|a1 R<|a1 R<|rE 45<|FQ ?_;have j:=RW (agF:=agF) m c r V;rw[j];exact fT R R
  have V:Aw x=false:=by have z:=N;unfold Aw f';simp only[ae,qA]at z⊢;grind
  refine mF<|a7 ?_;have b1:k+1<=1000001:=aD Y (aC 1);refine rW (vN (k+1)) R (ap (bH b1 R))<|oR 1 R<|rE 45 ?_;refine⟨k+1,λs=>s,au _ wT wH R,⟨oT,UY T.2 r V⟩,by show i-(k+1)<i-k;omega⟩
 have X:=aF M;have t:=T.2;have u:(a.take i).length<=k:=by rw[aM];omega
 refine Bh<|uO<|tQ R<|a7<|oR 2 R<|ja (ab e) (.k 17 0 (ab e)) R R (iH m) R<|oR 4 R<|ja (ab e) (.k 17 0 (ab e)) R R (iH m) R<|oR 2 R<|aW R (Gd e.i)<|dm 36 R R<|dm 37 R R<|a1 R<|a1 R<|rE 40<|uO<|tQ R<|zb<|uO<|uO<|tQ R<|a7<|oR 2 R<|nW (.Y 17 ((a.take i).map ab) (g&&false)) R (yB (vY ab a i)) g_<|oR 1 R<|aW R (RV (a.take i) agF (g&&false) b K E I C)<|rE 45<|Ja<|Md (.mk _ (.refl _) ⟨⟨a6 [(6,.ptr 0 0),(7,.ptr 1 0),(10,.ptr 2 0),(11,.ptr 3 0),(69,.a 244 [] [.k 1 0 ([.Y 17 ((a.take i).map ab) (g&&false)]),.k 1 0 ([.Y 2 (agF.map ay) b])])],aq [(0,.box [vI 0]),(1,.box [.v (.string (⟨#[]⟩:ByteArray))]),(2,.box [vU e.W]),(3,.box [vN (bh e.i.op)])],4⟩,λs=>match s with|2=>36|3=>37|s=>s,au _ wT wH R,R,?_⟩);refine .mk Std 244 [.k 1 0 ([.Y 17 ((a.take i).map ab) (g&&false)]),.k 1 0 ([.Y 2 (agF.map ay) b])] (λs:Std=>[.agg (xt s)]) sT (FW (a.take i) agF) (λs:Std=>dh s.W s.size e.W (bh e.i.op)=false) 4 (λ_=>aq [(0,.box [vI 0]),(1,.box [.v (.string (⟨#[]⟩:ByteArray))]),(2,.box [vU e.W]),(3,.box [vN (bh e.i.op)])]) (λ_=>4) R R ⟨_,func244,R,R⟩ (RU (a.take i) agF (g&&false) b K E I C) (λx S w β=>BL (show Ju [.agg (xt x)]=some _ from R)) (λ_=>rfl) R R (λ_=>rfl) (au (hp:=[]) (λs=>s) wT tr R) ?_ ?_
 .intro al s v F;have H:=UX E C ag (v.subset (List.mem_append_right _ (uJ.2 R)));have J:s.size<=1000:=oT;have G:bh e.i.op<=1000:=aL (lQ e.i.op) dT;refine a7<|dm 4 R R<|a1 R<|rE 6 ?_;refine⟨R,?_⟩;refine kO<|uR<|bk<|oR 6 R<|aW R (zc s.W s.size e.W (bh e.i.op) H.1 J o.W G)<|oR 1 R<|rE 14<|aV R (λO=>?_) (λO=>?_)
  .have q:dh s.W s.size e.W (bh e.i.op)=false:=sU O;refine Bh ?_;exact⟨q,.mk _ (.refl _) ⟨λs=>s,R,au (l:=[]) (hp:=[(0,.box [vI 0]),(1,.box [.v (.string (⟨#[]⟩:ByteArray))]),(2,.box [vU e.W]),(3,.box [vN (bh e.i.op)])]) (λs=>s) tr wH R⟩⟩
  have q:dh s.W s.size e.W (bh e.i.op)=true:=sU O;refine mF<|uR<|bk<|oR 6 R<|aW R (XV s.W s.size e.W (bh e.i.op) H.1 J o.W G)<|oR 2 R<|gN R<|gS R id<|gS R id<|bO R R R (by simp)<|rE 27<|aV R (λP=>?_) (λP=>?_)
  .have p:Fh s.W s.size e.W (bh e.i.op)=false\/s.there=false:=by have z:=P;simp only[ae]at z;grind
   refine bk<|a1 R<|a1 R<|rE 29<|FQ<|.mk _ (.refl _) ⟨aq [(0,.box [vI 0]),(1,.box [.v (.string (⟨#[]⟩:ByteArray))]),(2,.box [vU e.W]),(3,.box [vN (bh e.i.op)])],4,λs=>s,R,R,au (l:=[]) (hp:=[(0,.box [vI 0]),(1,.box [.v (.string (⟨#[]⟩:ByteArray))]),(2,.box [vU e.W]),(3,.box [vN (bh e.i.op)])]) (λs=>s) tr wH R,?_⟩;intro D;have j:=(RX (agF:=agF) m c t u).trans ((Dh v F q).trans (aa p));rw[j];exact fT R R
  have p: ¬(Fh s.W s.size e.W (bh e.i.op)=false\/s.there=false):=by have z:=P;simp only[ae]at z;grind
  have Z:s.W<=e.W/\e.W+bh e.i.op<=s.W+s.size:=by have z:=p;simp only[not_or,Bool.not_eq_false]at z;have y:=z.1;unfold Fh at y;simp only[aP,aY]at y;omega
  refine mF<|bk<|oR 3 R<|rW (vU (e.W-s.W)) R (ap (A3 Z.1 o.W))<|rW (vN (e.W-s.W)) R (ap (bH (aL (jT _ _) o.W) R))<|oR 1 R<|rE 33<|uR<|pO R R<|oR 5 R ?_;have b2:(e.W-s.W)+(bh e.i.op)<=4294967299:=aD (aL (jT _ _) o.W) (lQ e.i.op);refine rW (vN ((e.W-s.W)+(bh e.i.op))) R (ap (bH b2 R))<|nW (.v (.string (s.data.extract (e.W-s.W) ((e.W-s.W)+(bh e.i.op))))) R R (by refine⟨?_,?_,?_⟩<;>(first|exact aG _|decide|(apply FG.2;exact ad)))<|a1 rfl<|a1 rfl<|rE 42<|And.intro (by kernel_rfl)<|FQ<|.mk _ (.refl _) ⟨aq [(0,.box [vI 1]),(1,.box [.v (.string (s.data.extract (e.W-s.W) ((e.W-s.W)+(bh e.i.op))))]),(2,.box [vU e.W]),(3,.box [vN (bh e.i.op)])],4,λs=>s,R,R,au (l:=[]) (hp:=[(0,.box [vI 1]),(1,.box [.v (.string (s.data.extract (e.W-s.W) ((e.W-s.W)+(bh e.i.op))))]),(2,.box [vU e.W]),(3,.box [vN (bh e.i.op)])]) (λs=>s) tr wH R,?_⟩;intro D;have j:=(RX (agF:=agF) m c t u).trans ((Dh v F q).trans (dZ p));rw[j];exact fT R R
 intro hN D;refine uO<|tQ R<|a7<|a1 R<|a1 R<|rE 6<|tQ R<|FQ ?_;have j:=(RX (agF:=agF) m c t u).trans (DE hN);rw[j];exact fT R R
section
variable {α:Type}{f:α->List AV}{A l B:List α}{lo:Nat}
def jK{x:α}{i:Nat}(a:A.length=lo)(b:l[i]?=some x):(A++l++B)[lo+i]?=some x:=by
 have c:=(Em.1 b).1;rw[eD,bM ad, <-a,Nat.add_sub_cancel_left,cF c,b]
def tV{n:Nat}(a:A.length=lo)(b:l.length=n):List.take n (List.drop lo ((A++l++B).map f))=l.map f:=by
 subst a;subst b;rw[<-kM, <-eO];congr 1;rw[eD,List.drop_left,List.take_left]
def Xa{x:α}{i:Nat}(a:A.length=lo)(b:i<l.length):(A++l++B).set (lo+i) x=A++l.set i x++B:=by
 subst a;rw[eD,iN _ _ ad,Nat.add_sub_cancel_left,List.set_append_left _ _ b,eD]
def uL{x:α}{i:Nat}{h:AH}{b rs:Nat}(a:A.length=lo)(c:i<l.length):some (an h b (some (.arr (((A++l++B).map f).set (lo+i) (f x)) rs)))=some (an h b (some (.arr ((A++l.set i x++B).map f) rs))):=by
 rw[<-List.map_set,Xa a c]
end
def MT(a:Int)(s:ByteArray):hG a s<=4294967295:=by
 unfold hG;split
 .rename_i h;have b:s.size<=4:=oH (lQ a);have:=Fo s b;split
  .exact aI (Ia _ _ ad)
  split
  .exact aI (Ia _ _ ad)
  omega
 exact aE _
def QG{e:ai}(c:e.ok){a b:Nat}(h:a<=4294967295)(i:b<=4294967295):(rJ e a b).ok:=by
 have g:uE e a b<=4294967295:=by
  unfold uE;split
  .exact aE _
  exact aI (Rp _ _ _ _ _ (CI c.C) (CI h) (CI i))
 have d:b_ e.M<=4294967295:=by unfold b_;omega
 have j:qP e.i.op e.i.C e.M a b<=4294967295:=aI (Ed _ _ _ _ _);unfold rJ
 repeat' split
 all_goals first|exact c|exact⟨c.M,c.C,c.K,g,d,c.W⟩|exact⟨c.M,c.C,c.K,g,j,c.W⟩|exact⟨c.M,c.C,c.K,aE _,d,c.W⟩
def QH{e:ai}(a:e.ok):(bn e).ok:=by
 unfold bn;repeat' split
 all_goals first|exact a|exact⟨a.M,a.C,a.K,a.value,a.next,a.W⟩
def Ik{e:ai}(b:e.ok)(size:Int)(a:Nat):(yC e size a).ok:=by
 have c:(a+e.i.C)%4294967296<=4294967295:=oT;unfold yC;repeat' split
 all_goals first|exact b|exact⟨b.M,b.C,b.K,b.value,b.next,c⟩
def Il{e:ai}(a:e.ok)(s:ByteArray):(uM e s).ok:=by
 have b:hG e.i.op s<=4294967295:=MT e.i.op s;unfold uM;split
 .exact a
 refine⟨a.M,a.C,a.K,?_,a.next,a.W⟩;show(if wr e.i=0 then 0 else hG e.i.op s)<=_;split<;>omega
def Kj(b:List ai)(agF:List Pt)(i:Nat):(lL b agF i).2.size<=100:=by
 have c:∀(l:List Std) (a n:Nat),n<=4->(xK a n l).2.size<=100:=by
  intro l a n d
  induction l with
  |nil=>exact aE _
  | cons s l ih=>
   unfold xK;split
   .exact ih
   .split
    .exact aE _
    .show(s.data.extract _ _).size<=100;rw[dA];omega
 unfold lL;split
 .exact aE _
 .split
  .exact aE _
  .split
   .exact aE _
   .exact c _ _ _ (lQ _)
def GN{c:Co}(h:c.mem.size<=256)(e:ai):(oL c e).size<=1000:=by
 unfold oL Cv;split
 .rw[dA];have:=MU c.V c.data c.U c.mem;unfold Xr;omega
 exact aE _
def Kk(q:List bp)(agY:Nat)(k:Int):Mi q agY [k]=Ec q agY k:=by unfold Mi Ec;congr 1;funext x;simp
def zn(c:Co)(y:Nat)(b:c.E y)(i:Nat)(G:i<c.Z.length)(A B:List ai)(lo n:Nat)(m s o t:Bool)(u v:List (List AV))(a:A.length=lo)(j:c.Z.length=n)(I:A.length+n+B.length<=1000):pM C0.P C0.G 183 [.ptr 0 0,vN i] (aq [(0,.box (az c (.X 1 lo n m) (.Y 2 u s) (.Y 2 (c.V.map ay) o) (.Y 9 v t))),(1,.arr ((A++(c).Z++B).map ab) 17)]) 2 (λx h'=>x=.F []/\h'=aq [(0,.box (az (oE c i) (.X 1 lo n m) (.Y 2 u s) (.Y 2 (c.V.map ay) o) (.Y 9 v t))),(1,.arr ((A++((oE c i)).Z++B).map ab) 17)]):=by
 refine hZ 2 func183 R<|nW (.x 1 (lo+i) 0) R R fd ?_;obtain⟨x,d⟩:∃H,c.Z[i]?=some H:=⟨_,aA ad⟩;have g:=b.ok.Z6 x (aB d);refine zX (ab x) (.agg (ab x)) R (iH (jK a d))<|zB R (λr=>?_) (λr=>?_)
 .have e:oE c i=c:=by unfold oE;rw[d];dsimp only;rw[aa (FV r)];try rfl
  rw[e];exact du
 refine zR<|zL (x:=.F [vI ((lL c.Z c.V i).1),.v (.string ((lL c.Z c.V i).2))]) R (.inr ⟨R,⟨(by show lo+n<=((A++c.Z++B).map ab).length;exact ad),tr,tr,tr⟩⟩) ((show bI C0 211 [.Y 17 (List.take n (List.drop lo ((A++c.Z++B).map ab))) m,.Y 2 (c.V.map ay) o,vN i] _ from by rw[tV (l:=c.Z) a (by first|exact j|(rw[cC];exact j)|(simp only[cC];exact j))];exact XX c.Z c.V m o i b.Z b.ok.Z6 b.Z' b.ok.Z0 b.ZO G))<|zC (tN x.W g.W)<|zV (vB (((lL c.Z c.V i).1)==1))<|aV rfl (λD=>?_) (λD=>?_)
 .have k:=mT D;refine a7<|oR 8 R<|aW R (RR x ((lL c.Z c.V i).2) g (bL (Kj c.Z c.V i) dT))<|nW (.x 1 (lo+i) 0) R R fd ?_;refine nM (ab x) (h':=an _ 1 (some (.arr ((A++(c.Z.set i (uM x ((lL c.Z c.V i).2)))++B).map ab) 17))) R R R (⟨aG _,iH ((jK a d))⟩) (uL (f:=ab) (x:=(uM x ((lL c.Z c.V i).2))) (l:=c.Z) (i:=i) a ad)<|rE 50 ?_;have e:oE c i=fh c i (uM x ((lL c.Z c.V i).2)):=by unfold oE;rw[d];dsimp only;rw[dZ (sI r),aa k];try rfl
  rw[e];exact ck 0 R<|du
 have k:=nA D;refine qC 0 R<|de (((lL c.Z c.V i).1) != 2) (λE=>?_) (λE=>?_)
 .have p:=wM E;have e:oE c i=c:=by unfold oE;rw[d];dsimp only;rw[dZ (sI r),dZ k,aa p];try rfl
  rw[e];exact du
 have p:=wN E;refine zH (args:=[.ptr 0 0,vU (ao x.W)]) R (pM.Zv (C:=C0) (show bI C0 212 [.k 64 0 (az c (.Y 17 (List.take n (List.drop lo ((A++c.Z++B).map ab))) m) (.Y 2 u s) (.Y 2 (c.V.map ay) o) (.Y 9 v t)),vU (ao x.W)] _ from by rw[tV (l:=c.Z) a (by first|exact j|(rw[cC];exact j)|(simp only[cC];exact j))];exact Xb c y b (.Y 2 u s) (.Y 2 (c.V.map ay) o) (.Y 9 v t) m (ao x.W) (dV g.W)) (by rfl) (by exact⟨⟨rfl,(r4 (r4 (r4 (r4 (r4 (r4 (r4 (r4 (r4 (r4 (r4 (r4 ⟨(by show lo+n<=((A++c.Z++B).map ab).length;simp only[aH,aU,cC];omega),ga⟩))))))))))))⟩,trivial,trivial⟩) (by rfl)) ?_;rintro _ _ ⟨rfl,rfl⟩;refine aV R (λw=>?_) (λw=>?_)
 .refine a7<|oR 9 R<|g5 R (.inr ⟨R,⟨tr,ga,tr⟩⟩) (MV c y b .any (.Y 2 u s) (.Y 9 v t) o x g)<|aW R (RR x (oL c x) g (by have:=GN (c:=c) (oH b.mem) x;omega))<|nW (.x 1 (lo+i) 0) R R fd ?_;refine nM (ab x) (h':=an _ 1 (some (.arr ((A++(c.Z.set i (uM x (oL c x)))++B).map ab) 17))) R R R (⟨aG _,iH ((jK a d))⟩) (uL (f:=ab) (x:=(uM x (oL c x))) (l:=c.Z) (i:=i) a ad)<|rE 59 ?_;have e:oE c i=fh c i (uM x (oL c x)):=by unfold oE;rw[d];dsimp only;rw[dZ (sI r),dZ k,dZ (λq=>q p),aa w];try rfl
  rw[e];exact ck 0 R<|du
 refine qC 0 R<|rV (.Y 1 ([[vI 1]]) true) R<|zC (x:=vB (Ec c.U (ao x.W) 1)) ((show bI C0 _ [_,_,.Y 1 ([(1:Int)].map bm) true] _ from by rw[<-Kk];exact RQ c.U (ao x.W) [1] false true (oH b.U) (λx d=>(b.ok.Z_ x d).S) (dV g.W) dT))<|zB R (λC=>?_) (λC=>?_)
 .refine zM (.x 1 (lo+i) 0) R fd ?_;refine nM (ab x) (h':=an _ 1 (some (.arr ((A++(c.Z.set i (⟨x.no,x.M,⟨x.i.op,x.i.rd,x.i.y,x.i.A,x.i.C⟩,x.K,2,x.left,x.value,x.next,x.W,x.halt,x.d,x.known,x.Z8⟩:ai))++B).map ab) 17))) R R R (⟨aG _,iH ((jK a d))⟩) (uL (f:=ab) (x:=(⟨x.no,x.M,⟨x.i.op,x.i.rd,x.i.y,x.i.A,x.i.C⟩,x.K,2,x.left,x.value,x.next,x.W,x.halt,x.d,x.known,x.Z8⟩:ai)) (l:=c.Z) (i:=i) a ad) ?_;have e:oE c i=fh c i (⟨x.no,x.M,⟨x.i.op,x.i.rd,x.i.y,x.i.A,x.i.C⟩,x.K,2,x.left,x.value,x.next,x.W,x.halt,x.d,x.known,x.Z8⟩:ai):=by unfold oE;rw[d];dsimp only;rw[dZ (sI r),dZ k,dZ (λq=>q p),dZ (by rw[w];decide),aa C];try rfl
  rw[e];exact cg 0 R<|du
 refine g5 (x:=vB (vC c.Z i)) R (.inr ⟨R,⟨(by show lo+n<=((A++c.Z++B).map ab).length;exact ad),tr,tr⟩⟩) ((show bI C0 210 [.Y 17 (List.take n (List.drop lo ((A++c.Z++B).map ab))) m,vN i] _ from by rw[tV (l:=c.Z) a (by first|exact j|(rw[cC];exact j)|(simp only[cC];exact j))];exact MX c.Z m i b.Z b.ok.Z6 (oH b.Z)))<|zH (args:=[.ptr 0 0,vB (vC c.Z i)]) R (pM.Zv (C:=C0) (show bI C0 145 [.k 64 0 (az c (.Y 17 (List.take n (List.drop lo ((A++c.Z++B).map ab))) m) (.Y 2 u s) (.Y 2 (c.V.map ay) o) (.Y 9 v t)),vB (vC c.Z i)] _ from by rw[tV (l:=c.Z) a (by first|exact j|(rw[cC];exact j)|(simp only[cC];exact j))];exact Ua c y b (.Y 17 (c.Z.map ab) m) (.Y 2 u s) (.Y 2 (c.V.map ay) o) (.Y 9 v t) (vC c.Z i)) (by rfl) (by exact⟨⟨rfl,(r4 (r4 (r4 (r4 (r4 (r4 (r4 (r4 (r4 (r4 (r4 (r4 ⟨(by show lo+n<=((A++c.Z++B).map ab).length;simp only[aH,aU,cC];omega),ga⟩))))))))))))⟩,trivial,trivial⟩) (by rfl)) ?_;rintro _ _ ⟨rfl,rfl⟩;refine gS R id<|gS R id<|gS R id<|zG R id<|gB R R<|jQ (args:=[.Y 4 (c.U.map bv) false,vU (ao x.W),.Y 1 ([[vI 3]]) true]) (x:=vB (Ec c.U (ao x.W) 3)) (g:=tA c (vC c.Z i)) R R R R b9 R R R (.inl R) R (λJ=>(show bI C0 _ [_,_,.Y 1 ([(3:Int)].map bm) true] _ from by rw[<-Kk];exact RQ c.U (ao x.W) [3] false true (oH b.U) (λx d=>(b.ok.Z_ x d).S) (dV g.W) dT))<|gS R id<|zN R (λh=>h)<|aV R (λF=>?_) (λF=>?_)
 .refine qC 0 R<|zH (args:=[.ptr 0 0,vI 1,vU (ao x.W),.v (.string (⟨#[]⟩:ByteArray))]) R ((zo c y b 1 (ao x.W) (⟨#[]⟩:ByteArray) (dV g.W) lo n m ((A++c.Z++B).map ab) s u o (c.V.map ay) t v).fB (λz=>z)) ?_;rintro _ _ ⟨rfl,rfl⟩;refine zM (.x 1 (lo+i) 0) R fd ?_;refine nM (ab x) (h':=an _ 1 (some (.arr ((A++(c.Z.set i (⟨x.no,x.M,⟨x.i.op,x.i.rd,x.i.y,x.i.A,x.i.C⟩,x.K,2,x.left,x.value,x.next,x.W,x.halt,x.d,x.known,x.Z8⟩:ai))++B).map ab) 17))) R R R (⟨aG _,iH ((jK a d))⟩) (uL (f:=ab) (x:=(⟨x.no,x.M,⟨x.i.op,x.i.rd,x.i.y,x.i.A,x.i.C⟩,x.K,2,x.left,x.value,x.next,x.W,x.halt,x.d,x.known,x.Z8⟩:ai)) (l:=c.Z) (i:=i) a ad) ?_;have e:oE c i=fh (jE c 1 (ao x.W) (⟨#[]⟩:ByteArray)) i (⟨x.no,x.M,⟨x.i.op,x.i.rd,x.i.y,x.i.A,x.i.C⟩,x.K,2,x.left,x.value,x.next,x.W,x.halt,x.d,x.known,x.Z8⟩:ai):=by unfold oE;rw[d];dsimp only;rw[dZ (sI r),dZ k,dZ (λq=>q p),dZ (by rw[w];decide),dZ (by rw[C];decide),aa (by have z:=F;simp only[qA]at z;simpa using z)];try rfl
  rw[e];exact cg 0 R<|du
 skip
 have e:oE c i=c:=by unfold oE;rw[d];dsimp only;rw[dZ (sI r),dZ k,dZ (λq=>q p),dZ (by rw[w];decide),dZ (by rw[C];decide),dZ (by have z:=F;simp only[qA]at z;simpa using z)];try rfl
 rw[e];exact jj 0 R<|du
theorem pM.Y3{P:Program}{G:Nat->Option (List AV)}{f:FuncId}{args:List AV}{j k d g:a'}{L:List (Nat×a')}{s:Nat}{r:AV}(H:pM P G f args (aq ((0,j)::(1,k)::L)) s (λx h'=>x=r/\h'=aq ((0,d)::(1,g)::L)))(ρ:Nat->Nat)(K:AH)(s2:Nat)(c:hD (aq ((0,j)::(1,k)::L)) s=true)(m:jm ρ K s s2 ((0,j)::(1,k)::L))(D:UQ ρ s=true)(C:mS s args=true)(E:eP r=true)(p:qM s d=true)(q:qM s g=true):
  pM P G f (Bg ρ args) K s2 (λx h'=>x=r/\h'=an (an K (ρ 0) (some (DI ρ d))) (ρ 1) (some (DI ρ g))):=by
 have J:1<s:=aJ m.2.1.2.1;refine H.ZH ρ K s2 c m D C _ λM h' z=>?_;obtain⟨rfl,rfl⟩:=z;refine⟨_,⟨od _ _ E,R⟩,λy blk a=>?_⟩;by_cases h:y=ρ 1
 .subst h;rw[dB]at a;injection a with a;exact .inl ⟨1,g,R,(rL ρ ad).symm,by rw[<-a,yL ρ s s2 g q]⟩
 rw[cI _ _ h]at a;by_cases o:y=ρ 0
 .subst o;rw[dB]at a;injection a with a;exact .inl ⟨0,d,R,(rL ρ ad).symm,by rw[<-a,yL ρ s s2 d p]⟩
 rw[cI _ _ o]at a;by_cases u:∃x,x<s/\ρ x=y
 .obtain⟨x,i,rfl⟩:=u;have v:x≠0:=λe=>o (by rw[e]);have w:x≠1:=λe=>h (by rw[e]);obtain⟨b,n⟩:=DQ.1 (uH c x i);have t:=m.get x b n;rw[t.2.2.2]at a;injection a with a;refine .inl ⟨x,b,?_,(rL ρ ad).symm,?_⟩
  .have F:Nat.beq 0 x=false:=by rw[<-eJ];exact λe=>v (aO e).symm
   have I:Nat.beq 1 x=false:=by rw[<-eJ];exact λe=>w (aO e).symm
   simp only[aq,F,I]at n⊢;exact n
  rw[<-a];exact(yL ρ s s2 b t.2.2.1).symm
 exact .inr ⟨a,λx i e=>u ⟨x,i,e⟩⟩
theorem pM.Y4{P:Program}{G:Nat->Option (List AV)}{f:FuncId}{args:List AV}{b c d e:a'}{L:List (Nat×a')}{s:Nat}{r:AV}(H:pM P G f args (aq ((0,b)::(1,c)::L)) s (λx h'=>x=r∧h'=aq ((0,d)::(1,e)::L)))(ρ:Nat->Nat){K:AH}{s2:Nat}(a:hD (aq ((0,b)::(1,c)::L)) s=true:=by rfl)(i:jm ρ K s s2 ((0,b)::(1,c)::L):=by repeat (first|exact trivial|refine⟨⟨rfl,rfl,rfl,rfl⟩,?_⟩))(z:UQ ρ s=true:=by rfl)(j:mS s args=true:=by rfl)(k:eP r=true:=by rfl)(g:qM s d=true:=by rfl)(h:qM s e=true:=by rfl):
  pM P G f (Bg ρ args) K s2 (λx h'=>x=r∧h'=an (an K (ρ 0) (some (DI ρ d))) (ρ 1) (some (DI ρ e))):=H.Y3 ρ K s2 a i z j k g h
def xA{c:Co}{n:Nat}(h:c.E n)(i:Nat){e:ai}(b:e.ok):(fh c i e).E n:=by
 have a:(c.Z.set i e).length=c.Z.length:=cC ..;exact⟨⟨h.ok.Q,h.ok.prog,h.ok.Z4,h.ok.r,h.ok.J,h.ok.Z5,h.ok.ZV,by show(c.Z.set i e).length<=_;rw[a];exact h.ok.Z,ea (P:=ai.ok) h.ok.Z6 b,h.ok.Z',h.ok.Z0,h.ok.data,h.ok.u,h.ok.U,h.ok.Z_,h.ok.asked,h.ok.Z1,h.ok.mem,h.ok.K,h.ok.ret,h.ok.ZW⟩,h.nb,h.cf,h.data,h.u,h.K,by show(c.Z.set i e).length<=_;rw[a];exact h.Z,h.Z5,h.Z',h.prog,h.mem,h.ZO⟩
def Cj{a:List ai}{r:Nat->Nat}(b:∀x∈a,x.ok)(c:∀k,r k<=4294967295)(i:Nat):(mI a r i).1<=4294967295/\(mI a r i).2.1<=4294967295:=by
 unfold mI;split
 .exact⟨Ck b c _ _,Ck b c _ _⟩
 exact⟨aE _,aE _⟩
def VJ(c:Co)(v:Nat)(a:c.E v)(i:Nat)(y:i<c.Z.length)(A B:List ai)(lo n:Nat)(k q r s:Bool)(t u:List (List AV))(b:A.length=lo)(m:c.Z.length=n)(w:A.length+n+B.length<=1000):pM C0.P C0.G 140 [.ptr 0 0,vN i] (aq [(0,.box (az c (.X 1 lo n k) (.Y 2 t q) (.Y 2 (c.V.map ay) r) (.Y 9 u s))),(1,.arr ((A++(c).Z++B).map ab) 17)]) 2 (λx h'=>x=.F []/\h'=aq [(0,.box (az (iS c i) (.X 1 lo n k) (.Y 2 t q) (.Y 2 (c.V.map ay) r) (.Y 9 u s))),(1,.arr ((A++((iS c i)).Z++B).map ab) 17)]):=by
 refine hZ 2 func140 R<|nW (.x 1 (lo+i) 0) R R fd ?_;obtain⟨x,d⟩:∃C,c.Z[i]?=some C:=⟨_,aA ad⟩;have h:=a.ok.Z6 x (aB d);refine zX (ab x) (.agg (ab x)) R (iH (jK b d))<|zR<|zL (x:=.F [vU ((mI c.Z c.r i).1),vU ((mI c.Z c.r i).2.1),vB ((mI c.Z c.r i).2.2)]) R (.inr ⟨R,⟨(by show lo+n<=((A++c.Z++B).map ab).length;exact ad),ga,tr,tr⟩⟩) ((show bI C0 180 [.Y 17 (List.take n (List.drop lo ((A++c.Z++B).map ab))) k,.agg (Ks c.r),vN i] _ from by rw[tV (l:=c.Z) b (by first|exact m|(rw[cC];exact m)|(simp only[cC];exact m))];exact VK c.Z c.r k i a.Z a.ok.Z6 a.ok.r (oH a.Z)))<|zC (pS x.i)<|zW _ (ak (ba _ _))<|aV rfl (λo=>?_) (λo=>?_)
 .have g:=mT o;refine a7<|oR 12 R<|rV (vN c.mem.size) R<|oR 1 R<|aW R (VV x ((c.mem.size:Nat):Int) ((mI c.Z c.r i).1) h (oH a.mem) (Cj a.ok.Z6 a.ok.r i).1)<|nW (.x 1 (lo+i) 0) R R fd ?_;refine nM (ab x) (h':=an _ 1 (some (.arr ((A++(c.Z.set i (yC x ((c.mem.size:Nat):Int) ((mI c.Z c.r i).1)))++B).map ab) 17))) R R R (⟨aG _,iH ((jK b d))⟩) (uL (f:=ab) (x:=(yC x ((c.mem.size:Nat):Int) ((mI c.Z c.r i).1))) (l:=c.Z) (i:=i) b ad)<|rE 53 ?_;have e:iS c i=fh c i (yC x ((c.mem.size:Nat):Int) ((mI c.Z c.r i).1)):=by unfold iS;rw[d];dsimp only;rw[aa g]
  rw[e];exact ck 0 R<|du
 have g:=nA o;refine qC 0 R<|zW _ (ak (ba _ _))<|aV R (λp=>?_) (λp=>?_)
 .have j:=mT p;refine j4 0 R<|a7<|oR 12 R<|rV (vN c.mem.size) R<|oR 1 R<|aW R (VV x ((c.mem.size:Nat):Int) ((mI c.Z c.r i).1) h (oH a.mem) (Cj a.ok.Z6 a.ok.r i).1)<|nW (.x 1 (lo+i) 0) R R fd ?_;refine nM (ab x) (h':=an _ 1 (some (.arr ((A++(c.Z.set i (yC x ((c.mem.size:Nat):Int) ((mI c.Z c.r i).1)))++B).map ab) 17))) R R R (⟨aG _,iH ((jK b d))⟩) (uL (f:=ab) (x:=(yC x ((c.mem.size:Nat):Int) ((mI c.Z c.r i).1))) (l:=c.Z) (i:=i) b ad)<|rE 55<|qX 0 R<|fU _ R R R ((zn (fh c i (yC x ((c.mem.size:Nat):Int) ((mI c.Z c.r i).1))) v (xA a i (Ik h _ _)) i (by show i<(c.Z.set i _).length;rw[cC];exact y) A B lo n k q r s t u b (by show(c.Z.set i _).length=n;rw[cC];exact m) w).Y4 (λz=>z)) ?_;rintro _ _ ⟨rfl,rfl⟩;have e:iS c i=oE (fh c i (yC x (c.mem.size:Int) (mI c.Z c.r i).1)) i:=by unfold iS;rw[d];dsimp only;rw[dZ g,aa j]
  rw[e];exact cg 0 R<|du
 have j:=nA p;refine a7<|oR 9 R<|aW R (XS x ((mI c.Z c.r i).1) ((mI c.Z c.r i).2.1) h (Cj a.ok.Z6 a.ok.r i).1 (Cj a.ok.Z6 a.ok.r i).2)<|nW (.x 1 (lo+i) 0) R R fd ?_;refine nM (ab x) (h':=an _ 1 (some (.arr ((A++(c.Z.set i (rJ x ((mI c.Z c.r i).1) ((mI c.Z c.r i).2.1)))++B).map ab) 17))) R R R (⟨aG _,iH ((jK b d))⟩) (uL (f:=ab) (x:=(rJ x ((mI c.Z c.r i).1) ((mI c.Z c.r i).2.1))) (l:=c.Z) (i:=i) b ad)<|rE 50 ?_;have e:iS c i=fh c i (rJ x ((mI c.Z c.r i).1) ((mI c.Z c.r i).2.1)):=by unfold iS;rw[d];dsimp only;rw[dZ g,dZ j]
 rw[e];exact ck 0 R<|du
structure r9(n k:Nat)(w:Wy):Prop where
 S:ao w.S=w.S
 set:w.S/16%n=k
 data:w.data.size=0\/w.data.size=16
 le:w.S<=4294967295
structure j_(n:Nat)(ways:Int)(k:Nat)(s:List Wy):Prop where
 len:(s.length:Int)<=ways
 ZM:∀w∈s,r9 n k w
 one:(s.map (·.S)).Nodup
structure c_(c:Ca):Prop where
 O:c.O.length=1\/c.O.length=2\/c.O.length=4
 ways:c.ways=1\/c.ways=2
 set:∀k s,c.O[k]?=some s->j_ c.O.length c.ways k s
theorem QC:∀{s:List Wy} {agY:Nat},jY s agY=none↔∀w∈s,w.S≠agY
 |[],_=>by simp[jY]
 |w::l,agY=>by
  unfold jY;by_cases h:w.S=agY
  .rw[aa h];simp[h]
  .rw[dZ h,Option.map_eq_none_iff,QC];simp[h]
def WZ:∀{s:List Wy},(∀i x,s[i]?=some x->jY (s.take i) x.S=none)↔(s.map (·.S)).Nodup:=by
 intro s;rw[List.nodup_iff_pairwise_ne,List.pairwise_map,List.pairwise_iff_getElem];constructor
 .intro h i j a b c e;exact QC.1 (h j s[j] (aA b)) s[i] (aB (i:=i) (by rw[cU,aa c,aA a])) e
 intro h j x g;obtain⟨b,rfl⟩:=Em.1 g;refine QC.2 λw d=>?_;obtain⟨i,a,rfl⟩:=fY d;rw[aM]at a;rw[List.getElem_take];exact h i j ad b ad
def ir{c:Ca}:c_ c↔gG c=true/\c.ok:=by
 constructor
 .intro h;refine⟨(jL c).2 ⟨⟨h.O,h.ways⟩,λk s a=>(jX c k s).2 ?_⟩,⟨oH h.O,λs a=>?_⟩⟩
  .have g:=h.set k s a;refine⟨g.len,λi x b=>?_⟩;have d:=g.ZM x (aB b);exact⟨d.S,d.set,d.data,WZ.2 g.one i x b⟩
  obtain⟨k,p,rfl⟩:=fY a;have g:=h.set k _ (aA p);refine⟨by have:=g.len;have:=h.ways;omega,λx b=>⟨(g.ZM x b).le⟩⟩
 rintro⟨h,ok⟩;obtain⟨⟨j,m⟩,n⟩:=(jL c).1 h;refine⟨j,m,λk s a=>?_⟩;obtain⟨g1,g2⟩:=(jX c k s).1 (n k s a);refine⟨g1,λw e=>?_,WZ.1 λi x b=>(g2 i x b).2.2.2⟩;obtain⟨i,o,rfl⟩:=fY e;have g:=g2 i _ (aA o);exact⟨g.1,g.2.1,g.2.2.1,((ok.set s (aB a)).2 _ e).S⟩
theorem c_.Zc{c:Ca}(h:c_ c){k:Nat}{s:List Wy}(d:j_ c.O.length c.ways k s):c_ (rK c k s):=by
 have b:(c.O.set k s).length=c.O.length:=cC ..;refine⟨by show(c.O.set k s).length=1\/(c.O.set k s).length=2\/(c.O.set k s).length=4;rw[b];exact h.O,h.ways,λj t a=>?_⟩;show j_ (c.O.set k s).length c.ways j t;rw[b];rw[show(rK c k s).O=c.O.set k s from R,mV]at a;split at a
 .rename_i e;subst e;split at a
  .injection a with a;subst a;exact d
  cases a
 exact h.set j t a
def EV{α:Type}{l:List α}{k:Nat}(h:k<l.length):(eY l k).Perm l:=by
 unfold eY;rw[aA h];rw[List.singleton_append,nV];refine(List.perm_middle.symm).trans ?_;rw[<-bF h,j']
theorem j_.perm{n:Nat}{ways:Int}{k:Nat}{s t:List Wy}(h:j_ n ways k s)(p:t.Perm s):j_ n ways k t:=
 ⟨by rw[p.length_eq];exact h.len,λw a=>h.ZM w (p.mem_iff.1 a),(p.map _).nodup_iff.2 h.one⟩
theorem j_.modHd{n:Nat}{ways:Int}{k:Nat}{s:List Wy}(h:j_ n ways k s){f:Wy->Wy}(b:∀w∈s,(f w).S=w.S/\((f w).data.size=0\/(f w).data.size=16)):j_ n ways k (ku f s):=by
 cases s with
 |nil=>exact h
 | cons x l=>
  have a:=b x (ce ..);have g:=h.ZM x (ce ..);refine⟨h.len,λw hw=>?_,?_⟩
  .rcases eu.1 hw with rfl|hw
   .exact⟨by rw[a.1];exact g.S,by rw[a.1];exact g.set,a.2,by rw[a.1];exact g.le⟩
   .exact h.ZM w (bY _ hw)
  .show((f x).S::l.map (·.S)).Nodup;rw[a.1];exact h.one
theorem c_.at{c:Ca}(h:c_ c){k:Nat}(a:k<c.O.length):j_ c.O.length c.ways k (pF c k):=by
 rw[vA (aA a)];exact h.set k _ (aA a)
theorem c_.Zg{c:Ca}(h:c_ c)(agY:Nat):c_ (tO c agY):=by
 by_cases a:(bK c agY).2.isSome=true
 .rw[Dw a];have ff:=pR a;exact h.Zc ((h.at ff.2.2.1).perm (EV ff.2.2.2))
 rw[Dx (sU a)];exact h
def QD(d:ByteArray):(dC d).size=0\/(dC d).size=16:=by
 unfold dC;split
 .right;assumption
 left;rfl
theorem c_.put{c:Ca}(h:c_ c){agY:Nat}(o:agY<=4294967295)(d:ByteArray)(b:Bool):c_ (qZ c agY d b).1:=by
 have j:=(ir.1 h).1;by_cases i:(bK c agY).2.isSome=true
 .rw[Cn i];have ff:=pR i;have g:=(h.at ff.2.2.1).perm (EV ff.2.2.2);refine h.Zc (g.modHd λw hw=>⟨R,?_⟩);split
  .exact(g.ZM w hw).data
  exact QD d
 have a:(bK c agY).2.isSome=false:=sU i;rw[AR j a];have e:=rI (agY:=agY) j;have n:(bK c agY).1<c.O.length:=by rw[e];exact AP (kJ j).1 _
 have z:jY (pF c (bK c agY).1) (ao agY)=none:=by rw[e]at a ⊢;simpa using a
 have g:=h.at n;have m:r9 c.O.length (bK c agY).1 ⟨ao agY,b,dC d⟩:=⟨by show ao (ao agY)=ao agY;unfold ao;omega,by rw[e];rfl,QD d,dV o⟩;split
 all_goals
  rename_i hw;refine h.Zc ⟨?_,λw hw=>?_,?_⟩
  .first|(have:=h.ways;rw[bN,oA])|(have:=g.len;rw[bN];push_cast)
   omega
  .rcases eu.1 hw with rfl|hw
   .exact m
   first|exact g.ZM w (oC _ hw)|exact g.ZM w hw
  rw[jC,List.nodup_cons]
  first|refine⟨λk=>?_,g.one.sublist ((List.dropLast_sublist _).map _)⟩|refine⟨λk=>?_,g.one⟩
  obtain⟨w,hw,e⟩:=pG.1 k
  first|exact QC.1 z w (oC _ hw) e|exact QC.1 z w hw e
def OK{d b:ByteArray}{a:Nat}(h:b.size+a<=d.size):(Fk d a b).size=d.size:=by
 unfold Fk;simp only[kH,dA];omega
theorem c_.write{c:Ca}(h:c_ c)(a:Nat)(b:ByteArray):c_ (xL c a b).1:=by
 by_cases d:(bK c a).2.isSome=true
 .have ff:=pR d;rw[At b d R (aA ff.2.2.2)];split
  .exact h
  rename_i k;have g:=(h.at ff.2.2.1).perm (EV ff.2.2.2);have i:=(h.at ff.2.2.1).ZM _ (jO ff.2.2.2);have j:=i.data;have e:eY (pF c (bK c a).1) ((bK c a).2.getD 0)=(pF c (bK c a).1)[(bK c a).2.getD 0]::((pF c (bK c a).1).take ((bK c a).2.getD 0)++(pF c (bK c a).1).drop ((bK c a).2.getD 0+1)):=by
   unfold eY;rw[aA ff.2.2.2];rfl
  refine h.Zc ?_;rw[e]at g⊢;have g1:=g.ZM _ (ce ..);refine⟨g.len,λw hw=>?_,g.one⟩;rcases eu.1 hw with rfl|hw
  .refine⟨g1.S,g1.set,.inr ?_,g1.le⟩;rw[OK ad];omega
  exact g.ZM w (bY _ hw)
 rw[GV b (sU d)];exact h
theorem c_.Y5{c:Ca}(h:c_ c)(agY:Nat):c_ (wB c agY):=by
 by_cases b:(bK c agY).2.isSome=true
 .have ff:=pR b;rw[Dy b R];have g:=h.at ff.2.2.1;have e:(((pF c (bK c agY).1).modify ((bK c agY).2.getD 0) λw=>{w with f:=false}).map (·.S))=(pF c (bK c agY).1).map (·.S):=by
   apply dD;intro i;simp only[aX,oD];split<;>simp[Option.map_map,Function.comp_def]
  refine h.Zc ⟨by rw[List.length_modify];exact g.len,λw k=>?_,by rw[e];exact g.one⟩;obtain⟨i,d⟩:=List.getElem?_of_mem k;rw[oD]at d;obtain⟨v,j,rfl⟩:=Gi.1 d;have a:=g.ZM v (aB j);split
  .exact⟨a.S,a.set,a.data,a.le⟩
  exact a
 rw[Dz (sU b)];exact h
theorem c_.f{c:Ca}(h:c_ c){w:Wy}(a:cR c=some w):w.S<=4294967295:=by
 unfold cR at a;split at a
 .have:=List.mem_of_find?_eq_some a;obtain⟨s,d,a⟩:=List.mem_flatten.1 this;obtain⟨k,b,rfl⟩:=fY d;exact((h.set k _ (aA b)).ZM w a).le
 cases a
def MS{q:List bp}(h:∀x∈q,x.ok){a:Int}{agY:Nat}{left:Int}{d:ByteArray}(b:agY<=4294967295):∀x∈Bi q a agY left d,x.ok:=by
 intro x hx;unfold Bi at hx;rcases dz.1 hx with hx|hx
 .exact h x hx
 rw[uJ.1 hx];exact⟨b⟩
def Ki(q:List bp)(a:Int)(agY:Nat)(left:Int)(d:ByteArray):(Bi q a agY left d).length=q.length+1:=by unfold Bi;simp
theorem Co.E.gd{c:Co}{n:Nat}(h:c.E n):c_ c.data:=ir.2 ⟨h.data,h.ok.data⟩
theorem Co.E.gw{c:Co}{n:Nat}(h:c.E n):c_ c.u:=ir.2 ⟨h.u,h.ok.u⟩
theorem Co.E.mono{c:Co}{n m:Nat}(h:c.E n)(a:n<=m)(b:m<=890000):c.E m:=
 ⟨⟨h.ok.Q,h.ok.prog,h.ok.Z4,h.ok.r,h.ok.J,h.ok.Z5,h.ok.ZV,h.ok.Z,h.ok.Z6,h.ok.Z',h.ok.Z0,h.ok.data,h.ok.u,aL h.ok.U a,h.ok.Z_,h.ok.asked,h.ok.Z1,h.ok.mem,h.ok.K,aL h.ok.ret a,h.ok.ZW⟩,b,h.cf,h.data,h.u,h.K,h.Z,h.Z5,h.Z',h.prog,h.mem,h.ZO⟩
def EW(z:Int):wrap64 z<=9223372036854775807:=by unfold wrap64;omega
theorem Co.E.Zf{c:Co}{n:Nat}(h:c.E n){q:List bp}{d:Ca}{a:Int}(j:q.length<=n+1)(e:∀x∈q,x.ok)(b:c_ d)(g:a<=9223372036854775807)(i:n+1<=890000):Co.E {c with U:=q,data:=d,asked:=a} (n+1):=
 ⟨⟨h.ok.Q,h.ok.prog,h.ok.Z4,h.ok.r,h.ok.J,h.ok.Z5,h.ok.ZV,h.ok.Z,h.ok.Z6,h.ok.Z',h.ok.Z0,(ir.1 b).2,h.ok.u,j,e,g,h.ok.Z1,h.ok.mem,h.ok.K,qJ h.ok.ret,h.ok.ZW⟩,i,h.cf,(ir.1 b).1,h.u,h.K,h.Z,h.Z5,h.Z',h.prog,h.mem,h.ZO⟩
def sH{c:Co}{n:Nat}(h:c.E n)(b:n+1<=890000)(a:Int){agY:Nat}(e:agY<=4294967295)(d:ByteArray):(jE c a agY d).E (n+1):=
 h.Zf (by rw[Ki];have:=h.ok.U;omega) (MS h.ok.Z_ e) h.gd (EW _) b
def QE{d:Ca}{q:List bp}{m:ByteArray}{agY:Nat}{left:Int}(a:c_ d)(b:∀x∈q,x.ok)(h:agY<=4294967295):c_ (iQ d q m agY left).1/\(iQ d q m agY left).2.1.length<=q.length+1/\∀x∈(iQ d q m agY left).2.1,x.ok:=by
 unfold iQ;split
 .exact⟨a,fF _,b⟩
 split
 .exact⟨a.Zg _,fF _,b⟩
 have hp:=a.put (dV h) (Ga (jZ q m) (ao agY)) false;have c:=GR (ir.1 a).2 (ao agY) (Ga (jZ q m) (ao agY)) false;generalize qZ d (ao agY) (Ga (jZ q m) (ao agY)) false=t at hp c;obtain⟨e,g,i⟩:=t;dsimp only at hp c⊢;split
 .exact⟨hp,by rw[Ki];exact aC _,MS b c⟩
 exact⟨hp,fF _,b⟩
def EX{c:Co}{n:Nat}(h:c.E n)(e:n+1<=890000){agY:Nat}(g:agY<=4294967295):(oK c agY).E (n+1):=by
 have b:=QE (m:=c.mem) (left:=lX c.Q c.asked) h.gd h.ok.Z_ g;unfold oK;generalize iQ c.data c.U c.mem agY (lX c.Q c.asked)=t at b;obtain⟨d,q,a⟩:=t;dsimp only at b⊢;refine h.Zf (oH h.ok.U) b.2.2 b.1 ?_ e;split
 .exact EW _
 exact h.ok.asked
def QF{l:List Pt}{c:Ca}(a:c_ c):c_ (sL l c).2.1/\(sL l c).1.length<=l.length/\∀x∈(sL l c).1,x∈l:=by
 unfold sL
 cases l with
 |nil=>exact⟨a,aC _,λx h=>h⟩
 |cons p l=>
  dsimp only;split
  .exact⟨a.write _ _,fF _,λx h=>bY _ h⟩
  .exact⟨a,aC _,λx h=>h⟩
def eR{c:Co}{n:Nat}(h:c.E n):(al c).E n:=by
 have a:=QF (l:=c.V) h.gd;exact⟨⟨h.ok.Q,h.ok.prog,h.ok.Z4,h.ok.r,h.ok.J,h.ok.Z5,h.ok.ZV,h.ok.Z,h.ok.Z6,aL a.2.1 h.ok.Z',λx b=>h.ok.Z0 x (a.2.2 x b),(ir.1 a.1).2,h.ok.u,h.ok.U,h.ok.Z_,h.ok.asked,h.ok.Z1,h.ok.mem,h.ok.K,h.ok.ret,h.ok.ZW⟩,h.nb,h.cf,(ir.1 a.1).1,h.u,h.K,h.Z,h.Z5,aL a.2.1 h.Z',h.prog,h.mem,λx b=>h.ZO x (a.2.2 x b)⟩
def mO(c:Co):tY c=cj (if(sL c.V c.data).2.2=false/\(al c).V≠[]then c5 (al c)else al c):=by
 unfold tY al
 cases d:c.V with
 |nil=>simp[sL]
 | cons p l=>
  dsimp only
  cases a:(sL (p::l) c.data).2.2 with
  |true=>simp
  | false=>
   have:(sL (p::l) c.data).1=p::l:=by
    unfold sL at a⊢;dsimp only at a⊢;by_cases b:(xL c.data p.W p.data).2=true
    .rw[aa b]at a;cases a
    .rw[dZ b]
   simp[this]
def iz{a b:Bool}:cE a b false=(a&&b):=by cases a<;>rfl
def ey{a b:Bool}:cE a true b=(a||b):=by cases a<;>rfl
def tK{d:Co}{p:Pt}(hp:d.V[0]?=some p):c5 d=if Ec d.U (ao p.W) 3=false/\tA d true=true then jE d 3 (ao p.W) oZ else d:=by
 unfold c5
 cases a:d.V with
 |nil=>rw[a]at hp;simp at hp
 |cons y l=>rw[a]at hp;simp at hp;subst hp;rfl
def uZ{d:Co}(h:(cR d.data).isSome=true/\((cR d.data).getD qE).data.size≠0):pE d={jE d 4 ((cR d.data).getD qE).S ((cR d.data).getD qE).data with data:=wB d.data ((cR d.data).getD qE).S}:=by
 unfold pE
 cases a:cR d.data with
 |none=>rw[a]at h;simp at h
 |some w=>rw[a]at h;exact aa h.2
def wZ{d:Co}(h: ¬((cR d.data).isSome=true/\((cR d.data).getD qE).data.size≠0)):pE d=d:=by
 unfold pE
 cases a:cR d.data with
 |none=>rfl
 |some w=>rw[a]at h;exact dZ λe=>h ⟨R,e⟩
theorem c_.ZP{c:Ca}(h:c_ c):((cR c).getD qE).S<=4294967295:=by
 cases a:cR c with
 |none=>exact aE _
 |some w=>exact h.f a
def WY(c:Co)(o:Nat)(a:c.E o)(I:o+2<=890000)(m:Bool)(r:List (List AV))(k:Bool)(q:List (List AV))(n:Bool)(s:List (List AV)):pM C0.P C0.G 81 [.ptr 0 0] (aq [(0,.box (az c (.Y 17 r m) (.Y 2 q k) (.Y 2 (c.V.map ay) false) (.Y 9 s n)))]) 1 (λx h'=>x=.F []/\h'=aq [(0,.box (az (tY c) (.Y 17 r m) (.Y 2 q k) (.Y 2 ((tY c).V.map ay) false) (.Y 9 s n)))]):=by
 refine hZ 1 func81 R<|zR<|zC (x_ c.V c.data a.ok.data (oH a.Z') a.ok.Z0)<|pO R R<|oR 7 R<|a1 R<|oR 3 R<|a1 R<|rE 32<|And.intro (by kernel_rfl)<|qX 0 R<|gS R id<|gS R id<|gS R id<|gS R id<|aw R id (cD ay ((al c).V))<|aw R id (ak (fq _ _))<|zN R (λh=>h)<|zB R (λt=>?_) (λt=>?_)
 .have d:((sL c.V c.data).2.2=false/\(al c).V≠[]):=by have z:=t;simpa [iz,fC]using z
  have F:0<(al c).V.length:=fC.2 d.2;obtain⟨p,hp⟩:∃H,((al c).V)[0]?=some H:=⟨_,aA ad⟩;have g:=(eR a).ok.Z0 p (aB hp);refine FO (ay p) (x:=.k 2 0 (ay p)) R R R (⟨dT,iH hp⟩) R<|qR 0 R<|zC (tN p.W g.W)<|rV (.Y 1 ([[vI 3]]) true) R<|zC (x:=vB (Ec c.U (ao p.W) 3)) ((show bI C0 _ [_,_,.Y 1 ([(3:Int)].map bm) true] _ from by rw[<-Kk];exact RQ c.U (ao p.W) [3] false true (oH a.U) (λx G=>(a.ok.Z_ x G).S) (dV g.W) dT))<|jQ (x:=vB (tA (al c) true)) (g:= !(Ec c.U (ao p.W) 3)) R R R R (λh=>h) R R R (.inr ⟨R,⟨tr,tr,tr⟩⟩) R (λJ=>Ua (al c) o (eR a) (.Y 17 r m) (.Y 2 q k) (.Y 2 (((al c).V).map ay) false) (.Y 9 s n) true)<|zN R (λh=>h)<|zB R (λu=>?_) (λu=>?_)
  .have i:(Ec (al c).U (ao p.W) 3=false/\tA (al c) true=true):=by have z:=u;show(Ec c.U _ _=false/\_);simpa [iz]using z
   refine zH R ((mq (al c) o (eR a) 3 (ao p.W) (⟨#[]⟩:ByteArray) (dV g.W) m r k q false ((al c).V.map ay) n s).fB (λz=>z)) ?_;rintro _ _ ⟨rfl,rfl⟩;refine rW (vN (((al c).V).length)) R (cD ay ((al c).V))<|zW (vB (decide ((((al c).V).length)>0))) (ak (fq _ _))<|gS R id<|gS R id<|gS R id<|gS R id<|aw R id R<|zN R (by simp)<|zB R (λv=>?_) (λv=>?_)
   .have b:((al c).V≠[]\/(jE (al c) 3 (ao p.W) (⟨#[]⟩:ByteArray)).halt=0):=by have z:=v;simpa [ey,fC]using z
    rw[mO,aa d,tK hp,aa i];rw[show cj (jE (al c) 3 (ao p.W) oZ)=(jE (al c) 3 (ao p.W) oZ)from aa b];exact du
   have b: ¬((al c).V≠[]\/(jE (al c) 3 (ao p.W) (⟨#[]⟩:ByteArray)).halt=0):=by have z:=v;simpa [ey,fC]using z
   refine zC (q0 (jE (al c) 3 (ao p.W) (⟨#[]⟩:ByteArray)).data (sH (eR a) ad 3 (dV g.W) oZ).ok.data)<|gS R id<|aw R id R<|zN R (λh=>h)<|aV R (λw=>?_) (λw=>?_)
   .have e:((cR (jE (al c) 3 (ao p.W) (⟨#[]⟩:ByteArray)).data).isSome=true/\((cR (jE (al c) 3 (ao p.W) (⟨#[]⟩:ByteArray)).data).getD qE).data.size≠0):=by have z:=w;rw[jr]at z;simpa [qA]using z
    have j:Ca.ok (jE (al c) 3 (ao p.W) (⟨#[]⟩:ByteArray)).data:=(sH (eR a) ad 3 (dV g.W) oZ).ok.data;refine qC 0 R<|zH R ((mq (jE (al c) 3 (ao p.W) (⟨#[]⟩:ByteArray)) (o+1) (sH (eR a) ad 3 (dV g.W) oZ) 4 (((cR (jE (al c) 3 (ao p.W) (⟨#[]⟩:ByteArray)).data).getD qE).S) (((cR (jE (al c) 3 (ao p.W) (⟨#[]⟩:ByteArray)).data).getD qE).data) ((sH (eR a) ad 3 (dV g.W) oZ).gd.ZP) m r k q false ((al c).V.map ay) n s).fB (λz=>z)) ?_;rintro _ _ ⟨rfl,rfl⟩;refine a7<|oR 8 R<|aW R (Iu ((jE (jE (al c) 3 (ao p.W) (⟨#[]⟩:ByteArray)) 4 (((cR (jE (al c) 3 (ao p.W) (⟨#[]⟩:ByteArray)).data).getD qE).S) (((cR (jE (al c) 3 (ao p.W) (⟨#[]⟩:ByteArray)).data).getD qE).data)).data) (((cR (jE (al c) 3 (ao p.W) (⟨#[]⟩:ByteArray)).data).getD qE).S) j ((sH (eR a) ad 3 (dV g.W) oZ).gd.ZP))<|oR 3 R<|a1 R<|rE 121 ?_;rw[mO,aa d,tK hp,aa i];rw[show cj (jE (al c) 3 (ao p.W) oZ)=pE (jE (al c) 3 (ao p.W) oZ)from dZ b,uZ (d:=(jE (al c) 3 (ao p.W) oZ)) e];exact ck 0 R<|du
   have e: ¬((cR (jE (al c) 3 (ao p.W) (⟨#[]⟩:ByteArray)).data).isSome=true/\((cR (jE (al c) 3 (ao p.W) (⟨#[]⟩:ByteArray)).data).getD qE).data.size≠0):=by have z:=w;rw[jr]at z;simpa [qA]using z
   rw[mO,aa d,tK hp,aa i];rw[show cj (jE (al c) 3 (ao p.W) oZ)=pE (jE (al c) 3 (ao p.W) oZ)from dZ b,wZ (d:=(jE (al c) 3 (ao p.W) oZ)) e];exact jj 0 R<|du
  have i: ¬(Ec (al c).U (ao p.W) 3=false/\tA (al c) true=true):=by have z:=u;show ¬(Ec c.U _ _=false/\_);simpa [iz]using z
  refine rW (vN (((al c).V).length)) R (cD ay ((al c).V))<|zW (vB (decide ((((al c).V).length)>0))) (ak (fq _ _))<|gS R id<|gS R id<|gS R id<|gS R id<|aw R id R<|zN R (by simp)<|zB R (λy=>?_) (λy=>?_)
  .have b:((al c).V≠[]\/c.halt=0):=by have z:=y;simpa [ey,fC]using z
   rw[mO,aa d,tK hp,dZ i];rw[show cj (al c)=(al c)from aa b];exact du
  have b: ¬((al c).V≠[]\/c.halt=0):=by have z:=y;simpa [ey,fC]using z
  refine zC (q0 (al c).data (eR a).ok.data)<|gS R id<|aw R id R<|zN R (λh=>h)<|aV R (λC=>?_) (λC=>?_)
  .have e:((cR (al c).data).isSome=true/\((cR (al c).data).getD qE).data.size≠0):=by have z:=C;rw[jr]at z;simpa [qA]using z
   have j:Ca.ok (al c).data:=(eR a).ok.data;refine qC 0 R<|zH R ((mq (al c) o (eR a) 4 (((cR (al c).data).getD qE).S) (((cR (al c).data).getD qE).data) ((eR a).gd.ZP) m r k q false ((al c).V.map ay) n s).fB (λz=>z)) ?_;rintro _ _ ⟨rfl,rfl⟩;refine a7<|oR 8 R<|aW R (Iu ((jE (al c) 4 (((cR (al c).data).getD qE).S) (((cR (al c).data).getD qE).data)).data) (((cR (al c).data).getD qE).S) j ((eR a).gd.ZP))<|oR 3 R<|a1 R<|rE 118 ?_;rw[mO,aa d,tK hp,dZ i];rw[show cj (al c)=pE (al c)from dZ b,uZ (d:=(al c)) e];exact ck 0 R<|du
  have e: ¬((cR (al c).data).isSome=true/\((cR (al c).data).getD qE).data.size≠0):=by have z:=C;rw[jr]at z;simpa [qA]using z
  rw[mO,aa d,tK hp,dZ i];rw[show cj (al c)=pE (al c)from dZ b,wZ (d:=(al c)) e];exact jj 0 R<|du
 have d: ¬((sL c.V c.data).2.2=false/\(al c).V≠[]):=by have z:=t;simpa [iz,fC]using z
 refine rW (vN (((al c).V).length)) R (cD ay ((al c).V))<|zW (vB (decide ((((al c).V).length)>0))) (ak (fq _ _))<|gS R id<|gS R id<|gS R id<|gS R id<|aw R id R<|zN R (by simp)<|zB R (λD=>?_) (λD=>?_)
 .have b:((al c).V≠[]\/c.halt=0):=by have z:=D;simpa [ey,fC]using z
  rw[mO,dZ d];rw[show cj (al c)=(al c)from aa b];exact du
 have b: ¬((al c).V≠[]\/c.halt=0):=by have z:=D;simpa [ey,fC]using z
 refine zC (q0 (al c).data (eR a).ok.data)<|gS R id<|aw R id R<|zN R (λh=>h)<|aV R (λE=>?_) (λE=>?_)
 .have e:((cR (al c).data).isSome=true/\((cR (al c).data).getD qE).data.size≠0):=by have z:=E;rw[jr]at z;simpa [qA]using z
  have j:Ca.ok (al c).data:=(eR a).ok.data;refine qC 0 R<|zH R ((mq (al c) o (eR a) 4 (((cR (al c).data).getD qE).S) (((cR (al c).data).getD qE).data) ((eR a).gd.ZP) m r k q false ((al c).V.map ay) n s).fB (λz=>z)) ?_;rintro _ _ ⟨rfl,rfl⟩;refine a7<|oR 8 R<|aW R (Iu ((jE (al c) 4 (((cR (al c).data).getD qE).S) (((cR (al c).data).getD qE).data)).data) (((cR (al c).data).getD qE).S) j ((eR a).gd.ZP))<|oR 3 R<|a1 R<|rE 95 ?_;rw[mO,dZ d];rw[show cj (al c)=pE (al c)from dZ b,uZ (d:=(al c)) e];exact ck 0 R<|du
 have e: ¬((cR (al c).data).isSome=true/\((cR (al c).data).getD qE).data.size≠0):=by have z:=E;rw[jr]at z;simpa [qA]using z
 rw[mO,dZ d];rw[show cj (al c)=pE (al c)from dZ b,wZ (d:=(al c)) e];exact jj 0 R<|du
end Go.Proofs.YtiaekocjeinkjaaGreatDoor
