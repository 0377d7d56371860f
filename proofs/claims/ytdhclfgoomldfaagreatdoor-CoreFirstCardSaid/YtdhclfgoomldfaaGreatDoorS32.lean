/- Lemmas. -/
import Derived.Test.YtdhclfgoomldfaaGreatDoorS1
import Derived.Test.YtdhclfgoomldfaaGreatDoorS30
import Derived.Test.YtdhclfgoomldfaaGreatDoorS31
set_option linter.all false
namespace Go.Proofs.YtdhclfgoomldfaaGreatDoor
open Go.Proofs.Tryz
set_option maxRecDepth 100000
set_option maxHeartbeats 4000000
open Go.RowKit
def pP{α}{l:List α}{k}(h:k<l.length):(eY l k).length=l.length:=by
 unfold eY;rw[aA h];simp;omega
def Cm{α}{l}{k}{x:α}(h:l[k]?=some x):eY l k=[x]++l.take k++l.drop (k+1):=by unfold eY;rw[h]
def pQ{α}{P:α->Prop}{l}{k}(h:∀x∈l,P x):∀x∈eY l k,P x:=by
 intro x hx;unfold eY at hx;rcases cx.1 hx with hx|hx
 ·rcases cx.1 hx with hx|hx
  ·split at hx
   ·rename_i y a;simp at hx;subst hx;exact h _ (aB a)
   simp at hx
  exact h _ (cQ hx)
 exact h _ (eT hx)
def kJ{c}(h:gG c=true):0<c.L.length∧c.L.length<=4∧c.ways<=2∧1<=c.ways∧∀s∈c.L,(s.length:Int)<=c.ways:=by
 let⟨⟨e,f⟩,a⟩:=(jL c).1 h;refine⟨oT,oT,oT,oT,λs d=>?_⟩;obtain⟨k,b,rfl⟩:=fY d;exact((jX c k _).1 (a k _ (aA b))).1
theorem Fd:∀{l:List Wy} {agY j:Nat},jY l agY=some j->j<l.length
 |[],_,_,h=>by cases h
 | w::l,agY,j,h=>by
  simp[jY]at h;split at h
  ·injection h with h;subst h;simp
  ·obtain⟨i,a,rfl⟩:=Gi.1 h;have:=Fd a;simp;omega
def vA{c}{k}{s}(h:c.L[k]?=some s):pF c k=s:=by unfold pF;rw[h];rfl
def AP{c:Ca}(h:0<c.L.length)(agY:Nat):ir c agY<c.L.length:=aQ _ h
def rI{c:Ca}{agY:Nat}(h:gG c=true):bK c agY=(ir c (ab agY),jY (pF c (ir c (ab agY))) (ab agY)):=aa h
def pR{c}{agY}(h:(bK c agY).2.isSome=true):gG c=true∧(bK c agY).1=ir c (ab agY)∧(bK c agY).1<c.L.length∧(bK c agY).2.getD 0<(pF c (bK c agY).1).length:=by
 by_cases a:gG c=true
 ·rw[rI a]at h⊢;let⟨j,d⟩:=FH.1 h;have b:jY _ _=some j:=d;refine⟨a,rfl,AP (kJ a).1 _,?_⟩;rw[b];exact Fd b
 unfold bK at h;rw[dZ a]at h;cases h
def Dw{c}{agY}(h:(bK c agY).2.isSome=true):tO c agY=rK c (bK c agY).1 (eY (pF c (bK c agY).1) ((bK c agY).2.getD 0)):=by
 unfold tO;let⟨j,a⟩:=FH.1 h;have e:bK c agY=((bK c agY).1,some j):=by rw[<-a]
 rw[e];rfl
def Dx{c}{agY}(h:(bK c agY).2.isSome=false):tO c agY=c:=by
 unfold tO;have a:(bK c agY).2=none:=sU h;have e:bK c agY=((bK c agY).1,none):=by rw[<-a]
 rw[e]
def A6(a b:Int):max a b=if b>a then b else a:=oT
def Ng(q)(b)(agY)(left)(a)(d)(e:q.length<=900000)(f:∀x∈q,x.ok)(c:agY<=4294967295):bI C0 142 [.X 4 (q.map ca) d,vI b,vU agY,vI left,.v (.string a)] (.X 4 ((Bi q b agY left a).map ca) false):=by
 refine bk func142 rfl<|rW _ rfl (cD ca q) ?_;refine rW _ rfl (ar (bH (aD e (aC 1)) rfl))<|zF (rfl) (⟨dT,FG.2 ad,by show(((q.length+1):Nat):Int)<=1000000;omega⟩)<|zF (iP ca ([]:List a5) q ad ad) (⟨by exact ad,by exact ad,trivial⟩)<|zW _ rfl<|rV _ rfl<|rV _ rfl<|zF (iP ca q ([(⟨b,agY,if 1>left then 1 else left,a⟩:a5)]) ad ad) (⟨by exact ad,by exact ad,trivial⟩)<|dK rfl (by show 0+(q.length+1)<=((q++([(⟨b,agY,if 1>left then 1 else left,a⟩:a5)])).map ca).length;exact ad) rfl ?_;show AV.X 4 _ false=_;rw[jW ca _ ad,show Bi q b agY left a=q++([(⟨b,agY,if 1>left then 1 else left,a⟩:a5)])from by unfold Bi;congr 3;exact A6 left 1]
abbrev P8(t:List a5×a5×Bool):AV:=.E [.X 4 (t.1.map ca) false,.agg (ca t.2.1),vB t.2.2]
def VL(q)(i)(n:q.length<=900000)(j:∀x∈q,x.ok):bI C0 70 [.X 4 (q.map ca) i] (P8 (eH q)):=by
 refine e_ func70 rfl<|rW (vN q.length) rfl (cD ca q)<|zW (vB (q.length==0)) (am (a6 _ _))<|zB rfl (λf=>?_) (λf=>?_)
 ·have d:=mT f;apply zV (.agg [vI 0,zU,vI 0,.v (.string (⟨#[]⟩:ByteArray))]);have k:q=[]:=g3 d;subst k;exact⟨_,rfl,trivial,rfl,Sub.E ⟨Sub.clip 4 _ i,Sub.refl _,Sub.refl _,trivial⟩⟩
 have d:=nA f;refine rW (vN q.length) rfl (cD ca q)<|zF (x:=.S 8 0 q.length false) (h':=ao _ 8 (some (.arr ((List.replicate q.length OU).map ca) 4))) (Ri (fH (f:=ca) (a:=OU)).symm) (⟨aG _,FG.2 ad,by show((q.length:Nat):Int)<=1000000;omega⟩)<|zF (x:=vI ((min ((q.map ca).length) (q.length):Nat):Int)) (h':=ao _ 8 (some (.arr (q.map ca) 4))) (II (DX ca ((List.replicate q.length OU).map ca) q ad ad)) (⟨by exact ad,trivial⟩)<|zM (.u 8 (0+0) 0) rfl (⟨dT,FF.2 (by show 0<q.length;exact ad)⟩) ?_;let⟨x,a⟩:=d7 q 0;have m:=j x (aB a);refine FO (ca x) rfl rfl rfl (⟨dT,Jv (iH a)⟩) rfl<|rV (vI (IntKind.wrap .i64 (x.left-1))) rfl<|zM (.u 8 (0+0) 0) rfl (⟨dT,FF.2 (by show 0<q.length;exact ad)⟩) ?_;have e:(q.set 0 (⟨x.kind,x.R,IntKind.wrap .i64 (x.left-1),x.data⟩:a5))[0]?=some (⟨x.kind,x.R,IntKind.wrap .i64 (x.left-1),x.data⟩:a5):=aZ ad;refine nM (ca x) (h':=ao _ 8 (some (.arr ((q.set 0 (⟨x.kind,x.R,IntKind.wrap .i64 (x.left-1),x.data⟩:a5)).map ca) 4))) rfl rfl rfl (⟨dT,Jv (iH a)⟩) (vX (x:=(⟨x.kind,x.R,IntKind.wrap .i64 (x.left-1),x.data⟩:a5)))<|qR 0 rfl<|zM (.u 8 (0+0) 0) rfl (⟨dT,FF.2 (by show 0<q.length;exact ad)⟩)<|FO (ca (⟨x.kind,x.R,IntKind.wrap .i64 (x.left-1),x.data⟩:a5)) (x:=vI (IntKind.wrap .i64 (x.left-1))) rfl rfl rfl (⟨dT,Jv (iH e)⟩) rfl<|cN (decide ((IntKind.wrap .i64 (x.left-1))>0)) (λg=>?_) (λg=>?_)
 ·have b:=bj g;apply zV (.agg [vI 0,zU,vI 0,.v (.string (⟨#[]⟩:ByteArray))])
  try simp only[af]at b
  let⟨l,c⟩:∃l,q=x::l:=by cases q with|nil=>cases a|cons y l=>injection a with a;subst a;exact⟨l,rfl⟩
  have h:eH q=({x with left:=wrap64 (x.left-1)}::l,OU,false):=by rw[c];unfold eH;simp only[aa b]
  rw[h];refine dK rfl ⟨(by show 0+q.length<=((q.set 0 (⟨x.kind,x.R,IntKind.wrap .i64 (x.left-1),x.data⟩:a5)).map ca).length;exact ad),hD,trivial,trivial⟩ rfl ?_;show AV.E [.X 4 (List.take q.length (List.drop 0 ((q.set 0 (⟨x.kind,x.R,IntKind.wrap .i64 (x.left-1),x.data⟩:a5)).map ca))) false,.agg [vI 0,zU,vI 0,.v (.string (⟨#[]⟩:ByteArray))],vB false]=_;rw[jW ca (q.set 0 (⟨x.kind,x.R,IntKind.wrap .i64 (x.left-1),x.data⟩:a5)) ad,c];simp only[af,gM]
  try rfl
 have b:=aF g;refine pO rfl rfl<|oR 1 rfl<|nW (.S 8 1 (q.length-1) false) rfl (LR (by first|rfl|omega) (by simp only[Option.getD];omega)) g7<|oR 1 rfl<|nW (.u 8 (0+0) 0) rfl rfl (⟨dT,FF.2 (by show 0<q.length;exact ad)⟩)<|FO (ca (⟨x.kind,x.R,IntKind.wrap .i64 (x.left-1),x.data⟩:a5)) rfl rfl rfl (⟨dT,Jv (iH e)⟩) rfl<|oR 1 rfl<|a_ rfl<|oR 1 rfl<|rE 34<|And.intro (by kernel_rfl)<|dh 0 rfl ?_
 try simp only[af]at b
 let⟨l,c⟩:∃l,q=x::l:=by cases q with|nil=>cases a|cons y l=>injection a with a;subst a;exact⟨l,rfl⟩
 have h:eH q=(l,{x with left:=wrap64 (x.left-1)},true):=by rw[c];unfold eH;simp only[dZ b]
 rw[h];refine dK rfl ⟨(by show 1+(q.length-1)<=((q.set 0 (⟨x.kind,x.R,IntKind.wrap .i64 (x.left-1),x.data⟩:a5)).map ca).length;exact ad),hD,trivial,trivial⟩ rfl ?_;show AV.E [.X 4 (List.take (q.length-1) (List.drop 1 ((q.set 0 (⟨x.kind,x.R,IntKind.wrap .i64 (x.left-1),x.data⟩:a5)).map ca))) false,.agg [vI x.kind,vU x.R,vI (IntKind.wrap .i64 (x.left-1)),.v (.string x.data)],vB true]=_;rw[Cp ca (q.set 0 (⟨x.kind,x.R,IntKind.wrap .i64 (x.left-1),x.data⟩:a5)) (aN ad),c];simp[af,gM,List.drop_succ_cons,bS]
 try rfl
def rb(s)(k)(c)(d:k<s.length)(f:s.length<=900000)(e:∀x∈s,x.ok):bI C0 122 [.X 3 (s.map a7) c,vN k] (.X 3 ((eY s k).map a7) false):=by
 refine bk func122 rfl<|rW _ rfl (cD a7 s)<|zF (rfl) (⟨dT,FG.2 ad,by show((s.length:Nat):Int)<=1000000;omega⟩) ?_;let⟨x,a⟩:=d7 s k;refine zX _ (.dp 3 0 (a7 x)) rfl (iH a)<|rV _ rfl<|zF (iP a7 ([]:List Wy) ([x]) ad ad) (⟨by exact ad,by exact ad,trivial⟩)<|nW _ rfl (yB (vY a7 s k)) g7<|zF (iP a7 ([x]) (s.take k) ad ad) (⟨by exact ad,by exact ad,trivial⟩) ?_;have b:k+1<=900001:=aD ad (aC 1);refine rW _ rfl (ar (bH b rfl))<|nW _ rfl (yB (Kr a7 s (k+1))) g7<|zF (x:=.S 24 0 (1+k+s.length-(k+1)) false) (iP a7 (([x])++(s.take k)) (s.drop (k+1)) ad ad) (⟨by exact ad,by exact ad,trivial⟩)<|dK rfl (by show 0+(1+k+s.length-(k+1))<=(((([x])++(s.take k))++(s.drop _)).map a7).length;exact ad) rfl ?_;show AV.X 3 _ false=_;rw[jW a7 _ ad,Cm a]
def VM(s)(k)(c)(e:k<s.length)(g:s.length<=900000)(f:∀x∈s,x.ok):pM C0.P C0.G 122 [.X 3 (s.map a7) c,vN k] (ap []) 0 (λx h'=>x=.S 0 0 s.length false∧h'=ap [(0,.arr ((eY s k).map a7) 3)]):=by
 refine HCall.intro gq.at func122 rfl rfl (by kernel_rfl) rfl rfl<|qS 0 rfl<|rW _ rfl (cD a7 s)<|zF (rfl) (⟨dT,FG.2 ad,by show((s.length:Nat):Int)<=1000000;omega⟩) ?_;let⟨x,a⟩:=d7 s k;refine zX (a7 x) (.dp 3 0 (a7 x)) rfl (iH a)<|rV (.X 3 ([[vU x.R,vB x.Z',.v (.string x.data)]]) true) rfl<|zF (iP a7 ([]:List Wy) ([x]) ad ad) (⟨by exact ad,by exact ad,trivial⟩)<|nW _ rfl (yB (vY a7 s k)) g7<|zF (iP a7 ([x]) (s.take k) ad ad) (⟨by exact ad,by exact ad,trivial⟩) ?_;have b:k+1<=900001:=aD ad (aC 1);refine rW _ rfl (ar (bH b rfl))<|nW _ rfl (yB (Kr a7 s (k+1))) g7<|zF (x:=.S 24 0 (1+k+s.length-(k+1)) false) (h':=ao (ao _ 17 none) 24 (some (.arr (((([x])++(s.take k))++(s.drop (k+1))).map a7) 3))) (iP a7 (([x])++(s.take k)) (s.drop (k+1)) ad ad) (⟨by exact ad,by exact ad,trivial⟩) ?_;have d:1+k+s.length-(k+1)=s.length:=oT;refine BH (rs:=[.S 24 0 (1+k+s.length-(k+1)) false]) rfl (r:=.S 0 0 s.length false) (σ:=λ_=>24) a9 rfl (ah (λ_=>24) ?_ rfl ⟨⟨rfl,?_,rfl⟩,trivial⟩ rfl)
 ·show AV.S 24 0 (1+k+s.length-(k+1)) false=.S 24 0 s.length false;rw[d]
 show some (bh.arr (((([x])++(s.take k))++(s.drop (k+1))).map a7) 3)=some (bh.arr ((eY s k).map a7) 3);rw[(Cm a).symm]
def LP(c)(k)(s)(d:c.ok)(e:k<c.L.length)(b:c.L.length<=900000)(g:s.length<=900000)(f:∀x∈s,x.ok):bI C0 123 [.agg (fv c false),vN k,.X 3 (s.map a7) false] (.agg (fv (rK c k s) false)):=by
 refine bk func123 rfl<|rW _ rfl (cD bX c.L)<|zF (rfl) (⟨aG _,iF _,by show((c.L.length:Nat):Int)<=1000000;have:=b;omega⟩)<|zF (II (DX bX (List.replicate c.L.length [.X 0 ([]) true]) c.L ad ad)) (⟨by exact ad,trivial⟩)<|nW _ rfl rfl ez ?_;let⟨h,a⟩:=d7 c.L k;refine nM _ rfl rfl rfl (⟨aG _,Jv (iH a)⟩) (vX)<|qR 0 rfl<|zV (.agg [vI c.ways,.S 5 0 c.L.length false])<|dK rfl ⟨trivial,(by show 0+c.L.length<=((c.L.set k s).map bX).length;exact ad),trivial⟩ rfl ?_;show AV.agg [vI c.ways,.X 1 _ false]=_;rw[jW bX _ ad];exact az (λz=>AV.agg ((λz=>fv z false) z)) (rfl:(⟨c.ways,c.L.set k s⟩:Ca)=rK c k s)
def As(c)(agY)(e:c.ok)(a:agY<=4294967295):bI C0 93 [.agg (fv c false),vU agY] (.E [vN (bK c agY).1,vN ((bK c agY).2.getD 0),vB (bK c agY).2.isSome]):=by
 refine bk func93 rfl<|zC (AW c false e)<|zB rfl (λg=>?_) (λg=>?_)
 ·have b:gG c=false:=sU g;exact fT rfl (by unfold bK;rw[dZ (by rw[b];decide)];rfl)
 have b:gG c=true:=sU g;let⟨f,j,m,l,h⟩:=kJ b;have i:=AP f (ab agY);refine zC (tN agY a)<|zC (VO c (ab agY) false f ad (dV a)) ?_;obtain⟨s,d⟩:=d7 c.L (ir c _);have k:s.length<=2:=oH (h s (aB d));exact zX _ (.dp 1 0 (bX s)) rfl (iH d)<|zC (VP s (ab agY) false ad (e.set s (aB d)).2 (dV a))<|fT rfl (by rw[rI b,vA d];rfl)
def AQ(c)(agY):(bK c agY).1<=4∧(bK c agY).2.getD 0<=2:=by
 by_cases h:gG c=true
 ·let⟨b,i,f,e,d⟩:=kJ h;rw[rI h];have a:=AP b (ab agY);refine⟨by show ir _ _<=4;omega,?_⟩;show(jY _ _).getD 0<=2
  cases hp:jY _ (ab agY)with
  |none=>exact aE _
  |some j=>
   have:=Fd hp;rw[vA (aA a)]at this;have g:=d _ (jO a);show j<=2;omega
 ·unfold bK;rw[dZ h];exact⟨aE _,aE _⟩
def It(c)(agY)(b:c.ok)(e:agY<=4294967295):bI C0 97 [.agg (fv c false),vU agY] (.agg (fv (tO c agY) false)):=by
 apply e_ func97 rfl;have n:=AQ c agY;refine zC (As c agY b e)<|zB rfl (λi=>?_) (λi=>?_)
 ·have d:(bK c agY).2.isSome=false:=sU i;exact dK rfl ⟨trivial,trivial,trivial⟩ rfl (by rw[Dx d];rfl)
 have d:(bK c agY).2.isSome=true:=sU i;let⟨l,m,j,a⟩:=pR d;let⟨o,q,u,t,k⟩:=kJ l;refine a8<|oR 5 rfl ?_;let⟨s,f⟩:=d7 c.L ((bK c agY).1);have h:=b.set s (aB f);have g:=vA f;rw[g]at a;have r:s.length<=2:=oH (k s (aB f));exact ji _ _ rfl rfl (iH f) rfl<|oR 2 rfl<|a1 rfl (rb s ((bK c agY).2.getD 0) false a ad h.2)<|a1 rfl (LP c ((bK c agY).1) (eY s ((bK c agY).2.getD 0)) b j ad (by rw[pP a];omega) (pQ h.2))<|a_ rfl<|rE 25<|dh 0 rfl<|dK rfl ⟨trivial,trivial,trivial⟩ rfl (by rw[Dw d,g];rfl)
def Fe{α}{f}{l}{x:α}(h:l[0]?=some x):kR f l=l.set 0 (f x):=by
 cases l with
 |nil=>cases h
 |cons y l=>injection h with h;subst h;rfl
def GU{α}(l)(x:α)(n)(a:n=l.length):eY (l++[x]) n=x::l:=by
 subst a;rw[Cm (x:=x) (by simp)];simp
def Nh{c}(h:gG c=false)(agY)(d)(b):qZ c agY d b=(c,qE,false):=by unfold qZ;rw[dZ (by rw[h];decide)]
def Cn{c}{agY}(a:(bK c agY).2.isSome=true)(d)(b):qZ c agY d b=(rK c (bK c agY).1 (kR (λw=>{w with data:=if(dC d).size=0 then w.data else dC d,Z':=w.Z'||b}) (eY (pF c (bK c agY).1) ((bK c agY).2.getD 0))),qE,false):=by
 unfold qZ;let⟨j,f⟩:=FH.1 a;have e:bK c agY=((bK c agY).1,some j):=by rw[<-f]
 rw[aa (pR a).1,e];rfl
def AR{c}{agY}(f:gG c=true)(a:(bK c agY).2.isSome=false)(d)(b):qZ c agY d b=if((pF c (bK c agY).1).length:Int)=c.ways then(rK c (bK c agY).1 (⟨ab agY,b,dC d⟩::(pF c (bK c agY).1).dropLast),(pF c (bK c agY).1).getLast?.getD qE,true)else(rK c (bK c agY).1 (⟨ab agY,b,dC d⟩::pF c (bK c agY).1),qE,false):=by
 unfold qZ;have g:(bK c agY).2=none:=sU a;have e:bK c agY=((bK c agY).1,none):=by rw[<-g]
 rw[aa f,e]
abbrev C2(p:Ca×Wy×Bool):AV:=.E [.agg (fv p.1 false),.agg (a7 p.2.1),vB p.2.2]
def oj(d:ByteArray):d.toList.length=d.size:=by
 rw[ByteArray.toList_eq];exact cV
def Uk{d:ByteArray}(h: ¬d.size=0):(!(d.toList==(⟨#[]⟩:ByteArray).toList))=true:=by
 cases a:d.toList==(⟨#[]⟩:ByteArray).toList with
 |false=>rfl
 |true=>
  have:=az List.length (eq_of_beq a);rw[oj,oj]at this;exact absurd this h
def jd(d:ByteArray):(d.toList==(⟨#[]⟩:ByteArray).toList)=decide (d.size=0):=by
 by_cases h:d.size=0
 ·rw[jP h];have e:d.toList=(⟨#[]⟩:ByteArray).toList:=by rw[ByteArray.toList_eq,ByteArray.toList_eq];exact g3 (by rw[cV];exact h)
  rw[e];exact q3 _
 rw[sW h];have:=Uk h;simpa using this
def yt{d:ByteArray}(h:(!(d.toList==(⟨#[]⟩:ByteArray).toList))=true): ¬d.size=0:=by rw[jd]at h;simpa using h
def yu{d:ByteArray}(h:(!(d.toList==(⟨#[]⟩:ByteArray).toList))=false):d.size=0:=by rw[jd]at h;simpa using h
def OO{d:ByteArray}(h: ¬d.size=16):dC d=oZ:=dZ h
def LQ{d:ByteArray}(h:d.size=16):dC d=d:=aa h
def Re(c)(agY)(a)(b)(f:c.ok)(d:agY<=4294967295):bI C0 74 [.agg (fv c false),vU agY,.v (.string a),.v (.bool b)] (C2 (qZ c agY a b)):=by
 apply e_ func74 rfl;have H:=AQ c agY;refine zC (AW c false f)<|aV rfl (λx=>?_) (λx=>?_)
 ·have o:gG c=false:=sU x;refine qC 0 rfl<|zV (.agg [zU,vB false,.v (.string (⟨#[]⟩:ByteArray))]) ?_;rw[Nh o];exact fT rfl rfl
 have o:gG c=true:=sU x;let⟨F,K,M,L,t⟩:=kJ o;have m:(bK c agY).1<c.L.length:=by rw[rI o];exact AP F _
 refine pq 0 0 rfl<|Fq (κ:=Unit) (λG=>⟨be [(1,vU agY),(2,.v (.string (dC a))),(3,vB b),(4,.ptr 0 0),(8,.ptr 1 0),(9,.ptr 2 0),(10,vB false)],ap [(0,.box [vI c.ways,.X 1 (c.L.map bX) false]),(1,.box [vI 0,.X 0 ([]) true]),(2,.box [zU,vB false,.v (.string (⟨#[]⟩:ByteArray))])],7⟩) (λG=>True) ?_ ?_
 ·refine qS 0 rfl<|rV (vN a.size) rfl<|zW (vB (a.size != 16)) (am (db _ _))<|zB rfl (λy=>?_) (λy=>?_)
  ·have D:=wM y;refine .mk _ (.refl _) ⟨(),λs=>s,av _ ⟨a9,⟨(az (λz=>AV.v (.string z)) (show(⟨#[]⟩:ByteArray)=dC a from(OO ad).symm)),rfl⟩,a9,a9,a9,a9,a9,trivial⟩ wH rfl,rfl,trivial⟩
  have D:=wN y;refine .mk _ (.refl _) ⟨(),λs=>s,av _ ⟨a9,⟨(az (λz=>AV.v (.string z)) (show a=dC a from(LQ ad).symm)),rfl⟩,a9,a9,a9,a9,a9,trivial⟩ wH rfl,rfl,trivial⟩
 intro G _;refine qC 0 rfl<|zC (As c agY f d)<|aV rfl (λA=>?_) (λA=>?_)
 ·have n:(bK c agY).2.isSome=true:=sU A;have r:=(pR n).2.2.2;let⟨s,j⟩:=d7 c.L ((bK c agY).1);have e:=f.set s (aB j);have h:=vA j;have k:s.length<=2:=oH (t s (aB j));rw[h]at r;have I:=pP r;refine qC 0 rfl<|zX (bX s) (.dp 1 0 (bX s)) rfl (iH j)<|zH rfl ((VM s ((bK c agY).2.getD 0) false ad ad e.2).Zk _ _ rfl) ?_;rintro _ _ ⟨rfl,rfl⟩;refine zV (vB (!((dC a).toList==(⟨#[]⟩:ByteArray).toList)))<|aV rfl (λB=>?_) (λB=>?_)
  ·refine qC 0 rfl<|zM (.u 24 (0+0) 0) rfl (⟨dT,FF.2 (by show 0<s.length;exact ad)⟩) ?_;let⟨w,l⟩:=d7 (eY s ((bK c agY).2.getD 0)) 0;have u:=(pQ e.2) w (aB l);have v:((eY s ((bK c agY).2.getD 0)).set 0 (⟨w.R,w.Z',(dC a)⟩:Wy))[0]?=some (⟨w.R,w.Z',(dC a)⟩:Wy):=aZ ad;refine nM (a7 w) (h':=ao _ 24 (some (.arr (((eY s ((bK c agY).2.getD 0)).set 0 (⟨w.R,w.Z',(dC a)⟩:Wy)).map a7) 3))) rfl rfl rfl (⟨dT,Jv (iH l)⟩) (vX (l:=eY s ((bK c agY).2.getD 0)) (k:=0) (x:=(⟨w.R,w.Z',(dC a)⟩:Wy)))<|lq 0 0 rfl<|FP<|qS 0 rfl<|zM (.u 24 (0+0) 0) rfl (⟨dT,FF.2 (by show 0<s.length;exact ad)⟩)<|FO (a7 (⟨w.R,w.Z',(dC a)⟩:Wy)) (x:=vB w.Z') rfl rfl rfl (⟨dT,Jv (iH v)⟩) rfl<|qR 0 rfl<|bO rfl rfl rfl (by simp)<|zM (.u 24 (0+0) 0) rfl (⟨dT,FF.2 (by show 0<s.length;exact ad)⟩) ?_;have N:(((eY s ((bK c agY).2.getD 0)).set 0 (⟨w.R,w.Z',(dC a)⟩:Wy)).set 0 (⟨w.R,cE w.Z' true b,(dC a)⟩:Wy))[0]?=some (⟨w.R,cE w.Z' true b,(dC a)⟩:Wy):=aZ ad;refine nM (a7 (⟨w.R,w.Z',(dC a)⟩:Wy)) (h':=ao _ 24 (some (.arr ((((eY s ((bK c agY).2.getD 0)).set 0 (⟨w.R,w.Z',(dC a)⟩:Wy)).set 0 (⟨w.R,cE w.Z' true b,(dC a)⟩:Wy)).map a7) 3))) rfl rfl rfl (⟨dT,Jv (iH v)⟩) (vX (x:=(⟨w.R,cE w.Z' true b,(dC a)⟩:Wy)))<|dc 0 rfl<| .mk _ (.step (some (24,3,(((eY s ((bK c agY).2.getD 0)).set 0 (⟨w.R,w.Z',(dC a)⟩:Wy)).set 0 (⟨w.R,cE w.Z' true b,(dC a)⟩:Wy)).map a7)) (e' (l:=[(1,vU agY),(2,.v (.string (dC a))),(3,vB b),(4,.ptr 0 0),(8,.ptr 1 0),(9,.ptr 2 0),(10,vB false),(11,vN ((bK c agY).1)),(35,vB ((bK c agY).2.isSome)),(14,.X 3 ((((eY s ((bK c agY).2.getD 0)).set 0 (⟨w.R,w.Z',(dC a)⟩:Wy)).set 0 (⟨w.R,cE w.Z' true b,(dC a)⟩:Wy)).map a7) false),(44,vB (!((dC a).toList==(⟨#[]⟩:ByteArray).toList)))]) (hp:=[(0,.box [vI c.ways,.X 1 (c.L.map bX) false]),(1,.box [vI 0,.X 0 ([]) true]),(2,.box [zU,vB false,.v (.string (⟨#[]⟩:ByteArray))])]) rfl jr j_) (.refl _))<|qC 0 rfl<|a1 rfl (LP c ((bK c agY).1) (((eY s ((bK c agY).2.getD 0)).set 0 (⟨w.R,w.Z',(dC a)⟩:Wy)).set 0 (⟨w.R,cE w.Z' true b,(dC a)⟩:Wy)) f m ad (by first|exact ad|(rw[pP ad];exact ad)) (kk (P:=Wy.ok) (kk (P:=Wy.ok) (pQ e.2) ⟨u.R⟩) ⟨u.R⟩))<|zV (.agg [zU,vB false,.v (.string (⟨#[]⟩:ByteArray))]) ?_;rw[Cn n,h,Fe l,dZ (yt B)]
   try rw[lO]
   try rw[lO]
   exact fT rfl (by simp[ae,lO];rfl)
  refine pq 0 0 rfl<|FP<|qS 0 rfl<|zM (.u 24 (0+0) 0) rfl (⟨dT,FF.2 (by show 0<s.length;exact ad)⟩) ?_;let⟨w,l⟩:=d7 (eY s ((bK c agY).2.getD 0)) 0;refine FO (a7 w) (x:=vB w.Z') rfl rfl rfl (⟨dT,Jv (iH l)⟩) rfl<|qR 0 rfl<|bO rfl rfl rfl (by simp)<|zM (.u 24 (0+0) 0) rfl (⟨dT,FF.2 (by show 0<s.length;exact ad)⟩) ?_;have O:((eY s ((bK c agY).2.getD 0)).set 0 (⟨w.R,cE w.Z' true b,w.data⟩:Wy))[0]?=some (⟨w.R,cE w.Z' true b,w.data⟩:Wy):=aZ ad;refine nM (a7 w) (h':=ao _ 24 (some (.arr (((eY s ((bK c agY).2.getD 0)).set 0 (⟨w.R,cE w.Z' true b,w.data⟩:Wy)).map a7) 3))) rfl rfl rfl (⟨dT,Jv (iH l)⟩) (vX (x:=(⟨w.R,cE w.Z' true b,w.data⟩:Wy)))<|dc 0 rfl<| .mk _ (.step (some (24,3,((eY s ((bK c agY).2.getD 0)).set 0 (⟨w.R,cE w.Z' true b,w.data⟩:Wy)).map a7)) (e' (l:=[(1,vU agY),(2,.v (.string (dC a))),(3,vB b),(4,.ptr 0 0),(8,.ptr 1 0),(9,.ptr 2 0),(10,vB false),(11,vN ((bK c agY).1)),(35,vB ((bK c agY).2.isSome)),(14,.X 3 (((eY s ((bK c agY).2.getD 0)).set 0 (⟨w.R,cE w.Z' true b,w.data⟩:Wy)).map a7) false),(44,vB (!((dC a).toList==(⟨#[]⟩:ByteArray).toList)))]) (hp:=[(0,.box [vI c.ways,.X 1 (c.L.map bX) false]),(1,.box [vI 0,.X 0 ([]) true]),(2,.box [zU,vB false,.v (.string (⟨#[]⟩:ByteArray))])]) rfl jr j_) (.refl _))<|qC 0 rfl<|a1 rfl (LP c ((bK c agY).1) ((eY s ((bK c agY).2.getD 0)).set 0 (⟨w.R,cE w.Z' true b,w.data⟩:Wy)) f m ad (by first|exact ad|(rw[pP ad];exact ad)) (kk (P:=Wy.ok) (pQ e.2) ⟨((pQ e.2) w (aB l)).R⟩))<|zV (.agg [zU,vB false,.v (.string (⟨#[]⟩:ByteArray))]) ?_;rw[Cn n,h,Fe l,aa (yu B)]
  try rw[lO]
  exact fT rfl (by simp[ae,lO];rfl)
 have n:(bK c agY).2.isSome=false:=sU A;let⟨s,j⟩:=d7 c.L ((bK c agY).1);have e:=f.set s (aB j);have h:=vA j;have k:s.length<=2:=oH (t s (aB j));refine qC 0 rfl<|zX (bX s) (.dp 1 0 (bX s)) rfl (iH j)<|pO rfl rfl<|rV (.agg [zU,vB false,.v (.string (⟨#[]⟩:ByteArray))]) rfl<|oR 1 rfl<|rW (vN s.length) rfl (cD a7 s)<|oR 2 rfl<|rV (vB (((s.length:Nat):Int)==c.ways)) rfl<|e4 30 rfl rfl<|a_ rfl<|oR 1 rfl<|rE 33<|And.intro (by kernel_rfl)<|jq 0 rfl<|aV rfl (λi=>?_) (λi=>?_)
 ·have E:=mT i
  try have q:(s.length:Int)=c.ways:=sU i
  try have q: ¬(s.length:Int)=c.ways:=sU i
  refine qC 0 rfl<|rW (vN s.length) rfl (cD a7 s) ?_;have P:s.length-1<=2:=aL (jT _ _) k;refine zW (vN (s.length-1)) (ar (DA ad k rfl))<|pO rfl rfl<|oR 2 rfl ?_;let⟨g,C⟩:=d7 s (s.length-1);have J:=e.2 g (aB C);refine ji (a7 g) (.dp 3 0 (a7 g)) rfl rfl (iH C) rfl<|oR 3 rfl<|nW (.X 3 ((s.take (s.length-1)).map a7) false) rfl (yB (vY a7 s (s.length-1))) g7<|a_ rfl<|oR 1 rfl<|rE 47<|And.intro (by kernel_rfl)<|qX 0 rfl<|rW (vN (s.length-1)) rfl (vW a7 (s.take (s.length-1)) ad) ?_;refine rW (vN ((s.length-1)+1)) rfl (ar (bH (aD (by have:=k;exact ad) (aC 1)) rfl))<|zF (rfl) (⟨dT,FG.2 ad,by show((((s.length-1)+1):Nat):Int)<=1000000;omega⟩)<|e5 rfl rfl (iP a7 ([]:List Wy) (s.take (s.length-1)) ad ad) (⟨by exact ad,by exact ad,trivial⟩)<|lq 0 0 rfl<|FP<|qS 0 rfl<|zC (tN agY d)<|rV (.agg [vU (ab agY),vB b,.v (.string (dC a))]) rfl<|rV (.X 3 ([[vU (ab agY),vB b,.v (.string (dC a))]]) true) rfl<|zF (iP a7 (s.take (s.length-1)) ([(⟨ab agY,b,(dC a)⟩:Wy)]) ad ad) (⟨by exact ad,by exact ad,trivial⟩)<| .mk _ (.step (some (63,3,((s.take (s.length-1))++([(⟨ab agY,b,(dC a)⟩:Wy)])).map a7)) (e' (l:=[(4,.ptr 0 0),(8,.ptr 1 0),(9,.ptr 2 0),(10,vB false),(11,vN ((bK c agY).1)),(35,vB ((bK c agY).2.isSome)),(15,.X 3 ((s.take (s.length-1)).map a7) false),(16,.ptr 30 0),(17,vB (((s.length:Nat):Int)==c.ways)),(75,vB (((s.length:Nat):Int)==c.ways)),(19,.X 3 (((s.take (s.length-1))++([(⟨ab agY,b,(dC a)⟩:Wy)])).map a7) false)]) (hp:=[(0,.box [vI c.ways,.X 1 (c.L.map bX) false]),(1,.box [vI 0,.X 0 ([]) true]),(2,.box [zU,vB false,.v (.string (⟨#[]⟩:ByteArray))]),(30,.box (a7 g))]) rfl jr j_) (.refl _))<|j9 0 rfl<|pO rfl rfl<|oR 4 rfl<|rW (vN (s.length-1)) rfl (vW a7 (s.take (s.length-1)) ad)<|a1 rfl (rb ((s.take (s.length-1))++([(⟨ab agY,b,(dC a)⟩:Wy)])) (s.length-1) false ad ad (sJ (zD e.2) (sK (P:=Wy.ok) ⟨(dV d)⟩)))<|a1 rfl (LP c ((bK c agY).1) (eY ((s.take (s.length-1))++([(⟨ab agY,b,(dC a)⟩:Wy)])) (s.length-1)) f m ad (by first|exact ad|(rw[pP ad];exact ad)) (pQ (sJ (zD e.2) (sK (P:=Wy.ok) ⟨(dV d)⟩))))<|oR 2 rfl<|a_ rfl<|a_ rfl<|oR 1 rfl<|rE 77<|And.intro (by kernel_rfl)<|dh 0 rfl ?_;rw[AR o n,h,aa q];apply fT rfl;rw[GU _ _ _ ad,i,<-ka,show s.getLast?.getD qE=g from by rw[oX,C];rfl]
  try rfl
 have E:=nA i
 try have q:(s.length:Int)=c.ways:=sU i
 try have q: ¬(s.length:Int)=c.ways:=sU i
 refine qC 0 rfl<|rW (vN s.length) rfl (cD a7 s) ?_;refine rW (vN (s.length+1)) rfl (ar (bH (aD k (aC 1)) rfl))<|zF (rfl) (⟨dT,FG.2 ad,by show(((s.length+1):Nat):Int)<=1000000;omega⟩)<|e5 rfl rfl (iP a7 ([]:List Wy) s ad ad) (⟨by exact ad,by exact ad,trivial⟩)<|lq 0 0 rfl<|FP<|qS 0 rfl<|zC (tN agY d)<|rV (.agg [vU (ab agY),vB b,.v (.string (dC a))]) rfl<|rV (.X 3 ([[vU (ab agY),vB b,.v (.string (dC a))]]) true) rfl<|zF (iP a7 s ([(⟨ab agY,b,(dC a)⟩:Wy)]) ad ad) (⟨by exact ad,by exact ad,trivial⟩)<| .mk _ (.step (some (50,3,(s++([(⟨ab agY,b,(dC a)⟩:Wy)])).map a7)) (e' (l:=[(4,.ptr 0 0),(8,.ptr 1 0),(9,.ptr 2 0),(10,vB false),(11,vN ((bK c agY).1)),(35,vB ((bK c agY).2.isSome)),(15,.X 3 (s.map a7) false),(16,.ptr 30 0),(17,vB (((s.length:Nat):Int)==c.ways)),(75,vB (((s.length:Nat):Int)==c.ways)),(19,.X 3 ((s++([(⟨ab agY,b,(dC a)⟩:Wy)])).map a7) false)]) (hp:=[(0,.box [vI c.ways,.X 1 (c.L.map bX) false]),(1,.box [vI 0,.X 0 ([]) true]),(2,.box [zU,vB false,.v (.string (⟨#[]⟩:ByteArray))]),(30,.box [zU,vB false,.v (.string (⟨#[]⟩:ByteArray))])]) rfl jr j_) (.refl _))<|j9 0 rfl<|pO rfl rfl<|oR 4 rfl<|rW (vN s.length) rfl (cD a7 s)<|a1 rfl (rb (s++([(⟨ab agY,b,(dC a)⟩:Wy)])) s.length false ad ad (sJ e.2 (sK (P:=Wy.ok) ⟨(dV d)⟩)))<|a1 rfl (LP c ((bK c agY).1) (eY (s++([(⟨ab agY,b,(dC a)⟩:Wy)])) s.length) f m ad (by first|exact ad|(rw[pP ad];exact ad)) (pQ (sJ e.2 (sK (P:=Wy.ok) ⟨(dV d)⟩))))<|oR 2 rfl<|a_ rfl<|a_ rfl<|oR 1 rfl<|rE 64<|And.intro (by kernel_rfl)<|dh 0 rfl ?_;rw[AR o n,h,dZ q];apply fT rfl;rw[GU _ _ _ ad,i]
 try rfl
def Xn{a:Nat}(h:a<=4294967295):IntKind.wrap .u32 ((a:Int)-((ab a:Nat):Int))=((a%16:Nat):Int):=by
 rw[Gn (dV h) rfl];have:(a+4294967296-ab a)%4294967296=a%16:=by unfold ab;omega
 rw[this]
def Ul{c:Ca}{k j:Nat}{s:List Wy}{x:Wy}(a:gG c=true)(b:c.L[k]?=some s)(d:s[j]?=some x):x.data.size=0∨x.data.size=16:=
 (((jX c k s).1 (((jL c).1 a).2 k s b)).2 j x d).2.2.1
def GV{c}{a}(b)(d:(bK c a).2.isSome=false):xL c a b=(c,false):=by
 unfold xL;have f:(bK c a).2=none:=sU d;have e:bK c a=((bK c a).1,none):=by rw[<-f]
 rw[e]
def At{c}{a}{s}{x}(b)(i:(bK c a).2.isSome=true)(g:pF c (bK c a).1=s)(d:s[(bK c a).2.getD 0]?=some x):
  xL c a b=if x.data.size=0∨b.size+a%16>16 then(c,false)else(rK c (bK c a).1 (kR (λw=>{w with data:=Fk w.data (a%16) b,Z':=true}) (eY s ((bK c a).2.getD 0))),true):=by
 unfold xL;let⟨j,f⟩:=FH.1 i;have e:bK c a=((bK c a).1,some j):=by rw[<-f]
 rw[f]at d⊢;have k:(pF c (bK c a).1)[j]?=some x:=by rw[g];exact d
 rw[e];have h:s[j]?=some x:=d;simp only[g,h];rfl
def Rf{α}{l}{k}{x:α}(h:l[k]?=some x):(eY l k)[0]?=some x:=by rw[Cm h];rfl
abbrev P'(p:Ca×Bool):AV:=.E [.agg (fv p.1 false),vB p.2]
def Um(c)(a)(bytes)(h:c.ok)(b:a<=4294967295):bI C0 145 [.agg (fv c false),vU a,.v (.string bytes)] (P' (xL c a bytes)):=by
 apply e_ func145 rfl;have D:=AQ c a;refine zC (As c a h b)<|aV rfl (λm=>?_) (λm=>?_)
 ·have g:(bK c a).2.isSome=false:=sU m;apply i' 0 rfl;rw[GV bytes g];exact fT rfl rfl
 have g:(bK c a).2.isSome=true:=sU m;let⟨r,C,q,k⟩:=pR g;let⟨F,G,J,I,t⟩:=kJ r;let⟨s,e⟩:=d7 c.L ((bK c a).1);have d:=h.set s (aB e);have i:=vA e;rw[i]at k;have H:s.length<=2:=oH (t s (aB e));have E:=pP k;refine qC 0 rfl<|zX (bX s) (.dp 1 0 (bX s)) rfl (iH e) ?_;let⟨x,f⟩:=d7 s ((bK c a).2.getD 0);have L:=d.2 x (aB f);have M:=Ul r e f;refine zX (a7 x) (.dp 3 0 (a7 x)) rfl (iH f)<|a1 rfl (tN a b) ?_;have o:a%16<=15:=oT;refine rW _ rfl (ar (Xn b))<|zW _ (ar (bH o rfl))<|zV (vB (x.data.toList==(⟨#[]⟩:ByteArray).toList))<|e8 (x:=vN bytes.size) rfl id rfl ?_;have N:16-(a%16)<=16:=aL (jT _ _) (aC 16);refine ay rfl id (ar (DA ad (aC 16) rfl))<|ay rfl cn (am (fw _ _))<|zN rfl (by simp)<|zB rfl (λn=>?_) (λn=>?_)
 ·have A:(x.data.size=0∨bytes.size>16-a%16):=by have z:=n;rw[jd]at z;simp only[ae,dE,aY,dP,mA]at z;omega
  rw[At bytes g i f,aa ad];exact fT rfl rfl
 have A: ¬(x.data.size=0∨bytes.size>16-a%16):=by have z:=n;rw[jd]at z;simp only[ae,dE,aY,dP,mA]at z;omega
 have B:x.data.size=16:=oT;have y:bytes.size<=16-a%16:=oT;refine zX (bX s) (.dp 1 0 (bX s)) rfl (iH e)<|zH rfl ((VM s ((bK c a).2.getD 0) false ad ad d.2).Zk _ _ rfl) ?_;rintro _ _ ⟨rfl,rfl⟩;refine a8<|oR 3 rfl<|nW (.v (.string (x.data.extract 0 (a%16)))) rfl rfl (by refine⟨?_,?_,?_⟩<;>(first|exact aG _|decide|(apply FG.2;exact ad)))<|oR 1 rfl<|nW (.v (.string ((x.data.extract 0 (a%16))++bytes))) rfl rfl (by show(_:Int)<=9223372036854775807;simp[kH,dA];omega)<|oR 3 rfl<|rV (vN bytes.size) rfl ?_;refine rW _ rfl (ar (bH (aD o (oT:bytes.size<=16)) rfl))<|nW (.v (.string (x.data.extract ((a%16)+bytes.size) x.data.size))) rfl rfl (by refine⟨?_,?_,?_⟩<;>(first|exact aG _|decide|(apply FG.2;exact ad)))<|nW (.v (.string (((x.data.extract 0 (a%16))++bytes)++(x.data.extract ((a%16)+bytes.size) x.data.size)))) rfl rfl (by show(_:Int)<=9223372036854775807;simp[kH,dA];omega)<|nW (.u 46 (0+0) 0) rfl rfl (⟨dT,FF.2 (by show 0<s.length;exact ad)⟩)<|oR 1 rfl ?_;let⟨w,j⟩:=d7 (eY s ((bK c a).2.getD 0)) 0;have l:=(pQ d.2) w (aB j);have v:w=x:=ga (j.symm.trans (Rf f));have u:((eY s ((bK c a).2.getD 0)).set 0 (⟨w.R,w.Z',((x.data.extract 0 (a%16))++bytes)++(x.data.extract ((a%16)+bytes.size) x.data.size)⟩:Wy))[0]?=some (⟨w.R,w.Z',((x.data.extract 0 (a%16))++bytes)++(x.data.extract ((a%16)+bytes.size) x.data.size)⟩:Wy):=aZ ad;refine nM (a7 w) (h':=ao _ 46 (some (.arr (((eY s ((bK c a).2.getD 0)).set 0 (⟨w.R,w.Z',((x.data.extract 0 (a%16))++bytes)++(x.data.extract ((a%16)+bytes.size) x.data.size)⟩:Wy)).map a7) 3))) rfl rfl rfl (⟨dT,Jv (iH j)⟩) (vX (l:=eY s ((bK c a).2.getD 0)) (k:=0) (x:=(⟨w.R,w.Z',((x.data.extract 0 (a%16))++bytes)++(x.data.extract ((a%16)+bytes.size) x.data.size)⟩:Wy)))<|rE 64<|P2 0 0 rfl<|FP<|qS 0 rfl<|zM (.u 46 (0+0) 0) rfl (⟨dT,FF.2 (by show 0<s.length;exact ad)⟩) ?_;have K:(((eY s ((bK c a).2.getD 0)).set 0 (⟨w.R,w.Z',((x.data.extract 0 (a%16))++bytes)++(x.data.extract ((a%16)+bytes.size) x.data.size)⟩:Wy)).set 0 (⟨w.R,true,((x.data.extract 0 (a%16))++bytes)++(x.data.extract ((a%16)+bytes.size) x.data.size)⟩:Wy))[0]?=some (⟨w.R,true,((x.data.extract 0 (a%16))++bytes)++(x.data.extract ((a%16)+bytes.size) x.data.size)⟩:Wy):=aZ ad
 refine nM (a7 (⟨w.R,w.Z',((x.data.extract 0 (a%16))++bytes)++(x.data.extract ((a%16)+bytes.size) x.data.size)⟩:Wy)) (h':=ao _ 46 (some (.arr ((((eY s ((bK c a).2.getD 0)).set 0 (⟨w.R,w.Z',((x.data.extract 0 (a%16))++bytes)++(x.data.extract ((a%16)+bytes.size) x.data.size)⟩:Wy)).set 0 (⟨w.R,true,((x.data.extract 0 (a%16))++bytes)++(x.data.extract ((a%16)+bytes.size) x.data.size)⟩:Wy)).map a7) 3))) rfl rfl rfl (⟨dT,Jv (iH u)⟩) (vX (x:=(⟨w.R,true,((x.data.extract 0 (a%16))++bytes)++(x.data.extract ((a%16)+bytes.size) x.data.size)⟩:Wy)))<|dc 0 rfl<| .mk _ (.step (some (46,3,(((eY s ((bK c a).2.getD 0)).set 0 (⟨w.R,w.Z',((x.data.extract 0 (a%16))++bytes)++(x.data.extract ((a%16)+bytes.size) x.data.size)⟩:Wy)).set 0 (⟨w.R,true,((x.data.extract 0 (a%16))++bytes)++(x.data.extract ((a%16)+bytes.size) x.data.size)⟩:Wy)).map a7)) (e' (l:=[(3,.ptr 0 0),(6,.ptr 1 0),(7,vB false),(8,vN ((bK c a).1)),(22,vB (!((bK c a).2.isSome))),(46,vB (cE (x.data.toList==(⟨#[]⟩:ByteArray).toList) true (decide (bytes.size>(16-(a%16)))))),(13,.X 3 ((((eY s ((bK c a).2.getD 0)).set 0 (⟨w.R,w.Z',((x.data.extract 0 (a%16))++bytes)++(x.data.extract ((a%16)+bytes.size) x.data.size)⟩:Wy)).set 0 (⟨w.R,true,((x.data.extract 0 (a%16))++bytes)++(x.data.extract ((a%16)+bytes.size) x.data.size)⟩:Wy)).map a7) false)]) (hp:=[(0,.box [vI c.ways,.X 1 (c.L.map bX) false]),(1,.box [vI 0,.X 0 ([]) true])]) rfl jr j_) (.refl _))<|qC 0 rfl<|zC (LP c ((bK c a).1) (((eY s ((bK c a).2.getD 0)).set 0 (⟨w.R,w.Z',((x.data.extract 0 (a%16))++bytes)++(x.data.extract ((a%16)+bytes.size) x.data.size)⟩:Wy)).set 0 (⟨w.R,true,((x.data.extract 0 (a%16))++bytes)++(x.data.extract ((a%16)+bytes.size) x.data.size)⟩:Wy)) h q ad (by first|exact ad|(rw[pP ad];exact ad)) (kk (kk (pQ d.2) ⟨l.R⟩) ⟨l.R⟩)) ?_;subst v;rw[At bytes g i f,dZ ad,Fe j];exact fT rfl (by first|rfl|(simp[lO];rfl))
def OP{α}{f}{l:List α}{k}{x}(h:l[k]?=some x):l.modify k f=l.set k (f x):=by
 apply dD;intro i;rw[oD,mV];obtain⟨a,rfl⟩:=Em.1 h;by_cases e:k=i
 ·subst e;simp[a]
 simp[e]
def Dy{c}{agY}{s}(b:(bK c agY).2.isSome=true)(d:pF c (bK c agY).1=s):wB c agY=rK c (bK c agY).1 (s.modify ((bK c agY).2.getD 0) λw=>{w with Z':=false}):=by
 unfold wB;let⟨j,a⟩:=FH.1 b;have e:bK c agY=((bK c agY).1,some j):=by rw[<-a]
 rw[a,e];simp only[d];rfl
def Dz{c}{agY}(a:(bK c agY).2.isSome=false):wB c agY=c:=by
 unfold wB;have b:(bK c agY).2=none:=sU a;have e:bK c agY=((bK c agY).1,none):=by rw[<-b]
 rw[e]
def Iu(c)(agY)(a:c.ok)(e:agY<=4294967295):bI C0 101 [.agg (fv c false),vU agY] (.agg (fv (wB c agY) false)):=by
 apply e_ func101 rfl;have o:=AQ c agY;refine zC (As c agY a e)<|aV rfl (λi=>?_) (λi=>?_)
 ·have d:(bK c agY).2.isSome=false:=sU i;apply i' 0 rfl;rw[Dz d];exact dK rfl ⟨trivial,trivial,trivial⟩ rfl rfl
 have d:(bK c agY).2.isSome=true:=sU i;let⟨m,n,k,f⟩:=pR d;let⟨r,t,w,v,l⟩:=kJ m;let⟨s,b⟩:=d7 c.L ((bK c agY).1);have h:=a.set s (aB b);have g:=vA b;rw[g]at f;have u:s.length<=2:=oH (l s (aB b));have q:=pP f;refine qC 0 rfl<|zX (bX s) (.dp 1 0 (bX s)) rfl (iH b)<|rW _ rfl (cD a7 s)<|zF (x:=.S 20 0 s.length false) (h':=ao _ 20 (some (.arr ((List.replicate s.length qE).map a7) 3))) (Ri (fH (f:=a7) (a:=qE)).symm) (⟨aG _,FG.2 ad,by show((s.length:Nat):Int)<=1000000;omega⟩)<|zX (bX s) (.dp 1 0 (bX s)) rfl (iH b)<|e5 (x:=vI ((min ((s.map a7).length) (s.length):Nat):Int)) (h':=ao _ 20 (some (.arr (s.map a7) 3))) rfl rfl (II (DX a7 ((List.replicate s.length qE).map a7) s ad ad)) (⟨by exact ad,trivial⟩)<|lq 0 0 rfl<|FP<|qS 0 rfl<|zM (.u 20 (0+((bK c agY).2.getD 0)) 0) rfl (⟨aG _,FF.2 (by show((bK c agY).2.getD 0)<s.length;exact ad)⟩) ?_;let⟨x,j⟩:=d7 s ((bK c agY).2.getD 0);have y:(s.set ((bK c agY).2.getD 0) (⟨x.R,false,x.data⟩:Wy))[((bK c agY).2.getD 0)]?=some (⟨x.R,false,x.data⟩:Wy):=aZ ad;refine nM (a7 x) (h':=ao _ 20 (some (.arr ((s.set ((bK c agY).2.getD 0) (⟨x.R,false,x.data⟩:Wy)).map a7) 3))) rfl rfl rfl (⟨aG _,Jv (iH j)⟩) (vX (f:=a7) (x:=(⟨x.R,false,x.data⟩:Wy)))<|dc 0 rfl<| .mk _ (.step (some (20,3,(s.set ((bK c agY).2.getD 0) (⟨x.R,false,x.data⟩:Wy)).map a7)) (e' (l:=[(2,.ptr 0 0),(4,.ptr 1 0),(5,vN ((bK c agY).1)),(17,vB (!((bK c agY).2.isSome))),(8,.X 3 ((s.set ((bK c agY).2.getD 0) (⟨x.R,false,x.data⟩:Wy)).map a7) false)]) (hp:=[(0,.box [vI c.ways,.X 1 (c.L.map bX) false]),(1,.box [vI 0,.X 0 ([]) true])]) rfl jr j_) (.refl _))<|qC 0 rfl<|zC (LP c ((bK c agY).1) (s.set ((bK c agY).2.getD 0) (⟨x.R,false,x.data⟩:Wy)) a k ad ad (kk h.2 ⟨(h.2 x (aB j)).R⟩)) ?_;rw[Dy d g,OP j];exact dK rfl ⟨trivial,trivial,trivial⟩ rfl rfl
section
variable {α:Type}{p:α->Bool}
def Rg{l:List α}{k}{x}(b:l[k]?=some x)(a:p x=false)(h:(l.take k).find? p=none):(l.take (k+1)).find? p=none:=by
 rw[bW,b,iZ,h];simp[a]
def Rh{l:List α}{k}{x}(a:l[k]?=some x)(hp:p x=true)(h:(l.take k).find? p=none):l.find? p=some x:=by
 have e:l=l.take (k+1)++l.drop (k+1):=(kb _ _).symm;rw[e,iZ,bW,a,iZ,h];simp[hp]
def Un{l:List α}{k}(a:l.length<=k)(h:(l.take k).find? p=none):l.find? p=none:=by rwa [aN a]at h
def Xo{L:List (List α)}{k}{s}(b:L[k]?=some s)(a:s.find? p=none)(h:(L.take k).flatten.find? p=none):(L.take (k+1)).flatten.find? p=none:=by
 rw[bW,b,ql,iZ,h];simpa using a
def Xp{L:List (List α)}{k}{s}{x}(b:L[k]?=some s)(a:s.find? p=some x)(h:(L.take k).flatten.find? p=none):L.flatten.find? p=some x:=by
 have e:L=L.take (k+1)++L.drop (k+1):=(kb _ _).symm;rw[e,ql,iZ,bW,b,ql,iZ,h];simp[a]
end
abbrev Pj(o:Option Wy):AV:=.E [.agg (a7 (o.getD qE)),vB o.isSome]
def q'(c)(g:c.ok):bI C0 100 [.agg (fv c false)] (Pj (cR c)):=by
 refine bk func100 rfl<|zC (AW c false g)<|zB rfl (λh=>?_) (λh=>?_)
 ·have a:gG c=false:=sU h;refine zV (.agg [zU,vB false,.v (.string (⟨#[]⟩:ByteArray))]) ?_;rw[show cR c=none from by unfold cR;rw[dZ (by rw[a];decide)]];exact fT rfl rfl
 have a:gG c=true:=sU h;let⟨A,B,E,D,t⟩:=kJ a;refine zW _ (cD bX c.L)<|eh (λk=>⟨be [(2,.ptr 1 0),(10,vB (!(gG c))),(13,.X 1 (c.L.map bX) false),(14,vN c.L.length),(15,vN k)],ap [(0,.box [vI c.ways,.X 1 (c.L.map bX) false]),(1,.box [zU,vB false,.v (.string (⟨#[]⟩:ByteArray))])],10⟩) (λk=>k<=c.L.length∧(c.L.take k).flatten.find? (·.Z')=none) (λk=>c.L.length-k) 0 (λs=>s) (av (λs=>s) wT wH rfl) (⟨aE _,rfl⟩) ?_;intro k e;have y:k<=c.L.length:=e.1;refine b7 (am (bz _ _)) (λi=>?_) (λi=>?_)
 ·have n:=bj i;let⟨s,b⟩:=d7 c.L k;have r:=g.set s (aB b);have C:s.length<=2:=oH (t s (aB b));refine zX (bX s) (.dp 1 0 (bX s)) rfl (iH b)<|zW _ (cD a7 s)<|eh (λj=>⟨be [(2,.ptr 1 0),(10,vB (!(gG c))),(13,.X 1 (c.L.map bX) false),(14,vN c.L.length),(15,vN k),(16,vB (decide (k<c.L.length))),(17,.dp 1 0 (bX s)),(18,.X 3 (s.map a7) false),(5,.X 3 (s.map a7) false),(19,.X 3 (s.map a7) false),(20,vN s.length),(21,vN j)],ap [(0,.box [vI c.ways,.X 1 (c.L.map bX) false]),(1,.box [zU,vB false,.v (.string (⟨#[]⟩:ByteArray))])],17⟩) (λj=>j<=s.length∧(s.take j).find? (·.Z')=none) (λj=>s.length-j) 0 (λs=>s) (av (λs=>s) wT wH rfl) (⟨aE _,rfl⟩) ?_;intro j d;have w:j<=s.length:=d.1;have q:j<=1000000:=oT;refine b7 (am (bz _ _)) (λl=>?_) (λl=>?_)
  ·have o:=bj l;let⟨x,f⟩:=d7 s j;have F:=r.2 x (aB f);refine zX (a7 x) (.dp 3 0 (a7 x)) rfl (iH f)<|zB rfl (λm=>?_) (λm=>?_)
   ·rw[show cR c=some x from by unfold cR;rw[aa a];exact Xp b (Rh f m d.2) e.2];exact fT rfl rfl
   skip
   have u:j+1<=1000001:=aD q (aC 1);refine zW _ (ar (bH u rfl)) ?_;refine⟨j+1,λs=>s,av _ wT wH rfl,⟨oT,Rg f m d.2⟩,c7⟩
  have o:=aF l;have v:k+1<=1000001:=aD oT (aC 1);refine zW _ (ar (bH v rfl)) ?_;refine⟨k+1,λs=>s,av _ wT wH rfl,⟨oT,Xo b (Un ad d.2) e.2⟩,c7⟩
 have n:=aF i;apply zV (.agg [zU,vB false,.v (.string (⟨#[]⟩:ByteArray))]);rw[show cR c=none from by unfold cR;rw[aa a];have z:=e.2;rwa [aN ad]at z];exact fT rfl rfl
def Kn(m)(p):(BE m p).size=m.size:=by
 unfold BE;split
 ·simp[kH,dA];omega
 rfl
def iY(m)(l):(rP m l).size=m.size:=by
 unfold rP
 induction l generalizing m with
 |nil=>rfl
 |cons p l ih=>rw[mK,ih,Kn]
def GS{m}{l:List Pt}{k}{x}(a:l[k]?=some x):rP m (l.take (k+1))=BE (rP m (l.take k)) x:=by
 unfold rP;rw[bW,a];simp
def Xl(s:ByteArray):aS s=s.data.toList.map λb=>[AV.v (.int .u8 (b.toNat:Int))]:=rfl
def Uh(a b:ByteArray):(a++b).data.toList=a.data.toList++b.data.toList:=by simp
def Ui(a:ByteArray)(i j):(a.extract i j).data.toList=(a.data.toList.take j).drop i:=by
 rw[ByteArray.data_extract,nY,List.extract_eq_take_drop,List.drop_take]
def QW{m}{p}{n}(h:p.V<m.size)(c:n=m.size-p.V):(aS m).take (0+p.V)++(aS p.data).take (min (aS p.data).length n)++(aS m).drop (0+p.V+min (aS p.data).length n)=aS (BE m p):=by
 subst c;unfold BE;rw[aa h,bJ,qV];simp only[Xl,Uh,Ui,dH,eO,kM,bS];have a:(m.data.toList.map λb=>[AV.v (.int .u8 (b.toNat:Int))]).length=m.size:=by rw[aH];exact cV
 rw[<-a,cH]
def ON{m:ByteArray}{p:Pt}(h: ¬p.V<m.size):BE m p=m:=dZ h
def Nc(m)(n)(h:m.size<=n):gU (List.take n (List.drop 0 (aS m)))=some m.data.toList:=by
 rw[bS,aN (by rw[qV];exact h)];exact lN _
def QX(m)(l)(e)(i:m.size<=1000000)(u:l.length<=1000000)(r:∀x∈l,x.ok):bI C0 76 [.v (.string m),.X 2 (l.map aw) e] (.v (.string (rP m l))):=by
 refine e_ func76 rfl<|zF (rfl) ((by show m.size<=1000000;exact i))<|zW (vN l.length) (cD aw l)<|eh (λk=>⟨be [(4,.v (.string (⟨#[]⟩:ByteArray))),(5,.S 2 0 m.size false),(10,.X 2 (l.map aw) e),(11,vN l.length),(12,vN k)],ap [(2,.arr (aS (rP m (l.take k))) 1)],7⟩) (λk=>k<=l.length) (λk=>l.length-k) 0 (λs=>s) (av (λs=>s) wT wH rfl) (aE _) ?_;intro k q;have t:k<=l.length:=q;have b:k<=1000000:=oT;refine zW (vB (decide (k<l.length))) (am (bz _ _))<|zB rfl (λc=>?_) (λc=>?_)
 ·have f:=bj c;let⟨x,a⟩:=d7 l k;have j:=r x (aB a);refine zX (aw x) (.dp 2 0 (aw x)) rfl (iH a)<|zW (.v (.int .u64 ((x.V:Nat):Int))) (ar (nJ j.V rfl))<|rV (vN m.size) rfl<|rW (.v (.int .u64 ((m.size:Nat):Int))) rfl (ar (nJ i rfl))<|zW (vB (decide (x.V<m.size))) (am (bz _ _))<|aV rfl (λd=>?_) (λd=>?_)
  ·have g:=bj d;refine zR<|zM (.S 2 (0+x.V) (m.size-x.V) false) (LR (by first|rfl|omega) (by simp only[Option.getD];omega)) g7 ?_;have h:x.V<(rP m (l.take k)).size:=by rw[iY];omega
   refine zF (h':=ao _ 2 (some (.arr (aS (rP m (l.take (k+1)))) 1))) (II (by rw[GS a];exact QW h (by rw[iY]))) (⟨by show 0+x.V+(m.size-x.V)<=(aS (rP m (l.take k))).length;rw[qV,iY];omega,trivial⟩) ?_;have n:k+1<=1000001:=aD b (aC 1);refine zW (vN (k+1)) (ar (bH n rfl)) ?_;refine⟨k+1,λs=>s,av _ wT wH rfl,oT,c7⟩
  have g:=aF d;have o:k+1<=1000001:=aD b (aC 1);refine qC 0 rfl<|zW (vN (k+1)) (ar (bH o rfl)) ?_;refine⟨k+1,λs=>s,av _ wT ⟨⟨rfl,(az (λz=>some (bh.arr (aS z) 1)) (show rP m (l.take k)=rP m (l.take (k+1))from by rw[GS a,ON (by rw[iY];omega)])),rfl⟩,trivial⟩ rfl,oT,c7⟩
 have f:=aF c;exact SV ((rP m (l.take k)).data.toList) rfl rfl rfl ((by show 0+m.size<=(aS (rP m (l.take k))).length;rw[qV,iY];omega)) (Nc _ _ (by rw[iY];exact aC _))<|dc 0 rfl<|fT rfl (by rw[aN (oT:l.length<=k)];rfl)
def AO{q:List a5}{k}{x}(a:q[k]?=some x)(h:x.kind=4):fP (q.take k)++[⟨x.R,x.data⟩]=fP (q.take (k+1)):=by
 unfold fP;rw[bW,a];simp[mL,h]
def Fb{q:List a5}{k}{x}(a:q[k]?=some x)(h: ¬x.kind=4):fP (q.take k)=fP (q.take (k+1)):=by
 unfold fP;rw[bW,a];simp[mL,h]
def Ko(q):(fP q).length<=q.length:=by unfold fP;rw[aH];exact List.length_filter_le _ _
def QY{q:List a5}(h:∀x∈q,x.ok):∀x∈fP q,x.ok:=λx a=>by
 unfold fP at a;obtain⟨y,b,rfl⟩:=pG.1 a;exact⟨(h y (List.mem_filter.1 b).1).R⟩
def Nd(m)(c:m.size<=1000000):bI C0 76 [.v (.string m),.X 0 [] true] (.v (.string m)):=by
 refine e_ func76 rfl<|zF (rfl) ((by show m.size<=1000000;exact c))<|zV _<|eh (λa=>⟨be [(5,.S 2 0 m.size false),(10,.X 0 _ true),(11,vI 0),(12,vI 0)],ap [(2,.arr _ 1)],7⟩) (λa=>True) (λa=>0) () (λs=>s) (av (λs=>s) wT wH rfl) trivial ?_;intro a _;exact cN (decide (0<0)) (λb=>by simp at b) (λ_=>(SV _ rfl rfl rfl ((by show 0+m.size<=(aS m).length;rw[qV];omega)) (Nc _ _ (aC _))<|dc 0 rfl<|fT rfl rfl))
def QZ(q)(m)(g)(o:m.size<=1000000)(C:q.length<=900000)(t:∀x∈q,x.ok):bI C0 153 [.X 4 (q.map ca) g,.v (.string m)] (.v (.string (jZ q m))):=by
 refine e_ func153 rfl<|zW _ (cD ca q)<|eh (κ:=Nat×Bool) (λc=>match c with|(k,false)=>⟨be [(1,.v (.string m)),(4,.v (.string (⟨#[]⟩:ByteArray))),(8,.X 4 (q.map ca) g),(9,vN q.length),(10,vN k),(5,.X 0 ([]) true)],ap [],6⟩|(k,true)=>⟨be [(1,.v (.string m)),(4,.v (.string (⟨#[]⟩:ByteArray))),(8,.X 4 (q.map ca) g),(9,vN q.length),(10,vN k),(5,.S 5 0 ((fP (q.take k)).length) false)],ap [(5,.arr ((fP (q.take k)).map aw) 2)],6⟩) (λc=>match c with|(k,false)=>(k<=q.length∧fP (q.take k)=[])|(k,true)=>(k<=q.length)) (λc=>q.length-c.1) (0,false) (λs=>s) (av (λs=>s) wT trivial rfl) (⟨aE _,(show fP (q.take 0)=[]from rfl)⟩) ?_;intro c A;let⟨k,w⟩:=c;cases w
 all_goals
  have e:=A
  first|have r:k<=q.length:=e.1|have r:k<=q.length:=e
  have f:k<=1000000:=oT
  first|have d:fP (q.take k)=[]:=e.2|(have y:(fP (q.take k)).length<=900000:=(by have:=Ko (q.take k);rw[aM]at this;omega))
  refine b7 (am (bz _ _)) (λh=>?_) (λh=>?_)
  ·have l:=bj h;let⟨x,b⟩:=d7 q k;have B:=t x (aB b);refine zX (ca x) (.dp 4 0 (ca x)) rfl (iH b)<|cN (x.kind==4) (λj=>?_) (λj=>?_)
   ·have a:=mT j;refine rV (.agg [vU x.R,.v (.string x.data)]) rfl<|rV (.X 2 ([[vU x.R,.v (.string x.data)]]) true) rfl ?_
    first|refine zF (Iw ad) (⟨rfl,by exact ad,by exact ad,trivial⟩) ?_|refine zF (iP aw (fP (q.take k)) ([(⟨x.R,x.data⟩:Pt)]) ad ad) (⟨by exact ad,by exact ad,trivial⟩) ?_
    have u:k+1<=1000001:=aD f (aC 1);refine zW _ (ar (bH u rfl)) ?_
    first|(refine⟨(k+1,true),λi=>match i with|5=>21|i=>i,av _ ⟨a9,a9,a9,a9,a9,⟨(show AV.S 21 0 (1) false=AV.S 21 0 (fP (q.take (k+1))).length false from by rw[<-(show [(⟨x.R,x.data⟩:Pt)]=fP (q.take (k+1))from(by rw[<-(AO b a),d];rfl))];first|done|rfl|(congr 1<;>(first|exact ad|simp))),rfl⟩,trivial⟩ ⟨⟨rfl,(az (λz:List Pt=>some (bh.arr (z.map aw) 2)) (show [(⟨x.R,x.data⟩:Pt)]=fP (q.take (k+1))from(by rw[<-(AO b a),d];rfl))),rfl⟩,trivial⟩ rfl,oT,c7⟩)|(refine⟨(k+1,true),λi=>match i with|5=>21|i=>i,av _ ⟨a9,a9,a9,a9,a9,⟨(show AV.S 21 0 ((fP (q.take k)).length+1) false=AV.S 21 0 (fP (q.take (k+1))).length false from by rw[<-(show(fP (q.take k))++([(⟨x.R,x.data⟩:Pt)])=fP (q.take (k+1))from AO b a)];first|done|rfl|(congr 1<;>(first|exact ad|simp))),rfl⟩,trivial⟩ ⟨⟨rfl,(az (λz:List Pt=>some (bh.arr (z.map aw) 2)) (show(fP (q.take k))++([(⟨x.R,x.data⟩:Pt)])=fP (q.take (k+1))from AO b a)),rfl⟩,trivial⟩ rfl,oT,c7⟩)
   have a:=nA j;have v:k+1<=1000001:=aD f (aC 1);refine zW _ (ar (bH v rfl)) ?_
   first|(refine⟨(k+1,false),λi=>i,av _ wT trivial rfl,⟨oT,(by rw[<-(Fb b a)];exact d)⟩,c7⟩)|(refine⟨(k+1,true),λi=>i,av _ ⟨a9,a9,a9,a9,a9,⟨(az (λz:List Pt=>AV.S 5 0 z.length false) (Fb b a)),rfl⟩,trivial⟩ ⟨⟨rfl,(az (λz:List Pt=>some (bh.arr (z.map aw) 2)) (Fb b a)),rfl⟩,trivial⟩ rfl,oT,c7⟩)
  have l:=aF h
  first|refine zC (Nd m (o)) ?_|(refine zL rfl (.inr ⟨rfl,⟨trivial,(by show 0+((fP (q.take k)).length)<=((fP (q.take k)).map aw).length;exact ad),trivial⟩⟩) ((show bI C0 _ [_,.X 2 (List.take ((fP (q.take k)).length) (List.drop 0 ((fP (q.take k)).map aw))) false] _ from by rw[jW aw (fP (q.take k)) ad];exact QX m (fP (q.take k)) false (o) (by have:=Ko (q.take k);rw[aM]at this;omega) (QY (zD t)))) ?_)
  have n:jZ q m=rP m (fP (q.take k)):=by unfold jZ;rw[aN ad]
  first|rw[n,d]|rw[n]
  exact fT rfl rfl
def Xm(w:Wy):Pt:=⟨w.R,w.data⟩
def gV(c:Ca)(k:Nat):List Pt:=(c.L.take k).flatten.map Xm
def gA(c:Ca)(k:Nat)(s:List Wy)(j:Nat):List Pt:=gV c k++(s.take j).map Xm
def tL{c}{k j}{s}{x}(a:s[j]?=some x):gA c k s j++[⟨x.R,x.data⟩]=gA c k s (j+1):=by
 unfold gA;rw[bW,a];simp[Xm]
def yA{c}{k j}{s}(b:c.L[k]?=some s)(a:s.length<=j):gA c k s j=gV c (k+1):=by
 unfold gA gV;rw[aN a,bW,b];simp
def BD(c)(k)(s):gV c k=gA c k s 0:=by unfold gA;simp
def Fc{c}{k}(h:c.L.length<=k):gV c k=LV c:=by unfold gV LV;rw[aN h];rfl
theorem Nf{α:Type}{B:Nat}:∀(L:List (List α)),(∀s∈L,s.length<=B)->L.flatten.length<=L.length*B
 |[],_=>by simp
 |s::L,h=>by
  have b:=h s b9;have c:=Nf L λt a=>h t (bY _ a);simp only[mU,aU,bN,cG,lD];omega
def Is{c}{k}(d:c.L.length<=4)(a:∀s∈c.L,s.length<=2):(gV c k).length<=8:=by
 unfold gV;rw[aH];have:=Nf (c.L.take k) λs b=>a s (cQ b);rw[aM]at this;omega
def Kq{c}{k j}{s}(b:c.L.length<=4)(a:∀s∈c.L,s.length<=2)(d:s.length<=2):(gA c k s j).length<=10:=by
 unfold gA;have:=Is (k:=k) b a;rw[aU,aH,aM];omega
def Uj{c:Ca}(h:∀s∈c.L,∀x∈s,x.ok)(k:Nat):∀x∈gV c k,x.ok:=λx d=>by
 obtain⟨y,a,rfl⟩:=pG.1 d;let⟨s,b,a⟩:=List.mem_flatten.1 a;exact⟨(h s (cQ b) y a).R⟩
def ys(c)(q)(m)(g)(t:c.ok)(l:c.L.length<=4)(e:∀s∈c.L,s.length<=2)(w:m.size<=1000000)(S:q.length<=900000)(R:∀x∈q,x.ok):bI C0 151 [.agg (fv c false),.X 4 (q.map ca) g,.v (.string m)] (.v (.string (Ct c q m))):=by
 refine e_ func151 rfl<|zW (vN c.L.length) (cD bX c.L)<|eh (κ:=Nat×Bool) (λa=>match a with|(k,false)=>⟨be [(1,.X 4 (q.map ca) g),(2,.v (.string m)),(6,.v (.string (⟨#[]⟩:ByteArray))),(13,.X 1 (c.L.map bX) false),(14,vN c.L.length),(15,vN k),(7,.X 0 ([]) true)],ap [(0,.box [vI c.ways,.X 1 (c.L.map bX) false])],8⟩|(k,true)=>⟨be [(1,.X 4 (q.map ca) g),(2,.v (.string m)),(6,.v (.string (⟨#[]⟩:ByteArray))),(13,.X 1 (c.L.map bX) false),(14,vN c.L.length),(15,vN k),(7,.S 7 0 ((gV c k).length) false)],ap [(0,.box [vI c.ways,.X 1 (c.L.map bX) false]),(7,.arr ((gV c k).map aw) 2)],8⟩) (λa=>match a with|(k,false)=>(k<=c.L.length∧gV c k=[])|(k,true)=>(k<=c.L.length)) (λa=>c.L.length-a.1) (0,false) (λs=>s) (av (λs=>s) wT wH rfl) (⟨aE _,(show gV c 0=[]from rfl)⟩) ?_;intro a Q;let⟨k,D⟩:=a;cases D
 ·have B:=Q;have n:k<=c.L.length:=B.1;have A:k<=1000000:=oT;have y:gV c k=[]:=B.2;refine zW (vB (decide (k<c.L.length))) (am (bz _ _))<|zB rfl (λE=>?_) (λE=>?_)
  ·have L:=bj E;let⟨s,b⟩:=d7 c.L k;have o:=t.set s (aB b);have u:s.length<=2:=e s (aB b);refine zX (bX s) (.dp 1 0 (bX s)) rfl (iH b)<|zW (vN s.length) (cD a7 s)<|eh (κ:=Nat×Bool) (λa=>match a with|(j,false)=>⟨be [(1,.X 4 (q.map ca) g),(2,.v (.string m)),(6,.v (.string (⟨#[]⟩:ByteArray))),(13,.X 1 (c.L.map bX) false),(14,vN c.L.length),(15,vN k),(16,vB (decide (k<c.L.length))),(17,.dp 1 0 (bX s)),(18,.X 3 (s.map a7) false),(9,.X 3 (s.map a7) false),(19,.X 3 (s.map a7) false),(20,vN s.length),(21,vN j),(7,.X 0 ([]) true)],ap [(0,.box [vI c.ways,.X 1 (c.L.map bX) false])],16⟩|(j,true)=>⟨be [(1,.X 4 (q.map ca) g),(2,.v (.string m)),(6,.v (.string (⟨#[]⟩:ByteArray))),(13,.X 1 (c.L.map bX) false),(14,vN c.L.length),(15,vN k),(16,vB (decide (k<c.L.length))),(17,.dp 1 0 (bX s)),(18,.X 3 (s.map a7) false),(9,.X 3 (s.map a7) false),(19,.X 3 (s.map a7) false),(20,vN s.length),(21,vN j),(7,.S 15 0 ((gA c k s j).length) false)],ap [(0,.box [vI c.ways,.X 1 (c.L.map bX) false]),(15,.arr ((gA c k s j).map aw) 2)],16⟩) (λa=>match a with|(j,false)=>(j<=s.length∧gA c k s j=[])|(j,true)=>(j<=s.length)) (λa=>s.length-a.1) (0,false) (λs=>s) (av (λs=>s) wT wH rfl) (⟨aE _,(show gA c k s 0=[]from(BD c k s).symm.trans y)⟩) ?_;intro a v;let⟨j,D⟩:=a;cases D
   ·have f:=v;have n:j<=s.length:=f.1;have h:j<=1000000:=oT;have r:gA c k s j=[]:=f.2;refine zW (vB (decide (j<s.length))) (am (bz _ _))<|zB rfl (λF=>?_) (λF=>?_)
    ·have M:=bj F;let⟨x,d⟩:=d7 s j;have C:=o.2 x (aB d);refine zX (a7 x) (.dp 3 0 (a7 x)) rfl (iH d)<|rV (.agg [vU x.R,.v (.string x.data)]) rfl<|rV (.X 2 ([[vU x.R,.v (.string x.data)]]) true) rfl<|zF (x:=.S 28 0 1 false) (h':=ao _ 28 (some (.arr (([(⟨x.R,x.data⟩:Pt)]).map aw) 2))) (Iw ad) (⟨rfl,by exact ad,by exact ad,trivial⟩) ?_;have T:j+1<=1000001:=aD h (aC 1);refine zW (vN (j+1)) (ar (bH T rfl)) ?_;refine⟨(j+1,true),λi=>match i with|15=>28|i=>i,av _ ⟨a9,a9,a9,a9,a9,a9,a9,a9,a9,a9,a9,a9,a9,⟨(show AV.S 28 0 (1) false=AV.S 28 0 (gA c k s (j+1)).length false from by rw[<-(show [(⟨x.R,x.data⟩:Pt)]=gA c k s (j+1)from(by rw[<-(tL d),r];rfl))];first|done|rfl|(congr 1<;>(first|exact ad|simp))),rfl⟩,trivial⟩ ⟨c9,⟨rfl,(az (λz:List Pt=>some (bh.arr (z.map aw) 2)) (show [(⟨x.R,x.data⟩:Pt)]=gA c k s (j+1)from(by rw[<-(tL d),r];rfl))),rfl⟩,trivial⟩ rfl,oT,c7⟩
    have M:=aF F;have U:k+1<=1000001:=aD A (aC 1);refine zW (vN (k+1)) (ar (bH U rfl)) ?_;refine⟨(k+1,false),λi=>i,av _ wT wH rfl,⟨oT,(by rw[<-yA (j:=j) b ad];exact r)⟩,c7⟩
   have f:=v;have n:j<=s.length:=f;have h:j<=1000000:=oT;have K:(gA c k s j).length<=10:=(Kq l e u);refine zW (vB (decide (j<s.length))) (am (bz _ _))<|zB rfl (λG=>?_) (λG=>?_)
   ·have N:=bj G;let⟨x,d⟩:=d7 s j;have C:=o.2 x (aB d);refine zX (a7 x) (.dp 3 0 (a7 x)) rfl (iH d)<|rV (.agg [vU x.R,.v (.string x.data)]) rfl<|rV (.X 2 ([[vU x.R,.v (.string x.data)]]) true) rfl<|zF (x:=.S 28 0 ((gA c k s j).length+1) false) (h':=ao (ao _ 15 none) 28 (some (.arr (((gA c k s j)++([(⟨x.R,x.data⟩:Pt)])).map aw) 2))) (iP aw (gA c k s j) ([(⟨x.R,x.data⟩:Pt)]) ad ad) (⟨by exact ad,by exact ad,trivial⟩) ?_;have V:j+1<=1000001:=aD h (aC 1);refine zW (vN (j+1)) (ar (bH V rfl)) ?_;refine⟨(j+1,true),λi=>match i with|15=>28|i=>i,av _ ⟨a9,a9,a9,a9,a9,a9,a9,a9,a9,a9,a9,a9,a9,⟨(show AV.S 28 0 ((gA c k s j).length+1) false=AV.S 28 0 (gA c k s (j+1)).length false from by rw[<-(show(gA c k s j)++([(⟨x.R,x.data⟩:Pt)])=gA c k s (j+1)from tL d)];first|done|rfl|(congr 1<;>(first|exact ad|simp))),rfl⟩,trivial⟩ ⟨c9,⟨rfl,(az (λz:List Pt=>some (bh.arr (z.map aw) 2)) (show(gA c k s j)++([(⟨x.R,x.data⟩:Pt)])=gA c k s (j+1)from tL d)),rfl⟩,trivial⟩ rfl,oT,c7⟩
   have N:=aF G;have W:k+1<=1000001:=aD A (aC 1);refine zW (vN (k+1)) (ar (bH W rfl)) ?_;refine⟨(k+1,true),λi=>match i with|7=>15|i=>i,av _ ⟨a9,a9,a9,a9,a9,a9,⟨(show AV.S 15 0 ((gA c k s j).length) false=AV.S 15 0 (gV c (k+1)).length false from by rw[<-(show gA c k s j=gV c (k+1)from yA b ad)];first|done|rfl|(congr 1<;>(first|exact ad|simp))),rfl⟩,trivial⟩ ⟨c9,⟨rfl,(az (λz:List Pt=>some (bh.arr (z.map aw) 2)) (show gA c k s j=gV c (k+1)from yA b ad)),rfl⟩,trivial⟩ rfl,oT,c7⟩
  have L:=aF E;refine zC (QZ q m g w S R)<|zC (Nd (jZ q m) (by unfold jZ;rw[iY];exact w)) ?_;have J:Ct c q m=rP (jZ q m) (gV c k):=by unfold Ct;rw[Fc ad]
  rw[J,y];exact fT rfl rfl
 have n:k<=c.L.length:=Q;have Z:(gV c k).length<=8:=(Is l e);refine zW (vB (decide (k<c.L.length))) (am (bz _ _))<|zB rfl (λH=>?_) (λH=>?_)
 ·have O:=bj H;let⟨s,b⟩:=d7 c.L k;have o:=t.set s (aB b);have u:s.length<=2:=e s (aB b);refine zX (bX s) (.dp 1 0 (bX s)) rfl (iH b)<|zW (vN s.length) (cD a7 s)<|eh (κ:=Nat) (λj=>⟨be [(1,.X 4 (q.map ca) g),(2,.v (.string m)),(6,.v (.string (⟨#[]⟩:ByteArray))),(13,.X 1 (c.L.map bX) false),(14,vN c.L.length),(15,vN k),(16,vB (decide (k<c.L.length))),(17,.dp 1 0 (bX s)),(18,.X 3 (s.map a7) false),(9,.X 3 (s.map a7) false),(19,.X 3 (s.map a7) false),(20,vN s.length),(21,vN j),(7,.S 15 0 ((gA c k s j).length) false)],ap [(0,.box [vI c.ways,.X 1 (c.L.map bX) false]),(15,.arr ((gA c k s j).map aw) 2)],16⟩) (λj=>j<=s.length) (λj=>s.length-j) 0 (λi=>match i with|15=>7|i=>i) (av (λi=>match i with|15=>7|i=>i) ⟨a9,a9,a9,a9,a9,a9,a9,a9,a9,a9,a9,a9,a9,⟨(show AV.S 7 0 ((gV c k).length) false=AV.S 7 0 (gA c k s 0).length false from by rw[<-(show gV c k=gA c k s 0 from BD c k s)];first|done|rfl),rfl⟩,trivial⟩ ⟨c9,⟨rfl,(az (λz:List Pt=>some (bh.arr (z.map aw) 2)) (show gV c k=gA c k s 0 from BD c k s)),rfl⟩,trivial⟩ rfl) (aE _) ?_;intro j v;have f:=v;have n:j<=s.length:=f;have h:j<=1000000:=oT;have K:(gA c k s j).length<=10:=(Kq l e u);refine zW (vB (decide (j<s.length))) (am (bz _ _))<|zB rfl (λI=>?_) (λI=>?_)
  ·have P:=bj I;let⟨x,d⟩:=d7 s j;have C:=o.2 x (aB d);refine zX (a7 x) (.dp 3 0 (a7 x)) rfl (iH d)<|rV (.agg [vU x.R,.v (.string x.data)]) rfl<|rV (.X 2 ([[vU x.R,.v (.string x.data)]]) true) rfl<|zF (x:=.S 28 0 ((gA c k s j).length+1) false) (h':=ao (ao _ 15 none) 28 (some (.arr (((gA c k s j)++([(⟨x.R,x.data⟩:Pt)])).map aw) 2))) (iP aw (gA c k s j) ([(⟨x.R,x.data⟩:Pt)]) ad ad) (⟨by exact ad,by exact ad,trivial⟩) ?_;have X:j+1<=1000001:=aD h (aC 1);refine zW (vN (j+1)) (ar (bH X rfl)) ?_;refine⟨j+1,λi=>match i with|15=>28|i=>i,av _ ⟨a9,a9,a9,a9,a9,a9,a9,a9,a9,a9,a9,a9,a9,⟨(show AV.S 28 0 ((gA c k s j).length+1) false=AV.S 28 0 (gA c k s (j+1)).length false from by rw[<-(show(gA c k s j)++([(⟨x.R,x.data⟩:Pt)])=gA c k s (j+1)from tL d)];first|done|rfl|(congr 1<;>(first|exact ad|simp))),rfl⟩,trivial⟩ ⟨c9,⟨rfl,(az (λz:List Pt=>some (bh.arr (z.map aw) 2)) (show(gA c k s j)++([(⟨x.R,x.data⟩:Pt)])=gA c k s (j+1)from tL d)),rfl⟩,trivial⟩ rfl,oT,c7⟩
  have P:=aF I;have Y:k+1<=1000001:=aD oT (aC 1);refine zW (vN (k+1)) (ar (bH Y rfl)) ?_;refine⟨(k+1,true),λi=>match i with|7=>15|i=>i,av _ ⟨a9,a9,a9,a9,a9,a9,⟨(show AV.S 15 0 ((gA c k s j).length) false=AV.S 15 0 (gV c (k+1)).length false from by rw[<-(show gA c k s j=gV c (k+1)from yA b ad)];first|done|rfl|(congr 1<;>(first|exact ad|simp))),rfl⟩,trivial⟩ ⟨c9,⟨rfl,(az (λz:List Pt=>some (bh.arr (z.map aw) 2)) (show gA c k s j=gV c (k+1)from yA b ad)),rfl⟩,trivial⟩ rfl,oT,c7⟩
 have O:=aF H;refine zC (QZ q m g w S R)<|zL (x:=.v (.string (rP (jZ q m) (gV c k)))) rfl (.inr ⟨rfl,⟨trivial,(by show 0+((gV c k).length)<=((gV c k).map aw).length;exact ad),trivial⟩⟩) ((show bI C0 _ [_,.X 2 (List.take ((gV c k).length) (List.drop 0 ((gV c k).map aw))) false] _ from by rw[jW aw (gV c k) ad];exact QX (jZ q m) (gV c k) false (by unfold jZ;rw[iY];exact w) (oH (Is (k:=k) l e)) (Uj (λs b=>(t.set s b).2) k))) ?_;have J:Ct c q m=rP (jZ q m) (gV c k):=by unfold Ct;rw[Fc ad]
 rw[J];exact fT rfl rfl
def A4(agF)(c)(q)(m)(b a)(g:c.ok)(e:c.L.length<=4)(d:∀s∈c.L,s.length<=2)(f:m.size<=1000000)(k:q.length<=900000)(j:∀x∈q,x.ok)(i:agF.length<=1000000)(h:∀x∈agF,x.ok):bI C0 120 [.X 2 (agF.map aw) a,.agg (fv c false),.X 4 (q.map ca) b,.v (.string m)] (.v (.string (jm agF c q m))):=by
 apply bk func120 rfl;exact zC (ys c q m b g e d f k j)<|zC (QX (Ct c q m) agF a (by unfold Ct jZ;rw[iY,iY];exact f) i h)<|fT rfl rfl
def Rb{m:ByteArray}{a}(h:a<=m.size):(m.extract a m.size).extract 0 (min (m.extract a m.size).size 16)=m.extract a (a+min (m.size-a) 16):=by
 have b:(m.extract a m.size).size=m.size-a:=by rw[dA];omega
 rw[b,ByteArray.extract_extract];congr 1<;>omega
def A5(m)(agY)(d:m.size<=1000000)(a:agY<=4294967295):bI C0 152 [.v (.string m),vU agY] (.v (.string (Ga m agY))):=by
 refine bk func152 rfl<|zC (tN agY a)<|zW _ (ar (nJ (dV a) rfl))<|rV _ rfl<|rW _ rfl (ar (nJ d rfl))<|b7 (am (i9 _ _)) (λb=>?_) (λb=>?_)
 ·have c:=bj b;exact fT rfl (by unfold Ga;rw[dZ ad];rfl)
 have c:=aF b;refine zM _ rfl (by refine⟨?_,?_,?_⟩<;>(first|exact aG _|decide|(apply FG.2;exact ad)))<|rV _ rfl<|rW _ rfl (Bo ((m.extract (ab agY) m.size).size) 16)<|zM (.v (.string ((m.extract (ab agY) m.size).extract 0 (min ((m.extract (ab agY) m.size).size) 16)))) rfl (by refine⟨?_,?_,?_⟩<;>(first|exact aG _|decide|(apply FG.2;exact ad))) ?_;exact fT rfl (by unfold Ga;rw[aa ad,Rb ad];rfl)
def GQ(r)(s)(b:∀k,r k<=4294967295)(c:s.ok):bI C0 86 [.agg (Ks r),.agg (bg s)] (.agg (Ks (lY r s))):=by
 refine bk func86 rfl<|zV (vB (decide (s.rd>=1)))<|gS rfl id<|ay rfl id rfl<|zN rfl (λh=>h)<|gS rfl id<|ay rfl id rfl<|zN rfl (λh=>h)<|zB rfl (λa=>?_) (λa=>?_)
 ·have hA:(1<=s.rd∧s.rd<=31∧s.halt=0):=by have z:=a;simp[qA,aP,aY,pU,kI,bA,ne_eq]at z;omega
  refine nW _ rfl rfl ad<|Ow rfl rfl (C4 rfl rfl rfl ad) (trivial)<|dc 0 rfl ?_;rw[show lY r s=io r s.rd.toNat s.value from by unfold lY;rw[aa hA]];exact dK rfl cz rfl rfl
 have hA: ¬(1<=s.rd∧s.rd<=31∧s.halt=0):=by have z:=a;simp[qA,aP,aY,pU,kI,bA,ne_eq]at z;omega
 rw[show lY r s=r from by unfold lY;rw[dZ hA]];exact dK rfl cz rfl rfl
abbrev CX(o:Option Pt):AV:=.E [.agg (aw (o.getD ⟨0,oZ⟩)),vB o.isSome]
def LO(s)(f:s.ok):bI C0 85 [.agg (bg s)] (CX (iJ s)):=by
 refine bk func85 rfl<|gS rfl id<|ay rfl id rfl<|zN rfl (by simp)<|gS rfl id<|ay rfl id rfl<|zG rfl id<|gS rfl id<|ay rfl id rfl<|pB rfl rfl rfl rfl (λh=>h) rfl rfl (λc b=>by first|(rw[c,b];rfl)|simp_all)<|zG rfl id<|gS rfl id<|ay rfl id rfl<|pB rfl rfl rfl rfl (λh=>h) rfl rfl (λc b=>by first|(rw[c,b];rfl)|simp_all)<|zN rfl (by simp)<|zB rfl (λa=>?_) (λa=>?_)
 ·have hA:s.store=false∨s.halt≠0∨(s.size≠1∧s.size≠2∧s.size≠4):=by have z:=a;simp[qA,ae,aP,dE,aY,pU,pX,qI,dP,kI,iC,mJ,ne_eq,and_imp]at z;rcases z with (z|z)|z<;>simp_all
  apply zV _;rw[show iJ s=none from by unfold iJ;rw[aa hA]];exact fT rfl rfl
 have hA: ¬(s.store=false∨s.halt≠0∨(s.size≠1∧s.size≠2∧s.size≠4)):=by have z:=a;intro q;rcases q with q|q|⟨g,i,j⟩<;>simp_all[qA,ae]
 let⟨n,d⟩:∃n:Nat,s.size=(n:Int):=⟨s.size.toNat,oT⟩;have e:n<=4:=oT;refine zC (x:=.E [.v _,vI 0]) ((by rw[d];exact Nv s.value n (CI f.value) e))<|zV _ ?_;rw[show iJ s=some ⟨s.V,oF s.value n⟩from by unfold iJ;rw[dZ hA,d];rfl];exact fT rfl rfl
def QS(k):(if(0:Int)>k then 0 else k)=(((max k 0).toNat:Nat):Int):=by split<;>omega
def QT(c):(bZ c).y.length<=64:=by unfold bZ;simp;omega
def OL(c):(bZ c).tape.length<=64:=by unfold bZ;simp;omega
def Iq{c:Cf}(h:∀x∈c.tape,x<=4294967295):∀x∈(bZ c).tape,x<=4294967295:=λx a=>h x (cQ a)
def QU{c}{k}{x}(h: ¬(bZ c).y.length=0)(a:(bZ c).y[(max k 0).toNat%(bZ c).y.length]?=some x):x=lX c k:=by
 unfold lX;generalize (bZ c).y=l at h a
 cases l with
 |nil=>exact absurd rfl h
 |cons y l=>simp only[aR,a];rfl
def OM{c}{k}{x pc}(h: ¬(bZ c).tape.length=0)(a:(bZ c).tape[(max k 0).toNat%(bZ c).tape.length]?=some x):x=yG c k pc:=by
 unfold yG;generalize (bZ c).tape=l at h a
 cases l with
 |nil=>exact absurd rfl h
 |cons y l=>simp only[aR,a];rfl
def Fa(c)(k)(e:c.ok)(h:k<=9223372036854775807):bI C0 125 [.agg (ie c false false),vI k] (vI (lX c k)):=by
 refine bk func125 rfl<|zC (Eb c false false e)<|rW _ rfl (cD b1 ((bZ c).y))<|b7 (am (a6 _ _)) (λd=>?_) (λd=>?_)
 ·have a:=mT d;exact fT rfl (Ni (by unfold lX;rw[g3 a]))
 have a:=nA d;have f:=aQ (max k 0).toNat (eU a);refine zW _ (ar (QS k))<|rW _ rfl (cD b1 ((bZ c).y)) ?_;have g:((max k 0).toNat)%(((bZ c).y).length)<=9223372036854775807:=aL (gR _ _) ad;refine nW _ rfl (hW (sT _ _)) ad ?_;let⟨i,b⟩:=d7 ((bZ c).y) (((max k 0).toNat)%(((bZ c).y).length));apply zX _ _ rfl (iH b);exact fT rfl (Ni (QU a b))
def QV(c)(k)(pc)(d:c.ok)(m:k<=9223372036854775807)(i:pc<=4294967295):bI C0 144 [.agg (ie c false false),vI k,vU pc] (vU (yG c k pc)):=by
 refine bk func144 rfl<|zC (Eb c false false d)<|rW _ rfl (cD dU ((bZ c).tape))<|b7 (am (a6 _ _)) (λe=>?_) (λe=>?_)
 ·have a:=mT e;have j:(pc+4)%4294967296<=4294967295:=aI (aQ _ dT);apply zV _;exact fT rfl (GW (by unfold yG;rw[g3 a];rfl))
 have a:=nA e;have h:=aQ (max k 0).toNat (eU a);refine zW _ (ar (QS k))<|rW _ rfl (cD dU ((bZ c).tape)) ?_;have l:((max k 0).toNat)%(((bZ c).tape).length)<=9223372036854775807:=aL (gR _ _) ad;refine nW _ rfl (hW (sT _ _)) ad ?_;let⟨g,b⟩:=d7 ((bZ c).tape) (((max k 0).toNat)%(((bZ c).tape).length));have f:=(Iq d.tp) g (aB b);apply zX _ _ rfl (iH b);exact fT rfl (GW (OM a b))
def ke(n lo a):bI C0 114 [vI n,vI lo,vI a] (vB (it n lo a)):=by
 exact bk func114 rfl<|zV (vB (decide (n>=lo)))<|ay rfl cn rfl<|zN rfl (λh=>h)<|fT rfl (dR (by rw[bB];simp[qA,ae,it]))
structure Cf.okW(c:Cf):Prop where
 y:c.y.length<=9223372036854775807
 tape:c.tape.length<=9223372036854775807
 tp:∀x∈c.tape,x<=4294967295
def DV{α}{p}{l:List α}{k}{x}(a:l[k]?=some x)(hp:p x=true)(h:(l.take k).all p=true):(l.take (k+1)).all p=true:=by
 rw[bW,a,List.all_append,h];simpa using hp
def Ir{α}{p}{l:List α}{k:Nat}{x}(a:l[k]?=some x)(hp:p x=false):l.all p=false:=by
 rw[List.all_eq_false];exact⟨x,aB a,by simp[hp]⟩
def DW{α}{p}{l:List α}{k}(a:l.length<=k)(h:(l.take k).all p=true):l.all p=true:=by rwa [aN a]at h
def Ug(c)(b:c.okW):bI C0 60 [.agg (ie c false false)] (vB (wA c)):=by
 refine bk func60 rfl<|zW _ (cD b1 c.y)<|eh (λk=>⟨be [(1,.ptr 0 0),(3,.F 114 [] []),(7,.X 1 (c.y.map b1) false),(8,vN c.y.length),(9,vN k)],ap [(0,.box [vI c.mode,vI c.k,vI c.Z,vI c.queue,vI c.W,vI c.o,vI c.L,vI c.ways,.X 1 (c.y.map b1) false,vB c.tables,.X 1 (c.tape.map dU) false])],7⟩) (λk=>k<=c.y.length∧(c.y.take k).all (λn=>it n 1 8)=true) (λk=>c.y.length-k) 0 (λs=>s) (av (λs=>s) wT wH rfl) (⟨aE _,rfl⟩) ?_;intro k f;have m:k<=c.y.length:=f.1;have l:k<=9223372036854775807:=oH b.y;have j:=b.y;refine b7 (am (bz _ _)) (λd=>?_) (λd=>?_)
 ·have i:=bj d;let⟨x,g⟩:=d7 c.y k;refine zX (b1 x) (.dp 1 0 (b1 x)) rfl (iH g)<|zC (ke x 1 8)<|zB rfl (λe=>?_) (λe=>?_)
  ·have z:=e;exact fT rfl (dR (by unfold wA;rw[Ir g (sU z)];simp))
  skip
  have o:k+1<=9223372036854775807:=oT;refine zW _ (ar (bH (oT:k+1<=9223372036854775807) rfl)) ?_;refine⟨k+1,λs=>s,av _ wT wH rfl,⟨oT,DV g (sU e) f.2⟩,c7⟩
 have i:=aF d;exact zC (ke c.mode 0 2)<|gS rfl id<|jQ rfl rfl rfl rfl cn rfl rfl rfl (.inl rfl) rfl (λa=>ke c.k 1 2)<|zN rfl (λh=>h)<|gS rfl id<|jQ rfl rfl rfl rfl cn rfl rfl rfl (.inl rfl) rfl (λa=>ke c.Z 2 8)<|zN rfl (λh=>h)<|gS rfl id<|jQ rfl rfl rfl rfl cn rfl rfl rfl (.inl rfl) rfl (λa=>ke c.queue 1 4)<|zN rfl (λh=>h)<|gS rfl id<|jQ rfl rfl rfl rfl cn rfl rfl rfl (.inl rfl) rfl (λa=>ke c.W 1 4)<|zN rfl (λh=>h)<|gS rfl id<|jQ rfl rfl rfl rfl cn rfl rfl rfl (.inl rfl) rfl (λa=>ke c.o 2 6)<|zN rfl (λh=>h)<|gS rfl id<|jQ rfl rfl rfl rfl cn rfl rfl rfl (.inl rfl) rfl (λa=>ke c.L 1 4)<|zN rfl (λh=>h)<|gS rfl id<|ay rfl id rfl<|zN rfl (λh=>h)<|gS rfl id<|jQ rfl rfl rfl rfl cn rfl rfl rfl (.inl rfl) rfl (λa=>ke c.ways 1 2)<|zN rfl (λh=>h)<|gS rfl id<|ay rfl id (cD b1 c.y)<|ay rfl id (am (jh _ _))<|zN rfl (λh=>h)<|gS rfl id<|ay rfl id (cD dU c.tape)<|ay rfl id (am (jh _ _))<|zN rfl (λh=>h)<|fT rfl (dR (by unfold wA;rw[DW ad f.2,bB];simp[qA,uK]))
def sy(c)(f)(a:c.ok):bI C0 62 [.agg (fv c false),.agg (ie f false false)] (vB (Ax c f)):=by
 exact bk func62 rfl<|zC (AW c false a)<|gS rfl id<|e8 rfl id (cD bX c.L)<|gS rfl id<|ay rfl cn rfl<|zN rfl (λh=>h)<|zG rfl id<|gS rfl id<|ay rfl cn rfl<|zN rfl (λh=>h)<|fT rfl (dR (by rw[bB];simp[qA,ae,Ax]))
abbrev O9(t:Ca×List a5×Bool):AV:=.E [.agg (fv t.1 false),.X 4 (t.2.1.map ca) false,vB t.2.2]
abbrev O'(t:List Pt×Ca×Bool):AV:=.E [.X 2 (t.1.map aw) false,.agg (fv t.2.1 false),vB t.2.2]
def GR{c}(g:c.ok)(agY)(d)(b):(qZ c agY d b).2.1.R<=4294967295:=by
 by_cases a:gG c=true
 ·by_cases e:(bK c agY).2.isSome=true
  ·rw[Cn e];exact aE _
  ·rw[AR a (sU e)];split
   ·show((pF c (bK c agY).1).getLast?.getD qE).R<=_
    cases i:(pF c (bK c agY).1).getLast? with
    |none=>exact aE _
    |some w=>
     have h:=List.mem_of_getLast? i;have f:(bK c agY).1<c.L.length:=by rw[rI a];exact AP (kJ a).1 _
     rw[vA (aA f)]at h;exact((g.set _ (jO f)).2 w h).R
   ·exact aE _
 ·rw[Nh (sU a)];exact aE _
def Nb(c)(q)(m)(agY)(left)(b:c.ok)(k:q.length<=900000)(j:∀x∈q,x.ok)(i:m.size<=1000000)(a:agY<=4294967295):bI C0 124 [.agg (fv c false),.X 4 (q.map ca) false,.v (.string m),vU agY,vI left] (O9 (iQ c q m agY left)):=by
 refine e_ func124 rfl<|zC (AW c false b)<|zB rfl (λd=>?_) (λd=>?_)
 ·rw[show iQ c q m agY left=(c,q,false)from by unfold iQ;rw[aa (sU d)]];exact fT rfl rfl
 refine zC (tN agY a)<|zC (As c (ab agY) b (dV a))<|zB rfl (λf=>?_) (λf=>?_)
 ·apply zC (It c (ab agY) b (dV a));rw[show iQ c q m agY left=(tO c (ab agY),q,false)from by unfold iQ;rw[dZ (sU d),aa f]];exact fT rfl rfl
 refine zR<|zC (QZ q m false i k j)<|zC (A5 (jZ q m) (ab agY) (by unfold jZ;rw[iY];exact i) (dV a))<|zC (Re c (ab agY) (Ga (jZ q m) (ab agY)) false b (dV a))<|gS rfl id<|zN rfl (λh=>h)<|gS rfl id<|ay rfl id rfl<|zN rfl (λh=>h)<|zB rfl (λg=>?_) (λg=>?_)
 ·have e:((qZ c (ab agY) (Ga (jZ q m) (ab agY)) false).2.2=true∧(qZ c (ab agY) (Ga (jZ q m) (ab agY)) false).2.1.Z'=true∧(qZ c (ab agY) (Ga (jZ q m) (ab agY)) false).2.1.data.size≠0):=by have z:=g;rw[jd]at z;simpa [qA,uK]using z
  refine zR<|zC (Ng q 4 (qZ c (ab agY) (Ga (jZ q m) (ab agY)) false).2.1.R left (qZ c (ab agY) (Ga (jZ q m) (ab agY)) false).2.1.data false k j (GR b _ _ _)) ?_;rw[show iQ c q m agY left=((qZ c (ab agY) (Ga (jZ q m) (ab agY)) false).1,Bi q 4 (qZ c (ab agY) (Ga (jZ q m) (ab agY)) false).2.1.R left (qZ c (ab agY) (Ga (jZ q m) (ab agY)) false).2.1.data,true)from by unfold iQ;rw[dZ (sU d),dZ (by rw[f];decide)];exact aa e];exact fT rfl rfl
 have e: ¬((qZ c (ab agY) (Ga (jZ q m) (ab agY)) false).2.2=true∧(qZ c (ab agY) (Ga (jZ q m) (ab agY)) false).2.1.Z'=true∧(qZ c (ab agY) (Ga (jZ q m) (ab agY)) false).2.1.data.size≠0):=by have z:=g;rw[jd]at z;simpa [qA,uK]using z
 rw[show iQ c q m agY left=((qZ c (ab agY) (Ga (jZ q m) (ab agY)) false).1,q,false)from by unfold iQ;rw[dZ (sU d),dZ (by rw[f];decide)];exact dZ e];exact fT rfl rfl
def yr(l)(c)(e:c.ok)(h:l.length<=1000000)(f:∀x∈l,x.ok):bI C0 99 [.X 2 (l.map aw) false,.agg (fv c false)] (O' (sL l c)):=by
 refine e_ func99 rfl<|rW _ rfl (cD aw l)<|zW (vB (l.length==0)) (am (a6 _ _))<|zB rfl (λb=>?_) (λb=>?_)
 ·have a:=mT b;refine pO rfl rfl<|oR 3 rfl<|a_ rfl<|oR 1 rfl<|rE 12<|And.intro (by kernel_rfl)<|dh 0 rfl ?_;have g:l=[]:=g3 a;subst g;exact fT rfl rfl
 have a:=nA b;refine a8<|oR 2 rfl ?_;let⟨p,hp⟩:=d7 l 0;refine FO _ rfl rfl rfl (⟨dT,iH hp⟩) rfl<|oR 3 rfl<|FO _ rfl rfl rfl (⟨dT,iH hp⟩) rfl<|oR 2 rfl<|a1 rfl (Um c p.V p.data e (f p (aB hp)).V)<|oR 3 rfl<|e4 20 rfl rfl<|a_ rfl<|oR 1 rfl<|rE 23<|jq 0 rfl<|zB rfl (λd=>?_) (λd=>?_)
 ·refine pO rfl rfl<|oR 3 rfl<|a_ rfl<|oR 1 rfl<|rE 30<|And.intro (by kernel_rfl)<|dh 0 rfl ?_;rw[show sL l c=(l,c,false)from by unfold sL;cases l with|nil=>cases hp|cons y l=>injection hp with hp;subst hp;exact dZ (sU d)];exact fT rfl rfl
 refine pO rfl rfl<|oR 1 rfl<|nW _ rfl (yB (Kr aw l 1)) g7<|oR 2 rfl<|a_ rfl<|oR 1 rfl<|rE 31<|And.intro (by kernel_rfl)<|dh 0 rfl ?_;rw[show sL l c=(l.drop 1,(xL c p.V p.data).1,true)from by unfold sL;cases l with|nil=>cases hp|cons y l=>injection hp with hp;subst hp;exact aa (sU d)];exact fT rfl rfl
structure Gu.ok(g:Gu):Prop where
 o:g.o.length<=9223372036854775807
 J:g.J.length<=9223372036854775807
 Z7:g.Z7<=4294967295
 so:∀x∈g.o,x.ok
 ro:∀x∈g.J,x<=4294967295
def XM{g}:sM g=true↔g.o.length=8∧g.Z7<8∧g.J.length<=4:=by
 unfold sM;simp[aP,aY,uK]
def td{r}{k}(h:cE (!r) true (k != 5)=false):r=true∧k=5:=by
 cases r<;>simp[cE]at h⊢;exact h
def VR{r}{k}(h:cE (!r) true (k != 5)=true): ¬(r=true∧k=5):=by
 cases r<;>simp[cE]at h⊢;exact h
def UP{l:List Nat}{x}(h:l[l.length-1]?=some x):l.getLast?.getD 0=x:=by rw[oX,h];rfl
def IZ(g)(a:g.ok):bI C0 63 [.agg (il g)] (vB (sM g)):=by
 exact bk func63 rfl<|rW _ rfl (cD c8 g.o)<|zW _ (am (a6 _ _))<|gS rfl id<|ay rfl id (am (bz _ _))<|zN rfl (λh=>h)<|gS rfl id<|ay rfl id (cD dU g.J)<|ay rfl id (am (jh _ _))<|zN rfl (λh=>h)<|fT rfl (dR (by rw[bB];simp[qA,ae,sM]))
def RG(g)(pc)(b:g.ok)(c:pc<=4294967295):bI C0 129 [.agg (il g),vU pc] (vN (gO g pc)):=by
 apply bk func129 rfl;have a:pc/4<=1073741823:=eG c;refine zM _ (hW (nJ a rfl)) dT ?_;exact rW _ rfl (ar (yd a b.Z7 rfl rfl)) (nW _ rfl rfl dT<|zW _ (ar (bH (aI (aQ _ dT)) rfl))<|fT rfl (oe rfl))
def KH(g)(pc):gO g pc<=7:=by unfold gO;omega
def RH(i)(a:i.A<=4294967295):bI C0 130 [hC i] (vB (Ro i)):=by
 exact bk func130 rfl<|zV (vB (i.op==3))<|gS rfl id<|ay rfl id rfl<|zN rfl (by simp)<|gS rfl id<|ay rfl id rfl<|zN rfl (λh=>h)<|fT rfl (dR (by rw[bB];simp[qA,ae,Ro]))
def rj(i)(a:i.A<=4294967295):bI C0 131 [hC i] (vB (Gb i)):=by
 exact bk func131 rfl<|zV (vB (i.op==4))<|gS rfl id<|ay rfl id rfl<|zN rfl (λh=>h)<|gS rfl id<|ay rfl id rfl<|zN rfl (λh=>h)<|fT rfl (dR (by rw[bB];simp[qA,ae,Gb]))
def RJ(g)(pc)(i)(a:g.ok)(o:pc<=4294967295)(q:i.A<=4294967295):bI C0 143 [.agg (il g),vU pc,hC i] (vU (xC g pc i)):=by
 refine e_ func143 rfl<|zC (IZ g a)<|jQ rfl rfl rfl rfl (λh=>h) rfl rfl rfl (.inl rfl) rfl (λB=>pS i)<|ay rfl id (am (db _ _))<|zN rfl (by simp)<|zB rfl (λf=>?_) (λf=>?_)
 ·have w:(pc+4)%4294967296<=4294967295:=aI (aQ _ dT);exact zV (vU ((pc+4)%4294967296))<|fT rfl (GW (by unfold xC;rw[dZ (VR f)];rfl))
 have k:=td f;have e:=XM.1 k.1;have u:=e.1;have A:=KH g pc;have v:=e.2.2;refine zW _ (cD dU g.J)<|zC (rj i q)<|ay rfl id (am (fw _ _))<|zN rfl (λh=>h)<|zB rfl (λj=>?_) (λj=>?_)
 ·have d:Gb i=true∧0<g.J.length:=by simpa [qA]using j
  have t:=d.2;have x:g.J.length-1<=9223372036854775807:=aL (jT _ _) a.J;refine rW _ rfl (ar (DA ad a.J rfl)) ?_;let⟨l,b⟩:=d7 g.J (g.J.length-1);have r:=a.ro l (aB b);exact zX (dU l) (.dp 1 0 (dU l)) rfl (iH b)<|fT rfl (GW (by unfold xC;rw[aa k,aa d,UP b]))
 have d: ¬(Gb i=true∧0<g.J.length):=by simpa [qA]using j
 refine zR<|zC (RG g pc a o) ?_;let⟨m,c⟩:=d7 g.o (gO g pc);have s:=a.so m (aB c);refine zX (c8 m) (.dp 2 0 (c8 m)) rfl (iH c)<|zW _ (am (a6 _ _))<|gB rfl rfl<|ay rfl cn rfl<|zN rfl (λh=>h)<|zB rfl (λn=>?_) (λn=>?_)
 all_goals
  first|(skip;have y:(pc+4)%4294967296<=4294967295:=aI (aQ _ dT);refine zV (vU ((pc+4)%4294967296)) ?_)|skip
  exact fT rfl (GW (by unfold xC;rw[aa k,dZ d];have z:=n;simp[qA]at z;simp[c,b8,z]<;>(intros;simp_all)))
def AZ(g)(pc next)(i)(e:g.ok)(A:pc<=4294967295)(C:next<=4294967295)(r:i.A<=4294967295):bI C0 87 [.agg (il g),vU pc,vU next,hC i] (.agg (il (fM g pc next i))):=by
 refine e_ func87 rfl<|zC (IZ g e)<|jQ (x:=vN (ak i.op)) (g:= !(!(sM g))) rfl rfl rfl rfl (λh=>h) rfl rfl rfl (.inl rfl) rfl (λX=>pS i)<|ay rfl id (am (db _ _))<|zN rfl (by simp)<|zB rfl (λu=>?_) (λu=>?_)
 ·apply dK rfl hD rfl;show AV.agg [.X 2 (g.o.map c8) false,vU g.Z7,.X 1 (g.J.map dU) false]=_;refine az (λz=>AV.agg (il z)) (?_:g=fM g pc next i);unfold fM;rw[dZ (VR u)]
 have f:=td u;have s:=XM.1 f.1;have K:=s.1;have W:=KH g pc;have L:=s.2.2;refine zF (x:=.S 11 0 8 false) (h':=ao _ 11 (some (.arr ((List.replicate 8 (⟨0,0⟩:Gs)).map c8) 2))) (Ri (fH (f:=c8) (a:=(⟨0,0⟩:Gs))).symm) (⟨dT,dT,by show((8:Nat):Int)<=1000000;omega⟩)<|zF (x:=vI ((min ((g.o.map c8).length) (8):Nat):Int)) (h':=ao _ 11 (some (.arr (g.o.map c8) 2))) (II (DX c8 ((List.replicate 8 (⟨0,0⟩:Gs)).map c8) g.o ad ad)) (⟨by exact ad,trivial⟩)<|zC (RG g pc e A)<|rV (.agg [vU pc,vU next]) rfl<|nW (.u 11 (0+(gO g pc)) 0) rfl rfl ez ?_;let⟨B,t⟩:=d7 g.o (gO g pc);have D:=e.so B (aB t);have M:(g.o.set (gO g pc) (⟨pc,next⟩:Gs))[(gO g pc)]?=some (⟨pc,next⟩:Gs):=aZ ad;apply nM (c8 B) (h':=ao _ 11 (some (.arr ((g.o.set (gO g pc) (⟨pc,next⟩:Gs)).map c8) 2))) rfl rfl rfl (⟨aG _,Jv (iH t)⟩) (vX (f:=c8) (l:=g.o) (k:=(gO g pc)) (x:=(⟨pc,next⟩:Gs)));have N:(2*g.Z7)%4294967296<=4294967295:=aI (aQ _ dT);refine qR 0 rfl<|zV (vU ((2*g.Z7)%4294967296)) ?_;have O:(pc+4)%4294967296<=4294967295:=aI (aQ _ dT);refine rV (vU ((pc+4)%4294967296)) rfl<|zW (vB (next != ((pc+4)%4294967296))) (am (db _ _))<|zB rfl (λd=>?_) (λd=>?_)
 ·have v:=wM d;have P:(((2*g.Z7)%4294967296)+1)%4294967296<=4294967295:=aI (aQ _ dT);refine zV (vU ((((2*g.Z7)%4294967296)+1)%4294967296))<|zF (x:=.S 37 0 0 false) (h':=ao _ 37 (some (.arr (([]:List Nat).map dU) 1))) (rfl) (⟨dT,dT,by show((5:Nat):Int)<=1000000;omega⟩)<|zF (x:=.S 42 0 g.J.length false) (h':=ao (ao _ 37 none) 42 (some (.arr (g.J.map dU) 1))) (iP dU ([]:List Nat) g.J ad ad) (⟨by exact ad,by exact ad,trivial⟩)<|zV (vN g.J.length)<|zC (RH i r)<|zB rfl (λj=>?_) (λj=>?_)
  ·skip
   have Q:(pc+4)%4294967296<=4294967295:=aI (aQ _ dT);refine rV (vU ((pc+4)%4294967296)) rfl<|rV (.X 1 ([[vU ((pc+4)%4294967296)]]) true) rfl<|zF (x:=.S 54 0 (g.J.length+1) false) (h':=ao (ao _ 42 none) 54 (some (.arr ((g.J++([(pc+4)%4294967296])).map dU) 1))) (iP dU g.J ([(pc+4)%4294967296]) ad ad) (⟨by exact ad,by exact ad,trivial⟩)<|rV (vN (g.J.length+1)) rfl<|zW (vB (decide ((g.J.length+1)>4))) (am (fw _ _))<|zB rfl (λk=>?_) (λk=>?_)
   ·have w:=bj k;refine zM (.S 54 1 (g.J.length+1-1) false) (LR (by first|rfl|omega) (by simp only[Option.getD];omega)) g7 ?_;have R:((((2*g.Z7)%4294967296)+1)%4294967296)%8<=7:=aI (aQ _ dT);refine zM (vU (((((2*g.Z7)%4294967296)+1)%4294967296)%8)) rfl dT<|zV (.agg [.S 11 0 8 false,vU (((((2*g.Z7)%4294967296)+1)%4294967296)%8),.S 54 1 (g.J.length+1-1) false])<|dK rfl ⟨(by show 0+8<=((g.o.set (gO g pc) (⟨pc,next⟩:Gs)).map c8).length;exact ad),trivial,(by show 1+(g.J.length+1-1)<=((g.J++([(pc+4)%4294967296])).map dU).length;exact ad),trivial⟩ rfl ?_;show AV.agg [.X 2 (List.take 8 (List.drop 0 ((g.o.set (gO g pc) (⟨pc,next⟩:Gs)).map c8))) false,vU (((((2*g.Z7)%4294967296)+1)%4294967296)%8),.X 1 (List.take (g.J.length+1-1) (List.drop 1 ((g.J++([(pc+4)%4294967296])).map dU))) false]=_;rw[jW c8 (g.o.set (gO g pc) (⟨pc,next⟩:Gs)) ad,Cp (M:=(g.J++([(pc+4)%4294967296])).drop 1) dU (g.J++([(pc+4)%4294967296])) (aN ad)];refine az (λz=>AV.agg (il z)) (?_:(⟨g.o.set (gO g pc) (⟨pc,next⟩:Gs),((((2*g.Z7)%4294967296)+1)%4294967296)%8,(g.J++([(pc+4)%4294967296])).drop 1⟩:Gu)=fM g pc next i);unfold fM;rw[aa f];have z:=d;have a:=j;have b:=k;have c:b8 pc=(pc+4)%4294967296:=rfl;rw[c]
    try simp[qA]at z a b
    simp[z,a,b,ka]<;>(intros;first|omega|simp_all)
   have w:=aF k;have S:((((2*g.Z7)%4294967296)+1)%4294967296)%8<=7:=aI (aQ _ dT);refine zM (vU (((((2*g.Z7)%4294967296)+1)%4294967296)%8)) rfl dT<|zV (.agg [.S 11 0 8 false,vU (((((2*g.Z7)%4294967296)+1)%4294967296)%8),.S 54 0 (g.J.length+1) false])<|dK rfl ⟨(by show 0+8<=((g.o.set (gO g pc) (⟨pc,next⟩:Gs)).map c8).length;exact ad),trivial,(by show 0+(g.J.length+1)<=((g.J++([(pc+4)%4294967296])).map dU).length;exact ad),trivial⟩ rfl ?_;show AV.agg [.X 2 (List.take 8 (List.drop 0 ((g.o.set (gO g pc) (⟨pc,next⟩:Gs)).map c8))) false,vU (((((2*g.Z7)%4294967296)+1)%4294967296)%8),.X 1 (List.take (g.J.length+1) (List.drop 0 ((g.J++([(pc+4)%4294967296])).map dU))) false]=_;rw[jW c8 (g.o.set (gO g pc) (⟨pc,next⟩:Gs)) ad,jW dU (g.J++([(pc+4)%4294967296])) ad];refine az (λz=>AV.agg (il z)) (?_:(⟨g.o.set (gO g pc) (⟨pc,next⟩:Gs),((((2*g.Z7)%4294967296)+1)%4294967296)%8,g.J++([(pc+4)%4294967296])⟩:Gu)=fM g pc next i);unfold fM;rw[aa f];have z:=d;have a:=j;have b:=k;have c:b8 pc=(pc+4)%4294967296:=rfl;rw[c]
   try simp[qA]at z a b
   simp[z,a,b,ka]<;>(intros;first|omega|simp_all)
  refine zC (rj i r)<|ay rfl id (am (fw _ _))<|zN rfl (λh=>h)<|zB rfl (λl=>?_) (λl=>?_)
  ·have q:Gb i=true∧0<g.J.length:=by simpa [qA]using l
   have y:=q.2;have T:g.J.length-1<=9223372036854775807:=aL (jT _ _) e.J;refine rW (vN (g.J.length-1)) rfl (ar (DA ad e.J rfl))<|zM (.S 42 0 (g.J.length-1) false) (LR (by first|rfl|omega) (by simp only[Option.getD];omega)) g7 ?_;have U:((((2*g.Z7)%4294967296)+1)%4294967296)%8<=7:=aI (aQ _ dT);refine zM (vU (((((2*g.Z7)%4294967296)+1)%4294967296)%8)) rfl dT<|zV (.agg [.S 11 0 8 false,vU (((((2*g.Z7)%4294967296)+1)%4294967296)%8),.S 42 0 (g.J.length-1) false])<|dK rfl ⟨(by show 0+8<=((g.o.set (gO g pc) (⟨pc,next⟩:Gs)).map c8).length;exact ad),trivial,(by show 0+(g.J.length-1)<=(g.J.map dU).length;exact ad),trivial⟩ rfl ?_;show AV.agg [.X 2 (List.take 8 (List.drop 0 ((g.o.set (gO g pc) (⟨pc,next⟩:Gs)).map c8))) false,vU (((((2*g.Z7)%4294967296)+1)%4294967296)%8),.X 1 (List.take (g.J.length-1) (List.drop 0 (g.J.map dU))) false]=_;rw[jW c8 (g.o.set (gO g pc) (⟨pc,next⟩:Gs)) ad,Cp (M:=g.J.take (g.J.length-1)) dU g.J (by rw[bS])];refine az (λz=>AV.agg (il z)) (?_:(⟨g.o.set (gO g pc) (⟨pc,next⟩:Gs),((((2*g.Z7)%4294967296)+1)%4294967296)%8,g.J.take (g.J.length-1)⟩:Gu)=fM g pc next i);unfold fM;rw[aa f];have z:=d;have a:=j;have b:=l;have c:b8 pc=(pc+4)%4294967296:=rfl;rw[c]
   try simp[qA]at z a b
   simp[z,a,b,ka]<;>(intros;first|omega|simp_all)
  have q: ¬(Gb i=true∧0<g.J.length):=by simpa [qA]using l
  have V:((((2*g.Z7)%4294967296)+1)%4294967296)%8<=7:=aI (aQ _ dT);refine zM (vU (((((2*g.Z7)%4294967296)+1)%4294967296)%8)) rfl dT<|zV (.agg [.S 11 0 8 false,vU (((((2*g.Z7)%4294967296)+1)%4294967296)%8),.S 42 0 g.J.length false])<|dK rfl ⟨(by show 0+8<=((g.o.set (gO g pc) (⟨pc,next⟩:Gs)).map c8).length;exact ad),trivial,(by show 0+g.J.length<=(g.J.map dU).length;exact ad),trivial⟩ rfl ?_;show AV.agg [.X 2 (List.take 8 (List.drop 0 ((g.o.set (gO g pc) (⟨pc,next⟩:Gs)).map c8))) false,vU (((((2*g.Z7)%4294967296)+1)%4294967296)%8),.X 1 (List.take g.J.length (List.drop 0 (g.J.map dU))) false]=_;rw[jW c8 (g.o.set (gO g pc) (⟨pc,next⟩:Gs)) ad,jW dU g.J ad];refine az (λz=>AV.agg (il z)) (?_:(⟨g.o.set (gO g pc) (⟨pc,next⟩:Gs),((((2*g.Z7)%4294967296)+1)%4294967296)%8,g.J⟩:Gu)=fM g pc next i);unfold fM;rw[aa f];have z:=d;have a:=j;have b:=l;have c:b8 pc=(pc+4)%4294967296:=rfl;rw[c]
  try simp[qA]at z a b
  simp[z,a,b,ka]<;>(intros;first|omega|simp_all)
 have v:=wN d;refine zF (x:=.S 34 0 0 false) (h':=ao _ 34 (some (.arr (([]:List Nat).map dU) 1))) (rfl) (⟨dT,dT,by show((5:Nat):Int)<=1000000;omega⟩)<|zF (x:=.S 39 0 g.J.length false) (h':=ao (ao _ 34 none) 39 (some (.arr (g.J.map dU) 1))) (iP dU ([]:List Nat) g.J ad ad) (⟨by exact ad,by exact ad,trivial⟩)<|zV (vN g.J.length)<|zC (RH i r)<|zB rfl (λm=>?_) (λm=>?_)
 ·skip
  have E:(pc+4)%4294967296<=4294967295:=aI (aQ _ dT);refine rV (vU ((pc+4)%4294967296)) rfl<|rV (.X 1 ([[vU ((pc+4)%4294967296)]]) true) rfl<|zF (x:=.S 51 0 (g.J.length+1) false) (h':=ao (ao _ 39 none) 51 (some (.arr ((g.J++([(pc+4)%4294967296])).map dU) 1))) (iP dU g.J ([(pc+4)%4294967296]) ad ad) (⟨by exact ad,by exact ad,trivial⟩)<|rV (vN (g.J.length+1)) rfl<|zW (vB (decide ((g.J.length+1)>4))) (am (fw _ _))<|zB rfl (λn=>?_) (λn=>?_)
  ·have x:=bj n;refine zM (.S 51 1 (g.J.length+1-1) false) (LR (by first|rfl|omega) (by simp only[Option.getD];omega)) g7 ?_;have F:((2*g.Z7)%4294967296)%8<=7:=aI (aQ _ dT);refine zM (vU (((2*g.Z7)%4294967296)%8)) rfl dT<|zV (.agg [.S 11 0 8 false,vU (((2*g.Z7)%4294967296)%8),.S 51 1 (g.J.length+1-1) false])<|dK rfl ⟨(by show 0+8<=((g.o.set (gO g pc) (⟨pc,next⟩:Gs)).map c8).length;exact ad),trivial,(by show 1+(g.J.length+1-1)<=((g.J++([(pc+4)%4294967296])).map dU).length;exact ad),trivial⟩ rfl ?_;show AV.agg [.X 2 (List.take 8 (List.drop 0 ((g.o.set (gO g pc) (⟨pc,next⟩:Gs)).map c8))) false,vU (((2*g.Z7)%4294967296)%8),.X 1 (List.take (g.J.length+1-1) (List.drop 1 ((g.J++([(pc+4)%4294967296])).map dU))) false]=_;rw[jW c8 (g.o.set (gO g pc) (⟨pc,next⟩:Gs)) ad,Cp (M:=(g.J++([(pc+4)%4294967296])).drop 1) dU (g.J++([(pc+4)%4294967296])) (aN ad)];refine az (λz=>AV.agg (il z)) (?_:(⟨g.o.set (gO g pc) (⟨pc,next⟩:Gs),((2*g.Z7)%4294967296)%8,(g.J++([(pc+4)%4294967296])).drop 1⟩:Gu)=fM g pc next i);unfold fM;rw[aa f];have z:=d;have a:=m;have b:=n;have c:b8 pc=(pc+4)%4294967296:=rfl;rw[c]
   try simp[qA]at z a b
   simp[z,a,b,ka]<;>(intros;first|omega|simp_all)
  have x:=aF n;have G:((2*g.Z7)%4294967296)%8<=7:=aI (aQ _ dT);refine zM (vU (((2*g.Z7)%4294967296)%8)) rfl dT<|zV (.agg [.S 11 0 8 false,vU (((2*g.Z7)%4294967296)%8),.S 51 0 (g.J.length+1) false])<|dK rfl ⟨(by show 0+8<=((g.o.set (gO g pc) (⟨pc,next⟩:Gs)).map c8).length;exact ad),trivial,(by show 0+(g.J.length+1)<=((g.J++([(pc+4)%4294967296])).map dU).length;exact ad),trivial⟩ rfl ?_;show AV.agg [.X 2 (List.take 8 (List.drop 0 ((g.o.set (gO g pc) (⟨pc,next⟩:Gs)).map c8))) false,vU (((2*g.Z7)%4294967296)%8),.X 1 (List.take (g.J.length+1) (List.drop 0 ((g.J++([(pc+4)%4294967296])).map dU))) false]=_;rw[jW c8 (g.o.set (gO g pc) (⟨pc,next⟩:Gs)) ad,jW dU (g.J++([(pc+4)%4294967296])) ad];refine az (λz=>AV.agg (il z)) (?_:(⟨g.o.set (gO g pc) (⟨pc,next⟩:Gs),((2*g.Z7)%4294967296)%8,g.J++([(pc+4)%4294967296])⟩:Gu)=fM g pc next i);unfold fM;rw[aa f];have z:=d;have a:=m;have b:=n;have c:b8 pc=(pc+4)%4294967296:=rfl;rw[c]
  try simp[qA]at z a b
  simp[z,a,b,ka]<;>(intros;first|omega|simp_all)
 refine zC (rj i r)<|ay rfl id (am (fw _ _))<|zN rfl (λh=>h)<|zB rfl (λo=>?_) (λo=>?_)
 ·have q:Gb i=true∧0<g.J.length:=by simpa [qA]using o
  have y:=q.2;have H:g.J.length-1<=9223372036854775807:=aL (jT _ _) e.J;refine rW (vN (g.J.length-1)) rfl (ar (DA ad e.J rfl))<|zM (.S 39 0 (g.J.length-1) false) (LR (by first|rfl|omega) (by simp only[Option.getD];omega)) g7 ?_;have I:((2*g.Z7)%4294967296)%8<=7:=aI (aQ _ dT);refine zM (vU (((2*g.Z7)%4294967296)%8)) rfl dT<|zV (.agg [.S 11 0 8 false,vU (((2*g.Z7)%4294967296)%8),.S 39 0 (g.J.length-1) false])<|dK rfl ⟨(by show 0+8<=((g.o.set (gO g pc) (⟨pc,next⟩:Gs)).map c8).length;exact ad),trivial,(by show 0+(g.J.length-1)<=(g.J.map dU).length;exact ad),trivial⟩ rfl ?_;show AV.agg [.X 2 (List.take 8 (List.drop 0 ((g.o.set (gO g pc) (⟨pc,next⟩:Gs)).map c8))) false,vU (((2*g.Z7)%4294967296)%8),.X 1 (List.take (g.J.length-1) (List.drop 0 (g.J.map dU))) false]=_;rw[jW c8 (g.o.set (gO g pc) (⟨pc,next⟩:Gs)) ad,Cp (M:=g.J.take (g.J.length-1)) dU g.J (by rw[bS])];refine az (λz=>AV.agg (il z)) (?_:(⟨g.o.set (gO g pc) (⟨pc,next⟩:Gs),((2*g.Z7)%4294967296)%8,g.J.take (g.J.length-1)⟩:Gu)=fM g pc next i);unfold fM;rw[aa f];have z:=d;have a:=m;have b:=o;have c:b8 pc=(pc+4)%4294967296:=rfl;rw[c]
  try simp[qA]at z a b
  simp[z,a,b,ka]<;>(intros;first|omega|simp_all)
 have q: ¬(Gb i=true∧0<g.J.length):=by simpa [qA]using o
 have J:((2*g.Z7)%4294967296)%8<=7:=aI (aQ _ dT);refine zM (vU (((2*g.Z7)%4294967296)%8)) rfl dT<|zV (.agg [.S 11 0 8 false,vU (((2*g.Z7)%4294967296)%8),.S 39 0 g.J.length false])<|dK rfl ⟨(by show 0+8<=((g.o.set (gO g pc) (⟨pc,next⟩:Gs)).map c8).length;exact ad),trivial,(by show 0+g.J.length<=(g.J.map dU).length;exact ad),trivial⟩ rfl ?_;show AV.agg [.X 2 (List.take 8 (List.drop 0 ((g.o.set (gO g pc) (⟨pc,next⟩:Gs)).map c8))) false,vU (((2*g.Z7)%4294967296)%8),.X 1 (List.take g.J.length (List.drop 0 (g.J.map dU))) false]=_;rw[jW c8 (g.o.set (gO g pc) (⟨pc,next⟩:Gs)) ad,jW dU g.J ad];refine az (λz=>AV.agg (il z)) (?_:(⟨g.o.set (gO g pc) (⟨pc,next⟩:Gs),((2*g.Z7)%4294967296)%8,g.J⟩:Gu)=fM g pc next i);unfold fM;rw[aa f];have z:=d;have a:=m;have b:=o;have c:b8 pc=(pc+4)%4294967296:=rfl;rw[c]
 try simp[qA]at z a b
 simp[z,a,b,ka]<;>(intros;first|omega|simp_all)
def MZ(i):Xq i=true↔l6 ⟨i.op,i.rd,i.m,i.x,i.A⟩:=by
 unfold Xq l6;simp[aP,aY];let⟨n,t,o,q,s⟩:=i;constructor
 ·rintro⟨⟨⟨⟨⟨⟨g,h⟩,f⟩,j⟩,k⟩,l⟩,m⟩;refine⟨g,h,?_⟩;generalize xW n _=r at f j k l m⊢;let⟨a,b,c,d,e⟩:=r;simp only at f j k l m;subst f j k l m;rfl
 rintro⟨g,h,f⟩;simp only at f;refine⟨⟨⟨⟨⟨⟨g,h⟩,?_⟩,?_⟩,?_⟩,?_⟩,?_⟩<;>rw[f]
def Xg(i)(b:i.A<4294967296):bI C0 146 [hC i] (.E [vU (if Xq i=true then Jw ⟨i.op,i.rd,i.m,i.x,i.A⟩else 0),vI (if Xq i=true then 0 else 1)]):=by
 by_cases h:Xq i=true
 ·rw[aa h,aa h];exact .Zw func146 rfl rfl rfl rfl λS w a=>RD Df i.op i.rd i.m i.x i.A w (Db a) b ((MZ i).1 h)
 rw[dZ h,dZ h];exact .Zw func146 rfl rfl rfl rfl λS w a=>RE Df i.op i.rd i.m i.x i.A w (Db a) b (λq=>h ((MZ i).2 q))
def Xh(e)(j:e.ok):bI C0 115 [.agg (aj e)] (vB (xJ e)):=by
 refine bk func115 rfl<|zV (vB (decide (e.is<0)))<|gS rfl id<|ay rfl id rfl<|zN rfl (by simp)<|zB rfl (λa=>?_) (λa=>?_)
 ·replace a:=sP a;exact fT rfl (dR (by unfold xJ;grind [qA,ae]))
 refine zV (vB (e.is==1))<|gS rfl id<|ay rfl id rfl<|zN rfl (λh=>h)<|gS rfl id<|zG rfl id<|gS rfl id<|ay rfl id rfl<|pB rfl rfl rfl rfl (λh=>h) rfl rfl (λf d=>by first|(rw[f,d];rfl)|simp_all)<|zN rfl (by simp)<|zB rfl (λb=>?_) (λb=>?_)
 ·replace a:=sP a;replace b:=sP b;exact fT rfl (dR (by unfold xJ;grind [qA,ae]))
 refine zC (pS e.i)<|zV (vB (e.is==2))<|ay rfl id (am (db _ _))<|zG rfl id<|gS rfl id<|gS rfl id<|pB rfl rfl rfl rfl (λh=>h) rfl rfl (λf d=>by first|(rw[f,d];rfl)|simp_all)<|zN rfl (λh=>h)<|zB rfl (λc=>?_) (λc=>?_)
 ·replace a:=sP a;replace b:=sP b;replace c:=sP c;exact fT rfl (dR (by unfold xJ;grind [qA,ae]))
 refine zV (vB (e.halt != 0))<|gS rfl id<|ay rfl id rfl<|zN rfl (λh=>h)<|zG rfl id<|ay rfl id (am (a6 _ _))<|pB rfl rfl rfl rfl (λh=>h) rfl rfl (λf d=>by first|(rw[f,d];rfl)|simp_all)<|zG rfl id<|gS rfl id<|ay rfl id rfl<|pB rfl rfl rfl rfl (λh=>h) rfl rfl (λf d=>by first|(rw[f,d];rfl)|simp_all)<|gS rfl id<|zN rfl (λh=>h)<|zB rfl (λg=>?_) (λg=>?_)
 ·replace a:=sP a;replace b:=sP b;replace c:=sP c;replace g:=sP g;exact fT rfl (dR (by unfold xJ;grind [qA,ae]))
 refine zC (Xg e.i (CI j.A))<|zW _ rfl<|zB rfl (λi=>?_) (λi=>?_)
 all_goals
  first|(refine zV _ ?_;refine gS rfl id ?_;refine ay rfl id rfl ?_;refine zN rfl (by simp) ?_)|skip
  replace a:=sP a;replace b:=sP b;replace c:=sP c;replace g:=sP g;replace i:=sP i;exact fT rfl (dR (by unfold xJ;grind [qA,ae]))
def QO{α}{p:α->Bool}{l:List α}{k}{x}(b:l[k]?=some x)(a:p x=false)(h:∀y∈l.take k,p y=false):∀y∈l.take (k+1),p y=false:=by
 intro y hy;rw[bW,b]at hy;rcases cx.1 hy with hy|hy
 ·exact h y hy
 simp at hy;subst hy;exact a
def QP{α}{p}{l:List α}{k}{x}(c:l[k]?=some x)(hp:p x=true)(h:∀y∈l.take k,p y=false):l.findIdx? p=some k:=by
 rw[List.findIdx?_eq_some_iff_getElem];obtain⟨b,rfl⟩:=Em.1 c;refine⟨b,hp,λj a=>?_⟩;have:=h _ (aB (by rw[cU,aa a,aA ad]));simp[this]
def Xi{α}{p}{l:List α}{k}(a:l.length<=k)(h:∀y∈l.take k,p y=false):l.findIdx? p=none:=by
 rw[aN a]at h;rwa[List.findIdx?_eq_none_iff]
def QQ{α:Type}{p:α->Bool}{l:List α}:∀y∈l.take 0,p y=false:=λy a=>by simp at a
def QR(agI)(e)(m:agI.length<=1000000)(i:∀x∈agI,x.ok):bI C0 82 [.X 17 (agI.map aj) e] (vI (DM (yD agI))):=by
 refine e_ func82 rfl<|zW _ (cD aj agI)<|eh (λk=>⟨be [(5,.X 17 _ e),(6,vN agI.length),(7,vN k)],ap [],4⟩) (λk=>k<=agI.length∧∀y∈agI.take k,Nj y=false) (λk=>agI.length-k) 0 (λs=>s) (av (λs=>s) wT trivial rfl) (⟨aE _,QQ⟩) ?_;intro k a;have j:k<=agI.length:=a.1;refine b7 (am (bz _ _)) (λc=>?_) (λc=>?_)
 ·have f:=bj c;let⟨x,b⟩:=d7 agI k;have l:=i x (aB b);refine zX _ (.dp 17 0 (aj x)) rfl (iH b)<|a1 rfl (pS x.i)<|zW _ (am (a6 _ _))<|gS rfl id<|zN rfl (λh=>h)<|zG rfl id<|gS rfl id<|ay rfl cn (am (db _ _))<|zN rfl (λh=>h)<|zB rfl (λd=>?_) (λd=>?_)
  ·exact fT rfl (Ni (by unfold yD;rw[QP b (by simpa [Nj,qA,uK]using d) a.2];rfl))
  skip
  have g:k+1<=1000001:=aD oT (aC 1);refine zW _ (ar (bH g rfl)) ?_;refine⟨k+1,λs=>s,av _ wT trivial rfl,⟨oT,QO b (by have z:=d;unfold Nj;simp[qA]at z;grind) a.2⟩,c7⟩
 have f:=aF c;exact fT rfl (Ni (by unfold yD;rw[Xi ad a.2];rfl))
def Xj{f}{k}(hp:f k=true)(h:(List.range k).all f=true):(List.range (k+1)).all f=true:=by
 rw[gZ,List.all_append,h];simpa using hp
def yq{f}{k n}(a:k<n)(hp:f k=false):(List.range n).all f=false:=by
 rw[List.all_eq_false];exact⟨k,lI.2 a,by simp[hp]⟩
def Uf{agI:List ai}{k}(a:decide (k>0)=true)(c:k<agI.length)(d:agI.length<=1000):0<=IntKind.wrap .i64 ((k:Int)-1)∧(agI.map aj)[(IntKind.wrap .i64 ((k:Int)-1)).toNat]?=some (aj ((agI[k-1]?).getD Cs)):=by
 have b:=bj a;rw[show IntKind.wrap .i64 _=((k-1:Nat):Int)from by rw[c4 ad ad];omega];refine⟨aG _,?_⟩;show(agI.map aj)[k-1]?=_;rw[aX,aA (oT:k-1<agI.length)];rfl
def Na{agI}{k}{x}(a:agI[k]?=some x):IB agI k=((k==0||decide (((agI[k-1]?).getD Cs).no<x.no))&&xJ x):=by
 unfold IB p6;rw[a];have b:=(Em.1 a).1;rw[aA (oT:k-1<agI.length)];rfl
def Xk(agI)(c)(u:agI.length<=9223372036854775807)(o:∀x∈agI,x.ok):bI C0 61 [.X 17 (agI.map aj) c] (vB (Ff agI)):=by
 refine e_ func61 rfl<|rW (vN agI.length) rfl (cD aj agI)<|zW (vB (decide (agI.length>8))) (am (fw _ _))<|zB rfl (λd=>?_) (λd=>?_)
 ·have i:=bj d;exact fT rfl (dR (by unfold Ff;rw[sW ad];rfl))
 have i:=aF d;refine zW (vN agI.length) (cD aj agI)<|eh (λk=>⟨be [(0,.X 17 (agI.map aj) c),(7,vB (decide (agI.length>8))),(8,.X 17 (agI.map aj) c),(9,vN agI.length),(10,vN k)],ap [],7⟩) (λk=>k<=agI.length∧(List.range k).all (IB agI)=true) (λk=>agI.length-k) 0 (λs=>s) (av (λs=>s) wT trivial rfl) (⟨aE _,rfl⟩) ?_;intro k g;have r:k<=agI.length:=g.1;have q:k<=1000000:=oT;refine zW (vB (decide (k<agI.length))) (am (bz _ _))<|zB rfl (λe=>?_) (λe=>?_)
 ·have j:=bj e;let⟨x,b⟩:=d7 agI k;have n:=o x (aB b);refine zX (aj x) (.dp 17 0 (aj x)) rfl (iH b)<|a8<|oR 1 rfl<|rW (vB (decide (k>0))) rfl (am (fw _ _))<|oR 1 rfl<|gN rfl<|gN rfl<|ay rfl id rfl<|DK (aj ((agI[k-1]?).getD Cs)) rfl rfl rfl rfl cn rfl rfl (λl=>Uf l ad ad) rfl<|gS rfl id<|gS rfl id<|gN rfl<|gS rfl id<|ay rfl cn rfl<|bO rfl rfl rfl (λh=>h)<|oR 1 rfl<|gN rfl<|jQ rfl rfl rfl rfl (λh=>h) rfl rfl rfl (.inl rfl) rfl (λl=>Xh x n)<|gS rfl id<|bO rfl rfl rfl (by simp)<|rE 32<|jq 0 rfl<|zB rfl (λf=>?_) (λf=>?_)
  ·exact fT rfl (dR (by unfold Ff;rw[yq ad (by rw[Na b];have z:=f;simp[qA,ae]at z;grind)];simp))
  skip
  have t:k+1<=9223372036854775807:=oT;refine zW (vN (k+1)) (ar (bH (oT:k+1<=9223372036854775807) rfl)) ?_;refine⟨k+1,λs=>s,av _ wT trivial rfl,⟨oT,Xj (by rw[Na b];have z:=f;simp[qA,ae]at z;grind) g.2⟩,c7⟩
 have j:=aF e;have m:k=agI.length:=oT;have a:=g.2;rw[m]at a;exact fT rfl (dR (by unfold Ff;rw[a,jP ad];rfl))
def CJ(R:List ai)(lo n i)(b)(g:lo+n<=R.length)(f:R.length<=900000)(d:i<n)(h:∀x∈R,x.ok):pM C0.P C0.G 83 [.S 0 lo n b,vN i] (ap [(0,.arr (R.map aj) 17)]) 1 (λx h'=>x=.S 1 0 (i+1) false∧h'=ap [(0,.arr (R.map aj) 17),(1,.arr ((dl ((R.drop lo).take n) i).map aj) 17)]):=by
 refine hZ 1 func83 rfl<|zW _ (am (bz _ _))<|ay rfl id rfl<|ay rfl cn rfl<|zN rfl (by simp)<|zB rfl (λc=>by simp[ae]at c;omega) (λ_=>?_);apply nW (.u 0 (lo+i) 0) rfl rfl ez;let⟨x,a⟩:=d7 R (lo+i);refine zX (aj x) (.agg (aj x)) rfl (iH a)<|zR<|zM _ (LR (by first|rfl|omega) (by simp only[Option.getD];omega)) (by refine⟨?_,?_,?_,?_⟩;all_goals (first|exact aG _|decide|(apply FG.2;exact ad)|rfl))<|zV (.X 17 ([[vI x.no,vU x.K,vI x.i.op,vI x.i.rd,vI x.i.m,vI x.i.x,vU x.i.A,vU x.next,vI x.is,vI x.left,vU x.value,vU x.next,vU x.V,vI x.halt,vI x.ZW,vB x.known,vB x.Z4]]) true)<|zF (x:=.S 26 0 (i+1) false) (h':=ao _ 26 (some (.arr ((((R.drop lo).take i)++([(⟨x.no,x.K,⟨x.i.op,x.i.rd,x.i.m,x.i.x,x.i.A⟩,x.next,x.is,x.left,x.value,x.next,x.V,x.halt,x.ZW,x.known,x.Z4⟩:ai)])).map aj) 17))) (Uo aj R ([(⟨x.no,x.K,⟨x.i.op,x.i.rd,x.i.m,x.i.x,x.i.A⟩,x.next,x.is,x.left,x.value,x.next,x.V,x.halt,x.ZW,x.known,x.Z4⟩:ai)]) (by simp only[aM,bD,bN,cX];omega)) (⟨by simp only[aM,bD,aH,bN,cX,jH];omega,by exact ad,(by show lo+i<=(R.map aj).length;exact ad),trivial⟩) ?_;have e:((R.drop lo).take i)++([(⟨x.no,x.K,⟨x.i.op,x.i.rd,x.i.m,x.i.x,x.i.A⟩,x.next,x.is,x.left,x.value,x.next,x.V,x.halt,x.ZW,x.known,x.Z4⟩:ai)])=dl ((R.drop lo).take n) i:=by unfold dl;rw[show((R.drop lo).take n)[i]?=some x from by rw[cU,aa d,cL];exact a];simp only[List.take_take];rw[ll ad]
 refine BH rfl a9 rfl (ah (λz=>match z with|1=>26|z=>z) rfl rfl ⟨c9,⟨rfl,?_,rfl⟩,trivial⟩ rfl);show some (bh.arr ((((R.drop lo).take i)++([(⟨x.no,x.K,⟨x.i.op,x.i.rd,x.i.m,x.i.x,x.i.A⟩,x.next,x.is,x.left,x.value,x.next,x.V,x.halt,x.ZW,x.known,x.Z4⟩:ai)])).map aj) 17)=some (bh.arr ((dl ((R.drop lo).take n) i).map aj) 17);rw[e]
def LN{prog}(hp:∀x∈prog,x<=4294967295)(pc):bf prog pc<=4294967295:=by
 unfold bf ek;split
 ·cases h:prog[pc/4]? with
  |none=>exact aE _
  |some x=>exact hp x (aB h)
 ·exact aE _
def FV{b:Bool}(h:(!b)=true):b=false:=sU h
def sI{b}(h:(!b)=false): ¬b=false:=by cases b<;>simp_all
def kv(x):he x=0↔ ¬dw x=0:=by unfold he;split<;>simp_all
abbrev ax(c:Co)(R F S T:AV):List AV:=[vI c.U.mode,vI c.U.k,vI c.U.Z,vI c.U.queue,vI c.U.W,vI c.U.o,vI c.U.L,vI c.U.ways,.X 1 (c.U.y.map b1) false,vB c.U.tables,.X 1 (c.U.tape.map dU) false,.X 1 (c.prog.map dU) false,vI c.ZY,vU (c.r 0),vU (c.r 1),vU (c.r 2),vU (c.r 3),vU (c.r 4),vU (c.r 5),vU (c.r 6),vU (c.r 7),vU (c.r 8),vU (c.r 9),vU (c.r 10),vU (c.r 11),vU (c.r 12),vU (c.r 13),vU (c.r 14),vU (c.r 15),vU (c.r 16),vU (c.r 17),vU (c.r 18),vU (c.r 19),vU (c.r 20),vU (c.r 21),vU (c.r 22),vU (c.r 23),vU (c.r 24),vU (c.r 25),vU (c.r 26),vU (c.r 27),vU (c.r 28),vU (c.r 29),vU (c.r 30),vU (c.r 31),vU c.M,vB c.stop,F,R,vI c.next,S,vI c.data.ways,.X 1 (c.data.L.map bX) false,vI c.C.ways,.X 1 (c.C.L.map bX) false,.X 4 (c.Y.map ca) false,vI c.asked,vI c.ZZ,.v (.string c.mem),.X 2 (c.N.o.map c8) false,vU c.N.Z7,.X 1 (c.N.J.map dU) false,vI c.halt,T]
structure Co.ok(c:Co)(n:Nat):Prop where
 U:c.U.okW
 prog:c.prog.length<=9223372036854775807
 Z5:∀x∈c.prog,x<=4294967295
 r:∀k,c.r k<=4294967295
 M:c.M<=4294967295
 Z6:c.Q.length<=9223372036854775807
 ZV:∀x∈c.Q,x.ok
 Z:c.Z.length<=9223372036854775807
 Z8:∀x∈c.Z,x.ok
 Z_:c.W.length<=9223372036854775807
 Z2:∀x∈c.W,x.ok
 data:c.data.ok
 C:c.C.ok
 Y:c.Y.length<=n
 a:∀x∈c.Y,x.ok
 asked:c.asked<=9223372036854775807
 ZZ:c.ZZ<=9223372036854775807
 mem:c.mem.size<=1000000
 N:c.N.ok
 ret:c.O.length<=n
 ZU:∀x∈c.O,x.ok
def Ip(c)(n)(a:c.ok n)(K:n<=890000):bI C0 36 [.agg (gr c)] (vB (jF c)):=by
 refine e_ func36 rfl<|zR<|zC (Ug c.U a.U)<|zG rfl id<|e8 rfl id (cD dU c.prog)<|e8 rfl id (am (fw _ _))<|zN rfl (by simp)<|zG rfl id<|zG rfl id<|zQ rfl (λh=>h) rfl (.inl rfl) (λD=>KF c.mem)<|e8 rfl cn rfl<|zN rfl (by simp)<|zB rfl (λf=>?_) (λf=>?_)
 ·exact fT rfl (dR (by unfold jF;have b:=f;simp[qA,ae]at b;rw[bB];simp[aP,aY,cS,pI];grind))
 refine zC (Xk c.Z false a.Z a.Z8)<|gS rfl id<|e8 rfl id (cD aj c.Z)<|gS rfl id<|gS rfl id<|ay rfl cn rfl<|zN rfl (by simp)<|zB rfl (λi=>?_) (λi=>?_)
 ·exact fT rfl (dR (by unfold jF;have b:=f;have d:=i;simp[qA,ae]at b d;rw[bB];simp[aP,aY,cS,pI];grind))
 refine zW _ (cD aj c.Z)<|eh (κ:=Nat) (λk=>⟨be [(1,.ptr 0 0),(24,vB (cE (cE (!(wA c.U)) true (decide (c.prog.length>64))) true (!(c.mem.toList==(jB c.mem).toList)))),(37,vB (cE (!(Ff c.Z)) true (decide (((c.Z.length:Nat):Int)>c.U.Z)))),(39,.X 17 (c.Z.map aj) false),(40,vN c.Z.length),(41,vN k)],ap [(0,.box (gr c))],37⟩) (λk=>k<=c.Z.length∧(c.Z.take k).all (λe=>decide (e.no<c.next))=true) (λk=>c.Z.length-k) 0 (λs=>s) (av (λs=>s) wT wH rfl) (⟨aE _,rfl⟩) ?_;intro k y;have J:k<=c.Z.length:=y.1;have I:k<=9223372036854775807:=oH a.Z;have L:=a.Z;refine b7 (am (bz _ _)) (λu=>?_) (λu=>?_)
 ·have A:=bj u;let⟨x,t⟩:=d7 c.Z k;have N:=a.Z8 x (aB t);refine zX (aj x) (.dp 17 0 (aj x)) rfl (iH t)<|cN (decide (x.no>=c.next)) (λl=>?_) (λl=>?_)
  ·have B:=bj l;exact fT rfl (dR (by unfold jF;have b:=f;have d:=i;have g:=l;simp[qA,ae]at b d;have F:=Ir (p:=λe:ai=>decide (e.no<c.next)) t (by have z:=l;simpa using z);rw[bB];simp[aP,aY,cS,pI];grind))
  have B:=aF l;have Q:k+1<=9223372036854775807:=oT;refine zW _ (ar (bH (oT:k+1<=9223372036854775807) rfl)) ?_;refine⟨k+1,λs=>s,av _ wT wH rfl,⟨oT,DV t (by have z:=l;simpa using z) y.2⟩,c7⟩
 have A:=aF u;refine zC (sy c.data c.U a.data)<|zG rfl id<|gS rfl id<|jQ rfl rfl rfl rfl cn rfl rfl rfl (.inl rfl) rfl (λD=>sy c.C c.U a.C)<|gS rfl id<|zN rfl (by simp)<|gS rfl id<|jQ rfl rfl rfl rfl (λh=>h) rfl rfl rfl (.inl rfl) rfl (λD=>IZ c.N a.N)<|gS rfl id<|zN rfl (by simp)<|zB rfl (λm=>?_) (λm=>?_)
 ·exact fT rfl (dR (by unfold jF;have b:=f;have d:=i;have g:=m;simp[qA,ae]at b d g;rw[bB];simp[aP,aY,cS,pI];grind))
 refine zW _ (cD a4 c.Q)<|zV (vB (decide (((c.Q.length:Nat):Int)>c.U.queue)))<|gS rfl id<|e8 rfl id (cD aw c.W)<|gS rfl id<|gS rfl id<|ay rfl cn rfl<|zN rfl (by simp)<|zB rfl (λq=>?_) (λq=>?_)
 ·exact fT rfl (dR (by unfold jF;have b:=f;have d:=i;have g:=m;have o:=q;simp[qA,ae]at b d g o;rw[bB];simp[aP,aY,cS,pI];grind))
 refine zW _ (cD aw c.W)<|eh (κ:=Nat) (λj=>⟨be [(1,.ptr 0 0),(24,vB (cE (cE (!(wA c.U)) true (decide (c.prog.length>64))) true (!(c.mem.toList==(jB c.mem).toList)))),(37,vB (cE (!(Ff c.Z)) true (decide (((c.Z.length:Nat):Int)>c.U.Z)))),(42,vB (decide (k<c.Z.length))),(70,vB (cE (cE (!(Ax c.data c.U)) true (!(Ax c.C c.U))) true (!(sM c.N)))),(86,vB (cE (decide (((c.Q.length:Nat):Int)>c.U.queue)) true (decide (((c.W.length:Nat):Int)>c.U.W)))),(88,.X 2 (c.W.map aw) false),(89,vN c.W.length),(90,vN j)],ap [(0,.box (gr c))],78⟩) (λj=>j<=c.W.length∧(c.W.take j).all (λp=>kZ (c.mem.size:Int) p.V (p.data.size:Int))=true) (λj=>c.W.length-j) 0 (λs=>s) (av (λs=>s) wT wH rfl) (⟨aE _,rfl⟩) ?_;intro j w;have H:j<=c.W.length:=w.1;have G:j<=9223372036854775807:=oH a.Z_;have M:=a.Z_;refine b7 (am (bz _ _)) (λv=>?_) (λv=>?_)
 ·have C:=bj v;let⟨p,hp⟩:=d7 c.W j;have E:=a.Z2 p (aB hp);refine zX (aw p) (.dp 2 0 (aw p)) rfl (iH hp)<|zV (vN c.mem.size)<|rV (vN p.data.size) rfl<|zC (GY (c.mem.size:Int) p.V (p.data.size:Int) (oH a.mem) (CI E.V))<|zB rfl (λr=>?_) (λr=>?_)
  ·exact fT rfl (dR (by unfold jF;have b:=f;have d:=i;have g:=m;have o:=q;have S:=r;simp[qA,ae]at b d g o;have F:=Ir (p:=λp:Pt=>kZ (c.mem.size:Int) p.V (p.data.size:Int)) hp (by have z:=r;simpa using z);rw[bB];simp[aP,aY,cS,pI];grind))
  skip
  have R:j+1<=9223372036854775807:=oT;refine zW _ (ar (bH (oT:j+1<=9223372036854775807) rfl)) ?_;refine⟨j+1,λs=>s,av _ wT wH rfl,⟨oT,DV hp (by have z:=r;simpa using z) w.2⟩,c7⟩
 have C:=aF v;have O:=DW ad y.2;have P:=DW ad w.2;exact fT rfl (dR (by unfold jF;have b:=f;have d:=i;have g:=m;have o:=q;simp[qA,ae]at b d g o;rw[bB];simp[aP,aY,true_iff];grind))
end Go.Proofs.YtdhclfgoomldfaaGreatDoor
