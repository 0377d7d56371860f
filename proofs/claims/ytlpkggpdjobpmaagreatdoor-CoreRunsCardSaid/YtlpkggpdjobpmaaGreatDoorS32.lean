/- Lemmas. -/
import Derived.Test.YtlpkggpdjobpmaaGreatDoorS1
import Derived.Test.YtlpkggpdjobpmaaGreatDoorS30
import Derived.Test.YtlpkggpdjobpmaaGreatDoorS31
set_option linter.all false
namespace Go.Proofs.YtlpkggpdjobpmaaGreatDoor
open Go.Proofs.Tryz
set_option maxRecDepth 100000
set_option maxHeartbeats 4000000
open Go.RowKit
def pP{α}{l:List α}{k}(h:k<l.length):(eY l k).length=l.length:=by
 unfold eY;rw[aA h];simp;omega
def Cm{α}{l}{k}{x:α}(h:l[k]?=some x):eY l k=[x]++l.take k++l.drop (k+1):=by unfold eY;rw[h]
def pQ{α}{P:α->Prop}{l}{k}(h:∀x∈l,P x):∀x∈eY l k,P x:=by
 intro x hx;unfold eY at hx;rcases al_List_mem_append.1 hx with hx|hx
 ·rcases al_List_mem_append.1 hx with hx|hx
  ·split at hx
   ·rename_i y hy;simp at hx;subst hx;exact h _ (aB hy)
   simp at hx
  exact h _ (cQ hx)
 exact h _ (eT hx)
def kJ{c}(h:gG c=true):0<c.agJ.length∧c.agJ.length<=4∧c.ways<=2∧1<=c.ways∧∀s∈c.agJ,(s.length:Int)<=c.ways:=by
 obtain⟨⟨h1,h2⟩,h3⟩:=(jL c).1 h;refine⟨oT,oT,oT,oT,λs hs=>?_⟩;obtain⟨k,hk,rfl⟩:=fY hs;exact((jX c k _).1 (h3 k _ (aA hk))).1
theorem Fd:∀{l:List Wy} {agY j:Nat},jY l agY=some j->j<l.length
 |[],_,_,h=>by cases h
 | w::l,agY,j,h=>by
  simp only[jY]at h;split at h
  ·injection h with h;subst h;simp
  ·obtain⟨i,hi,rfl⟩:=Gi.1 h;have:=Fd hi;simp;omega
def vA{c}{k}{s}(h:c.agJ[k]?=some s):pF c k=s:=by unfold pF;rw[h];rfl
def AP{c:Ca}(h:0<c.agJ.length)(agY:Nat):afM c agY<c.agJ.length:=aQ _ h
def rI{c:Ca}{agY:Nat}(h:gG c=true):bK c agY=(afM c (lineOf agY),jY (pF c (afM c (lineOf agY))) (lineOf agY)):=af1 h
def pR{c}{agY}(h:(bK c agY).2.isSome=true):gG c=true∧(bK c agY).1=afM c (lineOf agY)∧(bK c agY).1<c.agJ.length∧(bK c agY).2.getD 0<(pF c (bK c agY).1).length:=by
 by_cases hr:gG c=true
 ·rw[rI hr]at h⊢;obtain⟨j,hj⟩:=FH.1 h;have hj':jY _ _=some j:=hj;refine⟨hr,rfl,AP (kJ hr).1 _,?_⟩;rw[hj'];exact Fd hj'
 unfold bK at h;rw[dZ hr]at h;cases h
def Dw{c}{agY}(h:(bK c agY).2.isSome=true):tO c agY=rK c (bK c agY).1 (eY (pF c (bK c agY).1) ((bK c agY).2.getD 0)):=by
 unfold tO;obtain⟨j,hj⟩:=FH.1 h;have e:bK c agY=((bK c agY).1,some j):=by rw[<-hj]
 rw[e];rfl
def Dx{c}{agY}(h:(bK c agY).2.isSome=false):tO c agY=c:=by
 unfold tO;have hj:(bK c agY).2=none:=sU h;have e:bK c agY=((bK c agY).1,none):=by rw[<-hj]
 rw[e]
def acH(a b:Int):max a b=if b>a then b else a:=oT
def Ng(q)(kind)(agY)(left)(data)(ck)(hq:q.length<=900000)(ho:∀x∈q,x.ok)(hline:agY<=4294967295):bI C0 129 [.sl 4 (q.map rqL) ck,vI kind,vU agY,vI left,.v (.string data)] (.sl 4 ((Bi q kind agY left data).map rqL) false):=by
 refine dIZ func129 rfl<|rW _ rfl (cD rqL q) ?_;have b1:q.length+1<=900001:=aD hq (aC 1);refine rW _ rfl (okI (bH b1 rfl))<|zF (rfl) (⟨dT,FG.2 omT,by show(((q.length+1):Nat):Int)<=1000000;omega⟩)<|zF (iP rqL ([]:List Req) q omT omT) (⟨by exact omT,by exact omT,trivial⟩)<|zW _ rfl<|rV _ rfl<|rV _ rfl<|zF (iP rqL q ([(⟨kind,agY,if 1>left then 1 else left,data⟩:Req)]) omT omT) (⟨by exact omT,by exact omT,trivial⟩)<|dK rfl (by show 0+(q.length+1)<=((q++([(⟨kind,agY,if 1>left then 1 else left,data⟩:Req)])).map rqL).length;exact omT) rfl ?_;show AV.sl 4 _ false=_;rw[jW rqL _ omT];rw[show Bi q kind agY left data=q++([(⟨kind,agY,if 1>left then 1 else left,data⟩:Req)])from by unfold Bi;congr 3;exact acH left 1]
abbrev tkA(t:List Req×Req×Bool):AV:=.tup [.sl 4 (t.1.map rqL) false,.agg (rqL t.2.1),vB t.2.2]
def VL(q)(ck)(hq:q.length<=900000)(ho:∀x∈q,x.ok):bI C0 55 [.sl 4 (q.map rqL) ck] (tkA (eH q)):=by
 refine dJZ func55 rfl<|rW (vN q.length) rfl (cD rqL q)<|zW (vB (q.length==0)) (okB (eqN _ _))<|zB rfl (λh1=>?_) (λh1=>?_)
 ·have h1p:=mT h1;refine zV (.agg [vI 0,.v (.int .u32 0),vI 0,.v (.string (⟨#[]⟩:ByteArray))]) ?_;have q0:q=[]:=afC h1p;subst q0;exact⟨_,rfl,trivial,rfl,Sub.tup ⟨Sub.clip 4 _ ck,Sub.refl _,Sub.refl _,trivial⟩⟩
 have h1p:=nA h1;refine rW (vN q.length) rfl (cD rqL q)<|zF (x:=.osl 8 0 q.length false) (h':=upd _ 8 (some (.arr ((List.replicate q.length OU).map rqL) 4))) (Ri (fH (f:=rqL) (a:=OU)).symm) (⟨aG _,FG.2 omT,by show((q.length:Nat):Int)<=1000000;omega⟩)<|zF (x:=vI ((min ((q.map rqL).length) (q.length):Nat):Int)) (h':=upd _ 8 (some (.arr (q.map rqL) 4))) (II (DX rqL ((List.replicate q.length OU).map rqL) q omT omT)) (⟨by exact omT,trivial⟩)<|zM (.ptr2 8 (0+0) 0) rfl (⟨dT,FF.2 (by show 0<q.length;exact omT)⟩) ?_;obtain⟨x,hx⟩:∃y_,q[0]?=some y_:=⟨_,aA omT⟩;have hxo:=ho x (aB hx);refine FO (rqL x) rfl rfl rfl (⟨dT,Jv (iH hx)⟩) rfl<|rV (vI (IntKind.wrap .i64 (x.left-1))) rfl<|zM (.ptr2 8 (0+0) 0) rfl (⟨dT,FF.2 (by show 0<q.length;exact omT)⟩) ?_;have hx1:(q.set 0 (⟨x.kind,x.agY,IntKind.wrap .i64 (x.left-1),x.data⟩:Req))[0]?=some (⟨x.kind,x.agY,IntKind.wrap .i64 (x.left-1),x.data⟩:Req):=aZ omT;refine nM (rqL x) (h':=upd _ 8 (some (.arr ((q.set 0 (⟨x.kind,x.agY,IntKind.wrap .i64 (x.left-1),x.data⟩:Req)).map rqL) 4))) rfl rfl rfl (⟨dT,Jv (iH hx)⟩) (vX (x:=(⟨x.kind,x.agY,IntKind.wrap .i64 (x.left-1),x.data⟩:Req)))<|qR 0 rfl<|zM (.ptr2 8 (0+0) 0) rfl (⟨dT,FF.2 (by show 0<q.length;exact omT)⟩)<|FO (rqL (⟨x.kind,x.agY,IntKind.wrap .i64 (x.left-1),x.data⟩:Req)) (x:=vI (IntKind.wrap .i64 (x.left-1))) rfl rfl rfl (⟨dT,Jv (iH hx1)⟩) rfl<|zVB (decide ((IntKind.wrap .i64 (x.left-1))>0)) (λh2=>?_) (λh2=>?_)
 ·have h2p:=af0 h2;refine zV (.agg [vI 0,.v (.int .u32 0),vI 0,.v (.string (⟨#[]⟩:ByteArray))]) ?_
  try simp only[w64]at h2p
  obtain⟨l,hql⟩:∃l,q=x::l:=by cases q with|nil=>cases hx|cons y l=>injection hx with hx;subst hx;exact⟨l,rfl⟩
  have hT:eH q=({x with left:=wrap64 (x.left-1)}::l,OU,false):=by rw[hql];unfold eH;simp only[af1 h2p]
  rw[hT];refine dK rfl ⟨(by show 0+q.length<=((q.set 0 (⟨x.kind,x.agY,IntKind.wrap .i64 (x.left-1),x.data⟩:Req)).map rqL).length;exact omT),tvT,trivial,trivial⟩ rfl ?_;show AV.tup [.sl 4 (List.take q.length (List.drop 0 ((q.set 0 (⟨x.kind,x.agY,IntKind.wrap .i64 (x.left-1),x.data⟩:Req)).map rqL))) false,.agg [vI 0,.v (.int .u32 0),vI 0,.v (.string (⟨#[]⟩:ByteArray))],vB false]=_;rw[jW rqL (q.set 0 (⟨x.kind,x.agY,IntKind.wrap .i64 (x.left-1),x.data⟩:Req)) omT];rw[hql];simp only[w64,gM]
  try rfl
 have h2p:=aF h2;refine pO rfl rfl<|oR 1 rfl<|nW (.osl 8 1 (q.length-1) false) rfl (LR (by first|rfl|omega) (by simp only[Option.getD];omega)) slT<|oR 1 rfl<|nW (.ptr2 8 (0+0) 0) rfl rfl (⟨dT,FF.2 (by show 0<q.length;exact omT)⟩)<|FO (rqL (⟨x.kind,x.agY,IntKind.wrap .i64 (x.left-1),x.data⟩:Req)) rfl rfl rfl (⟨dT,Jv (iH hx1)⟩) rfl<|oR 1 rfl<|rSt rfl<|oR 1 rfl<|rE 34<|And.intro (by kernel_rfl)<|qXF 0 rfl ?_
 try simp only[w64]at h2p
 obtain⟨l,hql⟩:∃l,q=x::l:=by cases q with|nil=>cases hx|cons y l=>injection hx with hx;subst hx;exact⟨l,rfl⟩
 have hT:eH q=(l,{x with left:=wrap64 (x.left-1)},true):=by rw[hql];unfold eH;simp only[dZ h2p]
 rw[hT];refine dK rfl ⟨(by show 1+(q.length-1)<=((q.set 0 (⟨x.kind,x.agY,IntKind.wrap .i64 (x.left-1),x.data⟩:Req)).map rqL).length;exact omT),tvT,trivial,trivial⟩ rfl ?_;show AV.tup [.sl 4 (List.take (q.length-1) (List.drop 1 ((q.set 0 (⟨x.kind,x.agY,IntKind.wrap .i64 (x.left-1),x.data⟩:Req)).map rqL))) false,.agg [vI x.kind,vU x.agY,vI (IntKind.wrap .i64 (x.left-1)),.v (.string x.data)],vB true]=_;rw[Cp rqL (q.set 0 (⟨x.kind,x.agY,IntKind.wrap .i64 (x.left-1),x.data⟩:Req)) (aN omT)];rw[hql];simp only[w64,gM,List.drop_succ_cons,bS]
 try rfl
def ao9(s)(k)(ck)(hk:k<s.length)(hs:s.length<=900000)(ho:∀x∈s,x.ok):bI C0 109 [.sl 3 (s.map wyL) ck,vN k] (.sl 3 ((eY s k).map wyL) false):=by
 refine dIZ func109 rfl<|rW _ rfl (cD wyL s)<|zF (rfl) (⟨dT,FG.2 omT,by show((s.length:Nat):Int)<=1000000;omega⟩) ?_;obtain⟨x,hx⟩:∃y_,s[k]?=some y_:=⟨_,aA omT⟩;refine zX _ (.dp 3 0 (wyL x)) rfl (iH hx)<|rV _ rfl<|zF (iP wyL ([]:List Wy) ([x]) omT omT) (⟨by exact omT,by exact omT,trivial⟩)<|nW _ rfl (yB (vY wyL s k)) slT<|zF (iP wyL ([x]) (s.take k) omT omT) (⟨by exact omT,by exact omT,trivial⟩) ?_;have b1:k+1<=900001:=aD omT (aC 1);refine rW _ rfl (okI (bH b1 rfl))<|nW _ rfl (yB (Kr wyL s (k+1))) slT<|zF (x:=.osl 24 0 (1+k+s.length-(k+1)) false) (iP wyL (([x])++(s.take k)) (s.drop (k+1)) omT omT) (⟨by exact omT,by exact omT,trivial⟩)<|dK rfl (by show 0+(1+k+s.length-(k+1))<=(((([x])++(s.take k))++(s.drop _)).map wyL).length;exact omT) rfl ?_;show AV.sl 3 _ false=_;rw[jW wyL _ omT];rw[Cm hx]
def VM(s)(k)(ck)(hk:k<s.length)(hs:s.length<=900000)(ho:∀x∈s,x.ok):pM C0.P C0.G 109 [.sl 3 (s.map wyL) ck,vN k] (heapF []) 0 (λx h'=>x=.osl 0 0 s.length false∧h'=heapF [(0,.arr ((eY s k).map wyL) 3)]):=by
 refine HCall.intro c0Ok.at func109 rfl rfl (by kernel_rfl) rfl rfl<|qS 0 rfl<|rW _ rfl (cD wyL s)<|zF (rfl) (⟨dT,FG.2 omT,by show((s.length:Nat):Int)<=1000000;omega⟩) ?_;obtain⟨x,hx⟩:∃y_,s[k]?=some y_:=⟨_,aA omT⟩;refine zX (wyL x) (.dp 3 0 (wyL x)) rfl (iH hx)<|rV (.sl 3 ([[vU x.agY,vB x.agQ,.v (.string x.data)]]) true) rfl<|zF (iP wyL ([]:List Wy) ([x]) omT omT) (⟨by exact omT,by exact omT,trivial⟩)<|nW _ rfl (yB (vY wyL s k)) slT<|zF (iP wyL ([x]) (s.take k) omT omT) (⟨by exact omT,by exact omT,trivial⟩) ?_;have b1:k+1<=900001:=aD omT (aC 1);refine rW _ rfl (okI (bH b1 rfl))<|nW _ rfl (yB (Kr wyL s (k+1))) slT<|zF (x:=.osl 24 0 (1+k+s.length-(k+1)) false) (h':=upd (upd _ 17 none) 24 (some (.arr (((([x])++(s.take k))++(s.drop (k+1))).map wyL) 3))) (iP wyL (([x])++(s.take k)) (s.drop (k+1)) omT omT) (⟨by exact omT,by exact omT,trivial⟩) ?_;have e:(([x])++(s.take k))++(s.drop (k+1))=eY s k:=(Cm hx).symm;have e2:1+k+s.length-(k+1)=s.length:=oT;refine BH (rs:=[.osl 24 0 (1+k+s.length-(k+1)) false]) rfl (r:=.osl 0 0 s.length false) (σ:=λ_=>24) ⟨rfl,rfl⟩ rfl (af8 (λ_=>24) ?_ rfl ⟨⟨rfl,?_,rfl⟩,trivial⟩ rfl)
 ·show AV.osl 24 0 (1+k+s.length-(k+1)) false=.osl 24 0 s.length false;rw[e2]
 show some (Blk.arr (((([x])++(s.take k))++(s.drop (k+1))).map wyL) 3)=some (Blk.arr ((eY s k).map wyL) 3);rw[e]
def LP(c)(k)(s)(hok:c.ok)(hk:k<c.agJ.length)(hl:c.agJ.length<=900000)(hs:s.length<=900000)(ho:∀x∈s,x.ok):bI C0 110 [.agg (caL c false),vN k,.sl 3 (s.map wyL) false] (.agg (caL (rK c k s) false)):=by
 refine dIZ func110 rfl<|rW _ rfl (cD bX c.agJ)<|zF (rfl) (⟨aG _,iF _,by show((c.agJ.length:Nat):Int)<=1000000;have:=hl;omega⟩)<|zF (II (DX bX (List.replicate c.agJ.length [.sl 0 ([]) true]) c.agJ omT omT)) (⟨by exact omT,trivial⟩)<|nW _ rfl rfl ixT ?_;obtain⟨x1,hx1⟩:∃y_,c.agJ[k]?=some y_:=⟨_,aA omT⟩;refine nM _ rfl rfl rfl (⟨aG _,Jv (iH hx1)⟩) (vX)<|qR 0 rfl<|zV (.agg [vI c.ways,.osl 5 0 c.agJ.length false])<|dK rfl ⟨trivial,(by show 0+c.agJ.length<=((c.agJ.set k s).map bX).length;exact omT),trivial⟩ rfl ?_;show AV.agg [vI c.ways,.sl 1 _ false]=_;rw[jW bX _ omT];refine af2 (λz=>AV.agg ((λz=>caL z false) z)) (?_:(⟨c.ways,c.agJ.set k s⟩:Ca)=rK c k s);rfl
def As(c)(agY)(hok:c.ok)(hline:agY<=4294967295):bI C0 78 [.agg (caL c false),vU agY] (.tup [vN (bK c agY).1,vN ((bK c agY).2.getD 0),vB (bK c agY).2.isSome]):=by
 refine dIZ func78 rfl<|zC (AW c false hok)<|zB rfl (λh1=>?_) (λh1=>?_)
 ·have hR:gG c=false:=sU h1;exact fT rfl (by unfold bK;rw[dZ (by rw[hR];decide)];rfl)
 have hR:gG c=true:=sU h1;obtain⟨hs0,hs4,hw2,hw1,hsw⟩:=kJ hR;have hkl:=AP hs0 (lineOf agY);refine zC (tN agY hline)<|zC (VO c (lineOf agY) false hs0 omT (dV hline)) ?_;obtain⟨s,hs⟩:∃y_,c.agJ[(afM c _)]?=some y_:=⟨_,aA omT⟩;have hso:=hok.set s (aB hs);have hsl:s.length<=2:=oH (hsw s (aB hs));refine zX _ (.dp 1 0 (bX s)) rfl (iH hs)<|zC (VP s (lineOf agY) false omT hso.2 (dV hline)) ?_;exact fT rfl (by rw[rI hR,vA hs];rfl)
def AQ(c)(agY):(bK c agY).1<=4∧(bK c agY).2.getD 0<=2:=by
 by_cases h:gG c=true
 ·obtain⟨h0,h4,h2,h1,hw⟩:=kJ h;rw[rI h];have hlt:=AP h0 (lineOf agY);refine⟨by show afM _ _<=4;omega,?_⟩;show(jY _ _).getD 0<=2
  cases hp:jY _ (lineOf agY)with
  |none=>exact aE _
  |some j=>
   have:=Fd hp;rw[vA (aA hlt)]at this;have h3:=hw _ (jO hlt);show j<=2;omega
 ·unfold bK;rw[dZ h];exact⟨aE _,aE _⟩
def It(c)(agY)(hok:c.ok)(hline:agY<=4294967295):bI C0 82 [.agg (caL c false),vU agY] (.agg (caL (tO c agY) false)):=by
 refine dJZ func82 rfl ?_;have hFb:=AQ c agY;refine zC (As c agY hok hline)<|zB rfl (λh1=>?_) (λh1=>?_)
 ·have hF:(bK c agY).2.isSome=false:=sU h1;exact dK rfl ⟨trivial,trivial,trivial⟩ rfl (by rw[Dx hF];rfl)
 have hF:(bK c agY).2.isSome=true:=sU h1;obtain⟨hR,hF1,hF2,hF3⟩:=pR hF;obtain⟨hs0,hs4,hw2,hw1,hsw⟩:=kJ hR;refine cRg<|oR 5 rfl ?_;obtain⟨s,hs⟩:∃y_,c.agJ[((bK c agY).1)]?=some y_:=⟨_,aA omT⟩;have hso:=hok.set s (aB hs);have hse:=vA hs;rw[hse]at hF3;have hsl:s.length<=2:=oH (hsw s (aB hs));refine rIx _ _ rfl rfl (iH hs) rfl<|oR 2 rfl<|rCi rfl (ao9 s ((bK c agY).2.getD 0) false hF3 omT hso.2)<|rCi rfl (LP c ((bK c agY).1) (eY s ((bK c agY).2.getD 0)) hok hF2 omT (by rw[pP hF3];omega) (pQ hso.2))<|rSt rfl<|rE 25<|qXF 0 rfl ?_;exact dK rfl ⟨trivial,trivial,trivial⟩ rfl (by rw[Dw hF,hse];rfl)
def Fe{α}{f}{l}{x:α}(h:l[0]?=some x):modHd f l=l.set 0 (f x):=by
 cases l with
 |nil=>cases h
 |cons y l=>injection h with h;subst h;rfl
def GU{α}(l)(x:α)(n)(hn:n=l.length):eY (l++[x]) n=x::l:=by
 subst hn;rw[Cm (x:=x) (by simp)];simp
def Nh{c}(h:gG c=false)(agY)(d)(b):qZ c agY d b=(c,qE,false):=by unfold qZ;rw[dZ (by rw[h];decide)]
def Cn{c}{agY}(hF:(bK c agY).2.isSome=true)(d)(b):qZ c agY d b=(rK c (bK c agY).1 (modHd (λw=>{w with data:=if(dC d).size=0 then w.data else dC d,agQ:=w.agQ||b}) (eY (pF c (bK c agY).1) ((bK c agY).2.getD 0))),qE,false):=by
 unfold qZ;obtain⟨j,hj⟩:=FH.1 hF;have e:bK c agY=((bK c agY).1,some j):=by rw[<-hj]
 rw[af1 (pR hF).1,e];rfl
def AR{c}{agY}(hR:gG c=true)(hF:(bK c agY).2.isSome=false)(d)(b):qZ c agY d b=if((pF c (bK c agY).1).length:Int)=c.ways then(rK c (bK c agY).1 (⟨lineOf agY,b,dC d⟩::(pF c (bK c agY).1).dropLast),(pF c (bK c agY).1).getLast?.getD qE,true)else(rK c (bK c agY).1 (⟨lineOf agY,b,dC d⟩::pF c (bK c agY).1),qE,false):=by
 unfold qZ;have hj:(bK c agY).2=none:=sU hF;have e:bK c agY=((bK c agY).1,none):=by rw[<-hj]
 rw[af1 hR,e]
abbrev aeG(p:Ca×Wy×Bool):AV:=.tup [.agg (caL p.1 false),.agg (wyL p.2.1),vB p.2.2]
def afJ(d:ByteArray):d.toList.length=d.size:=by
 rw[ByteArray.toList_eq];exact cV
def Uk{d:ByteArray}(h: ¬d.size=0):(!(d.toList==(⟨#[]⟩:ByteArray).toList))=true:=by
 cases hd:d.toList==(⟨#[]⟩:ByteArray).toList with
 |false=>rfl
 |true=>
  have:=af2 List.length (eq_of_beq hd);rw[afJ,afJ]at this;exact absurd this h
def afR(d:ByteArray):(d.toList==(⟨#[]⟩:ByteArray).toList)=decide (d.size=0):=by
 by_cases h:d.size=0
 ·rw[jP h];have e:d.toList=(⟨#[]⟩:ByteArray).toList:=by rw[ByteArray.toList_eq,ByteArray.toList_eq];exact afC (by rw[cV];exact h)
  rw[e];exact an7 _
 rw[sW h];have:=Uk h;simpa using this
def ZF{d:ByteArray}(h:(!(d.toList==(⟨#[]⟩:ByteArray).toList))=true): ¬d.size=0:=by rw[afR]at h;simpa using h
def ZG{d:ByteArray}(h:(!(d.toList==(⟨#[]⟩:ByteArray).toList))=false):d.size=0:=by rw[afR]at h;simpa using h
def OO{d:ByteArray}(h: ¬d.size=16):dC d=oZ:=dZ h
def LQ{d:ByteArray}(h:d.size=16):dC d=d:=af1 h
def Re(c)(agY)(data)(agQ)(hok:c.ok)(hline:agY<=4294967295):bI C0 59 [.agg (caL c false),vU agY,.v (.string data),.v (.bool agQ)] (aeG (qZ c agY data agQ)):=by
 refine dJZ func59 rfl ?_;have hFb:=AQ c agY;refine zC (AW c false hok)<|aV rfl (λh1=>?_) (λh1=>?_)
 ·have hR:gG c=false:=sU h1;refine qC 0 rfl<|zV (.agg [zU,vB false,.v (.string (⟨#[]⟩:ByteArray))]) ?_;rw[Nh hR];exact fT rfl rfl
 have hR:gG c=true:=sU h1;obtain⟨hs0,hs4,hw2,hw1,hsw⟩:=kJ hR;have hF2:(bK c agY).1<c.agJ.length:=by rw[rI hR];exact AP hs0 _
 refine qCJ 0 0 rfl<|Fq (κ:=Unit) (λu_=>⟨slotsF [(1,vU agY),(2,.v (.string (dC data))),(3,vB agQ),(4,.ptr 0 0),(8,.ptr 1 0),(9,.ptr 2 0),(10,vB false)],heapF [(0,.box [vI c.ways,.sl 1 (c.agJ.map bX) false]),(1,.box [vI 0,.sl 0 ([]) true]),(2,.box [zU,vB false,.v (.string (⟨#[]⟩:ByteArray))])],7⟩) (λu_=>True) ?_ ?_
 ·refine qS 0 rfl<|rV (vN data.size) rfl<|zW (vB (data.size != 16)) (okB (neN _ _))<|zB rfl (λh2=>?_) (λh2=>?_)
  ·have h2p:=wM h2;refine .mk _ (.refl _) ⟨(),λs=>s,wOL _ ⟨⟨rfl,rfl⟩,⟨(af2 (λz=>AV.v (.string z)) (show(⟨#[]⟩:ByteArray)=dC data from(OO omT).symm)),rfl⟩,⟨rfl,rfl⟩,⟨rfl,rfl⟩,⟨rfl,rfl⟩,⟨rfl,rfl⟩,⟨rfl,rfl⟩,trivial⟩ wH rfl,rfl,trivial⟩
  have h2p:=wN h2;refine .mk _ (.refl _) ⟨(),λs=>s,wOL _ ⟨⟨rfl,rfl⟩,⟨(af2 (λz=>AV.v (.string z)) (show data=dC data from(LQ omT).symm)),rfl⟩,⟨rfl,rfl⟩,⟨rfl,rfl⟩,⟨rfl,rfl⟩,⟨rfl,rfl⟩,⟨rfl,rfl⟩,trivial⟩ wH rfl,rfl,trivial⟩
 intro u_ _;refine qC 0 rfl<|zC (As c agY hok hline)<|aV rfl (λh3=>?_) (λh3=>?_)
 ·have hF:(bK c agY).2.isSome=true:=sU h3;have hF3:=(pR hF).2.2.2;obtain⟨s,hs⟩:∃y_,c.agJ[((bK c agY).1)]?=some y_:=⟨_,aA omT⟩;have hso:=hok.set s (aB hs);have hse:=vA hs;have hsl:s.length<=2:=oH (hsw s (aB hs));rw[hse]at hF3;have hfl:=pP hF3;refine qC 0 rfl<|zX (bX s) (.dp 1 0 (bX s)) rfl (iH hs)<|zH rfl ((VM s ((bK c agY).2.getD 0) false omT omT hso.2).frame0 _ _ rfl) ?_;rintro _ _ ⟨rfl,rfl⟩;refine zV (vB (!((dC data).toList==(⟨#[]⟩:ByteArray).toList)))<|aV rfl (λh4=>?_) (λh4=>?_)
  ·refine qC 0 rfl<|zM (.ptr2 24 (0+0) 0) rfl (⟨dT,FF.2 (by show 0<s.length;exact omT)⟩) ?_;obtain⟨w,hw⟩:∃y_,(eY s ((bK c agY).2.getD 0))[0]?=some y_:=⟨_,aA omT⟩;have hwo:=(pQ hso.2) w (aB hw);have hx1:((eY s ((bK c agY).2.getD 0)).set 0 (⟨w.agY,w.agQ,(dC data)⟩:Wy))[0]?=some (⟨w.agY,w.agQ,(dC data)⟩:Wy):=aZ omT;refine nM (wyL w) (h':=upd _ 24 (some (.arr (((eY s ((bK c agY).2.getD 0)).set 0 (⟨w.agY,w.agQ,(dC data)⟩:Wy)).map wyL) 3))) rfl rfl rfl (⟨dT,Jv (iH hw)⟩) (vX (l:=eY s ((bK c agY).2.getD 0)) (k:=0) (x:=(⟨w.agY,w.agQ,(dC data)⟩:Wy)))<|qRJ 0 0 rfl<|FP<|qS 0 rfl<|zM (.ptr2 24 (0+0) 0) rfl (⟨dT,FF.2 (by show 0<s.length;exact omT)⟩)<|FO (wyL (⟨w.agY,w.agQ,(dC data)⟩:Wy)) (x:=vB w.agQ) rfl rfl rfl (⟨dT,Jv (iH hx1)⟩) rfl<|qR 0 rfl<|bO rfl rfl rfl (by simp)<|zM (.ptr2 24 (0+0) 0) rfl (⟨dT,FF.2 (by show 0<s.length;exact omT)⟩) ?_;have hx2:(((eY s ((bK c agY).2.getD 0)).set 0 (⟨w.agY,w.agQ,(dC data)⟩:Wy)).set 0 (⟨w.agY,cE w.agQ true agQ,(dC data)⟩:Wy))[0]?=some (⟨w.agY,cE w.agQ true agQ,(dC data)⟩:Wy):=aZ omT;refine nM (wyL (⟨w.agY,w.agQ,(dC data)⟩:Wy)) (h':=upd _ 24 (some (.arr ((((eY s ((bK c agY).2.getD 0)).set 0 (⟨w.agY,w.agQ,(dC data)⟩:Wy)).set 0 (⟨w.agY,cE w.agQ true agQ,(dC data)⟩:Wy)).map wyL) 3))) rfl rfl rfl (⟨dT,Jv (iH hx1)⟩) (vX (x:=(⟨w.agY,cE w.agQ true agQ,(dC data)⟩:Wy)))<|qRF 0 rfl<| .mk _ (.step (some (24,3,(((eY s ((bK c agY).2.getD 0)).set 0 (⟨w.agY,w.agQ,(dC data)⟩:Wy)).set 0 (⟨w.agY,cE w.agQ true agQ,(dC data)⟩:Wy)).map wyL)) (gOL (l:=[(1,vU agY),(2,.v (.string (dC data))),(3,vB agQ),(4,.ptr 0 0),(8,.ptr 1 0),(9,.ptr 2 0),(10,vB false),(11,vN ((bK c agY).1)),(35,vB ((bK c agY).2.isSome)),(14,.sl 3 ((((eY s ((bK c agY).2.getD 0)).set 0 (⟨w.agY,w.agQ,(dC data)⟩:Wy)).set 0 (⟨w.agY,cE w.agQ true agQ,(dC data)⟩:Wy)).map wyL) false),(44,vB (!((dC data).toList==(⟨#[]⟩:ByteArray).toList)))]) (hp:=[(0,.box [vI c.ways,.sl 1 (c.agJ.map bX) false]),(1,.box [vI 0,.sl 0 ([]) true]),(2,.box [zU,vB false,.v (.string (⟨#[]⟩:ByteArray))])]) rfl rfT rbT) (.refl _))<|qC 0 rfl<|rCi rfl (LP c ((bK c agY).1) (((eY s ((bK c agY).2.getD 0)).set 0 (⟨w.agY,w.agQ,(dC data)⟩:Wy)).set 0 (⟨w.agY,cE w.agQ true agQ,(dC data)⟩:Wy)) hok hF2 omT (by first|exact omT|(rw[pP omT];exact omT)) (mem_set (P:=Wy.ok) (mem_set (P:=Wy.ok) (pQ hso.2) ⟨hwo.agY⟩) ⟨hwo.agY⟩))<|zV (.agg [zU,vB false,.v (.string (⟨#[]⟩:ByteArray))]) ?_;rw[Cn hF,hse,Fe hw,dZ (ZF h4)]
   try rw[lO]
   try rw[lO]
   exact fT rfl (by simp only[cOr,lO];rfl)
  refine qCJ 0 0 rfl<|FP<|qS 0 rfl<|zM (.ptr2 24 (0+0) 0) rfl (⟨dT,FF.2 (by show 0<s.length;exact omT)⟩) ?_;obtain⟨w,hw⟩:∃y_,(eY s ((bK c agY).2.getD 0))[0]?=some y_:=⟨_,aA omT⟩;have hwo:=(pQ hso.2) w (aB hw);refine FO (wyL w) (x:=vB w.agQ) rfl rfl rfl (⟨dT,Jv (iH hw)⟩) rfl<|qR 0 rfl<|bO rfl rfl rfl (by simp)<|zM (.ptr2 24 (0+0) 0) rfl (⟨dT,FF.2 (by show 0<s.length;exact omT)⟩) ?_;have hx3:((eY s ((bK c agY).2.getD 0)).set 0 (⟨w.agY,cE w.agQ true agQ,w.data⟩:Wy))[0]?=some (⟨w.agY,cE w.agQ true agQ,w.data⟩:Wy):=aZ omT;refine nM (wyL w) (h':=upd _ 24 (some (.arr (((eY s ((bK c agY).2.getD 0)).set 0 (⟨w.agY,cE w.agQ true agQ,w.data⟩:Wy)).map wyL) 3))) rfl rfl rfl (⟨dT,Jv (iH hw)⟩) (vX (x:=(⟨w.agY,cE w.agQ true agQ,w.data⟩:Wy)))<|qRF 0 rfl<| .mk _ (.step (some (24,3,((eY s ((bK c agY).2.getD 0)).set 0 (⟨w.agY,cE w.agQ true agQ,w.data⟩:Wy)).map wyL)) (gOL (l:=[(1,vU agY),(2,.v (.string (dC data))),(3,vB agQ),(4,.ptr 0 0),(8,.ptr 1 0),(9,.ptr 2 0),(10,vB false),(11,vN ((bK c agY).1)),(35,vB ((bK c agY).2.isSome)),(14,.sl 3 (((eY s ((bK c agY).2.getD 0)).set 0 (⟨w.agY,cE w.agQ true agQ,w.data⟩:Wy)).map wyL) false),(44,vB (!((dC data).toList==(⟨#[]⟩:ByteArray).toList)))]) (hp:=[(0,.box [vI c.ways,.sl 1 (c.agJ.map bX) false]),(1,.box [vI 0,.sl 0 ([]) true]),(2,.box [zU,vB false,.v (.string (⟨#[]⟩:ByteArray))])]) rfl rfT rbT) (.refl _))<|qC 0 rfl<|rCi rfl (LP c ((bK c agY).1) ((eY s ((bK c agY).2.getD 0)).set 0 (⟨w.agY,cE w.agQ true agQ,w.data⟩:Wy)) hok hF2 omT (by first|exact omT|(rw[pP omT];exact omT)) (mem_set (P:=Wy.ok) (pQ hso.2) ⟨hwo.agY⟩))<|zV (.agg [zU,vB false,.v (.string (⟨#[]⟩:ByteArray))]) ?_;rw[Cn hF,hse,Fe hw,af1 (ZG h4)]
  try rw[lO]
  exact fT rfl (by simp only[cOr,lO];rfl)
 have hF:(bK c agY).2.isSome=false:=sU h3;obtain⟨s,hs⟩:∃y_,c.agJ[((bK c agY).1)]?=some y_:=⟨_,aA omT⟩;have hso:=hok.set s (aB hs);have hse:=vA hs;have hsl:s.length<=2:=oH (hsw s (aB hs));refine qC 0 rfl<|zX (bX s) (.dp 1 0 (bX s)) rfl (iH hs)<|pO rfl rfl<|rV (.agg [zU,vB false,.v (.string (⟨#[]⟩:ByteArray))]) rfl<|oR 1 rfl<|rW (vN s.length) rfl (cD wyL s)<|oR 2 rfl<|rV (vB (((s.length:Nat):Int)==c.ways)) rfl<|rAl 30 rfl rfl<|rSt rfl<|oR 1 rfl<|rE 33<|And.intro (by kernel_rfl)<|qXC 0 rfl<|aV rfl (λh5=>?_) (λh5=>?_)
 ·have h5p:=mT h5
  try have hq:(s.length:Int)=c.ways:=sU h5
  try have hq: ¬(s.length:Int)=c.ways:=sU h5
  refine qC 0 rfl<|rW (vN s.length) rfl (cD wyL s) ?_;have b1:s.length-1<=2:=aL (jT _ _) hsl;refine zW (vN (s.length-1)) (okI (DA omT hsl rfl))<|pO rfl rfl<|oR 2 rfl ?_;obtain⟨g,hg⟩:∃y_,s[(s.length-1)]?=some y_:=⟨_,aA omT⟩;have hgo:=hso.2 g (aB hg);refine rIx (wyL g) (.dp 3 0 (wyL g)) rfl rfl (iH hg) rfl<|oR 3 rfl<|nW (.sl 3 ((s.take (s.length-1)).map wyL) false) rfl (yB (vY wyL s (s.length-1))) slT<|rSt rfl<|oR 1 rfl<|rE 47<|And.intro (by kernel_rfl)<|qX 0 rfl<|rW (vN (s.length-1)) rfl (vW wyL (s.take (s.length-1)) omT) ?_;have b2:(s.length-1)+1<=3:=aD (by have:=hsl;exact omT) (aC 1);refine rW (vN ((s.length-1)+1)) rfl (okI (bH b2 rfl))<|zF (rfl) (⟨dT,FG.2 omT,by show((((s.length-1)+1):Nat):Int)<=1000000;omega⟩)<|rFx rfl rfl (iP wyL ([]:List Wy) (s.take (s.length-1)) omT omT) (⟨by exact omT,by exact omT,trivial⟩)<|qRJ 0 0 rfl<|FP<|qS 0 rfl<|zC (tN agY hline)<|rV (.agg [vU (lineOf agY),vB agQ,.v (.string (dC data))]) rfl<|rV (.sl 3 ([[vU (lineOf agY),vB agQ,.v (.string (dC data))]]) true) rfl<|zF (iP wyL (s.take (s.length-1)) ([(⟨lineOf agY,agQ,(dC data)⟩:Wy)]) omT omT) (⟨by exact omT,by exact omT,trivial⟩)<| .mk _ (.step (some (63,3,((s.take (s.length-1))++([(⟨lineOf agY,agQ,(dC data)⟩:Wy)])).map wyL)) (gOL (l:=[(4,.ptr 0 0),(8,.ptr 1 0),(9,.ptr 2 0),(10,vB false),(11,vN ((bK c agY).1)),(35,vB ((bK c agY).2.isSome)),(15,.sl 3 ((s.take (s.length-1)).map wyL) false),(16,.ptr 30 0),(17,vB (((s.length:Nat):Int)==c.ways)),(75,vB (((s.length:Nat):Int)==c.ways)),(19,.sl 3 (((s.take (s.length-1))++([(⟨lineOf agY,agQ,(dC data)⟩:Wy)])).map wyL) false)]) (hp:=[(0,.box [vI c.ways,.sl 1 (c.agJ.map bX) false]),(1,.box [vI 0,.sl 0 ([]) true]),(2,.box [zU,vB false,.v (.string (⟨#[]⟩:ByteArray))]),(30,.box (wyL g))]) rfl rfT rbT) (.refl _))<|qCC 0 rfl<|pO rfl rfl<|oR 4 rfl<|rW (vN (s.length-1)) rfl (vW wyL (s.take (s.length-1)) omT)<|rCi rfl (ao9 ((s.take (s.length-1))++([(⟨lineOf agY,agQ,(dC data)⟩:Wy)])) (s.length-1) false omT omT (sJ (zD hso.2) (sK (P:=Wy.ok) ⟨(dV hline)⟩)))<|rCi rfl (LP c ((bK c agY).1) (eY ((s.take (s.length-1))++([(⟨lineOf agY,agQ,(dC data)⟩:Wy)])) (s.length-1)) hok hF2 omT (by first|exact omT|(rw[pP omT];exact omT)) (pQ (sJ (zD hso.2) (sK (P:=Wy.ok) ⟨(dV hline)⟩))))<|oR 2 rfl<|rSt rfl<|rSt rfl<|oR 1 rfl<|rE 77<|And.intro (by kernel_rfl)<|qXF 0 rfl ?_;rw[AR hR hF,hse,af1 hq];refine fT rfl ?_;rw[GU _ _ _ omT,h5];rw[<-afE,show s.getLast?.getD qE=g from by rw[oX,hg];rfl]
  try rfl
 have h5p:=nA h5
 try have hq:(s.length:Int)=c.ways:=sU h5
 try have hq: ¬(s.length:Int)=c.ways:=sU h5
 refine qC 0 rfl<|rW (vN s.length) rfl (cD wyL s) ?_;have b3:s.length+1<=3:=aD hsl (aC 1);refine rW (vN (s.length+1)) rfl (okI (bH b3 rfl))<|zF (rfl) (⟨dT,FG.2 omT,by show(((s.length+1):Nat):Int)<=1000000;omega⟩)<|rFx rfl rfl (iP wyL ([]:List Wy) s omT omT) (⟨by exact omT,by exact omT,trivial⟩)<|qRJ 0 0 rfl<|FP<|qS 0 rfl<|zC (tN agY hline)<|rV (.agg [vU (lineOf agY),vB agQ,.v (.string (dC data))]) rfl<|rV (.sl 3 ([[vU (lineOf agY),vB agQ,.v (.string (dC data))]]) true) rfl<|zF (iP wyL s ([(⟨lineOf agY,agQ,(dC data)⟩:Wy)]) omT omT) (⟨by exact omT,by exact omT,trivial⟩)<| .mk _ (.step (some (50,3,(s++([(⟨lineOf agY,agQ,(dC data)⟩:Wy)])).map wyL)) (gOL (l:=[(4,.ptr 0 0),(8,.ptr 1 0),(9,.ptr 2 0),(10,vB false),(11,vN ((bK c agY).1)),(35,vB ((bK c agY).2.isSome)),(15,.sl 3 (s.map wyL) false),(16,.ptr 30 0),(17,vB (((s.length:Nat):Int)==c.ways)),(75,vB (((s.length:Nat):Int)==c.ways)),(19,.sl 3 ((s++([(⟨lineOf agY,agQ,(dC data)⟩:Wy)])).map wyL) false)]) (hp:=[(0,.box [vI c.ways,.sl 1 (c.agJ.map bX) false]),(1,.box [vI 0,.sl 0 ([]) true]),(2,.box [zU,vB false,.v (.string (⟨#[]⟩:ByteArray))]),(30,.box [zU,vB false,.v (.string (⟨#[]⟩:ByteArray))])]) rfl rfT rbT) (.refl _))<|qCC 0 rfl<|pO rfl rfl<|oR 4 rfl<|rW (vN s.length) rfl (cD wyL s)<|rCi rfl (ao9 (s++([(⟨lineOf agY,agQ,(dC data)⟩:Wy)])) s.length false omT omT (sJ hso.2 (sK (P:=Wy.ok) ⟨(dV hline)⟩)))<|rCi rfl (LP c ((bK c agY).1) (eY (s++([(⟨lineOf agY,agQ,(dC data)⟩:Wy)])) s.length) hok hF2 omT (by first|exact omT|(rw[pP omT];exact omT)) (pQ (sJ hso.2 (sK (P:=Wy.ok) ⟨(dV hline)⟩))))<|oR 2 rfl<|rSt rfl<|rSt rfl<|oR 1 rfl<|rE 64<|And.intro (by kernel_rfl)<|qXF 0 rfl ?_;rw[AR hR hF,hse,dZ hq];refine fT rfl ?_;rw[GU _ _ _ omT,h5]
 try rfl
def Xn{a:Nat}(h:a<=4294967295):IntKind.wrap .u32 ((a:Int)-((lineOf a:Nat):Int))=((a%16:Nat):Int):=by
 rw[Gn (dV h) rfl];have:(a+4294967296-lineOf a)%4294967296=a%16:=by unfold lineOf;omega
 rw[this]
def Ul{c:Ca}{k j:Nat}{s:List Wy}{x:Wy}(hR:gG c=true)(hs:c.agJ[k]?=some s)(hx:s[j]?=some x):x.data.size=0∨x.data.size=16:=
 (((jX c k s).1 (((jL c).1 hR).2 k s hs)).2 j x hx).2.2.1
def GV{c}{agZ}(b)(hF:(bK c agZ).2.isSome=false):xL c agZ b=(c,false):=by
 unfold xL;have hj:(bK c agZ).2=none:=sU hF;have e:bK c agZ=((bK c agZ).1,none):=by rw[<-hj]
 rw[e]
def At{c}{agZ}{s}{x}(b)(hF:(bK c agZ).2.isSome=true)(hs:pF c (bK c agZ).1=s)(hx:s[(bK c agZ).2.getD 0]?=some x):
  xL c agZ b=if x.data.size=0∨b.size+agZ%16>16 then(c,false)else(rK c (bK c agZ).1 (modHd (λw=>{w with data:=Fk w.data (agZ%16) b,agQ:=true}) (eY s ((bK c agZ).2.getD 0))),true):=by
 unfold xL;obtain⟨j,hj⟩:=FH.1 hF;have e:bK c agZ=((bK c agZ).1,some j):=by rw[<-hj]
 rw[hj]at hx⊢;have hx':(pF c (bK c agZ).1)[j]?=some x:=by rw[hs];exact hx
 rw[e];have hx2:s[j]?=some x:=hx;simp only[hs,hx2];rfl
def Rf{α}{l}{k}{x:α}(h:l[k]?=some x):(eY l k)[0]?=some x:=by rw[Cm h];rfl
abbrev wrA(p:Ca×Bool):AV:=.tup [.agg (caL p.1 false),vB p.2]
def Um(c)(agZ)(bytes)(hok:c.ok)(hline:agZ<=4294967295):bI C0 132 [.agg (caL c false),vU agZ,.v (.string bytes)] (wrA (xL c agZ bytes)):=by
 refine dJZ func132 rfl ?_;have hFb:=AQ c agZ;refine zC (As c agZ hok hline)<|aV rfl (λh1=>?_) (λh1=>?_)
 ·have hF:(bK c agZ).2.isSome=false:=sU h1;refine qCF 0 rfl ?_;rw[GV bytes hF];exact fT rfl rfl
 have hF:(bK c agZ).2.isSome=true:=sU h1;obtain⟨hR,hF1,hF2,hF3⟩:=pR hF;obtain⟨hs0,hs4,hw2,hw1,hsw⟩:=kJ hR;obtain⟨s,hs⟩:∃y_,c.agJ[((bK c agZ).1)]?=some y_:=⟨_,aA omT⟩;have hso:=hok.set s (aB hs);have hse:=vA hs;rw[hse]at hF3;have hsl:s.length<=2:=oH (hsw s (aB hs));have hfl:=pP hF3;refine qC 0 rfl<|zX (bX s) (.dp 1 0 (bX s)) rfl (iH hs) ?_;obtain⟨x,hx⟩:∃y_,s[((bK c agZ).2.getD 0)]?=some y_:=⟨_,aA omT⟩;have hxo:=hso.2 x (aB hx);have hxs:=Ul hR hs hx;refine zX (wyL x) (.dp 3 0 (wyL x)) rfl (iH hx)<|rCi rfl (tN agZ hline) ?_;have b1:agZ%16<=15:=oT;refine rW _ rfl (okI (Xn hline))<|zW _ (okI (bH b1 rfl))<|zV (vB (x.data.toList==(⟨#[]⟩:ByteArray).toList))<|zAS (x:=vN bytes.size) rfl id rfl ?_;have b2:16-(agZ%16)<=16:=aL (jT _ _) (aC 16);refine gBS rfl id (okI (DA omT (aC 16) rfl))<|gBS rfl hsT (okB (gtN _ _))<|zN rfl (by simp)<|zB rfl (λh2=>?_) (λh2=>?_)
 ·have hq:(x.data.size=0∨bytes.size>16-agZ%16):=by have z:=h2;rw[afR]at z;simp only[cOr,dE,aY,dP,mA]at z;omega
  rw[At bytes hF hse hx,af1 omT];exact fT rfl rfl
 have hq: ¬(x.data.size=0∨bytes.size>16-agZ%16):=by have z:=h2;rw[afR]at z;simp only[cOr,dE,aY,dP,mA]at z;omega
 have hx16:x.data.size=16:=oT;have hb16:bytes.size<=16-agZ%16:=oT;refine zX (bX s) (.dp 1 0 (bX s)) rfl (iH hs)<|zH rfl ((VM s ((bK c agZ).2.getD 0) false omT omT hso.2).frame0 _ _ rfl) ?_;rintro _ _ ⟨rfl,rfl⟩;refine cRg<|oR 3 rfl<|nW (.v (.string (x.data.extract 0 (agZ%16)))) rfl rfl (by refine⟨?_,?_,?_⟩<;>(first|exact aG _|decide|(apply FG.2;exact omT)))<|oR 1 rfl<|nW (.v (.string ((x.data.extract 0 (agZ%16))++bytes))) rfl rfl (by show(_:Int)<=9223372036854775807;simp[kH,dA];omega)<|oR 3 rfl<|rV (vN bytes.size) rfl ?_;have b3:(agZ%16)+bytes.size<=31:=aD b1 (oT:bytes.size<=16);refine rW _ rfl (okI (bH b3 rfl))<|nW (.v (.string (x.data.extract ((agZ%16)+bytes.size) x.data.size))) rfl rfl (by refine⟨?_,?_,?_⟩<;>(first|exact aG _|decide|(apply FG.2;exact omT)))<|nW (.v (.string (((x.data.extract 0 (agZ%16))++bytes)++(x.data.extract ((agZ%16)+bytes.size) x.data.size)))) rfl rfl (by show(_:Int)<=9223372036854775807;simp[kH,dA];omega)<|nW (.ptr2 46 (0+0) 0) rfl rfl (⟨dT,FF.2 (by show 0<s.length;exact omT)⟩)<|oR 1 rfl ?_;obtain⟨w,hw⟩:∃y_,(eY s ((bK c agZ).2.getD 0))[0]?=some y_:=⟨_,aA omT⟩;have hwo:=(pQ hso.2) w (aB hw);have hxw:w=x:=af5 (hw.symm.trans (Rf hx));have hx1:((eY s ((bK c agZ).2.getD 0)).set 0 (⟨w.agY,w.agQ,((x.data.extract 0 (agZ%16))++bytes)++(x.data.extract ((agZ%16)+bytes.size) x.data.size)⟩:Wy))[0]?=some (⟨w.agY,w.agQ,((x.data.extract 0 (agZ%16))++bytes)++(x.data.extract ((agZ%16)+bytes.size) x.data.size)⟩:Wy):=aZ omT;refine nM (wyL w) (h':=upd _ 46 (some (.arr (((eY s ((bK c agZ).2.getD 0)).set 0 (⟨w.agY,w.agQ,((x.data.extract 0 (agZ%16))++bytes)++(x.data.extract ((agZ%16)+bytes.size) x.data.size)⟩:Wy)).map wyL) 3))) rfl rfl rfl (⟨dT,Jv (iH hw)⟩) (vX (l:=eY s ((bK c agZ).2.getD 0)) (k:=0) (x:=(⟨w.agY,w.agQ,((x.data.extract 0 (agZ%16))++bytes)++(x.data.extract ((agZ%16)+bytes.size) x.data.size)⟩:Wy)))<|rE 64<|qXJ 0 0 rfl<|FP<|qS 0 rfl<|zM (.ptr2 46 (0+0) 0) rfl (⟨dT,FF.2 (by show 0<s.length;exact omT)⟩) ?_;have hx2:(((eY s ((bK c agZ).2.getD 0)).set 0 (⟨w.agY,w.agQ,((x.data.extract 0 (agZ%16))++bytes)++(x.data.extract ((agZ%16)+bytes.size) x.data.size)⟩:Wy)).set 0 (⟨w.agY,true,((x.data.extract 0 (agZ%16))++bytes)++(x.data.extract ((agZ%16)+bytes.size) x.data.size)⟩:Wy))[0]?=some (⟨w.agY,true,((x.data.extract 0 (agZ%16))++bytes)++(x.data.extract ((agZ%16)+bytes.size) x.data.size)⟩:Wy):=aZ omT
 refine nM (wyL (⟨w.agY,w.agQ,((x.data.extract 0 (agZ%16))++bytes)++(x.data.extract ((agZ%16)+bytes.size) x.data.size)⟩:Wy)) (h':=upd _ 46 (some (.arr ((((eY s ((bK c agZ).2.getD 0)).set 0 (⟨w.agY,w.agQ,((x.data.extract 0 (agZ%16))++bytes)++(x.data.extract ((agZ%16)+bytes.size) x.data.size)⟩:Wy)).set 0 (⟨w.agY,true,((x.data.extract 0 (agZ%16))++bytes)++(x.data.extract ((agZ%16)+bytes.size) x.data.size)⟩:Wy)).map wyL) 3))) rfl rfl rfl (⟨dT,Jv (iH hx1)⟩) (vX (x:=(⟨w.agY,true,((x.data.extract 0 (agZ%16))++bytes)++(x.data.extract ((agZ%16)+bytes.size) x.data.size)⟩:Wy)))<|qRF 0 rfl<| .mk _ (.step (some (46,3,(((eY s ((bK c agZ).2.getD 0)).set 0 (⟨w.agY,w.agQ,((x.data.extract 0 (agZ%16))++bytes)++(x.data.extract ((agZ%16)+bytes.size) x.data.size)⟩:Wy)).set 0 (⟨w.agY,true,((x.data.extract 0 (agZ%16))++bytes)++(x.data.extract ((agZ%16)+bytes.size) x.data.size)⟩:Wy)).map wyL)) (gOL (l:=[(3,.ptr 0 0),(6,.ptr 1 0),(7,vB false),(8,vN ((bK c agZ).1)),(22,vB (!((bK c agZ).2.isSome))),(46,vB (cE (x.data.toList==(⟨#[]⟩:ByteArray).toList) true (decide (bytes.size>(16-(agZ%16)))))),(13,.sl 3 ((((eY s ((bK c agZ).2.getD 0)).set 0 (⟨w.agY,w.agQ,((x.data.extract 0 (agZ%16))++bytes)++(x.data.extract ((agZ%16)+bytes.size) x.data.size)⟩:Wy)).set 0 (⟨w.agY,true,((x.data.extract 0 (agZ%16))++bytes)++(x.data.extract ((agZ%16)+bytes.size) x.data.size)⟩:Wy)).map wyL) false)]) (hp:=[(0,.box [vI c.ways,.sl 1 (c.agJ.map bX) false]),(1,.box [vI 0,.sl 0 ([]) true])]) rfl rfT rbT) (.refl _))<|qC 0 rfl<|zC (LP c ((bK c agZ).1) (((eY s ((bK c agZ).2.getD 0)).set 0 (⟨w.agY,w.agQ,((x.data.extract 0 (agZ%16))++bytes)++(x.data.extract ((agZ%16)+bytes.size) x.data.size)⟩:Wy)).set 0 (⟨w.agY,true,((x.data.extract 0 (agZ%16))++bytes)++(x.data.extract ((agZ%16)+bytes.size) x.data.size)⟩:Wy)) hok hF2 omT (by first|exact omT|(rw[pP omT];exact omT)) (mem_set (mem_set (pQ hso.2) ⟨hwo.agY⟩) ⟨hwo.agY⟩)) ?_;subst hxw;rw[At bytes hF hse hx,dZ omT,Fe hw];exact fT rfl (by first|rfl|(simp only[lO];rfl))
def OP{α}{f}{l:List α}{k}{x}(h:l[k]?=some x):l.modify k f=l.set k (f x):=by
 apply dD;intro i;rw[oD,mV];obtain⟨hk,rfl⟩:=Em.1 h;by_cases e:k=i
 ·subst e;simp[hk]
 simp[e]
def Dy{c}{agY}{s}(hF:(bK c agY).2.isSome=true)(hs:pF c (bK c agY).1=s):wB c agY=rK c (bK c agY).1 (s.modify ((bK c agY).2.getD 0) λw=>{w with agQ:=false}):=by
 unfold wB;obtain⟨j,hj⟩:=FH.1 hF;have e:bK c agY=((bK c agY).1,some j):=by rw[<-hj]
 rw[hj,e];simp only[hs];rfl
def Dz{c}{agY}(hF:(bK c agY).2.isSome=false):wB c agY=c:=by
 unfold wB;have hj:(bK c agY).2=none:=sU hF;have e:bK c agY=((bK c agY).1,none):=by rw[<-hj]
 rw[e]
def Iu(c)(agY)(hok:c.ok)(hline:agY<=4294967295):bI C0 86 [.agg (caL c false),vU agY] (.agg (caL (wB c agY) false)):=by
 refine dJZ func86 rfl ?_;have hFb:=AQ c agY;refine zC (As c agY hok hline)<|aV rfl (λh1=>?_) (λh1=>?_)
 ·have hF:(bK c agY).2.isSome=false:=sU h1;refine qCF 0 rfl ?_;rw[Dz hF];exact dK rfl ⟨trivial,trivial,trivial⟩ rfl rfl
 have hF:(bK c agY).2.isSome=true:=sU h1;obtain⟨hR,hF1,hF2,hF3⟩:=pR hF;obtain⟨hs0,hs4,hw2,hw1,hsw⟩:=kJ hR;obtain⟨s,hs⟩:∃y_,c.agJ[((bK c agY).1)]?=some y_:=⟨_,aA omT⟩;have hso:=hok.set s (aB hs);have hse:=vA hs;rw[hse]at hF3;have hsl:s.length<=2:=oH (hsw s (aB hs));have hfl:=pP hF3;refine qC 0 rfl<|zX (bX s) (.dp 1 0 (bX s)) rfl (iH hs)<|rW _ rfl (cD wyL s)<|zF (x:=.osl 20 0 s.length false) (h':=upd _ 20 (some (.arr ((List.replicate s.length qE).map wyL) 3))) (Ri (fH (f:=wyL) (a:=qE)).symm) (⟨aG _,FG.2 omT,by show((s.length:Nat):Int)<=1000000;omega⟩)<|zX (bX s) (.dp 1 0 (bX s)) rfl (iH hs)<|rFx (x:=vI ((min ((s.map wyL).length) (s.length):Nat):Int)) (h':=upd _ 20 (some (.arr (s.map wyL) 3))) rfl rfl (II (DX wyL ((List.replicate s.length qE).map wyL) s omT omT)) (⟨by exact omT,trivial⟩)<|qRJ 0 0 rfl<|FP<|qS 0 rfl<|zM (.ptr2 20 (0+((bK c agY).2.getD 0)) 0) rfl (⟨aG _,FF.2 (by show((bK c agY).2.getD 0)<s.length;exact omT)⟩) ?_;obtain⟨x,hx⟩:∃y_,s[((bK c agY).2.getD 0)]?=some y_:=⟨_,aA omT⟩;have hxo:=hso.2 x (aB hx);have hx1:(s.set ((bK c agY).2.getD 0) (⟨x.agY,false,x.data⟩:Wy))[((bK c agY).2.getD 0)]?=some (⟨x.agY,false,x.data⟩:Wy):=aZ omT;refine nM (wyL x) (h':=upd _ 20 (some (.arr ((s.set ((bK c agY).2.getD 0) (⟨x.agY,false,x.data⟩:Wy)).map wyL) 3))) rfl rfl rfl (⟨aG _,Jv (iH hx)⟩) (vX (f:=wyL) (x:=(⟨x.agY,false,x.data⟩:Wy)))<|qRF 0 rfl<| .mk _ (.step (some (20,3,(s.set ((bK c agY).2.getD 0) (⟨x.agY,false,x.data⟩:Wy)).map wyL)) (gOL (l:=[(2,.ptr 0 0),(4,.ptr 1 0),(5,vN ((bK c agY).1)),(17,vB (!((bK c agY).2.isSome))),(8,.sl 3 ((s.set ((bK c agY).2.getD 0) (⟨x.agY,false,x.data⟩:Wy)).map wyL) false)]) (hp:=[(0,.box [vI c.ways,.sl 1 (c.agJ.map bX) false]),(1,.box [vI 0,.sl 0 ([]) true])]) rfl rfT rbT) (.refl _))<|qC 0 rfl<|zC (LP c ((bK c agY).1) (s.set ((bK c agY).2.getD 0) (⟨x.agY,false,x.data⟩:Wy)) hok hF2 omT omT (mem_set hso.2 ⟨hxo.agY⟩)) ?_;rw[Dy hF hse,OP hx];exact dK rfl ⟨trivial,trivial,trivial⟩ rfl rfl
section
variable {α:Type}{p:α->Bool}
def Rg{l:List α}{k}{x}(hx:l[k]?=some x)(hn:p x=false)(h:(l.take k).find? p=none):(l.take (k+1)).find? p=none:=by
 rw[bW,hx,iZ,h];simp[hn]
def Rh{l:List α}{k}{x}(hx:l[k]?=some x)(hp:p x=true)(h:(l.take k).find? p=none):l.find? p=some x:=by
 have e:l=l.take (k+1)++l.drop (k+1):=(afF _ _).symm;rw[e,iZ,bW,hx,iZ,h];simp[hp]
def Un{l:List α}{k}(hk:l.length<=k)(h:(l.take k).find? p=none):l.find? p=none:=by rwa [aN hk]at h
def Xo{L:List (List α)}{k}{s}(hs:L[k]?=some s)(hn:s.find? p=none)(h:(L.take k).flatten.find? p=none):(L.take (k+1)).flatten.find? p=none:=by
 rw[bW,hs,agA,iZ,h];simpa using hn
def Xp{L:List (List α)}{k}{s}{x}(hs:L[k]?=some s)(hn:s.find? p=some x)(h:(L.take k).flatten.find? p=none):L.flatten.find? p=some x:=by
 have e:L=L.take (k+1)++L.drop (k+1):=(afF _ _).symm;rw[e,agA,iZ,bW,hs,agA,iZ,h];simp[hn]
end
abbrev drA(o:Option Wy):AV:=.tup [.agg (wyL (o.getD qE)),vB o.isSome]
def ao8(c)(hok:c.ok):bI C0 85 [.agg (caL c false)] (drA (cR c)):=by
 refine dIZ func85 rfl<|zC (AW c false hok)<|zB rfl (λh1=>?_) (λh1=>?_)
 ·have hR:gG c=false:=sU h1;refine zV (.agg [.v (.int .u32 0),vB false,.v (.string (⟨#[]⟩:ByteArray))]) ?_;rw[show cR c=none from by unfold cR;rw[dZ (by rw[hR];decide)]];exact fT rfl rfl
 have hR:gG c=true:=sU h1;obtain⟨hs0,hs4,hw2,hw1,hsw⟩:=kJ hR;refine zW _ (cD bX c.agJ)<|zLo (λk=>⟨slotsF [(2,.ptr 1 0),(10,vB (!(gG c))),(13,.sl 1 (c.agJ.map bX) false),(14,vN c.agJ.length),(15,vN k)],heapF [(0,.box [vI c.ways,.sl 1 (c.agJ.map bX) false]),(1,.box [.v (.int .u32 0),vB false,.v (.string (⟨#[]⟩:ByteArray))])],10⟩) (λk=>k<=c.agJ.length∧(c.agJ.take k).flatten.find? (·.agQ)=none) (λk=>c.agJ.length-k) 0 (λs=>s) (wOL (λs=>s) wT wH rfl) (⟨aE _,rfl⟩) ?_;intro k hk;have hkn:k<=c.agJ.length:=hk.1;have hkB:k<=1000000:=oT;refine zWB (okB (ltN _ _)) (λh2=>?_) (λh2=>?_)
 ·have h2p:=af0 h2;obtain⟨s,hs⟩:∃y_,c.agJ[k]?=some y_:=⟨_,aA omT⟩;have hso:=hok.set s (aB hs);have hsl:s.length<=2:=oH (hsw s (aB hs));refine zX (bX s) (.dp 1 0 (bX s)) rfl (iH hs)<|zW _ (cD wyL s)<|zLo (λj=>⟨slotsF [(2,.ptr 1 0),(10,vB (!(gG c))),(13,.sl 1 (c.agJ.map bX) false),(14,vN c.agJ.length),(15,vN k),(16,vB (decide (k<c.agJ.length))),(17,.dp 1 0 (bX s)),(18,.sl 3 (s.map wyL) false),(5,.sl 3 (s.map wyL) false),(19,.sl 3 (s.map wyL) false),(20,vN s.length),(21,vN j)],heapF [(0,.box [vI c.ways,.sl 1 (c.agJ.map bX) false]),(1,.box [.v (.int .u32 0),vB false,.v (.string (⟨#[]⟩:ByteArray))])],17⟩) (λj=>j<=s.length∧(s.take j).find? (·.agQ)=none) (λj=>s.length-j) 0 (λs=>s) (wOL (λs=>s) wT wH rfl) (⟨aE _,rfl⟩) ?_;intro j hj;have hjn:j<=s.length:=hj.1;have hjB:j<=1000000:=oT;refine zWB (okB (ltN _ _)) (λh3=>?_) (λh3=>?_)
  ·have h3p:=af0 h3;obtain⟨x,hx⟩:∃y_,s[j]?=some y_:=⟨_,aA omT⟩;have hxo:=hso.2 x (aB hx);refine zX (wyL x) (.dp 3 0 (wyL x)) rfl (iH hx)<|zB rfl (λh4=>?_) (λh4=>?_)
   ·rw[show cR c=some x from by unfold cR;rw[af1 hR];exact Xp hs (Rh hx h4 hj.2) hk.2];exact fT rfl rfl
   skip
   have b1:j+1<=1000001:=aD hjB (aC 1);refine zW _ (okI (bH b1 rfl)) ?_;refine⟨j+1,λs=>s,wOL _ wT wH rfl,⟨oT,Rg hx h4 hj.2⟩,by show s.length-(j+1)<s.length-j;omega⟩
  have h3p:=aF h3;have b2:k+1<=1000001:=aD hkB (aC 1);refine zW _ (okI (bH b2 rfl)) ?_;refine⟨k+1,λs=>s,wOL _ wT wH rfl,⟨oT,Xo hs (Un omT hj.2) hk.2⟩,by show c.agJ.length-(k+1)<c.agJ.length-k;omega⟩
 have h2p:=aF h2;refine zV (.agg [.v (.int .u32 0),vB false,.v (.string (⟨#[]⟩:ByteArray))]) ?_;rw[show cR c=none from by unfold cR;rw[af1 hR];have z:=hk.2;rwa [aN omT]at z];exact fT rfl rfl
def Kn(m)(p):(BE m p).size=m.size:=by
 unfold BE;split
 ·simp only[kH,dA];omega
 rfl
def iY(m)(l):(rP m l).size=m.size:=by
 unfold rP
 induction l generalizing m with
 |nil=>rfl
 |cons p l ih=>rw[mK,ih,Kn]
def GS{m}{l:List Pt}{k}{x}(hx:l[k]?=some x):rP m (l.take (k+1))=BE (rP m (l.take k)) x:=by
 unfold rP;rw[bW,hx];simp
def Xl(s:ByteArray):aS s=s.data.toList.map λb=>[AV.v (.int .u8 (b.toNat:Int))]:=rfl
def Uh(a b:ByteArray):(a++b).data.toList=a.data.toList++b.data.toList:=by simp
def Ui(a:ByteArray)(i j):(a.extract i j).data.toList=(a.data.toList.take j).drop i:=by
 rw[ByteArray.data_extract,nY,List.extract_eq_take_drop,List.drop_take]
def QW{m}{p}{n}(h:p.agZ<m.size)(hn:n=m.size-p.agZ):(aS m).take (0+p.agZ)++(aS p.data).take (min (aS p.data).length n)++(aS m).drop (0+p.agZ+min (aS p.data).length n)=aS (BE m p):=by
 subst hn;unfold BE;rw[af1 h,bJ,qV];simp only[Xl,Uh,Ui,dH,eO,kM,bS];have hl:(m.data.toList.map λb=>[AV.v (.int .u8 (b.toNat:Int))]).length=m.size:=by rw[aH];exact cV
 rw[<-hl,cH]
def ON{m:ByteArray}{p:Pt}(h: ¬p.agZ<m.size):BE m p=m:=dZ h
def Nc(m)(n)(h:m.size<=n):gU (List.take n (List.drop 0 (aS m)))=some m.data.toList:=by
 rw[bS,aN (by rw[qV];exact h)];exact lN _
def QX(m)(l)(ck)(hm:m.size<=1000000)(hl:l.length<=1000000)(ho:∀x∈l,x.ok):bI C0 61 [.v (.string m),.sl 2 (l.map ptL) ck] (.v (.string (rP m l))):=by
 refine dJZ func61 rfl<|zF (rfl) ((by show m.size<=1000000;exact hm))<|zW (vN l.length) (cD ptL l)<|zLo (λk=>⟨slotsF [(4,.v (.string (⟨#[]⟩:ByteArray))),(5,.osl 2 0 m.size false),(10,.sl 2 (l.map ptL) ck),(11,vN l.length),(12,vN k)],heapF [(2,.arr (aS (rP m (l.take k))) 1)],7⟩) (λk=>k<=l.length) (λk=>l.length-k) 0 (λs=>s) (wOL (λs=>s) wT wH rfl) (aE _) ?_;intro k hk;have hkn:k<=l.length:=hk;have hkB:k<=1000000:=oT;refine zW (vB (decide (k<l.length))) (okB (ltN _ _))<|zB rfl (λh1=>?_) (λh1=>?_)
 ·have h1p:=af0 h1;obtain⟨x,hx⟩:∃y_,l[k]?=some y_:=⟨_,aA omT⟩;have hxo:=ho x (aB hx);refine zX (ptL x) (.dp 2 0 (ptL x)) rfl (iH hx)<|zW (.v (.int .u64 ((x.agZ:Nat):Int))) (okI (nJ hxo.agZ rfl))<|rV (vN m.size) rfl<|rW (.v (.int .u64 ((m.size:Nat):Int))) rfl (okI (nJ hm rfl))<|zW (vB (decide (x.agZ<m.size))) (okB (ltN _ _))<|aV rfl (λh2=>?_) (λh2=>?_)
  ·have h2p:=af0 h2;refine zR<|zM (.osl 2 (0+x.agZ) (m.size-x.agZ) false) (LR (by first|rfl|omega) (by simp only[Option.getD];omega)) slT ?_;have hlt:x.agZ<(rP m (l.take k)).size:=by rw[iY];omega
   refine zF (h':=upd _ 2 (some (.arr (aS (rP m (l.take (k+1)))) 1))) (II (by rw[GS hx];exact QW hlt (by rw[iY]))) (⟨by show 0+x.agZ+(m.size-x.agZ)<=(aS (rP m (l.take k))).length;rw[qV,iY];omega,trivial⟩) ?_;have b1:k+1<=1000001:=aD hkB (aC 1);refine zW (vN (k+1)) (okI (bH b1 rfl)) ?_;refine⟨k+1,λs=>s,wOL _ wT wH rfl,oT,by show l.length-(k+1)<l.length-k;omega⟩
  have h2p:=aF h2;have b2:k+1<=1000001:=aD hkB (aC 1);refine qC 0 rfl<|zW (vN (k+1)) (okI (bH b2 rfl)) ?_;refine⟨k+1,λs=>s,wOL _ wT ⟨⟨rfl,(af2 (λz=>some (Blk.arr (aS z) 1)) (show rP m (l.take k)=rP m (l.take (k+1))from by rw[GS hx,ON (by rw[iY];omega)])),rfl⟩,trivial⟩ rfl,oT,by show l.length-(k+1)<l.length-k;omega⟩
 have h1p:=aF h1;refine SV ((rP m (l.take k)).data.toList) rfl rfl rfl ((by show 0+m.size<=(aS (rP m (l.take k))).length;rw[qV,iY];omega)) (Nc _ _ (by rw[iY];exact aC _))<|qRF 0 rfl ?_;exact fT rfl (by rw[aN (oT:l.length<=k)];rfl)
def AO{q:List Req}{k}{x}(hx:q[k]?=some x)(h:x.kind=4):fP (q.take k)++[⟨x.agY,x.data⟩]=fP (q.take (k+1)):=by
 unfold fP;rw[bW,hx];simp[mL,h]
def Fb{q:List Req}{k}{x}(hx:q[k]?=some x)(h: ¬x.kind=4):fP (q.take k)=fP (q.take (k+1)):=by
 unfold fP;rw[bW,hx];simp[mL,h]
def Ko(q):(fP q).length<=q.length:=by unfold fP;rw[aH];exact List.length_filter_le _ _
def QY{q:List Req}(h:∀x∈q,x.ok):∀x∈fP q,x.ok:=λx hx=>by
 unfold fP at hx;obtain⟨y,hy,rfl⟩:=pG.1 hx;exact⟨(h y (List.mem_filter.1 hy).1).agY⟩
def Nd(m)(hm:m.size<=1000000):bI C0 61 [.v (.string m),.sl 0 [] true] (.v (.string m)):=by
 refine dJZ func61 rfl<|zF (rfl) ((by show m.size<=1000000;exact hm))<|zV _<|zLo (λu_=>⟨slotsF [(5,.osl 2 0 m.size false),(10,.sl 0 _ true),(11,vI 0),(12,vI 0)],heapF [(2,.arr _ 1)],7⟩) (λu_=>True) (λu_=>0) () (λs=>s) (wOL (λs=>s) wT wH rfl) trivial ?_;intro u_ _;refine zVB (decide (0<0)) (λh1=>by simp at h1) (λ_=>?_);refine SV _ rfl rfl rfl ((by show 0+m.size<=(aS m).length;rw[qV];omega)) (Nc _ _ (aC _))<|qRF 0 rfl ?_;exact fT rfl rfl
def QZ(q)(m)(ck)(hm:m.size<=1000000)(hq:q.length<=900000)(ho:∀x∈q,x.ok):bI C0 152 [.sl 4 (q.map rqL) ck,.v (.string m)] (.v (.string (jZ q m))):=by
 refine dJZ func152 rfl<|zW _ (cD rqL q)<|zLo (κ:=Nat×Bool) (λz_=>match z_ with|(k,false)=>⟨slotsF [(1,.v (.string m)),(4,.v (.string (⟨#[]⟩:ByteArray))),(8,.sl 4 (q.map rqL) ck),(9,vN q.length),(10,vN k),(5,.sl 0 ([]) true)],heapF [],6⟩|(k,true)=>⟨slotsF [(1,.v (.string m)),(4,.v (.string (⟨#[]⟩:ByteArray))),(8,.sl 4 (q.map rqL) ck),(9,vN q.length),(10,vN k),(5,.osl 5 0 ((fP (q.take k)).length) false)],heapF [(5,.arr ((fP (q.take k)).map ptL) 2)],6⟩) (λz_=>match z_ with|(k,false)=>(k<=q.length∧fP (q.take k)=[])|(k,true)=>(k<=q.length)) (λz_=>q.length-z_.1) (0,false) (λs=>s) (wOL (λs=>s) wT trivial rfl) (⟨aE _,(show fP (q.take 0)=[]from rfl)⟩) ?_;intro z_ hk;obtain⟨k,b_⟩:=z_;cases b_
 all_goals
  have hk_:=hk
  first|have hnn:k<=q.length:=hk_.1|have hnn:k<=q.length:=hk_
  have hkB:k<=1000000:=oT
  first|have hNk:fP (q.take k)=[]:=hk_.2|(have habk:(fP (q.take k)).length<=900000:=(by have:=Ko (q.take k);rw[aM]at this;omega))
  refine zWB (okB (ltN _ _)) (λh1=>?_) (λh1=>?_)
  ·have h1p:=af0 h1;obtain⟨x,hx⟩:∃y_,q[k]?=some y_:=⟨_,aA omT⟩;have hxo:=ho x (aB hx);refine zX (rqL x) (.dp 4 0 (rqL x)) rfl (iH hx)<|zVB (x.kind==4) (λh2=>?_) (λh2=>?_)
   ·have h2p:=mT h2;refine rV (.agg [vU x.agY,.v (.string x.data)]) rfl<|rV (.sl 2 ([[vU x.agY,.v (.string x.data)]]) true) rfl ?_
    first|refine zF (Iw omT) (⟨rfl,by exact omT,by exact omT,trivial⟩) ?_|refine zF (iP ptL (fP (q.take k)) ([(⟨x.agY,x.data⟩:Pt)]) omT omT) (⟨by exact omT,by exact omT,trivial⟩) ?_
    have b1:k+1<=1000001:=aD hkB (aC 1);refine zW _ (okI (bH b1 rfl)) ?_
    first|(refine⟨(k+1,true),λi=>match i with|5=>21|i=>i,wOL _ ⟨⟨rfl,rfl⟩,⟨rfl,rfl⟩,⟨rfl,rfl⟩,⟨rfl,rfl⟩,⟨rfl,rfl⟩,⟨(show AV.osl 21 0 (1) false=AV.osl 21 0 (fP (q.take (k+1))).length false from by rw[<-(show [(⟨x.agY,x.data⟩:Pt)]=fP (q.take (k+1))from(by rw[<-(AO hx h2p),hNk];rfl))];first|done|rfl|(congr 1<;>(first|exact omT|simp))),rfl⟩,trivial⟩ ⟨⟨rfl,(af2 (λz:List Pt=>some (Blk.arr (z.map ptL) 2)) (show [(⟨x.agY,x.data⟩:Pt)]=fP (q.take (k+1))from(by rw[<-(AO hx h2p),hNk];rfl))),rfl⟩,trivial⟩ rfl,oT,by show q.length-(k+1)<q.length-k;omega⟩)|(refine⟨(k+1,true),λi=>match i with|5=>21|i=>i,wOL _ ⟨⟨rfl,rfl⟩,⟨rfl,rfl⟩,⟨rfl,rfl⟩,⟨rfl,rfl⟩,⟨rfl,rfl⟩,⟨(show AV.osl 21 0 ((fP (q.take k)).length+1) false=AV.osl 21 0 (fP (q.take (k+1))).length false from by rw[<-(show(fP (q.take k))++([(⟨x.agY,x.data⟩:Pt)])=fP (q.take (k+1))from AO hx h2p)];first|done|rfl|(congr 1<;>(first|exact omT|simp))),rfl⟩,trivial⟩ ⟨⟨rfl,(af2 (λz:List Pt=>some (Blk.arr (z.map ptL) 2)) (show(fP (q.take k))++([(⟨x.agY,x.data⟩:Pt)])=fP (q.take (k+1))from AO hx h2p)),rfl⟩,trivial⟩ rfl,oT,by show q.length-(k+1)<q.length-k;omega⟩)
   have h2p:=nA h2;have b2:k+1<=1000001:=aD hkB (aC 1);refine zW _ (okI (bH b2 rfl)) ?_
   first|(refine⟨(k+1,false),λi=>i,wOL _ wT trivial rfl,⟨oT,(by rw[<-(Fb hx h2p)];exact hNk)⟩,by show q.length-(k+1)<q.length-k;omega⟩)|(refine⟨(k+1,true),λi=>i,wOL _ ⟨⟨rfl,rfl⟩,⟨rfl,rfl⟩,⟨rfl,rfl⟩,⟨rfl,rfl⟩,⟨rfl,rfl⟩,⟨(af2 (λz:List Pt=>AV.osl 5 0 z.length false) (Fb hx h2p)),rfl⟩,trivial⟩ ⟨⟨rfl,(af2 (λz:List Pt=>some (Blk.arr (z.map ptL) 2)) (Fb hx h2p)),rfl⟩,trivial⟩ rfl,oT,by show q.length-(k+1)<q.length-k;omega⟩)
  have h1p:=aF h1
  first|refine zC (Nd m (hm)) ?_|(refine zL rfl (.inr ⟨rfl,⟨trivial,(by show 0+((fP (q.take k)).length)<=((fP (q.take k)).map ptL).length;exact omT),trivial⟩⟩) ((show bI C0 _ [_,.sl 2 (List.take ((fP (q.take k)).length) (List.drop 0 ((fP (q.take k)).map ptL))) false] _ from by rw[jW ptL (fP (q.take k)) omT];exact QX m (fP (q.take k)) false (hm) (by have:=Ko (q.take k);rw[aM]at this;omega) (QY (zD ho)))) ?_)
  have hW:jZ q m=rP m (fP (q.take k)):=by unfold jZ;rw[aN omT]
  first|rw[hW,hNk]|rw[hW]
  exact fT rfl rfl
def Xm(w:Wy):Pt:=⟨w.agY,w.data⟩
def gV(c:Ca)(k:Nat):List Pt:=(c.agJ.take k).flatten.map Xm
def gA(c:Ca)(k:Nat)(s:List Wy)(j:Nat):List Pt:=gV c k++(s.take j).map Xm
def tL{c}{k j}{s}{x}(hx:s[j]?=some x):gA c k s j++[⟨x.agY,x.data⟩]=gA c k s (j+1):=by
 unfold gA;rw[bW,hx];simp[Xm]
def yA{c}{k j}{s}(hs:c.agJ[k]?=some s)(hj:s.length<=j):gA c k s j=gV c (k+1):=by
 unfold gA gV;rw[aN hj,bW,hs];simp
def BD(c)(k)(s):gV c k=gA c k s 0:=by unfold gA;simp
def Fc{c}{k}(h:c.agJ.length<=k):gV c k=LV c:=by unfold gV LV;rw[aN h];rfl
theorem Nf{α:Type}{B:Nat}:∀(L:List (List α)),(∀s∈L,s.length<=B)->L.flatten.length<=L.length*B
 |[],_=>by simp
 |s::L,h=>by
  have h1:=h s al_List_mem_cons_self;have h2:=Nf L λt ht=>h t (bY _ ht);simp only[mU,aU,bN,cG,lD];omega
def Is{c}{k}(h4:c.agJ.length<=4)(h2:∀s∈c.agJ,s.length<=2):(gV c k).length<=8:=by
 unfold gV;rw[aH];have:=Nf (c.agJ.take k) λs hs=>h2 s (cQ hs);rw[aM]at this;omega
def Kq{c}{k j}{s}(h4:c.agJ.length<=4)(h2:∀s∈c.agJ,s.length<=2)(hs:s.length<=2):(gA c k s j).length<=10:=by
 unfold gA;have:=Is (k:=k) h4 h2;rw[aU,aH,aM];omega
def Uj{c:Ca}(h:∀s∈c.agJ,∀x∈s,x.ok)(k:Nat):∀x∈gV c k,x.ok:=λx hx=>by
 obtain⟨y,hy,rfl⟩:=pG.1 hx;obtain⟨s,hs,hy⟩:=List.mem_flatten.1 hy;exact⟨(h s (cQ hs) y hy).agY⟩
def ZE(c)(q)(m)(ck)(hok:c.ok)(hc4:c.agJ.length<=4)(hc2:∀s∈c.agJ,s.length<=2)(hm:m.size<=1000000)(hq:q.length<=900000)(ho:∀x∈q,x.ok):bI C0 150 [.agg (caL c false),.sl 4 (q.map rqL) ck,.v (.string m)] (.v (.string (Ct c q m))):=by
 refine dJZ func150 rfl<|zW (vN c.agJ.length) (cD bX c.agJ)<|zLo (κ:=Nat×Bool) (λz_=>match z_ with|(k,false)=>⟨slotsF [(1,.sl 4 (q.map rqL) ck),(2,.v (.string m)),(6,.v (.string (⟨#[]⟩:ByteArray))),(13,.sl 1 (c.agJ.map bX) false),(14,vN c.agJ.length),(15,vN k),(7,.sl 0 ([]) true)],heapF [(0,.box [vI c.ways,.sl 1 (c.agJ.map bX) false])],8⟩|(k,true)=>⟨slotsF [(1,.sl 4 (q.map rqL) ck),(2,.v (.string m)),(6,.v (.string (⟨#[]⟩:ByteArray))),(13,.sl 1 (c.agJ.map bX) false),(14,vN c.agJ.length),(15,vN k),(7,.osl 7 0 ((gV c k).length) false)],heapF [(0,.box [vI c.ways,.sl 1 (c.agJ.map bX) false]),(7,.arr ((gV c k).map ptL) 2)],8⟩) (λz_=>match z_ with|(k,false)=>(k<=c.agJ.length∧gV c k=[])|(k,true)=>(k<=c.agJ.length)) (λz_=>c.agJ.length-z_.1) (0,false) (λs=>s) (wOL (λs=>s) wT wH rfl) (⟨aE _,(show gV c 0=[]from rfl)⟩) ?_;intro z_ hk;obtain⟨k,b_⟩:=z_;cases b_
 ·have hk_:=hk;have hnn:k<=c.agJ.length:=hk_.1;have hkB:k<=1000000:=oT;have hNk:gV c k=[]:=hk_.2;refine zW (vB (decide (k<c.agJ.length))) (okB (ltN _ _))<|zB rfl (λh1=>?_) (λh1=>?_)
  ·have h1p:=af0 h1;obtain⟨s,hs⟩:∃y_,c.agJ[k]?=some y_:=⟨_,aA omT⟩;have hso:=hok.set s (aB hs);have hsl:s.length<=2:=hc2 s (aB hs);refine zX (bX s) (.dp 1 0 (bX s)) rfl (iH hs)<|zW (vN s.length) (cD wyL s)<|zLo (κ:=Nat×Bool) (λz_=>match z_ with|(j,false)=>⟨slotsF [(1,.sl 4 (q.map rqL) ck),(2,.v (.string m)),(6,.v (.string (⟨#[]⟩:ByteArray))),(13,.sl 1 (c.agJ.map bX) false),(14,vN c.agJ.length),(15,vN k),(16,vB (decide (k<c.agJ.length))),(17,.dp 1 0 (bX s)),(18,.sl 3 (s.map wyL) false),(9,.sl 3 (s.map wyL) false),(19,.sl 3 (s.map wyL) false),(20,vN s.length),(21,vN j),(7,.sl 0 ([]) true)],heapF [(0,.box [vI c.ways,.sl 1 (c.agJ.map bX) false])],16⟩|(j,true)=>⟨slotsF [(1,.sl 4 (q.map rqL) ck),(2,.v (.string m)),(6,.v (.string (⟨#[]⟩:ByteArray))),(13,.sl 1 (c.agJ.map bX) false),(14,vN c.agJ.length),(15,vN k),(16,vB (decide (k<c.agJ.length))),(17,.dp 1 0 (bX s)),(18,.sl 3 (s.map wyL) false),(9,.sl 3 (s.map wyL) false),(19,.sl 3 (s.map wyL) false),(20,vN s.length),(21,vN j),(7,.osl 15 0 ((gA c k s j).length) false)],heapF [(0,.box [vI c.ways,.sl 1 (c.agJ.map bX) false]),(15,.arr ((gA c k s j).map ptL) 2)],16⟩) (λz_=>match z_ with|(j,false)=>(j<=s.length∧gA c k s j=[])|(j,true)=>(j<=s.length)) (λz_=>s.length-z_.1) (0,false) (λs=>s) (wOL (λs=>s) wT wH rfl) (⟨aE _,(show gA c k s 0=[]from(BD c k s).symm.trans hNk)⟩) ?_;intro z_ hj;obtain⟨j,b_⟩:=z_;cases b_
   ·have hj_:=hj;have hnn:j<=s.length:=hj_.1;have hjB:j<=1000000:=oT;have hNj:gA c k s j=[]:=hj_.2;refine zW (vB (decide (j<s.length))) (okB (ltN _ _))<|zB rfl (λh2=>?_) (λh2=>?_)
    ·have h2p:=af0 h2;obtain⟨x,hx⟩:∃y_,s[j]?=some y_:=⟨_,aA omT⟩;have hxo:=hso.2 x (aB hx);refine zX (wyL x) (.dp 3 0 (wyL x)) rfl (iH hx)<|rV (.agg [vU x.agY,.v (.string x.data)]) rfl<|rV (.sl 2 ([[vU x.agY,.v (.string x.data)]]) true) rfl<|zF (x:=.osl 28 0 1 false) (h':=upd _ 28 (some (.arr (([(⟨x.agY,x.data⟩:Pt)]).map ptL) 2))) (Iw omT) (⟨rfl,by exact omT,by exact omT,trivial⟩) ?_;have b1:j+1<=1000001:=aD hjB (aC 1);refine zW (vN (j+1)) (okI (bH b1 rfl)) ?_;refine⟨(j+1,true),λi=>match i with|15=>28|i=>i,wOL _ ⟨⟨rfl,rfl⟩,⟨rfl,rfl⟩,⟨rfl,rfl⟩,⟨rfl,rfl⟩,⟨rfl,rfl⟩,⟨rfl,rfl⟩,⟨rfl,rfl⟩,⟨rfl,rfl⟩,⟨rfl,rfl⟩,⟨rfl,rfl⟩,⟨rfl,rfl⟩,⟨rfl,rfl⟩,⟨rfl,rfl⟩,⟨(show AV.osl 28 0 (1) false=AV.osl 28 0 (gA c k s (j+1)).length false from by rw[<-(show [(⟨x.agY,x.data⟩:Pt)]=gA c k s (j+1)from(by rw[<-(tL hx),hNj];rfl))];first|done|rfl|(congr 1<;>(first|exact omT|simp))),rfl⟩,trivial⟩ ⟨⟨rfl,rfl,rfl⟩,⟨rfl,(af2 (λz:List Pt=>some (Blk.arr (z.map ptL) 2)) (show [(⟨x.agY,x.data⟩:Pt)]=gA c k s (j+1)from(by rw[<-(tL hx),hNj];rfl))),rfl⟩,trivial⟩ rfl,oT,by show s.length-(j+1)<s.length-j;omega⟩
    have h2p:=aF h2;have b2:k+1<=1000001:=aD hkB (aC 1);refine zW (vN (k+1)) (okI (bH b2 rfl)) ?_;refine⟨(k+1,false),λi=>i,wOL _ wT wH rfl,⟨oT,(by rw[<-yA (j:=j) hs omT];exact hNj)⟩,by show c.agJ.length-(k+1)<c.agJ.length-k;omega⟩
   have hj_:=hj;have hnn:j<=s.length:=hj_;have hjB:j<=1000000:=oT;have habj:(gA c k s j).length<=10:=(Kq hc4 hc2 hsl);refine zW (vB (decide (j<s.length))) (okB (ltN _ _))<|zB rfl (λh3=>?_) (λh3=>?_)
   ·have h3p:=af0 h3;obtain⟨x,hx⟩:∃y_,s[j]?=some y_:=⟨_,aA omT⟩;have hxo:=hso.2 x (aB hx);refine zX (wyL x) (.dp 3 0 (wyL x)) rfl (iH hx)<|rV (.agg [vU x.agY,.v (.string x.data)]) rfl<|rV (.sl 2 ([[vU x.agY,.v (.string x.data)]]) true) rfl<|zF (x:=.osl 28 0 ((gA c k s j).length+1) false) (h':=upd (upd _ 15 none) 28 (some (.arr (((gA c k s j)++([(⟨x.agY,x.data⟩:Pt)])).map ptL) 2))) (iP ptL (gA c k s j) ([(⟨x.agY,x.data⟩:Pt)]) omT omT) (⟨by exact omT,by exact omT,trivial⟩) ?_;have b3:j+1<=1000001:=aD hjB (aC 1);refine zW (vN (j+1)) (okI (bH b3 rfl)) ?_;refine⟨(j+1,true),λi=>match i with|15=>28|i=>i,wOL _ ⟨⟨rfl,rfl⟩,⟨rfl,rfl⟩,⟨rfl,rfl⟩,⟨rfl,rfl⟩,⟨rfl,rfl⟩,⟨rfl,rfl⟩,⟨rfl,rfl⟩,⟨rfl,rfl⟩,⟨rfl,rfl⟩,⟨rfl,rfl⟩,⟨rfl,rfl⟩,⟨rfl,rfl⟩,⟨rfl,rfl⟩,⟨(show AV.osl 28 0 ((gA c k s j).length+1) false=AV.osl 28 0 (gA c k s (j+1)).length false from by rw[<-(show(gA c k s j)++([(⟨x.agY,x.data⟩:Pt)])=gA c k s (j+1)from tL hx)];first|done|rfl|(congr 1<;>(first|exact omT|simp))),rfl⟩,trivial⟩ ⟨⟨rfl,rfl,rfl⟩,⟨rfl,(af2 (λz:List Pt=>some (Blk.arr (z.map ptL) 2)) (show(gA c k s j)++([(⟨x.agY,x.data⟩:Pt)])=gA c k s (j+1)from tL hx)),rfl⟩,trivial⟩ rfl,oT,by show s.length-(j+1)<s.length-j;omega⟩
   have h3p:=aF h3;have b4:k+1<=1000001:=aD hkB (aC 1);refine zW (vN (k+1)) (okI (bH b4 rfl)) ?_;refine⟨(k+1,true),λi=>match i with|7=>15|i=>i,wOL _ ⟨⟨rfl,rfl⟩,⟨rfl,rfl⟩,⟨rfl,rfl⟩,⟨rfl,rfl⟩,⟨rfl,rfl⟩,⟨rfl,rfl⟩,⟨(show AV.osl 15 0 ((gA c k s j).length) false=AV.osl 15 0 (gV c (k+1)).length false from by rw[<-(show gA c k s j=gV c (k+1)from yA hs omT)];first|done|rfl|(congr 1<;>(first|exact omT|simp))),rfl⟩,trivial⟩ ⟨⟨rfl,rfl,rfl⟩,⟨rfl,(af2 (λz:List Pt=>some (Blk.arr (z.map ptL) 2)) (show gA c k s j=gV c (k+1)from yA hs omT)),rfl⟩,trivial⟩ rfl,oT,by show c.agJ.length-(k+1)<c.agJ.length-k;omega⟩
  have h1p:=aF h1;refine zC (QZ q m ck hm hq ho)<|zC (Nd (jZ q m) (by unfold jZ;rw[iY];exact hm)) ?_;have hW:Ct c q m=rP (jZ q m) (gV c k):=by unfold Ct;rw[Fc omT]
  rw[hW,hNk];exact fT rfl rfl
 have hk_:=hk;have hnn:k<=c.agJ.length:=hk_;have hkB:k<=1000000:=oT;have habk:(gV c k).length<=8:=(Is hc4 hc2);refine zW (vB (decide (k<c.agJ.length))) (okB (ltN _ _))<|zB rfl (λh4=>?_) (λh4=>?_)
 ·have h4p:=af0 h4;obtain⟨s,hs⟩:∃y_,c.agJ[k]?=some y_:=⟨_,aA omT⟩;have hso:=hok.set s (aB hs);have hsl:s.length<=2:=hc2 s (aB hs);refine zX (bX s) (.dp 1 0 (bX s)) rfl (iH hs)<|zW (vN s.length) (cD wyL s)<|zLo (κ:=Nat) (λj=>⟨slotsF [(1,.sl 4 (q.map rqL) ck),(2,.v (.string m)),(6,.v (.string (⟨#[]⟩:ByteArray))),(13,.sl 1 (c.agJ.map bX) false),(14,vN c.agJ.length),(15,vN k),(16,vB (decide (k<c.agJ.length))),(17,.dp 1 0 (bX s)),(18,.sl 3 (s.map wyL) false),(9,.sl 3 (s.map wyL) false),(19,.sl 3 (s.map wyL) false),(20,vN s.length),(21,vN j),(7,.osl 15 0 ((gA c k s j).length) false)],heapF [(0,.box [vI c.ways,.sl 1 (c.agJ.map bX) false]),(15,.arr ((gA c k s j).map ptL) 2)],16⟩) (λj=>j<=s.length) (λj=>s.length-j) 0 (λi=>match i with|15=>7|i=>i) (wOL (λi=>match i with|15=>7|i=>i) ⟨⟨rfl,rfl⟩,⟨rfl,rfl⟩,⟨rfl,rfl⟩,⟨rfl,rfl⟩,⟨rfl,rfl⟩,⟨rfl,rfl⟩,⟨rfl,rfl⟩,⟨rfl,rfl⟩,⟨rfl,rfl⟩,⟨rfl,rfl⟩,⟨rfl,rfl⟩,⟨rfl,rfl⟩,⟨rfl,rfl⟩,⟨(show AV.osl 7 0 ((gV c k).length) false=AV.osl 7 0 (gA c k s 0).length false from by rw[<-(show gV c k=gA c k s 0 from BD c k s)];first|done|rfl),rfl⟩,trivial⟩ ⟨⟨rfl,rfl,rfl⟩,⟨rfl,(af2 (λz:List Pt=>some (Blk.arr (z.map ptL) 2)) (show gV c k=gA c k s 0 from BD c k s)),rfl⟩,trivial⟩ rfl) (aE _) ?_;intro j hj;have hj_:=hj;have hnn:j<=s.length:=hj_;have hjB:j<=1000000:=oT;have habj:(gA c k s j).length<=10:=(Kq hc4 hc2 hsl);refine zW (vB (decide (j<s.length))) (okB (ltN _ _))<|zB rfl (λh5=>?_) (λh5=>?_)
  ·have h5p:=af0 h5;obtain⟨x,hx⟩:∃y_,s[j]?=some y_:=⟨_,aA omT⟩;have hxo:=hso.2 x (aB hx);refine zX (wyL x) (.dp 3 0 (wyL x)) rfl (iH hx)<|rV (.agg [vU x.agY,.v (.string x.data)]) rfl<|rV (.sl 2 ([[vU x.agY,.v (.string x.data)]]) true) rfl<|zF (x:=.osl 28 0 ((gA c k s j).length+1) false) (h':=upd (upd _ 15 none) 28 (some (.arr (((gA c k s j)++([(⟨x.agY,x.data⟩:Pt)])).map ptL) 2))) (iP ptL (gA c k s j) ([(⟨x.agY,x.data⟩:Pt)]) omT omT) (⟨by exact omT,by exact omT,trivial⟩) ?_;have b5:j+1<=1000001:=aD hjB (aC 1);refine zW (vN (j+1)) (okI (bH b5 rfl)) ?_;refine⟨j+1,λi=>match i with|15=>28|i=>i,wOL _ ⟨⟨rfl,rfl⟩,⟨rfl,rfl⟩,⟨rfl,rfl⟩,⟨rfl,rfl⟩,⟨rfl,rfl⟩,⟨rfl,rfl⟩,⟨rfl,rfl⟩,⟨rfl,rfl⟩,⟨rfl,rfl⟩,⟨rfl,rfl⟩,⟨rfl,rfl⟩,⟨rfl,rfl⟩,⟨rfl,rfl⟩,⟨(show AV.osl 28 0 ((gA c k s j).length+1) false=AV.osl 28 0 (gA c k s (j+1)).length false from by rw[<-(show(gA c k s j)++([(⟨x.agY,x.data⟩:Pt)])=gA c k s (j+1)from tL hx)];first|done|rfl|(congr 1<;>(first|exact omT|simp))),rfl⟩,trivial⟩ ⟨⟨rfl,rfl,rfl⟩,⟨rfl,(af2 (λz:List Pt=>some (Blk.arr (z.map ptL) 2)) (show(gA c k s j)++([(⟨x.agY,x.data⟩:Pt)])=gA c k s (j+1)from tL hx)),rfl⟩,trivial⟩ rfl,oT,by show s.length-(j+1)<s.length-j;omega⟩
  have h5p:=aF h5;have b6:k+1<=1000001:=aD hkB (aC 1);refine zW (vN (k+1)) (okI (bH b6 rfl)) ?_;refine⟨(k+1,true),λi=>match i with|7=>15|i=>i,wOL _ ⟨⟨rfl,rfl⟩,⟨rfl,rfl⟩,⟨rfl,rfl⟩,⟨rfl,rfl⟩,⟨rfl,rfl⟩,⟨rfl,rfl⟩,⟨(show AV.osl 15 0 ((gA c k s j).length) false=AV.osl 15 0 (gV c (k+1)).length false from by rw[<-(show gA c k s j=gV c (k+1)from yA hs omT)];first|done|rfl|(congr 1<;>(first|exact omT|simp))),rfl⟩,trivial⟩ ⟨⟨rfl,rfl,rfl⟩,⟨rfl,(af2 (λz:List Pt=>some (Blk.arr (z.map ptL) 2)) (show gA c k s j=gV c (k+1)from yA hs omT)),rfl⟩,trivial⟩ rfl,oT,by show c.agJ.length-(k+1)<c.agJ.length-k;omega⟩
 have h4p:=aF h4;refine zC (QZ q m ck hm hq ho)<|zL (x:=.v (.string (rP (jZ q m) (gV c k)))) rfl (.inr ⟨rfl,⟨trivial,(by show 0+((gV c k).length)<=((gV c k).map ptL).length;exact omT),trivial⟩⟩) ((show bI C0 _ [_,.sl 2 (List.take ((gV c k).length) (List.drop 0 ((gV c k).map ptL))) false] _ from by rw[jW ptL (gV c k) omT];exact QX (jZ q m) (gV c k) false (by unfold jZ;rw[iY];exact hm) (oH (Is (k:=k) hc4 hc2)) (Uj (λs hs=>(hok.set s hs).2) k))) ?_;have hW:Ct c q m=rP (jZ q m) (gV c k):=by unfold Ct;rw[Fc omT]
 rw[hW];exact fT rfl rfl
def acF(agF)(c)(q)(m)(ck ck2)(hok:c.ok)(hc4:c.agJ.length<=4)(hc2:∀s∈c.agJ,s.length<=2)(hm:m.size<=1000000)(hq:q.length<=900000)(ho:∀x∈q,x.ok)(hst:agF.length<=1000000)(hso:∀x∈agF,x.ok):bI C0 107 [.sl 2 (agF.map ptL) ck2,.agg (caL c false),.sl 4 (q.map rqL) ck,.v (.string m)] (.v (.string (ZS agF c q m))):=by
 refine dIZ func107 rfl ?_;refine zC (ZE c q m ck hok hc4 hc2 hm hq ho)<|zC (QX (Ct c q m) agF ck2 (by unfold Ct jZ;rw[iY,iY];exact hm) hst hso) ?_;exact fT rfl rfl
def Rb{m:ByteArray}{a}(h:a<=m.size):(m.extract a m.size).extract 0 (min (m.extract a m.size).size 16)=m.extract a (a+min (m.size-a) 16):=by
 have hs:(m.extract a m.size).size=m.size-a:=by rw[dA];omega
 rw[hs,ByteArray.extract_extract];congr 1<;>omega
def acG(m)(agY)(hm:m.size<=1000000)(hline:agY<=4294967295):bI C0 151 [.v (.string m),vU agY] (.v (.string (Ga m agY))):=by
 refine dIZ func151 rfl<|zC (tN agY hline)<|zW _ (okI (nJ (dV hline) rfl))<|rV _ rfl<|rW _ rfl (okI (nJ hm rfl))<|zWB (okB (geN _ _)) (λh1=>?_) (λh1=>?_)
 ·have h1p:=af0 h1;exact fT rfl (by unfold Ga;rw[dZ omT];rfl)
 have h1p:=aF h1;refine zM _ rfl (by refine⟨?_,?_,?_⟩<;>(first|exact aG _|decide|(apply FG.2;exact omT)))<|rV _ rfl<|rW _ rfl (Bo ((m.extract (lineOf agY) m.size).size) 16)<|zM (.v (.string ((m.extract (lineOf agY) m.size).extract 0 (min ((m.extract (lineOf agY) m.size).size) 16)))) rfl (by refine⟨?_,?_,?_⟩<;>(first|exact aG _|decide|(apply FG.2;exact omT))) ?_;exact fT rfl (by unfold Ga;rw[af1 omT,Rb omT];rfl)
def GQ(r)(s)(hr:∀k,r k<=4294967295)(hs:s.ok):bI C0 71 [.agg (Ks r),.agg (spL s)] (.agg (Ks (lY r s))):=by
 refine dIZ func71 rfl<|zV (vB (decide (s.rd>=1)))<|gS rfl id<|gBS rfl id rfl<|zN rfl (λh=>h)<|gS rfl id<|gBS rfl id rfl<|zN rfl (λh=>h)<|zB rfl (λh1=>?_) (λh1=>?_)
 ·have hA:(1<=s.rd∧s.rd<=31∧s.halt=0):=by have z:=h1;simp only[qA,aP,aY,pU,kI,bA,ne_eq]at z;omega
  refine nW _ rfl rfl omT<|Ow rfl rfl (aeH rfl rfl rfl omT) (trivial)<|qRF 0 rfl ?_;rw[show lY r s=setR r s.rd.toNat s.value from by unfold lY;rw[af1 hA]];exact dK rfl rcT rfl rfl
 have hA: ¬(1<=s.rd∧s.rd<=31∧s.halt=0):=by have z:=h1;simp only[qA,aP,aY,pU,kI,bA,ne_eq]at z;omega
 rw[show lY r s=r from by unfold lY;rw[dZ hA]];exact dK rfl rcT rfl rfl
abbrev aeF(o:Option Pt):AV:=.tup [.agg (ptL (o.getD ⟨0,oZ⟩)),vB o.isSome]
def LO(s)(hs:s.ok):bI C0 70 [.agg (spL s)] (aeF (iJ s)):=by
 refine dIZ func70 rfl<|gS rfl id<|gBS rfl id rfl<|zN rfl (by simp)<|gS rfl id<|gBS rfl id rfl<|zG rfl id<|gS rfl id<|gBS rfl id rfl<|pB rfl rfl rfl rfl (λh=>h) rfl rfl (λhg hc=>by first|(rw[hg,hc];rfl)|simp_all)<|zG rfl id<|gS rfl id<|gBS rfl id rfl<|pB rfl rfl rfl rfl (λh=>h) rfl rfl (λhg hc=>by first|(rw[hg,hc];rfl)|simp_all)<|zN rfl (by simp)<|zB rfl (λh1=>?_) (λh1=>?_)
 ·have hA:s.store=false∨s.halt≠0∨(s.size≠1∧s.size≠2∧s.size≠4):=by have z:=h1;simp only[qA,cOr,aP,dE,aY,pU,pX,qI,dP,kI,iC,mJ,ne_eq,and_imp]at z;rcases z with (z|z)|z<;>simp_all
  refine zV _ ?_;rw[show iJ s=none from by unfold iJ;rw[af1 hA]];exact fT rfl rfl
 have hA: ¬(s.store=false∨s.halt≠0∨(s.size≠1∧s.size≠2∧s.size≠4)):=by have z:=h1;intro q;rcases q with q|q|⟨q1,q2,q3⟩<;>simp_all[qA,cOr]
 obtain⟨n,hn⟩:∃n:Nat,s.size=(n:Int):=⟨s.size.toNat,oT⟩;have hn4:n<=4:=oT;refine zC (x:=.tup [.v _,vI 0]) ((by rw[hn];exact Nv s.value n (CI hs.value) hn4))<|zV _ ?_;rw[show iJ s=some ⟨s.agZ,oF s.value n⟩from by unfold iJ;rw[dZ hA,hn];rfl];exact fT rfl rfl
def QS(k):(if(0:Int)>k then 0 else k)=(((max k 0).toNat:Nat):Int):=by split<;>omega
def QT(c):(bZ c).agW.length<=64:=by unfold bZ;simp;omega
def OL(c):(bZ c).tape.length<=64:=by unfold bZ;simp;omega
def Iq{c:Cf}(h:∀x∈c.tape,x<=4294967295):∀x∈(bZ c).tape,x<=4294967295:=λx hx=>h x (cQ hx)
def QU{c}{k}{x}(h: ¬(bZ c).agW.length=0)(hx:(bZ c).agW[(max k 0).toNat%(bZ c).agW.length]?=some x):x=lX c k:=by
 unfold lX;generalize (bZ c).agW=l at h hx
 cases l with
 |nil=>exact absurd rfl h
 |cons y l=>simp only[aR,hx];rfl
def OM{c}{k}{x pc}(h: ¬(bZ c).tape.length=0)(hx:(bZ c).tape[(max k 0).toNat%(bZ c).tape.length]?=some x):x=yG c k pc:=by
 unfold yG;generalize (bZ c).tape=l at h hx
 cases l with
 |nil=>exact absurd rfl h
 |cons y l=>simp only[aR,hx];rfl
def Fa(c)(k)(hok:c.ok)(hk:k<=9223372036854775807):bI C0 112 [.agg (cfL c false false),vI k] (vI (lX c k)):=by
 refine dIZ func112 rfl<|zC (Eb c false false hok)<|rW _ rfl (cD ae4 ((bZ c).agW))<|zWB (okB (eqN _ _)) (λh1=>?_) (λh1=>?_)
 ·have h1p:=mT h1;have hz:(bZ c).agW=[]:=afC h1p;exact fT rfl (Ni (by unfold lX;rw[hz]))
 have h1p:=nA h1;have hml:=aQ (max k 0).toNat (eU h1p);refine zW _ (okI (QS k))<|rW _ rfl (cD ae4 ((bZ c).agW)) ?_;have b1:((max k 0).toNat)%(((bZ c).agW).length)<=9223372036854775807:=aL (gR _ _) omT;refine nW _ rfl (al8 (ZH _ _)) omT ?_;obtain⟨x1,hx1⟩:∃y_,((bZ c).agW)[(((max k 0).toNat)%(((bZ c).agW).length))]?=some y_:=⟨_,aA omT⟩;refine zX _ _ rfl (iH hx1) ?_;exact fT rfl (Ni (QU h1p hx1))
def QV(c)(k)(pc)(hok:c.ok)(hk:k<=9223372036854775807)(hpc:pc<=4294967295):bI C0 131 [.agg (cfL c false false),vI k,vU pc] (vU (yG c k pc)):=by
 refine dIZ func131 rfl<|zC (Eb c false false hok)<|rW _ rfl (cD dU ((bZ c).tape))<|zWB (okB (eqN _ _)) (λh1=>?_) (λh1=>?_)
 ·have h1p:=mT h1;have b1:(pc+4)%4294967296<=4294967295:=aI (aQ _ dT);refine zV _ ?_;have hz:(bZ c).tape=[]:=afC h1p;exact fT rfl (GW (by unfold yG;rw[hz];rfl))
 have h1p:=nA h1;have hml:=aQ (max k 0).toNat (eU h1p);refine zW _ (okI (QS k))<|rW _ rfl (cD dU ((bZ c).tape)) ?_;have b2:((max k 0).toNat)%(((bZ c).tape).length)<=9223372036854775807:=aL (gR _ _) omT;refine nW _ rfl (al8 (ZH _ _)) omT ?_;obtain⟨x1,hx1⟩:∃y_,((bZ c).tape)[(((max k 0).toNat)%(((bZ c).tape).length))]?=some y_:=⟨_,aA omT⟩;have hx1o:=(Iq hok.tp) x1 (aB hx1);refine zX _ _ rfl (iH hx1) ?_;exact fT rfl (GW (OM h1p hx1))
def afI(n lo hi):bI C0 101 [vI n,vI lo,vI hi] (vB (inI n lo hi)):=by
 refine dIZ func101 rfl<|zV (vB (decide (n>=lo)))<|gBS rfl hsT rfl<|zN rfl (λh=>h) ?_;exact fT rfl (dR (by rw[bB];simp[qA,cOr,inI]))
structure Cf.okW(c:Cf):Prop where
 agW:c.agW.length<=9223372036854775807
 tape:c.tape.length<=9223372036854775807
 tp:∀x∈c.tape,x<=4294967295
def DV{α}{p}{l:List α}{k}{x}(hx:l[k]?=some x)(hp:p x=true)(h:(l.take k).all p=true):(l.take (k+1)).all p=true:=by
 rw[bW,hx,List.all_append,h];simpa using hp
def Ir{α}{p}{l:List α}{k:Nat}{x}(hx:l[k]?=some x)(hp:p x=false):l.all p=false:=by
 rw[List.all_eq_false];exact⟨x,aB hx,by simp[hp]⟩
def DW{α}{p}{l:List α}{k}(hk:l.length<=k)(h:(l.take k).all p=true):l.all p=true:=by rwa [aN hk]at h
def Ug(c)(hok:c.okW):bI C0 43 [.agg (cfL c false false)] (vB (wA c)):=by
 refine dIZ func43 rfl<|zW _ (cD ae4 c.agW)<|zLo (λk=>⟨slotsF [(1,.ptr 0 0),(3,.clo 101 [] []),(7,.sl 1 (c.agW.map ae4) false),(8,vN c.agW.length),(9,vN k)],heapF [(0,.box [vI c.mode,vI c.agN,vI c.agI,vI c.queue,vI c.agF,vI c.agP,vI c.agJ,vI c.ways,.sl 1 (c.agW.map ae4) false,vB c.tables,.sl 1 (c.tape.map dU) false])],7⟩) (λk=>k<=c.agW.length∧(c.agW.take k).all (λn=>inI n 1 8)=true) (λk=>c.agW.length-k) 0 (λs=>s) (wOL (λs=>s) wT wH rfl) (⟨aE _,rfl⟩) ?_;intro k hk;have hkn:k<=c.agW.length:=hk.1;have hkB:k<=9223372036854775807:=oH hok.agW;have hlat:=hok.agW;refine zWB (okB (ltN _ _)) (λh1=>?_) (λh1=>?_)
 ·have h1p:=af0 h1;obtain⟨x,hx⟩:∃y_,c.agW[k]?=some y_:=⟨_,aA omT⟩;refine zX (ae4 x) (.dp 1 0 (ae4 x)) rfl (iH hx)<|zC (afI x 1 8)<|zB rfl (λh2=>?_) (λh2=>?_)
  ·have z:=h2;exact fT rfl (dR (by unfold wA;rw[Ir hx (sU z)];simp))
  skip
  have b1:k+1<=9223372036854775807:=oT;refine zW _ (okI (bH (oT:k+1<=9223372036854775807) rfl)) ?_;refine⟨k+1,λs=>s,wOL _ wT wH rfl,⟨oT,DV hx (sU h2) hk.2⟩,by show c.agW.length-(k+1)<c.agW.length-k;omega⟩
 have h1p:=aF h1;refine zC (afI c.mode 0 2)<|gS rfl id<|jQ rfl rfl rfl rfl hsT rfl rfl rfl (.inl rfl) rfl (λhg=>afI c.agN 1 2)<|zN rfl (λh=>h)<|gS rfl id<|jQ rfl rfl rfl rfl hsT rfl rfl rfl (.inl rfl) rfl (λhg=>afI c.agI 2 8)<|zN rfl (λh=>h)<|gS rfl id<|jQ rfl rfl rfl rfl hsT rfl rfl rfl (.inl rfl) rfl (λhg=>afI c.queue 1 4)<|zN rfl (λh=>h)<|gS rfl id<|jQ rfl rfl rfl rfl hsT rfl rfl rfl (.inl rfl) rfl (λhg=>afI c.agF 1 4)<|zN rfl (λh=>h)<|gS rfl id<|jQ rfl rfl rfl rfl hsT rfl rfl rfl (.inl rfl) rfl (λhg=>afI c.agP 2 6)<|zN rfl (λh=>h)<|gS rfl id<|jQ rfl rfl rfl rfl hsT rfl rfl rfl (.inl rfl) rfl (λhg=>afI c.agJ 1 4)<|zN rfl (λh=>h)<|gS rfl id<|gBS rfl id rfl<|zN rfl (λh=>h)<|gS rfl id<|jQ rfl rfl rfl rfl hsT rfl rfl rfl (.inl rfl) rfl (λhg=>afI c.ways 1 2)<|zN rfl (λh=>h)<|gS rfl id<|gBS rfl id (cD ae4 c.agW)<|gBS rfl id (okB (leN _ _))<|zN rfl (λh=>h)<|gS rfl id<|gBS rfl id (cD dU c.tape)<|gBS rfl id (okB (leN _ _))<|zN rfl (λh=>h) ?_;have hall:=DW omT hk.2;exact fT rfl (dR (by unfold wA;rw[hall,bB];simp[qA,uK]))
def ZC(c)(f)(hok:c.ok):bI C0 45 [.agg (caL c false),.agg (cfL f false false)] (vB (Ax c f)):=by
 refine dIZ func45 rfl<|zC (AW c false hok)<|gS rfl id<|zAS rfl id (cD bX c.agJ)<|gS rfl id<|gBS rfl hsT rfl<|zN rfl (λh=>h)<|zG rfl id<|gS rfl id<|gBS rfl hsT rfl<|zN rfl (λh=>h) ?_;exact fT rfl (dR (by rw[bB];simp[qA,cOr,Ax]))
abbrev brA(t:Ca×List Req×Bool):AV:=.tup [.agg (caL t.1 false),.sl 4 (t.2.1.map rqL) false,vB t.2.2]
abbrev dnA(t:List Pt×Ca×Bool):AV:=.tup [.sl 2 (t.1.map ptL) false,.agg (caL t.2.1 false),vB t.2.2]
def GR{c}(hok:c.ok)(agY)(d)(b):(qZ c agY d b).2.1.agY<=4294967295:=by
 by_cases hR:gG c=true
 ·by_cases hF:(bK c agY).2.isSome=true
  ·rw[Cn hF];exact aE _
  ·rw[AR hR (sU hF)];split
   ·show((pF c (bK c agY).1).getLast?.getD qE).agY<=_
    cases hl:(pF c (bK c agY).1).getLast? with
    |none=>exact aE _
    |some w=>
     have hw:=List.mem_of_getLast? hl;have hk:(bK c agY).1<c.agJ.length:=by rw[rI hR];exact AP (kJ hR).1 _
     rw[vA (aA hk)]at hw;exact((hok.set _ (jO hk)).2 w hw).agY
   ·exact aE _
 ·rw[Nh (sU hR)];exact aE _
def Nb(c)(q)(m)(agY)(left)(hok:c.ok)(hq:q.length<=900000)(ho:∀x∈q,x.ok)(hm:m.size<=1000000)(hline:agY<=4294967295):bI C0 111 [.agg (caL c false),.sl 4 (q.map rqL) false,.v (.string m),vU agY,vI left] (brA (iQ c q m agY left)):=by
 refine dJZ func111 rfl<|zC (AW c false hok)<|zB rfl (λh1=>?_) (λh1=>?_)
 ·rw[show iQ c q m agY left=(c,q,false)from by unfold iQ;rw[af1 (sU h1)]];exact fT rfl rfl
 refine zC (tN agY hline)<|zC (As c (lineOf agY) hok (dV hline))<|zB rfl (λh2=>?_) (λh2=>?_)
 ·refine zC (It c (lineOf agY) hok (dV hline)) ?_;rw[show iQ c q m agY left=(tO c (lineOf agY),q,false)from by unfold iQ;rw[dZ (sU h1),af1 h2]];exact fT rfl rfl
 refine zR<|zC (QZ q m false hm hq ho)<|zC (acG (jZ q m) (lineOf agY) (by unfold jZ;rw[iY];exact hm) (dV hline))<|zC (Re c (lineOf agY) (Ga (jZ q m) (lineOf agY)) false hok (dV hline))<|gS rfl id<|zN rfl (λh=>h)<|gS rfl id<|gBS rfl id rfl<|zN rfl (λh=>h)<|zB rfl (λh3=>?_) (λh3=>?_)
 ·have hq4:((qZ c (lineOf agY) (Ga (jZ q m) (lineOf agY)) false).2.2=true∧(qZ c (lineOf agY) (Ga (jZ q m) (lineOf agY)) false).2.1.agQ=true∧(qZ c (lineOf agY) (Ga (jZ q m) (lineOf agY)) false).2.1.data.size≠0):=by have z:=h3;rw[afR]at z;simpa [qA,uK]using z
  refine zR<|zC (Ng q 4 (qZ c (lineOf agY) (Ga (jZ q m) (lineOf agY)) false).2.1.agY left (qZ c (lineOf agY) (Ga (jZ q m) (lineOf agY)) false).2.1.data false hq ho (GR hok _ _ _)) ?_;rw[show iQ c q m agY left=((qZ c (lineOf agY) (Ga (jZ q m) (lineOf agY)) false).1,Bi q 4 (qZ c (lineOf agY) (Ga (jZ q m) (lineOf agY)) false).2.1.agY left (qZ c (lineOf agY) (Ga (jZ q m) (lineOf agY)) false).2.1.data,true)from by unfold iQ;rw[dZ (sU h1),dZ (by rw[h2];decide)];exact af1 hq4];exact fT rfl rfl
 have hq4: ¬((qZ c (lineOf agY) (Ga (jZ q m) (lineOf agY)) false).2.2=true∧(qZ c (lineOf agY) (Ga (jZ q m) (lineOf agY)) false).2.1.agQ=true∧(qZ c (lineOf agY) (Ga (jZ q m) (lineOf agY)) false).2.1.data.size≠0):=by have z:=h3;rw[afR]at z;simpa [qA,uK]using z
 rw[show iQ c q m agY left=((qZ c (lineOf agY) (Ga (jZ q m) (lineOf agY)) false).1,q,false)from by unfold iQ;rw[dZ (sU h1),dZ (by rw[h2];decide)];exact dZ hq4];exact fT rfl rfl
def ZD(l)(c)(hok:c.ok)(hl:l.length<=1000000)(ho:∀x∈l,x.ok):bI C0 84 [.sl 2 (l.map ptL) false,.agg (caL c false)] (dnA (sL l c)):=by
 refine dJZ func84 rfl<|rW _ rfl (cD ptL l)<|zW (vB (l.length==0)) (okB (eqN _ _))<|zB rfl (λh1=>?_) (λh1=>?_)
 ·have h1p:=mT h1;refine pO rfl rfl<|oR 3 rfl<|rSt rfl<|oR 1 rfl<|rE 12<|And.intro (by kernel_rfl)<|qXF 0 rfl ?_;have hz:l=[]:=afC h1p;subst hz;exact fT rfl rfl
 have h1p:=nA h1;refine cRg<|oR 2 rfl ?_;obtain⟨p,hp⟩:∃y_,l[0]?=some y_:=⟨_,aA omT⟩;have hpo:=ho p (aB hp);refine FO _ rfl rfl rfl (⟨dT,iH hp⟩) rfl<|oR 3 rfl<|FO _ rfl rfl rfl (⟨dT,iH hp⟩) rfl<|oR 2 rfl<|rCi rfl (Um c p.agZ p.data hok hpo.agZ)<|oR 3 rfl<|rAl 20 rfl rfl<|rSt rfl<|oR 1 rfl<|rE 23<|qXC 0 rfl<|zB rfl (λh2=>?_) (λh2=>?_)
 ·refine pO rfl rfl<|oR 3 rfl<|rSt rfl<|oR 1 rfl<|rE 30<|And.intro (by kernel_rfl)<|qXF 0 rfl ?_;rw[show sL l c=(l,c,false)from by unfold sL;cases l with|nil=>cases hp|cons y l=>injection hp with hp;subst hp;exact dZ (sU h2)];exact fT rfl rfl
 refine pO rfl rfl<|oR 1 rfl<|nW _ rfl (yB (Kr ptL l 1)) slT<|oR 2 rfl<|rSt rfl<|oR 1 rfl<|rE 31<|And.intro (by kernel_rfl)<|qXF 0 rfl ?_;rw[show sL l c=(l.drop 1,(xL c p.agZ p.data).1,true)from by unfold sL;cases l with|nil=>cases hp|cons y l=>injection hp with hp;subst hp;exact af1 (sU h2)];exact fT rfl rfl
structure Gu.ok(g:Gu):Prop where
 agP:g.agP.length<=9223372036854775807
 rets:g.rets.length<=9223372036854775807
 ag2:g.ag2<=4294967295
 so:∀x∈g.agP,x.ok
 ro:∀x∈g.rets,x<=4294967295
def XM{g}:sM g=true↔g.agP.length=8∧g.ag2<8∧g.rets.length<=4:=by
 unfold sM;simp only[aP,aY,uK]
def aaG{r}{k}(h:cE (!r) true (k != 5)=false):r=true∧k=5:=by
 cases r<;>simp[cE]at h⊢;exact h
def VR{r}{k}(h:cE (!r) true (k != 5)=true): ¬(r=true∧k=5):=by
 cases r<;>simp[cE]at h⊢;exact h
def UP{l:List Nat}{x}(h:l[l.length-1]?=some x):l.getLast?.getD 0=x:=by rw[oX,h];rfl
def IZ(g)(hok:g.ok):bI C0 46 [.agg (guL g)] (vB (sM g)):=by
 refine dIZ func46 rfl<|rW _ rfl (cD gsL g.agP)<|zW _ (okB (eqN _ _))<|gS rfl id<|gBS rfl id (okB (ltN _ _))<|zN rfl (λh=>h)<|gS rfl id<|gBS rfl id (cD dU g.rets)<|gBS rfl id (okB (leN _ _))<|zN rfl (λh=>h) ?_;exact fT rfl (dR (by rw[bB];simp[qA,cOr,sM]))
def RG(g)(pc)(hok:g.ok)(hpc:pc<=4294967295):bI C0 116 [.agg (guL g),vU pc] (vN (gO g pc)):=by
 refine dIZ func116 rfl ?_;have b1:pc/4<=1073741823:=eG hpc;refine zM _ (al8 (nJ b1 rfl)) dT ?_;refine rW _ rfl (okI (YR b1 hok.ag2 rfl rfl)) ?_;have b3:((pc/4)^^^g.ag2)%8<=7:=aI (aQ _ dT);refine nW _ rfl rfl dT<|zW _ (okI (bH b3 rfl)) ?_;exact fT rfl (abR rfl)
def KH(g)(pc):gO g pc<=7:=by unfold gO;omega
def RH(i)(hi:i.agR<=4294967295):bI C0 117 [siA i] (vB (Ro i)):=by
 refine dIZ func117 rfl<|zV (vB (i.op==3))<|gS rfl id<|gBS rfl id rfl<|zN rfl (by simp)<|gS rfl id<|gBS rfl id rfl<|zN rfl (λh=>h) ?_;exact fT rfl (dR (by rw[bB];simp[qA,cOr,Ro]))
def apA(i)(hi:i.agR<=4294967295):bI C0 118 [siA i] (vB (Gb i)):=by
 refine dIZ func118 rfl<|zV (vB (i.op==4))<|gS rfl id<|gBS rfl id rfl<|zN rfl (λh=>h)<|gS rfl id<|gBS rfl id rfl<|zN rfl (λh=>h) ?_;exact fT rfl (dR (by rw[bB];simp[qA,cOr,Gb]))
def RJ(g)(pc)(i)(hok:g.ok)(hpc:pc<=4294967295)(hi:i.agR<=4294967295):bI C0 130 [.agg (guL g),vU pc,siA i] (vU (xC g pc i)):=by
 refine dJZ func130 rfl<|zC (IZ g hok)<|jQ rfl rfl rfl rfl (λh=>h) rfl rfl rfl (.inl rfl) rfl (λhg=>pS i)<|gBS rfl id (okB (neN _ _))<|zN rfl (by simp)<|zB rfl (λh1=>?_) (λh1=>?_)
 ·have hN:=VR h1;have b1:(pc+4)%4294967296<=4294967295:=aI (aQ _ dT);refine zV (vU ((pc+4)%4294967296)) ?_;exact fT rfl (GW (by unfold xC;rw[dZ hN];rfl))
 have hR:=aaG h1;have hR1:=XM.1 hR.1;have hR2:=hR1.1;have hS:=KH g pc;have hR3:=hR1.2.2;refine zW _ (cD dU g.rets)<|zC (apA i hi)<|gBS rfl id (okB (gtN _ _))<|zN rfl (λh=>h)<|zB rfl (λh2=>?_) (λh2=>?_)
 ·have hB:Gb i=true∧0<g.rets.length:=by simpa [qA]using h2
  have hB2:=hB.2;have b2:g.rets.length-1<=9223372036854775807:=aL (jT _ _) hok.rets;refine rW _ rfl (okI (DA omT hok.rets rfl)) ?_;obtain⟨rx,hrx⟩:∃y_,g.rets[(g.rets.length-1)]?=some y_:=⟨_,aA omT⟩;have hrxo:=hok.ro rx (aB hrx);refine zX (dU rx) (.dp 1 0 (dU rx)) rfl (iH hrx) ?_;exact fT rfl (GW (by unfold xC;rw[af1 hR,af1 hB,UP hrx]))
 have hB: ¬(Gb i=true∧0<g.rets.length):=by simpa [qA]using h2
 refine zR<|zC (RG g pc hok hpc) ?_;obtain⟨sx,hsx⟩:∃y_,g.agP[(gO g pc)]?=some y_:=⟨_,aA omT⟩;have hsxo:=hok.so sx (aB hsx);refine zX (gsL sx) (.dp 2 0 (gsL sx)) rfl (iH hsx)<|zW _ (okB (eqN _ _))<|gB rfl rfl<|gBS rfl hsT rfl<|zN rfl (λh=>h)<|zB rfl (λh3=>?_) (λh3=>?_)
 all_goals
  first|(skip;have b3:(pc+4)%4294967296<=4294967295:=aI (aQ _ dT);refine zV (vU ((pc+4)%4294967296)) ?_)|skip
  exact fT rfl (GW (by unfold xC;rw[af1 hR,dZ hB];have z:=h3;simp[qA]at z;simp[hsx,up4,z]<;>(intros;simp_all)))
def AZ(g)(pc next)(i)(hok:g.ok)(hpc:pc<=4294967295)(hnext:next<=4294967295)(hi:i.agR<=4294967295):bI C0 72 [.agg (guL g),vU pc,vU next,siA i] (.agg (guL (fM g pc next i))):=by
 refine dJZ func72 rfl<|zC (IZ g hok)<|jQ (x:=vN (kindOf i.op)) (g:= !(!(sM g))) rfl rfl rfl rfl (λh=>h) rfl rfl rfl (.inl rfl) rfl (λhg=>pS i)<|gBS rfl id (okB (neN _ _))<|zN rfl (by simp)<|zB rfl (λh1=>?_) (λh1=>?_)
 ·have hN:=VR h1;refine dK rfl tvT rfl ?_;show AV.agg [.sl 2 (g.agP.map gsL) false,vU g.ag2,.sl 1 (g.rets.map dU) false]=_;refine af2 (λz=>AV.agg (guL z)) (?_:g=fM g pc next i);unfold fM;rw[dZ hN]
 have hR:=aaG h1;have hR1:=XM.1 hR.1;have hR2:=hR1.1;have hS:=KH g pc;have hR3:=hR1.2.2;refine zF (x:=.osl 11 0 8 false) (h':=upd _ 11 (some (.arr ((List.replicate 8 (⟨0,0⟩:Gs)).map gsL) 2))) (Ri (fH (f:=gsL) (a:=(⟨0,0⟩:Gs))).symm) (⟨dT,dT,by show((8:Nat):Int)<=1000000;omega⟩)<|zF (x:=vI ((min ((g.agP.map gsL).length) (8):Nat):Int)) (h':=upd _ 11 (some (.arr (g.agP.map gsL) 2))) (II (DX gsL ((List.replicate 8 (⟨0,0⟩:Gs)).map gsL) g.agP omT omT)) (⟨by exact omT,trivial⟩)<|zC (RG g pc hok hpc)<|rV (.agg [vU pc,vU next]) rfl<|nW (.ptr2 11 (0+(gO g pc)) 0) rfl rfl ixT ?_;obtain⟨sx,hsx⟩:∃y_,g.agP[(gO g pc)]?=some y_:=⟨_,aA omT⟩;have hsxo:=hok.so sx (aB hsx);have hx1:(g.agP.set (gO g pc) (⟨pc,next⟩:Gs))[(gO g pc)]?=some (⟨pc,next⟩:Gs):=aZ omT;refine nM (gsL sx) (h':=upd _ 11 (some (.arr ((g.agP.set (gO g pc) (⟨pc,next⟩:Gs)).map gsL) 2))) rfl rfl rfl (⟨aG _,Jv (iH hsx)⟩) (vX (f:=gsL) (l:=g.agP) (k:=(gO g pc)) (x:=(⟨pc,next⟩:Gs))) ?_;have b1:(2*g.ag2)%4294967296<=4294967295:=aI (aQ _ dT);refine qR 0 rfl<|zV (vU ((2*g.ag2)%4294967296)) ?_;have b2:(pc+4)%4294967296<=4294967295:=aI (aQ _ dT);refine rV (vU ((pc+4)%4294967296)) rfl<|zW (vB (next != ((pc+4)%4294967296))) (okB (neN _ _))<|zB rfl (λh2=>?_) (λh2=>?_)
 ·have h2p:=wM h2;have b3:(((2*g.ag2)%4294967296)+1)%4294967296<=4294967295:=aI (aQ _ dT);refine zV (vU ((((2*g.ag2)%4294967296)+1)%4294967296))<|zF (x:=.osl 37 0 0 false) (h':=upd _ 37 (some (.arr (([]:List Nat).map dU) 1))) (rfl) (⟨dT,dT,by show((5:Nat):Int)<=1000000;omega⟩)<|zF (x:=.osl 42 0 g.rets.length false) (h':=upd (upd _ 37 none) 42 (some (.arr (g.rets.map dU) 1))) (iP dU ([]:List Nat) g.rets omT omT) (⟨by exact omT,by exact omT,trivial⟩)<|zV (vN g.rets.length)<|zC (RH i hi)<|zB rfl (λh3=>?_) (λh3=>?_)
  ·skip
   have b4:(pc+4)%4294967296<=4294967295:=aI (aQ _ dT);refine rV (vU ((pc+4)%4294967296)) rfl<|rV (.sl 1 ([[vU ((pc+4)%4294967296)]]) true) rfl<|zF (x:=.osl 54 0 (g.rets.length+1) false) (h':=upd (upd _ 42 none) 54 (some (.arr ((g.rets++([(pc+4)%4294967296])).map dU) 1))) (iP dU g.rets ([(pc+4)%4294967296]) omT omT) (⟨by exact omT,by exact omT,trivial⟩)<|rV (vN (g.rets.length+1)) rfl<|zW (vB (decide ((g.rets.length+1)>4))) (okB (gtN _ _))<|zB rfl (λh4=>?_) (λh4=>?_)
   ·have h4p:=af0 h4;refine zM (.osl 54 1 (g.rets.length+1-1) false) (LR (by first|rfl|omega) (by simp only[Option.getD];omega)) slT ?_;have b5:((((2*g.ag2)%4294967296)+1)%4294967296)%8<=7:=aI (aQ _ dT);refine zM (vU (((((2*g.ag2)%4294967296)+1)%4294967296)%8)) rfl dT<|zV (.agg [.osl 11 0 8 false,vU (((((2*g.ag2)%4294967296)+1)%4294967296)%8),.osl 54 1 (g.rets.length+1-1) false])<|dK rfl ⟨(by show 0+8<=((g.agP.set (gO g pc) (⟨pc,next⟩:Gs)).map gsL).length;exact omT),trivial,(by show 1+(g.rets.length+1-1)<=((g.rets++([(pc+4)%4294967296])).map dU).length;exact omT),trivial⟩ rfl ?_;show AV.agg [.sl 2 (List.take 8 (List.drop 0 ((g.agP.set (gO g pc) (⟨pc,next⟩:Gs)).map gsL))) false,vU (((((2*g.ag2)%4294967296)+1)%4294967296)%8),.sl 1 (List.take (g.rets.length+1-1) (List.drop 1 ((g.rets++([(pc+4)%4294967296])).map dU))) false]=_;rw[jW gsL (g.agP.set (gO g pc) (⟨pc,next⟩:Gs)) omT,Cp (M:=(g.rets++([(pc+4)%4294967296])).drop 1) dU (g.rets++([(pc+4)%4294967296])) (aN omT)];refine af2 (λz=>AV.agg (guL z)) (?_:(⟨g.agP.set (gO g pc) (⟨pc,next⟩:Gs),((((2*g.ag2)%4294967296)+1)%4294967296)%8,(g.rets++([(pc+4)%4294967296])).drop 1⟩:Gu)=fM g pc next i);unfold fM;rw[af1 hR];have z:=h2;have z0:=h3;have z1:=h4;have hu:up4 pc=(pc+4)%4294967296:=rfl;rw[hu]
    try simp[qA]at z z0 z1
    simp[z,z0,z1,afE]<;>(intros;first|omega|simp_all)
   have h4p:=aF h4;have b6:((((2*g.ag2)%4294967296)+1)%4294967296)%8<=7:=aI (aQ _ dT);refine zM (vU (((((2*g.ag2)%4294967296)+1)%4294967296)%8)) rfl dT<|zV (.agg [.osl 11 0 8 false,vU (((((2*g.ag2)%4294967296)+1)%4294967296)%8),.osl 54 0 (g.rets.length+1) false])<|dK rfl ⟨(by show 0+8<=((g.agP.set (gO g pc) (⟨pc,next⟩:Gs)).map gsL).length;exact omT),trivial,(by show 0+(g.rets.length+1)<=((g.rets++([(pc+4)%4294967296])).map dU).length;exact omT),trivial⟩ rfl ?_;show AV.agg [.sl 2 (List.take 8 (List.drop 0 ((g.agP.set (gO g pc) (⟨pc,next⟩:Gs)).map gsL))) false,vU (((((2*g.ag2)%4294967296)+1)%4294967296)%8),.sl 1 (List.take (g.rets.length+1) (List.drop 0 ((g.rets++([(pc+4)%4294967296])).map dU))) false]=_;rw[jW gsL (g.agP.set (gO g pc) (⟨pc,next⟩:Gs)) omT,jW dU (g.rets++([(pc+4)%4294967296])) omT];refine af2 (λz=>AV.agg (guL z)) (?_:(⟨g.agP.set (gO g pc) (⟨pc,next⟩:Gs),((((2*g.ag2)%4294967296)+1)%4294967296)%8,g.rets++([(pc+4)%4294967296])⟩:Gu)=fM g pc next i);unfold fM;rw[af1 hR];have z:=h2;have z0:=h3;have z1:=h4;have hu:up4 pc=(pc+4)%4294967296:=rfl;rw[hu]
   try simp[qA]at z z0 z1
   simp[z,z0,z1,afE]<;>(intros;first|omega|simp_all)
  refine zC (apA i hi)<|gBS rfl id (okB (gtN _ _))<|zN rfl (λh=>h)<|zB rfl (λh5=>?_) (λh5=>?_)
  ·have hB:Gb i=true∧0<g.rets.length:=by simpa [qA]using h5
   have hB2:=hB.2;have b7:g.rets.length-1<=9223372036854775807:=aL (jT _ _) hok.rets;refine rW (vN (g.rets.length-1)) rfl (okI (DA omT hok.rets rfl))<|zM (.osl 42 0 (g.rets.length-1) false) (LR (by first|rfl|omega) (by simp only[Option.getD];omega)) slT ?_;have b8:((((2*g.ag2)%4294967296)+1)%4294967296)%8<=7:=aI (aQ _ dT);refine zM (vU (((((2*g.ag2)%4294967296)+1)%4294967296)%8)) rfl dT<|zV (.agg [.osl 11 0 8 false,vU (((((2*g.ag2)%4294967296)+1)%4294967296)%8),.osl 42 0 (g.rets.length-1) false])<|dK rfl ⟨(by show 0+8<=((g.agP.set (gO g pc) (⟨pc,next⟩:Gs)).map gsL).length;exact omT),trivial,(by show 0+(g.rets.length-1)<=(g.rets.map dU).length;exact omT),trivial⟩ rfl ?_;show AV.agg [.sl 2 (List.take 8 (List.drop 0 ((g.agP.set (gO g pc) (⟨pc,next⟩:Gs)).map gsL))) false,vU (((((2*g.ag2)%4294967296)+1)%4294967296)%8),.sl 1 (List.take (g.rets.length-1) (List.drop 0 (g.rets.map dU))) false]=_;rw[jW gsL (g.agP.set (gO g pc) (⟨pc,next⟩:Gs)) omT,Cp (M:=g.rets.take (g.rets.length-1)) dU g.rets (by rw[bS])];refine af2 (λz=>AV.agg (guL z)) (?_:(⟨g.agP.set (gO g pc) (⟨pc,next⟩:Gs),((((2*g.ag2)%4294967296)+1)%4294967296)%8,g.rets.take (g.rets.length-1)⟩:Gu)=fM g pc next i);unfold fM;rw[af1 hR];have z:=h2;have z0:=h3;have z1:=h5;have hu:up4 pc=(pc+4)%4294967296:=rfl;rw[hu]
   try simp[qA]at z z0 z1
   simp[z,z0,z1,afE]<;>(intros;first|omega|simp_all)
  have hB: ¬(Gb i=true∧0<g.rets.length):=by simpa [qA]using h5
  have b9:((((2*g.ag2)%4294967296)+1)%4294967296)%8<=7:=aI (aQ _ dT);refine zM (vU (((((2*g.ag2)%4294967296)+1)%4294967296)%8)) rfl dT<|zV (.agg [.osl 11 0 8 false,vU (((((2*g.ag2)%4294967296)+1)%4294967296)%8),.osl 42 0 g.rets.length false])<|dK rfl ⟨(by show 0+8<=((g.agP.set (gO g pc) (⟨pc,next⟩:Gs)).map gsL).length;exact omT),trivial,(by show 0+g.rets.length<=(g.rets.map dU).length;exact omT),trivial⟩ rfl ?_;show AV.agg [.sl 2 (List.take 8 (List.drop 0 ((g.agP.set (gO g pc) (⟨pc,next⟩:Gs)).map gsL))) false,vU (((((2*g.ag2)%4294967296)+1)%4294967296)%8),.sl 1 (List.take g.rets.length (List.drop 0 (g.rets.map dU))) false]=_;rw[jW gsL (g.agP.set (gO g pc) (⟨pc,next⟩:Gs)) omT,jW dU g.rets omT];refine af2 (λz=>AV.agg (guL z)) (?_:(⟨g.agP.set (gO g pc) (⟨pc,next⟩:Gs),((((2*g.ag2)%4294967296)+1)%4294967296)%8,g.rets⟩:Gu)=fM g pc next i);unfold fM;rw[af1 hR];have z:=h2;have z0:=h3;have z1:=h5;have hu:up4 pc=(pc+4)%4294967296:=rfl;rw[hu]
  try simp[qA]at z z0 z1
  simp[z,z0,z1,afE]<;>(intros;first|omega|simp_all)
 have h2p:=wN h2;refine zF (x:=.osl 34 0 0 false) (h':=upd _ 34 (some (.arr (([]:List Nat).map dU) 1))) (rfl) (⟨dT,dT,by show((5:Nat):Int)<=1000000;omega⟩)<|zF (x:=.osl 39 0 g.rets.length false) (h':=upd (upd _ 34 none) 39 (some (.arr (g.rets.map dU) 1))) (iP dU ([]:List Nat) g.rets omT omT) (⟨by exact omT,by exact omT,trivial⟩)<|zV (vN g.rets.length)<|zC (RH i hi)<|zB rfl (λh6=>?_) (λh6=>?_)
 ·skip
  have b10:(pc+4)%4294967296<=4294967295:=aI (aQ _ dT);refine rV (vU ((pc+4)%4294967296)) rfl<|rV (.sl 1 ([[vU ((pc+4)%4294967296)]]) true) rfl<|zF (x:=.osl 51 0 (g.rets.length+1) false) (h':=upd (upd _ 39 none) 51 (some (.arr ((g.rets++([(pc+4)%4294967296])).map dU) 1))) (iP dU g.rets ([(pc+4)%4294967296]) omT omT) (⟨by exact omT,by exact omT,trivial⟩)<|rV (vN (g.rets.length+1)) rfl<|zW (vB (decide ((g.rets.length+1)>4))) (okB (gtN _ _))<|zB rfl (λh7=>?_) (λh7=>?_)
  ·have h7p:=af0 h7;refine zM (.osl 51 1 (g.rets.length+1-1) false) (LR (by first|rfl|omega) (by simp only[Option.getD];omega)) slT ?_;have b11:((2*g.ag2)%4294967296)%8<=7:=aI (aQ _ dT);refine zM (vU (((2*g.ag2)%4294967296)%8)) rfl dT<|zV (.agg [.osl 11 0 8 false,vU (((2*g.ag2)%4294967296)%8),.osl 51 1 (g.rets.length+1-1) false])<|dK rfl ⟨(by show 0+8<=((g.agP.set (gO g pc) (⟨pc,next⟩:Gs)).map gsL).length;exact omT),trivial,(by show 1+(g.rets.length+1-1)<=((g.rets++([(pc+4)%4294967296])).map dU).length;exact omT),trivial⟩ rfl ?_;show AV.agg [.sl 2 (List.take 8 (List.drop 0 ((g.agP.set (gO g pc) (⟨pc,next⟩:Gs)).map gsL))) false,vU (((2*g.ag2)%4294967296)%8),.sl 1 (List.take (g.rets.length+1-1) (List.drop 1 ((g.rets++([(pc+4)%4294967296])).map dU))) false]=_;rw[jW gsL (g.agP.set (gO g pc) (⟨pc,next⟩:Gs)) omT,Cp (M:=(g.rets++([(pc+4)%4294967296])).drop 1) dU (g.rets++([(pc+4)%4294967296])) (aN omT)];refine af2 (λz=>AV.agg (guL z)) (?_:(⟨g.agP.set (gO g pc) (⟨pc,next⟩:Gs),((2*g.ag2)%4294967296)%8,(g.rets++([(pc+4)%4294967296])).drop 1⟩:Gu)=fM g pc next i);unfold fM;rw[af1 hR];have z:=h2;have z0:=h6;have z1:=h7;have hu:up4 pc=(pc+4)%4294967296:=rfl;rw[hu]
   try simp[qA]at z z0 z1
   simp[z,z0,z1,afE]<;>(intros;first|omega|simp_all)
  have h7p:=aF h7;have b12:((2*g.ag2)%4294967296)%8<=7:=aI (aQ _ dT);refine zM (vU (((2*g.ag2)%4294967296)%8)) rfl dT<|zV (.agg [.osl 11 0 8 false,vU (((2*g.ag2)%4294967296)%8),.osl 51 0 (g.rets.length+1) false])<|dK rfl ⟨(by show 0+8<=((g.agP.set (gO g pc) (⟨pc,next⟩:Gs)).map gsL).length;exact omT),trivial,(by show 0+(g.rets.length+1)<=((g.rets++([(pc+4)%4294967296])).map dU).length;exact omT),trivial⟩ rfl ?_;show AV.agg [.sl 2 (List.take 8 (List.drop 0 ((g.agP.set (gO g pc) (⟨pc,next⟩:Gs)).map gsL))) false,vU (((2*g.ag2)%4294967296)%8),.sl 1 (List.take (g.rets.length+1) (List.drop 0 ((g.rets++([(pc+4)%4294967296])).map dU))) false]=_;rw[jW gsL (g.agP.set (gO g pc) (⟨pc,next⟩:Gs)) omT,jW dU (g.rets++([(pc+4)%4294967296])) omT];refine af2 (λz=>AV.agg (guL z)) (?_:(⟨g.agP.set (gO g pc) (⟨pc,next⟩:Gs),((2*g.ag2)%4294967296)%8,g.rets++([(pc+4)%4294967296])⟩:Gu)=fM g pc next i);unfold fM;rw[af1 hR];have z:=h2;have z0:=h6;have z1:=h7;have hu:up4 pc=(pc+4)%4294967296:=rfl;rw[hu]
  try simp[qA]at z z0 z1
  simp[z,z0,z1,afE]<;>(intros;first|omega|simp_all)
 refine zC (apA i hi)<|gBS rfl id (okB (gtN _ _))<|zN rfl (λh=>h)<|zB rfl (λh8=>?_) (λh8=>?_)
 ·have hB:Gb i=true∧0<g.rets.length:=by simpa [qA]using h8
  have hB2:=hB.2;have b13:g.rets.length-1<=9223372036854775807:=aL (jT _ _) hok.rets;refine rW (vN (g.rets.length-1)) rfl (okI (DA omT hok.rets rfl))<|zM (.osl 39 0 (g.rets.length-1) false) (LR (by first|rfl|omega) (by simp only[Option.getD];omega)) slT ?_;have b14:((2*g.ag2)%4294967296)%8<=7:=aI (aQ _ dT);refine zM (vU (((2*g.ag2)%4294967296)%8)) rfl dT<|zV (.agg [.osl 11 0 8 false,vU (((2*g.ag2)%4294967296)%8),.osl 39 0 (g.rets.length-1) false])<|dK rfl ⟨(by show 0+8<=((g.agP.set (gO g pc) (⟨pc,next⟩:Gs)).map gsL).length;exact omT),trivial,(by show 0+(g.rets.length-1)<=(g.rets.map dU).length;exact omT),trivial⟩ rfl ?_;show AV.agg [.sl 2 (List.take 8 (List.drop 0 ((g.agP.set (gO g pc) (⟨pc,next⟩:Gs)).map gsL))) false,vU (((2*g.ag2)%4294967296)%8),.sl 1 (List.take (g.rets.length-1) (List.drop 0 (g.rets.map dU))) false]=_;rw[jW gsL (g.agP.set (gO g pc) (⟨pc,next⟩:Gs)) omT,Cp (M:=g.rets.take (g.rets.length-1)) dU g.rets (by rw[bS])];refine af2 (λz=>AV.agg (guL z)) (?_:(⟨g.agP.set (gO g pc) (⟨pc,next⟩:Gs),((2*g.ag2)%4294967296)%8,g.rets.take (g.rets.length-1)⟩:Gu)=fM g pc next i);unfold fM;rw[af1 hR];have z:=h2;have z0:=h6;have z1:=h8;have hu:up4 pc=(pc+4)%4294967296:=rfl;rw[hu]
  try simp[qA]at z z0 z1
  simp[z,z0,z1,afE]<;>(intros;first|omega|simp_all)
 have hB: ¬(Gb i=true∧0<g.rets.length):=by simpa [qA]using h8
 have b15:((2*g.ag2)%4294967296)%8<=7:=aI (aQ _ dT);refine zM (vU (((2*g.ag2)%4294967296)%8)) rfl dT<|zV (.agg [.osl 11 0 8 false,vU (((2*g.ag2)%4294967296)%8),.osl 39 0 g.rets.length false])<|dK rfl ⟨(by show 0+8<=((g.agP.set (gO g pc) (⟨pc,next⟩:Gs)).map gsL).length;exact omT),trivial,(by show 0+g.rets.length<=(g.rets.map dU).length;exact omT),trivial⟩ rfl ?_;show AV.agg [.sl 2 (List.take 8 (List.drop 0 ((g.agP.set (gO g pc) (⟨pc,next⟩:Gs)).map gsL))) false,vU (((2*g.ag2)%4294967296)%8),.sl 1 (List.take g.rets.length (List.drop 0 (g.rets.map dU))) false]=_;rw[jW gsL (g.agP.set (gO g pc) (⟨pc,next⟩:Gs)) omT,jW dU g.rets omT];refine af2 (λz=>AV.agg (guL z)) (?_:(⟨g.agP.set (gO g pc) (⟨pc,next⟩:Gs),((2*g.ag2)%4294967296)%8,g.rets⟩:Gu)=fM g pc next i);unfold fM;rw[af1 hR];have z:=h2;have z0:=h6;have z1:=h8;have hu:up4 pc=(pc+4)%4294967296:=rfl;rw[hu]
 try simp[qA]at z z0 z1
 simp[z,z0,z1,afE]<;>(intros;first|omega|simp_all)
def MZ(i):Xq i=true↔okE ⟨i.op,i.rd,i.ag0,i.ag1,i.agR⟩:=by
 unfold Xq okE;simp only[aP,aY];obtain⟨op,rd,ag0,ag1,agR⟩:=i;constructor
 ·rintro⟨⟨⟨⟨⟨⟨h1,h2⟩,h3⟩,h4⟩,h5⟩,h6⟩,h7⟩;refine⟨h1,h2,?_⟩;generalize xW op _=r at h3 h4 h5 h6 h7⊢;obtain⟨a,b,c,d,e⟩:=r;simp only at h3 h4 h5 h6 h7;subst h3 h4 h5 h6 h7;rfl
 rintro⟨h1,h2,h3⟩;simp only at h3;refine⟨⟨⟨⟨⟨⟨h1,h2⟩,?_⟩,?_⟩,?_⟩,?_⟩,?_⟩<;>rw[h3]
def Xg(i)(hi:i.agR<4294967296):bI C0 145 [siA i] (.tup [.v (.int .u32 ((if Xq i=true then Jw ⟨i.op,i.rd,i.ag0,i.ag1,i.agR⟩else 0:Nat):Int)),.v (.int .i64 (if Xq i=true then 0 else 1))]):=by
 by_cases h:Xq i=true
 ·rw[af1 h,af1 h];exact .of_tupG func145 rfl rfl rfl rfl λS w hG=>RD Df i.op i.rd i.ag0 i.ag1 i.agR w (Db hG) hi ((MZ i).1 h)
 rw[dZ h,dZ h];exact .of_tupG func145 rfl rfl rfl rfl λS w hG=>RE Df i.op i.rd i.ag0 i.ag1 i.agR w (Db hG) hi (λq=>h ((MZ i).2 q))
def Xh(e)(he:e.ok):bI C0 102 [.agg (enL e)] (vB (xJ e)):=by
 refine dIZ func102 rfl<|zV (vB (decide (e.is<0)))<|gS rfl id<|gBS rfl id rfl<|zN rfl (by simp)<|zB rfl (λh1=>?_) (λh1=>?_)
 ·replace h1:=sP h1;exact fT rfl (dR (by unfold xJ;grind [qA,cOr]))
 refine zV (vB (e.is==1))<|gS rfl id<|gBS rfl id rfl<|zN rfl (λh=>h)<|gS rfl id<|zG rfl id<|gS rfl id<|gBS rfl id rfl<|pB rfl rfl rfl rfl (λh=>h) rfl rfl (λhg hc=>by first|(rw[hg,hc];rfl)|simp_all)<|zN rfl (by simp)<|zB rfl (λh2=>?_) (λh2=>?_)
 ·replace h1:=sP h1;replace h2:=sP h2;exact fT rfl (dR (by unfold xJ;grind [qA,cOr]))
 refine zC (pS e.i)<|zV (vB (e.is==2))<|gBS rfl id (okB (neN _ _))<|zG rfl id<|gS rfl id<|gS rfl id<|pB rfl rfl rfl rfl (λh=>h) rfl rfl (λhg hc=>by first|(rw[hg,hc];rfl)|simp_all)<|zN rfl (λh=>h)<|zB rfl (λh3=>?_) (λh3=>?_)
 ·replace h1:=sP h1;replace h2:=sP h2;replace h3:=sP h3;exact fT rfl (dR (by unfold xJ;grind [qA,cOr]))
 refine zV (vB (e.halt != 0))<|gS rfl id<|gBS rfl id rfl<|zN rfl (λh=>h)<|zG rfl id<|gBS rfl id (okB (eqN _ _))<|pB rfl rfl rfl rfl (λh=>h) rfl rfl (λhg hc=>by first|(rw[hg,hc];rfl)|simp_all)<|zG rfl id<|gS rfl id<|gBS rfl id rfl<|pB rfl rfl rfl rfl (λh=>h) rfl rfl (λhg hc=>by first|(rw[hg,hc];rfl)|simp_all)<|gS rfl id<|zN rfl (λh=>h)<|zB rfl (λh4=>?_) (λh4=>?_)
 ·replace h1:=sP h1;replace h2:=sP h2;replace h3:=sP h3;replace h4:=sP h4;exact fT rfl (dR (by unfold xJ;grind [qA,cOr]))
 refine zC (Xg e.i (CI he.agR))<|zW _ rfl<|zB rfl (λh5=>?_) (λh5=>?_)
 all_goals
  first|(refine zV _ ?_;refine gS rfl id ?_;refine gBS rfl id rfl ?_;refine zN rfl (by simp) ?_)|skip
  replace h1:=sP h1;replace h2:=sP h2;replace h3:=sP h3;replace h4:=sP h4;replace h5:=sP h5;exact fT rfl (dR (by unfold xJ;grind [qA,cOr]))
def QO{α}{p:α->Bool}{l:List α}{k}{x}(hx:l[k]?=some x)(hn:p x=false)(h:∀y∈l.take k,p y=false):∀y∈l.take (k+1),p y=false:=by
 intro y hy;rw[bW,hx]at hy;rcases al_List_mem_append.1 hy with hy|hy
 ·exact h y hy
 simp at hy;subst hy;exact hn
def QP{α}{p}{l:List α}{k}{x}(hx:l[k]?=some x)(hp:p x=true)(h:∀y∈l.take k,p y=false):l.findIdx? p=some k:=by
 rw[List.findIdx?_eq_some_iff_getElem];obtain⟨hk,rfl⟩:=Em.1 hx;refine⟨hk,hp,λj hj=>?_⟩;have:=h _ (aB (by rw[cU,af1 hj,aA omT]));simp[this]
def Xi{α}{p}{l:List α}{k}(hk:l.length<=k)(h:∀y∈l.take k,p y=false):l.findIdx? p=none:=by
 rw[aN hk]at h;rw[List.findIdx?_eq_none_iff];exact h
def QQ{α:Type}{p:α->Bool}{l:List α}:∀y∈l.take 0,p y=false:=λy hy=>by simp at hy
def QR(agI)(ck)(hl:agI.length<=1000000)(ho:∀x∈agI,x.ok):bI C0 67 [.sl 17 (agI.map enL) ck] (vI (DM (yD agI))):=by
 refine dJZ func67 rfl<|zW _ (cD enL agI)<|zLo (λk=>⟨slotsF [(5,.sl 17 _ ck),(6,vN agI.length),(7,vN k)],heapF [],4⟩) (λk=>k<=agI.length∧∀y∈agI.take k,Nj y=false) (λk=>agI.length-k) 0 (λs=>s) (wOL (λs=>s) wT trivial rfl) (⟨aE _,QQ⟩) ?_;intro k hk;have hkn:k<=agI.length:=hk.1;have hkB:k<=1000000:=oT;refine zWB (okB (ltN _ _)) (λh1=>?_) (λh1=>?_)
 ·have h1p:=af0 h1;obtain⟨x,hx⟩:∃y_,agI[k]?=some y_:=⟨_,aA omT⟩;have hxo:=ho x (aB hx);refine zX _ (.dp 17 0 (enL x)) rfl (iH hx)<|rCi rfl (pS x.i)<|zW _ (okB (eqN _ _))<|gS rfl id<|zN rfl (λh=>h)<|zG rfl id<|gS rfl id<|gBS rfl hsT (okB (neN _ _))<|zN rfl (λh=>h)<|zB rfl (λh2=>?_) (λh2=>?_)
  ·exact fT rfl (Ni (by unfold yD;rw[QP hx (by simpa [Nj,qA,uK]using h2) hk.2];rfl))
  skip
  have b1:k+1<=1000001:=aD hkB (aC 1);refine zW _ (okI (bH b1 rfl)) ?_;refine⟨k+1,λs=>s,wOL _ wT trivial rfl,⟨oT,QO hx (by have z:=h2;unfold Nj;simp only[qA]at z;grind) hk.2⟩,by show agI.length-(k+1)<agI.length-k;omega⟩
 have h1p:=aF h1;exact fT rfl (Ni (by unfold yD;rw[Xi omT hk.2];rfl))
def Xj{f}{k}(hp:f k=true)(h:(List.range k).all f=true):(List.range (k+1)).all f=true:=by
 rw[gZ,List.all_append,h];simpa using hp
def ZB{f}{k n}(hk:k<n)(hp:f k=false):(List.range n).all f=false:=by
 rw[List.all_eq_false];exact⟨k,lI.2 hk,by simp[hp]⟩
def Uf{agI:List Ent}{k}(hg:decide (k>0)=true)(hk:k<agI.length)(hl:agI.length<=1000):0<=IntKind.wrap .i64 ((k:Int)-1)∧(agI.map enL)[(IntKind.wrap .i64 ((k:Int)-1)).toNat]?=some (enL ((agI[k-1]?).getD Cs)):=by
 have h0:=af0 hg;rw[show IntKind.wrap .i64 _=((k-1:Nat):Int)from by rw[wrap_i64 omT omT];omega];refine⟨aG _,?_⟩;show(agI.map enL)[k-1]?=_;rw[aX,aA (oT:k-1<agI.length)];rfl
def Na{agI}{k}{x}(hx:agI[k]?=some x):IB agI k=((k==0||decide (((agI[k-1]?).getD Cs).no<x.no))&&xJ x):=by
 unfold IB ZI;rw[hx];have hk:=(Em.1 hx).1;rw[aA (oT:k-1<agI.length)];rfl
def Xk(agI)(ck)(hl:agI.length<=9223372036854775807)(ho:∀x∈agI,x.ok):bI C0 44 [.sl 17 (agI.map enL) ck] (vB (Ff agI)):=by
 refine dJZ func44 rfl<|rW (vN agI.length) rfl (cD enL agI)<|zW (vB (decide (agI.length>8))) (okB (gtN _ _))<|zB rfl (λh1=>?_) (λh1=>?_)
 ·have h1p:=af0 h1;exact fT rfl (dR (by unfold Ff;rw[sW omT];rfl))
 have h1p:=aF h1;refine zW (vN agI.length) (cD enL agI)<|zLo (λk=>⟨slotsF [(0,.sl 17 (agI.map enL) ck),(7,vB (decide (agI.length>8))),(8,.sl 17 (agI.map enL) ck),(9,vN agI.length),(10,vN k)],heapF [],7⟩) (λk=>k<=agI.length∧(List.range k).all (IB agI)=true) (λk=>agI.length-k) 0 (λs=>s) (wOL (λs=>s) wT trivial rfl) (⟨aE _,rfl⟩) ?_;intro k hk;have hkn:k<=agI.length:=hk.1;have hkB:k<=1000000:=oT;refine zW (vB (decide (k<agI.length))) (okB (ltN _ _))<|zB rfl (λh2=>?_) (λh2=>?_)
 ·have h2p:=af0 h2;obtain⟨x,hx⟩:∃y_,agI[k]?=some y_:=⟨_,aA omT⟩;have hxo:=ho x (aB hx);refine zX (enL x) (.dp 17 0 (enL x)) rfl (iH hx)<|cRg<|oR 1 rfl<|rW (vB (decide (k>0))) rfl (okB (gtN _ _))<|oR 1 rfl<|gN rfl<|gN rfl<|gBS rfl id rfl<|DK (enL ((agI[k-1]?).getD Cs)) rfl rfl rfl rfl hsT rfl rfl (λhg=>Uf hg omT omT) rfl<|gS rfl id<|gS rfl id<|gN rfl<|gS rfl id<|gBS rfl hsT rfl<|bO rfl rfl rfl (λh=>h)<|oR 1 rfl<|gN rfl<|jQ rfl rfl rfl rfl (λh=>h) rfl rfl rfl (.inl rfl) rfl (λhg=>Xh x hxo)<|gS rfl id<|bO rfl rfl rfl (by simp)<|rE 32<|qXC 0 rfl<|zB rfl (λh3=>?_) (λh3=>?_)
  ·exact fT rfl (dR (by unfold Ff;rw[ZB omT (by rw[Na hx];have z:=h3;simp only[qA,cOr]at z;grind)];simp))
  skip
  have b1:k+1<=9223372036854775807:=oT;refine zW (vN (k+1)) (okI (bH (oT:k+1<=9223372036854775807) rfl)) ?_;refine⟨k+1,λs=>s,wOL _ wT trivial rfl,⟨oT,Xj (by rw[Na hx];have z:=h3;simp only[qA,cOr]at z;grind) hk.2⟩,by show agI.length-(k+1)<agI.length-k;omega⟩
 have h2p:=aF h2;have hkk:k=agI.length:=oT;have hall:=hk.2;rw[hkk]at hall;exact fT rfl (dR (by unfold Ff;rw[hall,jP omT];rfl))
def aeE(R:List Ent)(lo n i)(cl)(hR:lo+n<=R.length)(hRl:R.length<=900000)(hi:i<n)(ho:∀x∈R,x.ok):pM C0.P C0.G 68 [.osl 0 lo n cl,vN i] (heapF [(0,.arr (R.map enL) 17)]) 1 (λx h'=>x=.osl 1 0 (i+1) false∧h'=heapF [(0,.arr (R.map enL) 17),(1,.arr ((DY ((R.drop lo).take n) i).map enL) 17)]):=by
 refine hZ 1 func68 rfl<|zW _ (okB (ltN _ _))<|gBS rfl id rfl<|gBS rfl hsT rfl<|zN rfl (by simp)<|zB rfl (λh1=>by simp[cOr]at h1;omega) (λ_=>?_);refine nW (.ptr2 0 (lo+i) 0) rfl rfl ixT ?_;obtain⟨x,hx⟩:∃y_,R[lo+i]?=some y_:=⟨_,aA omT⟩;refine zX (enL x) (.agg (enL x)) rfl (iH hx)<|zR<|zM _ (LR (by first|rfl|omega) (by simp only[Option.getD];omega)) (by refine⟨?_,?_,?_,?_⟩;all_goals (first|exact aG _|decide|(apply FG.2;exact omT)|rfl))<|zV (.sl 17 ([[vI x.no,vU x.pc,vI x.i.op,vI x.i.rd,vI x.i.ag0,vI x.i.ag1,vU x.i.agR,vU x.next,vI x.is,vI x.left,vU x.value,vU x.next,vU x.agZ,vI x.halt,vI x.agV,vB x.known,vB x.agU]]) true)<|zF (x:=.osl 26 0 (i+1) false) (h':=upd _ 26 (some (.arr ((((R.drop lo).take i)++([(⟨x.no,x.pc,⟨x.i.op,x.i.rd,x.i.ag0,x.i.ag1,x.i.agR⟩,x.next,x.is,x.left,x.value,x.next,x.agZ,x.halt,x.agV,x.known,x.agU⟩:Ent)])).map enL) 17))) (Uo enL R ([(⟨x.no,x.pc,⟨x.i.op,x.i.rd,x.i.ag0,x.i.ag1,x.i.agR⟩,x.next,x.is,x.left,x.value,x.next,x.agZ,x.halt,x.agV,x.known,x.agU⟩:Ent)]) (by simp only[aM,bD,bN,cX];omega)) (⟨by simp only[aM,bD,aH,bN,cX,jH];omega,by exact omT,(by show lo+i<=(R.map enL).length;exact omT),trivial⟩) ?_;have e:((R.drop lo).take i)++([(⟨x.no,x.pc,⟨x.i.op,x.i.rd,x.i.ag0,x.i.ag1,x.i.agR⟩,x.next,x.is,x.left,x.value,x.next,x.agZ,x.halt,x.agV,x.known,x.agU⟩:Ent)])=DY ((R.drop lo).take n) i:=by unfold DY;rw[show((R.drop lo).take n)[i]?=some x from by rw[cU,af1 hi,cL];exact hx];simp only[List.take_take];rw[kD omT]
 refine BH rfl ⟨rfl,rfl⟩ rfl (af8 (λz=>match z with|1=>26|z=>z) rfl rfl ⟨⟨rfl,rfl,rfl⟩,⟨rfl,?_,rfl⟩,trivial⟩ rfl);show some (Blk.arr ((((R.drop lo).take i)++([(⟨x.no,x.pc,⟨x.i.op,x.i.rd,x.i.ag0,x.i.ag1,x.i.agR⟩,x.next,x.is,x.left,x.value,x.next,x.agZ,x.halt,x.agV,x.known,x.agU⟩:Ent)])).map enL) 17)=some (Blk.arr ((DY ((R.drop lo).take n) i).map enL) 17);rw[e]
def LN{prog}(hp:∀x∈prog,x<=4294967295)(pc):fetchW prog pc<=4294967295:=by
 unfold fetchW fetchP;split
 ·cases h:prog[pc/4]? with
  |none=>exact aE _
  |some x=>exact hp x (aB h)
 ·exact aE _
def FV{b:Bool}(h:(!b)=true):b=false:=sU h
def sI{b}(h:(!b)=false): ¬b=false:=by cases b<;>simp_all
def Cl(x):decE x=0↔ ¬opOf x=0:=by unfold decE;split<;>simp_all
abbrev mcX(c:Co)(R F S T:AV):List AV:=[vI c.agL.mode,vI c.agL.agN,vI c.agL.agI,vI c.agL.queue,vI c.agL.agF,vI c.agL.agP,vI c.agL.agJ,vI c.agL.ways,.sl 1 (c.agL.agW.map ae4) false,vB c.agL.tables,.sl 1 (c.agL.tape.map dU) false,.sl 1 (c.prog.map dU) false,vI c.cycle,vU (c.r 0),vU (c.r 1),vU (c.r 2),vU (c.r 3),vU (c.r 4),vU (c.r 5),vU (c.r 6),vU (c.r 7),vU (c.r 8),vU (c.r 9),vU (c.r 10),vU (c.r 11),vU (c.r 12),vU (c.r 13),vU (c.r 14),vU (c.r 15),vU (c.r 16),vU (c.r 17),vU (c.r 18),vU (c.r 19),vU (c.r 20),vU (c.r 21),vU (c.r 22),vU (c.r 23),vU (c.r 24),vU (c.r 25),vU (c.r 26),vU (c.r 27),vU (c.r 28),vU (c.r 29),vU (c.r 30),vU (c.r 31),vU c.agM,vB c.stop,F,R,vI c.next,S,vI c.data.ways,.sl 1 (c.data.agJ.map bX) false,vI c.agO.ways,.sl 1 (c.agO.agJ.map bX) false,.sl 4 (c.agS.map rqL) false,vI c.asked,vI c.agT,.v (.string c.mem),.sl 2 (c.agK.agP.map gsL) false,vU c.agK.ag2,.sl 1 (c.agK.rets.map dU) false,vI c.halt,T]
structure Co.ok(c:Co)(n:Nat):Prop where
 agL:c.agL.okW
 prog:c.prog.length<=9223372036854775807
 progo:∀x∈c.prog,x<=4294967295
 r:∀k,c.r k<=4294967295
 agM:c.agM<=4294967295
 fet:c.agH.length<=9223372036854775807
 feto:∀x∈c.agH,x.ok
 agI:c.agI.length<=9223372036854775807
 agX:∀x∈c.agI,x.ok
 sto:c.agF.length<=9223372036854775807
 stoo:∀x∈c.agF,x.ok
 data:c.data.ok
 agO:c.agO.ok
 agS:c.agS.length<=n
 buso:∀x∈c.agS,x.ok
 asked:c.asked<=9223372036854775807
 agT:c.agT<=9223372036854775807
 mem:c.mem.size<=1000000
 agK:c.agK.ok
 ret:c.agG.length<=n
 reto:∀x∈c.agG,x.ok
def Ip(c)(n)(hok:c.ok n)(hnb:n<=890000):bI C0 10 [.agg (coL c)] (vB (jF c)):=by
 refine dJZ func10 rfl<|zR<|zC (Ug c.agL hok.agL)<|zG rfl id<|zAS rfl id (cD dU c.prog)<|zAS rfl id (okB (gtN _ _))<|zN rfl (by simp)<|zG rfl id<|zG rfl id<|zQ rfl (λh=>h) rfl (.inl rfl) (λhg=>KF c.mem)<|zAS rfl hsT rfl<|zN rfl (by simp)<|zB rfl (λh1=>?_) (λh1=>?_)
 ·exact fT rfl (dR (by unfold jF;have q0:=h1;simp only[qA,cOr]at q0;rw[bB];simp only[aP,aY,cS,pI];grind))
 refine zC (Xk c.agI false hok.agI hok.agX)<|gS rfl id<|zAS rfl id (cD enL c.agI)<|gS rfl id<|gS rfl id<|gBS rfl hsT rfl<|zN rfl (by simp)<|zB rfl (λh2=>?_) (λh2=>?_)
 ·exact fT rfl (dR (by unfold jF;have q0:=h1;have q1:=h2;simp only[qA,cOr]at q0 q1;rw[bB];simp only[aP,aY,cS,pI];grind))
 refine zW _ (cD enL c.agI)<|zLo (κ:=Nat) (λk=>⟨slotsF [(1,.ptr 0 0),(24,vB (cE (cE (!(wA c.agL)) true (decide (c.prog.length>64))) true (!(c.mem.toList==(jB c.mem).toList)))),(37,vB (cE (!(Ff c.agI)) true (decide (((c.agI.length:Nat):Int)>c.agL.agI)))),(39,.sl 17 (c.agI.map enL) false),(40,vN c.agI.length),(41,vN k)],heapF [(0,.box (coL c))],37⟩) (λk=>k<=c.agI.length∧(c.agI.take k).all (λe=>decide (e.no<c.next))=true) (λk=>c.agI.length-k) 0 (λs=>s) (wOL (λs=>s) wT wH rfl) (⟨aE _,rfl⟩) ?_;intro k hk;have hkn:k<=c.agI.length:=hk.1;have hkB:k<=9223372036854775807:=oH hok.agI;have hrl:=hok.agI;refine zWB (okB (ltN _ _)) (λh3=>?_) (λh3=>?_)
 ·have h3p:=af0 h3;obtain⟨x,hx⟩:∃y_,c.agI[k]?=some y_:=⟨_,aA omT⟩;have hxo:=hok.agX x (aB hx);refine zX (enL x) (.dp 17 0 (enL x)) rfl (iH hx)<|zVB (decide (x.no>=c.next)) (λh4=>?_) (λh4=>?_)
  ·have h4p:=af0 h4;exact fT rfl (dR (by unfold jF;have q0:=h1;have q1:=h2;have q3:=h4;simp only[qA,cOr]at q0 q1;have hz:=Ir (p:=λe:Ent=>decide (e.no<c.next)) hx (by have z:=h4;simpa using z);rw[bB];simp only[aP,aY,cS,pI];grind))
  have h4p:=aF h4;have b1:k+1<=9223372036854775807:=oT;refine zW _ (okI (bH (oT:k+1<=9223372036854775807) rfl)) ?_;refine⟨k+1,λs=>s,wOL _ wT wH rfl,⟨oT,DV hx (by have z:=h4;simpa using z) hk.2⟩,by show c.agI.length-(k+1)<c.agI.length-k;omega⟩
 have h3p:=aF h3;refine zC (ZC c.data c.agL hok.data)<|zG rfl id<|gS rfl id<|jQ rfl rfl rfl rfl hsT rfl rfl rfl (.inl rfl) rfl (λhg=>ZC c.agO c.agL hok.agO)<|gS rfl id<|zN rfl (by simp)<|gS rfl id<|jQ rfl rfl rfl rfl (λh=>h) rfl rfl rfl (.inl rfl) rfl (λhg=>IZ c.agK hok.agK)<|gS rfl id<|zN rfl (by simp)<|zB rfl (λh5=>?_) (λh5=>?_)
 ·exact fT rfl (dR (by unfold jF;have q0:=h1;have q1:=h2;have q3:=h5;simp only[qA,cOr]at q0 q1 q3;rw[bB];simp only[aP,aY,cS,pI];grind))
 refine zW _ (cD ftL c.agH)<|zV (vB (decide (((c.agH.length:Nat):Int)>c.agL.queue)))<|gS rfl id<|zAS rfl id (cD ptL c.agF)<|gS rfl id<|gS rfl id<|gBS rfl hsT rfl<|zN rfl (by simp)<|zB rfl (λh6=>?_) (λh6=>?_)
 ·exact fT rfl (dR (by unfold jF;have q0:=h1;have q1:=h2;have q3:=h5;have q4:=h6;simp only[qA,cOr]at q0 q1 q3 q4;rw[bB];simp only[aP,aY,cS,pI];grind))
 refine zW _ (cD ptL c.agF)<|zLo (κ:=Nat) (λj=>⟨slotsF [(1,.ptr 0 0),(24,vB (cE (cE (!(wA c.agL)) true (decide (c.prog.length>64))) true (!(c.mem.toList==(jB c.mem).toList)))),(37,vB (cE (!(Ff c.agI)) true (decide (((c.agI.length:Nat):Int)>c.agL.agI)))),(42,vB (decide (k<c.agI.length))),(70,vB (cE (cE (!(Ax c.data c.agL)) true (!(Ax c.agO c.agL))) true (!(sM c.agK)))),(86,vB (cE (decide (((c.agH.length:Nat):Int)>c.agL.queue)) true (decide (((c.agF.length:Nat):Int)>c.agL.agF)))),(88,.sl 2 (c.agF.map ptL) false),(89,vN c.agF.length),(90,vN j)],heapF [(0,.box (coL c))],78⟩) (λj=>j<=c.agF.length∧(c.agF.take j).all (λp=>kZ (c.mem.size:Int) p.agZ (p.data.size:Int))=true) (λj=>c.agF.length-j) 0 (λs=>s) (wOL (λs=>s) wT wH rfl) (⟨aE _,rfl⟩) ?_;intro j hj;have hjn:j<=c.agF.length:=hj.1;have hjB:j<=9223372036854775807:=oH hok.sto;have hsl:=hok.sto;refine zWB (okB (ltN _ _)) (λh7=>?_) (λh7=>?_)
 ·have h7p:=af0 h7;obtain⟨p,hp⟩:∃y_,c.agF[j]?=some y_:=⟨_,aA omT⟩;have hpo:=hok.stoo p (aB hp);refine zX (ptL p) (.dp 2 0 (ptL p)) rfl (iH hp)<|zV (vN c.mem.size)<|rV (vN p.data.size) rfl<|zC (GY (c.mem.size:Int) p.agZ (p.data.size:Int) (oH hok.mem) (CI hpo.agZ))<|zB rfl (λh8=>?_) (λh8=>?_)
  ·exact fT rfl (dR (by unfold jF;have q0:=h1;have q1:=h2;have q3:=h5;have q4:=h6;have q6:=h8;simp only[qA,cOr]at q0 q1 q3 q4;have hz:=Ir (p:=λp:Pt=>kZ (c.mem.size:Int) p.agZ (p.data.size:Int)) hp (by have z:=h8;simpa using z);rw[bB];simp only[aP,aY,cS,pI];grind))
  skip
  have b2:j+1<=9223372036854775807:=oT;refine zW _ (okI (bH (oT:j+1<=9223372036854775807) rfl)) ?_;refine⟨j+1,λs=>s,wOL _ wT wH rfl,⟨oT,DV hp (by have z:=h8;simpa using z) hj.2⟩,by show c.agF.length-(j+1)<c.agF.length-j;omega⟩
 have h7p:=aF h7;have hz1:=DW omT hk.2;have hz2:=DW omT hj.2;exact fT rfl (dR (by unfold jF;have q0:=h1;have q1:=h2;have q3:=h5;have q4:=h6;simp only[qA,cOr]at q0 q1 q3 q4;rw[bB];simp only[aP,aY,true_iff];grind))
end Go.Proofs.YtlpkggpdjobpmaaGreatDoor
