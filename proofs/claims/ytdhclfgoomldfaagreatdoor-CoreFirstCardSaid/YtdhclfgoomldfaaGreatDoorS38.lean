/- Lemmas. -/
import Derived.Test.YtdhclfgoomldfaaGreatDoorS1
import Derived.Test.YtdhclfgoomldfaaGreatDoorS37
set_option linter.all false
namespace Go.Proofs.YtdhclfgoomldfaaGreatDoor
open Go.RowKit
def gb(m:ByteArray)(i:Nat):Option UInt8:=m.data[i]?
def dd(p:Pt)(i:Nat):Option UInt8:=if p.V<=i then gb p.data (i-p.V)else none
def fl(l:List Pt)(i:Nat):Option UInt8:=l.foldl (λo p=>(dd p i).or o) none
def j2{m:ByteArray}{i:Nat}(h:m.size<=i):gb m i=none:=iE h
def mq{a b}(d:a.size=b.size)(h:∀i,i<a.size->gb a i=gb b i):a=b:=by
 refine ByteArray.ext (Array.ext_getElem? λi=>?_);by_cases c:i<a.size
 ·exact h i c
 exact(j2 ad).trans (j2 ad).symm
def ot(a b)(i):gb (a++b) i=if i<a.size then gb a i else gb b (i-a.size):=by
 unfold gb;rw[ByteArray.data_append,Array.getElem?_append];rfl
def j3(m)(a b i):gb (m.extract a b) i=if i<min b m.size-a then gb m (a+i)else none:=by
 unfold gb;rw[ByteArray.data_extract,mQ];rfl
def v5(m)(p)(i)(d:i<m.size):gb (BE m p) i=(dd p i).or (gb m i):=by
 unfold BE dd;by_cases h:p.V<m.size
 ·rw[aa h,ot,ot,j3,j3,j3];simp only[kH,dA];by_cases a:p.V<=i
  ·rw[aa a];by_cases b:i-p.V<p.data.size
   ·rw[aa ad,dZ ad,aa ad,(oT:0+(i-(min p.V m.size-0))=i-p.V)];have:∃x,gb p.data _=some x:=⟨p.data.data[i-p.V],aT b⟩;let⟨x,c⟩:=this;rw[c];rfl
   rw[dZ ad,aa ad,(oT:p.V+min p.data.size _+(i-(min p.V m.size-0+(min _ p.data.size-0)))=i)];rw[j2 (i:=i-p.V) ad];rfl
  rw[dZ a,aa ad,aa ad,aa ad,(oT:0+i=i)];rfl
 rw[dZ h,dZ ad];rfl
def vp(l)(i):∀o,l.foldl (λo p=>(dd p i).or o) o=(fl l i).or o:=by
 induction l with
 |nil=>intro o;rfl
 |cons p l ih=>
  intro o;show l.foldl _ ((dd p i).or o)=(l.foldl _ ((dd p i).or none)).or o;rw[ih,ih _,Option.or_assoc];cases dd p i<;>rfl
def lS(p)(l)(i):fl (p::l) i=(fl l i).or (dd p i):=by
 show l.foldl _ ((dd p i).or none)=_;rw[vp];cases dd p i<;>rfl
def qn(a b)(i):fl (a++b) i=(fl b i).or (fl a i):=by
 unfold fl;rw[List.foldl_append];exact vp b i _
def mm(l)(i):∀m,i<m.size->gb (rP m l) i=(fl l i).or (gb m i):=by
 induction l with
 |nil=>intro m _;rfl
 |cons p l ih=>
  intro m a;show gb (rP (BE m p) l) i=_;rw[ih _ (by rw[Kn];exact a),v5 m p i a,lS,Option.or_assoc]
def qq{l}{i}(h:∀p∈l,dd p i=none):fl l i=none:=by
 induction l with
 |nil=>rfl
 |cons p l ih=>rw[lS,ih (λq a=>h q (bY _ a)),h p b9];rfl
def G'{l}{i}{v}(h:∀p∈l,dd p i=none∨dd p i=v)(c:∃p∈l,dd p i=v):fl l i=v:=by
 induction l with
 |nil=>let⟨p,hp,_⟩:=c;exact absurd hp List.not_mem_nil
 | cons p l ih=>
  rw[lS];by_cases b:∃q∈l,dd q i=v
  ·rw[ih (λq a=>h q (bY _ a)) b];rcases h p b9 with e|e
   ·rw[e];cases v<;>rfl
   ·rw[e];cases v<;>rfl
  ·rw[qq (λq a=>(h q (bY _ a)).resolve_right λe=>b ⟨q,a,e⟩)];let⟨q,a,e⟩:=c;rcases dk.1 a with e2|e2
   ·subst e2;exact e
   ·exact absurd ⟨q,e2,e⟩ b
def ck(c:Ca)(w:Wy):Prop:=w∈c.L.flatten
def jo{c}(h:cd c){w}:ck c w↔w∈pF c (w.R/16%c.L.length):=by
 unfold ck;constructor
 ·intro a;let⟨s,e,d⟩:=List.mem_flatten.1 a;obtain⟨k,b,rfl⟩:=fY e;rwa[((h.set k _ (aA b)).ZK w d).set,vA (aA b)]
 ·intro a;unfold pF at a
  cases b:c.L[w.R/16%c.L.length]? with
  |none=>rw[b]at a;exact absurd a List.not_mem_nil
  |some s=>rw[b]at a;exact List.mem_flatten.2 ⟨s,aB b,a⟩
def ow{c}(h:cd c){w}(e:ck c w):ss c.L.length (w.R/16%c.L.length) w:=by
 let⟨s,d,b⟩:=List.mem_flatten.1 e;obtain⟨k,a,rfl⟩:=fY d;have g:=(h.set k _ (aA a)).ZK w b;rwa[g.set]
def F4{l:List Wy}(h:(l.map (·.R)).Nodup){w v}(b:w∈l)(a:v∈l)(e:w.R=v.R):w=v:=by
 induction l with
 |nil=>exact absurd b List.not_mem_nil
 | cons x l ih=>
  rw[jC,List.nodup_cons]at h;rcases dk.1 b with h1|h1
  ·rcases dk.1 a with h2|h2
   ·rw[h1,h2]
   ·exact absurd (pG.2 ⟨v,h2,by rw[<-e,h1]⟩) h.1
  ·rcases dk.1 a with h2|h2
   ·exact absurd (pG.2 ⟨w,h1,by rw[e,h2]⟩) h.1
   ·exact ih h.2 h1 h2
def qz{c}(h:cd c){w v}(f:ck c w)(d:ck c v)(e:w.R=v.R):w=v:=by
 have a:=(jo h).1 d;rw[<-e]at a;have b:0<c.L.length:=oH h.L;exact F4 (h.at (aQ _ b)).one ((jo h).1 f) a e
def oy{c}(h:cd c){k}(g:k<c.L.length)(s){w}:ck (rK c k s) w↔w∈s∨(ck c w∧w.R/16%c.L.length≠k):=by
 show w∈(c.L.set k s).flatten↔_;rw[List.mem_flatten];constructor
 ·rintro⟨t,i,b⟩;let⟨j,a,e⟩:=fY i;rw[List.getElem_set]at e;split at e
  ·subst e;exact .inl b
  rename_i d;rw[cC]at a;subst e;refine .inr ⟨List.mem_flatten.2 ⟨_,jO a,b⟩,?_⟩;rw[((h.set j _ (aA a)).ZK w b).set];exact λz=>d z.symm
 rintro(b|⟨l,d⟩)
 ·exact⟨s,List.mem_set g s,b⟩
 have f:=(jo h).1 l;have a:w.R/16%c.L.length<c.L.length:=aQ _ ad;rw[vA (aA a)]at f;exact⟨_,List.mem_iff_getElem?.2 ⟨w.R/16%c.L.length,by rw[kX (λz=>d z.symm)];exact aA a⟩,f⟩
def Hc{p}{i}(b:p.V%16=0)(a:p.data.size=0∨p.data.size=16):dd p i=if p.V=ab i then gb p.data (i%16)else none:=by
 unfold dd ab;by_cases h:p.V=i-i%16
 ·rw[aa h,aa ad,(oT:i-p.V=i%16)]
 rw[dZ h];split
 ·exact j2 ad
 rfl
def fq(c:Ca)(i:Nat):Option UInt8:=fl (LV c) i
def mo{c}(h:cd c){w}(a:ck c w)(i):dd ⟨w.R,w.data⟩ i=if w.R=ab i then gb w.data (i%16)else none:=by
 have g:=ow h a;have:=g.R;exact Hc (by show w.R%16=0;unfold ab at this;omega) g.data
def j1{c}(h:cd c){w}(a:ck c w){i}(e:w.R=ab i):fq c i=gb w.data (i%16):=by
 refine G' (λp hp=>?_) ⟨⟨w.R,w.data⟩,pG.2 ⟨w,a,rfl⟩,by rw[mo h a,aa e]⟩;obtain⟨v,b,rfl⟩:=pG.1 hp;rw[mo h b];split
 ·rename_i d;rw[qz h b a (d.trans e.symm)];exact .inr rfl
 exact .inl rfl
def om{c}(h:cd c){i}(b:∀w,ck c w->w.R≠ab i):fq c i=none:=by
 refine qq λp hp=>?_;obtain⟨v,a,rfl⟩:=pG.1 hp;rw[mo h a,dZ (b v a)]
def m7{c d}(h:cd c)(k:cd d){i}(e:∀w,w.R=ab i->(ck d w->∃v,ck c v∧v.R=w.R∧v.data=w.data)∧(ck c w->∃v,ck d v∧v.R=w.R∧v.data=w.data)):fq d i=fq c i:=by
 by_cases j:∃w,ck c w∧w.R=ab i
 ·let⟨w,b,a⟩:=j;let⟨v,g,f,l⟩:=(e w a).2 b;rw[j1 h b a,j1 k g (f.trans a),l]
 rw[om h λw b a=>j ⟨w,b,a⟩,om k λw b a=>?_];let⟨v,g,f,_⟩:=(e w a).1 b;exact j ⟨v,g,f.trans a⟩
def ou{c}(h:cd c)(agY){w}:ck (tO c agY) w↔ck c w:=by
 by_cases a:(bK c agY).2.isSome=true
 ·rw[Dw a];have ff:=pR a;rw[oy h ff.2.2.1,(EV ff.2.2.2).mem_iff];constructor
  ·rintro(h1|h1)
   ·rwa[jo h,((h.at ff.2.2.1).ZK w h1).set]
   exact h1.1
  intro b;by_cases e:w.R/16%c.L.length=(bK c agY).1
  ·exact .inl (by rw[<-e];exact(jo h).1 b)
  exact .inr ⟨b,e⟩
 rw[Dx (sU a)]
def qt{c}(h:cd c){agY}(b:(bK c agY).2.isSome=false){w}(f:ck c w):w.R≠ab agY:=by
 rw[rI (agY:=agY) (hK.1 h).1]at b;have e:jY _ _=none:=sU b;intro d;have a:=(jo h).1 f;rw[d]at a;exact QC.1 e w a d
def mu{c}(h:cd c){agY}(d:(bK c agY).2.isSome=true):∃w,(pF c (bK c agY).1)[(bK c agY).2.getD 0]?=some w∧ck c w∧w.R=ab agY:=by
 have ff:=pR d;refine⟨_,aA ff.2.2.2,?_,?_⟩
 ·have g:=jO ff.2.2.2;rwa[jo h,((h.at ff.2.2.1).ZK _ g).set]
 ·have e:=rI (agY:=agY) (hK.1 h).1;have hp:∀(l:List Wy) (x j:Nat) _,jY l x=some j->l[j].R=x:=by
   intro l
   induction l with
   |nil=>intro x j a;exact absurd a (dG _)
   | cons y l ih=>
    intro x j a q;unfold jY at q;by_cases b:y.R=x
    ·rw[aa b]at q;injection q with q;subst q;exact b
    ·rw[dZ b,Gi]at q;let⟨i,k,m⟩:=q;subst m;exact ih x i _ k
  let⟨j,a⟩:=FH.1 d;apply hp _ _ _ _;have f:=a;rw[e]at f;rwa[a,e]
def si{c}(h:cd c){agY}(m:(bK c agY).2.isSome=false)(d)(b):
  ((qZ c agY d b).2.2=false∧∀w,ck (qZ c agY d b).1 w↔w=⟨ab agY,b,dC d⟩∨ck c w)∨
  ((qZ c agY d b).2.2=true∧ck c (qZ c agY d b).2.1∧∀w,ck (qZ c agY d b).1 w↔w=⟨ab agY,b,dC d⟩∨(ck c w∧w.R≠(qZ c agY d b).2.1.R)):=by
 have j:=(hK.1 h).1;have i:(bK c agY).1<c.L.length:=by rw[rI (agY:=agY) j];exact AP (kJ j).1 _
 have e:∀w,w∈pF c (bK c agY).1↔ck c w∧w.R/16%c.L.length=(bK c agY).1:=λw=>by
  constructor
  ·intro f;have q:=((h.at i).ZK w f).set;exact⟨by rw[jo h,q];exact f,q⟩
  ·rintro⟨f,q⟩;rw[<-q];exact(jo h).1 f
 rw[AR j m];split
 all_goals
  first
   |rename_i f;right;have a:pF c (bK c agY).1≠[]:=λz=>by rw[z]at f;have:=h.ways;simp at f;omega
    have l:(pF c (bK c agY).1).getLast?.getD qE=(pF c (bK c agY).1).getLast a:=by rw[List.getLast?_eq_some_getLast a];rfl
    have k:=(e _).1 (List.getLast_mem a);refine⟨rfl,by show ck c ((pF c (bK c agY).1).getLast?.getD qE);rw[l];exact k.1,λw=>?_⟩;rw[l,oy h i,dk];have g:=(h.at i).one;have n:w∈(pF c (bK c agY).1).dropLast↔w∈pF c (bK c agY).1∧w.R≠((pF c (bK c agY).1).getLast a).R:=by
     constructor
     ·intro q;refine⟨oC _ q,λz=>?_⟩;rw[<-List.dropLast_concat_getLast a,dH,List.nodup_append]at g;exact g.2.2 w.R (pG.2 ⟨w,q,rfl⟩) _ (pG.2 ⟨_,uJ.2 rfl,rfl⟩) z
     ·rintro⟨q,z⟩;rw[<-List.dropLast_concat_getLast a]at q;rcases cx.1 q with q|q
      ·exact q
      ·exact absurd (by rw[uJ.1 q]) z
    rw[n,e]
   |left;refine⟨rfl,λw=>?_⟩;rw[oy h i,dk,e]
  constructor
  ·rintro((q|q)|q)
   ·exact .inl q
   ·first|exact .inr ⟨q.1.1,q.2⟩|exact .inr q.1
   ·first|(exact .inr ⟨q.1,λz=>q.2 (by rw[z];exact k.2)⟩)|exact .inr q.1
  ·rintro(q|q)
   ·exact .inl (.inl q)
   ·by_cases z:w.R/16%c.L.length=(bK c agY).1
    ·first|exact .inl (.inr ⟨⟨q.1,z⟩,q.2⟩)|exact .inl (.inr ⟨q,z⟩)
    ·first|exact .inr ⟨q.1,z⟩|exact .inr ⟨q,z⟩
def D_{f}{l}{j}{x:Wy}(a:l[j]?=some x):kR f (eY l j)=f x::(l.take j++l.drop (j+1)):=by
 unfold eY;rw[a];rfl
def vq{l:List Wy}(h:(l.map (·.R)).Nodup){j}{x}(b:l[j]?=some x){w}:w∈l.take j++l.drop (j+1)↔w∈l∧w.R≠x.R:=by
 let⟨c,e⟩:=Em.1 b;have hp:(x::(l.take j++l.drop (j+1))).Perm l:=by
  have:=EV c;unfold eY at this;rwa[b]at this
 have a:=((hp.map _).nodup_iff).2 h;rw[jC,List.nodup_cons]at a;constructor
 ·intro q;exact⟨hp.mem_iff.1 (bY _ q),λz=>a.1 (pG.2 ⟨w,q,z⟩)⟩
 rintro⟨q,z⟩;rcases dk.1 (hp.mem_iff.2 q)with r|r
 ·exact absurd (by rw[r]) z
 exact r
def vr{c}(h:cd c){agY}(b:(bK c agY).2.isSome=true){s}{x y}(e:(pF c (bK c agY).1)[(bK c agY).2.getD 0]?=some x)
  (d:∀w,w∈s↔w=y∨(w∈pF c (bK c agY).1∧w.R≠x.R)) (a:x.R=ab agY) (w):ck (rK c (bK c agY).1 s) w↔w=y∨(ck c w∧w.R≠ab agY):=by
 have ff:=pR b;rw[oy h ff.2.2.1,d,a];constructor
 ·rintro((q|q)|q)
  ·exact .inl q
  ·refine .inr ⟨?_,q.2⟩;rw[jo h,((h.at ff.2.2.1).ZK w q.1).set];exact q.1
  refine .inr ⟨q.1,λz=>q.2 ?_⟩;rw[z, <-a];exact ((h.at ff.2.2.1).ZK x (aB e)).set
 rintro(q|q)
 ·exact .inl (.inl q)
 by_cases z:w.R/16%c.L.length=(bK c agY).1
 ·exact .inl (.inr ⟨by rw[<-z];exact(jo h).1 q.1,q.2⟩)
 exact .inr ⟨q.1,z⟩
def vx{c}(h:cd c){a}{b}(e:(xL c a b).2=true):∃v,ck c v∧v.R=ab a∧v.data.size=16∧b.size+a%16<=16∧
  ∀w,ck (xL c a b).1 w↔w={v with data:=Fk v.data (a%16) b,Z':=true}∨(ck c w∧w.R≠ab a):=by
 by_cases d:(bK c a).2.isSome=true
 ·let⟨x,f,i,g⟩:=mu h d;rw[At b d rfl f]at e⊢;by_cases j:x.data.size=0∨b.size+a%16>16
  ·rw[aa j]at e;cases e
  rw[dZ j];refine⟨x,i,g,oH (ow h i).data,oT,vr h d f (λw=>?_) g⟩;rw[D_ f,dk,vq (h.at (pR d).2.2.1).one f]
 rw[GV b (sU d)]at e;cases e
def vy{c}(h:cd c){agY}(w):ck (wB c agY) w↔(∃u,ck c u∧u.R=ab agY∧w={u with Z':=false})∨(ck c w∧w.R≠ab agY):=by
 by_cases a:(bK c agY).2.isSome=true
 ·let⟨x,i,d,b⟩:=mu h a;rw[Dy a rfl,vr h a i (λv=>?_) b]
  ·constructor
   ·rintro(q|q)
    ·exact .inl ⟨x,d,b,q⟩
    exact .inr q
   rintro(⟨u,f,g,j⟩|q)
   ·rw[qz h f d (g.trans b.symm)]at j;exact .inl j
   exact .inr q
  let⟨l,e⟩:=Em.1 i;rw[<-vq ((h.at (pR a).2.2.1).one) i,List.modify_eq_take_cons_drop l,e];simp[cx,dk];constructor
  all_goals
   rintro(q|q|q)
   ·exact .inr (.inl q)
   ·exact .inl q
   exact .inr (.inr q)
 rw[Dz (sU a)];have k:=λv=>qt h (sU a) (w:=v);constructor
 ·intro q;exact .inr ⟨q,k w q⟩
 rintro(⟨u,f,g,_⟩|q)
 ·exact absurd g (k u f)
 exact q.1
def ej(q:List a5)(m:ByteArray)(i:Nat):Option UInt8:=(fl (fP q) i).or (gb m i)
def g_(c:Ca)(q:List a5)(m:ByteArray)(i:Nat):Option UInt8:=(fq c i).or (ej q m i)
def Hd(q:List a5)(m:ByteArray){i:Nat}(a:i<m.size):gb (jZ q m) i=ej q m i:=mm _ _ _ a
def q2(s)(c)(q)(m){i}(a:i<m.size):gb (jm s c q m) i=(fl s i).or (g_ c q m i):=by
 unfold jm Ct jZ;rw[mm _ _ _ (by rw[iY,iY];exact a),mm _ _ _ (by rw[iY];exact a),mm _ _ _ a];rfl
def qo{s f}{c b}{q e}{m a}(g:a.size=m.size)(h:∀i,i<m.size->(fl f i).or (g_ b e a i)=(fl s i).or (g_ c q m i)):jm f b e a=jm s c q m:=by
 refine mq (by rw[MU,MU,g]) λi d=>?_;rw[MU]at d;rw[q2 _ _ _ _ d,q2 _ _ _ _ ad];exact h i ad
def uu(q)(k)(agY)(left)(d):fP (Bi q k agY left d)=fP q++if k=4 then [⟨agY,d⟩]else []:=by
 unfold fP Bi;rw[mL,dH];congr 1;by_cases h:k=4
 ·rw[aa h];subst h;rfl
 rw[dZ h,List.filter_cons,dZ (sU h)];rfl
def uv(q)(agY)(left)(d)(m)(i):ej (Bi q 4 agY left d) m i=(dd ⟨agY,d⟩ i).or (ej q m i):=by
 unfold ej;rw[uu,aa rfl,qn,Option.or_assoc];congr 1;rw[lS];rfl
def E3(q){k}(a:k≠4)(agY)(left)(d)(m)(i):ej (Bi q k agY left d) m i=ej q m i:=by
 unfold ej;rw[uu,dZ a,dY]
structure hG(d:Ca)(q:List a5)(m:ByteArray):Prop where
 g:cd d
 al:m.size%16=0
 cl:∀w,ck d w->w.Z'=false->0<w.data.size->∀i,i<m.size->w.R=ab i->gb w.data (i%16)=ej q m i
def oz{c}(h:cd c){w}(a:ck c w)(b:0<w.data.size){i}:∃x,gb w.data (i%16)=some x:=by
 have:=(ow h a).data;exact⟨_,aT (show i%16<w.data.data.size by show i%16<w.data.size;omega)⟩
def H7{m:ByteArray}(a:m.size%16=0){i}(b:i<m.size):ab i+16<=m.size:=by unfold ab;omega
def we{m}(b:m.size%16=0){agY i}(c:i<m.size)(e:ab agY=ab i):(dC (Ga m agY)).size=16∧gb (dC (Ga m agY)) (i%16)=gb m i:=by
 have d:=H7 b c;unfold Ga;rw[e,aa ad,(oT:min _ 16=16)];have a:(m.extract (ab i) (ab i+16)).size=16:=by rw[dA];omega
 rw[show dC _=m.extract _ (ab i+16)from aa a];refine⟨a,?_⟩;rw[j3,aa ad];congr 1;unfold ab;omega
def He{d}{q}{m}(h:hG d q m){agY}(Q:agY<=4294967295)(left):
  hG (iQ d q m agY left).1 (iQ d q m agY left).2.1 m∧∀i,i<m.size->g_ (iQ d q m agY left).1 (iQ d q m agY left).2.1 m i=g_ d q m i:=by
 unfold iQ;rw[dZ (by rw[(hK.1 h.g).1];decide)];have u:ab (ab agY)=ab agY:=by unfold ab;omega
 by_cases K:(bK d (ab agY)).2.isSome=true
 ·rw[aa K];have N:=λw=>ou h.g (ab agY) (w:=w);refine⟨⟨h.g.Zi _,h.al,λw f=>h.cl w ((N w).1 f)⟩,λi _=>?_⟩;show g_ (tO d (ab agY)) q m i=_;unfold g_;rw[m7 h.g (h.g.Zi _) λw _=>⟨λz=>⟨w,(N w).1 z,rfl,rfl⟩,λz=>⟨w,(N w).2 z,rfl,rfl⟩⟩]
 ·rw [dZ K];have E:(bK d (ab agY)).2.isSome=false:=sU K;have H:∀{w},ck d w->w.R≠ab agY:=λ{w} f=>u ▸ qt h.g E f;have j:=h.g.put (dV Q) (Ga (jZ q m) (ab agY)) false;have I:(jZ q m).size=m.size:=iY _ _;have k:∀i,i<m.size->ab agY=ab i->(dC (Ga (jZ q m) (ab agY))).size=16∧gb (dC (Ga (jZ q m) (ab agY))) (i%16)=ej q m i:=λi b e=>by
   obtain⟨O,J⟩:=we (by rw[I];exact h.al) (by rw[I];exact b) (u.trans e);exact⟨O,J.trans (Hd q m b)⟩
  have v:∀i,i<m.size->ab agY=ab i->fq d i=none:=λi _ e=>om h.g λw f z=>H f (z.trans e.symm);have B:∀i,i<m.size->ab agY=ab i->∃x,ej q m i=some x:=λi b e=>by
   let⟨O,J⟩:=k i b e;rw[<-J];exact⟨_,aT (oT:i%16<(dC (Ga (jZ q m) (ab agY))).size)⟩
  rcases si h.g E (Ga (jZ q m) (ab agY)) false with ⟨o,f⟩|⟨o,l,f⟩
  ·rcases L:qZ d (ab agY) (Ga (jZ q m) (ab agY)) false with ⟨c,a,g⟩;rw[L]at o f j;simp only at o f j;rw[u]at f;show hG (if g=true∧a.Z'=true∧a.data.size≠0 then(c,Bi q 4 a.R left a.data,true)else(c,q,false):Ca×List a5×Bool).1 (if g=true∧a.Z'=true∧a.data.size≠0 then(c,Bi q 4 a.R left a.data,true)else(c,q,false):Ca×List a5×Bool).2.1 m∧∀i,i<m.size->g_ (if g=true∧a.Z'=true∧a.data.size≠0 then(c,Bi q 4 a.R left a.data,true)else(c,q,false):Ca×List a5×Bool).1 (if g=true∧a.Z'=true∧a.data.size≠0 then(c,Bi q 4 a.R left a.data,true)else(c,q,false):Ca×List a5×Bool).2.1 m i=g_ d q m i;rw[dZ (by rw[o];simp)];have D:ck c ⟨ab agY,false,dC (Ga (jZ q m) (ab agY))⟩:=(f _).2 (.inl rfl);refine⟨⟨j,h.al,λw r s t i b e=>?_⟩,λi b=>?_⟩
   ·rcases(f w).1 r with z|z
    ·subst z;exact(k i b e).2
    ·exact h.cl w z s t i b e
   ·show(fq c i).or _=(fq d i).or _;by_cases e:ab agY=ab i
    ·rw[j1 j D e,v i b e,(k i b e).2];let⟨x,p⟩:=B i b e;rw[p];rfl
    ·rw[m7 h.g j λw C=>⟨λz=>⟨w,((f w).1 z).resolve_left λy=>e (by rw[<-C,y]),rfl,rfl⟩,λz=>⟨w,(f w).2 (.inr z),rfl,rfl⟩⟩]
  ·rcases L:qZ d (ab agY) (Ga (jZ q m) (ab agY)) false with ⟨c,a,g⟩;rw[L]at o f j l;simp only at o f j l;rw[u]at f;have D:ck c ⟨ab agY,false,dC (Ga (jZ q m) (ab agY))⟩:=(f _).2 (.inl rfl);have F:a.R≠ab agY:=H l;have G:∀i,a.R=ab i->fq c i=none:=λi e=>om j λw z y=>by
    rcases(f w).1 z with x|x
    ·rw[x]at y;exact F (e.trans y.symm)
    ·exact x.2 (y.trans e.symm)
   have A:∀i,ab agY≠ab i->a.R≠ab i->fq c i=fq d i:=λi e n=>
    m7 h.g j λw C=>⟨λz=>⟨w,(((f w).1 z).resolve_left λy=>e (by rw[<-C,y])).1,rfl,rfl⟩,λz=>⟨w,(f w).2 (.inr ⟨z,λy=>n (by rw[<-y,C])⟩),rfl,rfl⟩⟩
   show hG (if g=true∧a.Z'=true∧a.data.size≠0 then(c,Bi q 4 a.R left a.data,true)else(c,q,false):Ca×List a5×Bool).1 (if g=true∧a.Z'=true∧a.data.size≠0 then(c,Bi q 4 a.R left a.data,true)else(c,q,false):Ca×List a5×Bool).2.1 m∧∀i,i<m.size->g_ (if g=true∧a.Z'=true∧a.data.size≠0 then(c,Bi q 4 a.R left a.data,true)else(c,q,false):Ca×List a5×Bool).1 (if g=true∧a.Z'=true∧a.data.size≠0 then(c,Bi q 4 a.R left a.data,true)else(c,q,false):Ca×List a5×Bool).2.1 m i=g_ d q m i;by_cases M:g=true∧a.Z'=true∧a.data.size≠0
   ·rw [aa M];have P:∀i,ej (Bi q 4 a.R left a.data) m i=if a.R=ab i then gb a.data (i%16)else ej q m i:=λi=>by
     rw[uv,mo h.g l];split
     ·obtain⟨x,p⟩:=oz h.g l ad;rw[p];rfl
     ·rfl
    refine⟨⟨j,h.al,λw r s t i b e=>?_⟩,λi b=>?_⟩
    ·show _=ej (Bi q 4 a.R left a.data) m i;rw[P];rcases(f w).1 r with z|z
     ·subst z;rw[dZ (λy=>F (y.trans e.symm))];exact(k i b e).2
     ·rw[dZ (λy=>z.2 (e.trans y.symm))];exact h.cl w z.1 s t i b e
    ·show(fq c i).or (ej (Bi q 4 a.R left a.data) m i)=(fq d i).or _;rw[P];by_cases n:a.R=ab i
     ·rw[aa n,G i n,j1 h.g l n];obtain⟨x,p⟩:=oz h.g l ad;rw[p];rfl
     ·rw[dZ n];by_cases e:ab agY=ab i
      ·rw[j1 j D e,v i b e,(k i b e).2];let⟨x,p⟩:=B i b e;rw[p];rfl
      ·rw[A i e n]
   ·rw [dZ M];refine⟨⟨j,h.al,λw r s t i b e=>?_⟩,λi b=>?_⟩
    ·rcases(f w).1 r with z|z
     ·subst z;exact(k i b e).2
     ·exact h.cl w z.1 s t i b e
    ·show(fq c i).or _=(fq d i).or _;by_cases n:a.R=ab i
     ·rw[G i n,j1 h.g l n];by_cases t:a.data.size=0
      ·rw[j2 ad]
      ·have s:a.Z'=false:=by
        cases R:a.Z' with
        |false=>rfl
        |true=>exact absurd ⟨o,R,t⟩ M
       rw[h.cl a l s ad i b n];cases ej q m i<;>rfl
     ·by_cases e:ab agY=ab i
      ·rw[j1 j D e,v i b e,(k i b e).2];let⟨x,p⟩:=B i b e;rw[p];rfl
      ·rw[A i e n]
def oB(x)(q):fP (x::q)=(if x.kind=4 then [⟨x.R,x.data⟩]else [])++fP q:=by
 unfold fP;by_cases h:x.kind=4
 ·rw[aa h,List.filter_cons,aa (sU h)];rfl
 rw[dZ h,List.filter_cons,dZ (sU h)];rfl
def E4(q)(m)(i)(b:i<m.size):
  ej (eH q).1 (if(eH q).2.2=true∧(eH q).2.1.kind=4 then rP m [⟨(eH q).2.1.R,(eH q).2.1.data⟩]else m) i=ej q m i:=by
 cases q with
 |nil=>rfl
 | cons x r=>
  by_cases h:wrap64 (x.left-1)>0
  ·rw[show eH (x::r)=({x with left:=wrap64 _}::r,OU,false)from aa h,dZ (by simp)];unfold ej;rw[oB,oB]
  ·rw[show eH (x::r)=(r,{x with left:=wrap64 _},true)from dZ h];by_cases a:x.kind=4
   ·rw[aa ⟨rfl,a⟩];unfold ej;rw[oB,aa a,mm _ _ _ b,qn,Option.or_assoc]
   ·rw[dZ (λz=>a z.2)];unfold ej;rw[oB,dZ a,iA]
theorem hG.Zb{d}{q b}{m a}(h:hG d q m)(g:a.size=m.size)(c:∀i,i<m.size->ej b a i=ej q m i):hG d b a:=
 ⟨h.g,by rw[g];exact h.al,λw k f j i l e=>by rw[c i ad];exact h.cl w k f j i ad e⟩
abbrev Co.mc(c:Co):Prop:=hG c.data c.Y c.mem
abbrev Co.YE(c:Co)(i:Nat):Option UInt8:=g_ c.data c.Y c.mem i
structure hP(c d:Co):Prop where
 mc:d.mc
 f:d.mem.size=c.mem.size
 un:∀i,i<c.mem.size->d.YE i=c.YE i
theorem hP.refl{c}(h:c.mc):hP c c:=⟨h,rfl,λ_ _=>rfl⟩
theorem hP.trans{a b c}(h:hP a b)(k:hP b c):hP a c:=⟨k.mc,k.f.trans h.f,λi d=>(k.un i (oH h.f)).trans (h.un i d)⟩
theorem hP.same{a b c}(h:hP a b)(e:c.data=b.data)(f:c.Y=b.Y)(d:c.mem=b.mem):hP a c:=by
 refine⟨?_,by rw[d];exact h.f,λi g=>?_⟩
 ·show hG c.data c.Y c.mem;rw[e,f,d];exact h.mc
 show g_ c.data c.Y c.mem i=_;rw[e,f,d];exact h.un i g
def rg{c}(h:c.mc){agY}(e:agY<=4294967295):hP c (oK c agY):=by
 have b:=He h e (lX c.U c.asked);have a:=(j0 c agY).1;refine⟨?_,by rw[a],λi d=>?_⟩
 ·show hG (oK c agY).data (oK c agY).Y (oK c agY).mem;rw[a];exact b.1
 show g_ (oK c agY).data (oK c agY).Y (oK c agY).mem i=_;rw[a];exact b.2 i d
def qL{c}(h:c.mc){k}(b:k≠4)(agY)(d):hP c (jE c k agY d):=by
 have a:∀i,ej (jE c k agY d).Y c.mem i=ej c.Y c.mem i:=λi=>E3 _ b _ _ _ _ _;refine⟨hG.Zb h rfl λi _=>a i,rfl,λi _=>?_⟩;show(fq c.data i).or (ej (jE c k agY d).Y c.mem i)=_;rw[a];rfl
def F5{q}(h:∀x∈q,x.ok):(eH q).2.2=true->(eH q).2.1.R<=4294967295:=by
 cases q with
 |nil=>intro z;cases z
 |cons x r=>
  by_cases a:wrap64 (x.left-1)>0
  ·rw[show eH (x::r)=({x with left:=wrap64 _}::r,OU,false)from aa a];intro z;cases z
  ·rw[show eH (x::r)=(r,{x with left:=wrap64 _},true)from dZ a];exact λ_=>(h x b9).1
def lW{c}(h:c.mc)(r:∀x∈c.Y,x.ok):hP c (lM c):=by
 have a:=E4 c.Y c.mem;have k:=F5 r;unfold lM;rcases p:eH c.Y with ⟨q,x,ok⟩;rw[p]at a k;simp only at a k;show hP c (if ok=true then ID {c with Y:=q} x else {c with Y:=q});have j:∀{e:ByteArray},e.size=c.mem.size->(∀i,i<c.mem.size->ej q e i=ej c.Y c.mem i)->hP c {c with Y:=q,mem:=e }:=λ{e} o a=>by
  refine⟨hG.Zb h o a,o,λi b=>?_⟩;show(fq c.data i).or (ej q e i)=_;rw[a i b];rfl
 by_cases d:ok=true
 ·rw [aa d];unfold ID;by_cases f:x.kind=4
  ·rw[dZ ad,dZ ad,dZ ad,aa f];exact j (iY _ _) λi b=>by have:=a i b;rwa[aa ⟨d,f⟩]at this
  have g:hP c {c with Y:=q}:=j rfl λi b=>by have:=a i b;rwa[dZ (λz=>f z.2)]at this
  by_cases l:x.kind=1
  ·rw[aa l];exact g.same rfl rfl rfl
  rw[dZ l];by_cases m:x.kind=2
  ·rw[aa m];exact g.same rfl rfl rfl
  rw[dZ m];by_cases n:x.kind=3
  ·rw[aa n];exact g.trans (rg g.mc (k d))
  rwa[dZ n,dZ f]
 rw[dZ d];exact j rfl λi b=>by have:=a i b;rwa[dZ (λz=>d z.1)]at this
def F6{d b}{a j}(h:d.size=16)(g:b.size+a<=16)(i:j<16):gb (Fk d a b) j=(if a<=j then gb b (j-a)else none).or (gb d j):=by
 unfold Fk;rw[ot,ot,j3,j3];simp only[kH,dA];by_cases c:a<=j
 ·rw[aa c];by_cases e:j-a<b.size
  ·rw[aa ad,dZ ad,(oT:j-(min a d.size-0)=j-a)];have:∃x,gb b _=some x:=⟨_,aT e⟩;let⟨x,f⟩:=this;rw[f];rfl
  rw[j2 (i:=j-a) ad,dZ ad,aa ad,(oT:a+b.size+(j-(min a d.size-0+b.size))=j)];rfl
 rw[dZ c,aa ad,aa ad,aa ad,(oT:0+j=j)];rfl
def Hf{d}{q}{m}(h:hG d q m){p}(u:(xL d p.V p.data).2=true):
  hG (xL d p.V p.data).1 q m∧∀i,i<m.size->g_ (xL d p.V p.data).1 q m i=(dd p i).or (g_ d q m i):=by
 let⟨v,t,a,n,j,b⟩:=vx h.g u;have c:=h.g.write p.V p.data;refine⟨⟨c,h.al,λw o k s i l e=>?_⟩,λi l=>?_⟩
 ·rcases(b w).1 o with z|z
  ·subst z;cases k
  exact h.cl w z.1 k s i l e
 show(fq _ i).or _=(dd p i).or ((fq d i).or _);by_cases e:ab p.V=ab i
 ·rw[j1 c ((b _).2 (.inl rfl)) (a.trans e),j1 h.g t (a.trans e),F6 n j ad,Option.or_assoc];congr 1;unfold dd ab at *;by_cases g:p.V<=i
  ·rw[aa g,aa ad];congr 1;omega
  rw[dZ g,dZ ad]
 have r:dd p i=none:=by
  unfold dd;split
  ·exact j2 (by unfold ab at e;omega)
  rfl
 rw[r,m7 h.g c λw f=>⟨λz=>⟨w,(((b w).1 z).resolve_left λy=>e (by rw[<-f,y];exact a.symm)).1,rfl,rfl⟩,λz=>⟨w,(b w).2 (.inr ⟨z,λy=>e (by rw[<-y,f])⟩),rfl,rfl⟩⟩];rfl
def H8{d}{q}{m}(h:hG d q m){w}(a:ck d w)(A:w.data.size≠0)(left):
  hG (wB d w.R) (Bi q 4 w.R left w.data) m∧∀i,i<m.size->g_ (wB d w.R) (Bi q 4 w.R left w.data) m i=g_ d q m i:=by
 have n:=h.g.Y4 w.R;have c:=(ow h.g a).R;have b:=λv=>vy h.g (agY:=w.R) v;have l:∀i,ej (Bi q 4 w.R left w.data) m i=if w.R=ab i then gb w.data (i%16)else ej q m i:=λi=>by
  rw[uv,mo h.g a];split
  ·obtain⟨x,j⟩:=oz h.g a ad;rw[j];rfl
  rfl
 refine⟨⟨n,h.al,λv t r p i o e=>?_⟩,λi o=>?_⟩
 ·rw[l];rcases(b v).1 t with ⟨u,f,k,g⟩|z
  ·have:=qz h.g f a (k.trans c);subst this g;rw[aa e]
  rw[dZ (λy=>z.2 (by rw[e, <-y,c]))];exact h.cl v z.1 r p i o e
 show(fq _ i).or _=(fq d i).or _;have s:fq (wB d w.R) i=fq d i:=m7 h.g n λv _=>⟨λz=>by
  rcases(b v).1 z with ⟨u,f,k,g⟩|y
  ·subst g;exact⟨u,f,rfl,rfl⟩
  ·exact⟨v,y.1,rfl,rfl⟩,λz=>by
  by_cases e:v.R=ab w.R
  ·exact⟨{v with Z':=false},(b _).2 (.inl ⟨v,z,e,rfl⟩),rfl,rfl⟩
  exact⟨v,(b v).2 (.inr ⟨z,e⟩),rfl,rfl⟩⟩
 rw[s,l];split
 ·rename_i e;rw[j1 h.g a e];obtain⟨x,j⟩:=oz h.g a ad;rw[j];rfl
 rfl
def m_{c d:Co}(h:hP c d)(b:d.W=c.W):Xr d=Xr c:=qo h.f λi a=>by rw[b];exact az _ (h.un i a)
def wh{c}(h:c.mc):(tY c).mc∧Xr (tY c)=Xr c∧(tY c).mem.size=c.mem.size:=by
 have g:(aW c).mc∧Xr (aW c)=Xr c∧(aW c).mem=c.mem:=by
  cases f:c.W with
  |nil=>
   have m:aW c={c with W:=[],data:=c.data}:=by unfold aW;rw[f];rfl
   rw[m]
   exact⟨h,by unfold Xr;rw[f],rfl⟩
  | cons p l=>
   have m:aW c={c with W:=(sL (p::l) c.data).1,data:=(sL (p::l) c.data).2.1}:=by unfold aW;rw[f]
   rw[m];by_cases j:(xL c.data p.V p.data).2=true
   ·rw[show sL (p::l) c.data=(l,(xL c.data p.V p.data).1,true)from aa j];have k:=Hf h j;refine⟨k.1,?_,rfl⟩;unfold Xr;refine qo rfl λi n=>?_;rw[f,lS,Option.or_assoc,k.2 i n]
   ·rw[show sL (p::l) c.data=(p::l,c.data,false)from dZ j];exact⟨h,by unfold Xr;rw[f],rfl⟩
 have hA:∀{d:Co},d.mc->(tW d).mc∧Xr (tW d)=Xr d∧(tW d).mem.size=d.mem.size:=λ{d} k=>by
  unfold tW;split
  ·exact⟨k,rfl,rfl⟩
  ·split
   ·have z:=λl=>qL k (k:=3) dT l oZ;exact⟨(z _).mc,m_ (z _) rfl,(z _).f⟩
   ·exact⟨k,rfl,rfl⟩
 have o:∀{d:Co},d.mc->(nP d).mc∧Xr (nP d)=Xr d∧(nP d).mem.size=d.mem.size:=λ{d} k=>by
  unfold nP;split
  ·exact⟨k,rfl,rfl⟩
  ·unfold pE;split
   ·rename_i w e;split
    ·rename_i f;have j:ck d.data w:=by
      unfold cR at e;split at e
      ·exact List.mem_of_find?_eq_some e
      ·cases e
     have z:=H8 k j f (lX d.U d.asked);refine⟨z.1,?_,rfl⟩;unfold Xr;exact qo rfl λi n=>az _ (z.2 i n)
    ·exact⟨k,rfl,rfl⟩
   ·exact⟨k,rfl,rfl⟩
 rw[mO];split
 ·have a:=hA g.1;have b:=o a.1;exact⟨b.1,b.2.1.trans (a.2.1.trans g.2.1),b.2.2.trans (a.2.2.trans (by rw[g.2.2]))⟩
 ·have b:=o g.1;exact⟨b.1,b.2.1.trans g.2.1,b.2.2.trans (by rw[g.2.2])⟩
def ef{c d:Co}(h:c.mc)(a:d.data=c.data)(b:d.Y=c.Y)(e:d.mem=c.mem):d.mc:=by
 show hG d.data d.Y d.mem;rwa[a,b,e]
theorem oI:∀(n:Nat) (c:Co),(∀e∈c.Z,e.ok)->c.mc->(eC n c).mc
 |0,_,_,h=>h
 | n + 1,c,d,h=>by
  unfold eC;split
  ·exact h
  ·split
   ·exact h
   ·rename_i e l a;split
    ·exact h
    ·split
     ·exact ef h rfl rfl rfl
     ·split
      ·exact h
      ·have b:=d e (by rw[a];exact b9);refine oI n _ (λx f=>d x (by rw[a];exact bY _ f)) ?_;have hp:(fZ c (cA e)).mc:=ef h rfl rfl rfl;unfold vZ vG;split
       ·exact ef (rg hp (fE b).V).mc rfl rfl rfl
       ·exact ef h rfl rfl rfl
def H9{c}(h:c.mc)(i):(oE c i).mc:=by
 have a:=λl=>(qL h (k:=1) dT l oZ).mc;unfold oE
 repeat' split
 all_goals first|exact h|exact (λe=>ef h rfl rfl rfl) _|exact ef (a _) rfl rfl rfl
def HB{c}(h:c.mc)(i):(iS c i).mc:=by
 have a:∀e,(b0 c i e).mc:=λe=>ef h rfl rfl rfl;unfold iS
 repeat' split
 all_goals first|exact h|exact a _|exact H9 (a _) _
theorem qr:∀(p:List Nat) (c:Co),c.mc->(p.foldl iS c).mc
 |[],_,h=>h
 |i::p,c,h=>qr p _ (HB h i)
theorem q_:∀(n:Nat) (c:Co),c.mc->(kV n c).mc
 |0,_,h=>h
 |n+1,c,h=>by
  unfold kV
  repeat' split
  ·exact h
  ·exact h
  ·exact q_ n _ (ef h rfl rfl rfl)
theorem rh:∀(n:Nat) (c:Co),c.mc->(eL n c).mc
 |0,_,h=>h
 | n +1,c,h=>by
  unfold eL;split
  ·exact h
  ·split
   ·exact ef h rfl rfl rfl
   ·split
    ·split
     ·exact(qL h (k:=2) dT _ _).mc
     ·exact h
    ·refine rh n _ ?_;have a:∀w,(dM {c with C:=tO c.C (ab c.M)} w).1.mc:=λw=>by
      unfold dM
      repeat' split
      all_goals exact ef h rfl rfl rfl
     exact ef (a (bf c.prog c.M)) rfl rfl rfl
def H_{c}{n}(l:c.I n)(k:n+20<=890000)(h:c.mc):(ed c).mc:=by
 have e:=Ql l k;have f:(s0 c).mc:=ef h rfl rfl rfl;have g:(s1 c).mc:=(lW f e.k0.ok.a).mc;have i:(aq c).mc:=by
  show(kK _).mc;unfold kK
  repeat' split
  all_goals exact ef g rfl rfl rfl
 have a:(s3 c).mc:=oI _ _ e.k2.ok.Z8 i;have b:(dj c).mc:=by
  show(gY _).mc;unfold gY;split
  ·exact a
  exact qr _ _ a
 have d:(ea c).mc:=by
  show(lP _).mc;unfold lP;split
  ·exact b
  exact q_ _ _ b
 have j:(cq c).mc:=by
  show(eN _).mc;unfold eN;split
  ·exact d
  exact rh _ _ d
 exact(wh j).1
def HT(a)(prog)(m)(e:(fX a prog m).I 0):(fX a prog m).mc:=by
 have b:∀w, ¬ck (fX a prog m).data w:=λw c=>by
  let⟨s,f,d⟩:=List.mem_flatten.1 c;rw[(List.mem_replicate.1 f).2]at d;exact absurd d List.not_mem_nil
 refine⟨e.gd,?_,λw c=>absurd c (b w)⟩;show(jB m).size%16=0;let⟨n,b⟩:∃n,(jB m).size=hF n:=⟨_,wE m⟩;rw[b];unfold hF
 (repeat' split)<;>rfl
theorem ov{X:Co}(a:∀k,k<=3000->jb X k)(h:X.mc):∀k,k<=3000->(uN X k).mc
 |0,_=>h
 |k+1,b=>by
  have g:=a k ad;show(uG (uN X k)).mc;rw[show uG (uN X k)=ed (uN X k)from aa g.rt];exact H_ (EL g.ok ad g.rt) ad (ov a h k ad)
structure Qi(c:Co):Prop where
 st:c.halt≠0->c.Z=[]∧c.Q=[]
structure i3(c d:Co):Prop where
 ret:d.O=c.O
 r:d.r=c.r
 halt:d.halt=c.halt
 Z:c.Z=[]->d.Z=[]
 Z6:d.Q=c.Q
 M:d.M=c.M
theorem i3.trans{a b c}(h:i3 a b)(k:i3 b c):i3 a c:=⟨k.ret.trans h.ret,k.r.trans h.r,k.halt.trans h.halt,λz=>k.Z (h.Z z),k.Z6.trans h.Z6,k.M.trans h.M⟩
def L0(c:Co)(agY:Nat):i3 c (oK c agY):=by
 rw[<-uY];exact⟨rfl,rfl,rfl,λh=>h,rfl,rfl⟩
def wm(c:Co):i3 c (lM c):=by
 have a:i3 c (jJ c):=⟨rfl,rfl,rfl,λh=>h,rfl,rfl⟩;rw[kC];split
 ·unfold ID
  repeat' split
  ·exact⟨rfl,rfl,rfl,λh=>by show List.map _ c.Z=[];rw[h];rfl,rfl,rfl⟩
  ·exact⟨rfl,rfl,rfl,λh=>h,rfl,rfl⟩
  ·exact a.trans (L0 _ _)
  ·exact⟨rfl,rfl,rfl,λh=>h,rfl,rfl⟩
  exact a
 exact a
def J9(c:Co):i3 c (tY c):=by
 have a:i3 c (aW c):=⟨rfl,rfl,rfl,λh=>h,rfl,rfl⟩;have hA:∀d:Co,i3 d (tW d):=λd=>by
  unfold tW
  repeat' split
  all_goals exact⟨rfl,rfl,rfl,λh=>h,rfl,rfl⟩
 have b:∀d:Co,i3 d (nP d):=λd=>by
  unfold nP pE
  repeat' split
  all_goals exact⟨rfl,rfl,rfl,λh=>h,rfl,rfl⟩
 rw[mO];split
 ·exact(a.trans (hA _)).trans (b _)
 exact a.trans (b _)
def L5{c:Co}(h:c.halt≠0):ed c=tY (lM (s0 c)):=by
 have a:(lM (s0 c)).halt≠0:=by rw[(wm (s0 c)).halt];exact h
 have b:kK (lM (s0 c))=lM (s0 c):=aa a;have d:ei (lM (s0 c))=lM (s0 c):=mG (.inl a);have e:gY (lM (s0 c))=lM (s0 c):=aa a;have f:lP (lM (s0 c))=lM (s0 c):=aa a;have g:eN (lM (s0 c))=lM (s0 c):=aa a;show tY (eN (lP (gY (ei (kK (lM (s0 c)))))))=_;rw[b,d,e,f,g]
def L6{c:Co}(h:c.halt≠0):i3 c (ed c):=by
 rw[L5 h];have a:i3 c (s0 c):=⟨rfl,rfl,rfl,λh=>h,rfl,rfl⟩;exact(a.trans (wm _)).trans (J9 _)
set_option maxRecDepth 100000
set_option maxHeartbeats 4000000
structure pz(s t:St)(x:Sp):Prop where
 K:x.K=s.K
 halt:x.halt≠0->t={s with halt:=x.halt}∧x.rd=0∧x.store=false
 run:x.halt=0->t.halt=0∧t.K=x.next
 r:t.r=lY s.r x
 mem:t.mem=if x.store=true then DD s.mem x.V (oF x.value x.size.toNat)else s.mem
 st:x.store=true->x.halt=0∧(x.size=1∨x.size=2∨x.size=4)∧kZ s.mem.size x.V x.size=true
def qj(x n j)(c:j<n):gb (oF x n) j=some (UInt8.ofNat (x/256 ^ j%256)):=by
 have b:∀(l:List Int) (r:ByteArray),(l.foldl (λr m=>r.push (UInt8.ofNat m.toNat)) r).data.toList=r.data.toList++l.map λm=>UInt8.ofNat m.toNat:=by
  intro l
  induction l with
  |nil=>intro r;simp
  |cons a l ih=>intro r;rw[mK,ih];simp[ByteArray.push]
 unfold gb oF;rw[<-bQ,b,List.map_map,show(ByteArray.empty.data.toList)=[]from rfl,iA,aX,eZ c];rfl
theorem va(l:List UInt8):∀(n j:Nat),j<n->c6 l n/256 ^ j%256=(l.getD j 0).toNat
 |0,j,h=>absurd h (dG j)
 | n+1,j,h=>by
  have b:=yK l n;unfold c6;by_cases e:j=n
  ·subst e;rw[Nat.add_mul_div_left _ _ (Nat.pow_pos dT),Nat.div_eq_of_lt b,bJ];exact jM (UInt8.toNat_lt _)
  ·have a:j<n:=oT;have ih:=va l n j a;rw[<-ih];obtain⟨d,rfl⟩:∃d,n=j+1+d:=⟨n-(j+1),oT⟩;rw[show 256 ^ (j+1+d)*(l.getD (j+1+d) 0).toNat=256 ^ j*(256*(256 ^ d*(l.getD (j+1+d) 0).toNat)) by rw[Nat.pow_add,Nat.pow_succ];ac_rfl];rw[Nat.add_mul_div_left _ _ (Nat.pow_pos dT),Nat.add_mul_mod_self_left]
def ut(b n):oF (kY b n) n=oF b n:=by
 refine mq (by rw[mP,mP]) λj a=>?_;rw[mP]at a;rw[qj _ _ _ a,qj _ _ _ a];unfold kY;rw[mP,va _ _ _ a];have h:=qj b n j a;have c:(oF b n).data.toList.getD j 0=UInt8.ofNat (b/256 ^ j%256):=by
  rw[aR,bQ];unfold gb at h;rw[h];rfl
 rw[c];congr 1;simp
def vi(a):(ak a=3↔11<=a∧a<=15)∧(ak a=4↔16<=a∧a<=18)∧(ak a=5↔3<=a∧a<=10):=by
 unfold ak;(repeat' split)<;>omega
def F0{i}(h:ak i.op=4):wr i=0:=by
 have:=(vi i.op).2.1.1 h;have a:cW i.op=4:=by unfold cW;(repeat' split)<;>omega
 unfold wr;rw[a];rfl
def lz(prog){s}(h:s.halt=0):pz s (gE prog s).1 (gE prog s).2:=by
 have p:=s8 (bf prog s.K);have a:∀(x:Sp),x.rd=0->lY s.r x=s.r:=λx u=>by unfold lY;rw[dZ (by rw[u];omega)]
 have b:∀f g,f≠0->pz s (Gc s f g).1 (Gc s f g).2:=λf g t=>⟨rfl,λ_=>c9,λe=>absurd e t,(a _ rfl).symm,rfl,λe=>by cases e⟩;have k:∀(i:SI) (x:Sp),i=rA prog s->x.rd=wr i->wr i≠0->x.halt=0->lY s.r x=io s.r (wr i).toNat x.value:=λi x n q v r=>by
  unfold lY;rw[q,aa ⟨by subst n;have:0<=wr (rA prog s):=p.1;omega,by subst n;have:wr (rA prog s)<32:=p.2;omega,r⟩]
 unfold gE;rw[aa h];split
 ·split
  ·exact b 2 0 dT
  unfold gh;split
  ·exact b 6 0 dT
  split
  ·exact b 7 0 dT
  split
  ·unfold sN;split
   ·rename_i l;split
    ·rename_i d;have o:((a' (rA prog s).op:Nat):Int)=1∨((a' (rA prog s).op:Nat):Int)=2∨((a' (rA prog s).op:Nat):Int)=4:=by
      unfold kZ at l;simp[aP,aY]at l;exact l.1
     refine⟨rfl,λe=>absurd rfl e,λ_=>⟨h,rfl⟩,?_,?_,λ_=>⟨rfl,o,l⟩⟩
     ·exact(a _ (F0 d)).symm
     simp only[d,q3,fD];rw[Int.toNat_natCast,ut]
    rename_i d;split
    ·rename_i c;exact⟨rfl,λe=>absurd rfl e,λ_=>⟨h,rfl⟩,(a _ c).symm,by simp[d],λe=>by simp[d]at e⟩
    rename_i c;exact⟨rfl,λe=>absurd rfl e,λ_=>⟨h,rfl⟩,(by symm;exact k _ _ rfl rfl c rfl),by simp[d],λe=>by simp[d]at e⟩
   exact b _ _ (by split<;>decide)
  unfold oN;have j:∀m tk,pz s (IJ s (rA prog s) (s.r (rA prog s).m.toNat) (s.r (rA prog s).x.toNat) m tk).1 (IJ s (rA prog s) (s.r (rA prog s).m.toNat) (s.r (rA prog s).x.toNat) m tk).2:=λm tk=>by
   unfold IJ;split
   ·rename_i c;exact⟨rfl,λe=>absurd rfl e,λ_=>⟨h,rfl⟩,(a _ c).symm,rfl,λe=>by cases e⟩
   rename_i c;exact⟨rfl,λe=>absurd rfl e,λ_=>⟨h,rfl⟩,(by symm;exact k _ _ rfl rfl c rfl),rfl,λe=>by cases e⟩
  split
  ·split
   ·exact j _ _
   exact b 3 0 dT
  exact j _ _
 exact b 1 0 dT
def gy(prog:List Nat)(pc:Nat):Prop:=(ek prog pc).isSome=true∧dw (bf prog pc)≠0
def ew(prog:List Nat)(T:St)(e:ai):St×Sp:=gE prog ⟨e.K,T.r,T.mem,0⟩
def c3(prog:List Nat)(T:St)(l:List ai):St:=l.foldl (λT e=>(ew prog T e).1) T
def lR(prog:List Nat)(T:St)(e:ai)(l:List ai):c3 prog T (e::l)=c3 prog (ew prog T e).1 l:=rfl
def F1(prog:List Nat)(T:St)(a b:List ai):c3 prog T (a++b)=c3 prog (c3 prog T a) b:=List.foldl_append
structure dn(prog:List Nat)(T:St)(e:ai):Prop where
 ins:gy prog e.K->e.i=bm (bf prog e.K)
 Zx: ¬gy prog e.K->e.is=3∧e.i=MG
 told:e.is=1∨e.is=3->cA e=(ew prog T e).2
 wait:e.is=0∨e.is=2->e.halt=0∧e.i.op≠47∧e.i.op≠48
 ZB:e.known=true->ak e.i.op=3∨ak e.i.op=4->e.V=gx e.i (T.r e.i.m.toNat)∧kZ T.mem.size e.V (a' e.i.op)=true
 st:e.is=0∨e.is=1∨e.is=2∨e.is=3
 Y:e.is=2->ak e.i.op=3∧e.known=true
 run:e.is=1->e.halt=0∨(ak e.i.op=5∧e.halt=3)
 Zs:ak e.i.op=4->e.is≠1
 ahead:ak e.i.op=3->e.is=1->e.known=true
 Zf:ak e.i.op=5->e.known=true->e.is=3∧e.halt=0
 YV:ak e.i.op=5->e.is=3->e.halt=0->e.known=true
 gs:(gy prog e.K->ak e.i.op≠5)->e.N=b8 e.K
def hU(prog:List Nat):St->List ai->Prop
 |_,[]=>True
 |T,e::l=>dn prog T e∧hU prog (ew prog T e).1 l
theorem mz{prog:List Nat}:∀{T:St} {a b:List ai},hU prog T (a++b)↔hU prog T a∧hU prog (c3 prog T a) b
 |T,[],b=>⟨λh=>⟨trivial,h⟩,λh=>h.2⟩
 |T,e::a,b=>by
  show dn prog T e∧hU prog (ew prog T e).1 (a++b)↔(dn prog T e∧hU prog (ew prog T e).1 a)∧_;rw[mz,lR,uK]
def jf{prog}{T}{l}(h:hU prog T l){k}{e}(b:l[k]?=some e):dn prog (c3 prog T (l.take k)) e:=by
 let⟨c,a⟩:=Em.1 b;have:l=l.take k++e::l.drop (k+1):=by rw[<-a, <-bF c,kb]
 rw[this]at h;exact(mz.1 h).2.1
def v3(prog)(T){e a}(h:a.K=e.K):ew prog T a=ew prog T e:=by unfold ew;rw[h]
theorem vb(prog:List Nat):∀(T:St) (l a:List ai),a.map (·.K)=l.map (·.K)->c3 prog T a=c3 prog T l
 |T,[],[],_=>rfl
 |T,[],_::_,h=>by cases h
 |T,_::_,[],h=>by cases h
 |T,e::l,b::a,h=>by
  simp[jC,List.cons.injEq]at h;rw[lR,lR,v3 prog T h.1,vb prog _ l a h.2]
def H5(prog){s}(h:s.halt=0):(gE prog s).2.rd=0∨((gE prog s).2.rd=wr (rA prog s)∧gy prog s.K):=by
 unfold gE;rw[aa h];split
 ·rename_i a;split
  ·exact .inl rfl
  rename_i b;unfold gh sN oN IJ Gc
  (repeat' split)<;>first|exact .inl rfl|exact .inr ⟨rfl,⟨a,b⟩⟩
 exact .inl rfl
def F2{e}(h:e.halt=0)(a:wr e.i≠0):(cA e).rd=wr e.i∧(cA e).halt=0∧(cA e).value=e.value:=by
 unfold cA;rw[dZ (by rw[h];decide)]
 (repeat' split)<;>first|exact⟨rfl,rfl,rfl⟩|contradiction
theorem vm{prog:List Nat}{T:St}{agI:List ai}(h:hU prog T agI){a:Int}(r:1<=a)(s:a<=31):∀(n:Nat),n<=agI.length->
  (h8 agI a n=none->(c3 prog T (agI.take n)).r a.toNat=T.r a.toNat)∧
  (∀k e,h8 agI a n=some k->agI[k]?=some e->e.is=3->e.halt=0->(c3 prog T (agI.take n)).r a.toNat=e.value)
 |0,_=>⟨λ_=>rfl,nofun⟩
 | n +1,m=>by
  let⟨x,g⟩:∃x,agI[n]?=some x:=⟨_,aA ad⟩;have j:=jf h g;have l:=lz prog (s:=⟨x.K,(c3 prog T (agI.take n)).r,(c3 prog T (agI.take n)).mem,0⟩) rfl;have c:=H5 prog (s:=⟨x.K,(c3 prog T (agI.take n)).r,(c3 prog T (agI.take n)).mem,0⟩) rfl;have f:c3 prog T (agI.take (n+1))=(ew prog (c3 prog T (agI.take n)) x).1:=by
   rw[bW,g,F1];rfl
  let⟨o,p⟩:=vm h r s n ad;rw[f];unfold h8 LS;rw[g];simp[aY];by_cases b:wr x.i=a
  ·rw[aa b];refine⟨nofun,λk e i d t q=>?_⟩;injection i with i;subst i;rw[g]at d;injection d with d;subst d;let⟨t1,t2,t3⟩:=F2 q ad;have f:=j.told (.inr t);show(gE prog _).1.r _=_;rw[l.r];unfold ew at f;rw[<-f];unfold lY;rw[aa ⟨oT,oT,t2⟩,t1,b,t3];exact aa rfl
  ·rw [dZ b];have m:(ew prog (c3 prog T (agI.take n)) x).1.r a.toNat=(c3 prog T (agI.take n)).r a.toNat:=by
    show(gE prog _).1.r _=_;rw[l.r];unfold lY;split
    ·rename_i v;have:(gE prog ⟨x.K,(c3 prog T (agI.take n)).r,(c3 prog T (agI.take n)).mem,0⟩).2.rd≠a:=by
      rcases c with c|⟨c,u⟩
      ·omega
      ·rw[c];have:=j.ins u;rw[this]at b;exact b
     show(if a.toNat=_ then _ else _)=_;rw[dZ ad]
    ·rfl
   rw[m];exact⟨o,p⟩
theorem vc{prog:List Nat}:∀{T:St} (l:List ai),T.r 0=0->(c3 prog T l).r 0=0
 |T,[],h=>h
 | T,e::l,h=>by
  rw[lR];refine vc l ?_;show(gE prog _).1.r 0=0;rw[(lz prog (s:=⟨e.K,T.r,T.mem,0⟩) rfl).r];unfold lY;split
  ·show(if 0=_ then _ else _)=_;rw[dZ ad];exact h
  ·exact h
def vj{prog}{T}{agI}(h:hU prog T agI)(j:T.r 0=0){i}(f:i<=agI.length){b}{v}(a:lK agI T.r i b=some v):v=(c3 prog T (agI.take i)).r b.toNat:=by
 unfold lK at a;split at a
 ·rename_i g;injection a with a;subst g;rw[<-a];exact(vc _ j).symm
 split at a
 ·cases a
 rename_i p g;have l:b<=31:=oT;let⟨n,o⟩:=vm h oT l i f;unfold gX at a;rw[dZ ad,ll f]at a;split at a
 ·rename_i c;injection a with a;rw[n c];exact a.symm
 rename_i k c;split at a
 ·rename_i e m;split at a
  ·rename_i d;injection a with a;rw[o k e c m d.1 d.2];exact a.symm
  cases a
 cases a
def m8{prog}{T}{e}(a:gy prog e.K)(d:e.i=bm (bf prog e.K))(b:e.i.op≠47)(c:e.i.op≠48):
  ew prog T e=if ak e.i.op=3∨ak e.i.op=4 then sN ⟨e.K,T.r,T.mem,0⟩ e.i (T.r e.i.m.toNat) (T.r e.i.x.toNat)else oN ⟨e.K,T.r,T.mem,0⟩ e.i (T.r e.i.m.toNat) (T.r e.i.x.toNat):=by
 have hI:rA prog ⟨e.K,T.r,T.mem,0⟩=e.i:=d.symm;unfold ew gE;rw[aa rfl,aa a.1,dZ a.2,hI];unfold gh;rw[dZ b,dZ c]
def J1{prog}{T}{e}(h:dn prog T e):dn prog T (a0 e)∧(a0 e).K=e.K:=by
 unfold a0;split
 ·exact⟨h,rfl⟩
 rename_i g;split
 ·refine⟨⟨h.ins,λf=>⟨rfl,(h.Zx f).2⟩,λ_=>(h.told (.inl oT)),(λh=>by rcases h with h|h<;>cases h),λa d=>h.ZB ?_ d,.inr (.inr (.inr rfl)),nofun,nofun,nofun,nofun,λb a=>⟨rfl,?_⟩,λb _ c=>aa ⟨b,c⟩,h.gs⟩,rfl⟩
  ·have a:(if ak e.i.op=5∧e.halt=0 then true else e.known)=true:=a
   rwa [dZ (λq=>by have:=q.1;have d:ak e.i.op=3∨ak e.i.op=4:=d;omega)]at a
  have a:(if ak e.i.op=5∧e.halt=0 then true else e.known)=true:=a;by_cases c:e.halt=0
  ·exact c
  rw[dZ (λq=>c q.2)]at a;exact absurd (h.Zf b a).1 ad
 exact⟨⟨h.ins,h.Zx,h.told,h.wait,h.ZB,h.st,h.Y,h.run,h.Zs,h.ahead,h.Zf,h.YV,h.gs⟩,rfl⟩
def G5{prog}{T}{e}(h:dn prog T e){a b}(D:e.is=0->a=T.r e.i.m.toNat)(E:e.is=0->b=T.r e.i.x.toNat):dn prog T (rJ e a b)∧(rJ e a b).K=e.K:=by
 by_cases v:e.is≠0∨ak e.i.op=3∨ak e.i.op=4
 ·unfold rJ;rw[aa v];exact⟨h,rfl⟩
 have k:e.is=0:=oT;let⟨d,F,G⟩:=h.wait (.inl k);have l:gy prog e.K:=er λq=>by have:=(h.Zx q).1;omega
 obtain rfl:=D k;obtain rfl:=E k;have n:=m8 (T:=T) l (h.ins l) F G;rw[dZ ad]at n;have u:ak e.i.op=5->e.known=false:=λq=>by
  cases c:e.known with
  |false=>rfl
  |true=>have:=(h.Zf q c).1;omega
 have i:∀(x:ai),x.K=e.K->x.i=e.i->x.N=e.N->x.is=1->x.known=e.known->(x.halt=0∨(ak e.i.op=5∧x.halt=3))->cA x=(ew prog T e).2->dn prog T x∧x.K=e.K:=λx j f z H A B C=>by
  refine⟨⟨by rw[j,f];exact h.ins,λq=>absurd l (by rwa [j]at q),λ_=>by rw[v3 prog T j];exact C,λq=>by omega,λ_ q=>by rw[f]at q;omega,oT,λq=>by omega,λ_=>by rw[f];exact B,λq=>by rw[f]at q;omega,λq=>by rw[f]at q;omega,λw y=>?_,λ_ q=>by omega,by rw[j,f,z];exact h.gs⟩,j⟩;rw[f]at w;rw[A,u w]at y;cases y
 unfold rJ;rw[dZ v];rw[n]at i;split
 ·rename_i c;refine i _ rfl rfl rfl rfl rfl (.inl d) ?_;unfold cA uE oN IJ;simp[d,c];by_cases g:wr e.i=0<;>simp[g]
 ·rename_i o;split
  ·rename_i c;refine i _ rfl rfl rfl rfl rfl (.inl d) ?_;unfold cA uE oN IJ;simp[d,c];by_cases g:wr e.i=0<;>simp[g]
  ·rename_i p;split
   ·rename_i c;split
    ·rename_i m;refine i _ rfl rfl rfl rfl rfl (.inl d) ?_;unfold cA uE oN IJ;simp[d,c,m];by_cases g:wr e.i=0<;>simp[g]
    ·rename_i m;refine i _ rfl rfl rfl rfl rfl (.inr ⟨c,rfl⟩) ?_;unfold cA oN Gc;simp[c,m]
   ·rename_i t;refine i _ rfl rfl rfl rfl rfl (.inl d) ?_;have r:ak e.i.op≠3:=oT;have s:ak e.i.op≠4:=oT;unfold cA uE oN IJ;by_cases g:wr e.i=0<;>simp[g,d,o,p,r,s,t]
def vk{prog}{T}{e}(h:dn prog T e){size:Int}{a}(l:size=T.mem.size)(k:e.is=0->e.known=false->a=T.r e.i.m.toNat):dn prog T (yC e size a)∧(yC e size a).K=e.K:=by
 by_cases f:(ak e.i.op≠3∧ak e.i.op≠4)∨e.is≠0∨e.known=true
 ·unfold yC;rw[aa f];exact⟨h,rfl⟩
 have i:e.is=0:=oT
 have b:e.known=false:=by cases d:e.known with
  |false=>rfl
  |true=>exact absurd (.inr (.inr d)) f
 let⟨o,m,n⟩:=h.wait (.inl i);have c:gy prog e.K:=er λq=>by have:=(h.Zx q).1;omega
 obtain rfl:=k i b;subst l;have j:=m8 (T:=T) c (h.ins c) m n;rw[aa ad]at j;unfold yC;rw[dZ f];split
 ·rename_i g;exact⟨⟨h.ins,h.Zx,λq=>absurd (show e.is=1∨e.is=3 from q) ad,h.wait,λ_ _=>⟨rfl,g⟩,h.st,λq=>⟨(h.Y q).1,rfl⟩,h.run,h.Zs,λ_ _=>rfl,λq=>by have q:ak e.i.op=5:=q;omega,λq=>by have q:ak e.i.op=5:=q;omega,h.gs⟩,rfl⟩
 ·rename_i g;refine⟨⟨h.ins,λq=>absurd c q,λ_=>?_,(λq=>by rcases q with q|q<;>cases q),(λq=>by rw[show e.known=true from q]at b;cases b),.inr (.inr (.inr rfl)),nofun,nofun,nofun,nofun,λq=>by have q:ak e.i.op=5:=q;omega,λq=>by have q:ak e.i.op=5:=q;omega,h.gs⟩,rfl⟩;show cA _=(ew prog T e).2;rw[j];unfold sN;rw[dZ (show ¬kZ _ (gx e.i (T.r e.i.m.toNat)) (a' e.i.op:Nat)=true from g)];unfold cA Gc gx;by_cases d:ak e.i.op=4<;>simp[d]
def G6{prog}{T}{e}(h:dn prog T e){b}(j:b=T.r e.i.x.toNat):dn prog T (uF e b)∧(uF e b).K=e.K:=by
 unfold uF;split
 ·exact⟨h,rfl⟩
 ·rename_i k;have a:ak e.i.op=4:=oT
  have f:e.known=true:=by cases a:e.known with
   |true=>rfl
   |false=>exact absurd (.inr (.inl a)) k
  let⟨l,m,n⟩:=h.wait (.inl oT);have c:gy prog e.K:=er λq=>by have:=(h.Zx q).1;omega
  subst j;have d:=m8 (T:=T) c (h.ins c) m n;rw[aa ad]at d;let⟨g,i⟩:=h.ZB f (.inr a);refine⟨⟨h.ins,λq=>absurd c q,λ_=>?_,(λq=>by rcases q with q|q<;>cases q),h.ZB,.inr (.inr (.inr rfl)),nofun,nofun,nofun,nofun,λq=>by have q:ak e.i.op=5:=q;omega,λq=>by have q:ak e.i.op=5:=q;omega,h.gs⟩,rfl⟩;show cA _=(ew prog T e).2;rw[d];unfold sN;rw[<-g,aa i,aa a];unfold cA;simp[l,a]
def qu{prog}{T}{e}(h:dn prog T e){s}(l:e.known=true->ak e.i.op=3->e.is=0∨e.is=2->s=Cv T.mem e.V (a' e.i.op)):dn prog T (uM e s)∧(uM e s).K=e.K:=by
 unfold uM;split
 ·exact⟨h,rfl⟩
 ·rename_i k;have a:ak e.i.op=3:=oT
  have b:e.known=true:=by cases a:e.known with
   |true=>rfl
   |false=>exact absurd (.inr (.inl a)) k
  have d:e.is=0∨e.is=2:=oT;let⟨g,n,o⟩:=h.wait d;have c:gy prog e.K:=er λq=>by have:=(h.Zx q).1;omega
  obtain rfl:=l b a d;have f:=m8 (T:=T) c (h.ins c) n o;rw[aa ad]at f;let⟨i,j⟩:=h.ZB b (.inl a);refine⟨⟨h.ins,λq=>absurd c q,λ_=>?_,(λq=>by rcases q with q|q<;>cases q),h.ZB,.inr (.inl rfl),nofun,λ_=>.inl g,λq=>by have q:ak e.i.op=4:=q;omega,λ_ _=>b,λq=>by have q:ak e.i.op=5:=q;omega,λq=>by have q:ak e.i.op=5:=q;omega,h.gs⟩,rfl⟩;show cA _=(ew prog T e).2;rw[f];unfold sN;rw[<-i,aa j,dZ (oT:¬ak e.i.op=4)];unfold cA;by_cases m:wr e.i=0<;>simp[g,a,m]
def G7(prog)(T)(no)(f)(r:(gy prog f.K->ak (bm (bf prog f.K)).op≠5)->f.N=b8 f.K):dn prog T (qB no f prog)∧(qB no f prog).K=f.K:=by
 have p:ak MG.op≠5:=dT;have i:∀(x:ai) (a:Int),a≠0->a≠4->a≠5->x={Cs with no:=no,K:=f.K,N:=f.N,i:=x.i,halt:=a,is:=3}->(gy prog f.K->x.i=bm (bf prog f.K))->(¬gy prog f.K->x.i=MG)->ak x.i.op≠5->gE prog ⟨f.K,T.r,T.mem,0⟩=Gc ⟨f.K,T.r,T.mem,0⟩ a 0->dn prog T x∧x.K=f.K:=by
  intro x a E J K D o B e C;let⟨G,H,P,N,F,R,V,S,L,O,U,Q,M⟩:=x;injection D with s t I u v w y z A k l m n;subst s t u v w y z A k l m n;refine⟨⟨o,λq=>⟨rfl,B q⟩,λ_=>?_,(λq=>by rcases q with q|q<;>cases q),nofun,.inr (.inr (.inr rfl)),nofun,nofun,nofun,nofun,λq=>absurd q e,λq=>absurd q e,λ_=>r λq=>by have:=o q;simp only at this e;rwa [this]at e⟩,rfl⟩;show cA _=(gE prog _).2;rw[C];unfold cA Gc;simp only;rw[aa E,dZ ad]
 unfold qB;split
 ·rename_i b;apply i _ 1 dT dT dT rfl (λq=>by have:=q.1;rw[b]at this;cases this) (λ_=>rfl) p;unfold gE;rw[aa rfl,dZ (by rw[b];decide)]
 ·rename_i b
  have b:(ek prog f.K).isSome=true:=by cases h:(ek prog f.K).isSome with
   |true=>rfl
   |false=>exact absurd h b
  split
  ·rename_i c;apply i _ 2 dT dT dT rfl (λq=>absurd c q.2) (λ_=>rfl) p;unfold gE;rw[aa rfl,aa b,aa c]
  ·rename_i c;have j:gy prog f.K:=⟨b,c⟩;split
   ·rename_i d;apply i _ 6 dT dT dT rfl (λ_=>rfl) (λq=>absurd j q) (by simp[d];decide);unfold gE;rw[aa rfl,aa b,dZ c];unfold gh;rw[aa (show(rA prog ⟨f.K,T.r,T.mem,0⟩).op=47 from d)]
   ·rename_i d;split
    ·rename_i g;apply i _ 7 dT dT dT rfl (λ_=>rfl) (λq=>absurd j q) (by simp[g];decide);unfold gE;rw[aa rfl,aa b,dZ c];unfold gh;rw[dZ (show ¬(rA prog ⟨f.K,T.r,T.mem,0⟩).op=47 from d),aa (show(rA prog ⟨f.K,T.r,T.mem,0⟩).op=48 from g)]
    ·rename_i g;exact⟨⟨λ_=>rfl,λq=>absurd j q,(λq=>by rcases q with q|q<;>cases q),λ_=>⟨rfl,d,g⟩,nofun,.inl rfl,nofun,nofun,nofun,nofun,nofun,nofun,r⟩,rfl⟩
def vn(m)(a)(b)(h:a+b.size<=m.size)(i):gb (DD m a b) i=(dd ⟨a,b⟩ i).or (gb m i):=by
 unfold gb dd DD;have f:m.data.toList.length=m.size:=cV;have e:b.data.toList.length=b.size:=cV;have c:(m.data.toList.take a).length=a:=by rw[aM];omega
 rw[<-bQ, <-bQ];show((m.data.toList.take a++b.data.toList)++m.data.toList.drop (a+b.size))[i]?=_;by_cases d:i<a
 ·rw[dZ (oT:¬a<=i),eD,cF ad,List.getElem?_take_of_lt d];rfl
 rw[aa (oT:a<=i)];by_cases c2:i<a+b.size
 ·rw[cF (by rw[aU];omega),bM ad,c];show _=(gb b _).or _;unfold gb;rw[<-bQ,aA ad];rfl
 rw[bM (by rw[aU];omega),aU,c,e,cL,(oT:a+b.size+(i-(a+b.size))=i)];show _=(gb b _).or _;rw[j2 ad];rfl
def u1(m)(a)(b)(h:a+b.size<=m.size):(DD m a b).size=m.size:=by
 have d:m.data.toList.length=m.size:=cV;have c:b.data.toList.length=b.size:=cV;show(m.data.toList.take a++b.data.toList++m.data.toList.drop _).toArray.size=_;rw[kP,aU,aU,aM,bD];omega
def m9{n:Nat}{a}{k}(h:kZ (n:Int) a (k:Nat)=true):(k=1∨k=2∨k=4)∧a+k<=n:=by
 unfold kZ at h;simp[aP,aY]at h;omega
def vo{prog}{T}{e}(h:dn prog T e):
  (ak e.i.op≠4->(ew prog T e).1.mem=T.mem)∧
  (ak e.i.op=4->e.known=true->e.halt=0∧(ew prog T e).1.mem=DD T.mem e.V (oF (T.r e.i.x.toNat) (a' e.i.op))∧(e.is=3->oF e.value (a' e.i.op)=oF (T.r e.i.x.toNat) (a' e.i.op))):=by
 constructor
 ·intro d;by_cases f:gy prog e.K
  ·have n:rA prog ⟨e.K,T.r,T.mem,0⟩=e.i:=(h.ins f).symm;unfold ew gE;rw[aa rfl,aa f.1,dZ f.2,n];unfold gh sN oN IJ Gc;rw[dZ d]
   (repeat' split)<;>rfl
  unfold ew gE Gc;rw[aa rfl];unfold gy at f;split
  ·split
   ·rfl
   rename_i a b;exact absurd ⟨a,b⟩ f
  rfl
 intro d j;let⟨k,l⟩:=h.ZB j (.inr d);have f:gy prog e.K:=er λq=>by rw[(h.Zx q).2]at d;revert d;decide
 have o:=(vi e.i.op).2.1.1 d;have g:=m8 (T:=T) f (h.ins f) ad ad;rw[aa (.inr d)]at g;unfold sN at g;rw[<-k,aa l,aa d]at g;refine⟨?_,by rw[g],λm=>?_⟩
 ·rcases h.st with q|q|q|q
  ·exact(h.wait (.inl q)).1
  ·exact absurd q (h.Zs d)
  ·exact(h.wait (.inr q)).1
  have c:=h.told (.inr q);rw[g]at c;unfold cA at c;split at c
  ·rename_i i;have:=az Sp.halt c;exact absurd this i
  rename_i i;exact b'.1 i
 have c:=h.told (.inr m);rw[g]at c;unfold cA at c;split at c
 ·rename_i i;have:=az Sp.halt c;exact absurd this i
 have:=az Sp.value c;simp only at this;rw[this,ut]
def Eh{prog}{T}{e}:(ew prog T e).1.mem.size=T.mem.size:=by
 have b:=lz prog (s:=⟨e.K,T.r,T.mem,0⟩) rfl;show(gE prog _).1.mem.size=_;rw[b.mem];split
 ·rename_i d;let⟨_,f,a⟩:=b.st d;let⟨k,c⟩:∃k:Nat,(gE prog ⟨e.K,T.r,T.mem,0⟩).2.size=(k:Int):=⟨_,(lU ad).symm⟩;rw[c]at a⊢;exact u1 _ _ _ (by rw[mP];exact(m9 a).2)
 rfl
theorem kh{prog:List Nat}:∀{T:St} (l:List ai),(c3 prog T l).mem.size=T.mem.size
 |T,[]=>rfl
 |T,e::l=>by rw[lR,kh l,Eh]
def wl(prog:List Nat):St->List ai->List Pt
 |_,[]=>[]
 |T,e::l=>(if gj e 4=true then [⟨e.V,oF (T.r e.i.x.toNat) (a' e.i.op)⟩]else [])++wl prog (ew prog T e).1 l
def qv(prog:List Nat)(T:St)(e:ai)(l:List ai):wl prog T (e::l)=(if gj e 4=true then [⟨e.V,oF (T.r e.i.x.toNat) (a' e.i.op)⟩]else [])++wl prog (ew prog T e).1 l:=rfl
def jg{e}{k}:gj e k=true↔ak e.i.op=k:=by unfold gj;exact decide_eq_true_iff
def qk{e}(h:Aw e=false)(b:ak e.i.op=4):e.known=true∧e.halt=0:=by
 unfold Aw at h;rw[jg.2 b]at h;cases a:e.known<;>simp[a]at h⊢
 exact h
theorem qw{prog:List Nat}:∀{T:St} {l:List ai},hU prog T l->l.any Aw=false->∀i,gb (c3 prog T l).mem i=(fl (wl prog T l) i).or (gb T.mem i)
 |T,[],_,_,i=>rfl
 | T,e::l,h,b,i=>by
  rw[List.any_cons,dP]at b;have c:=vo h.1;rw[lR,qw h.2 b.2];rw[qv,qn];by_cases a:ak e.i.op=4
  ·let⟨d,g⟩:=qk b.1 a;let⟨_,f⟩:=h.1.ZB d (.inr a);rw[(c.2 a d).2.1,aa (jg.2 a),vn _ _ _ (by rw[mP];exact(m9 f).2)];show _=((fl _ i).or ((dd _ i).or none)).or _;rw[Option.or_none,Option.or_assoc]
  ·rw[c.1 a,dZ (λq=>a (jg.1 q))];show _=((fl _ i).or none).or _;rw[Option.or_none]
def Al(s:Std)(p:Pt):Prop:=s.V=p.V∧s.size=p.data.size∧(s.there=true->s.data=p.data)
def ju:List Std->List Pt->Prop
 |[],[]=>True
 |s::l,p::k=>Al s p∧ju l k
 |_,_=>False
theorem qx:∀{a:List Std} {p:List Pt} {b:List Std} {q:List Pt},ju a p->ju b q->ju (a++b) (p++q)
 |[],[],_,_,_,h=>h
 |_::_,_::_,_,_,⟨c,d⟩,h=>⟨c,qx d h⟩
 |[],_::_,_,_,h,_=>h.elim
 |_::_,[],_,_,h,_=>h.elim
theorem qy:∀{a:List Std} {p:List Pt},ju a p->ju a.reverse p.reverse
 |[],[],_=>trivial
 |_::_,_::_,⟨b,c⟩=>by rw[List.reverse_cons,List.reverse_cons];exact qx (qy c) ⟨b,trivial⟩
 |[],_::_,h=>h.elim
 |_::_,[],h=>h.elim
theorem u2:∀(l:List Pt),ju (l.map CY) l
 |[]=>trivial
 |p::l=>⟨⟨rfl,rfl,λ_=>rfl⟩,u2 l⟩
theorem vl{prog:List Nat}:∀{T:St} {l:List ai},hU prog T l->l.any Aw=false->ju ((l.filter λe=>gj e 4).map Fg) (wl prog T l)
 |T,[],_,_=>trivial
 | T,e::l,h,b=>by
  rw[List.any_cons,dP]at b;have ih:=vl h.2 b.2;rw[qv];by_cases a:ak e.i.op=4
  ·let⟨f,g⟩:=qk b.1 a;have c:=((vo h.1).2 a f).2.2;rw[List.filter_cons_of_pos (p:=λe=>gj e 4) (jg.2 a),aa (jg.2 a)];refine⟨⟨rfl,(mP _ _).symm,λd=>c ?_⟩,ih⟩;exact bj d
  ·rw[List.filter_cons_of_neg (p:=λe=>gj e 4) (λq=>a (jg.1 q)),dZ (λq=>a (jg.1 q))];exact ih
def kt:List Pt->Nat->Option UInt8
 |[],_=>none
 |p::l,i=>(dd p i).or (kt l i)
theorem ox:∀(a b:List Pt) (i:Nat),kt (a++b) i=(kt a i).or (kt b i)
 |[],_,_=>rfl
 |p::a,b,i=>by show(dd p i).or (kt (a++b) i)=_;rw[ox a b, <-Option.or_assoc];rfl
theorem m4:∀(l:List Pt) (i:Nat),kt l.reverse i=fl l i
 |[],_=>rfl
 |p::l,i=>by
  rw[List.reverse_cons,ox,m4 l,lS];show _=_;congr 1;show(dd p i).or none=_;rw[Option.or_none]
theorem vd{at_ n:Nat}(o:0<n):∀{L:List Std} {P:List Pt},ju L P->
  ((xK at_ n L).1=2->∀j,j<n->kt P (at_+j)=none)∧
  ((xK at_ n L).1=1->(xK at_ n L).2.size=n∧∀j,j<n->kt P (at_+j)=gb (xK at_ n L).2 j)
 |[],[],_=>⟨λ_ _ _=>rfl,λh=>by cases h⟩
 |[],_::_,h=>h.elim
 |_::_,[],h=>h.elim
 | s ::L,p::P,⟨⟨f,k,l⟩,h⟩=>by
  have ih:=vd (at_:=at_) o h;unfold xK;have c:∀j,h7 s.V s.size at_ n=false->j<n->dd p (at_+j)=none:=λj b a=>by
   unfold h7 at b;simp[Bool.and_eq_false_iff,mA]at b;unfold dd;split
   ·refine j2 ?_;rw[<-k, <-f];rename_i q;rw[<-f]at q;omega
   ·rfl
  split
  ·rename_i b;refine⟨λq j a=>?_,λq=>⟨(ih.2 q).1,λj a=>?_⟩⟩
   ·show(dd p _).or _=none;rw[c j b a,ih.1 q j a];rfl
   ·show(dd p _).or _=_;rw[c j b a,(ih.2 q).2 j a];rfl
  ·split
   ·exact⟨nofun,nofun⟩
   ·rename_i b g
    have e:Fh s.V s.size at_ n=true:=by cases d:Fh s.V s.size at_ n with
     |true=>rfl
     |false=>exact absurd (.inl d) g
    have i:s.there=true:=by cases d:s.there with
     |true=>rfl
     |false=>exact absurd (.inr d) g
    unfold Fh at e;simp[aP,aY]at e;have m:=l i;rw[m];refine⟨nofun,λ_=>⟨?_,λj a=>?_⟩⟩
    ·show(p.data.extract _ _).size=n;rw[dA];omega
    ·show(dd p (at_+j)).or _=gb (p.data.extract _ _) j;rw[j3,aa ad];unfold dd;rw[aa ad,(oT:at_+j-p.V=at_-s.V+j)];have:gb p.data (at_-s.V+j)≠none:=by
      unfold gb;rw[Ne,Array.getElem?_eq_none_iff];have:p.data.data.size=p.data.size:=rfl;omega
     cases d:gb p.data (at_-s.V+j)with
     |none=>exact absurd d this
     |some v=>rfl
def jn(e x:ai):Bool:= !gj x 4||(x.known&&decide (x.halt=0)&& !h7 x.V (a' x.i.op) e.V (a' e.i.op))
def mw{e x}:jn e x=true↔(ak x.i.op=4->x.known=true∧x.halt=0∧h7 x.V (a' x.i.op) e.V (a' e.i.op)=false):=by
 unfold jn;by_cases a:ak x.i.op=4
 ·rw[jg.2 a];simp[a,uK]
 rw[show gj x 4=false by cases h:gj x 4 with|false=>rfl|true=>exact absurd (jg.1 h) a];simp[a]
theorem u3{at_ n:Nat}:∀{L:List Std},(xK at_ n L).1=2->∀s∈L,h7 s.V s.size at_ n=false
 |[],_,s,h=>by cases h
 | x::L,a,s,h=>by
  unfold xK at a;split at a
  ·rename_i b;rcases dk.1 h with rfl|h
   ·exact b
   ·exact u3 a s h
  ·split at a
   ·cases a
   ·cases a
def G8{agI}{agF}{i}{e}(d:agI[i]?=some e)(h:(lL agI agF i).1=2):(agI.take i).all (jn e)=true:=by
 unfold lL at h;rw[d]at h;simp only at h;split at h
 ·cases h
 split at h
 ·cases h
 rename_i g;rw[rC];intro x c;refine mw.2 λa=>?_;have b:Aw x=false:=by
  cases f:Aw x with
  |false=>rfl
  |true=>exact absurd (Mv.2 ⟨x,c,f⟩) g
 let⟨j,k⟩:=qk b a;refine⟨j,k,?_⟩;apply u3 h (Fg x);unfold FW;rw[cx,List.mem_reverse,pG];exact .inl ⟨x,List.mem_filter.2 ⟨c,jg.2 a⟩,rfl⟩
def D8{e}{l:List ai}(h:l.all (jn e)=true):l.any Aw=false:=by
 rw[List.any_eq_false];intro x b a;have:=mw.1 (rC.1 h x b);unfold Aw at a;rw[aP,jg]at a;let⟨c,d,_⟩:=this a.1;rw[c,d]at a;simp at a
theorem v4{prog:List Nat}:∀{T:St} {l:List ai} {p:Pt},p∈wl prog T l->∃x∈l,ak x.i.op=4∧p.V=x.V∧p.data.size=a' x.i.op
 |T,[],p,h=>by cases h
 | T,e::l,p,h=>by
  rw[qv,cx]at h;rcases h with h|h
  ·split at h
   ·rename_i a;rw[uJ]at h;subst h;exact⟨e,b9,jg.1 a,rfl,mP _ _⟩
   ·cases h
  ·let⟨x,b,h⟩:=v4 h;exact⟨x,bY _ b,h⟩
def G9{a b}{k n}(d:a.size=b.size)(e:k+n<=a.size)(h:∀j,j<n->gb a (k+j)=gb b (k+j)):Cv a k n=Cv b k n:=by
 unfold Cv;refine mq (by rw[dA,dA,d]) λj c=>?_;rw[dA]at c;rw[j3,j3, <-d,aa c,aa c];exact h j ad
def u4{prog:List Nat}{T:St}{l:List ai}{e:ai}(h:hU prog T l)(a:l.all (jn e)=true)(k:kZ T.mem.size e.V (a' e.i.op)=true):Cv (c3 prog T l).mem e.V (a' e.i.op)=Cv T.mem e.V (a' e.i.op):=by
 let⟨o,g⟩:=m9 k;refine G9 (kh l) (by rw[kh];exact g) λj n=>?_;have c:∀p∈wl prog T l,dd p (e.V+j)=none:=by
  intro p hp;let⟨x,m,i,d,f⟩:=v4 hp;let⟨_,_,b⟩:=mw.1 (rC.1 a x m) i;unfold h7 at b;simp[Bool.and_eq_false_iff,mA]at b;unfold dd;split
  ·apply j2;rw[f];rename_i q;rw[d]at q⊢;omega
  rfl
 rw[qw h (D8 a),qq c];rfl
def Ei{prog:List Nat}{T:St}{agI:List ai}{agF:List Pt}{u:Nat->Option UInt8}(h:hU prog T agI){i:Nat}{e:ai}(f:agI[i]?=some e)(m:kZ T.mem.size e.V (a' e.i.op)=true)
  (n:∀i,i<T.mem.size->gb T.mem i=(fl agF i).or (u i)) (a:(lL agI agF i).1=1):(lL agI agF i).2=Cv (c3 prog T (agI.take i)).mem e.V (a' e.i.op):=by
 obtain⟨s,q⟩:=m9 m;obtain⟨r,p⟩:=Em.1 f;have d:hU prog T (agI.take i):=by
  have:agI=agI.take i++agI.drop i:=(kb _ _).symm;rw[this]at h;exact(mz.1 h).1
 unfold lL at a⊢;rw[f]at a⊢;simp only at a⊢;split at a
 ·cases a
 rename_i k;split at a
 ·cases a
 rename_i b;rw[dZ k,dZ b]
 have b:(agI.take i).any Aw=false:=by cases l:(agI.take i).any Aw with
  |false=>rfl
  |true=>exact absurd l b
 have hA:ju (FW (agI.take i) agF) ((wl prog T (agI.take i)).reverse++agF.reverse):=qx (qy (vl d b)) (qy (u2 agF));obtain⟨s1,aq⟩:=(vd (at_:=e.V) (n:=a' e.i.op) ad hA).2 a;unfold Cv;refine mq (by rw[s1,dA,kh];omega) λj c=>?_;rw[s1]at c;rw[j3,aa (by rw[kh];omega), <-aq j c,qw d b,n _ ad,ox,m4,m4];have g:(fl (wl prog T (agI.take i)) (e.V+j)).or (fl agF (e.V+j))≠none:=by
  rw[<-m4, <-m4 (l:=agF), <-ox,aq j c];unfold gb;rw[Ne,Array.getElem?_eq_none_iff];have:(xK e.V (a' e.i.op) (FW (agI.take i) agF)).2.data.size=_:=s1;omega
 rw[<-Option.or_assoc]
 cases o:(fl (wl prog T (agI.take i)) (e.V+j)).or (fl agF (e.V+j))with
 |none=>exact absurd o g
 |some v=>rfl
structure RI(prog:List Nat)(s:St)(l:List ai):Prop where
 ok:hU prog s l
 Y:∀i e,l[i]?=some e->e.is=2->(l.take i).all (jn e)=true
theorem q0{prog:List Nat}:∀{T:St} {l:List ai},(∀k e,l[k]?=some e->dn prog (c3 prog T (l.take k)) e)->hU prog T l
 |T,[],_=>trivial
 |T,e::l,h=>⟨h 0 e rfl,q0 λk x a=>h (k+1) x a⟩
theorem RI.take{prog}{s}{l}(h:RI prog s l)(n):RI prog s (l.take n):=by
 refine⟨q0 λk e bb=>?_,λi e bb h2=>?_⟩
 all_goals
  rw[cU]at bb;split at bb
  ·rename_i a;rw[List.take_take,ll ad]
   first|exact jf h.ok bb|exact h.Y i e bb h2
  cases bb
def E1{e b x a}(j:a.i=x.i)(k:ak x.i.op=4->x.known=true->x.halt=0->a.known=true∧a.halt=0∧a.V=x.V)(d:b.i=e.i∧b.V=e.V)(h:jn e x=true):jn b a=true:=by
 refine mw.2 λc=>?_;rw[j]at c⊢;let⟨f,g,i⟩:=mw.1 h c;let⟨l,m,n⟩:=k c f g;exact⟨l,m,by rw[n,d.1,d.2];exact i⟩
structure fp(e e':ai):Prop where
 K:e'.K=e.K
 i:e'.i=e.i
 g:e'.N=e.N
 st:ak e.i.op=4->e.known=true->e.halt=0->e'.known=true∧e'.halt=0∧e'.V=e.V
theorem fp.refl(e):fp e e:=⟨rfl,rfl,rfl,λ_ a b=>⟨a,b,rfl⟩⟩
def q9{l a:List ai}(f:a.length=l.length)(h:∀(k:Nat) e c,l[k]?=some e->a[k]?=some c->fp e c):a.map (λe=>(e.K,e.N))=l.map (λe=>(e.K,e.N)):=by
 apply dD;intro k;rw[aX,aX]
 cases b:l[k]? with
 |none=>rw[bE (by rw[f];exact List.getElem?_eq_none_iff.1 b)]
 |some e=>
  let⟨g,_⟩:=Em.1 b;have d:=aA (l:=a) (i:=k) ad;rw[d];have:=h k e _ b d;simp[this.K,this.g]
theorem RI.YP{prog}{s}{l d}(h:RI prog s l)(u:d.length=l.length)(g:∀(k:Nat) e a,l[k]?=some e->d[k]?=some a->fp e a)
  (hk:∀(k:Nat) e a,l[k]?=some e->d[k]?=some a->dn prog (c3 prog s (l.take k)) e->dn prog (c3 prog s (l.take k)) a)
  (r:∀(k:Nat) e a,l[k]?=some e->d[k]?=some a->a.is=2->(e.is=2∧a.V=e.V)∨(d.take k).all (jn a)=true):RI prog s d:=by
 have f:∀k a,d[k]?=some a->∃e,l[k]?=some e:=λk a c=>by
  let⟨hk,_⟩:=Em.1 c;exact⟨_,aA ad⟩
 have hp:∀k,(d.take k).map _=(l.take k).map _:=λk=>by
  have:=az (List.map Prod.fst) (q9 u g);rw[List.map_map,List.map_map]at this;rw[eO,eO];exact az _ this
 refine⟨q0 λk a c=>?_,λk a c q=>?_⟩
 ·let⟨e,h1⟩:=f k a c;rw[vb prog s _ _ (hp k)];exact hk k e a h1 c (jf h.ok h1)
 let⟨e,h1⟩:=f k a c;rcases r k e a h1 c q with ⟨o,p⟩|b
 ·have:=h.Y k e h1 o;rw[rC]at this⊢;intro n m;let⟨j,hj⟩:=List.mem_iff_getElem?.1 m;rw[cU]at hj;split at hj
  ·rename_i i;let⟨x,hx⟩:=f j n hj;have t:=g j x n hx hj;exact E1 t.i t.st ⟨(g k e a h1 c).i,p⟩ (this x (List.mem_iff_getElem?.2 ⟨j,by rw[cU,aa i];exact hx⟩))
  cases hj
 exact b
theorem RI.map{prog}{s}{l}(h:RI prog s l)(f)(j:∀e∈l,fp e (f e))(i:∀k e,l[k]?=some e->dn prog (c3 prog s (l.take k)) e->dn prog (c3 prog s (l.take k)) (f e))(g:∀e∈l,(f e).is=2->e.is=2∧(f e).V=e.V):RI prog s (l.map f):=by
 have d:∀k e c,l[k]?=some e->(l.map f)[k]?=some c->c=f e:=λk e c a b=>by
  rw[aX,a]at b;injection b with b;exact b.symm
 refine h.YP (aH ..) (λk e c a b=>?_) (λk e c a b q=>?_) (λk e c a b q=>?_)
 ·rw[d k e c a b];exact j e (aB a)
 ·rw[d k e c a b];exact i k e a q
 rw[d k e c a b]at q⊢;exact .inl (g e (aB a) q)
theorem RI.set{prog}{s}{l}(h:RI prog s l){k}{e f}(m:l[k]?=some e)(p:fp e f)(o:dn prog (c3 prog s (l.take k)) e->dn prog (c3 prog s (l.take k)) f)(n:f.is=2->(e.is=2∧f.V=e.V)∨(l.take k).all (jn f)=true):RI prog s (l.set k f):=by
 let⟨bb,_⟩:=Em.1 m;have g:∀j x d,l[j]?=some x->(l.set k f)[j]?=some d->(j=k∧x=e∧d=f)∨(j≠k∧d=x):=λj x d c a=>by
  by_cases i:j=k
  ·subst i;rw[aZ bb]at a;rw[m]at c;injection c with c;injection a with a;exact .inl ⟨rfl,c.symm,a.symm⟩
  rw[kX (λq=>i q.symm),c]at a;injection a with a;exact .inr ⟨i,a.symm⟩
 refine h.YP (cC ..) (λj x d c a=>?_) (λj x d c a q=>?_) (λj x d c a q=>?_)
 ·rcases g j x d c a with ⟨rfl,rfl,rfl⟩|⟨_,rfl⟩
  ·exact p
  exact fp.refl _
 ·rcases g j x d c a with ⟨rfl,rfl,rfl⟩|⟨_,rfl⟩
  ·exact o q
  exact q
 rcases g j x d c a with ⟨rfl,rfl,rfl⟩|⟨_,rfl⟩
 ·rcases n q with b|b
  ·exact .inl b
  exact .inr (by rw[List.take_set_of_le (aC _)];exact b)
 exact .inl ⟨q,rfl⟩
def vu(e)(a:ak e.i.op=4->e.is≠1):fp e (a0 e):=by
 unfold a0;split
 ·exact fp.refl _
 rename_i h;split<;>exact⟨rfl,rfl,rfl,λq=>absurd q (λq=>a q ad)⟩
def u5(e)(b):fp e (uF e b):=by
 unfold uF;split
 ·exact fp.refl _
 exact⟨rfl,rfl,rfl,λ_ a b=>⟨a,b,rfl⟩⟩
def m5(e)(s):fp e (uM e s):=by
 unfold uM;split
 ·exact fp.refl _
 exact⟨rfl,rfl,rfl,λ_ a b=>⟨a,b,rfl⟩⟩
def u6(e)(a b):fp e (rJ e a b):=by
 unfold rJ
 (repeat' split)<;>first|exact fp.refl _|exact⟨rfl,rfl,rfl,λq=>absurd q ad⟩
def m6(e)(n)(a):fp e (yC e n a):=by
 unfold yC;split
 ·exact fp.refl _
 rename_i b;split<;>exact⟨rfl,rfl,rfl,λ_ q=>absurd (.inr (.inr q)) b⟩
theorem RI.go{prog}{s}{l}(h:RI prog s l):RI prog s (l.map a0):=by
 refine h.map a0 (λe b=>?_) (λk e _ q=>(J1 q).1) (λe b q=>?_)
 ·let⟨k,hk⟩:=List.mem_iff_getElem?.1 b;exact vu e (jf h.ok hk).Zs
 unfold a0 at q⊢;split at q
 ·rename_i a;rw[aa a];exact⟨q,rfl⟩
 split at q
 ·cases q
 rename_i a _;have q:e.is=2:=q;omega
theorem RI.putAt{prog}{s}{l}(h:RI prog s l)(j:s.r 0=0)(i):RI prog s (e6 s.r l i)∧(e6 s.r l i).length=l.length∧(e6 s.r l i).map (λe=>(e.K,e.N))=l.map (λe=>(e.K,e.N)):=by
 unfold e6;split
 ·rename_i e d;split
  ·split
   ·rename_i b g;let⟨bb,_⟩:=Em.1 d;refine⟨h.set d (u5 e b) (λq=>(G6 q (vj h.ok j (Nat.le_of_lt bb) g)).1) (λq=>.inl ?_),cC ..,?_⟩
    ·unfold uF at q⊢;split at q
     ·rename_i c;rw[aa c];exact⟨q,rfl⟩
     cases q
    refine q9 (cC ..) λk x m c a=>?_;by_cases f:i=k
    ·subst f;rw[aZ bb]at a;rw[d]at c;injection c with c;injection a with a;subst c a;exact u5 _ _
    rw[kX f,c]at a;injection a with a;subst a;exact fp.refl _
   exact⟨h,rfl,rfl⟩
  exact⟨h,rfl,rfl⟩
 exact⟨h,rfl,rfl⟩
theorem RI.YZ{prog:List Nat}{s:St}{l:List ai}(h:RI prog s l)(a:s.r 0=0):∀n,RI prog s (bt s.r l n)∧(bt s.r l n).length=l.length∧(bt s.r l n).map (λe=>(e.K,e.N))=l.map (λe=>(e.K,e.N))
 |0=>⟨h,rfl,rfl⟩
 |n+1=>by
  let⟨h1,h2,h3⟩:=h.YZ a n;let⟨bb,b4,cs⟩:=h1.putAt a n;exact⟨bb,b4.trans h2,cs.trans h3⟩
def j8:Nat->List (Nat×Nat)->Nat->Prop
 |a,[],z=>a=z
 |a,p::l,z=>p.1=a∧j8 p.2 l z
theorem m0:∀{a:Nat} {l m:List (Nat×Nat)} {z:Nat},j8 a (l++m) z↔∃y,j8 a l y∧j8 y m z
 |a,[],m,z=>⟨λh=>⟨a,rfl,h⟩,λ⟨y,b,c⟩=>by cases b;exact c⟩
 |a,p::l,m,z=>by
  show p.1=a∧j8 p.2 (l++m) z↔_;rw[m0];exact⟨λ⟨h,y,b,c⟩=>⟨y,⟨h,b⟩,c⟩,λ⟨y,⟨h,b⟩,c⟩=>⟨h,y,b,c⟩⟩
def hV(l:List ai):List (Nat×Nat):=l.map λe=>(e.K,e.N)
def mx(l:List Ft):List (Nat×Nat):=l.map λf=>(f.K,f.N)
def q7(prog:List Nat)(f:Ft):Prop:=(gy prog f.K->ak (bm (bf prog f.K)).op≠5)->f.N=b8 f.K
structure Iv(prog:List Nat)(c:Co)(s:St):Prop where
 pr:c.prog=prog
 r:c.r=s.r
 z:s.r 0=0
 mem:Xr c=s.mem
 halt:c.halt=s.halt
 hl:c.halt≠0->c.Z=[]
 ri:RI prog s c.Z
 ch:c.halt=0->∃z,j8 s.K (hV c.Z++mx c.Q) z∧(c.stop=false->c.M=z)
 Y0:∀f∈c.Q,q7 prog f
theorem Iv.same{prog}{c d}{s}(h:Iv prog c s)(f:d.prog=c.prog)(g:d.r=c.r)(i:Xr d=Xr c)(a:d.halt=c.halt)(e:d.Q=c.Q)(j:d.M=c.M)(k:d.stop=c.stop)(b:hV d.Z=hV c.Z)(l:RI prog s d.Z):Iv prog d s:=by
 refine⟨f.trans h.pr,g.trans h.r,h.z,i.trans h.mem,a.trans h.halt,λq=>?_,l,λq=>?_,by rw[e];exact h.Y0⟩
 ·have:=h.hl (by rwa [a]at q);rw[this]at b;exact List.map_eq_nil_iff.1 b
 rw[b,e,k,j];exact h.ch (by rwa [a]at q)
theorem Iv.fill{prog}{c}{s}(f:RI prog s c.Z)(j:Xr c=s.mem)(agY):RI prog s (c.Z.map (wO c agY))∧hV (c.Z.map (wO c agY))=hV c.Z:=by
 have d:∀e,fp e (wO c agY e):=λe=>by
  unfold wO;split
  ·have:=m5 {e with Z4:=true} (oL c e);exact⟨this.K,this.i,this.g,this.st⟩
  exact fp.refl _
 refine⟨f.map _ (λe _=>d e) (λk e h q=>?_) (λe _ q=>?_),?_⟩
 ·unfold wO;split
  ·rename_i b;refine(qu (e:={e with Z4:=true}) ⟨q.ins,q.Zx,q.told,q.wait,q.ZB,q.st,q.Y,q.run,q.Zs,q.ahead,q.Zf,q.YV,q.gs⟩ λi g _=>?_).1;let⟨_,bb⟩:=q.ZB i (.inl g);rw[kh]at bb;show oL c e=_;unfold oL;rw[j,aa bb];exact(u4 ((f.take k).ok) (f.Y k e h b.1) bb).symm
  exact q
 ·unfold wO at q⊢;split at q
  ·rename_i a;rw[aa a];unfold uM at q⊢;split at q
   ·rename_i b;rw[aa b];exact⟨q,rfl⟩
   cases q
  rename_i a;rw[dZ a];exact⟨q,rfl⟩
 unfold hV;rw[List.map_map];exact iB λe _=>by show(_,_)=_;rw[(d e).K,(d e).g]
theorem Iv.ZL{prog}{c}{s}(h:Iv prog c s)(a:c.mc)(d:∀x∈c.Y,x.ok):Iv prog (lM c) s:=by
 have b:(lM c).W=c.W:=by
  unfold lM ID oK
  (repeat' split)<;>rfl
 have hA:=m_ (lW a d) b
 revert hA
 unfold lM;split
 rename_i q x ok _;split
 ·unfold ID;split
  ·intro hA;let⟨f1,f2⟩:=Iv.fill (c:={c with Y:=q}) h.ri (hA.trans h.mem) x.R;exact h.same rfl rfl hA rfl rfl rfl rfl f2 f1
  split
  ·exact λhA=>h.same rfl rfl hA rfl rfl rfl rfl rfl h.ri
  split
  ·intro hA;unfold oK at hA⊢;exact h.same rfl rfl hA rfl rfl rfl rfl rfl h.ri
  split
  ·exact λhA=>h.same rfl rfl hA rfl rfl rfl rfl rfl h.ri
  exact λhA=>h.same rfl rfl hA rfl rfl rfl rfl rfl h.ri
 exact λhA=>h.same rfl rfl hA rfl rfl rfl rfl rfl h.ri
def NW(l:List ai):Prop:=∀e∈l,Nj e=false
theorem Iv.ZN{prog}{c}{s}(h:Iv prog c s):Iv prog (kK c) s∧NW (kK c).Z:=by
 unfold kK;split
 ·rename_i d;exact⟨h,by rw[h.hl d];intro e b;cases b⟩
 rename_i d;have d:c.halt=0:=b'.1 d;let⟨b4,ds,c'⟩:=(h.ri.go).YZ h.z c.Z.length;have B:br c=bt s.r (c.Z.map a0) c.Z.length:=by unfold br;rw[h.r]
 rw[<-B]at b4 ds c';have r:hV (br c)=hV c.Z:=by
  unfold hV;rw[c',List.map_map];refine iB λe b=>?_;let⟨k,hk⟩:=List.mem_iff_getElem?.1 b;have:=vu e (jf h.ri.ok hk).Zs;show(_,_)=_;rw[this.K,this.g]
 split
 ·rename_i i u;unfold yD at u;let⟨cs,bb,dr⟩:=List.findIdx?_eq_some_iff_getElem.1 u;have b:(br c)[i]?=some (br c)[i]:=aA cs;generalize A:(br c)[i]=e at b bb;rw[b];have n:dl (br c) i=(br c).take i++[{e with N:=e.next}]:=by unfold dl;rw[b]
  rw[n];have l:ak e.i.op=5∧e.known=true∧e.next≠e.N:=by
   unfold Nj at bb;simp[aP,aY]at bb;exact⟨bb.1.1,bb.1.2,bb.2⟩
  have m:=b4.take i;have a:=jf b4.ok b;have g:RI prog s ((br c).take i++[{e with N:=e.next}]):=by
   refine⟨mz.2 ⟨m.ok,⟨a.ins,a.Zx,a.told,a.wait,a.ZB,a.st,a.Y,a.run,a.Zs,a.ahead,a.Zf,a.YV,λq=>?_⟩,trivial⟩,λj x hj h2=>?_⟩
   ·by_cases t:gy prog e.K
    ·exact absurd l.1 (q t)
    have:=(a.Zx t).2;rw[this]at l;exact absurd l.1 dT
   by_cases c0:j<i
   ·have o:j<((br c).take i).length:=by rw[aM];omega
    rw[cF o]at hj;rw[List.take_append_of_le_length ad];exact m.Y j x hj h2
   have o:((br c).take i).length=i:=by rw[aM];omega
   rw[bM ad,o]at hj;rcases fk (j-i) 1 with q|q
   ·rw[(oT:j-i=0)]at hj;injection hj with hj;subst hj;have D:=(a.Y h2).1;exact absurd l.1 ad
   rw[bE (sU q)]at hj;cases hj
  refine⟨⟨h.pr,h.r,h.z,h.mem,h.halt,λq=>absurd d q,g,λ_=>?_,λf C=>by cases C⟩,?_⟩
  ·let⟨gf,hz,_⟩:=h.ch d;let⟨y,hy,_⟩:=m0.1 hz;rw[<-r]at hy;have w:br c=(br c).take i++(e::(br c).drop (i+1)):=by
    rw[<-A, <-bF cs,kb]
   rw[w]at hy;unfold hV at hy;rw[dH]at hy;let⟨em,h1,h2⟩:=m0.1 hy;refine⟨e.next,?_,λ_=>rfl⟩;show j8 s.K (hV _++[]) _;rw[dY];unfold hV;rw[dH];exact m0.2 ⟨em,h1,h2.1,rfl⟩
  intro x hx;rcases cx.1 hx with hx|hx
  ·let⟨j,hj⟩:=List.mem_iff_getElem?.1 hx;rw[cU]at hj;split at hj
   ·rename_i v;let⟨fz,c0⟩:=Em.1 hj;have:=dr j v;rw[c0]at this;exact Bool.eq_false_iff.2 this
   cases hj
  rw[uJ]at hx;subst hx;unfold Nj;simp
 rename_i p;unfold yD at p;rw[List.findIdx?_eq_none_iff]at p;exact⟨h.same rfl rfl rfl rfl rfl rfl rfl r b4,λe b=>p e b⟩
def H6(a)(f)(prog):(qB a f prog).N=f.N∧(qB a f prog).is≠2:=by
 unfold qB;(repeat' split)<;>first|exact⟨rfl,(dT:(3:Int)≠2)⟩|exact⟨rfl,(dT:(0:Int)≠2)⟩
theorem Iv.enter{prog}{c}{s}(h:Iv prog c s){f}{l}(b:c.Q=f::l)(e:c.halt=0):Iv prog {c with Z:=c.Z++[qB c.next f c.prog],next:=wrap64 (c.next+1),Q:=l} s:=by
 let⟨bb,b4⟩:=G7 prog (c3 prog s c.Z) c.next f (h.Y0 f (by rw[b];exact b9));let⟨cs,c0⟩:=H6 c.next f prog;rw[h.pr];refine⟨rfl,h.r,h.z,h.mem,h.halt,λq=>absurd e q,⟨mz.2 ⟨h.ri.ok,bb,trivial⟩,λj x a d=>?_⟩,λ_=>?_,λx i=>h.Y0 x (by rw[b];exact bY _ i)⟩
 ·by_cases g:j<c.Z.length
  ·rw[cF g]at a;rw[List.take_append_of_le_length ad];exact h.ri.Y j x a d
  rw[bM ad]at a;rcases fk (j-c.Z.length) 1 with q|q
  ·rw[(oT:j-c.Z.length=0)]at a;injection a with a;subst a;exact absurd d c0
  rw[bE (sU q)]at a;cases a
 let⟨dr,hz,c'⟩:=h.ch e;refine⟨dr,?_,c'⟩;rw[b]at hz;show j8 s.K (hV (c.Z++[_])++mx l) dr;unfold hV;rw[dH,eD];show j8 s.K (hV c.Z++((qB c.next f prog).K,(qB c.next f prog).N)::mx l) dr;rwa[b4,cs]
theorem Iv.Y6{prog:List Nat}{s:St}:∀(n:Nat) {c:Co},Iv prog c s->c.halt=0->Iv prog (kV n c) s∧(kV n c).halt=0
 |0,c,h,bb=>⟨h,bb⟩
 | n+1,c,h,bb=>by
  unfold kV;split
  ·exact⟨h,bb⟩
  ·split
   ·exact⟨h,bb⟩
   ·rename_i f l a;exact Iv.Y6 n (h.enter a bb) bb
theorem Iv.enters{prog}{c}{s}(h:Iv prog c s):Iv prog (lP c) s:=by
 unfold lP;split
 ·exact h
 rename_i a;exact(Iv.Y6 _ h (b'.1 a)).1
theorem Iv.M{prog}{c}{s}(h:Iv prog c s)(g:c.halt=0)(p:c.stop=false)(n)(st)(x)(r:st=false->x=n)(o:q7 prog ⟨c.M,n⟩){d}(i:d.prog=c.prog)(j:d.r=c.r)(k:Xr d=Xr c)(a:d.halt=c.halt)(b:d.Q=c.Q++[⟨c.M,n⟩])(l:d.M=x)(m:d.stop=st)(e:d.Z=c.Z):Iv prog d s:=by
 refine⟨i.trans h.pr,j.trans h.r,h.z,k.trans h.mem,a.trans h.halt,λq=>absurd (a.trans g) q,by rw[e];exact h.ri,λ_=>?_,λf hf=>?_⟩
 ·let⟨b4,hz,bb⟩:=h.ch g;refine⟨n,?_,λq=>by rw[l];exact r (by rw[<-m];exact q)⟩;rw[e,b];unfold mx;rw[dH, <-eD];exact m0.2 ⟨b4,hz,bb p,rfl⟩
 rw[b]at hf;rcases cx.1 hf with hf|hf
 ·exact h.Y0 f hf
 rw[uJ]at hf;subst hf;exact o
def D9(c)(w):(dM c w).1.prog=c.prog∧(dM c w).1.r=c.r∧Xr (dM c w).1=Xr c∧(dM c w).1.halt=c.halt∧(dM c w).1.Q=c.Q∧(dM c w).1.M=c.M∧(dM c w).1.stop=c.stop∧(dM c w).1.Z=c.Z∧((dM c w).1.data=c.data∧(dM c w).1.Y=c.Y∧(dM c w).1.mem=c.mem)∧(dw w=0∨ak (bm w).op≠5->(dM c w).2=b8 c.M):=by
 unfold dM;split
 ·exact⟨rfl,rfl,rfl,rfl,rfl,rfl,rfl,rfl,c9,λ_=>rfl⟩
 rename_i a;split<;>exact⟨rfl,rfl,rfl,rfl,rfl,rfl,rfl,rfl,c9,λq=>absurd q a⟩
theorem Iv.Zc{prog:List Nat}{s:St}:∀(n:Nat) {c:Co},Iv prog c s->c.mc->c.halt=0->Iv prog (eL n c) s
 |0,c,h,_,_=>h
 | n + 1,c,h,dr,ds=>by
  unfold eL;split
  ·exact h
  ·rename_i g
   have b:c.stop=false:=by cases q:c.stop with
    |false=>rfl
    |true=>exact absurd (.inl q) g
   have hp:=h.pr;split
   ·rename_i a;exact h.M ds b (b8 c.M) true c.M nofun (λ_=>rfl) rfl rfl rfl rfl rfl rfl rfl rfl
   ·rename_i a;split
    ·split
     ·exact h.same rfl rfl (m_ (qL dr dT _ _) rfl) rfl rfl rfl rfl rfl h.ri
     ·exact h
    ·let⟨em,fz,gf,b4,ha,hb,hc,hd,⟨hg,c0,c'⟩,bb⟩:=D9 {c with C:=tO c.C (ab c.M)} (bf c.prog c.M);generalize j:dM {c with C:=tO c.C (ab c.M)} (bf c.prog c.M)=B at *;let⟨d,cs⟩:=B;simp only at em fz gf b4 ha hb hc hd hg c0 c' bb⊢;rw[hp]at bb a;have e:q7 prog ⟨c.M,cs⟩:=λq=>bb (by
      by_cases f:dw (bf prog c.M)=0
      ·exact .inl f
      ·refine .inr (q ⟨?_,f⟩)
       cases i:(ek prog c.M).isSome with
       |true=>rfl
       |false=>exact absurd i a)
     refine Iv.Zc n (h.M ds b cs false cs (λ_=>rfl) e (d:=LU d cs) em fz gf b4 (by show d.Q++[⟨d.M,cs⟩]=_;rw[ha,hb]) rfl (by show d.stop=false;rw[hc];exact b) hd) ?_ (b4.trans ds);exact ef dr hg c0 c'
theorem Iv.Y2{prog}{c}{s}(h:Iv prog c s)(a:c.mc):Iv prog (eN c) s:=by
 unfold eN;split
 ·exact h
 rename_i b;exact h.Zc _ a (b'.1 b)
theorem Iv.ZA{prog}{c}{s}(h:Iv prog c s)(a:c.mc):Iv prog (tY c) s:=by
 let⟨_,hA,_⟩:=wh a;have b:(tY c).prog=c.prog∧(tY c).r=c.r∧(tY c).halt=c.halt∧(tY c).Q=c.Q∧(tY c).M=c.M∧(tY c).stop=c.stop∧(tY c).Z=c.Z:=by
  unfold tY nP pE tW aW jE
  (repeat' split)<;>exact⟨rfl,rfl,rfl,rfl,rfl,rfl,rfl⟩
 let⟨s1,aq,s3,dj,ea,cq,eb⟩:=b;exact h.same s1 aq hA s3 dj ea cq (by rw[eb]) (by rw[eb];exact h.ri)
def iz(prog:List Nat):St->List Sp->St->Prop
 |s,[],t=>t=s
 |s,x::l,t=>s.halt=0∧x=(gE prog s).2∧iz prog (gE prog s).1 l t
theorem vv{prog:List Nat}:∀{s t u:St} {l m:List Sp},iz prog s l t->iz prog t m u->iz prog s (l++m) u
 |s,t,u,[],m,h,k=>by rw[show t=s from h]at k;exact k
 |s,t,u,x::l,m,h,k=>⟨h.1,h.2.1,vv h.2.2 k⟩
def E2{m}{a}{b}(h:a+b.size<=m.size):BE m ⟨a,b⟩=DD m a b:=by
 have c:(BE m ⟨a,b⟩).size=m.size:=iY m [⟨a,b⟩];refine mq (c.trans (u1 m a b h).symm) λi d=>?_;rw[v5 m ⟨a,b⟩ i ad,vn m a b h]
def vw{e}(h:(cA e).halt=0):e.halt=0∧((cA e).store=true->ak e.i.op=4)∧(cA e).next=(if ak e.i.op=5 then e.next else b8 e.K)∧(ak e.i.op=3->(cA e).V=e.V):=by
 unfold cA at h⊢;split at h
 ·rename_i a;exact absurd h a
 rename_i a;rw[dZ a];refine⟨b'.1 a,?_,?_,?_⟩
 ·(repeat' split)<;>first|(intro _;assumption)|(intro q;cases q)
 ·(repeat' split)<;>first|rfl|omega
 intro b;rw[dZ ad,aa b]
theorem Iv.Zp{prog}{c}{s}(h:Iv prog c s)(M:NW c.Z)(H:c.mc){e}{l}(D:c.Z=e::l)(G:e.ok)(E:e.is=3)(w:c.halt=0):
  s.halt=0∧cA e=(gE prog s).2∧((cA e).halt≠0->Iv prog (tM c (cA e)) (gE prog s).1)∧((cA e).halt=0->Iv prog (vZ c e (cA e) l) (gE prog s).1∧(vZ c e (cA e) l).mc):=by
 have n:s.halt=0:=by rw[<-h.halt];exact w
 let⟨fz,hz,ha⟩:=h.ch w;rw[D]at hz;have I:e.K=s.K:=hz.1;have v:=h.ri;rw[D]at v;have B:dn prog s e:=v.ok.1;have J:(⟨e.K,s.r,s.mem,0⟩:St)=s:=by rw[I];let⟨a,b,c,d⟩:=s;simp only at n;subst n;rfl
 have A:ew prog s e=gE prog s:=by unfold ew;rw[J]
 have j:cA e=(gE prog s).2:=by rw[<-A];exact B.told (.inr E)
 have r:=lz prog n;refine⟨n,j,λg=>?_,λg=>?_⟩
 ·let⟨ds,_,_⟩:=r.halt (by rw[<-j];exact g);rw[ds, <-j];exact⟨h.pr,h.r,h.z,h.mem,rfl,λ_=>rfl,⟨trivial,λi x g=>by cases g⟩,λq=>absurd q g,λf L=>by cases L⟩
 let⟨t1,t2,t3,t4⟩:=vw g;let⟨r1,em⟩:=r.run (by rw[<-j];exact g);have y:e.N=(gE prog s).1.K:=by
  rw[em, <-j,t3];split
  ·rename_i hk;have:=M e (by rw[D];exact b9);unfold Nj at this;rw[B.YV hk E t1,jP hk]at this;simp only[kL,mA]at this;exact(b'.1 this).symm
  rename_i hk;exact B.gs λ_=>hk
 have N:(Xr c).size=s.mem.size:=by rw[h.mem]
 have t:(fZ c (cA e)).mc:=ef H rfl rfl rfl;have m:(vG (fZ c (cA e)) e (cA e)).mc∧Xr (vG (fZ c (cA e)) e (cA e))=Xr (fZ c (cA e)):=by
  unfold vG;split
  ·rename_i hk;have F:=rg t (agY:=(cA e).V) (by rw[t4 hk];exact G.V);exact⟨F.mc,m_ F rfl⟩
  exact⟨t,rfl⟩
 have C:Xr (fZ c (cA e))=(gE prog s).1.mem:=by
  rw[r.mem, <-j];split
  ·rename_i o;let⟨_,gf,bb⟩:=r.st (by rw[<-j];exact o);rw[<-j]at gf bb;let⟨k,hk⟩:∃k:Nat,(cA e).size=(k:Int):=⟨_,(lU ad).symm⟩;have u:iJ (cA e)=some ⟨(cA e).V,oF (cA e).value (cA e).size.toNat⟩:=by
    unfold iJ;rw[dZ (by rw[o,g];simp;omega)]
   show jm (match iJ (cA e)with|some p=>c.W++[p]|none=>c.W) c.data c.Y c.mem=_;rw[u];show rP (Ct c.data c.Y c.mem) (c.W++[_])=_;unfold rP;rw[List.foldl_append];show BE (Xr c) _=_;rw[h.mem];apply E2;rw[hk]at bb⊢;rw[mP];exact(m9 bb).2
  rename_i o;have u:iJ (cA e)=none:=by
   unfold iJ;rw[aa (.inl (by cases q:(cA e).store with|false=>rfl|true=>exact absurd q o))]
  show jm (match iJ (cA e)with|some p=>c.W++[p]|none=>c.W) c.data c.Y c.mem=_;rw[u];exact h.mem
 have f1:(vG (fZ c (cA e)) e (cA e)).prog=c.prog∧(vG (fZ c (cA e)) e (cA e)).halt=c.halt∧(vG (fZ c (cA e)) e (cA e)).Q=c.Q∧(vG (fZ c (cA e)) e (cA e)).M=c.M∧(vG (fZ c (cA e)) e (cA e)).stop=c.stop:=by
  unfold vG oK;(repeat' split)<;>exact⟨rfl,rfl,rfl,rfl,rfl⟩
 let⟨c0,b4,cs,c',dr⟩:=f1;refine⟨⟨c0.trans h.pr,?_,?_,m.2.trans C,?_,λq=>?_,?_,λ_=>?_,?_⟩,ef m.1 rfl rfl rfl⟩
 ·show lY c.r (cA e)=_;rw[r.r,h.r,j]
 ·rw[r.r];unfold lY;split
  ·show(if 0=_ then _ else _)=_;rw[dZ ad];exact h.z
  exact h.z
 ·show(vG _ _ _).halt=_;rw[b4,w,r1]
 ·have q:(vG (fZ c (cA e)) e (cA e)).halt≠0:=q;rw[b4]at q;exact absurd w q
 ·show RI prog _ l;refine⟨by rw[<-A];exact v.ok.2,λi x g K=>?_⟩;have:=v.Y (i+1) x g K;rw[oP,List.all_cons,aP]at this;exact this.2
 ·refine⟨fz,?_,?_⟩
  ·show j8 _ (hV l++mx (vG _ _ _).Q) fz;rw[cs, <-y];exact hz.2
  show(vG _ _ _).stop=false->(vG _ _ _).M=fz;rwa[dr,c']
 show ∀f∈(vG _ _ _).Q,_;rw[cs];exact h.Y0
theorem Iv.Y5{prog:List Nat}:∀(n:Nat) {c:Co} {s:St},Iv prog c s->NW c.Z->c.mc->(∀e∈c.Z,e.ok)->∃l bb,(eC n c).O=c.O++l∧l.length<=n∧iz prog s l bb∧Iv prog (eC n c) bb
 |0,c,s,h,_,_,_=>⟨[],s,(dY _).symm,aC _,rfl,h⟩
 | n + 1,c,s,h,hw,b4,ho=>by
  unfold eC;have b:∃l bb,c.O=c.O++l∧l.length<=n+1∧iz prog s l bb∧Iv prog c bb:=⟨[],s,(dY _).symm,aE _,rfl,h⟩;split
  ·exact b
  ·rename_i g;have g:c.halt=0:=b'.1 g;split
   ·exact b
   ·rename_i e l d;split
    ·exact b
    ·rename_i f;have f:e.is=3:=b'.1 f;let⟨i1,i2,cs,c0⟩:=h.Zp hw b4 d (ho e (by rw[d];exact b9)) f g;split
     ·rename_i a;exact⟨[cA e],_,rfl,by simp,⟨i1,i2,rfl⟩,cs a⟩
     ·rename_i a;have a:(cA e).halt=0:=b'.1 a;split
      ·exact b
      ·let⟨c',dr⟩:=c0 a;let⟨m,bb,ds,em,fz,gf⟩:=Iv.Y5 n c' (λx a=>hw x (by rw[d];exact bY _ a)) dr (λx a=>ho x (by rw[d];exact bY _ a));refine⟨cA e::m,bb,?_,sU em,⟨i1,i2,fz⟩,gf⟩;rw[ds];have:(vZ c e (cA e) l).O=c.O++[cA e]:=by
        show(vG _ _ _).O=_;unfold vG oK;(repeat' split)<;>rfl
       rw[this,eD];rfl
def F3{agI}{j}{e b}(c:agI[j]?=some e)(f:b.i=e.i)(a)(k):LS (agI.set j b) a k=LS agI a k:=by
 let⟨g,_⟩:=Em.1 c;unfold LS;by_cases d:j=k
 ·subst d;rw[aZ g,c];simp[f]
 rw[kX d]
theorem ve{agI:List ai}{j:Nat}{e b:ai}(c:agI[j]?=some e)(d:b.i=e.i)(a:Int):∀n,h8 (agI.set j b) a n=h8 agI a n
 |0=>rfl
 |n+1=>by unfold h8;rw[F3 c d,ve c d a n]
def G_{agI}{j}{e d}(f:agI[j]?=some e)(l:d.i=e.i)(n:e.is=0){r}{i}{b}(a:(lK agI r i b).isSome=true):lK (agI.set j d) r i b=lK agI r i b:=by
 unfold lK gX at a⊢;rw[cC,ve f l];split
 ·rfl
 split
 ·rfl
 rename_i g h;rw[dZ g,dZ h]at a;split
 ·rfl
 rename_i k m;rw[m]at a;simp only at a;by_cases c:j=k
 ·subst c;rw[f]at a;simp only at a;rw[dZ ad]at a;cases a
 rw[kX c]
def Rd(agI:List ai)(r:Nat->Nat)(i:Nat):Prop:=∀e,agI[i]?=some e->e.is=0∧(ak e.i.op=3->e.known=true∨(lK agI r i e.i.m).isSome=true)∧(ak e.i.op=4->(lK agI r i e.i.m).isSome=true)∧(ak e.i.op≠3->ak e.i.op≠4->(lK agI r i e.i.m).isSome=true∧(lK agI r i e.i.x).isSome=true)
def my{agI}{j}{e d}(t:agI[j]?=some e)(u:d.i=e.i)(s:e.is=0){r}{i}(f:j≠i)(h:Rd agI r i):Rd (agI.set j d) r i:=by
 intro x g;rw[kX f]at g;let⟨n,o,p,c⟩:=h x g;have b:∀a,(lK agI r i a).isSome=true->(lK _ r i a).isSome=true:=λa q=>by rw[G_ t u s q];exact q
 exact⟨n,λk=>(o k).imp id (b _),λk=>b _ (p k),λl m=>⟨b _ (c l m).1,b _ (c l m).2⟩⟩
def wc{c}{i}(h:DN c i=true):Rd c.Z c.r i:=by
 intro e a;unfold DN at h;rw[a]at h;simp only at h;split at h
 ·cases h
 rename_i b;refine⟨b'.1 b,λk=>?_,λk=>?_,λd f=>?_⟩
 ·rw[aa k,dE,aP]at h;exact h.imp id (·.1)
 ·rw[dZ ad,aa k,aP,aP]at h;exact h.1.2
 rw[dZ d,dZ f,aP]at h;unfold mI at h;rw[a]at h;simp[aP]at h;exact h.1
theorem Iv.put{prog}{c}{s}(h:Iv prog c s){j}{e a}(g:c.Z[j]?=some e)(i:fp e a)(f:dn prog (c3 prog s (c.Z.take j)) e->dn prog (c3 prog s (c.Z.take j)) a)(l:a.is=2->(e.is=2∧a.V=e.V)∨(c.Z.take j).all (jn a)=true):Iv prog (b0 c j a) s:=by
 refine h.same rfl rfl rfl rfl rfl rfl rfl ?_ (h.ri.set g i f l);let⟨hj,_⟩:=Em.1 g;refine q9 (cC ..) λk x m d b=>?_;by_cases f:j=k
 ·subst f;rw[show(b0 c j a).Z=c.Z.set j a from rfl,aZ hj]at b;rw[g]at d;injection d with d;injection b with b;subst d b;exact i
 rw[show(b0 c j a).Z=c.Z.set j a from rfl,kX f,d]at b;injection b with b;subst b;exact fp.refl _
theorem Iv.load{prog}{c}{s}(h:Iv prog c s)(d:c.mc){j}{e}(a:c.Z[j]?=some e)(v:ak e.i.op=3)(x:e.known=true->e.is=0):
  Iv prog (oE c j) s∧(oE c j).mc∧(oE c j).halt=c.halt∧(oE c j).r=c.r∧∃f,(oE c j).Z=c.Z.set j f∧f.i=e.i:=by
 have l:Iv prog c s∧c.mc∧c.halt=c.halt∧c.r=c.r∧∃f,c.Z=c.Z.set j f∧f.i=e.i:=by
  refine⟨h,d,rfl,rfl,e,?_,rfl⟩;let⟨dr,b4⟩:=Em.1 a;rw[<-b4,List.set_getElem_self]
 have r:=jf h.ri.ok a;unfold oE;rw[a];simp only;split
 ·exact l
 rename_i b;have b:e.known=true:=by cases q:e.known with|true=>rfl|false=>exact absurd q b
 let⟨_,bb⟩:=r.ZB b (.inl v);rw[kh]at bb;split
 ·rename_i k;have p:=Ei h.ri.ok a bb (λi u=>by rw[<-h.mem];exact q2 _ _ _ _ (by rw[<-h.mem,show(Xr c).size=c.mem.size from MU ..]at u;exact u)) k;refine⟨h.put a (m5 e _) (λq=>(qu q λ_ _ _=>p).1) (λq=>?_),ef d rfl rfl rfl,rfl,rfl,_,rfl,(m5 e _).i⟩;unfold uM at q⊢;split at q
  ·rename_i o;rw[aa o];exact .inl ⟨q,rfl⟩
  cases q
 split
 ·exact l
 rename_i k;have k:(lL c.Z c.W j).1=2:=b'.1 k;have g:=G8 a k;split
 ·have p:e.known=true->ak e.i.op=3->e.is=0∨e.is=2->oL c e=Cv (c3 prog s (c.Z.take j)).mem e.V (a' e.i.op):=λ_ _ _=>by
   unfold oL;rw[h.mem,aa bb];exact(u4 ((h.ri.take j).ok) g bb).symm
  refine⟨h.put a (m5 e _) (λq=>(qu q p).1) (λq=>?_),ef d rfl rfl rfl,rfl,rfl,_,rfl,(m5 e _).i⟩;unfold uM at q⊢;split at q
  ·rename_i o;rw[aa o];exact .inl ⟨q,rfl⟩
  cases q
 have y:e.is=0:=x b;let⟨cs,c0,c'⟩:=r.wait (.inl y);have m:dn prog (c3 prog s (c.Z.take j)) e->dn prog (c3 prog s (c.Z.take j)) {e with is:=2}:=λq=>
  ⟨q.ins,λn=>absurd (q.Zx n).1 ad,(λn=>by rcases n with n|n<;>cases n),λ_=>⟨cs,c0,c'⟩,q.ZB,.inr (.inr (.inl rfl)),λ_=>⟨v,b⟩,nofun,nofun,nofun,λn=>by have n:ak e.i.op=5:=n;omega,λn=>by have n:ak e.i.op=5:=n;omega,q.gs⟩
 have w:fp e {e with is:=2}:=⟨rfl,rfl,rfl,λq=>by omega⟩;split
 ·exact⟨h.put a w m (λ_=>.inr g),ef d rfl rfl rfl,rfl,rfl,_,rfl,rfl⟩
 split
 ·have t:=qL d (k:=1) dT (ab e.V) oZ;have hA:Iv prog (jE c 1 (ab e.V) oZ) s:=h.same rfl rfl (m_ t rfl) rfl rfl rfl rfl rfl h.ri;exact⟨hA.put a w m (λ_=>.inr g),ef t.mc rfl rfl rfl,rfl,rfl,_,rfl,rfl⟩
 exact l
theorem Iv.start{prog}{c}{s}(h:Iv prog c s)(f:c.mc){j}(B:Rd c.Z c.r j):
  Iv prog (iS c j) s∧(iS c j).mc∧(iS c j).halt=c.halt∧(iS c j).r=c.r∧(c.Z[j]?=none∧(iS c j).Z=c.Z∨∃e bb,c.Z[j]?=some e∧(iS c j).Z=c.Z.set j bb∧bb.i=e.i∧e.is=0):=by
 unfold iS;split
 ·rename_i C;exact⟨h,f,rfl,rfl,.inl ⟨C,rfl⟩⟩
 rename_i e d;let⟨b4,hc,r4,hd⟩:=B e d;let⟨hj,_⟩:=Em.1 d;have r:∀l:List ai,(c.mem.size:Int)=(c3 prog s l).mem.size:=λl=>by
  rw[kh, <-h.mem,show(Xr c).size=c.mem.size from MU ..]
 have k:∀g,(lK c.Z c.r j g).isSome=true->(lK c.Z c.r j g).getD 0=(c3 prog s (c.Z.take j)).r g.toNat:=λg q=>by
  let⟨v,cs⟩:=FH.1 q;rw[cs];rw[h.r]at cs;exact vj h.ri.ok h.z (Nat.le_of_lt hj) cs
 have u:mI c.Z c.r j=((lK c.Z c.r j e.i.m).getD 0,(lK c.Z c.r j e.i.x).getD 0,(lK c.Z c.r j e.i.m).isSome&&(lK c.Z c.r j e.i.x).isSome):=by unfold mI;rw[d]
 have D:∀(bb:ai) (P:Prop),bb.is≠2->bb.is=2->P:=λbb P a b=>absurd b a;have o:∀n a,(yC e n a).is≠2:=λn a=>by
  unfold yC
  (repeat' split)<;>first|(show e.is≠2;omega)|(show(3:Int)≠2;decide)
 rw[u];simp only;split
 ·rename_i m;exact⟨h.put d (m6 e _ _) (λq=>(vk q (r _) (λ_ _=>k _ (r4 m))).1) (λq=>absurd q (o _ _)),ef f rfl rfl rfl,rfl,rfl,.inr ⟨e,_,d,rfl,(m6 e _ _).i,b4⟩⟩
 split
 ·rename_i p m;have t:(b0 c j (yC e c.mem.size ((lK c.Z c.r j e.i.m).getD 0))).Z[j]?=some (yC e c.mem.size ((lK c.Z c.r j e.i.m).getD 0)):=aZ hj;have x:(yC e c.mem.size ((lK c.Z c.r j e.i.m).getD 0)).known=true->(yC e c.mem.size ((lK c.Z c.r j e.i.m).getD 0)).is=0:=λq=>by
   unfold yC at q⊢;split at q
   ·rename_i i;rwa[aa i]
   rename_i i;rw[dZ i];split at q
   ·rename_i A;rwa[aa A]
   exact absurd (.inr (.inr q)) i
  let⟨c0,c',dr,ds,bb,em,fz⟩:=(h.put d (m6 e _ _) (λq=>(vk q (r _) (λ_ y=>k _ ((hc m).resolve_left (by rw[y];decide)))).1) (λq=>absurd q (o _ _))).load (ef f rfl rfl rfl) t (by rw[(m6 e _ _).i];exact m) x;refine⟨c0,c',dr,ds,.inr ⟨e,bb,d,?_,fz.trans (m6 e _ _).i,b4⟩⟩;rw[em];show(c.Z.set j _).set j bb=_;rw[lO]
 rename_i p w;let⟨gf,ha⟩:=hd w p;have z:∀a b,(rJ e a b).is≠2:=λa b=>by
  unfold rJ
  (repeat' split)<;>first|(show e.is≠2;omega)|(show(1:Int)≠2;decide)
 exact⟨h.put d (u6 e _ _) (λq=>(G5 q (λ_=>k _ gf) (λ_=>k _ ha)).1) (λq=>absurd q (z _ _)),ef f rfl rfl rfl,rfl,rfl,.inr ⟨e,_,d,rfl,(u6 e _ _).i,b4⟩⟩
theorem Iv.Y7{prog:List Nat}{s:St}:∀(p:List Nat) {c:Co},Iv prog c s->c.mc->p.Nodup->(∀i∈p,Rd c.Z c.r i)->Iv prog (p.foldl iS c) s
 |[],c,h,_,_,_=>h
 | j::p,c,h,b4,hn,hR=>by
  let⟨cs,c0,fz,c',dr⟩:=h.start b4 (hR j b9);rw[List.nodup_cons]at hn;refine Iv.Y7 p cs c0 hn.2 λi b=>?_;have a:=hR i (bY _ b);rw[c'];rcases dr with ⟨_,q⟩|⟨e,gf,em,q,bb,ds⟩
  ·rw[q];exact a
  ·rw[q];exact my em bb ds (λz=>hn.1 (by rw[z];exact b)) a
theorem oq{agN:Int}{busy:Bool}{kinds:List Int}{can:List Bool}:∀n,(∀i∈(kA agN busy kinds can n).out,i<n∧can.getD i false=true)∧(kA agN busy kinds can n).out.Nodup
 |0=>⟨nofun,List.nodup_nil⟩
 | n +1=>by
  let⟨e,d⟩:=oq (agN:=agN) (busy:=busy) (kinds:=kinds) (can:=can) n;have c:∀i∈(kA agN busy kinds can n).out,i<n+1∧can.getD i false=true:=λi hi=>⟨oH ((e i hi).1),(e i hi).2⟩;unfold kA IW;split
  ·exact⟨c,d⟩
  split
  ·exact⟨c,d⟩
  split
  ·exact⟨c,d⟩
  ·rename_i h _;refine⟨λi hi=>?_,?_⟩
   ·rcases cx.1 hi with hi|hi
    ·exact c i hi
    ·rw[uJ]at hi;subst hi;exact⟨oT,by cases q:can.getD i false with|true=>rfl|false=>exact absurd q h⟩
   ·show((kA agN busy kinds can n).out++[n]).Nodup;rw[List.nodup_append];refine⟨d,by simp,λa g b f=>?_⟩;rw[uJ]at f;subst f;have:=(e a g).1;omega
theorem Iv.Zo{prog}{c}{s}(h:Iv prog c s)(a:c.mc):Iv prog (gY c) s:=by
 unfold gY;split
 ·exact h
 obtain⟨b,d⟩:=oq (Kv c).length;refine h.Y7 _ a d λi e=>wc ?_;let⟨bb,b4⟩:=b i e;unfold Kv at bb b4;rw[aH,fV]at bb;rwa[aR,aX,eZ bb]at b4
theorem Iv.step{prog}{c}{s}{n}(h:Iv prog c s)(p:c.I n)(m:n+20<=890000)(i:c.mc):∃l bb,(ed c).O=c.O++l∧l.length<=c.U.k.toNat∧iz prog s l bb∧Iv prog (ed c) bb:=by
 have a:=Ql p m;have r:Iv prog (s0 c) s:=h.same rfl rfl rfl rfl rfl rfl rfl rfl h.ri;have e:(s0 c).mc:=ef i rfl rfl rfl;have j:(s1 c).mc:=(lW e a.k0.ok.a).mc;have u:Iv prog (s1 c) s:=r.ZL e a.k0.ok.a;have f:(aq c).mc:=by
  show(kK (s1 c)).mc;unfold kK
  repeat' split
  all_goals exact ef j rfl rfl rfl
 let⟨i2,dr⟩:Iv prog _ s∧NW (aq c).Z:=u.ZN;have b:(s3 c).mc:=oI _ _ a.k2.ok.Z8 f;let⟨l,bb,b4,cs,c0,c'⟩:=i2.Y5 (aq c).U.k.toNat dr f a.k2.ok.Z8;have g:(dj c).mc:=by
  show(gY _).mc;unfold gY;split
  ·exact b
  exact qr _ _ b
 have d:(ea c).mc:=by
  show(lP _).mc;unfold lP;split
  ·exact g
  exact q_ _ _ g
 have v:Iv prog _ bb:=(Iv.Zo c' b).enters;have k:(cq c).mc:=by
  show(eN _).mc;unfold eN;split
  ·exact d
  exact rh _ _ d
 have w:Iv prog _ bb:=(v.Y2 d).ZA k;refine⟨l,bb,?_,aL cs ?_,c0,w⟩
 ·have x:(s1 c).O=c.O:=(rG _).2.2.1;have y:(aq c).O=(s1 c).O:=(mC _).2;have z:(s3 c).O=(aq c).O++l:=b4;have r4:(dj c).O=(s3 c).O:=by have:=nO a.k3 ad;simp_all only[dj]
  have A:(ea c).O=(dj c).O:=(Ai a.k4).2.2;have B:(cq c).O=(ea c).O:=(uX a.k5 ad).2.2.1;have C:(ed c).O=(cq c).O:=(wX a.k6 ad).2.2.1;rw[C,B,A,r4,z,y,x]
 have o:(aq c).U=c.U:=by
  show(kK _).U=_;have q:(lM (s0 c)).U=c.U:=by
   unfold lM ID oK;(repeat' split)<;>rfl
  unfold kK;(repeat' split)<;>exact q
 rw[o];exact aC _
theorem Iv.new(a)(prog)(m):Iv (fX a prog m).prog (fX a prog m) ⟨0,λ_=>0,jB m,0⟩:=by
 refine⟨rfl,rfl,rfl,?_,rfl,λ_=>rfl,⟨trivial,λi e b=>by cases b⟩,λ_=>⟨0,rfl,λ_=>rfl⟩,λf c=>by cases c⟩;have d:LV (fX a prog m).data=[]:=by
  show((List.replicate _ _).flatten.map _)=[];rw[List.flatten_replicate_nil];rfl
 show rP (rP (jZ [] (jB m)) (LV (fX a prog m).data)) []=jB m;rw[d];rfl
theorem Iv.run{X}{s}(a:∀k,k<=3000->jb X k)(h:Iv X.prog X s)(b:X.mc):∀k,k<3000->∀t,Iv X.prog (uN X k) t->∃l u,(uN X (k+1)).O=(uN X k).O++l∧l.length<=(uN X k).U.k.toNat∧iz X.prog t l u∧Iv X.prog (uN X (k+1)) u:=by
 intro k d t c;have g:=a k ad;rw[show uN X (k+1)=ed (uN X k)from aa g.rt];exact c.step (EL g.ok ad g.rt) ad (ov a b k ad)
end Go.Proofs.YtdhclfgoomldfaaGreatDoor
