/- Lemmas. -/
import Derived.Test.YtmbhlpgmfafmbaaGreatDoorS1
import Derived.Test.YtmbhlpgmfafmbaaGreatDoorS34
set_option linter.all false
namespace Go.Proofs.YtmbhlpgmfafmbaaGreatDoor
open Go.RowKit
def gb(m:ByteArray)(i:Nat):Option UInt8:=m.data[i]?
def cN(p:Pt)(i:Nat):Option UInt8:=if p.V<=i then gb p.data (i-p.V)else none
def e'(l:List Pt)(i:Nat):Option UInt8:=l.foldl (λo p=>(cN p i).or o) none
def jb{m:ByteArray}{i:Nat}(h:m.size<=i):gb m i=none:=iE h
def lq{a b}(d:a.size=b.size)(h:∀i,i<a.size->gb a i=gb b i):a=b:=by
 refine ByteArray.ext (Array.ext_getElem? λi=>?_);by_cases c:i<a.size
 ·exact h i c
 exact(jb ad).trans (jb ad).symm
def ov(a b)(i):gb (a++b) i=if i<a.size then gb a i else gb b (i-a.size):=by
 unfold gb;rw[ByteArray.data_append,Array.getElem?_append];rfl
def jg(m)(a b i):gb (m.extract a b) i=if i<min b m.size-a then gb m (a+i)else none:=by
 unfold gb;rw[ByteArray.data_extract,mQ];rfl
def rT(m)(p)(i)(d:i<m.size):gb (BE m p) i=(cN p i).or (gb m i):=by
 unfold BE cN;by_cases h:p.V<m.size
 ·rw[aa h,ov,ov,jg,jg,jg];simp only[kH,dA];by_cases a:p.V<=i
  ·rw[aa a];by_cases b:i-p.V<p.data.size
   ·rw[aa ad,dZ ad,aa ad,(oT:0+(i-(min p.V m.size-0))=i-p.V)];have:∃x,gb p.data _=some x:=⟨p.data.data[i-p.V],aT b⟩;let⟨x,c⟩:=this;rw[c];rfl
   rw[dZ ad,aa ad,(oT:p.V+min p.data.size _+(i-(min p.V m.size-0+(min _ p.data.size-0)))=i)];rw[jb (i:=i-p.V) ad];rfl
  rw[dZ a,aa ad,aa ad,aa ad,(oT:0+i=i)];rfl
 rw[dZ h,dZ ad];rfl
def tx(l)(i):∀o,l.foldl (λo p=>(cN p i).or o) o=(e' l i).or o:=by
 induction l with
 |nil=>intro o;rfl
 |cons p l ih=>
  intro o;show l.foldl _ ((cN p i).or o)=(l.foldl _ ((cN p i).or none)).or o;rw[ih,ih _,Option.or_assoc];cases cN p i<;>rfl
def kR(p)(l)(i):e' (p::l) i=(e' l i).or (cN p i):=by
 show l.foldl _ ((cN p i).or none)=_;rw[tx];cases cN p i<;>rfl
def q1(a b)(i):e' (a++b) i=(e' b i).or (e' a i):=by
 unfold e';rw[List.foldl_append];exact tx b i _
def lv(l)(i):∀m,i<m.size->gb (rP m l) i=(e' l i).or (gb m i):=by
 induction l with
 |nil=>intro m _;rfl
 |cons p l ih=>
  intro m a;show gb (rP (BE m p) l) i=_;rw[ih _ (by rw[Kn];exact a),rT m p i a,kR,Option.or_assoc]
def qx{l}{i}(h:∀p∈l,cN p i=none):e' l i=none:=by
 induction l with
 |nil=>rfl
 |cons p l ih=>rw[kR,ih (λq a=>h q (bY _ a)),h p b1];rfl
def J5{l}{i}{v}(h:∀p∈l,cN p i=none∨cN p i=v)(c:∃p∈l,cN p i=v):e' l i=v:=by
 induction l with
 |nil=>let⟨p,hp,_⟩:=c;exact absurd hp List.not_mem_nil
 | cons p l ih=>
  rw[kR];by_cases b:∃q∈l,cN q i=v
  ·rw[ih (λq a=>h q (bY _ a)) b];rcases h p b1 with e|e
   ·rw[e];cases v<;>rfl
   ·rw[e];cases v<;>rfl
  ·rw[qx (λq a=>(h q (bY _ a)).resolve_right λe=>b ⟨q,a,e⟩)];let⟨q,a,e⟩:=c;rcases dh.1 a with e2|e2
   ·subst e2;exact e
   ·exact absurd ⟨q,e2,e⟩ b
def b7(c:Ca)(w:Wy):Prop:=w∈c.Q.flatten
def iy{c}(h:bT c){w}:b7 c w↔w∈pF c (w.R/16%c.Q.length):=by
 unfold b7;constructor
 ·intro a;let⟨s,e,d⟩:=List.mem_flatten.1 a;obtain⟨k,b,rfl⟩:=fY e;rwa[((h.set k _ (aA b)).ZJ w d).set,vA (aA b)]
 ·intro a;unfold pF at a
  cases b:c.Q[w.R/16%c.Q.length]? with
  |none=>rw[b]at a;exact absurd a List.not_mem_nil
  |some s=>rw[b]at a;exact List.mem_flatten.2 ⟨s,aB b,a⟩
def mq{c}(h:bT c){w}(e:b7 c w):se c.Q.length (w.R/16%c.Q.length) w:=by
 let⟨s,d,b⟩:=List.mem_flatten.1 e;obtain⟨k,a,rfl⟩:=fY d;have g:=(h.set k _ (aA a)).ZJ w b;rwa[g.set]
def zk{l:List Wy}(h:(l.map (·.R)).Nodup){w v}(b:w∈l)(a:v∈l)(e:w.R=v.R):w=v:=by
 induction l with
 |nil=>exact absurd b List.not_mem_nil
 | cons x l ih=>
  rw[jC,List.nodup_cons]at h;rcases dh.1 b with h1|h1
  ·rcases dh.1 a with h2|h2
   ·rw[h1,h2]
   ·exact absurd (pG.2 ⟨v,h2,by rw[<-e,h1]⟩) h.1
  ·rcases dh.1 a with h2|h2
   ·exact absurd (pG.2 ⟨w,h1,by rw[e,h2]⟩) h.1
   ·exact ih h.2 h1 h2
def oc{c}(h:bT c){w v}(f:b7 c w)(d:b7 c v)(e:w.R=v.R):w=v:=by
 have a:=(iy h).1 d;rw[<-e]at a;have b:0<c.Q.length:=oH h.Q;exact zk (h.at (aQ _ b)).one ((iy h).1 f) a e
def oh{c}(h:bT c){k}(g:k<c.Q.length)(s){w}:b7 (rK c k s) w↔w∈s∨(b7 c w∧w.R/16%c.Q.length≠k):=by
 show w∈(c.Q.set k s).flatten↔_;rw[List.mem_flatten];constructor
 ·rintro⟨t,i,b⟩;let⟨j,a,e⟩:=fY i;rw[List.getElem_set]at e;split at e
  ·subst e;exact .inl b
  rename_i d;rw[cC]at a;subst e;refine .inr ⟨List.mem_flatten.2 ⟨_,jO a,b⟩,?_⟩;rw[((h.set j _ (aA a)).ZJ w b).set];exact λz=>d z.symm
 rintro(b|⟨l,d⟩)
 ·exact⟨s,List.mem_set g s,b⟩
 have f:=(iy h).1 l;have a:w.R/16%c.Q.length<c.Q.length:=aQ _ ad;rw[vA (aA a)]at f;exact⟨_,List.mem_iff_getElem?.2 ⟨w.R/16%c.Q.length,by rw[kX (λz=>d z.symm)];exact aA a⟩,f⟩
def z9{p}{i}(b:p.V%16=0)(a:p.data.size=0∨p.data.size=16):cN p i=if p.V=ab i then gb p.data (i%16)else none:=by
 unfold cN ab;by_cases h:p.V=i-i%16
 ·rw[aa h,aa ad,(oT:i-p.V=i%16)]
 rw[dZ h];split
 ·exact jb ad
 rfl
def fj(c:Ca)(i:Nat):Option UInt8:=e' (LV c) i
def me{c}(h:bT c){w}(a:b7 c w)(i):cN ⟨w.R,w.data⟩ i=if w.R=ab i then gb w.data (i%16)else none:=by
 have g:=mq h a;have:=g.R;exact z9 (by show w.R%16=0;unfold ab at this;omega) g.data
def i3{c}(h:bT c){w}(a:b7 c w){i}(e:w.R=ab i):fj c i=gb w.data (i%16):=by
 refine J5 (λp hp=>?_) ⟨⟨w.R,w.data⟩,pG.2 ⟨w,a,rfl⟩,by rw[me h a,aa e]⟩;obtain⟨v,b,rfl⟩:=pG.1 hp;rw[me h b];split
 ·rename_i d;rw[oc h b a (d.trans e.symm)];exact .inr rfl
 exact .inl rfl
def m4{c}(h:bT c){i}(b:∀w,b7 c w->w.R≠ab i):fj c i=none:=by
 refine qx λp hp=>?_;obtain⟨v,a,rfl⟩:=pG.1 hp;rw[me h a,dZ (b v a)]
def mm{c d}(h:bT c)(k:bT d){i}(e:∀w,w.R=ab i->(b7 d w->∃v,b7 c v∧v.R=w.R∧v.data=w.data)∧(b7 c w->∃v,b7 d v∧v.R=w.R∧v.data=w.data)):fj d i=fj c i:=by
 by_cases j:∃w,b7 c w∧w.R=ab i
 ·let⟨w,b,a⟩:=j;let⟨v,g,f,l⟩:=(e w a).2 b;rw[i3 h b a,i3 k g (f.trans a),l]
 rw[m4 h λw b a=>j ⟨w,b,a⟩,m4 k λw b a=>?_];let⟨v,g,f,_⟩:=(e w a).1 b;exact j ⟨v,g,f.trans a⟩
def nj{c}(h:bT c)(agY){w}:b7 (tO c agY) w↔b7 c w:=by
 by_cases a:(bK c agY).2.isSome=true
 ·rw[Dw a];have ff:=pR a;rw[oh h ff.2.2.1,(EV ff.2.2.2).mem_iff];constructor
  ·rintro(h1|h1)
   ·rwa[iy h,((h.at ff.2.2.1).ZJ w h1).set]
   exact h1.1
  intro b;by_cases e:w.R/16%c.Q.length=(bK c agY).1
  ·exact .inl (by rw[<-e];exact(iy h).1 b)
  exact .inr ⟨b,e⟩
 rw[Dx (sU a)]
def px{c}(h:bT c){agY}(b:(bK c agY).2.isSome=false){w}(f:b7 c w):w.R≠ab agY:=by
 rw[rI (agY:=agY) (gl.1 h).1]at b;have e:jY _ _=none:=sU b;intro d;have a:=(iy h).1 f;rw[d]at a;exact QC.1 e w a d
def ll{c}(h:bT c){agY}(d:(bK c agY).2.isSome=true):∃w,(pF c (bK c agY).1)[(bK c agY).2.getD 0]?=some w∧b7 c w∧w.R=ab agY:=by
 have ff:=pR d;refine⟨_,aA ff.2.2.2,?_,?_⟩
 ·have g:=jO ff.2.2.2;rwa[iy h,((h.at ff.2.2.1).ZJ _ g).set]
 ·have e:=rI (agY:=agY) (gl.1 h).1;have hp:∀(l:List Wy) (x j:Nat) _,jY l x=some j->l[j].R=x:=by
   intro l
   induction l with
   |nil=>intro x j a;exact absurd a (dG _)
   | cons y l ih=>
    intro x j a q;unfold jY at q;by_cases b:y.R=x
    ·rw[aa b]at q;injection q with q;subst q;exact b
    ·rw[dZ b,Gi]at q;let⟨i,k,m⟩:=q;subst m;exact ih x i _ k
  let⟨j,a⟩:=FH.1 d;apply hp _ _ _ _;have f:=a;rw[e]at f;rwa[a,e]
def o7{c}(h:bT c){agY}(m:(bK c agY).2.isSome=false)(d)(b):
  ((qZ c agY d b).2.2=false∧∀w,b7 (qZ c agY d b).1 w↔w=⟨ab agY,b,dC d⟩∨b7 c w)∨
  ((qZ c agY d b).2.2=true∧b7 c (qZ c agY d b).2.1∧∀w,b7 (qZ c agY d b).1 w↔w=⟨ab agY,b,dC d⟩∨(b7 c w∧w.R≠(qZ c agY d b).2.1.R)):=by
 have j:=(gl.1 h).1;have i:(bK c agY).1<c.Q.length:=by rw[rI (agY:=agY) j];exact AP (kJ j).1 _
 have e:∀w,w∈pF c (bK c agY).1↔b7 c w∧w.R/16%c.Q.length=(bK c agY).1:=λw=>by
  constructor
  ·intro f;have q:=((h.at i).ZJ w f).set;exact⟨by rw[iy h,q];exact f,q⟩
  ·rintro⟨f,q⟩;rw[<-q];exact(iy h).1 f
 rw[AR j m];split
 all_goals
  first
   |rename_i f;right;have a:pF c (bK c agY).1≠[]:=λz=>by rw[z]at f;have:=h.ways;simp at f;omega
    have l:(pF c (bK c agY).1).getLast?.getD qE=(pF c (bK c agY).1).getLast a:=by rw[List.getLast?_eq_some_getLast a];rfl
    have k:=(e _).1 (List.getLast_mem a);refine⟨rfl,by show b7 c ((pF c (bK c agY).1).getLast?.getD qE);rw[l];exact k.1,λw=>?_⟩;rw[l,oh h i,dh];have g:=(h.at i).one;have n:w∈(pF c (bK c agY).1).dropLast↔w∈pF c (bK c agY).1∧w.R≠((pF c (bK c agY).1).getLast a).R:=by
     constructor
     ·intro q;refine⟨oC _ q,λz=>?_⟩;rw[<-List.dropLast_concat_getLast a,dH,List.nodup_append]at g;exact g.2.2 w.R (pG.2 ⟨w,q,rfl⟩) _ (pG.2 ⟨_,uJ.2 rfl,rfl⟩) z
     ·rintro⟨q,z⟩;rw[<-List.dropLast_concat_getLast a]at q;rcases cp.1 q with q|q
      ·exact q
      ·exact absurd (by rw[uJ.1 q]) z
    rw[n,e]
   |left;refine⟨rfl,λw=>?_⟩;rw[oh h i,dh,e]
  constructor
  ·rintro((q|q)|q)
   ·exact .inl q
   ·first|exact .inr ⟨q.1.1,q.2⟩|exact .inr q.1
   ·first|(exact .inr ⟨q.1,λz=>q.2 (by rw[z];exact k.2)⟩)|exact .inr q.1
  ·rintro(q|q)
   ·exact .inl (.inl q)
   ·by_cases z:w.R/16%c.Q.length=(bK c agY).1
    ·first|exact .inl (.inr ⟨⟨q.1,z⟩,q.2⟩)|exact .inl (.inr ⟨q,z⟩)
    ·first|exact .inr ⟨q.1,z⟩|exact .inr ⟨q,z⟩
def J3{f}{l}{j}{x:Wy}(a:l[j]?=some x):jp f (eY l j)=f x::(l.take j++l.drop (j+1)):=by
 unfold eY;rw[a];rfl
def r_{l:List Wy}(h:(l.map (·.R)).Nodup){j}{x}(b:l[j]?=some x){w}:w∈l.take j++l.drop (j+1)↔w∈l∧w.R≠x.R:=by
 let⟨c,e⟩:=Em.1 b;have hp:(x::(l.take j++l.drop (j+1))).Perm l:=by
  have:=EV c;unfold eY at this;rwa[b]at this
 have a:=((hp.map _).nodup_iff).2 h;rw[jC,List.nodup_cons]at a;constructor
 ·intro q;exact⟨hp.mem_iff.1 (bY _ q),λz=>a.1 (pG.2 ⟨w,q,z⟩)⟩
 rintro⟨q,z⟩;rcases dh.1 (hp.mem_iff.2 q)with r|r
 ·exact absurd (by rw[r]) z
 exact r
def v5{c}(h:bT c){agY}(b:(bK c agY).2.isSome=true){s}{x y}(e:(pF c (bK c agY).1)[(bK c agY).2.getD 0]?=some x)
  (d:∀w,w∈s↔w=y∨(w∈pF c (bK c agY).1∧w.R≠x.R)) (a:x.R=ab agY) (w):b7 (rK c (bK c agY).1 s) w↔w=y∨(b7 c w∧w.R≠ab agY):=by
 have ff:=pR b;rw[oh h ff.2.2.1,d,a];constructor
 ·rintro((q|q)|q)
  ·exact .inl q
  ·refine .inr ⟨?_,q.2⟩;rw[iy h,((h.at ff.2.2.1).ZJ w q.1).set];exact q.1
  refine .inr ⟨q.1,λz=>q.2 ?_⟩;rw[z, <-a];exact ((h.at ff.2.2.1).ZJ x (aB e)).set
 rintro(q|q)
 ·exact .inl (.inl q)
 by_cases z:w.R/16%c.Q.length=(bK c agY).1
 ·exact .inl (.inr ⟨by rw[<-z];exact(iy h).1 q.1,q.2⟩)
 exact .inr ⟨q.1,z⟩
def wK{c}(h:bT c){a}{b}(e:(xL c a b).2=true):∃v,b7 c v∧v.R=ab a∧v.data.size=16∧b.size+a%16<=16∧
  ∀w,b7 (xL c a b).1 w↔w={v with data:=Fk v.data (a%16) b,Z':=true}∨(b7 c w∧w.R≠ab a):=by
 by_cases d:(bK c a).2.isSome=true
 ·let⟨x,f,i,g⟩:=ll h d;rw[At b d rfl f]at e⊢;by_cases j:x.data.size=0∨b.size+a%16>16
  ·rw[aa j]at e;cases e
  rw[dZ j];refine⟨x,i,g,oH (mq h i).data,oT,v5 h d f (λw=>?_) g⟩;rw[J3 f,dh,r_ (h.at (pR d).2.2.1).one f]
 rw[GV b (sU d)]at e;cases e
def sT{c}(h:bT c){agY}(w):b7 (wB c agY) w↔(∃u,b7 c u∧u.R=ab agY∧w={u with Z':=false})∨(b7 c w∧w.R≠ab agY):=by
 by_cases a:(bK c agY).2.isSome=true
 ·let⟨x,i,d,b⟩:=ll h a;rw[Dy a rfl,v5 h a i (λv=>?_) b]
  ·constructor
   ·rintro(q|q)
    ·exact .inl ⟨x,d,b,q⟩
    exact .inr q
   rintro(⟨u,f,g,j⟩|q)
   ·rw[oc h f d (g.trans b.symm)]at j;exact .inl j
   exact .inr q
  let⟨l,e⟩:=Em.1 i;rw[<-r_ ((h.at (pR a).2.2.1).one) i,List.modify_eq_take_cons_drop l,e];simp[cp,dh];constructor
  all_goals
   rintro(q|q|q)
   ·exact .inr (.inl q)
   ·exact .inl q
   exact .inr (.inr q)
 rw[Dz (sU a)];have k:=λv=>px h (sU a) (w:=v);constructor
 ·intro q;exact .inr ⟨q,k w q⟩
 rintro(⟨u,f,g,_⟩|q)
 ·exact absurd g (k u f)
 exact q.1
def dz(q:List a2)(m:ByteArray)(i:Nat):Option UInt8:=(e' (fP q) i).or (gb m i)
def gh(c:Ca)(q:List a2)(m:ByteArray)(i:Nat):Option UInt8:=(fj c i).or (dz q m i)
def F'(q:List a2)(m:ByteArray){i:Nat}(a:i<m.size):gb (jZ q m) i=dz q m i:=lv _ _ _ a
def nr(s)(c)(q)(m){i}(a:i<m.size):gb (iz s c q m) i=(e' s i).or (gh c q m i):=by
 unfold iz Ct jZ;rw[lv _ _ _ (by rw[iY,iY];exact a),lv _ _ _ (by rw[iY];exact a),lv _ _ _ a];rfl
def pb{s f}{c b}{q e}{m a}(g:a.size=m.size)(h:∀i,i<m.size->(e' f i).or (gh b e a i)=(e' s i).or (gh c q m i)):iz f b e a=iz s c q m:=by
 refine lq (by rw[MU,MU,g]) λi d=>?_;rw[MU]at d;rw[nr _ _ _ _ d,nr _ _ _ _ ad];exact h i ad
def sn(q)(k)(agY)(left)(d):fP (Bi q k agY left d)=fP q++if k=4 then [⟨agY,d⟩]else []:=by
 unfold fP Bi;rw[mL,dH];congr 1;by_cases h:k=4
 ·rw[aa h];subst h;rfl
 rw[dZ h,List.filter_cons,dZ (sU h)];rfl
def v_(q)(agY)(left)(d)(m)(i):dz (Bi q 4 agY left d) m i=(cN ⟨agY,d⟩ i).or (dz q m i):=by
 unfold dz;rw[sn,aa rfl,q1,Option.or_assoc];congr 1;rw[kR];rfl
def K4(q){k}(a:k≠4)(agY)(left)(d)(m)(i):dz (Bi q k agY left d) m i=dz q m i:=by
 unfold dz;rw[sn,dZ a,dY]
structure g2(d:Ca)(q:List a2)(m:ByteArray):Prop where
 g:bT d
 al:m.size%16=0
 cl:∀w,b7 d w->w.Z'=false->0<w.data.size->∀i,i<m.size->w.R=ab i->gb w.data (i%16)=dz q m i
def m9{c}(h:bT c){w}(a:b7 c w)(b:0<w.data.size){i}:∃x,gb w.data (i%16)=some x:=by
 have:=(mq h a).data;exact⟨_,aT (show i%16<w.data.data.size by show i%16<w.data.size;omega)⟩
def J7{m:ByteArray}(a:m.size%16=0){i}(b:i<m.size):ab i+16<=m.size:=by unfold ab;omega
def u6{m}(b:m.size%16=0){agY i}(c:i<m.size)(e:ab agY=ab i):(dC (Ga m agY)).size=16∧gb (dC (Ga m agY)) (i%16)=gb m i:=by
 have d:=J7 b c;unfold Ga;rw[e,aa ad,(oT:min _ 16=16)];have a:(m.extract (ab i) (ab i+16)).size=16:=by rw[dA];omega
 rw[show dC _=m.extract _ (ab i+16)from aa a];refine⟨a,?_⟩;rw[jg,aa ad];congr 1;unfold ab;omega
def zw{d}{q}{m}(h:g2 d q m){agY}(Q:agY<=4294967295)(left):
  g2 (iQ d q m agY left).1 (iQ d q m agY left).2.1 m∧∀i,i<m.size->gh (iQ d q m agY left).1 (iQ d q m agY left).2.1 m i=gh d q m i:=by
 unfold iQ;rw[dZ (by rw[(gl.1 h.g).1];decide)];have u:ab (ab agY)=ab agY:=by unfold ab;omega
 by_cases K:(bK d (ab agY)).2.isSome=true
 ·rw[aa K];have N:=λw=>nj h.g (ab agY) (w:=w);refine⟨⟨h.g.Zh _,h.al,λw f=>h.cl w ((N w).1 f)⟩,λi _=>?_⟩;show gh (tO d (ab agY)) q m i=_;unfold gh;rw[mm h.g (h.g.Zh _) λw _=>⟨λz=>⟨w,(N w).1 z,rfl,rfl⟩,λz=>⟨w,(N w).2 z,rfl,rfl⟩⟩]
 ·rw [dZ K];have E:(bK d (ab agY)).2.isSome=false:=sU K;have H:∀{w},b7 d w->w.R≠ab agY:=λ{w} f=>u ▸ px h.g E f;have j:=h.g.put (dV Q) (Ga (jZ q m) (ab agY)) false;have I:(jZ q m).size=m.size:=iY _ _;have k:∀i,i<m.size->ab agY=ab i->(dC (Ga (jZ q m) (ab agY))).size=16∧gb (dC (Ga (jZ q m) (ab agY))) (i%16)=dz q m i:=λi b e=>by
   obtain⟨O,J⟩:=u6 (by rw[I];exact h.al) (by rw[I];exact b) (u.trans e);exact⟨O,J.trans (F' q m b)⟩
  have v:∀i,i<m.size->ab agY=ab i->fj d i=none:=λi _ e=>m4 h.g λw f z=>H f (z.trans e.symm);have B:∀i,i<m.size->ab agY=ab i->∃x,dz q m i=some x:=λi b e=>by
   let⟨O,J⟩:=k i b e;rw[<-J];exact⟨_,aT (oT:i%16<(dC (Ga (jZ q m) (ab agY))).size)⟩
  rcases o7 h.g E (Ga (jZ q m) (ab agY)) false with ⟨o,f⟩|⟨o,l,f⟩
  ·rcases L:qZ d (ab agY) (Ga (jZ q m) (ab agY)) false with ⟨c,a,g⟩;rw[L]at o f j;simp only at o f j;rw[u]at f;show g2 (if g=true∧a.Z'=true∧a.data.size≠0 then(c,Bi q 4 a.R left a.data,true)else(c,q,false):Ca×List a2×Bool).1 (if g=true∧a.Z'=true∧a.data.size≠0 then(c,Bi q 4 a.R left a.data,true)else(c,q,false):Ca×List a2×Bool).2.1 m∧∀i,i<m.size->gh (if g=true∧a.Z'=true∧a.data.size≠0 then(c,Bi q 4 a.R left a.data,true)else(c,q,false):Ca×List a2×Bool).1 (if g=true∧a.Z'=true∧a.data.size≠0 then(c,Bi q 4 a.R left a.data,true)else(c,q,false):Ca×List a2×Bool).2.1 m i=gh d q m i;rw[dZ (by rw[o];simp)];have D:b7 c ⟨ab agY,false,dC (Ga (jZ q m) (ab agY))⟩:=(f _).2 (.inl rfl);refine⟨⟨j,h.al,λw r s t i b e=>?_⟩,λi b=>?_⟩
   ·rcases(f w).1 r with z|z
    ·subst z;exact(k i b e).2
    ·exact h.cl w z s t i b e
   ·show(fj c i).or _=(fj d i).or _;by_cases e:ab agY=ab i
    ·rw[i3 j D e,v i b e,(k i b e).2];let⟨x,p⟩:=B i b e;rw[p];rfl
    ·rw[mm h.g j λw C=>⟨λz=>⟨w,((f w).1 z).resolve_left λy=>e (by rw[<-C,y]),rfl,rfl⟩,λz=>⟨w,(f w).2 (.inr z),rfl,rfl⟩⟩]
  ·rcases L:qZ d (ab agY) (Ga (jZ q m) (ab agY)) false with ⟨c,a,g⟩;rw[L]at o f j l;simp only at o f j l;rw[u]at f;have D:b7 c ⟨ab agY,false,dC (Ga (jZ q m) (ab agY))⟩:=(f _).2 (.inl rfl);have F:a.R≠ab agY:=H l;have G:∀i,a.R=ab i->fj c i=none:=λi e=>m4 j λw z y=>by
    rcases(f w).1 z with x|x
    ·rw[x]at y;exact F (e.trans y.symm)
    ·exact x.2 (y.trans e.symm)
   have A:∀i,ab agY≠ab i->a.R≠ab i->fj c i=fj d i:=λi e n=>
    mm h.g j λw C=>⟨λz=>⟨w,(((f w).1 z).resolve_left λy=>e (by rw[<-C,y])).1,rfl,rfl⟩,λz=>⟨w,(f w).2 (.inr ⟨z,λy=>n (by rw[<-y,C])⟩),rfl,rfl⟩⟩
   show g2 (if g=true∧a.Z'=true∧a.data.size≠0 then(c,Bi q 4 a.R left a.data,true)else(c,q,false):Ca×List a2×Bool).1 (if g=true∧a.Z'=true∧a.data.size≠0 then(c,Bi q 4 a.R left a.data,true)else(c,q,false):Ca×List a2×Bool).2.1 m∧∀i,i<m.size->gh (if g=true∧a.Z'=true∧a.data.size≠0 then(c,Bi q 4 a.R left a.data,true)else(c,q,false):Ca×List a2×Bool).1 (if g=true∧a.Z'=true∧a.data.size≠0 then(c,Bi q 4 a.R left a.data,true)else(c,q,false):Ca×List a2×Bool).2.1 m i=gh d q m i;by_cases M:g=true∧a.Z'=true∧a.data.size≠0
   ·rw [aa M];have P:∀i,dz (Bi q 4 a.R left a.data) m i=if a.R=ab i then gb a.data (i%16)else dz q m i:=λi=>by
     rw[v_,me h.g l];split
     ·obtain⟨x,p⟩:=m9 h.g l ad;rw[p];rfl
     ·rfl
    refine⟨⟨j,h.al,λw r s t i b e=>?_⟩,λi b=>?_⟩
    ·show _=dz (Bi q 4 a.R left a.data) m i;rw[P];rcases(f w).1 r with z|z
     ·subst z;rw[dZ (λy=>F (y.trans e.symm))];exact(k i b e).2
     ·rw[dZ (λy=>z.2 (e.trans y.symm))];exact h.cl w z.1 s t i b e
    ·show(fj c i).or (dz (Bi q 4 a.R left a.data) m i)=(fj d i).or _;rw[P];by_cases n:a.R=ab i
     ·rw[aa n,G i n,i3 h.g l n];obtain⟨x,p⟩:=m9 h.g l ad;rw[p];rfl
     ·rw[dZ n];by_cases e:ab agY=ab i
      ·rw[i3 j D e,v i b e,(k i b e).2];let⟨x,p⟩:=B i b e;rw[p];rfl
      ·rw[A i e n]
   ·rw [dZ M];refine⟨⟨j,h.al,λw r s t i b e=>?_⟩,λi b=>?_⟩
    ·rcases(f w).1 r with z|z
     ·subst z;exact(k i b e).2
     ·exact h.cl w z.1 s t i b e
    ·show(fj c i).or _=(fj d i).or _;by_cases n:a.R=ab i
     ·rw[G i n,i3 h.g l n];by_cases t:a.data.size=0
      ·rw[jb ad]
      ·have s:a.Z'=false:=by
        cases R:a.Z' with
        |false=>rfl
        |true=>exact absurd ⟨o,R,t⟩ M
       rw[h.cl a l s ad i b n];cases dz q m i<;>rfl
     ·by_cases e:ab agY=ab i
      ·rw[i3 j D e,v i b e,(k i b e).2];let⟨x,p⟩:=B i b e;rw[p];rfl
      ·rw[A i e n]
def oj(x)(q):fP (x::q)=(if x.kind=4 then [⟨x.R,x.data⟩]else [])++fP q:=by
 unfold fP;by_cases h:x.kind=4
 ·rw[aa h,List.filter_cons,aa (sU h)];rfl
 rw[dZ h,List.filter_cons,dZ (sU h)];rfl
def y3(q)(m)(i)(b:i<m.size):
  dz (eH q).1 (if(eH q).2.2=true∧(eH q).2.1.kind=4 then rP m [⟨(eH q).2.1.R,(eH q).2.1.data⟩]else m) i=dz q m i:=by
 cases q with
 |nil=>rfl
 | cons x r=>
  by_cases h:wrap64 (x.left-1)>0
  ·rw[show eH (x::r)=({x with left:=wrap64 _}::r,OU,false)from aa h,dZ (by simp)];unfold dz;rw[oj,oj]
  ·rw[show eH (x::r)=(r,{x with left:=wrap64 _},true)from dZ h];by_cases a:x.kind=4
   ·rw[aa ⟨rfl,a⟩];unfold dz;rw[oj,aa a,lv _ _ _ b,q1,Option.or_assoc]
   ·rw[dZ (λz=>a z.2)];unfold dz;rw[oj,dZ a,iA]
theorem g2.Za{d}{q b}{m a}(h:g2 d q m)(g:a.size=m.size)(c:∀i,i<m.size->dz b a i=dz q m i):g2 d b a:=
 ⟨h.g,by rw[g];exact h.al,λw k f j i l e=>by rw[c i ad];exact h.cl w k f j i ad e⟩
abbrev Co.mc(c:Co):Prop:=g2 c.data c.Y c.mem
abbrev Co.YB(c:Co)(i:Nat):Option UInt8:=gh c.data c.Y c.mem i
structure g8(c d:Co):Prop where
 mc:d.mc
 a:d.mem.size=c.mem.size
 un:∀i,i<c.mem.size->d.YB i=c.YB i
theorem g8.refl{c}(h:c.mc):g8 c c:=⟨h,rfl,λ_ _=>rfl⟩
theorem g8.trans{a b c}(h:g8 a b)(k:g8 b c):g8 a c:=⟨k.mc,k.a.trans h.a,λi d=>(k.un i (oH h.a)).trans (h.un i d)⟩
theorem g8.same{a b c}(h:g8 a b)(e:c.data=b.data)(f:c.Y=b.Y)(d:c.mem=b.mem):g8 a c:=by
 refine⟨?_,by rw[d];exact h.a,λi g=>?_⟩
 ·show g2 c.data c.Y c.mem;rw[e,f,d];exact h.mc
 show gh c.data c.Y c.mem i=_;rw[e,f,d];exact h.un i g
def qt{c}(h:c.mc){agY}(e:agY<=4294967295):g8 c (oK c agY):=by
 have b:=zw h e (lX c.U c.asked);have a:=(ji c agY).1;refine⟨?_,by rw[a],λi d=>?_⟩
 ·show g2 (oK c agY).data (oK c agY).Y (oK c agY).mem;rw[a];exact b.1
 show gh (oK c agY).data (oK c agY).Y (oK c agY).mem i=_;rw[a];exact b.2 i d
def qL{c}(h:c.mc){k}(b:k≠4)(agY)(d):g8 c (jE c k agY d):=by
 have a:∀i,dz (jE c k agY d).Y c.mem i=dz c.Y c.mem i:=λi=>K4 _ b _ _ _ _ _;refine⟨g2.Za h rfl λi _=>a i,rfl,λi _=>?_⟩;show(fj c.data i).or (dz (jE c k agY d).Y c.mem i)=_;rw[a];rfl
def y4{q}(h:∀x∈q,x.ok):(eH q).2.2=true->(eH q).2.1.R<=4294967295:=by
 cases q with
 |nil=>intro z;cases z
 |cons x r=>
  by_cases a:wrap64 (x.left-1)>0
  ·rw[show eH (x::r)=({x with left:=wrap64 _}::r,OU,false)from aa a];intro z;cases z
  ·rw[show eH (x::r)=(r,{x with left:=wrap64 _},true)from dZ a];exact λ_=>(h x b1).1
def lf{c}(h:c.mc)(r:∀x∈c.Y,x.ok):g8 c (lM c):=by
 have a:=y3 c.Y c.mem;have k:=y4 r;unfold lM;rcases p:eH c.Y with ⟨q,x,ok⟩;rw[p]at a k;simp only at a k;show g8 c (if ok=true then ID {c with Y:=q} x else {c with Y:=q});have j:∀{e:ByteArray},e.size=c.mem.size->(∀i,i<c.mem.size->dz q e i=dz c.Y c.mem i)->g8 c {c with Y:=q,mem:=e }:=λ{e} o a=>by
  refine⟨g2.Za h o a,o,λi b=>?_⟩;show(fj c.data i).or (dz q e i)=_;rw[a i b];rfl
 by_cases d:ok=true
 ·rw [aa d];unfold ID;by_cases f:x.kind=4
  ·rw[dZ ad,dZ ad,dZ ad,aa f];exact j (iY _ _) λi b=>by have:=a i b;rwa[aa ⟨d,f⟩]at this
  have g:g8 c {c with Y:=q}:=j rfl λi b=>by have:=a i b;rwa[dZ (λz=>f z.2)]at this
  by_cases l:x.kind=1
  ·rw[aa l];exact g.same rfl rfl rfl
  rw[dZ l];by_cases m:x.kind=2
  ·rw[aa m];exact g.same rfl rfl rfl
  rw[dZ m];by_cases n:x.kind=3
  ·rw[aa n];exact g.trans (qt g.mc (k d))
  rwa[dZ n,dZ f]
 rw[dZ d];exact j rfl λi b=>by have:=a i b;rwa[dZ (λz=>d z.1)]at this
def yc{d b}{a j}(h:d.size=16)(g:b.size+a<=16)(i:j<16):gb (Fk d a b) j=(if a<=j then gb b (j-a)else none).or (gb d j):=by
 unfold Fk;rw[ov,ov,jg,jg];simp only[kH,dA];by_cases c:a<=j
 ·rw[aa c];by_cases e:j-a<b.size
  ·rw[aa ad,dZ ad,(oT:j-(min a d.size-0)=j-a)];have:∃x,gb b _=some x:=⟨_,aT e⟩;let⟨x,f⟩:=this;rw[f];rfl
  rw[jb (i:=j-a) ad,dZ ad,aa ad,(oT:a+b.size+(j-(min a d.size-0+b.size))=j)];rfl
 rw[dZ c,aa ad,aa ad,aa ad,(oT:0+j=j)];rfl
def G0{d}{q}{m}(h:g2 d q m){p}(u:(xL d p.V p.data).2=true):
  g2 (xL d p.V p.data).1 q m∧∀i,i<m.size->gh (xL d p.V p.data).1 q m i=(cN p i).or (gh d q m i):=by
 let⟨v,t,a,n,j,b⟩:=wK h.g u;have c:=h.g.write p.V p.data;refine⟨⟨c,h.al,λw o k s i l e=>?_⟩,λi l=>?_⟩
 ·rcases(b w).1 o with z|z
  ·subst z;cases k
  exact h.cl w z.1 k s i l e
 show(fj _ i).or _=(cN p i).or ((fj d i).or _);by_cases e:ab p.V=ab i
 ·rw[i3 c ((b _).2 (.inl rfl)) (a.trans e),i3 h.g t (a.trans e),yc n j ad,Option.or_assoc];congr 1;unfold cN ab at *;by_cases g:p.V<=i
  ·rw[aa g,aa ad];congr 1;omega
  rw[dZ g,dZ ad]
 have r:cN p i=none:=by
  unfold cN;split
  ·exact jb (by unfold ab at e;omega)
  rfl
 rw[r,mm h.g c λw f=>⟨λz=>⟨w,(((b w).1 z).resolve_left λy=>e (by rw[<-f,y];exact a.symm)).1,rfl,rfl⟩,λz=>⟨w,(b w).2 (.inr ⟨z,λy=>e (by rw[<-y,f])⟩),rfl,rfl⟩⟩];rfl
def Jh{d}{q}{m}(h:g2 d q m){w}(a:b7 d w)(A:w.data.size≠0)(left):
  g2 (wB d w.R) (Bi q 4 w.R left w.data) m∧∀i,i<m.size->gh (wB d w.R) (Bi q 4 w.R left w.data) m i=gh d q m i:=by
 have n:=h.g.Y4 w.R;have c:=(mq h.g a).R;have b:=λv=>sT h.g (agY:=w.R) v;have l:∀i,dz (Bi q 4 w.R left w.data) m i=if w.R=ab i then gb w.data (i%16)else dz q m i:=λi=>by
  rw[v_,me h.g a];split
  ·obtain⟨x,j⟩:=m9 h.g a ad;rw[j];rfl
  rfl
 refine⟨⟨n,h.al,λv t r p i o e=>?_⟩,λi o=>?_⟩
 ·rw[l];rcases(b v).1 t with ⟨u,f,k,g⟩|z
  ·have:=oc h.g f a (k.trans c);subst this g;rw[aa e]
  rw[dZ (λy=>z.2 (by rw[e, <-y,c]))];exact h.cl v z.1 r p i o e
 show(fj _ i).or _=(fj d i).or _;have s:fj (wB d w.R) i=fj d i:=mm h.g n λv _=>⟨λz=>by
  rcases(b v).1 z with ⟨u,f,k,g⟩|y
  ·subst g;exact⟨u,f,rfl,rfl⟩
  ·exact⟨v,y.1,rfl,rfl⟩,λz=>by
  by_cases e:v.R=ab w.R
  ·exact⟨{v with Z':=false},(b _).2 (.inl ⟨v,z,e,rfl⟩),rfl,rfl⟩
  exact⟨v,(b v).2 (.inr ⟨z,e⟩),rfl,rfl⟩⟩
 rw[s,l];split
 ·rename_i e;rw[i3 h.g a e];obtain⟨x,j⟩:=m9 h.g a ad;rw[j];rfl
 rfl
def lx{c d:Co}(h:g8 c d)(b:d.W=c.W):Xr d=Xr c:=pb h.a λi a=>by rw[b];exact a1 _ (h.un i a)
def sj{c}(h:c.mc):(tY c).mc∧Xr (tY c)=Xr c∧(tY c).mem.size=c.mem.size:=by
 have g:(aW c).mc∧Xr (aW c)=Xr c∧(aW c).mem=c.mem:=by
  cases f:c.W with
  |nil=>
   have m:aW c={c with W:=[],data:=c.data}:=by unfold aW;rw[f];rfl
   rw[m]
   exact⟨h,by unfold Xr;rw[f],rfl⟩
  | cons p l=>
   have m:aW c={c with W:=(sL (p::l) c.data).1,data:=(sL (p::l) c.data).2.1}:=by unfold aW;rw[f]
   rw[m];by_cases j:(xL c.data p.V p.data).2=true
   ·rw[show sL (p::l) c.data=(l,(xL c.data p.V p.data).1,true)from aa j];have k:=G0 h j;refine⟨k.1,?_,rfl⟩;unfold Xr;refine pb rfl λi n=>?_;rw[f,kR,Option.or_assoc,k.2 i n]
   ·rw[show sL (p::l) c.data=(p::l,c.data,false)from dZ j];exact⟨h,by unfold Xr;rw[f],rfl⟩
 have hA:∀{d:Co},d.mc->(tW d).mc∧Xr (tW d)=Xr d∧(tW d).mem.size=d.mem.size:=λ{d} k=>by
  unfold tW;split
  ·exact⟨k,rfl,rfl⟩
  ·split
   ·have z:=λl=>qL k (k:=3) dT l oZ;exact⟨(z _).mc,lx (z _) rfl,(z _).a⟩
   ·exact⟨k,rfl,rfl⟩
 have o:∀{d:Co},d.mc->(nP d).mc∧Xr (nP d)=Xr d∧(nP d).mem.size=d.mem.size:=λ{d} k=>by
  unfold nP;split
  ·exact⟨k,rfl,rfl⟩
  ·unfold pE;split
   ·rename_i w e;split
    ·rename_i f;have j:b7 d.data w:=by
      unfold cR at e;split at e
      ·exact List.mem_of_find?_eq_some e
      ·cases e
     have z:=Jh k j f (lX d.U d.asked);refine⟨z.1,?_,rfl⟩;unfold Xr;exact pb rfl λi n=>a1 _ (z.2 i n)
    ·exact⟨k,rfl,rfl⟩
   ·exact⟨k,rfl,rfl⟩
 rw[mO];split
 ·have a:=hA g.1;have b:=o a.1;exact⟨b.1,b.2.1.trans (a.2.1.trans g.2.1),b.2.2.trans (a.2.2.trans (by rw[g.2.2]))⟩
 ·have b:=o g.1;exact⟨b.1,b.2.1.trans g.2.1,b.2.2.trans (by rw[g.2.2])⟩
def ea{c d:Co}(h:c.mc)(a:d.data=c.data)(b:d.Y=c.Y)(e:d.mem=c.mem):d.mc:=by
 show g2 d.data d.Y d.mem;rwa[a,b,e]
theorem m':∀(n:Nat) (c:Co),(∀e∈c.Z,e.ok)->c.mc->(eC n c).mc
 |0,_,_,h=>h
 | n + 1,c,d,h=>by
  unfold eC;split
  ·exact h
  ·split
   ·exact h
   ·rename_i e l a;split
    ·exact h
    ·split
     ·exact ea h rfl rfl rfl
     ·split
      ·exact h
      ·have b:=d e (by rw[a];exact b1);refine m' n _ (λx f=>d x (by rw[a];exact bY _ f)) ?_;have hp:(fZ c (cA e)).mc:=ea h rfl rfl rfl;unfold vZ vG;split
       ·exact ea (qt hp (fE b).V).mc rfl rfl rfl
       ·exact ea h rfl rfl rfl
def J8{c}(h:c.mc)(i):(oE c i).mc:=by
 have a:=λl=>(qL h (k:=1) dT l oZ).mc;unfold oE
 repeat' split
 all_goals first|exact h|exact (λe=>ea h rfl rfl rfl) _|exact ea (a _) rfl rfl rfl
def ya{c}(h:c.mc)(i):(iS c i).mc:=by
 have a:∀e,(bt c i e).mc:=λe=>ea h rfl rfl rfl;unfold iS
 repeat' split
 all_goals first|exact h|exact a _|exact J8 (a _) _
theorem qW:∀(p:List Nat) (c:Co),c.mc->(p.foldl iS c).mc
 |[],_,h=>h
 |i::p,c,h=>qW p _ (ya h i)
theorem o8:∀(n:Nat) (c:Co),c.mc->(kV n c).mc
 |0,_,h=>h
 |n+1,c,h=>by
  unfold kV
  repeat' split
  ·exact h
  ·exact h
  ·exact o8 n _ (ea h rfl rfl rfl)
theorem qh:∀(n:Nat) (c:Co),c.mc->(eL n c).mc
 |0,_,h=>h
 | n +1,c,h=>by
  unfold eL;split
  ·exact h
  ·split
   ·exact ea h rfl rfl rfl
   ·split
    ·split
     ·exact(qL h (k:=2) dT _ _).mc
     ·exact h
    ·refine qh n _ ?_;have a:∀w,(dM {c with y:=tO c.y (ab c.Yr)} w).1.mc:=λw=>by
      unfold dM
      repeat' split
      all_goals exact ea h rfl rfl rfl
     exact ea (a (bg c.prog c.Yr)) rfl rfl rfl
def C5{c}{n}(l:c.E n)(k:n+20<=890000)(h:c.mc):(c8 c).mc:=by
 have e:=Ql l k;have f:(s0 c).mc:=ea h rfl rfl rfl;have g:(s1 c).mc:=(lf f e.k0.ok.Z_).mc;have i:(ap c).mc:=by
  show(kK _).mc;unfold kK
  repeat' split
  all_goals exact ea g rfl rfl rfl
 have a:(s3 c).mc:=m' _ _ e.k2.ok.Z7 i;have b:(c6 c).mc:=by
  show(gY _).mc;unfold gY;split
  ·exact a
  exact qW _ _ a
 have d:(dq c).mc:=by
  show(lP _).mc;unfold lP;split
  ·exact b
  exact o8 _ _ b
 have j:(b' c).mc:=by
  show(eN _).mc;unfold eN;split
  ·exact d
  exact qh _ _ d
 exact(sj j).1
def F_(a)(prog)(m)(e:(fX a prog m).E 0):(fX a prog m).mc:=by
 have b:∀w, ¬b7 (fX a prog m).data w:=λw c=>by
  let⟨s,f,d⟩:=List.mem_flatten.1 c;rw[(List.mem_replicate.1 f).2]at d;exact absurd d List.not_mem_nil
 refine⟨e.gd,?_,λw c=>absurd c (b w)⟩;show(jB m).size%16=0;let⟨n,b⟩:∃n,(jB m).size=gr n:=⟨_,wE m⟩;rw[b];unfold gr
 (repeat' split)<;>rfl
theorem kp{X:Co}(a:∀k,k<=3000->ip X k)(h:X.mc):∀k,k<=3000->(uN X k).mc
 |0,_=>h
 |k+1,b=>by
  have g:=a k ad;show(uG (uN X k)).mc;rw[show uG (uN X k)=c8 (uN X k)from aa g.rt];exact C5 (EL g.ok ad g.rt) ad (kp a h k ad)
structure K5(c:Co):Prop where
 st:c.halt≠0->c.Z=[]∧c.O=[]
structure ik(c d:Co):Prop where
 ret:d.N=c.N
 r:d.r=c.r
 halt:d.halt=c.halt
 Z:c.Z=[]->d.Z=[]
 Z5:d.O=c.O
 Yr:d.Yr=c.Yr
theorem ik.trans{a b c}(h:ik a b)(k:ik b c):ik a c:=⟨k.ret.trans h.ret,k.r.trans h.r,k.halt.trans h.halt,λz=>k.Z (h.Z z),k.Z5.trans h.Z5,k.Yr.trans h.Yr⟩
def HX(c:Co)(agY:Nat):ik c (oK c agY):=by
 rw[<-uY];exact⟨rfl,rfl,rfl,λh=>h,rfl,rfl⟩
def tZ(c:Co):ik c (lM c):=by
 have a:ik c (jJ c):=⟨rfl,rfl,rfl,λh=>h,rfl,rfl⟩;rw[kC];split
 ·unfold ID
  repeat' split
  ·exact⟨rfl,rfl,rfl,λh=>by show List.map _ c.Z=[];rw[h];rfl,rfl,rfl⟩
  ·exact⟨rfl,rfl,rfl,λh=>h,rfl,rfl⟩
  ·exact a.trans (HX _ _)
  ·exact⟨rfl,rfl,rfl,λh=>h,rfl,rfl⟩
  exact a
 exact a
def B9(c:Co):ik c (tY c):=by
 have a:ik c (aW c):=⟨rfl,rfl,rfl,λh=>h,rfl,rfl⟩;have hA:∀d:Co,ik d (tW d):=λd=>by
  unfold tW
  repeat' split
  all_goals exact⟨rfl,rfl,rfl,λh=>h,rfl,rfl⟩
 have b:∀d:Co,ik d (nP d):=λd=>by
  unfold nP pE
  repeat' split
  all_goals exact⟨rfl,rfl,rfl,λh=>h,rfl,rfl⟩
 rw[mO];split
 ·exact(a.trans (hA _)).trans (b _)
 exact a.trans (b _)
def wn{c:Co}(h:c.halt≠0):c8 c=tY (lM (s0 c)):=by
 have a:(lM (s0 c)).halt≠0:=by rw[(tZ (s0 c)).halt];exact h
 have b:kK (lM (s0 c))=lM (s0 c):=aa a;have d:d' (lM (s0 c))=lM (s0 c):=mG (.inl a);have e:gY (lM (s0 c))=lM (s0 c):=aa a;have f:lP (lM (s0 c))=lM (s0 c):=aa a;have g:eN (lM (s0 c))=lM (s0 c):=aa a;show tY (eN (lP (gY (d' (kK (lM (s0 c)))))))=_;rw[b,d,e,f,g]
def sb{c:Co}(h:c.halt≠0):ik c (c8 c):=by
 rw[wn h];have a:ik c (s0 c):=⟨rfl,rfl,rfl,λh=>h,rfl,rfl⟩;exact(a.trans (tZ _)).trans (B9 _)
set_option maxRecDepth 100000
set_option maxHeartbeats 4000000
structure o_(s t:St)(x:Sp):Prop where
 K:x.K=s.K
 halt:x.halt≠0->t={s with halt:=x.halt}∧x.rd=0∧x.store=false
 run:x.halt=0->t.halt=0∧t.K=x.next
 r:t.r=lY s.r x
 mem:t.mem=if x.store=true then DD s.mem x.V (oF x.value x.size.toNat)else s.mem
 st:x.store=true->x.halt=0∧(x.size=1∨x.size=2∨x.size=4)∧kZ s.mem.size x.V x.size=true
def pq(x n j)(c:j<n):gb (oF x n) j=some (UInt8.ofNat (x/256 ^ j%256)):=by
 have b:∀(l:List Int) (r:ByteArray),(l.foldl (λr m=>r.push (UInt8.ofNat m.toNat)) r).data.toList=r.data.toList++l.map λm=>UInt8.ofNat m.toNat:=by
  intro l
  induction l with
  |nil=>intro r;simp
  |cons a l ih=>intro r;rw[mK,ih];simp[ByteArray.push]
 unfold gb oF;rw[<-bQ,b,List.map_map,show(ByteArray.empty.data.toList)=[]from rfl,iA,aX,eZ c];rfl
theorem wy(l:List UInt8):∀(n j:Nat),j<n->fp l n/256 ^ j%256=(l.getD j 0).toNat
 |0,j,h=>absurd h (dG j)
 | n+1,j,h=>by
  have b:=yK l n;unfold fp;by_cases e:j=n
  ·subst e;rw[Nat.add_mul_div_left _ _ (Nat.pow_pos dT),Nat.div_eq_of_lt b,bJ];exact jM (UInt8.toNat_lt _)
  ·have a:j<n:=oT;have ih:=wy l n j a;rw[<-ih];obtain⟨d,rfl⟩:∃d,n=j+1+d:=⟨n-(j+1),oT⟩;rw[show 256 ^ (j+1+d)*(l.getD (j+1+d) 0).toNat=256 ^ j*(256*(256 ^ d*(l.getD (j+1+d) 0).toNat)) by rw[Nat.pow_add,Nat.pow_succ];ac_rfl];rw[Nat.add_mul_div_left _ _ (Nat.pow_pos dT),Nat.add_mul_mod_self_left]
def r'(b n):oF (ki b n) n=oF b n:=by
 refine lq (by rw[mP,mP]) λj a=>?_;rw[mP]at a;rw[pq _ _ _ a,pq _ _ _ a];unfold ki;rw[mP,wy _ _ _ a];have h:=pq b n j a;have c:(oF b n).data.toList.getD j 0=UInt8.ofNat (b/256 ^ j%256):=by
  rw[aR,bQ];unfold gb at h;rw[h];rfl
 rw[c];congr 1;simp
def tw(a):(am a=3↔11<=a∧a<=15)∧(am a=4↔16<=a∧a<=18)∧(am a=5↔3<=a∧a<=10):=by
 unfold am;(repeat' split)<;>omega
def Dl{i}(h:am i.op=4):wr i=0:=by
 have:=(tw i.op).2.1.1 h;have a:cW i.op=4:=by unfold cW;(repeat' split)<;>omega
 unfold wr;rw[a];rfl
def oe(prog){s}(h:s.halt=0):o_ s (gE prog s).1 (gE prog s).2:=by
 have p:=ta (bg prog s.K);have a:∀(x:Sp),x.rd=0->lY s.r x=s.r:=λx u=>by unfold lY;rw[dZ (by rw[u];omega)]
 have b:∀f g,f≠0->o_ s (Gc s f g).1 (Gc s f g).2:=λf g t=>⟨rfl,λ_=>c9,λe=>absurd e t,(a _ rfl).symm,rfl,λe=>by cases e⟩;have k:∀(i:SI) (x:Sp),i=rA prog s->x.rd=wr i->wr i≠0->x.halt=0->lY s.r x=gk s.r (wr i).toNat x.value:=λi x n q v r=>by
  unfold lY;rw[q,aa ⟨by subst n;have:0<=wr (rA prog s):=p.1;omega,by subst n;have:wr (rA prog s)<32:=p.2;omega,r⟩]
 unfold gE;rw[aa h];split
 ·split
  ·exact b 2 0 dT
  unfold g6;split
  ·exact b 6 0 dT
  split
  ·exact b 7 0 dT
  split
  ·unfold sN;split
   ·rename_i l;split
    ·rename_i d;have o:((bP (rA prog s).op:Nat):Int)=1∨((bP (rA prog s).op:Nat):Int)=2∨((bP (rA prog s).op:Nat):Int)=4:=by
      unfold kZ at l;simp[aP,aY]at l;exact l.1
     refine⟨rfl,λe=>absurd rfl e,λ_=>⟨h,rfl⟩,?_,?_,λ_=>⟨rfl,o,l⟩⟩
     ·exact(a _ (Dl d)).symm
     simp only[d,nR,fD];rw[Int.toNat_natCast,r']
    rename_i d;split
    ·rename_i c;exact⟨rfl,λe=>absurd rfl e,λ_=>⟨h,rfl⟩,(a _ c).symm,by simp[d],λe=>by simp[d]at e⟩
    rename_i c;exact⟨rfl,λe=>absurd rfl e,λ_=>⟨h,rfl⟩,(by symm;exact k _ _ rfl rfl c rfl),by simp[d],λe=>by simp[d]at e⟩
   exact b _ _ (by split<;>decide)
  unfold oN;have j:∀m tk,o_ s (IJ s (rA prog s) (s.r (rA prog s).j.toNat) (s.r (rA prog s).o.toNat) m tk).1 (IJ s (rA prog s) (s.r (rA prog s).j.toNat) (s.r (rA prog s).o.toNat) m tk).2:=λm tk=>by
   unfold IJ;split
   ·rename_i c;exact⟨rfl,λe=>absurd rfl e,λ_=>⟨h,rfl⟩,(a _ c).symm,rfl,λe=>by cases e⟩
   rename_i c;exact⟨rfl,λe=>absurd rfl e,λ_=>⟨h,rfl⟩,(by symm;exact k _ _ rfl rfl c rfl),rfl,λe=>by cases e⟩
  split
  ·split
   ·exact j _ _
   exact b 3 0 dT
  exact j _ _
 exact b 1 0 dT
def ga(prog:List Nat)(pc:Nat):Prop:=(ez prog pc).isSome=true∧e4 (bg prog pc)≠0
def ek(prog:List Nat)(T:St)(e:ai):St×Sp:=gE prog ⟨e.K,T.r,T.mem,0⟩
def ct(prog:List Nat)(T:St)(l:List ai):St:=l.foldl (λT e=>(ek prog T e).1) T
def ls(prog:List Nat)(T:St)(e:ai)(l:List ai):ct prog T (e::l)=ct prog (ek prog T e).1 l:=rfl
def E5(prog:List Nat)(T:St)(a b:List ai):ct prog T (a++b)=ct prog (ct prog T a) b:=List.foldl_append
structure db(prog:List Nat)(T:St)(e:ai):Prop where
 ins:ga prog e.K->e.i=bi (bg prog e.K)
 Zv: ¬ga prog e.K->e.is=3∧e.i=MG
 told:e.is=1∨e.is=3->cA e=(ek prog T e).2
 wait:e.is=0∨e.is=2->e.halt=0∧e.i.op≠47∧e.i.op≠48
 Zy:e.known=true->am e.i.op=3∨am e.i.op=4->e.V=gC e.i (T.r e.i.j.toNat)∧kZ T.mem.size e.V (bP e.i.op)=true
 st:e.is=0∨e.is=1∨e.is=2∨e.is=3
 Y:e.is=2->am e.i.op=3∧e.known=true
 run:e.is=1->e.halt=0∨(am e.i.op=5∧e.halt=3)
 Zq:am e.i.op=4->e.is≠1
 ahead:am e.i.op=3->e.is=1->e.known=true
 Ze:am e.i.op=5->e.known=true->e.is=3∧e.halt=0
 YU:am e.i.op=5->e.is=3->e.halt=0->e.known=true
 gs:(ga prog e.K->am e.i.op≠5)->e.M=bz e.K
def g'(prog:List Nat):St->List ai->Prop
 |_,[]=>True
 |T,e::l=>db prog T e∧g' prog (ek prog T e).1 l
theorem my{prog:List Nat}:∀{T:St} {a b:List ai},g' prog T (a++b)↔g' prog T a∧g' prog (ct prog T a) b
 |T,[],b=>⟨λh=>⟨trivial,h⟩,λh=>h.2⟩
 |T,e::a,b=>by
  show db prog T e∧g' prog (ek prog T e).1 (a++b)↔(db prog T e∧g' prog (ek prog T e).1 a)∧_;rw[my,ls,uK]
def ic{prog}{T}{l}(h:g' prog T l){k}{e}(b:l[k]?=some e):db prog (ct prog T (l.take k)) e:=by
 let⟨c,a⟩:=Em.1 b;have:l=l.take k++e::l.drop (k+1):=by rw[<-a, <-bF c,js]
 rw[this]at h;exact(my.1 h).2.1
def sq(prog)(T){e a}(h:a.K=e.K):ek prog T a=ek prog T e:=by unfold ek;rw[h]
theorem ul(prog:List Nat):∀(T:St) (l a:List ai),a.map (·.K)=l.map (·.K)->ct prog T a=ct prog T l
 |T,[],[],_=>rfl
 |T,[],_::_,h=>by cases h
 |T,_::_,[],h=>by cases h
 |T,e::l,b::a,h=>by
  simp[jC,List.cons.injEq]at h;rw[ls,ls,sq prog T h.1,ul prog _ l a h.2]
def I9(prog){s}(h:s.halt=0):(gE prog s).2.rd=0∨((gE prog s).2.rd=wr (rA prog s)∧ga prog s.K):=by
 unfold gE;rw[aa h];split
 ·rename_i a;split
  ·exact .inl rfl
  rename_i b;unfold g6 sN oN IJ Gc
  (repeat' split)<;>first|exact .inl rfl|exact .inr ⟨rfl,⟨a,b⟩⟩
 exact .inl rfl
def yx{e}(h:e.halt=0)(a:wr e.i≠0):(cA e).rd=wr e.i∧(cA e).halt=0∧(cA e).value=e.value:=by
 unfold cA;rw[dZ (by rw[h];decide)]
 (repeat' split)<;>first|exact⟨rfl,rfl,rfl⟩|contradiction
theorem vt{prog:List Nat}{T:St}{agI:List ai}(h:g' prog T agI){a:Int}(r:1<=a)(s:a<=31):∀(n:Nat),n<=agI.length->
  (hv agI a n=none->(ct prog T (agI.take n)).r a.toNat=T.r a.toNat)∧
  (∀k e,hv agI a n=some k->agI[k]?=some e->e.is=3->e.halt=0->(ct prog T (agI.take n)).r a.toNat=e.value)
 |0,_=>⟨λ_=>rfl,nofun⟩
 | n +1,m=>by
  let⟨x,g⟩:∃x,agI[n]?=some x:=⟨_,aA ad⟩;have j:=ic h g;have l:=oe prog (s:=⟨x.K,(ct prog T (agI.take n)).r,(ct prog T (agI.take n)).mem,0⟩) rfl;have c:=I9 prog (s:=⟨x.K,(ct prog T (agI.take n)).r,(ct prog T (agI.take n)).mem,0⟩) rfl;have f:ct prog T (agI.take (n+1))=(ek prog (ct prog T (agI.take n)) x).1:=by
   rw[bW,g,E5];rfl
  let⟨o,p⟩:=vt h r s n ad;rw[f];unfold hv LS;rw[g];simp[aY];by_cases b:wr x.i=a
  ·rw[aa b];refine⟨nofun,λk e i d t q=>?_⟩;injection i with i;subst i;rw[g]at d;injection d with d;subst d;let⟨t1,t2,t3⟩:=yx q ad;have f:=j.told (.inr t);show(gE prog _).1.r _=_;rw[l.r];unfold ek at f;rw[<-f];unfold lY;rw[aa ⟨oT,oT,t2⟩,t1,b,t3];exact aa rfl
  ·rw [dZ b];have m:(ek prog (ct prog T (agI.take n)) x).1.r a.toNat=(ct prog T (agI.take n)).r a.toNat:=by
    show(gE prog _).1.r _=_;rw[l.r];unfold lY;split
    ·rename_i v;have:(gE prog ⟨x.K,(ct prog T (agI.take n)).r,(ct prog T (agI.take n)).mem,0⟩).2.rd≠a:=by
      rcases c with c|⟨c,u⟩
      ·omega
      ·rw[c];have:=j.ins u;rw[this]at b;exact b
     show(if a.toNat=_ then _ else _)=_;rw[dZ ad]
    ·rfl
   rw[m];exact⟨o,p⟩
theorem s'{prog:List Nat}:∀{T:St} (l:List ai),T.r 0=0->(ct prog T l).r 0=0
 |T,[],h=>h
 | T,e::l,h=>by
  rw[ls];refine s' l ?_;show(gE prog _).1.r 0=0;rw[(oe prog (s:=⟨e.K,T.r,T.mem,0⟩) rfl).r];unfold lY;split
  ·show(if 0=_ then _ else _)=_;rw[dZ ad];exact h
  ·exact h
def rv{prog}{T}{agI}(h:g' prog T agI)(j:T.r 0=0){i}(f:i<=agI.length){b}{v}(a:lK agI T.r i b=some v):v=(ct prog T (agI.take i)).r b.toNat:=by
 unfold lK at a;split at a
 ·rename_i g;injection a with a;subst g;rw[<-a];exact(s' _ j).symm
 split at a
 ·cases a
 rename_i p g;have l:b<=31:=oT;let⟨n,o⟩:=vt h oT l i f;unfold gX at a;rw[dZ ad,lu f]at a;split at a
 ·rename_i c;injection a with a;rw[n c];exact a.symm
 rename_i k c;split at a
 ·rename_i e m;split at a
  ·rename_i d;injection a with a;rw[o k e c m d.1 d.2];exact a.symm
  cases a
 cases a
def l7{prog}{T}{e}(a:ga prog e.K)(d:e.i=bi (bg prog e.K))(b:e.i.op≠47)(c:e.i.op≠48):
  ek prog T e=if am e.i.op=3∨am e.i.op=4 then sN ⟨e.K,T.r,T.mem,0⟩ e.i (T.r e.i.j.toNat) (T.r e.i.o.toNat)else oN ⟨e.K,T.r,T.mem,0⟩ e.i (T.r e.i.j.toNat) (T.r e.i.o.toNat):=by
 have hI:rA prog ⟨e.K,T.r,T.mem,0⟩=e.i:=d.symm;unfold ek gE;rw[aa rfl,aa a.1,dZ a.2,hI];unfold g6;rw[dZ b,dZ c]
def y9{prog}{T}{e}(h:db prog T e):db prog T (a0 e)∧(a0 e).K=e.K:=by
 unfold a0;split
 ·exact⟨h,rfl⟩
 rename_i g;split
 ·refine⟨⟨h.ins,λf=>⟨rfl,(h.Zv f).2⟩,λ_=>(h.told (.inl oT)),(λh=>by rcases h with h|h<;>cases h),λa d=>h.Zy ?_ d,.inr (.inr (.inr rfl)),nofun,nofun,nofun,nofun,λb a=>⟨rfl,?_⟩,λb _ c=>aa ⟨b,c⟩,h.gs⟩,rfl⟩
  ·have a:(if am e.i.op=5∧e.halt=0 then true else e.known)=true:=a
   rwa [dZ (λq=>by have:=q.1;have d:am e.i.op=3∨am e.i.op=4:=d;omega)]at a
  have a:(if am e.i.op=5∧e.halt=0 then true else e.known)=true:=a;by_cases c:e.halt=0
  ·exact c
  rw[dZ (λq=>c q.2)]at a;exact absurd (h.Ze b a).1 ad
 exact⟨⟨h.ins,h.Zv,h.told,h.wait,h.Zy,h.st,h.Y,h.run,h.Zq,h.ahead,h.Ze,h.YU,h.gs⟩,rfl⟩
def Jp{prog}{T}{e}(h:db prog T e){a b}(D:e.is=0->a=T.r e.i.j.toNat)(E:e.is=0->b=T.r e.i.o.toNat):db prog T (rJ e a b)∧(rJ e a b).K=e.K:=by
 by_cases v:e.is≠0∨am e.i.op=3∨am e.i.op=4
 ·unfold rJ;rw[aa v];exact⟨h,rfl⟩
 have k:e.is=0:=oT;let⟨d,F,G⟩:=h.wait (.inl k);have l:ga prog e.K:=er λq=>by have:=(h.Zv q).1;omega
 obtain rfl:=D k;obtain rfl:=E k;have n:=l7 (T:=T) l (h.ins l) F G;rw[dZ ad]at n;have u:am e.i.op=5->e.known=false:=λq=>by
  cases c:e.known with
  |false=>rfl
  |true=>have:=(h.Ze q c).1;omega
 have i:∀(x:ai),x.K=e.K->x.i=e.i->x.M=e.M->x.is=1->x.known=e.known->(x.halt=0∨(am e.i.op=5∧x.halt=3))->cA x=(ek prog T e).2->db prog T x∧x.K=e.K:=λx j f z H A B C=>by
  refine⟨⟨by rw[j,f];exact h.ins,λq=>absurd l (by rwa [j]at q),λ_=>by rw[sq prog T j];exact C,λq=>by omega,λ_ q=>by rw[f]at q;omega,oT,λq=>by omega,λ_=>by rw[f];exact B,λq=>by rw[f]at q;omega,λq=>by rw[f]at q;omega,λw y=>?_,λ_ q=>by omega,by rw[j,f,z];exact h.gs⟩,j⟩;rw[f]at w;rw[A,u w]at y;cases y
 unfold rJ;rw[dZ v];rw[n]at i;split
 ·rename_i c;refine i _ rfl rfl rfl rfl rfl (.inl d) ?_;unfold cA uE oN IJ;simp[d,c];by_cases g:wr e.i=0<;>simp[g]
 ·rename_i o;split
  ·rename_i c;refine i _ rfl rfl rfl rfl rfl (.inl d) ?_;unfold cA uE oN IJ;simp[d,c];by_cases g:wr e.i=0<;>simp[g]
  ·rename_i p;split
   ·rename_i c;split
    ·rename_i m;refine i _ rfl rfl rfl rfl rfl (.inl d) ?_;unfold cA uE oN IJ;simp[d,c,m];by_cases g:wr e.i=0<;>simp[g]
    ·rename_i m;refine i _ rfl rfl rfl rfl rfl (.inr ⟨c,rfl⟩) ?_;unfold cA oN Gc;simp[c,m]
   ·rename_i t;refine i _ rfl rfl rfl rfl rfl (.inl d) ?_;have r:am e.i.op≠3:=oT;have s:am e.i.op≠4:=oT;unfold cA uE oN IJ;by_cases g:wr e.i=0<;>simp[g,d,o,p,r,s,t]
def th{prog}{T}{e}(h:db prog T e){size:Int}{a}(l:size=T.mem.size)(k:e.is=0->e.known=false->a=T.r e.i.j.toNat):db prog T (yC e size a)∧(yC e size a).K=e.K:=by
 by_cases f:(am e.i.op≠3∧am e.i.op≠4)∨e.is≠0∨e.known=true
 ·unfold yC;rw[aa f];exact⟨h,rfl⟩
 have i:e.is=0:=oT
 have b:e.known=false:=by cases d:e.known with
  |false=>rfl
  |true=>exact absurd (.inr (.inr d)) f
 let⟨o,m,n⟩:=h.wait (.inl i);have c:ga prog e.K:=er λq=>by have:=(h.Zv q).1;omega
 obtain rfl:=k i b;subst l;have j:=l7 (T:=T) c (h.ins c) m n;rw[aa ad]at j;unfold yC;rw[dZ f];split
 ·rename_i g;exact⟨⟨h.ins,h.Zv,λq=>absurd (show e.is=1∨e.is=3 from q) ad,h.wait,λ_ _=>⟨rfl,g⟩,h.st,λq=>⟨(h.Y q).1,rfl⟩,h.run,h.Zq,λ_ _=>rfl,λq=>by have q:am e.i.op=5:=q;omega,λq=>by have q:am e.i.op=5:=q;omega,h.gs⟩,rfl⟩
 ·rename_i g;refine⟨⟨h.ins,λq=>absurd c q,λ_=>?_,(λq=>by rcases q with q|q<;>cases q),(λq=>by rw[show e.known=true from q]at b;cases b),.inr (.inr (.inr rfl)),nofun,nofun,nofun,nofun,λq=>by have q:am e.i.op=5:=q;omega,λq=>by have q:am e.i.op=5:=q;omega,h.gs⟩,rfl⟩;show cA _=(ek prog T e).2;rw[j];unfold sN;rw[dZ (show ¬kZ _ (gC e.i (T.r e.i.j.toNat)) (bP e.i.op:Nat)=true from g)];unfold cA Gc gC;by_cases d:am e.i.op=4<;>simp[d]
def zE{prog}{T}{e}(h:db prog T e){b}(j:b=T.r e.i.o.toNat):db prog T (uF e b)∧(uF e b).K=e.K:=by
 unfold uF;split
 ·exact⟨h,rfl⟩
 ·rename_i k;have a:am e.i.op=4:=oT
  have f:e.known=true:=by cases a:e.known with
   |true=>rfl
   |false=>exact absurd (.inr (.inl a)) k
  let⟨l,m,n⟩:=h.wait (.inl oT);have c:ga prog e.K:=er λq=>by have:=(h.Zv q).1;omega
  subst j;have d:=l7 (T:=T) c (h.ins c) m n;rw[aa ad]at d;let⟨g,i⟩:=h.Zy f (.inr a);refine⟨⟨h.ins,λq=>absurd c q,λ_=>?_,(λq=>by rcases q with q|q<;>cases q),h.Zy,.inr (.inr (.inr rfl)),nofun,nofun,nofun,nofun,λq=>by have q:am e.i.op=5:=q;omega,λq=>by have q:am e.i.op=5:=q;omega,h.gs⟩,rfl⟩;show cA _=(ek prog T e).2;rw[d];unfold sN;rw[<-g,aa i,aa a];unfold cA;simp[l,a]
def qi{prog}{T}{e}(h:db prog T e){s}(l:e.known=true->am e.i.op=3->e.is=0∨e.is=2->s=Cv T.mem e.V (bP e.i.op)):db prog T (uM e s)∧(uM e s).K=e.K:=by
 unfold uM;split
 ·exact⟨h,rfl⟩
 ·rename_i k;have a:am e.i.op=3:=oT
  have b:e.known=true:=by cases a:e.known with
   |true=>rfl
   |false=>exact absurd (.inr (.inl a)) k
  have d:e.is=0∨e.is=2:=oT;let⟨g,n,o⟩:=h.wait d;have c:ga prog e.K:=er λq=>by have:=(h.Zv q).1;omega
  obtain rfl:=l b a d;have f:=l7 (T:=T) c (h.ins c) n o;rw[aa ad]at f;let⟨i,j⟩:=h.Zy b (.inl a);refine⟨⟨h.ins,λq=>absurd c q,λ_=>?_,(λq=>by rcases q with q|q<;>cases q),h.Zy,.inr (.inl rfl),nofun,λ_=>.inl g,λq=>by have q:am e.i.op=4:=q;omega,λ_ _=>b,λq=>by have q:am e.i.op=5:=q;omega,λq=>by have q:am e.i.op=5:=q;omega,h.gs⟩,rfl⟩;show cA _=(ek prog T e).2;rw[f];unfold sN;rw[<-i,aa j,dZ (oT:¬am e.i.op=4)];unfold cA;by_cases m:wr e.i=0<;>simp[g,a,m]
def H4(prog)(T)(no)(f)(r:(ga prog f.K->am (bi (bg prog f.K)).op≠5)->f.M=bz f.K):db prog T (qB no f prog)∧(qB no f prog).K=f.K:=by
 have p:am MG.op≠5:=dT;have i:∀(x:ai) (a:Int),a≠0->a≠4->a≠5->x={Cs with no:=no,K:=f.K,M:=f.M,i:=x.i,halt:=a,is:=3}->(ga prog f.K->x.i=bi (bg prog f.K))->(¬ga prog f.K->x.i=MG)->am x.i.op≠5->gE prog ⟨f.K,T.r,T.mem,0⟩=Gc ⟨f.K,T.r,T.mem,0⟩ a 0->db prog T x∧x.K=f.K:=by
  intro x a E J K D o B e C;let⟨G,H,P,N,F,R,V,S,L,O,U,Q,M⟩:=x;injection D with s t I u v w y z A k l m n;subst s t u v w y z A k l m n;refine⟨⟨o,λq=>⟨rfl,B q⟩,λ_=>?_,(λq=>by rcases q with q|q<;>cases q),nofun,.inr (.inr (.inr rfl)),nofun,nofun,nofun,nofun,λq=>absurd q e,λq=>absurd q e,λ_=>r λq=>by have:=o q;simp only at this e;rwa [this]at e⟩,rfl⟩;show cA _=(gE prog _).2;rw[C];unfold cA Gc;simp only;rw[aa E,dZ ad]
 unfold qB;split
 ·rename_i b;apply i _ 1 dT dT dT rfl (λq=>by have:=q.1;rw[b]at this;cases this) (λ_=>rfl) p;unfold gE;rw[aa rfl,dZ (by rw[b];decide)]
 ·rename_i b
  have b:(ez prog f.K).isSome=true:=by cases h:(ez prog f.K).isSome with
   |true=>rfl
   |false=>exact absurd h b
  split
  ·rename_i c;apply i _ 2 dT dT dT rfl (λq=>absurd c q.2) (λ_=>rfl) p;unfold gE;rw[aa rfl,aa b,aa c]
  ·rename_i c;have j:ga prog f.K:=⟨b,c⟩;split
   ·rename_i d;apply i _ 6 dT dT dT rfl (λ_=>rfl) (λq=>absurd j q) (by simp[d];decide);unfold gE;rw[aa rfl,aa b,dZ c];unfold g6;rw[aa (show(rA prog ⟨f.K,T.r,T.mem,0⟩).op=47 from d)]
   ·rename_i d;split
    ·rename_i g;apply i _ 7 dT dT dT rfl (λ_=>rfl) (λq=>absurd j q) (by simp[g];decide);unfold gE;rw[aa rfl,aa b,dZ c];unfold g6;rw[dZ (show ¬(rA prog ⟨f.K,T.r,T.mem,0⟩).op=47 from d),aa (show(rA prog ⟨f.K,T.r,T.mem,0⟩).op=48 from g)]
    ·rename_i g;exact⟨⟨λ_=>rfl,λq=>absurd j q,(λq=>by rcases q with q|q<;>cases q),λ_=>⟨rfl,d,g⟩,nofun,.inl rfl,nofun,nofun,nofun,nofun,nofun,nofun,r⟩,rfl⟩
def u1(m)(a)(b)(h:a+b.size<=m.size)(i):gb (DD m a b) i=(cN ⟨a,b⟩ i).or (gb m i):=by
 unfold gb cN DD;have f:m.data.toList.length=m.size:=cV;have e:b.data.toList.length=b.size:=cV;have c:(m.data.toList.take a).length=a:=by rw[aM];omega
 rw[<-bQ, <-bQ];show((m.data.toList.take a++b.data.toList)++m.data.toList.drop (a+b.size))[i]?=_;by_cases d:i<a
 ·rw[dZ (oT:¬a<=i),eD,cF ad,List.getElem?_take_of_lt d];rfl
 rw[aa (oT:a<=i)];by_cases c2:i<a+b.size
 ·rw[cF (by rw[aU];omega),bM ad,c];show _=(gb b _).or _;unfold gb;rw[<-bQ,aA ad];rfl
 rw[bM (by rw[aU];omega),aU,c,e,cL,(oT:a+b.size+(i-(a+b.size))=i)];show _=(gb b _).or _;rw[jb ad];rfl
def ww(m)(a)(b)(h:a+b.size<=m.size):(DD m a b).size=m.size:=by
 have d:m.data.toList.length=m.size:=cV;have c:b.data.toList.length=b.size:=cV;show(m.data.toList.take a++b.data.toList++m.data.toList.drop _).toArray.size=_;rw[kP,aU,aU,aM,bD];omega
def mD{n:Nat}{a}{k}(h:kZ (n:Int) a (k:Nat)=true):(k=1∨k=2∨k=4)∧a+k<=n:=by
 unfold kZ at h;simp[aP,aY]at h;omega
def sx{prog}{T}{e}(h:db prog T e):
  (am e.i.op≠4->(ek prog T e).1.mem=T.mem)∧
  (am e.i.op=4->e.known=true->e.halt=0∧(ek prog T e).1.mem=DD T.mem e.V (oF (T.r e.i.o.toNat) (bP e.i.op))∧(e.is=3->oF e.value (bP e.i.op)=oF (T.r e.i.o.toNat) (bP e.i.op))):=by
 constructor
 ·intro d;by_cases f:ga prog e.K
  ·have n:rA prog ⟨e.K,T.r,T.mem,0⟩=e.i:=(h.ins f).symm;unfold ek gE;rw[aa rfl,aa f.1,dZ f.2,n];unfold g6 sN oN IJ Gc;rw[dZ d]
   (repeat' split)<;>rfl
  unfold ek gE Gc;rw[aa rfl];unfold ga at f;split
  ·split
   ·rfl
   rename_i a b;exact absurd ⟨a,b⟩ f
  rfl
 intro d j;let⟨k,l⟩:=h.Zy j (.inr d);have f:ga prog e.K:=er λq=>by rw[(h.Zv q).2]at d;revert d;decide
 have o:=(tw e.i.op).2.1.1 d;have g:=l7 (T:=T) f (h.ins f) ad ad;rw[aa (.inr d)]at g;unfold sN at g;rw[<-k,aa l,aa d]at g;refine⟨?_,by rw[g],λm=>?_⟩
 ·rcases h.st with q|q|q|q
  ·exact(h.wait (.inl q)).1
  ·exact absurd q (h.Zq d)
  ·exact(h.wait (.inr q)).1
  have c:=h.told (.inr q);rw[g]at c;unfold cA at c;split at c
  ·rename_i i;have:=a1 Sp.halt c;exact absurd this i
  rename_i i;exact ej.1 i
 have c:=h.told (.inr m);rw[g]at c;unfold cA at c;split at c
 ·rename_i i;have:=a1 Sp.halt c;exact absurd this i
 have:=a1 Sp.value c;simp only at this;rw[this,r']
def E1{prog}{T}{e}:(ek prog T e).1.mem.size=T.mem.size:=by
 have b:=oe prog (s:=⟨e.K,T.r,T.mem,0⟩) rfl;show(gE prog _).1.mem.size=_;rw[b.mem];split
 ·rename_i d;let⟨_,f,a⟩:=b.st d;let⟨k,c⟩:∃k:Nat,(gE prog ⟨e.K,T.r,T.mem,0⟩).2.size=(k:Int):=⟨_,(lU ad).symm⟩;rw[c]at a⊢;exact ww _ _ _ (by rw[mP];exact(mD a).2)
 rfl
theorem jq{prog:List Nat}:∀{T:St} (l:List ai),(ct prog T l).mem.size=T.mem.size
 |T,[]=>rfl
 |T,e::l=>by rw[ls,jq l,E1]
def wl(prog:List Nat):St->List ai->List Pt
 |_,[]=>[]
 |T,e::l=>(if fm e 4=true then [⟨e.V,oF (T.r e.i.o.toNat) (bP e.i.op)⟩]else [])++wl prog (ek prog T e).1 l
def ps(prog:List Nat)(T:St)(e:ai)(l:List ai):wl prog T (e::l)=(if fm e 4=true then [⟨e.V,oF (T.r e.i.o.toNat) (bP e.i.op)⟩]else [])++wl prog (ek prog T e).1 l:=rfl
def it{e}{k}:fm e k=true↔am e.i.op=k:=by unfold fm;exact decide_eq_true_iff
def qs{e}(h:Aw e=false)(b:am e.i.op=4):e.known=true∧e.halt=0:=by
 unfold Aw at h;rw[it.2 b]at h;cases a:e.known<;>simp[a]at h⊢
 exact h
theorem qq{prog:List Nat}:∀{T:St} {l:List ai},g' prog T l->l.any Aw=false->∀i,gb (ct prog T l).mem i=(e' (wl prog T l) i).or (gb T.mem i)
 |T,[],_,_,i=>rfl
 | T,e::l,h,b,i=>by
  rw[List.any_cons,dP]at b;have c:=sx h.1;rw[ls,qq h.2 b.2];rw[ps,q1];by_cases a:am e.i.op=4
  ·let⟨d,g⟩:=qs b.1 a;let⟨_,f⟩:=h.1.Zy d (.inr a);rw[(c.2 a d).2.1,aa (it.2 a),u1 _ _ _ (by rw[mP];exact(mD f).2)];show _=((e' _ i).or ((cN _ i).or none)).or _;rw[Option.or_none,Option.or_assoc]
  ·rw[c.1 a,dZ (λq=>a (it.1 q))];show _=((e' _ i).or none).or _;rw[Option.or_none]
def Al(s:Std)(p:Pt):Prop:=s.V=p.V∧s.size=p.data.size∧(s.there=true->s.data=p.data)
def jo:List Std->List Pt->Prop
 |[],[]=>True
 |s::l,p::k=>Al s p∧jo l k
 |_,_=>False
theorem p':∀{a:List Std} {p:List Pt} {b:List Std} {q:List Pt},jo a p->jo b q->jo (a++b) (p++q)
 |[],[],_,_,_,h=>h
 |_::_,_::_,_,_,⟨c,d⟩,h=>⟨c,p' d h⟩
 |[],_::_,_,_,h,_=>h.elim
 |_::_,[],_,_,h,_=>h.elim
theorem rg:∀{a:List Std} {p:List Pt},jo a p->jo a.reverse p.reverse
 |[],[],_=>trivial
 |_::_,_::_,⟨b,c⟩=>by rw[List.reverse_cons,List.reverse_cons];exact p' (rg c) ⟨b,trivial⟩
 |[],_::_,h=>h.elim
 |_::_,[],h=>h.elim
theorem wb:∀(l:List Pt),jo (l.map CY) l
 |[]=>trivial
 |p::l=>⟨⟨rfl,rfl,λ_=>rfl⟩,wb l⟩
theorem ux{prog:List Nat}:∀{T:St} {l:List ai},g' prog T l->l.any Aw=false->jo ((l.filter λe=>fm e 4).map Fg) (wl prog T l)
 |T,[],_,_=>trivial
 | T,e::l,h,b=>by
  rw[List.any_cons,dP]at b;have ih:=ux h.2 b.2;rw[ps];by_cases a:am e.i.op=4
  ·let⟨f,g⟩:=qs b.1 a;have c:=((sx h.1).2 a f).2.2;rw[List.filter_cons_of_pos (p:=λe=>fm e 4) (it.2 a),aa (it.2 a)];refine⟨⟨rfl,(mP _ _).symm,λd=>c ?_⟩,ih⟩;exact a7 d
  ·rw[List.filter_cons_of_neg (p:=λe=>fm e 4) (λq=>a (it.1 q)),dZ (λq=>a (it.1 q))];exact ih
def j6:List Pt->Nat->Option UInt8
 |[],_=>none
 |p::l,i=>(cN p i).or (j6 l i)
theorem nk:∀(a b:List Pt) (i:Nat),j6 (a++b) i=(j6 a i).or (j6 b i)
 |[],_,_=>rfl
 |p::a,b,i=>by show(cN p i).or (j6 (a++b) i)=_;rw[nk a b, <-Option.or_assoc];rfl
theorem ml:∀(l:List Pt) (i:Nat),j6 l.reverse i=e' l i
 |[],_=>rfl
 |p::l,i=>by
  rw[List.reverse_cons,nk,ml l,kR];show _=_;congr 1;show(cN p i).or none=_;rw[Option.or_none]
theorem ub{at_ n:Nat}(o:0<n):∀{L:List Std} {P:List Pt},jo L P->
  ((xK at_ n L).1=2->∀j,j<n->j6 P (at_+j)=none)∧
  ((xK at_ n L).1=1->(xK at_ n L).2.size=n∧∀j,j<n->j6 P (at_+j)=gb (xK at_ n L).2 j)
 |[],[],_=>⟨λ_ _ _=>rfl,λh=>by cases h⟩
 |[],_::_,h=>h.elim
 |_::_,[],h=>h.elim
 | s ::L,p::P,⟨⟨f,k,l⟩,h⟩=>by
  have ih:=ub (at_:=at_) o h;unfold xK;have c:∀j,hF s.V s.size at_ n=false->j<n->cN p (at_+j)=none:=λj b a=>by
   unfold hF at b;simp[Bool.and_eq_false_iff,mA]at b;unfold cN;split
   ·refine jb ?_;rw[<-k, <-f];rename_i q;rw[<-f]at q;omega
   ·rfl
  split
  ·rename_i b;refine⟨λq j a=>?_,λq=>⟨(ih.2 q).1,λj a=>?_⟩⟩
   ·show(cN p _).or _=none;rw[c j b a,ih.1 q j a];rfl
   ·show(cN p _).or _=_;rw[c j b a,(ih.2 q).2 j a];rfl
  ·split
   ·exact⟨nofun,nofun⟩
   ·rename_i b g
    have e:Fh s.V s.size at_ n=true:=by cases d:Fh s.V s.size at_ n with
     |true=>rfl
     |false=>exact absurd (.inl d) g
    have i:s.there=true:=by cases d:s.there with
     |true=>rfl
     |false=>exact absurd (.inr d) g
    unfold Fh at e;simp[aP,aY]at e;have m:=l i;rw[m];refine⟨nofun,λ_=>⟨?_,λj a=>?_⟩⟩
    ·show(p.data.extract _ _).size=n;rw[dA];omega
    ·show(cN p (at_+j)).or _=gb (p.data.extract _ _) j;rw[jg,aa ad];unfold cN;rw[aa ad,(oT:at_+j-p.V=at_-s.V+j)];have:gb p.data (at_-s.V+j)≠none:=by
      unfold gb;rw[Ne,Array.getElem?_eq_none_iff];have:p.data.data.size=p.data.size:=rfl;omega
     cases d:gb p.data (at_-s.V+j)with
     |none=>exact absurd d this
     |some v=>rfl
def ja(e x:ai):Bool:= !fm x 4||(x.known&&decide (x.halt=0)&& !hF x.V (bP x.i.op) e.V (bP e.i.op))
def lW{e x}:ja e x=true↔(am x.i.op=4->x.known=true∧x.halt=0∧hF x.V (bP x.i.op) e.V (bP e.i.op)=false):=by
 unfold ja;by_cases a:am x.i.op=4
 ·rw[it.2 a];simp[a,uK]
 rw[show fm x 4=false by cases h:fm x 4 with|false=>rfl|true=>exact absurd (it.1 h) a];simp[a]
theorem vl{at_ n:Nat}:∀{L:List Std},(xK at_ n L).1=2->∀s∈L,hF s.V s.size at_ n=false
 |[],_,s,h=>by cases h
 | x::L,a,s,h=>by
  unfold xK at a;split at a
  ·rename_i b;rcases dh.1 h with rfl|h
   ·exact b
   ·exact vl a s h
  ·split at a
   ·cases a
   ·cases a
def H0{agI}{agF}{i}{e}(d:agI[i]?=some e)(h:(lL agI agF i).1=2):(agI.take i).all (ja e)=true:=by
 unfold lL at h;rw[d]at h;simp only at h;split at h
 ·cases h
 split at h
 ·cases h
 rename_i g;rw[rC];intro x c;refine lW.2 λa=>?_;have b:Aw x=false:=by
  cases f:Aw x with
  |false=>rfl
  |true=>exact absurd (Mv.2 ⟨x,c,f⟩) g
 let⟨j,k⟩:=qs b a;refine⟨j,k,?_⟩;apply vl h (Fg x);unfold FW;rw[cp,List.mem_reverse,pG];exact .inl ⟨x,List.mem_filter.2 ⟨c,it.2 a⟩,rfl⟩
def HK{e}{l:List ai}(h:l.all (ja e)=true):l.any Aw=false:=by
 rw[List.any_eq_false];intro x b a;have:=lW.1 (rC.1 h x b);unfold Aw at a;rw[aP,it]at a;let⟨c,d,_⟩:=this a.1;rw[c,d]at a;simp at a
theorem vc{prog:List Nat}:∀{T:St} {l:List ai} {p:Pt},p∈wl prog T l->∃x∈l,am x.i.op=4∧p.V=x.V∧p.data.size=bP x.i.op
 |T,[],p,h=>by cases h
 | T,e::l,p,h=>by
  rw[ps,cp]at h;rcases h with h|h
  ·split at h
   ·rename_i a;rw[uJ]at h;subst h;exact⟨e,b1,it.1 a,rfl,mP _ _⟩
   ·cases h
  ·let⟨x,b,h⟩:=vc h;exact⟨x,bY _ b,h⟩
def xo{a b}{k n}(d:a.size=b.size)(e:k+n<=a.size)(h:∀j,j<n->gb a (k+j)=gb b (k+j)):Cv a k n=Cv b k n:=by
 unfold Cv;refine lq (by rw[dA,dA,d]) λj c=>?_;rw[dA]at c;rw[jg,jg, <-d,aa c,aa c];exact h j ad
def ss{prog:List Nat}{T:St}{l:List ai}{e:ai}(h:g' prog T l)(a:l.all (ja e)=true)(k:kZ T.mem.size e.V (bP e.i.op)=true):Cv (ct prog T l).mem e.V (bP e.i.op)=Cv T.mem e.V (bP e.i.op):=by
 let⟨o,g⟩:=mD k;refine xo (jq l) (by rw[jq];exact g) λj n=>?_;have c:∀p∈wl prog T l,cN p (e.V+j)=none:=by
  intro p hp;let⟨x,m,i,d,f⟩:=vc hp;let⟨_,_,b⟩:=lW.1 (rC.1 a x m) i;unfold hF at b;simp[Bool.and_eq_false_iff,mA]at b;unfold cN;split
  ·apply jb;rw[f];rename_i q;rw[d]at q⊢;omega
  rfl
 rw[qq h (HK a),qx c];rfl
def BK{prog:List Nat}{T:St}{agI:List ai}{agF:List Pt}{u:Nat->Option UInt8}(h:g' prog T agI){i:Nat}{e:ai}(f:agI[i]?=some e)(m:kZ T.mem.size e.V (bP e.i.op)=true)
  (n:∀i,i<T.mem.size->gb T.mem i=(e' agF i).or (u i)) (a:(lL agI agF i).1=1):(lL agI agF i).2=Cv (ct prog T (agI.take i)).mem e.V (bP e.i.op):=by
 obtain⟨s,q⟩:=mD m;obtain⟨r,p⟩:=Em.1 f;have d:g' prog T (agI.take i):=by
  have:agI=agI.take i++agI.drop i:=(js _ _).symm;rw[this]at h;exact(my.1 h).1
 unfold lL at a⊢;rw[f]at a⊢;simp only at a⊢;split at a
 ·cases a
 rename_i k;split at a
 ·cases a
 rename_i b;rw[dZ k,dZ b]
 have b:(agI.take i).any Aw=false:=by cases l:(agI.take i).any Aw with
  |false=>rfl
  |true=>exact absurd l b
 have hA:jo (FW (agI.take i) agF) ((wl prog T (agI.take i)).reverse++agF.reverse):=p' (rg (ux d b)) (rg (wb agF));obtain⟨s1,ap⟩:=(ub (at_:=e.V) (n:=bP e.i.op) ad hA).2 a;unfold Cv;refine lq (by rw[s1,dA,jq];omega) λj c=>?_;rw[s1]at c;rw[jg,aa (by rw[jq];omega), <-ap j c,qq d b,n _ ad,nk,ml,ml];have g:(e' (wl prog T (agI.take i)) (e.V+j)).or (e' agF (e.V+j))≠none:=by
  rw[<-ml, <-ml (l:=agF), <-nk,ap j c];unfold gb;rw[Ne,Array.getElem?_eq_none_iff];have:(xK e.V (bP e.i.op) (FW (agI.take i) agF)).2.data.size=_:=s1;omega
 rw[<-Option.or_assoc]
 cases o:(e' (wl prog T (agI.take i)) (e.V+j)).or (e' agF (e.V+j))with
 |none=>exact absurd o g
 |some v=>rfl
structure RI(prog:List Nat)(s:St)(l:List ai):Prop where
 ok:g' prog s l
 Y:∀i e,l[i]?=some e->e.is=2->(l.take i).all (ja e)=true
theorem qw{prog:List Nat}:∀{T:St} {l:List ai},(∀k e,l[k]?=some e->db prog (ct prog T (l.take k)) e)->g' prog T l
 |T,[],_=>trivial
 |T,e::l,h=>⟨h 0 e rfl,qw λk x a=>h (k+1) x a⟩
theorem RI.take{prog}{s}{l}(h:RI prog s l)(n):RI prog s (l.take n):=by
 refine⟨qw λk e a=>?_,λi e a b=>?_⟩
 all_goals
  rw[cU]at a;split at a
  ·rename_i c;rw[List.take_take,lu ad]
   first|exact ic h.ok a|exact h.Y i e a b
  cases a
def D0{e b x a}(j:a.i=x.i)(k:am x.i.op=4->x.known=true->x.halt=0->a.known=true∧a.halt=0∧a.V=x.V)(d:b.i=e.i∧b.V=e.V)(h:ja e x=true):ja b a=true:=by
 refine lW.2 λc=>?_;rw[j]at c⊢;let⟨f,g,i⟩:=lW.1 h c;let⟨l,m,n⟩:=k c f g;exact⟨l,m,by rw[n,d.1,d.2];exact i⟩
structure fh(e e':ai):Prop where
 K:e'.K=e.K
 i:e'.i=e.i
 g:e'.M=e.M
 st:am e.i.op=4->e.known=true->e.halt=0->e'.known=true∧e'.halt=0∧e'.V=e.V
theorem fh.refl(e):fh e e:=⟨rfl,rfl,rfl,λ_ a b=>⟨a,b,rfl⟩⟩
def p4{l a:List ai}(f:a.length=l.length)(h:∀(k:Nat) e c,l[k]?=some e->a[k]?=some c->fh e c):a.map (λe=>(e.K,e.M))=l.map (λe=>(e.K,e.M)):=by
 apply dD;intro k;rw[aX,aX]
 cases b:l[k]? with
 |none=>rw[bE (by rw[f];exact List.getElem?_eq_none_iff.1 b)]
 |some e=>
  let⟨g,_⟩:=Em.1 b;have d:=aA (l:=a) (i:=k) ad;rw[d];have:=h k e _ b d;simp[this.K,this.g]
theorem RI.YO{prog}{s}{l d}(h:RI prog s l)(z:d.length=l.length)(m:∀(k:Nat) e a,l[k]?=some e->d[k]?=some a->fh e a)
  (o:∀(k:Nat) e a,l[k]?=some e->d[k]?=some a->db prog (ct prog s (l.take k)) e->db prog (ct prog s (l.take k)) a)
  (y:∀(k:Nat) e a,l[k]?=some e->d[k]?=some a->a.is=2->(e.is=2∧a.V=e.V)∨(d.take k).all (ja a)=true):RI prog s d:=by
 have i:∀k a,d[k]?=some a->∃e,l[k]?=some e:=λk a c=>by
  let⟨o,_⟩:=Em.1 c;exact⟨_,aA ad⟩
 have hp:∀k,(d.take k).map _=(l.take k).map _:=λk=>by
  have:=a1 (List.map Prod.fst) (p4 z m);rw[List.map_map,List.map_map]at this;rw[eO,eO];exact a1 _ this
 refine⟨qw λk a c=>?_,λk a c w=>?_⟩
 ·let⟨e,f⟩:=i k a c;rw[ul prog s _ _ (hp k)];exact o k e a f c (ic h.ok f)
 let⟨e,f⟩:=i k a c;rcases y k e a f c w with ⟨u,v⟩|b
 ·have:=h.Y k e f u;rw[rC]at this⊢;intro r q;let⟨j,g⟩:=List.mem_iff_getElem?.1 q;rw[cU]at g;split at g
  ·rename_i n;let⟨x,p⟩:=i j r g;have t:=m j x r p g;exact D0 t.i t.st ⟨(m k e a f c).i,v⟩ (this x (List.mem_iff_getElem?.2 ⟨j,by rw[cU,aa n];exact p⟩))
  cases g
 exact b
theorem RI.map{prog}{s}{l}(h:RI prog s l)(f)(j:∀e∈l,fh e (f e))(i:∀k e,l[k]?=some e->db prog (ct prog s (l.take k)) e->db prog (ct prog s (l.take k)) (f e))(g:∀e∈l,(f e).is=2->e.is=2∧(f e).V=e.V):RI prog s (l.map f):=by
 have d:∀k e c,l[k]?=some e->(l.map f)[k]?=some c->c=f e:=λk e c a b=>by
  rw[aX,a]at b;injection b with b;exact b.symm
 refine h.YO (aH ..) (λk e c a b=>?_) (λk e c a b q=>?_) (λk e c a b q=>?_)
 ·rw[d k e c a b];exact j e (aB a)
 ·rw[d k e c a b];exact i k e a q
 rw[d k e c a b]at q⊢;exact .inl (g e (aB a) q)
theorem RI.set{prog}{s}{l}(h:RI prog s l){k}{e f}(m:l[k]?=some e)(r:fh e f)(p:db prog (ct prog s (l.take k)) e->db prog (ct prog s (l.take k)) f)(o:f.is=2->(e.is=2∧f.V=e.V)∨(l.take k).all (ja f)=true):RI prog s (l.set k f):=by
 let⟨n,_⟩:=Em.1 m;have g:∀j x d,l[j]?=some x->(l.set k f)[j]?=some d->(j=k∧x=e∧d=f)∨(j≠k∧d=x):=λj x d c a=>by
  by_cases i:j=k
  ·subst i;rw[aZ n]at a;rw[m]at c;injection c with c;injection a with a;exact .inl ⟨rfl,c.symm,a.symm⟩
  rw[kX (λq=>i q.symm),c]at a;injection a with a;exact .inr ⟨i,a.symm⟩
 refine h.YO (cC ..) (λj x d c a=>?_) (λj x d c a q=>?_) (λj x d c a q=>?_)
 ·rcases g j x d c a with ⟨rfl,rfl,rfl⟩|⟨_,rfl⟩
  ·exact r
  exact fh.refl _
 ·rcases g j x d c a with ⟨rfl,rfl,rfl⟩|⟨_,rfl⟩
  ·exact p q
  exact q
 rcases g j x d c a with ⟨rfl,rfl,rfl⟩|⟨_,rfl⟩
 ·rcases o q with b|b
  ·exact .inl b
  exact .inr (by rw[List.take_set_of_le (aC _)];exact b)
 exact .inl ⟨q,rfl⟩
def vx(e)(a:am e.i.op=4->e.is≠1):fh e (a0 e):=by
 unfold a0;split
 ·exact fh.refl _
 rename_i h;split<;>exact⟨rfl,rfl,rfl,λq=>absurd q (λq=>a q ad)⟩
def rx(e)(b):fh e (uF e b):=by
 unfold uF;split
 ·exact fh.refl _
 exact⟨rfl,rfl,rfl,λ_ a b=>⟨a,b,rfl⟩⟩
def l'(e)(s):fh e (uM e s):=by
 unfold uM;split
 ·exact fh.refl _
 exact⟨rfl,rfl,rfl,λ_ a b=>⟨a,b,rfl⟩⟩
def tr(e)(a b):fh e (rJ e a b):=by
 unfold rJ
 (repeat' split)<;>first|exact fh.refl _|exact⟨rfl,rfl,rfl,λq=>absurd q ad⟩
def md(e)(n)(a):fh e (yC e n a):=by
 unfold yC;split
 ·exact fh.refl _
 rename_i b;split<;>exact⟨rfl,rfl,rfl,λ_ q=>absurd (.inr (.inr q)) b⟩
theorem RI.go{prog}{s}{l}(h:RI prog s l):RI prog s (l.map a0):=by
 refine h.map a0 (λe b=>?_) (λk e _ q=>(y9 q).1) (λe b q=>?_)
 ·let⟨k,c⟩:=List.mem_iff_getElem?.1 b;exact vx e (ic h.ok c).Zq
 unfold a0 at q⊢;split at q
 ·rename_i a;rw[aa a];exact⟨q,rfl⟩
 split at q
 ·cases q
 rename_i a _;have q:e.is=2:=q;omega
theorem RI.putAt{prog}{s}{l}(h:RI prog s l)(m:s.r 0=0)(i):RI prog s (et s.r l i)∧(et s.r l i).length=l.length∧(et s.r l i).map (λe=>(e.K,e.M))=l.map (λe=>(e.K,e.M)):=by
 unfold et;split
 ·rename_i e d;split
  ·split
   ·rename_i b j;let⟨f,_⟩:=Em.1 d;refine⟨h.set d (rx e b) (λq=>(zE q (rv h.ok m (Nat.le_of_lt f) j)).1) (λq=>.inl ?_),cC ..,?_⟩
    ·unfold uF at q⊢;split at q
     ·rename_i c;rw[aa c];exact⟨q,rfl⟩
     cases q
    refine p4 (cC ..) λk x n c a=>?_;by_cases g:i=k
    ·subst g;rw[aZ f]at a;rw[d]at c;injection c with c;injection a with a;subst c a;exact rx _ _
    rw[kX g,c]at a;injection a with a;subst a;exact fh.refl _
   exact⟨h,rfl,rfl⟩
  exact⟨h,rfl,rfl⟩
 exact⟨h,rfl,rfl⟩
theorem RI.YY{prog:List Nat}{s:St}{l:List ai}(h:RI prog s l)(a:s.r 0=0):∀n,RI prog s (bq s.r l n)∧(bq s.r l n).length=l.length∧(bq s.r l n).map (λe=>(e.K,e.M))=l.map (λe=>(e.K,e.M))
 |0=>⟨h,rfl,rfl⟩
 |n+1=>by
  let⟨b,c,d⟩:=h.YY a n;let⟨f,g,i⟩:=b.putAt a n;exact⟨f,g.trans c,i.trans d⟩
def jn:Nat->List (Nat×Nat)->Nat->Prop
 |a,[],z=>a=z
 |a,p::l,z=>p.1=a∧jn p.2 l z
theorem l5:∀{a:Nat} {l m:List (Nat×Nat)} {z:Nat},jn a (l++m) z↔∃y,jn a l y∧jn y m z
 |a,[],m,z=>⟨λh=>⟨a,rfl,h⟩,λ⟨y,b,c⟩=>by cases b;exact c⟩
 |a,p::l,m,z=>by
  show p.1=a∧jn p.2 (l++m) z↔_;rw[l5];exact⟨λ⟨h,y,b,c⟩=>⟨y,⟨h,b⟩,c⟩,λ⟨y,⟨h,b⟩,c⟩=>⟨h,y,b,c⟩⟩
def hC(l:List ai):List (Nat×Nat):=l.map λe=>(e.K,e.M)
def mz(l:List Ft):List (Nat×Nat):=l.map λf=>(f.K,f.M)
def qo(prog:List Nat)(f:Ft):Prop:=(ga prog f.K->am (bi (bg prog f.K)).op≠5)->f.M=bz f.K
structure Iv(prog:List Nat)(c:Co)(s:St):Prop where
 pr:c.prog=prog
 r:c.r=s.r
 z:s.r 0=0
 mem:Xr c=s.mem
 halt:c.halt=s.halt
 hl:c.halt≠0->c.Z=[]
 ri:RI prog s c.Z
 ch:c.halt=0->∃z,jn s.K (hC c.Z++mz c.O) z∧(c.stop=false->c.Yr=z)
 YZ:∀f∈c.O,qo prog f
theorem Iv.same{prog}{c d}{s}(h:Iv prog c s)(f:d.prog=c.prog)(g:d.r=c.r)(i:Xr d=Xr c)(a:d.halt=c.halt)(e:d.O=c.O)(j:d.Yr=c.Yr)(k:d.stop=c.stop)(b:hC d.Z=hC c.Z)(l:RI prog s d.Z):Iv prog d s:=by
 refine⟨f.trans h.pr,g.trans h.r,h.z,i.trans h.mem,a.trans h.halt,λq=>?_,l,λq=>?_,by rw[e];exact h.YZ⟩
 ·have:=h.hl (by rwa [a]at q);rw[this]at b;exact List.map_eq_nil_iff.1 b
 rw[b,e,k,j];exact h.ch (by rwa [a]at q)
theorem Iv.fill{prog}{c}{s}(g:RI prog s c.Z)(l:Xr c=s.mem)(agY):RI prog s (c.Z.map (wO c agY))∧hC (c.Z.map (wO c agY))=hC c.Z:=by
 have f:∀e,fh e (wO c agY e):=λe=>by
  unfold wO;split
  ·have:=l' {e with Z3:=true} (oL c e);exact⟨this.K,this.i,this.g,this.st⟩
  exact fh.refl _
 refine⟨g.map _ (λe _=>f e) (λk e i q=>?_) (λe _ q=>?_),?_⟩
 ·unfold wO;split
  ·rename_i d;refine(qi (e:={e with Z3:=true}) ⟨q.ins,q.Zv,q.told,q.wait,q.Zy,q.st,q.Y,q.run,q.Zq,q.ahead,q.Ze,q.YU,q.gs⟩ λj h _=>?_).1;let⟨_,a⟩:=q.Zy j (.inl h);rw[jq]at a;show oL c e=_;unfold oL;rw[l,aa a];exact(ss ((g.take k).ok) (g.Y k e i d.1) a).symm
  exact q
 ·unfold wO at q⊢;split at q
  ·rename_i b;rw[aa b];unfold uM at q⊢;split at q
   ·rename_i d;rw[aa d];exact⟨q,rfl⟩
   cases q
  rename_i b;rw[dZ b];exact⟨q,rfl⟩
 unfold hC;rw[List.map_map];exact iB λe _=>by show(_,_)=_;rw[(f e).K,(f e).g]
theorem Iv.ZE{prog}{c}{s}(h:Iv prog c s)(a:c.mc)(d:∀x∈c.Y,x.ok):Iv prog (lM c) s:=by
 have b:(lM c).W=c.W:=by
  unfold lM ID oK
  (repeat' split)<;>rfl
 have hA:=lx (lf a d) b
 revert hA
 unfold lM;split
 rename_i q x ok _;split
 ·unfold ID;split
  ·intro hA;let⟨f1,f2⟩:=Iv.fill (c:={c with Y:=q}) h.ri (hA.trans h.mem) x.R;exact h.same rfl rfl hA rfl rfl rfl rfl f2 f1
  split
  ·exact λhA=>h.same rfl rfl hA rfl rfl rfl rfl rfl h.ri
  split
  ·intro hA;unfold oK at hA⊢;exact h.same rfl rfl hA rfl rfl rfl rfl rfl h.ri
  split
  ·exact λhA=>h.same rfl rfl hA rfl rfl rfl rfl rfl h.ri
  exact λhA=>h.same rfl rfl hA rfl rfl rfl rfl rfl h.ri
 exact λhA=>h.same rfl rfl hA rfl rfl rfl rfl rfl h.ri
def NW(l:List ai):Prop:=∀e∈l,Nj e=false
theorem Iv.ZD{prog}{c}{s}(h:Iv prog c s):Iv prog (kK c) s∧NW (kK c).Z:=by
 unfold kK;split
 ·rename_i l;exact⟨h,by rw[h.hl l];intro e d;cases d⟩
 rename_i l;have l:c.halt=0:=ej.1 l;let⟨n,J,C⟩:=(h.ri.go).YY h.z c.Z.length;have M:bp c=bq s.r (c.Z.map a0) c.Z.length:=by unfold bp;rw[h.r]
 rw[<-M]at n J C;have D:hC (bp c)=hC c.Z:=by
  unfold hC;rw[C,List.map_map];refine iB λe d=>?_;let⟨k,O⟩:=List.mem_iff_getElem?.1 d;have:=vx e (ic h.ri.ok O).Zq;show(_,_)=_;rw[this.K,this.g]
 split
 ·rename_i i F;unfold yD at F;let⟨u,g,G⟩:=List.findIdx?_eq_some_iff_getElem.1 F;have d:(bp c)[i]?=some (bp c)[i]:=aA u;generalize L:(bp c)[i]=e at d g;rw[d];have w:c3 (bp c) i=(bp c).take i++[{e with M:=e.next}]:=by unfold c3;rw[d]
  rw[w];have r:am e.i.op=5∧e.known=true∧e.next≠e.M:=by
   unfold Nj at g;simp[aP,aY]at g;exact⟨g.1.1,g.1.2,g.2⟩
  have t:=n.take i;have a:=ic n.ok d;have p:RI prog s ((bp c).take i++[{e with M:=e.next}]):=by
   refine⟨my.2 ⟨t.ok,⟨a.ins,a.Zv,a.told,a.wait,a.Zy,a.st,a.Y,a.run,a.Zq,a.ahead,a.Ze,a.YU,λq=>?_⟩,trivial⟩,λj x b o=>?_⟩
   ·by_cases E:ga prog e.K
    ·exact absurd r.1 (q E)
    have:=(a.Zv E).2;rw[this]at r;exact absurd r.1 dT
   by_cases v:j<i
   ·have A:j<((bp c).take i).length:=by rw[aM];omega
    rw[cF A]at b;rw[List.take_append_of_le_length ad];exact t.Y j x b o
   have A:((bp c).take i).length=i:=by rw[aM];omega
   rw[bM ad,A]at b;rcases ew (j-i) 1 with q|q
   ·rw[(oT:j-i=0)]at b;injection b with b;subst b;have S:=(a.Y o).1;exact absurd r.1 ad
   rw[bE (sU q)]at b;cases b
  refine⟨⟨h.pr,h.r,h.z,h.mem,h.halt,λq=>absurd l q,p,λ_=>?_,λf N=>by cases N⟩,?_⟩
  ·let⟨z,P,_⟩:=h.ch l;let⟨y,m,_⟩:=l5.1 P;rw[<-D]at m;have I:bp c=(bp c).take i++(e::(bp c).drop (i+1)):=by
    rw[<-L, <-bF u,js]
   rw[I]at m;unfold hC at m;rw[dH]at m;let⟨Q,K,o⟩:=l5.1 m;refine⟨e.next,?_,λ_=>rfl⟩;show jn s.K (hC _++[]) _;rw[dY];unfold hC;rw[dH];exact l5.2 ⟨Q,K,o.1,rfl⟩
  intro x hx;rcases cp.1 hx with hx|hx
  ·let⟨j,b⟩:=List.mem_iff_getElem?.1 hx;rw[cU]at b;split at b
   ·rename_i H;let⟨R,v⟩:=Em.1 b;have:=G j H;rw[v]at this;exact Bool.eq_false_iff.2 this
   cases b
  rw[uJ]at hx;subst hx;unfold Nj;simp
 rename_i B;unfold yD at B;rw[List.findIdx?_eq_none_iff]at B;exact⟨h.same rfl rfl rfl rfl rfl rfl rfl D n,λe d=>B e d⟩
def AS(a)(f)(prog):(qB a f prog).M=f.M∧(qB a f prog).is≠2:=by
 unfold qB;(repeat' split)<;>first|exact⟨rfl,(dT:(3:Int)≠2)⟩|exact⟨rfl,(dT:(0:Int)≠2)⟩
theorem Iv.enter{prog}{c}{s}(h:Iv prog c s){f}{l}(b:c.O=f::l)(e:c.halt=0):Iv prog {c with Z:=c.Z++[qB c.next f c.prog],next:=wrap64 (c.next+1),O:=l} s:=by
 let⟨i,k⟩:=H4 prog (ct prog s c.Z) c.next f (h.YZ f (by rw[b];exact b1));let⟨m,n⟩:=AS c.next f prog;rw[h.pr];refine⟨rfl,h.r,h.z,h.mem,h.halt,λq=>absurd e q,⟨my.2 ⟨h.ri.ok,i,trivial⟩,λj x a d=>?_⟩,λ_=>?_,λx p=>h.YZ x (by rw[b];exact bY _ p)⟩
 ·by_cases g:j<c.Z.length
  ·rw[cF g]at a;rw[List.take_append_of_le_length ad];exact h.ri.Y j x a d
  rw[bM ad]at a;rcases ew (j-c.Z.length) 1 with q|q
  ·rw[(oT:j-c.Z.length=0)]at a;injection a with a;subst a;exact absurd d n
  rw[bE (sU q)]at a;cases a
 let⟨z,r,o⟩:=h.ch e;refine⟨z,?_,o⟩;rw[b]at r;show jn s.K (hC (c.Z++[_])++mz l) z;unfold hC;rw[dH,eD];show jn s.K (hC c.Z++((qB c.next f prog).K,(qB c.next f prog).M)::mz l) z;rwa[k,m]
theorem Iv.Y6{prog:List Nat}{s:St}:∀(n:Nat) {c:Co},Iv prog c s->c.halt=0->Iv prog (kV n c) s∧(kV n c).halt=0
 |0,c,h,a=>⟨h,a⟩
 | n+1,c,h,a=>by
  unfold kV;split
  ·exact⟨h,a⟩
  ·split
   ·exact⟨h,a⟩
   ·rename_i f l b;exact Iv.Y6 n (h.enter b a) a
theorem Iv.enters{prog}{c}{s}(h:Iv prog c s):Iv prog (lP c) s:=by
 unfold lP;split
 ·exact h
 rename_i a;exact(Iv.Y6 _ h (ej.1 a)).1
theorem Iv.Yr{prog}{c}{s}(h:Iv prog c s)(g:c.halt=0)(t:c.stop=false)(n)(j)(x)(u:j=false->x=n)(r:qo prog ⟨c.Yr,n⟩){d}(k:d.prog=c.prog)(l:d.r=c.r)(m:Xr d=Xr c)(a:d.halt=c.halt)(b:d.O=c.O++[⟨c.Yr,n⟩])(o:d.Yr=x)(p:d.stop=j)(e:d.Z=c.Z):Iv prog d s:=by
 refine⟨k.trans h.pr,l.trans h.r,h.z,m.trans h.mem,a.trans h.halt,λq=>absurd (a.trans g) q,by rw[e];exact h.ri,λ_=>?_,λf hf=>?_⟩
 ·let⟨z,v,i⟩:=h.ch g;refine⟨n,?_,λq=>by rw[o];exact u (by rw[<-p];exact q)⟩;rw[e,b];unfold mz;rw[dH, <-eD];exact l5.2 ⟨z,v,i t,rfl⟩
 rw[b]at hf;rcases cp.1 hf with hf|hf
 ·exact h.YZ f hf
 rw[uJ]at hf;subst hf;exact r
def D_(c)(w):(dM c w).1.prog=c.prog∧(dM c w).1.r=c.r∧Xr (dM c w).1=Xr c∧(dM c w).1.halt=c.halt∧(dM c w).1.O=c.O∧(dM c w).1.Yr=c.Yr∧(dM c w).1.stop=c.stop∧(dM c w).1.Z=c.Z∧((dM c w).1.data=c.data∧(dM c w).1.Y=c.Y∧(dM c w).1.mem=c.mem)∧(e4 w=0∨am (bi w).op≠5->(dM c w).2=bz c.Yr):=by
 unfold dM;split
 ·exact⟨rfl,rfl,rfl,rfl,rfl,rfl,rfl,rfl,c9,λ_=>rfl⟩
 rename_i a;split<;>exact⟨rfl,rfl,rfl,rfl,rfl,rfl,rfl,rfl,c9,λq=>absurd q a⟩
theorem Iv.Zb{prog:List Nat}{s:St}:∀(n:Nat) {c:Co},Iv prog c s->c.mc->c.halt=0->Iv prog (eL n c) s
 |0,c,h,_,_=>h
 | n + 1,c,h,g,k=>by
  unfold eL;split
  ·exact h
  ·rename_i z
   have l:c.stop=false:=by cases q:c.stop with
    |false=>rfl
    |true=>exact absurd (.inl q) z
   have hp:=h.pr;split
   ·rename_i j;exact h.Yr k l (bz c.Yr) true c.Yr nofun (λ_=>rfl) rfl rfl rfl rfl rfl rfl rfl rfl
   ·rename_i j;split
    ·split
     ·exact h.same rfl rfl (lx (qL g dT _ _) rfl) rfl rfl rfl rfl rfl h.ri
     ·exact h
    ·let⟨m,o,p,i,r,t,u,v,⟨w,e,f⟩,a⟩:=D_ {c with y:=tO c.y (ab c.Yr)} (bg c.prog c.Yr);generalize C:dM {c with y:=tO c.y (ab c.Yr)} (bg c.prog c.Yr)=B at *;let⟨d,b⟩:=B;simp only at m o p i r t u v w e f a⊢;rw[hp]at a j;have x:qo prog ⟨c.Yr,b⟩:=λq=>a (by
      by_cases y:e4 (bg prog c.Yr)=0
      ·exact .inl y
      ·refine .inr (q ⟨?_,y⟩)
       cases A:(ez prog c.Yr).isSome with
       |true=>rfl
       |false=>exact absurd A j)
     refine Iv.Zb n (h.Yr k l b false b (λ_=>rfl) x (d:=LU d b) m o p i (by show d.O++[⟨d.Yr,b⟩]=_;rw[r,t]) rfl (by show d.stop=false;rw[u];exact l) v) ?_ (i.trans k);exact ea g w e f
theorem Iv.Y2{prog}{c}{s}(h:Iv prog c s)(a:c.mc):Iv prog (eN c) s:=by
 unfold eN;split
 ·exact h
 rename_i b;exact h.Zb _ a (ej.1 b)
theorem Iv.Zl{prog}{c}{s}(h:Iv prog c s)(a:c.mc):Iv prog (tY c) s:=by
 let⟨_,hA,_⟩:=sj a;have b:(tY c).prog=c.prog∧(tY c).r=c.r∧(tY c).halt=c.halt∧(tY c).O=c.O∧(tY c).Yr=c.Yr∧(tY c).stop=c.stop∧(tY c).Z=c.Z:=by
  unfold tY nP pE tW aW jE
  (repeat' split)<;>exact⟨rfl,rfl,rfl,rfl,rfl,rfl,rfl⟩
 let⟨s1,ap,s3,c6,dq,b',dn⟩:=b;exact h.same s1 ap hA s3 c6 dq b' (by rw[dn]) (by rw[dn];exact h.ri)
def ir(prog:List Nat):St->List Sp->St->Prop
 |s,[],t=>t=s
 |s,x::l,t=>s.halt=0∧x=(gE prog s).2∧ir prog (gE prog s).1 l t
theorem tg{prog:List Nat}:∀{s t u:St} {l m:List Sp},ir prog s l t->ir prog t m u->ir prog s (l++m) u
 |s,t,u,[],m,h,k=>by rw[show t=s from h]at k;exact k
 |s,t,u,x::l,m,h,k=>⟨h.1,h.2.1,tg h.2.2 k⟩
def zg{m}{a}{b}(h:a+b.size<=m.size):BE m ⟨a,b⟩=DD m a b:=by
 have c:(BE m ⟨a,b⟩).size=m.size:=iY m [⟨a,b⟩];refine lq (c.trans (ww m a b h).symm) λi d=>?_;rw[rT m ⟨a,b⟩ i ad,u1 m a b h]
def rq{e}(h:(cA e).halt=0):e.halt=0∧((cA e).store=true->am e.i.op=4)∧(cA e).next=(if am e.i.op=5 then e.next else bz e.K)∧(am e.i.op=3->(cA e).V=e.V):=by
 unfold cA at h⊢;split at h
 ·rename_i a;exact absurd h a
 rename_i a;rw[dZ a];refine⟨ej.1 a,?_,?_,?_⟩
 ·(repeat' split)<;>first|(intro _;assumption)|(intro q;cases q)
 ·(repeat' split)<;>first|rfl|omega
 intro b;rw[dZ ad,aa b]
theorem Iv.Zi{prog}{c}{s}(h:Iv prog c s)(U:NW c.Z)(M:c.mc){e}{l}(E:c.Z=e::l)(L:e.ok)(J:e.is=3)(y:c.halt=0):
  s.halt=0∧cA e=(gE prog s).2∧((cA e).halt≠0->Iv prog (tM c (cA e)) (gE prog s).1)∧((cA e).halt=0->Iv prog (vZ c e (cA e) l) (gE prog s).1∧(vZ c e (cA e) l).mc):=by
 have o:s.halt=0:=by rw[<-h.halt];exact y
 let⟨z,F,ag⟩:=h.ch y;rw[E]at F;have N:e.K=s.K:=F.1;have w:=h.ri;rw[E]at w;have C:db prog s e:=w.ok.1;have O:(⟨e.K,s.r,s.mem,0⟩:St)=s:=by rw[N];let⟨a,b,c,d⟩:=s;simp only at o;subst o;rfl
 have B:ek prog s e=gE prog s:=by unfold ek;rw[O]
 have j:cA e=(gE prog s).2:=by rw[<-B];exact C.told (.inr J)
 have t:=oe prog o;refine⟨o,j,λg=>?_,λg=>?_⟩
 ·let⟨V,_,_⟩:=t.halt (by rw[<-j];exact g);rw[V, <-j];exact⟨h.pr,h.r,h.z,h.mem,rfl,λ_=>rfl,⟨trivial,λi x g=>by cases g⟩,λq=>absurd q g,λf T=>by cases T⟩
 let⟨t1,t2,t3,t4⟩:=rq g;let⟨W,X⟩:=t.run (by rw[<-j];exact g);have A:e.M=(gE prog s).1.K:=by
  rw[X, <-j,t3];split
  ·rename_i m;have:=U e (by rw[E];exact b1);unfold Nj at this;rw[C.YU m J t1,jP m]at this;simp only[kL,mA]at this;exact(ej.1 this).symm
  rename_i m;exact C.gs λ_=>m
 have Z:(Xr c).size=s.mem.size:=by rw[h.mem]
 have u:(fZ c (cA e)).mc:=ea M rfl rfl rfl;have n:(vG (fZ c (cA e)) e (cA e)).mc∧Xr (vG (fZ c (cA e)) e (cA e))=Xr (fZ c (cA e)):=by
  unfold vG;split
  ·rename_i m;have K:=qt u (agY:=(cA e).V) (by rw[t4 m];exact L.V);exact⟨K.mc,lx K rfl⟩
  exact⟨u,rfl⟩
 have D:Xr (fZ c (cA e))=(gE prog s).1.mem:=by
  rw[t.mem, <-j];split
  ·rename_i r;let⟨_,Y,G⟩:=t.st (by rw[<-j];exact r);rw[<-j]at Y G;let⟨k,m⟩:∃k:Nat,(cA e).size=(k:Int):=⟨_,(lU ad).symm⟩;have v:iJ (cA e)=some ⟨(cA e).V,oF (cA e).value (cA e).size.toNat⟩:=by
    unfold iJ;rw[dZ (by rw[r,g];simp;omega)]
   show iz (match iJ (cA e)with|some p=>c.W++[p]|none=>c.W) c.data c.Y c.mem=_;rw[v];show rP (Ct c.data c.Y c.mem) (c.W++[_])=_;unfold rP;rw[List.foldl_append];show BE (Xr c) _=_;rw[h.mem];apply zg;rw[m]at G⊢;rw[mP];exact(mD G).2
  rename_i r;have v:iJ (cA e)=none:=by
   unfold iJ;rw[aa (.inl (by cases q:(cA e).store with|false=>rfl|true=>exact absurd q r))]
  show iz (match iJ (cA e)with|some p=>c.W++[p]|none=>c.W) c.data c.Y c.mem=_;rw[v];exact h.mem
 have f1:(vG (fZ c (cA e)) e (cA e)).prog=c.prog∧(vG (fZ c (cA e)) e (cA e)).halt=c.halt∧(vG (fZ c (cA e)) e (cA e)).O=c.O∧(vG (fZ c (cA e)) e (cA e)).Yr=c.Yr∧(vG (fZ c (cA e)) e (cA e)).stop=c.stop:=by
  unfold vG oK;(repeat' split)<;>exact⟨rfl,rfl,rfl,rfl,rfl⟩
 let⟨P,H,I,Q,R⟩:=f1;refine⟨⟨P.trans h.pr,?_,?_,n.2.trans D,?_,λq=>?_,?_,λ_=>?_,?_⟩,ea n.1 rfl rfl rfl⟩
 ·show lY c.r (cA e)=_;rw[t.r,h.r,j]
 ·rw[t.r];unfold lY;split
  ·show(if 0=_ then _ else _)=_;rw[dZ ad];exact h.z
  exact h.z
 ·show(vG _ _ _).halt=_;rw[H,y,W]
 ·have q:(vG (fZ c (cA e)) e (cA e)).halt≠0:=q;rw[H]at q;exact absurd y q
 ·show RI prog _ l;refine⟨by rw[<-B];exact w.ok.2,λi x g S=>?_⟩;have:=w.Y (i+1) x g S;rw[oP,List.all_cons,aP]at this;exact this.2
 ·refine⟨z,?_,?_⟩
  ·show jn _ (hC l++mz (vG _ _ _).O) z;rw[I, <-A];exact F.2
  show(vG _ _ _).stop=false->(vG _ _ _).Yr=z;rwa[R,Q]
 show ∀f∈(vG _ _ _).O,_;rw[I];exact h.YZ
theorem Iv.Y5{prog:List Nat}:∀(n:Nat) {c:Co} {s:St},Iv prog c s->NW c.Z->c.mc->(∀e∈c.Z,e.ok)->∃l t,(eC n c).N=c.N++l∧l.length<=n∧ir prog s l t∧Iv prog (eC n c) t
 |0,c,s,h,_,_,_=>⟨[],s,(dY _).symm,aC _,rfl,h⟩
 | n + 1,c,s,h,k,i,j=>by
  unfold eC;have b:∃l t,c.N=c.N++l∧l.length<=n+1∧ir prog s l t∧Iv prog c t:=⟨[],s,(dY _).symm,aE _,rfl,h⟩;split
  ·exact b
  ·rename_i g;have g:c.halt=0:=ej.1 g;split
   ·exact b
   ·rename_i e l d;split
    ·exact b
    ·rename_i f;have f:e.is=3:=ej.1 f;let⟨o,p,q,r⟩:=h.Zi k i d (j e (by rw[d];exact b1)) f g;split
     ·rename_i a;exact⟨[cA e],_,rfl,by simp,⟨o,p,rfl⟩,q a⟩
     ·rename_i a;have a:(cA e).halt=0:=ej.1 a;split
      ·exact b
      ·let⟨u,v⟩:=r a;let⟨m,t,w,y,z,A⟩:=Iv.Y5 n u (λx a=>k x (by rw[d];exact bY _ a)) v (λx a=>j x (by rw[d];exact bY _ a));refine⟨cA e::m,t,?_,sU y,⟨o,p,z⟩,A⟩;rw[w];have:(vZ c e (cA e) l).N=c.N++[cA e]:=by
        show(vG _ _ _).N=_;unfold vG oK;(repeat' split)<;>rfl
       rw[this,eD];rfl
def HO{agI}{j}{e b}(c:agI[j]?=some e)(f:b.i=e.i)(a)(k):LS (agI.set j b) a k=LS agI a k:=by
 let⟨g,_⟩:=Em.1 c;unfold LS;by_cases d:j=k
 ·subst d;rw[aZ g,c];simp[f]
 rw[kX d]
theorem u3{agI:List ai}{j:Nat}{e b:ai}(c:agI[j]?=some e)(d:b.i=e.i)(a:Int):∀n,hv (agI.set j b) a n=hv agI a n
 |0=>rfl
 |n+1=>by unfold hv;rw[HO c d,u3 c d a n]
def G8{agI}{j}{e d}(f:agI[j]?=some e)(l:d.i=e.i)(n:e.is=0){r}{i}{b}(a:(lK agI r i b).isSome=true):lK (agI.set j d) r i b=lK agI r i b:=by
 unfold lK gX at a⊢;rw[cC,u3 f l];split
 ·rfl
 split
 ·rfl
 rename_i g h;rw[dZ g,dZ h]at a;split
 ·rfl
 rename_i k m;rw[m]at a;simp only at a;by_cases c:j=k
 ·subst c;rw[f]at a;simp only at a;rw[dZ ad]at a;cases a
 rw[kX c]
def Rd(agI:List ai)(r:Nat->Nat)(i:Nat):Prop:=∀e,agI[i]?=some e->e.is=0∧(am e.i.op=3->e.known=true∨(lK agI r i e.i.j).isSome=true)∧(am e.i.op=4->(lK agI r i e.i.j).isSome=true)∧(am e.i.op≠3->am e.i.op≠4->(lK agI r i e.i.j).isSome=true∧(lK agI r i e.i.o).isSome=true)
def mf{agI}{j}{e d}(t:agI[j]?=some e)(u:d.i=e.i)(s:e.is=0){r}{i}(f:j≠i)(h:Rd agI r i):Rd (agI.set j d) r i:=by
 intro x g;rw[kX f]at g;let⟨n,o,p,c⟩:=h x g;have b:∀a,(lK agI r i a).isSome=true->(lK _ r i a).isSome=true:=λa q=>by rw[G8 t u s q];exact q
 exact⟨n,λk=>(o k).imp id (b _),λk=>b _ (p k),λl m=>⟨b _ (c l m).1,b _ (c l m).2⟩⟩
def v4{c}{i}(h:DN c i=true):Rd c.Z c.r i:=by
 intro e a;unfold DN at h;rw[a]at h;simp only at h;split at h
 ·cases h
 rename_i b;refine⟨ej.1 b,λk=>?_,λk=>?_,λd f=>?_⟩
 ·rw[aa k,dE,aP]at h;exact h.imp id (·.1)
 ·rw[dZ ad,aa k,aP,aP]at h;exact h.1.2
 rw[dZ d,dZ f,aP]at h;unfold mI at h;rw[a]at h;simp[aP]at h;exact h.1
theorem Iv.put{prog}{c}{s}(h:Iv prog c s){j}{e a}(g:c.Z[j]?=some e)(i:fh e a)(f:db prog (ct prog s (c.Z.take j)) e->db prog (ct prog s (c.Z.take j)) a)(l:a.is=2->(e.is=2∧a.V=e.V)∨(c.Z.take j).all (ja a)=true):Iv prog (bt c j a) s:=by
 refine h.same rfl rfl rfl rfl rfl rfl rfl ?_ (h.ri.set g i f l);let⟨m,_⟩:=Em.1 g;refine p4 (cC ..) λk x n d b=>?_;by_cases f:j=k
 ·subst f;rw[show(bt c j a).Z=c.Z.set j a from rfl,aZ m]at b;rw[g]at d;injection d with d;injection b with b;subst d b;exact i
 rw[show(bt c j a).Z=c.Z.set j a from rfl,kX f,d]at b;injection b with b;subst b;exact fh.refl _
theorem Iv.load{prog}{c}{s}(h:Iv prog c s)(d:c.mc){j}{e}(a:c.Z[j]?=some e)(w:am e.i.op=3)(y:e.known=true->e.is=0):
  Iv prog (oE c j) s∧(oE c j).mc∧(oE c j).halt=c.halt∧(oE c j).r=c.r∧∃f,(oE c j).Z=c.Z.set j f∧f.i=e.i:=by
 have l:Iv prog c s∧c.mc∧c.halt=c.halt∧c.r=c.r∧∃f,c.Z=c.Z.set j f∧f.i=e.i:=by
  refine⟨h,d,rfl,rfl,e,?_,rfl⟩;let⟨E,A⟩:=Em.1 a;rw[<-A,List.set_getElem_self]
 have t:=ic h.ri.ok a;unfold oE;rw[a];simp only;split
 ·exact l
 rename_i b;have b:e.known=true:=by cases q:e.known with|true=>rfl|false=>exact absurd q b
 let⟨_,m⟩:=t.Zy b (.inl w);rw[jq]at m;split
 ·rename_i k;have r:=BK h.ri.ok a m (λi v=>by rw[<-h.mem];exact nr _ _ _ _ (by rw[<-h.mem,show(Xr c).size=c.mem.size from MU ..]at v;exact v)) k;refine⟨h.put a (l' e _) (λq=>(qi q λ_ _ _=>r).1) (λq=>?_),ea d rfl rfl rfl,rfl,rfl,_,rfl,(l' e _).i⟩;unfold uM at q⊢;split at q
  ·rename_i p;rw[aa p];exact .inl ⟨q,rfl⟩
  cases q
 split
 ·exact l
 rename_i k;have k:(lL c.Z c.W j).1=2:=ej.1 k;have g:=H0 a k;split
 ·have r:e.known=true->am e.i.op=3->e.is=0∨e.is=2->oL c e=Cv (ct prog s (c.Z.take j)).mem e.V (bP e.i.op):=λ_ _ _=>by
   unfold oL;rw[h.mem,aa m];exact(ss ((h.ri.take j).ok) g m).symm
  refine⟨h.put a (l' e _) (λq=>(qi q r).1) (λq=>?_),ea d rfl rfl rfl,rfl,rfl,_,rfl,(l' e _).i⟩;unfold uM at q⊢;split at q
  ·rename_i p;rw[aa p];exact .inl ⟨q,rfl⟩
  cases q
 have z:e.is=0:=y b;let⟨B,C,D⟩:=t.wait (.inl z);have o:db prog (ct prog s (c.Z.take j)) e->db prog (ct prog s (c.Z.take j)) {e with is:=2}:=λq=>
  ⟨q.ins,λn=>absurd (q.Zv n).1 ad,(λn=>by rcases n with n|n<;>cases n),λ_=>⟨B,C,D⟩,q.Zy,.inr (.inr (.inl rfl)),λ_=>⟨w,b⟩,nofun,nofun,nofun,λn=>by have n:am e.i.op=5:=n;omega,λn=>by have n:am e.i.op=5:=n;omega,q.gs⟩
 have x:fh e {e with is:=2}:=⟨rfl,rfl,rfl,λq=>by omega⟩;split
 ·exact⟨h.put a x o (λ_=>.inr g),ea d rfl rfl rfl,rfl,rfl,_,rfl,rfl⟩
 split
 ·have u:=qL d (k:=1) dT (ab e.V) oZ;have hA:Iv prog (jE c 1 (ab e.V) oZ) s:=h.same rfl rfl (lx u rfl) rfl rfl rfl rfl rfl h.ri;exact⟨hA.put a x o (λ_=>.inr g),ea u.mc rfl rfl rfl,rfl,rfl,_,rfl,rfl⟩
 exact l
theorem Iv.start{prog}{c}{s}(h:Iv prog c s)(g:c.mc){j}(F:Rd c.Z c.r j):
  Iv prog (iS c j) s∧(iS c j).mc∧(iS c j).halt=c.halt∧(iS c j).r=c.r∧(c.Z[j]?=none∧(iS c j).Z=c.Z∨∃e d,c.Z[j]?=some e∧(iS c j).Z=c.Z.set j d∧d.i=e.i∧e.is=0):=by
 unfold iS;split
 ·rename_i G;exact⟨h,g,rfl,rfl,.inl ⟨G,rfl⟩⟩
 rename_i e f;let⟨u,Q,r4,R⟩:=F e f;let⟨z,_⟩:=Em.1 f;have t:∀l:List ai,(c.mem.size:Int)=(ct prog s l).mem.size:=λl=>by
  rw[jq, <-h.mem,show(Xr c).size=c.mem.size from MU ..]
 have m:∀i,(lK c.Z c.r j i).isSome=true->(lK c.Z c.r j i).getD 0=(ct prog s (c.Z.take j)).r i.toNat:=λi q=>by
  let⟨v,w⟩:=FH.1 q;rw[w];rw[h.r]at w;exact rv h.ri.ok h.z (Nat.le_of_lt z) w
 have y:mI c.Z c.r j=((lK c.Z c.r j e.i.j).getD 0,(lK c.Z c.r j e.i.o).getD 0,(lK c.Z c.r j e.i.j).isSome&&(lK c.Z c.r j e.i.o).isSome):=by unfold mI;rw[f]
 have S:∀(d:ai) (P:Prop),d.is≠2->d.is=2->P:=λd P a b=>absurd b a;have p:∀n a,(yC e n a).is≠2:=λn a=>by
  unfold yC
  (repeat' split)<;>first|(show e.is≠2;omega)|(show(3:Int)≠2;decide)
 rw[y];simp only;split
 ·rename_i o;exact⟨h.put f (md e _ _) (λq=>(th q (t _) (λ_ _=>m _ (r4 o))).1) (λq=>absurd q (p _ _)),ea g rfl rfl rfl,rfl,rfl,.inr ⟨e,_,f,rfl,(md e _ _).i,u⟩⟩
 split
 ·rename_i r o;have x:(bt c j (yC e c.mem.size ((lK c.Z c.r j e.i.j).getD 0))).Z[j]?=some (yC e c.mem.size ((lK c.Z c.r j e.i.j).getD 0)):=aZ z;have B:(yC e c.mem.size ((lK c.Z c.r j e.i.j).getD 0)).known=true->(yC e c.mem.size ((lK c.Z c.r j e.i.j).getD 0)).is=0:=λq=>by
   unfold yC at q⊢;split at q
   ·rename_i k;rwa[aa k]
   rename_i k;rw[dZ k];split at q
   ·rename_i E;rwa[aa E]
   exact absurd (.inr (.inr q)) k
  let⟨H,I,J,K,d,L,M⟩:=(h.put f (md e _ _) (λq=>(th q (t _) (λ_ C=>m _ ((Q o).resolve_left (by rw[C];decide)))).1) (λq=>absurd q (p _ _))).load (ea g rfl rfl rfl) x (by rw[(md e _ _).i];exact o) B;refine⟨H,I,J,K,.inr ⟨e,d,f,?_,M.trans (md e _ _).i,u⟩⟩;rw[L];show(c.Z.set j _).set j d=_;rw[lO]
 rename_i r A;let⟨N,O⟩:=R A r;have D:∀a b,(rJ e a b).is≠2:=λa b=>by
  unfold rJ
  (repeat' split)<;>first|(show e.is≠2;omega)|(show(1:Int)≠2;decide)
 exact⟨h.put f (tr e _ _) (λq=>(Jp q (λ_=>m _ N) (λ_=>m _ O)).1) (λq=>absurd q (D _ _)),ea g rfl rfl rfl,rfl,rfl,.inr ⟨e,_,f,rfl,(tr e _ _).i,u⟩⟩
theorem Iv.Y7{prog:List Nat}{s:St}:∀(p:List Nat) {c:Co},Iv prog c s->c.mc->p.Nodup->(∀i∈p,Rd c.Z c.r i)->Iv prog (p.foldl iS c) s
 |[],c,h,_,_,_=>h
 | j::p,c,h,k,b,d=>by
  let⟨l,m,u,n,o⟩:=h.start k (d j b1);rw[List.nodup_cons]at b;refine Iv.Y7 p l m b.2 λi f=>?_;have a:=d i (bY _ f);rw[n];rcases o with ⟨_,q⟩|⟨e,v,t,q,g,r⟩
  ·rw[q];exact a
  ·rw[q];exact mf t g r (λz=>b.1 (by rw[z];exact f)) a
theorem nz{agN:Int}{busy:Bool}{kinds:List Int}{can:List Bool}:∀n,(∀i∈(kA agN busy kinds can n).out,i<n∧can.getD i false=true)∧(kA agN busy kinds can n).out.Nodup
 |0=>⟨nofun,List.nodup_nil⟩
 | n +1=>by
  let⟨e,d⟩:=nz (agN:=agN) (busy:=busy) (kinds:=kinds) (can:=can) n;have c:∀i∈(kA agN busy kinds can n).out,i<n+1∧can.getD i false=true:=λi hi=>⟨oH ((e i hi).1),(e i hi).2⟩;unfold kA IW;split
  ·exact⟨c,d⟩
  split
  ·exact⟨c,d⟩
  split
  ·exact⟨c,d⟩
  ·rename_i h _;refine⟨λi hi=>?_,?_⟩
   ·rcases cp.1 hi with hi|hi
    ·exact c i hi
    ·rw[uJ]at hi;subst hi;exact⟨oT,by cases q:can.getD i false with|true=>rfl|false=>exact absurd q h⟩
   ·show((kA agN busy kinds can n).out++[n]).Nodup;rw[List.nodup_append];refine⟨d,by simp,λa g b f=>?_⟩;rw[uJ]at f;subst f;have:=(e a g).1;omega
theorem Iv.Zo{prog}{c}{s}(h:Iv prog c s)(b:c.mc):Iv prog (gY c) s:=by
 unfold gY;split
 ·exact h
 obtain⟨e,f⟩:=nz (Kv c).length;refine h.Y7 _ b f λi g=>v4 ?_;let⟨a,d⟩:=e i g;unfold Kv at a d;rw[aH,fV]at a;rwa[aR,aX,eZ a]at d
theorem Iv.step{prog}{c}{s}{n}(h:Iv prog c s)(u:c.E n)(q:n+20<=890000)(i:c.mc):∃l t,(c8 c).N=c.N++l∧l.length<=c.U.u.toNat∧ir prog s l t∧Iv prog (c8 c) t:=by
 have a:=Ql u q;have w:Iv prog (s0 c) s:=h.same rfl rfl rfl rfl rfl rfl rfl rfl h.ri;have e:(s0 c).mc:=ea i rfl rfl rfl;have o:(s1 c).mc:=(lf e a.k0.ok.Z_).mc;have x:Iv prog (s1 c) s:=w.ZE e a.k0.ok.Z_;have f:(ap c).mc:=by
  show(kK (s1 c)).mc;unfold kK
  repeat' split
  all_goals exact ea o rfl rfl rfl
 let⟨y,I⟩:Iv prog _ s∧NW (ap c).Z:=x.ZD;have b:(s3 c).mc:=m' _ _ a.k2.ok.Z7 f;let⟨l,t,j,k,m,z⟩:=y.Y5 (ap c).U.u.toNat I f a.k2.ok.Z7;have g:(c6 c).mc:=by
  show(gY _).mc;unfold gY;split
  ·exact b
  exact qW _ _ b
 have d:(dq c).mc:=by
  show(lP _).mc;unfold lP;split
  ·exact g
  exact o8 _ _ g
 have A:Iv prog _ t:=(Iv.Zo z b).enters;have p:(b' c).mc:=by
  show(eN _).mc;unfold eN;split
  ·exact d
  exact qh _ _ d
 have B:Iv prog _ t:=(A.Y2 d).Zl p;refine⟨l,t,?_,aL k ?_,m,B⟩
 ·have C:(s1 c).N=c.N:=(rG _).2.2.1;have D:(ap c).N=(s1 c).N:=(mC _).2;have E:(s3 c).N=(ap c).N++l:=j;have r4:(c6 c).N=(s3 c).N:=by have:=nO a.k3 ad;simp_all only[c6]
  have F:(dq c).N=(c6 c).N:=(Ai a.k4).2.2;have G:(b' c).N=(dq c).N:=(uX a.k5 ad).2.2.1;have H:(c8 c).N=(b' c).N:=(wX a.k6 ad).2.2.1;rw[H,G,F,r4,E,D,C]
 have r:(ap c).U=c.U:=by
  show(kK _).U=_;have v:(lM (s0 c)).U=c.U:=by
   unfold lM ID oK;(repeat' split)<;>rfl
  unfold kK;(repeat' split)<;>exact v
 rw[r];exact aC _
theorem Iv.new(a)(prog)(m):Iv (fX a prog m).prog (fX a prog m) ⟨0,λ_=>0,jB m,0⟩:=by
 refine⟨rfl,rfl,rfl,?_,rfl,λ_=>rfl,⟨trivial,λi e b=>by cases b⟩,λ_=>⟨0,rfl,λ_=>rfl⟩,λf c=>by cases c⟩;have d:LV (fX a prog m).data=[]:=by
  show((List.replicate _ _).flatten.map _)=[];rw[List.flatten_replicate_nil];rfl
 show rP (rP (jZ [] (jB m)) (LV (fX a prog m).data)) []=jB m;rw[d];rfl
theorem Iv.run{X}{s}(a:∀k,k<=3000->ip X k)(h:Iv X.prog X s)(b:X.mc):∀k,k<3000->∀t,Iv X.prog (uN X k) t->∃l u,(uN X (k+1)).N=(uN X k).N++l∧l.length<=(uN X k).U.u.toNat∧ir X.prog t l u∧Iv X.prog (uN X (k+1)) u:=by
 intro k d t c;have g:=a k ad;rw[show uN X (k+1)=c8 (uN X k)from aa g.rt];exact c.step (EL g.ok ad g.rt) ad (kp a b k ad)
end Go.Proofs.YtmbhlpgmfafmbaaGreatDoor
