import Derived.Test.YtiaekocjeinkjaaGreatDoorS38
set_option linter.all false
namespace Go.Proofs.YtiaekocjeinkjaaGreatDoor
open Go.RowKit
def gb(m:ByteArray)(i:Nat):Option UInt8:=m.data[i]?
def dt(p:Pt)(i:Nat):Option UInt8:=if p.W<=i then gb p.data (i-p.W)else none
def fw(l:List Pt)(i:Nat):Option UInt8:=l.foldl (λo p=>(dt p i).or o) none
def kc{m:ByteArray}{i:Nat}(h:m.size<=i):gb m i=none:=iE h
def mz{a b}(d:a.size=b.size)(h:∀i,i<a.size->gb a i=gb b i):a=b:=by
 refine ByteArray.ext (Array.ext_getElem? λi=>?_);by_cases c:i<a.size
 .exact h i c
 exact(kc ad).trans (kc ad).symm
def oi(a b)(i):gb (a++b) i=if i<a.size then gb a i else gb b (i-a.size):=by
 unfold gb;rw[ByteArray.data_append,Array.getElem?_append];rfl
def ke(m)(a b i):gb (m.extract a b) i=if i<min b m.size-a then gb m (a+i)else none:=by
 unfold gb;rw[ByteArray.data_extract,mQ];rfl
def vy(m)(p)(i)(d:i<m.size):gb (BE m p) i=(dt p i).or (gb m i):=by
 unfold BE dt;by_cases h:p.W<m.size
 .rw[aa h,oi,oi,ke,ke,ke];simp only[kH,dA];by_cases a:p.W<=i
  .rw[aa a];by_cases b:i-p.W<p.data.size
   .rw[aa ad,dZ ad,aa ad,(oT:0+(i-(min p.W m.size-0))=i-p.W)];have:∃x,gb p.data _=some x:=⟨p.data.data[i-p.W],aT b⟩;let⟨x,c⟩:=this;rw[c];rfl
   rw[dZ ad,aa ad,(oT:p.W+min p.data.size _+(i-(min p.W m.size-0+(min _ p.data.size-0)))=i)];rw[kc (i:=i-p.W) ad];rfl
  rw[dZ a,aa ad,aa ad,aa ad,(oT:0+i=i)];rfl
 rw[dZ h,dZ ad];rfl
def vo(l)(i):∀o,l.foldl (λo p=>(dt p i).or o) o=(fw l i).or o:=by
 induction l with
 |nil=>intro o;rfl
 |cons p l ih=>
  intro o;show l.foldl _ ((dt p i).or o)=(l.foldl _ ((dt p i).or none)).or o;rw[ih,ih _,Option.or_assoc];cases dt p i<;>rfl
def l3(p)(l)(i):fw (p::l) i=(fw l i).or (dt p i):=by
 show l.foldl _ ((dt p i).or none)=_;rw[vo];cases dt p i<;>rfl
def qb(a b)(i):fw (a++b) i=(fw b i).or (fw a i):=by
 unfold fw;rw[List.foldl_append];exact vo b i _
def mx(l)(i):∀m,i<m.size->gb (rP m l) i=(fw l i).or (gb m i):=by
 induction l with
 |nil=>intro m _;rfl
 |cons p l ih=>
  intro m a;show gb (rP (BE m p) l) i=_;rw[ih _ (by rw[Kn];exact a),vy m p i a,l3,Option.or_assoc]
def qe{l}{i}(h:∀p∈l,dt p i=none):fw l i=none:=by
 induction l with
 |nil=>rfl
 |cons p l ih=>rw[l3,ih (λq a=>h q (bY _ a)),h p dg];rfl
def IA{l}{i}{v}(h:∀p∈l,dt p i=none\/dt p i=v)(c:∃p∈l,dt p i=v):fw l i=v:=by
 induction l with
 |nil=>let⟨p,hp,_⟩:=c;exact absurd hp List.not_mem_nil
 | cons p l ih=>
  rw[l3];by_cases b:∃q∈l,dt q i=v
  .rw[ih (λq a=>h q (bY _ a)) b];rcases h p dg with e|e
   .rw[e];cases v<;>rfl
   .rw[e];cases v<;>rfl
  .rw[qe (λq a=>(h q (bY _ a)).resolve_right λe=>b ⟨q,a,e⟩)];let⟨q,a,e⟩:=c;rcases eu.1 a with e2|e2
   .subst e2;exact e
   .exact absurd ⟨q,e2,e⟩ b
def dh(c:Ca)(w:Wy):Prop:=w∈c.O.flatten
def j2{c}(h:c_ c){w}:dh c w↔w∈pF c (w.S/16%c.O.length):=by
 unfold dh;constructor
 .intro a;let⟨s,e,d⟩:=List.mem_flatten.1 a;obtain⟨k,b,rfl⟩:=fY e;rwa[((h.set k _ (aA b)).ZM w d).set,vA (aA b)]
 .intro a;unfold pF at a
  cases b:c.O[w.S/16%c.O.length]? with
  |none=>rw[b]at a;exact absurd a List.not_mem_nil
  |some s=>rw[b]at a;exact List.mem_flatten.2 ⟨s,aB b,a⟩
def ol{c}(h:c_ c){w}(e:dh c w):r9 c.O.length (w.S/16%c.O.length) w:=by
 let⟨s,d,b⟩:=List.mem_flatten.1 e;obtain⟨k,a,rfl⟩:=fY d;have g:=(h.set k _ (aA a)).ZM w b;rwa[g.set]
def HH{l:List Wy}(h:(l.map (·.S)).Nodup){w v}(b:w∈l)(a:v∈l)(e:w.S=v.S):w=v:=by
 induction l with
 |nil=>exact absurd b List.not_mem_nil
 | cons x l ih=>
  rw[jC,List.nodup_cons]at h;rcases eu.1 b with h1|h1
  .rcases eu.1 a with h2|h2
   .rw[h1,h2]
   .exact absurd (pG.2 ⟨v,h2,by rw[<-e,h1]⟩) h.1
  .rcases eu.1 a with h2|h2
   .exact absurd (pG.2 ⟨w,h1,by rw[e,h2]⟩) h.1
   .exact ih h.2 h1 h2
def qq{c}(h:c_ c){w v}(f:dh c w)(d:dh c v)(e:w.S=v.S):w=v:=by
 have a:=(j2 h).1 d;rw[<-e]at a;have b:0<c.O.length:=oH h.O;exact HH (h.at (aQ _ b)).one ((j2 h).1 f) a e
def oo{c}(h:c_ c){k}(g:k<c.O.length)(s){w}:dh (rK c k s) w↔w∈s\/(dh c w/\w.S/16%c.O.length≠k):=by
 show w∈(c.O.set k s).flatten↔_;rw[List.mem_flatten];constructor
 .rintro⟨t,i,b⟩;let⟨j,a,e⟩:=fY i;rw[List.getElem_set]at e;split at e
  .subst e;exact .inl b
  rename_i d;rw[cC]at a;subst e;refine .inr ⟨List.mem_flatten.2 ⟨_,jO a,b⟩,?_⟩;rw[((h.set j _ (aA a)).ZM w b).set];exact λz=>d z.symm
 rintro(b|⟨l,d⟩)
 .exact⟨s,List.mem_set g s,b⟩
 have f:=(j2 h).1 l;have a:w.S/16%c.O.length<c.O.length:=aQ _ ad;rw[vA (aA a)]at f;exact⟨_,List.mem_iff_getElem?.2 ⟨w.S/16%c.O.length,by rw[kX (λz=>d z.symm)];exact aA a⟩,f⟩
def ID{p}{i}(b:p.W%16=0)(a:p.data.size=0\/p.data.size=16):dt p i=if p.W=ao i then gb p.data (i%16)else none:=by
 unfold dt ao;by_cases h:p.W=i-i%16
 .rw[aa h,aa ad,(oT:i-p.W=i%16)]
 rw[dZ h];split
 .exact kc ad
 rfl
def gg(c:Ca)(i:Nat):Option UInt8:=fw (LV c) i
def my{c}(h:c_ c){w}(a:dh c w)(i):dt ⟨w.S,w.data⟩ i=if w.S=ao i then gb w.data (i%16)else none:=by
 have g:=ol h a;have:=g.S;exact ID (by show w.S%16=0;unfold ao at this;omega) g.data
def kb{c}(h:c_ c){w}(a:dh c w){i}(e:w.S=ao i):gg c i=gb w.data (i%16):=by
 refine IA (λp hp=>?_) ⟨⟨w.S,w.data⟩,pG.2 ⟨w,a,R⟩,by rw[my h a,aa e]⟩;obtain⟨v,b,rfl⟩:=pG.1 hp;rw[my h b];split
 .rename_i d;rw[qq h b a (d.trans e.symm)];exact .inr R
 exact .inl R
def og{c}(h:c_ c){i}(b:∀w,dh c w->w.S≠ao i):gg c i=none:=by
 refine qe λp hp=>?_;obtain⟨v,a,rfl⟩:=pG.1 hp;rw[my h a,dZ (b v a)]
def m9{c d}(h:c_ c)(k:c_ d){i}(e:∀w,w.S=ao i->(dh d w->∃v,dh c v/\v.S=w.S/\v.data=w.data)/\(dh c w->∃v,dh d v/\v.S=w.S/\v.data=w.data)):gg d i=gg c i:=by
 by_cases j:∃w,dh c w/\w.S=ao i
 .let⟨w,b,a⟩:=j;let⟨v,g,f,l⟩:=(e w a).2 b;rw[kb h b a,kb k g (f.trans a),l]
 rw[og h λw b a=>j ⟨w,b,a⟩,og k λw b a=>?_];let⟨v,g,f,_⟩:=(e w a).1 b;exact j ⟨v,g,f.trans a⟩
def HK{c}(h:c_ c)(agY){w}:dh (tO c agY) w↔dh c w:=by
 by_cases a:(bK c agY).2.isSome=true
 .rw[Dw a];have ff:=pR a;rw[oo h ff.2.2.1,(EV ff.2.2.2).mem_iff];constructor
  .rintro(h1|h1)
   .rwa[j2 h,((h.at ff.2.2.1).ZM w h1).set]
   exact h1.1
  intro b;by_cases e:w.S/16%c.O.length=(bK c agY).1
  .exact .inl (by rw[<-e];exact(j2 h).1 b)
  exact .inr ⟨b,e⟩
 rw[Dx (sU a)]
def va{c}(h:c_ c){agY}(b:(bK c agY).2.isSome=false){w}(f:dh c w):w.S≠ao agY:=by
 rw[rI (agY:=agY) (ir.1 h).1]at b;have e:jY _ _=none:=sU b;intro d;have a:=(j2 h).1 f;rw[d]at a;exact QC.1 e w a d
def vb{c}(h:c_ c){agY}(d:(bK c agY).2.isSome=true):∃w,(pF c (bK c agY).1)[(bK c agY).2.getD 0]?=some w/\dh c w/\w.S=ao agY:=by
 have ff:=pR d;refine⟨_,aA ff.2.2.2,?_,?_⟩
 .have g:=jO ff.2.2.2;rwa[j2 h,((h.at ff.2.2.1).ZM _ g).set]
 .have e:=rI (agY:=agY) (ir.1 h).1;have hp:∀(l:List Wy) (x j:Nat) _,jY l x=some j->l[j].S=x:=by
   intro l
   induction l with
   |nil=>intro x j a;exact absurd a (dG _)
   | cons y l ih=>
    intro x j a q;unfold jY at q;by_cases b:y.S=x
    .rw[aa b]at q;injection q with q;subst q;exact b
    .rw[dZ b,Gi]at q;let⟨i,k,m⟩:=q;subst m;exact ih x i _ k
  let⟨j,a⟩:=FH.1 d;apply hp _ _ _ _;have f:=a;rw[e]at f;rwa[a,e]
def T7{c}(h:c_ c){agY}(m:(bK c agY).2.isSome=false)(d)(b):
  ((qZ c agY d b).2.2=false/\∀w,dh (qZ c agY d b).1 w↔w=⟨ao agY,b,dC d⟩\/dh c w)\/
  ((qZ c agY d b).2.2=true/\dh c (qZ c agY d b).2.1/\∀w,dh (qZ c agY d b).1 w↔w=⟨ao agY,b,dC d⟩\/(dh c w/\w.S≠(qZ c agY d b).2.1.S)):=by
 have j:=(ir.1 h).1;have i:(bK c agY).1<c.O.length:=by rw[rI (agY:=agY) j];exact AP (kJ j).1 _
 have e:∀w,w∈pF c (bK c agY).1↔dh c w/\w.S/16%c.O.length=(bK c agY).1:=λw=>by
  constructor
  .intro f;have q:=((h.at i).ZM w f).set;exact⟨by rw[j2 h,q];exact f,q⟩
  .rintro⟨f,q⟩;rw[<-q];exact(j2 h).1 f
 rw[AR j m];split
 all_goals
  first
   |rename_i f;right;have a:pF c (bK c agY).1≠[]:=λz=>by rw[z]at f;have:=h.ways;simp at f;omega
    have l:(pF c (bK c agY).1).getLast?.getD qE=(pF c (bK c agY).1).getLast a:=by rw[List.getLast?_eq_some_getLast a];rfl
    have k:=(e _).1 (List.getLast_mem a);refine⟨R,by show dh c ((pF c (bK c agY).1).getLast?.getD qE);rw[l];exact k.1,λw=>?_⟩;rw[l,oo h i,eu];have g:=(h.at i).one;have n:w∈(pF c (bK c agY).1).dropLast↔w∈pF c (bK c agY).1/\w.S≠((pF c (bK c agY).1).getLast a).S:=by
     constructor
     .intro q;refine⟨oC _ q,λz=>?_⟩;rw[<-List.dropLast_concat_getLast a,dH,List.nodup_append]at g;exact g.2.2 w.S (pG.2 ⟨w,q,R⟩) _ (pG.2 ⟨_,uJ.2 R,R⟩) z
     .rintro⟨q,z⟩;rw[<-List.dropLast_concat_getLast a]at q;rcases dz.1 q with q|q
      .exact q
      .exact absurd (by rw[uJ.1 q]) z
    rw[n,e]
   |left;refine⟨rfl,λw=>?_⟩;rw[oo h i,eu,e]
  constructor
  .rintro((q|q)|q)
   .exact .inl q
   .first|exact .inr ⟨q.1.1,q.2⟩|exact .inr q.1
   .first|(exact .inr ⟨q.1,λz=>q.2 (by rw[z];exact k.2)⟩)|exact .inr q.1
  .rintro(q|q)
   .exact .inl (.inl q)
   .by_cases z:w.S/16%c.O.length=(bK c agY).1
    .first|exact .inl (.inr ⟨⟨q.1,z⟩,q.2⟩)|exact .inl (.inr ⟨q,z⟩)
    .first|exact .inr ⟨q.1,z⟩|exact .inr ⟨q,z⟩
def FT{f}{l}{j}{x:Wy}(a:l[j]?=some x):ku f (eY l j)=f x::(l.take j++l.drop (j+1)):=by
 unfold eY;rw[a];rfl
def vp{l:List Wy}(h:(l.map (·.S)).Nodup){j}{x}(b:l[j]?=some x){w}:w∈l.take j++l.drop (j+1)↔w∈l/\w.S≠x.S:=by
 let⟨c,e⟩:=Em.1 b;have hp:(x::(l.take j++l.drop (j+1))).Perm l:=by
  have:=EV c;unfold eY at this;rwa[b]at this
 have a:=((hp.map _).nodup_iff).2 h;rw[jC,List.nodup_cons]at a;constructor
 .intro q;exact⟨hp.mem_iff.1 (bY _ q),λz=>a.1 (pG.2 ⟨w,q,z⟩)⟩
 rintro⟨q,z⟩;rcases eu.1 (hp.mem_iff.2 q)with r|r
 .exact absurd (by rw[r]) z
 exact r
def vq{c}(h:c_ c){agY}(b:(bK c agY).2.isSome=true){s}{x y}(e:(pF c (bK c agY).1)[(bK c agY).2.getD 0]?=some x)
  (d:∀w,w∈s↔w=y\/(w∈pF c (bK c agY).1/\w.S≠x.S)) (a:x.S=ao agY) (w):dh (rK c (bK c agY).1 s) w↔w=y\/(dh c w/\w.S≠ao agY):=by
 have ff:=pR b;rw[oo h ff.2.2.1,d,a];constructor
 .rintro((q|q)|q)
  .exact .inl q
  .refine .inr ⟨?_,q.2⟩;rw[j2 h,((h.at ff.2.2.1).ZM w q.1).set];exact q.1
  refine .inr ⟨q.1,λz=>q.2 ?_⟩;rw[z, <-a];exact ((h.at ff.2.2.1).ZM x (aB e)).set
 rintro(q|q)
 .exact .inl (.inl q)
 by_cases z:w.S/16%c.O.length=(bK c agY).1
 .exact .inl (.inr ⟨by rw[<-z];exact(j2 h).1 q.1,q.2⟩)
 exact .inr ⟨q.1,z⟩
def HL{c}(h:c_ c){a}{b}(e:(xL c a b).2=true):∃v,dh c v/\v.S=ao a/\v.data.size=16/\b.size+a%16<=16/\
  ∀w,dh (xL c a b).1 w↔w={v with data:=Fk v.data (a%16) b,f:=true}\/(dh c w/\w.S≠ao a):=by
 by_cases d:(bK c a).2.isSome=true
 .let⟨x,f,i,g⟩:=vb h d;rw[At b d R f]at e⊢;by_cases j:x.data.size=0\/b.size+a%16>16
  .rw[aa j]at e;cases e
  rw[dZ j];refine⟨x,i,g,oH (ol h i).data,oT,vq h d f (λw=>?_) g⟩;rw[FT f,eu,vp (h.at (pR d).2.2.1).one f]
 rw[GV b (sU d)]at e;cases e
def HM{c}(h:c_ c){agY}(w):dh (wB c agY) w↔(∃u,dh c u/\u.S=ao agY/\w={u with f:=false})\/(dh c w/\w.S≠ao agY):=by
 by_cases a:(bK c agY).2.isSome=true
 .let⟨x,i,d,b⟩:=vb h a;rw[Dy a R,vq h a i (λv=>?_) b]
  .constructor
   .rintro(q|q)
    .exact .inl ⟨x,d,b,q⟩
    exact .inr q
   rintro(⟨u,f,g,j⟩|q)
   .rw[qq h f d (g.trans b.symm)]at j;exact .inl j
   exact .inr q
  let⟨l,e⟩:=Em.1 i;rw[<-vp ((h.at (pR a).2.2.1).one) i,List.modify_eq_take_cons_drop l,e];simp[dz,eu];constructor
  all_goals
   rintro(q|q|q)
   .exact .inr (.inl q)
   .exact .inl q
   exact .inr (.inr q)
 rw[Dz (sU a)];have k:=λv=>va h (sU a) (w:=v);constructor
 .intro q;exact .inr ⟨q,k w q⟩
 rintro(⟨u,f,g,_⟩|q)
 .exact absurd g (k u f)
 exact q.1
def ep(q:List bp)(m:ByteArray)(i:Nat):Option UInt8:=(fw (fP q) i).or (gb m i)
def hQ(c:Ca)(q:List bp)(m:ByteArray)(i:Nat):Option UInt8:=(gg c i).or (ep q m i)
def IH(q:List bp)(m:ByteArray){i:Nat}(a:i<m.size):gb (jZ q m) i=ep q m i:=mx _ _ _ a
def qu(s)(c)(q)(m){i}(a:i<m.size):gb (jz s c q m) i=(fw s i).or (hQ c q m i):=by
 unfold jz Ct jZ;rw[mx _ _ _ (by rw[iY,iY];exact a),mx _ _ _ (by rw[iY];exact a),mx _ _ _ a];rfl
def qc{s f}{c b}{q e}{m a}(g:a.size=m.size)(h:∀i,i<m.size->(fw f i).or (hQ b e a i)=(fw s i).or (hQ c q m i)):jz f b e a=jz s c q m:=by
 refine mz (by rw[MU,MU,g]) λi d=>?_;rw[MU]at d;rw[qu _ _ _ _ d,qu _ _ _ _ ad];exact h i ad
def uq(q)(k)(agY)(left)(d):fP (Bi q k agY left d)=fP q++if k=4 then [⟨agY,d⟩]else []:=by
 unfold fP Bi;rw[mL,dH];congr 1;by_cases h:k=4
 .rw[aa h];subst h;rfl
 rw[dZ h,List.filter_cons,dZ (sU h)];rfl
def ur(q)(agY)(left)(d)(m)(i):ep (Bi q 4 agY left d) m i=(dt ⟨agY,d⟩ i).or (ep q m i):=by
 unfold ep;rw[uq,aa R,qb,Option.or_assoc];congr 1;rw[l3];rfl
def F8(q){k}(a:k≠4)(agY)(left)(d)(m)(i):ep (Bi q k agY left d) m i=ep q m i:=by
 unfold ep;rw[uq,dZ a,dY]
structure h6(d:Ca)(q:List bp)(m:ByteArray):Prop where
 g:c_ d
 al:m.size%16=0
 cl:∀w,dh d w->w.f=false->0<w.data.size->∀i,i<m.size->w.S=ao i->gb w.data (i%16)=ep q m i
def oq{c}(h:c_ c){w}(a:dh c w)(b:0<w.data.size){i}:∃x,gb w.data (i%16)=some x:=by
 have:=(ol h a).data;exact⟨_,aT (show i%16<w.data.data.size by show i%16<w.data.size;omega)⟩
def Ku{m:ByteArray}(a:m.size%16=0){i}(b:i<m.size):ao i+16<=m.size:=by unfold ao;omega
def J0{m}(b:m.size%16=0){agY i}(c:i<m.size)(e:ao agY=ao i):(dC (Ga m agY)).size=16/\gb (dC (Ga m agY)) (i%16)=gb m i:=by
 have d:=Ku b c;unfold Ga;rw[e,aa ad,(oT:min _ 16=16)];have a:(m.extract (ao i) (ao i+16)).size=16:=by rw[dA];omega
 rw[show dC _=m.extract _ (ao i+16)from aa a];refine⟨a,?_⟩;rw[ke,aa ad];congr 1;unfold ao;omega
def IN{d}{q}{m}(h:h6 d q m){agY}(Q:agY<=4294967295)(left):
  h6 (iQ d q m agY left).1 (iQ d q m agY left).2.1 m/\∀i,i<m.size->hQ (iQ d q m agY left).1 (iQ d q m agY left).2.1 m i=hQ d q m i:=by
 unfold iQ;rw[dZ (by rw[(ir.1 h.g).1];decide)];have u:ao (ao agY)=ao agY:=by unfold ao;omega
 by_cases K:(bK d (ao agY)).2.isSome=true
 .rw[aa K];have N:=λw=>HK h.g (ao agY) (w:=w);refine⟨⟨h.g.Zg _,h.al,λw f=>h.cl w ((N w).1 f)⟩,λi _=>?_⟩;show hQ (tO d (ao agY)) q m i=_;unfold hQ;rw[m9 h.g (h.g.Zg _) λw _=>⟨λz=>⟨w,(N w).1 z,R,R⟩,λz=>⟨w,(N w).2 z,R,R⟩⟩]
 .rw [dZ K];have E:(bK d (ao agY)).2.isSome=false:=sU K;have H:∀{w},dh d w->w.S≠ao agY:=λ{w} f=>u ▸ va h.g E f;have j:=h.g.put (dV Q) (Ga (jZ q m) (ao agY)) false;have I:(jZ q m).size=m.size:=iY _ _;have k:∀i,i<m.size->ao agY=ao i->(dC (Ga (jZ q m) (ao agY))).size=16/\gb (dC (Ga (jZ q m) (ao agY))) (i%16)=ep q m i:=λi b e=>by
   obtain⟨O,J⟩:=J0 (by rw[I];exact h.al) (by rw[I];exact b) (u.trans e);exact⟨O,J.trans (IH q m b)⟩
  have v:∀i,i<m.size->ao agY=ao i->gg d i=none:=λi _ e=>og h.g λw f z=>H f (z.trans e.symm);have B:∀i,i<m.size->ao agY=ao i->∃x,ep q m i=some x:=λi b e=>by
   let⟨O,J⟩:=k i b e;rw[<-J];exact⟨_,aT (oT:i%16<(dC (Ga (jZ q m) (ao agY))).size)⟩
  rcases T7 h.g E (Ga (jZ q m) (ao agY)) false with ⟨o,f⟩|⟨o,l,f⟩
  .rcases L:qZ d (ao agY) (Ga (jZ q m) (ao agY)) false with ⟨c,a,g⟩;rw[L]at o f j;simp only at o f j;rw[u]at f;show h6 (if g=true/\a.f=true/\a.data.size≠0 then(c,Bi q 4 a.S left a.data,true)else(c,q,false):Ca×List bp×Bool).1 (if g=true/\a.f=true/\a.data.size≠0 then(c,Bi q 4 a.S left a.data,true)else(c,q,false):Ca×List bp×Bool).2.1 m/\∀i,i<m.size->hQ (if g=true/\a.f=true/\a.data.size≠0 then(c,Bi q 4 a.S left a.data,true)else(c,q,false):Ca×List bp×Bool).1 (if g=true/\a.f=true/\a.data.size≠0 then(c,Bi q 4 a.S left a.data,true)else(c,q,false):Ca×List bp×Bool).2.1 m i=hQ d q m i;rw[dZ (by rw[o];simp)];have D:dh c ⟨ao agY,false,dC (Ga (jZ q m) (ao agY))⟩:=(f _).2 (.inl R);refine⟨⟨j,h.al,λw r s t i b e=>?_⟩,λi b=>?_⟩
   .rcases(f w).1 r with z|z
    .subst z;exact(k i b e).2
    .exact h.cl w z s t i b e
   .show(gg c i).or _=(gg d i).or _;by_cases e:ao agY=ao i
    .rw[kb j D e,v i b e,(k i b e).2];let⟨x,p⟩:=B i b e;rw[p];rfl
    .rw[m9 h.g j λw C=>⟨λz=>⟨w,((f w).1 z).resolve_left λy=>e (by rw[<-C,y]),R,R⟩,λz=>⟨w,(f w).2 (.inr z),R,R⟩⟩]
  .rcases L:qZ d (ao agY) (Ga (jZ q m) (ao agY)) false with ⟨c,a,g⟩;rw[L]at o f j l;simp only at o f j l;rw[u]at f;have D:dh c ⟨ao agY,false,dC (Ga (jZ q m) (ao agY))⟩:=(f _).2 (.inl R);have F:a.S≠ao agY:=H l;have G:∀i,a.S=ao i->gg c i=none:=λi e=>og j λw z y=>by
    rcases(f w).1 z with x|x
    .rw[x]at y;exact F (e.trans y.symm)
    .exact x.2 (y.trans e.symm)
   have A:∀i,ao agY≠ao i->a.S≠ao i->gg c i=gg d i:=λi e n=>
    m9 h.g j λw C=>⟨λz=>⟨w,(((f w).1 z).resolve_left λy=>e (by rw[<-C,y])).1,R,R⟩,λz=>⟨w,(f w).2 (.inr ⟨z,λy=>n (by rw[<-y,C])⟩),R,R⟩⟩
   show h6 (if g=true/\a.f=true/\a.data.size≠0 then(c,Bi q 4 a.S left a.data,true)else(c,q,false):Ca×List bp×Bool).1 (if g=true/\a.f=true/\a.data.size≠0 then(c,Bi q 4 a.S left a.data,true)else(c,q,false):Ca×List bp×Bool).2.1 m/\∀i,i<m.size->hQ (if g=true/\a.f=true/\a.data.size≠0 then(c,Bi q 4 a.S left a.data,true)else(c,q,false):Ca×List bp×Bool).1 (if g=true/\a.f=true/\a.data.size≠0 then(c,Bi q 4 a.S left a.data,true)else(c,q,false):Ca×List bp×Bool).2.1 m i=hQ d q m i;by_cases M:g=true/\a.f=true/\a.data.size≠0
   .rw [aa M];have P:∀i,ep (Bi q 4 a.S left a.data) m i=if a.S=ao i then gb a.data (i%16)else ep q m i:=λi=>by
     rw[ur,my h.g l];split
     .obtain⟨x,p⟩:=oq h.g l ad;rw[p];rfl
     .rfl
    refine⟨⟨j,h.al,λw r s t i b e=>?_⟩,λi b=>?_⟩
    .show _=ep (Bi q 4 a.S left a.data) m i;rw[P];rcases(f w).1 r with z|z
     .subst z;rw[dZ (λy=>F (y.trans e.symm))];exact(k i b e).2
     .rw[dZ (λy=>z.2 (e.trans y.symm))];exact h.cl w z.1 s t i b e
    .show(gg c i).or (ep (Bi q 4 a.S left a.data) m i)=(gg d i).or _;rw[P];by_cases n:a.S=ao i
     .rw[aa n,G i n,kb h.g l n];obtain⟨x,p⟩:=oq h.g l ad;rw[p];rfl
     .rw[dZ n];by_cases e:ao agY=ao i
      .rw[kb j D e,v i b e,(k i b e).2];let⟨x,p⟩:=B i b e;rw[p];rfl
      .rw[A i e n]
   .rw [dZ M];refine⟨⟨j,h.al,λw r s t i b e=>?_⟩,λi b=>?_⟩
    .rcases(f w).1 r with z|z
     .subst z;exact(k i b e).2
     .exact h.cl w z.1 s t i b e
    .show(gg c i).or _=(gg d i).or _;by_cases n:a.S=ao i
     .rw[G i n,kb h.g l n];by_cases t:a.data.size=0
      .rw[kc ad]
      .have s:a.f=false:=by
        cases S:a.f with
        |false=>rfl
        |true=>exact absurd ⟨o,S,t⟩ M
       rw[h.cl a l s ad i b n];cases ep q m i<;>rfl
     .by_cases e:ao agY=ao i
      .rw[kb j D e,v i b e,(k i b e).2];let⟨x,p⟩:=B i b e;rw[p];rfl
      .rw[A i e n]
def ot(x)(q):fP (x::q)=(if x.kind=4 then [⟨x.S,x.data⟩]else [])++fP q:=by
 unfold fP;by_cases h:x.kind=4
 .rw[aa h,List.filter_cons,aa (sU h)];rfl
 rw[dZ h,List.filter_cons,dZ (sU h)];rfl
def F9(q)(m)(i)(b:i<m.size):
  ep (eH q).1 (if(eH q).2.2=true/\(eH q).2.1.kind=4 then rP m [⟨(eH q).2.1.S,(eH q).2.1.data⟩]else m) i=ep q m i:=by
 cases q with
 |nil=>rfl
 | cons x r=>
  by_cases h:wrap64 (x.left-1)>0
  .rw[show eH (x::r)=({x with left:=wrap64 _}::r,OU,false)from aa h,dZ (by simp)];unfold ep;rw[ot,ot]
  .rw[show eH (x::r)=(r,{x with left:=wrap64 _},true)from dZ h];by_cases a:x.kind=4
   .rw[aa ⟨R,a⟩];unfold ep;rw[ot,aa a,mx _ _ _ b,qb,Option.or_assoc]
   .rw[dZ (λz=>a z.2)];unfold ep;rw[ot,dZ a,iA]
theorem h6.Za{d}{q b}{m a}(h:h6 d q m)(g:a.size=m.size)(c:∀i,i<m.size->ep b a i=ep q m i):h6 d b a:=
 ⟨h.g,by rw[g];exact h.al,λw k f j i l e=>by rw[c i ad];exact h.cl w k f j i ad e⟩
abbrev Co.mc(c:Co):Prop:=h6 c.data c.U c.mem
abbrev Co.YE(c:Co)(i:Nat):Option UInt8:=hQ c.data c.U c.mem i
structure ic(c d:Co):Prop where
 mc:d.mc
 j:d.mem.size=c.mem.size
 un:∀i,i<c.mem.size->d.YE i=c.YE i
theorem ic.refl{c}(h:c.mc):ic c c:=⟨h,R,λ_ _=>rfl⟩
theorem ic.trans{a b c}(h:ic a b)(k:ic b c):ic a c:=⟨k.mc,k.j.trans h.j,λi d=>(k.un i (oH h.j)).trans (h.un i d)⟩
theorem ic.same{a b c}(h:ic a b)(e:c.data=b.data)(f:c.U=b.U)(d:c.mem=b.mem):ic a c:=by
 refine⟨?_,by rw[d];exact h.j,λi g=>?_⟩
 .show h6 c.data c.U c.mem;rw[e,f,d];exact h.mc
 show hQ c.data c.U c.mem i=_;rw[e,f,d];exact h.un i g
def q3{c}(h:c.mc){agY}(e:agY<=4294967295):ic c (oK c agY):=by
 have b:=IN h e (lX c.Q c.asked);have a:=(vd c agY).1;refine⟨?_,by rw[a],λi d=>?_⟩
 .show h6 (oK c agY).data (oK c agY).U (oK c agY).mem;rw[a];exact b.1
 show hQ (oK c agY).data (oK c agY).U (oK c agY).mem i=_;rw[a];exact b.2 i d
def na{c}(h:c.mc){k}(b:k≠4)(agY)(d):ic c (jE c k agY d):=by
 have a:∀i,ep (jE c k agY d).U c.mem i=ep c.U c.mem i:=λi=>F8 _ b _ _ _ _ _;refine⟨h6.Za h R λi _=>a i,R,λi _=>?_⟩;show(gg c.data i).or (ep (jE c k agY d).U c.mem i)=_;rw[a];rfl
def HN{q}(h:∀x∈q,x.ok):(eH q).2.2=true->(eH q).2.1.S<=4294967295:=by
 cases q with
 |nil=>intro z;cases z
 |cons x r=>
  by_cases a:wrap64 (x.left-1)>0
  .rw[show eH (x::r)=({x with left:=wrap64 _}::r,OU,false)from aa a];intro z;cases z
  .rw[show eH (x::r)=(r,{x with left:=wrap64 _},true)from dZ a];exact λ_=>(h x dg).1
def ou{c}(h:c.mc)(r:∀x∈c.U,x.ok):ic c (lM c):=by
 have a:=F9 c.U c.mem;have k:=HN r;unfold lM;rcases p:eH c.U with ⟨q,x,ok⟩;rw[p]at a k;simp only at a k;show ic c (if ok=true then ip {c with U:=q} x else {c with U:=q});have j:∀{e:ByteArray},e.size=c.mem.size->(∀i,i<c.mem.size->ep q e i=ep c.U c.mem i)->ic c {c with U:=q,mem:=e }:=λ{e} o a=>by
  refine⟨h6.Za h o a,o,λi b=>?_⟩;show(gg c.data i).or (ep q e i)=_;rw[a i b];rfl
 by_cases d:ok=true
 .rw [aa d];unfold ip;by_cases f:x.kind=4
  .rw[dZ ad,dZ ad,dZ ad,aa f];exact j (iY _ _) λi b=>by have:=a i b;rwa[aa ⟨d,f⟩]at this
  have g:ic c {c with U:=q}:=j R λi b=>by have:=a i b;rwa[dZ (λz=>f z.2)]at this
  by_cases l:x.kind=1
  .rw[aa l];exact g.same R R R
  rw[dZ l];by_cases m:x.kind=2
  .rw[aa m];exact g.same R R R
  rw[dZ m];by_cases n:x.kind=3
  .rw[aa n];exact g.trans (q3 g.mc (k d))
  rwa[dZ n,dZ f]
 rw[dZ d];exact j R λi b=>by have:=a i b;rwa[dZ (λz=>d z.1)]at this
def HO{d b}{a j}(h:d.size=16)(g:b.size+a<=16)(i:j<16):gb (Fk d a b) j=(if a<=j then gb b (j-a)else none).or (gb d j):=by
 unfold Fk;rw[oi,oi,ke,ke];simp only[kH,dA];by_cases c:a<=j
 .rw[aa c];by_cases e:j-a<b.size
  .rw[aa ad,dZ ad,(oT:j-(min a d.size-0)=j-a)];have:∃x,gb b _=some x:=⟨_,aT e⟩;let⟨x,f⟩:=this;rw[f];rfl
  rw[kc (i:=j-a) ad,dZ ad,aa ad,(oT:a+b.size+(j-(min a d.size-0+b.size))=j)];rfl
 rw[dZ c,aa ad,aa ad,aa ad,(oT:0+j=j)];rfl
def IS{d}{q}{m}(h:h6 d q m){p}(u:(xL d p.W p.data).2=true):
  h6 (xL d p.W p.data).1 q m/\∀i,i<m.size->hQ (xL d p.W p.data).1 q m i=(dt p i).or (hQ d q m i):=by
 let⟨v,t,a,n,j,b⟩:=HL h.g u;have c:=h.g.write p.W p.data;refine⟨⟨c,h.al,λw o k s i l e=>?_⟩,λi l=>?_⟩
 .rcases(b w).1 o with z|z
  .subst z;cases k
  exact h.cl w z.1 k s i l e
 show(gg _ i).or _=(dt p i).or ((gg d i).or _);by_cases e:ao p.W=ao i
 .rw[kb c ((b _).2 (.inl rfl)) (a.trans e),kb h.g t (a.trans e),HO n j ad,Option.or_assoc];congr 1;unfold dt ao at *;by_cases g:p.W<=i
  .rw[aa g,aa ad];congr 1;omega
  rw[dZ g,dZ ad]
 have r:dt p i=none:=by
  unfold dt;split
  .exact kc (by unfold ao at e;omega)
  rfl
 rw[r,m9 h.g c λw f=>⟨λz=>⟨w,(((b w).1 z).resolve_left λy=>e (by rw[<-f,y];exact a.symm)).1,R,R⟩,λz=>⟨w,(b w).2 (.inr ⟨z,λy=>e (by rw[<-y,f])⟩),R,R⟩⟩];rfl
def KK{d}{q}{m}(h:h6 d q m){w}(a:dh d w)(A:w.data.size≠0)(left):
  h6 (wB d w.S) (Bi q 4 w.S left w.data) m/\∀i,i<m.size->hQ (wB d w.S) (Bi q 4 w.S left w.data) m i=hQ d q m i:=by
 have n:=h.g.Y5 w.S;have c:=(ol h.g a).S;have b:=λv=>HM h.g (agY:=w.S) v;have l:∀i,ep (Bi q 4 w.S left w.data) m i=if w.S=ao i then gb w.data (i%16)else ep q m i:=λi=>by
  rw[ur,my h.g a];split
  .obtain⟨x,j⟩:=oq h.g a ad;rw[j];rfl
  rfl
 refine⟨⟨n,h.al,λv t r p i o e=>?_⟩,λi o=>?_⟩
 .rw[l];rcases(b v).1 t with ⟨u,f,k,g⟩|z
  .have:=qq h.g f a (k.trans c);subst this g;rw[aa e]
  rw[dZ (λy=>z.2 (by rw[e, <-y,c]))];exact h.cl v z.1 r p i o e
 show(gg _ i).or _=(gg d i).or _;have s:gg (wB d w.S) i=gg d i:=m9 h.g n λv _=>⟨λz=>by
  rcases(b v).1 z with ⟨u,f,k,g⟩|y
  .subst g;exact⟨u,f,rfl,rfl⟩
  .exact⟨v,y.1,rfl,rfl⟩,λz=>by
  by_cases e:v.S=ao w.S
  .exact⟨{v with f:=false},(b _).2 (.inl ⟨v,z,e,R⟩),R,R⟩
  exact⟨v,(b v).2 (.inr ⟨z,e⟩),R,R⟩⟩
 rw[s,l];split
 .rename_i e;rw[kb h.g a e];obtain⟨x,j⟩:=oq h.g a ad;rw[j];rfl
 rfl
def m_{c d:Co}(h:ic c d)(b:d.V=c.V):Xr d=Xr c:=qc h.j λi a=>by rw[b];exact am _ (h.un i a)
def v1{c}(h:c.mc):(tY c).mc/\Xr (tY c)=Xr c/\(tY c).mem.size=c.mem.size:=by
 have g:(bg c).mc/\Xr (bg c)=Xr c/\(bg c).mem=c.mem:=by
  cases f:c.V with
  |nil=>
   have m:bg c={c with V:=[],data:=c.data}:=by unfold bg;rw[f];rfl
   rw[m]
   exact⟨h,by unfold Xr;rw[f],R⟩
  | cons p l=>
   have m:bg c={c with V:=(sL (p::l) c.data).1,data:=(sL (p::l) c.data).2.1}:=by unfold bg;rw[f]
   rw[m];by_cases j:(xL c.data p.W p.data).2=true
   .rw[show sL (p::l) c.data=(l,(xL c.data p.W p.data).1,true)from aa j];have k:=IS h j;refine⟨k.1,?_,R⟩;unfold Xr;refine qc R λi n=>?_;rw[f,l3,Option.or_assoc,k.2 i n]
   .rw[show sL (p::l) c.data=(p::l,c.data,false)from dZ j];exact⟨h,by unfold Xr;rw[f],R⟩
 have q:∀{d:Co},d.mc->(f_ d).mc/\Xr (f_ d)=Xr d/\(f_ d).mem.size=d.mem.size:=λ{d} k=>by
  unfold f_;split
  .exact⟨k,R,R⟩
  .split
   .have z:=λl=>na k (k:=3) dT l oZ;exact⟨(z _).mc,m_ (z _) R,(z _).j⟩
   .exact⟨k,R,R⟩
 have o:∀{d:Co},d.mc->(ec d).mc/\Xr (ec d)=Xr d/\(ec d).mem.size=d.mem.size:=λ{d} k=>by
  unfold ec;split
  .exact⟨k,R,R⟩
  .unfold pE;split
   .rename_i w e;split
    .rename_i f;have j:dh d.data w:=by
      unfold cR at e;split at e
      .exact List.mem_of_find?_eq_some e
      .cases e
     have z:=KK k j f (lX d.Q d.asked);refine⟨z.1,?_,R⟩;unfold Xr;exact qc R λi n=>am _ (z.2 i n)
    .exact⟨k,R,R⟩
   .exact⟨k,R,R⟩
 rw[mO];split
 .have a:=q g.1;have b:=o a.1;exact⟨b.1,b.2.1.trans (a.2.1.trans g.2.1),b.2.2.trans (a.2.2.trans (by rw[g.2.2]))⟩
 .have b:=o g.1;exact⟨b.1,b.2.1.trans g.2.1,b.2.2.trans (by rw[g.2.2])⟩
def fc{c d:Co}(h:c.mc)(a:d.data=c.data)(b:d.U=c.U)(e:d.mem=c.mem):d.mc:=by
 show h6 d.data d.U d.mem;rwa[a,b,e]
theorem ov:∀(n:Nat) (c:Co),(∀e∈c.Z,e.ok)->c.mc->(c5 n c).mc
 |0,_,_,h=>h
 | n + 1,c,d,h=>by
  unfold c5;split
  .exact h
  .split
   .exact h
   .rename_i e l a;split
    .exact h
    .split
     .exact fc h R R R
     .split
      .exact h
      .have b:=d e (by rw[a];exact dg);refine ov n _ (λx f=>d x (by rw[a];exact bY _ f)) ?_;have hp:(fZ c (cA e)).mc:=fc h R R R;unfold io vG;split
       .exact fc (q3 hp (fE b).W).mc R R R
       .exact fc h R R R
def K0{c}(h:c.mc)(i):(oE c i).mc:=by
 have a:=λl=>(na h (k:=1) dT l oZ).mc;unfold oE
 repeat' split
 all_goals first|exact h|exact (λe=>fc h R R R) _|exact fc (a _) rfl rfl rfl
def IT{c}(h:c.mc)(i):(iS c i).mc:=by
 have a:∀e,(fh c i e).mc:=λe=>fc h R R R;unfold iS
 repeat' split
 all_goals first|exact h|exact a _|exact K0 (a _) _
theorem qf:∀(p:List Nat) (c:Co),c.mc->(p.foldl iS c).mc
 |[],_,h=>h
 |i::p,c,h=>qf p _ (IT h i)
theorem qz:∀(n:Nat) (c:Co),c.mc->(ez n c).mc
 |0,_,h=>h
 |n+1,c,h=>by
  unfold ez
  repeat' split
  .exact h
  .exact h
  .exact qz n _ (fc h R R R)
theorem q4:∀(n:Nat) (c:Co),c.mc->(ed n c).mc
 |0,_,h=>h
 | n +1,c,h=>by
  unfold ed;split
  .exact h
  .split
   .exact fc h R R R
   .split
    .split
     .exact(na h (k:=2) dT _ _).mc
     .exact h
    .refine q4 n _ ?_;have a:∀w,(dM {c with u:=tO c.u (ao c.J)} w).1.mc:=λw=>by
      unfold dM
      repeat' split
      all_goals exact fc h R R R
     exact fc (a (a8 c.prog c.J)) R R R
def K1{c}{n}(l:c.E n)(k:n+20<=890000)(h:c.mc):(g6 c).mc:=by
 have e:=Ql l k;have f:(s0 c).mc:=fc h R R R;have g:(s1 c).mc:=(ou f e.k0.ok.Z_).mc;have i:(s2 c).mc:=by
  show(kK _).mc;unfold kK
  repeat' split
  all_goals exact fc g R R R
 have a:(s3 c).mc:=ov _ _ e.k2.ok.Z6 i;have b:(eC c).mc:=by
  show(gY _).mc;unfold gY;split
  .exact a
  exact qf _ _ a
 have d:(e6 c).mc:=by
  show(lP _).mc;unfold lP;split
  .exact b
  exact qz _ _ b
 have j:(e7 c).mc:=by
  show(eN _).mc;unfold eN;split
  .exact d
  exact q4 _ _ d
 exact(v1 j).1
def J1(cf)(prog)(m)(d:(fX cf prog m).E 0):(fX cf prog m).mc:=by
 have a:∀w, ¬dh (fX cf prog m).data w:=λw b=>by
  let⟨s,e,c⟩:=List.mem_flatten.1 b;rw[(List.mem_replicate.1 e).2]at c;exact absurd c List.not_mem_nil
 refine⟨d.gd,?_,λw b=>absurd b (a w)⟩;show(jB m).size%16=0;let⟨n,a⟩:∃n,(jB m).size=hY n:=⟨_,wE m⟩;rw[a];unfold hY
 (repeat' split)<;>rfl
theorem oj{X:Co}(a:∀k,k<=3000->ib X k)(h:X.mc):∀k,k<=3000->(uN X k).mc
 |0,_=>h
 |k+1,b=>by
  have g:=a k ad;show(uG (uN X k)).mc;rw[show uG (uN X k)=g6 (uN X k)from aa g.rt];exact K1 (EL g.ok ad g.rt) ad (oj a h k ad)
structure T9(c:Co):Prop where
 st:c.halt≠0->c.Z=[]/\c.L=[]
structure nF(c d:Co):Prop where
 ret:d.N=c.N
 r:d.r=c.r
 halt:d.halt=c.halt
 Z:c.Z=[]->d.Z=[]
 Z5:d.L=c.L
 J:d.J=c.J
theorem nF.trans{a b c}(h:nF a b)(k:nF b c):nF a c:=⟨k.ret.trans h.ret,k.r.trans h.r,k.halt.trans h.halt,λz=>k.Z (h.Z z),k.Z5.trans h.Z5,k.J.trans h.J⟩
set_option maxRecDepth 100000
set_option maxHeartbeats 4000000
structure pj(s t:St)(x:Sp):Prop where
 M:x.M=s.M
 halt:x.halt≠0->t={s with halt:=x.halt}/\x.rd=0/\x.store=false
 run:x.halt=0->t.halt=0/\t.M=x.next
 r:t.r=lY s.r x
 mem:t.mem=if x.store=true then DD s.mem x.W (oF x.value x.size.toNat)else s.mem
 st:x.store=true->x.halt=0/\(x.size=1\/x.size=2\/x.size=4)/\kZ s.mem.size x.W x.size=true
def p9(x n j)(c:j<n):gb (oF x n) j=some (UInt8.ofNat (x/256 ^ j%256)):=by
 have b:∀(l:List Int) (r:ByteArray),(l.foldl (λr m=>r.push (UInt8.ofNat m.toNat)) r).data.toList=r.data.toList++l.map λm=>UInt8.ofNat m.toNat:=by
  intro l
  induction l with
  |nil=>intro r;simp
  |cons a l ih=>intro r;rw[mK,ih];simp[ByteArray.push]
 unfold gb oF;rw[<-bQ,b,List.map_map,show(ByteArray.empty.data.toList)=[]from R,iA,aX,eZ c];rfl
theorem u7(l:List UInt8):∀(n j:Nat),j<n->dl l n/256 ^ j%256=(l.getD j 0).toNat
 |0,j,h=>absurd h (dG j)
 | n+1,j,h=>by
  have b:=yK l n;unfold dl;by_cases e:j=n
  .subst e;rw[Nat.add_mul_div_left _ _ (Nat.pow_pos dT),Nat.div_eq_of_lt b,bJ];exact jM (UInt8.toNat_lt _)
  .have a:j<n:=oT;have ih:=u7 l n j a;rw[<-ih];obtain⟨d,rfl⟩:∃d,n=j+1+d:=⟨n-(j+1),oT⟩;rw[show 256 ^ (j+1+d)*(l.getD (j+1+d) 0).toNat=256 ^ j*(256*(256 ^ d*(l.getD (j+1+d) 0).toNat)) by rw[Nat.pow_add,Nat.pow_succ];ac_rfl];rw[Nat.add_mul_div_left _ _ (Nat.pow_pos dT),Nat.add_mul_mod_self_left]
def uo(b n):oF (la b n) n=oF b n:=by
 refine mz (by rw[mP,mP]) λj a=>?_;rw[mP]at a;rw[p9 _ _ _ a,p9 _ _ _ a];unfold la;rw[mP,u7 _ _ _ a];have h:=p9 b n j a;have c:(oF b n).data.toList.getD j 0=UInt8.ofNat (b/256 ^ j%256):=by
  rw[aR,bQ];unfold gb at h;rw[h];rfl
 rw[c];congr 1;simp
def vi(a):(aj a=3↔11<=a/\a<=15)/\(aj a=4↔16<=a/\a<=18)/\(aj a=5↔3<=a/\a<=10):=by
 unfold aj;(repeat' split)<;>omega
def vt{i}(h:aj i.op=4):wr i=0:=by
 have:=(vi i.op).2.1.1 h;have a:cW i.op=4:=by unfold cW;(repeat' split)<;>omega
 unfold wr;rw[a];rfl
def ii(prog){s}(h:s.halt=0):pj s (gE prog s).1 (gE prog s).2:=by
 have o:=pq (a8 prog s.M);have a:∀(x:Sp),x.rd=0->lY s.r x=s.r:=λx t=>by unfold lY;rw[dZ (by rw[t];omega)]
 have b:∀f g,f≠0->pj s (Gc s f g).1 (Gc s f g).2:=λf g r=>⟨R,λ_=>c9,λe=>absurd e r,(a _ R).symm,R,λe=>by cases e⟩;have k:∀(i:SI) (x:Sp),i=rA prog s->x.rd=wr i->wr i≠0->x.halt=0->lY s.r x=hL s.r (wr i).toNat x.value:=λi x m p u q=>by
  unfold lY;rw[p,aa ⟨by subst m;have:0<=wr (rA prog s):=o.1;omega,by subst m;have:wr (rA prog s)<32:=o.2;omega,q⟩]
 unfold gE;rw[aa h];split
 .split
  .exact b 2 0 dT
  unfold dj;split
  .exact b 6 0 dT
  split
  .exact b 7 0 dT
  split
  .unfold sN;split
   .rename_i l;split
    .rename_i d;have n:((bh (rA prog s).op:Nat):Int)=1\/((bh (rA prog s).op:Nat):Int)=2\/((bh (rA prog s).op:Nat):Int)=4:=by
      unfold kZ at l;simp[aP,aY]at l;exact l.1
     refine⟨R,λe=>absurd R e,λ_=>⟨h,R⟩,?_,?_,λ_=>⟨R,n,l⟩⟩
     .exact(a _ (vt d)).symm
     simp only[d,qw,fD];rw[Int.toNat_natCast,uo]
    rename_i d;split
    .rename_i c;exact⟨R,λe=>absurd R e,λ_=>⟨h,R⟩,(a _ c).symm,by simp[d],λe=>by simp[d]at e⟩
    rename_i c;exact⟨R,λe=>absurd R e,λ_=>⟨h,R⟩,(by symm;exact k _ _ R R c R),by simp[d],λe=>by simp[d]at e⟩
   exact b _ _ (by split<;>decide)
  unfold oN;have j:∀nx tk,pj s (IJ s (rA prog s) (s.r (rA prog s).y.toNat) (s.r (rA prog s).A.toNat) nx tk).1 (IJ s (rA prog s) (s.r (rA prog s).y.toNat) (s.r (rA prog s).A.toNat) nx tk).2:=λnx tk=>by
   unfold IJ;split
   .rename_i c;exact⟨R,λe=>absurd R e,λ_=>⟨h,R⟩,(a _ c).symm,R,λe=>by cases e⟩
   rename_i c;exact⟨R,λe=>absurd R e,λ_=>⟨h,R⟩,(by symm;exact k _ _ R R c R),R,λe=>by cases e⟩
  split
  .split
   .exact j _ _
   exact b 3 0 dT
  exact j _ _
 exact b 1 0 dT
def fv(prog:List Nat)(pc:Nat):Prop:=(es prog pc).isSome=true/\dq (a8 prog pc)≠0
def bx(prog:List Nat)(T:St)(e:ai):St×Sp:=gE prog ⟨e.M,T.r,T.mem,0⟩
def bz(prog:List Nat)(T:St)(l:List ai):St:=l.foldl (λT e=>(bx prog T e).1) T
def l2(prog:List Nat)(T:St)(e:ai)(l:List ai):bz prog T (e::l)=bz prog (bx prog T e).1 l:=rfl
def vu(prog:List Nat)(T:St)(a b:List ai):bz prog T (a++b)=bz prog (bz prog T a) b:=List.foldl_append
structure ea(prog:List Nat)(T:St)(e:ai):Prop where
 ins:fv prog e.M->e.i=be (a8 prog e.M)
 ZC: ¬fv prog e.M->e.is=3/\e.i=MG
 told:e.is=1\/e.is=3->cA e=(bx prog T e).2
 wait:e.is=0\/e.is=2->e.halt=0/\e.i.op≠47/\e.i.op≠48
 ZL:e.known=true->aj e.i.op=3\/aj e.i.op=4->e.W=fa e.i (T.r e.i.y.toNat)/\kZ T.mem.size e.W (bh e.i.op)=true
 st:e.is=0\/e.is=1\/e.is=2\/e.is=3
 U:e.is=2->aj e.i.op=3/\e.known=true
 run:e.is=1->e.halt=0\/(aj e.i.op=5/\e.halt=3)
 Zn:aj e.i.op=4->e.is≠1
 ahead:aj e.i.op=3->e.is=1->e.known=true
 Y8:aj e.i.op=5->e.known=true->e.is=3/\e.halt=0
 YV:aj e.i.op=5->e.is=3->e.halt=0->e.known=true
 gs:(fv prog e.M->aj e.i.op≠5)->e.K=b_ e.M
def ig(prog:List Nat):St->List ai->Prop
 |_,[]=>True
 |T,e::l=>ea prog T e/\ig prog (bx prog T e).1 l
theorem m6{prog:List Nat}:∀{T:St} {a b:List ai},ig prog T (a++b)↔ig prog T a/\ig prog (bz prog T a) b
 |T,[],b=>⟨λh=>⟨tr,h⟩,λh=>h.2⟩
 |T,e::a,b=>by
  show ea prog T e/\ig prog (bx prog T e).1 (a++b)↔(ea prog T e/\ig prog (bx prog T e).1 a)/\_;rw[m6,l2,uK]
def jd{prog}{T}{l}(h:ig prog T l){k}{e}(b:l[k]?=some e):ea prog (bz prog T (l.take k)) e:=by
 let⟨c,a⟩:=Em.1 b;have:l=l.take k++e::l.drop (k+1):=by rw[<-a, <-bF c,j']
 rw[this]at h;exact(m6.1 h).2.1
def m3(prog)(T){e e'}(h:e'.M=e.M):bx prog T e'=bx prog T e:=by unfold bx;rw[h]
theorem qk(prog:List Nat):∀(T:St) (l a:List ai),a.map (·.M)=l.map (·.M)->bz prog T a=bz prog T l
 |T,[],[],_=>rfl
 |T,[],_::_,h=>by cases h
 |T,_::_,[],h=>by cases h
 |T,e::l,e'::a,h=>by
  simp[jC,List.cons.injEq]at h;rw[l2,l2,m3 prog T h.1,qk prog _ l a h.2]
def ng{l:List ai}{k:Nat}{e e':ai}(a:l[k]?=some e)(hp:e'.M=e.M):(l.set k e').map (·.M)=l.map (·.M):=by
 rw[List.map_set];apply dD;intro j;by_cases b:k=j
 .subst b;obtain⟨c,_⟩:=Em.1 a;rw[aZ (sU c),aX,a,hp];rfl
 rw[kX b]
def J_(prog){s}(h:s.halt=0):(gE prog s).2.rd=0\/((gE prog s).2.rd=wr (rA prog s)/\fv prog s.M):=by
 unfold gE;rw[aa h];split
 .rename_i a;split
  .exact .inl R
  rename_i b;unfold dj sN oN IJ Gc
  (repeat' split)<;>first|exact .inl rfl|exact .inr ⟨rfl,⟨a,b⟩⟩
 exact .inl rfl
def qt{e}(h:e.halt=0)(a:wr e.i≠0):(cA e).rd=wr e.i/\(cA e).halt=0/\(cA e).value=e.value:=by
 unfold cA;rw[dZ (by rw[h];decide)]
 (repeat' split)<;>first|exact⟨rfl,rfl,rfl⟩|contradiction
theorem vl{prog:List Nat}{T:St}{a:List ai}(h:ig prog T a){b:Int}(s:1<=b)(t:b<=31):∀(n:Nat),n<=a.length->
  (fe a b n=none->(bz prog T (a.take n)).r b.toNat=T.r b.toNat)/\
  (∀k e,fe a b n=some k->a[k]?=some e->e.is=3->e.halt=0->(bz prog T (a.take n)).r b.toNat=e.value)
 |0,_=>⟨λ_=>rfl,nofun⟩
 | n +1,o=>by
  let⟨x,i⟩:∃x,a[n]?=some x:=⟨_,aA ad⟩;have l:=jd h i;have m:=ii prog (s:=⟨x.M,(bz prog T (a.take n)).r,(bz prog T (a.take n)).mem,0⟩) R;have d:=J_ prog (s:=⟨x.M,(bz prog T (a.take n)).r,(bz prog T (a.take n)).mem,0⟩) R;have g:bz prog T (a.take (n+1))=(bx prog (bz prog T (a.take n)) x).1:=by
   rw[bW,i,vu];rfl
  let⟨p,q⟩:=vl h s t n ad;rw[g];unfold fe LS;rw[i];simp[aY];by_cases c:wr x.i=b
  .rw[aa c];refine⟨nofun,λk e j f u r=>?_⟩;injection j with j;subst j;rw[i]at f;injection f with f;subst f;let⟨t1,t2,t3⟩:=qt r ad;have g:=l.told (.inr u);show(gE prog _).1.r _=_;rw[m.r];unfold bx at g;rw[<-g];unfold lY;rw[aa ⟨oT,oT,t2⟩,t1,c,t3];exact aa R
  .rw [dZ c];have o:(bx prog (bz prog T (a.take n)) x).1.r b.toNat=(bz prog T (a.take n)).r b.toNat:=by
    show(gE prog _).1.r _=_;rw[m.r];unfold lY;split
    .rename_i w;have:(gE prog ⟨x.M,(bz prog T (a.take n)).r,(bz prog T (a.take n)).mem,0⟩).2.rd≠b:=by
      rcases d with d|⟨d,v⟩
      .omega
      .rw[d];have:=l.ins v;rw[this]at c;exact c
     show(if b.toNat=_ then _ else _)=_;rw[dZ ad]
    .rfl
   rw[o];exact⟨p,q⟩
theorem u9{prog:List Nat}:∀{T:St} (l:List ai),T.r 0=0->(bz prog T l).r 0=0
 |T,[],h=>h
 | T,e::l,h=>by
  rw[l2];refine u9 l ?_;show(gE prog _).1.r 0=0;rw[(ii prog (s:=⟨e.M,T.r,T.mem,0⟩) R).r];unfold lY;split
  .show(if 0=_ then _ else _)=_;rw[dZ ad];exact h
  .exact h
def m0{prog}{T}{b}(h:ig prog T b)(l:T.r 0=0){i}(g:i<=b.length){c}{v}(a:lK b T.r i c=some v):v=(bz prog T (b.take i)).r c.toNat:=by
 unfold lK at a;split at a
 .rename_i j;injection a with a;subst j;rw[<-a];exact(u9 _ l).symm
 split at a
 .cases a
 rename_i q j;have m:c<=31:=oT;let⟨o,p⟩:=vl h oT m i g;unfold cx at a;rw[dZ ad,kD g]at a;split at a
 .rename_i d;injection a with a;rw[o d];exact a.symm
 rename_i k d;split at a
 .rename_i e n;split at a
  .rename_i f;injection a with a;rw[p k e d n f.1 f.2];exact a.symm
  cases a
 cases a
def kq{prog}{T}{e}(a:fv prog e.M)(d:e.i=be (a8 prog e.M))(b:e.i.op≠47)(c:e.i.op≠48):
  bx prog T e=if aj e.i.op=3\/aj e.i.op=4 then sN ⟨e.M,T.r,T.mem,0⟩ e.i (T.r e.i.y.toNat) (T.r e.i.A.toNat)else oN ⟨e.M,T.r,T.mem,0⟩ e.i (T.r e.i.y.toNat) (T.r e.i.A.toNat):=by
 have hI:rA prog ⟨e.M,T.r,T.mem,0⟩=e.i:=d.symm;unfold bx gE;rw[aa R,aa a.1,dZ a.2,hI];unfold dj;rw[dZ b,dZ c]
def M7{prog}{T}{e}(h:ea prog T e):ea prog T (bn e)/\(bn e).M=e.M:=by
 unfold bn;split
 .exact⟨h,R⟩
 rename_i g;split
 .refine⟨⟨h.ins,λf=>⟨R,(h.ZC f).2⟩,λ_=>(h.told (.inl oT)),(λh=>by rcases h with h|h<;>cases h),λa d=>h.ZL ?_ d,.inr (.inr (.inr R)),nofun,nofun,nofun,nofun,λb a=>⟨R,?_⟩,λb _ c=>aa ⟨b,c⟩,h.gs⟩,R⟩
  .have a:(if aj e.i.op=5/\e.halt=0 then true else e.known)=true:=a
   rwa [dZ (λq=>by have:=q.1;have d:aj e.i.op=3\/aj e.i.op=4:=d;omega)]at a
  have a:(if aj e.i.op=5/\e.halt=0 then true else e.known)=true:=a;by_cases c:e.halt=0
  .exact c
  rw[dZ (λq=>c q.2)]at a;exact absurd (h.Y8 b a).1 ad
 exact⟨⟨h.ins,h.ZC,h.told,h.wait,h.ZL,h.st,h.U,h.run,h.Zn,h.ahead,h.Y8,h.YV,h.gs⟩,R⟩
def H9{prog}{T}{e}(h:ea prog T e){a b}(D:e.is=0->a=T.r e.i.y.toNat)(E:e.is=0->b=T.r e.i.A.toNat):ea prog T (rJ e a b)/\(rJ e a b).M=e.M:=by
 by_cases v:e.is≠0\/aj e.i.op=3\/aj e.i.op=4
 .unfold rJ;rw[aa v];exact⟨h,R⟩
 have k:e.is=0:=oT;let⟨d,F,G⟩:=h.wait (.inl k);have l:fv prog e.M:=dw λq=>by have:=(h.ZC q).1;omega
 obtain rfl:=D k;obtain rfl:=E k;have n:=kq (T:=T) l (h.ins l) F G;rw[dZ ad]at n;have u:aj e.i.op=5->e.known=false:=λq=>by
  cases c:e.known with
  |false=>rfl
  |true=>have:=(h.Y8 q c).1;omega
 have i:∀(x:ai),x.M=e.M->x.i=e.i->x.K=e.K->x.is=1->x.known=e.known->(x.halt=0\/(aj e.i.op=5/\x.halt=3))->cA x=(bx prog T e).2->ea prog T x/\x.M=e.M:=λx j f z H A B C=>by
  refine⟨⟨by rw[j,f];exact h.ins,λq=>absurd l (by rwa [j]at q),λ_=>by rw[m3 prog T j];exact C,λq=>by omega,λ_ q=>by rw[f]at q;omega,oT,λq=>by omega,λ_=>by rw[f];exact B,λq=>by rw[f]at q;omega,λq=>by rw[f]at q;omega,λw y=>?_,λ_ q=>by omega,by rw[j,f,z];exact h.gs⟩,j⟩;rw[f]at w;rw[A,u w]at y;cases y
 unfold rJ;rw[dZ v];rw[n]at i;split
 .rename_i c;refine i _ R R R R R (.inl d) ?_;unfold cA uE oN IJ;simp[d,c];by_cases g:wr e.i=0<;>simp[g]
 .rename_i o;split
  .rename_i c;refine i _ R R R R R (.inl d) ?_;unfold cA uE oN IJ;simp[d,c];by_cases g:wr e.i=0<;>simp[g]
  .rename_i p;split
   .rename_i c;split
    .rename_i m;refine i _ R R R R R (.inl d) ?_;unfold cA uE oN IJ;simp[d,c,m];by_cases g:wr e.i=0<;>simp[g]
    .rename_i m;refine i _ R R R R R (.inr ⟨c,R⟩) ?_;unfold cA oN Gc;simp[c,m]
   .rename_i t;refine i _ R R R R R (.inl d) ?_;have r:aj e.i.op≠3:=oT;have s:aj e.i.op≠4:=oT;unfold cA uE oN IJ;by_cases g:wr e.i=0<;>simp[g,d,o,p,r,s,t]
def vj{prog}{T}{e}(h:ea prog T e){size:Int}{a}(l:size=T.mem.size)(k:e.is=0->e.known=false->a=T.r e.i.y.toNat):ea prog T (yC e size a)/\(yC e size a).M=e.M:=by
 by_cases f:(aj e.i.op≠3/\aj e.i.op≠4)\/e.is≠0\/e.known=true
 .unfold yC;rw[aa f];exact⟨h,R⟩
 have i:e.is=0:=oT
 have b:e.known=false:=by cases d:e.known with
  |false=>rfl
  |true=>exact absurd (.inr (.inr d)) f
 let⟨o,m,n⟩:=h.wait (.inl i);have c:fv prog e.M:=dw λq=>by have:=(h.ZC q).1;omega
 obtain rfl:=k i b;subst l;have j:=kq (T:=T) c (h.ins c) m n;rw[aa ad]at j;unfold yC;rw[dZ f];split
 .rename_i g;exact⟨⟨h.ins,h.ZC,λq=>absurd (show e.is=1\/e.is=3 from q) ad,h.wait,λ_ _=>⟨R,g⟩,h.st,λq=>⟨(h.U q).1,R⟩,h.run,h.Zn,λ_ _=>rfl,λq=>by have q:aj e.i.op=5:=q;omega,λq=>by have q:aj e.i.op=5:=q;omega,h.gs⟩,R⟩
 .rename_i g;refine⟨⟨h.ins,λq=>absurd c q,λ_=>?_,(λq=>by rcases q with q|q<;>cases q),(λq=>by rw[show e.known=true from q]at b;cases b),.inr (.inr (.inr R)),nofun,nofun,nofun,nofun,λq=>by have q:aj e.i.op=5:=q;omega,λq=>by have q:aj e.i.op=5:=q;omega,h.gs⟩,R⟩;show cA _=(bx prog T e).2;rw[j];unfold sN;rw[dZ (show ¬kZ _ (fa e.i (T.r e.i.y.toNat)) (bh e.i.op:Nat)=true from g)];unfold cA Gc fa;by_cases d:aj e.i.op=4<;>simp[d]
def H_{prog}{T}{e}(h:ea prog T e){b}(j:b=T.r e.i.A.toNat):ea prog T (uF e b)/\(uF e b).M=e.M:=by
 unfold uF;split
 .exact⟨h,R⟩
 .rename_i k;have a:aj e.i.op=4:=oT
  have f:e.known=true:=by cases a:e.known with
   |true=>rfl
   |false=>exact absurd (.inr (.inl a)) k
  let⟨l,m,n⟩:=h.wait (.inl oT);have c:fv prog e.M:=dw λq=>by have:=(h.ZC q).1;omega
  subst j;have d:=kq (T:=T) c (h.ins c) m n;rw[aa ad]at d;let⟨g,i⟩:=h.ZL f (.inr a);refine⟨⟨h.ins,λq=>absurd c q,λ_=>?_,(λq=>by rcases q with q|q<;>cases q),h.ZL,.inr (.inr (.inr rfl)),nofun,nofun,nofun,nofun,λq=>by have q:aj e.i.op=5:=q;omega,λq=>by have q:aj e.i.op=5:=q;omega,h.gs⟩,R⟩;show cA _=(bx prog T e).2;rw[d];unfold sN;rw[<-g,aa i,aa a];unfold cA;simp[l,a]
def ql{prog}{T}{e}(h:ea prog T e){s}(l:e.known=true->aj e.i.op=3->e.is=0\/e.is=2->s=Cv T.mem e.W (bh e.i.op)):ea prog T (uM e s)/\(uM e s).M=e.M:=by
 unfold uM;split
 .exact⟨h,R⟩
 .rename_i k;have a:aj e.i.op=3:=oT
  have b:e.known=true:=by cases a:e.known with
   |true=>rfl
   |false=>exact absurd (.inr (.inl a)) k
  have d:e.is=0\/e.is=2:=oT;let⟨g,n,o⟩:=h.wait d;have c:fv prog e.M:=dw λq=>by have:=(h.ZC q).1;omega
  obtain rfl:=l b a d;have f:=kq (T:=T) c (h.ins c) n o;rw[aa ad]at f;let⟨i,j⟩:=h.ZL b (.inl a);refine⟨⟨h.ins,λq=>absurd c q,λ_=>?_,(λq=>by rcases q with q|q<;>cases q),h.ZL,.inr (.inl rfl),nofun,λ_=>.inl g,λq=>by have q:aj e.i.op=4:=q;omega,λ_ _=>b,λq=>by have q:aj e.i.op=5:=q;omega,λq=>by have q:aj e.i.op=5:=q;omega,h.gs⟩,R⟩;show cA _=(bx prog T e).2;rw[f];unfold sN;rw[<-i,aa j,dZ (oT:¬aj e.i.op=4)];unfold cA;by_cases m:wr e.i=0<;>simp[g,a,m]
def H'(prog)(T)(no)(f)(r:(fv prog f.M->aj (be (a8 prog f.M)).op≠5)->f.K=b_ f.M):ea prog T (qB no f prog)/\(qB no f prog).M=f.M:=by
 have p:aj MG.op≠5:=dT;have i:∀(x:ai) (a:Int),a≠0->a≠4->a≠5->x={Cs with no:=no,M:=f.M,K:=f.K,i:=x.i,halt:=a,is:=3}->(fv prog f.M->x.i=be (a8 prog f.M))->(¬fv prog f.M->x.i=MG)->aj x.i.op≠5->gE prog ⟨f.M,T.r,T.mem,0⟩=Gc ⟨f.M,T.r,T.mem,0⟩ a 0->ea prog T x/\x.M=f.M:=by
  intro x a E J K D o B e C;let⟨G,H,P,N,F,S,W,U,L,O,V,Q,M⟩:=x;injection D with s t I u v w y z A k l m n;subst s t u v w y z A k l m n;refine⟨⟨o,λq=>⟨R,B q⟩,λ_=>?_,(λq=>by rcases q with q|q<;>cases q),nofun,.inr (.inr (.inr rfl)),nofun,nofun,nofun,nofun,λq=>absurd q e,λq=>absurd q e,λ_=>r λq=>by have:=o q;simp only at this e;rwa [this]at e⟩,R⟩;show cA _=(gE prog _).2;rw[C];unfold cA Gc;simp only;rw[aa E,dZ ad]
 unfold qB;split
 .rename_i b;apply i _ 1 dT dT dT R (λq=>by have:=q.1;rw[b]at this;cases this) (λ_=>rfl) p;unfold gE;rw[aa R,dZ (by rw[b];decide)]
 .rename_i b
  have b:(es prog f.M).isSome=true:=by cases h:(es prog f.M).isSome with
   |true=>rfl
   |false=>exact absurd h b
  split
  .rename_i c;apply i _ 2 dT dT dT R (λq=>absurd c q.2) (λ_=>rfl) p;unfold gE;rw[aa R,aa b,aa c]
  .rename_i c;have j:fv prog f.M:=⟨b,c⟩;split
   .rename_i d;apply i _ 6 dT dT dT R (λ_=>rfl) (λq=>absurd j q) (by simp[d];decide);unfold gE;rw[aa R,aa b,dZ c];unfold dj;rw[aa (show(rA prog ⟨f.M,T.r,T.mem,0⟩).op=47 from d)]
   .rename_i d;split
    .rename_i g;apply i _ 7 dT dT dT R (λ_=>rfl) (λq=>absurd j q) (by simp[g];decide);unfold gE;rw[aa R,aa b,dZ c];unfold dj;rw[dZ (show ¬(rA prog ⟨f.M,T.r,T.mem,0⟩).op=47 from d),aa (show(rA prog ⟨f.M,T.r,T.mem,0⟩).op=48 from g)]
    .rename_i g;exact⟨⟨λ_=>rfl,λq=>absurd j q,(λq=>by rcases q with q|q<;>cases q),λ_=>⟨R,d,g⟩,nofun,.inl R,nofun,nofun,nofun,nofun,nofun,nofun,r⟩,R⟩
def vm(m)(a)(b)(h:a+b.size<=m.size)(i):gb (DD m a b) i=(dt ⟨a,b⟩ i).or (gb m i):=by
 unfold gb dt DD;have f:m.data.toList.length=m.size:=cV;have e:b.data.toList.length=b.size:=cV;have c:(m.data.toList.take a).length=a:=by rw[aM];omega
 rw[<-bQ, <-bQ];show((m.data.toList.take a++b.data.toList)++m.data.toList.drop (a+b.size))[i]?=_;by_cases d:i<a
 .rw[dZ (oT:¬a<=i),eD,cF ad,List.getElem?_take_of_lt d];rfl
 rw[aa (oT:a<=i)];by_cases c2:i<a+b.size
 .rw[cF (by rw[aU];omega),bM ad,c];show _=(gb b _).or _;unfold gb;rw[<-bQ,aA ad];rfl
 rw[bM (by rw[aU];omega),aU,c,e,cL,(oT:a+b.size+(i-(a+b.size))=i)];show _=(gb b _).or _;rw[kc ad];rfl
def qg(m)(a)(b)(h:a+b.size<=m.size):(DD m a b).size=m.size:=by
 have d:m.data.toList.length=m.size:=cV;have c:b.data.toList.length=b.size:=cV;show(m.data.toList.take a++b.data.toList++m.data.toList.drop _).toArray.size=_;rw[kP,aU,aU,aM,bD];omega
def l5{n:Nat}{a}{k}(h:kZ (n:Int) a (k:Nat)=true):(k=1\/k=2\/k=4)/\a+k<=n:=by
 unfold kZ at h;simp[aP,aY]at h;omega
def vn{prog}{T}{e}(h:ea prog T e):
  (aj e.i.op≠4->(bx prog T e).1.mem=T.mem)/\
  (aj e.i.op=4->e.known=true->e.halt=0/\(bx prog T e).1.mem=DD T.mem e.W (oF (T.r e.i.A.toNat) (bh e.i.op))/\(e.is=3->oF e.value (bh e.i.op)=oF (T.r e.i.A.toNat) (bh e.i.op))):=by
 constructor
 .intro d;by_cases f:fv prog e.M
  .have n:rA prog ⟨e.M,T.r,T.mem,0⟩=e.i:=(h.ins f).symm;unfold bx gE;rw[aa R,aa f.1,dZ f.2,n];unfold dj sN oN IJ Gc;rw[dZ d]
   (repeat' split)<;>rfl
  unfold bx gE Gc;rw[aa R];unfold fv at f;split
  .split
   .rfl
   rename_i a b;exact absurd ⟨a,b⟩ f
  rfl
 intro d j;let⟨k,l⟩:=h.ZL j (.inr d);have f:fv prog e.M:=dw λq=>by rw[(h.ZC q).2]at d;revert d;decide
 have o:=(vi e.i.op).2.1.1 d;have g:=kq (T:=T) f (h.ins f) ad ad;rw[aa (.inr d)]at g;unfold sN at g;rw[<-k,aa l,aa d]at g;refine⟨?_,by rw[g],λm=>?_⟩
 .rcases h.st with q|q|q|q
  .exact(h.wait (.inl q)).1
  .exact absurd q (h.Zn d)
  .exact(h.wait (.inr q)).1
  have c:=h.told (.inr q);rw[g]at c;unfold cA at c;split at c
  .rename_i i;have:=am Sp.halt c;exact absurd this i
  rename_i i;exact cw.1 i
 have c:=h.told (.inr m);rw[g]at c;unfold cA at c;split at c
 .rename_i i;have:=am Sp.halt c;exact absurd this i
 have:=am Sp.value c;simp only at this;rw[this,uo]
def F2{prog}{T}{e}:(bx prog T e).1.mem.size=T.mem.size:=by
 have b:=ii prog (s:=⟨e.M,T.r,T.mem,0⟩) R;show(gE prog _).1.mem.size=_;rw[b.mem];split
 .rename_i d;let⟨_,f,a⟩:=b.st d;let⟨k,c⟩:∃k:Nat,(gE prog ⟨e.M,T.r,T.mem,0⟩).2.size=(k:Int):=⟨_,(lU ad).symm⟩;rw[c]at a⊢;exact qg _ _ _ (by rw[mP];exact(l5 a).2)
 rfl
theorem kf{prog:List Nat}:∀{T:St} (l:List ai),(bz prog T l).mem.size=T.mem.size
 |T,[]=>rfl
 |T,e::l=>by rw[l2,kf l,F2]
def wl(prog:List Nat):St->List ai->List Pt
 |_,[]=>[]
 |T,e::l=>(if f' e 4=true then [⟨e.W,oF (T.r e.i.A.toNat) (bh e.i.op)⟩]else [])++wl prog (bx prog T e).1 l
def qm(prog:List Nat)(T:St)(e:ai)(l:List ai):wl prog T (e::l)=(if f' e 4=true then [⟨e.W,oF (T.r e.i.A.toNat) (bh e.i.op)⟩]else [])++wl prog (bx prog T e).1 l:=rfl
def jt{e}{k}:f' e k=true↔aj e.i.op=k:=by unfold f';exact decide_eq_true_iff
def p_{e}(h:Aw e=false)(b:aj e.i.op=4):e.known=true/\e.halt=0:=by
 unfold Aw at h;rw[jt.2 b]at h;cases a:e.known<;>simp[a]at h⊢
 exact h
theorem qn{prog:List Nat}:∀{T:St} {l:List ai},ig prog T l->l.any Aw=false->∀i,gb (bz prog T l).mem i=(fw (wl prog T l) i).or (gb T.mem i)
 |T,[],_,_,i=>rfl
 | T,e::l,h,b,i=>by
  rw[List.any_cons,dP]at b;have c:=vn h.1;rw[l2,qn h.2 b.2];rw[qm,qb];by_cases a:aj e.i.op=4
  .let⟨d,g⟩:=p_ b.1 a;let⟨_,f⟩:=h.1.ZL d (.inr a);rw[(c.2 a d).2.1,aa (jt.2 a),vm _ _ _ (by rw[mP];exact(l5 f).2)];show _=((fw _ i).or ((dt _ i).or none)).or _;rw[Option.or_none,Option.or_assoc]
  .rw[c.1 a,dZ (λq=>a (jt.1 q))];show _=((fw _ i).or none).or _;rw[Option.or_none]
def Al(s:Std)(p:Pt):Prop:=s.W=p.W/\s.size=p.data.size/\(s.there=true->s.data=p.data)
def j6:List Std->List Pt->Prop
 |[],[]=>True
 |s::l,p::k=>Al s p/\j6 l k
 |_,_=>False
theorem qo:∀{a:List Std} {p:List Pt} {b:List Std} {q:List Pt},j6 a p->j6 b q->j6 (a++b) (p++q)
 |[],[],_,_,_,h=>h
 |_::_,_::_,_,_,⟨c,d⟩,h=>⟨c,qo d h⟩
 |[],_::_,_,_,h,_=>h.elim
 |_::_,[],_,_,h,_=>h.elim
theorem qp:∀{a:List Std} {p:List Pt},j6 a p->j6 a.reverse p.reverse
 |[],[],_=>trivial
 |_::_,_::_,⟨b,c⟩=>by rw[List.reverse_cons,List.reverse_cons];exact qo (qp c) ⟨b,tr⟩
 |[],_::_,h=>h.elim
 |_::_,[],h=>h.elim
theorem uz:∀(l:List Pt),j6 (l.map CY) l
 |[]=>trivial
 |p::l=>⟨⟨R,R,λ_=>rfl⟩,uz l⟩
theorem vk{prog:List Nat}:∀{T:St} {l:List ai},ig prog T l->l.any Aw=false->j6 ((l.filter λe=>f' e 4).map Fg) (wl prog T l)
 |T,[],_,_=>trivial
 | T,e::l,h,b=>by
  rw[List.any_cons,dP]at b;have ih:=vk h.2 b.2;rw[qm];by_cases a:aj e.i.op=4
  .let⟨f,g⟩:=p_ b.1 a;have c:=((vn h.1).2 a f).2.2;rw[List.filter_cons_of_pos (p:=λe=>f' e 4) (jt.2 a),aa (jt.2 a)];refine⟨⟨R,(mP _ _).symm,λd=>c ?_⟩,ih⟩;exact ax d
  .rw[List.filter_cons_of_neg (p:=λe=>f' e 4) (λq=>a (jt.1 q)),dZ (λq=>a (jt.1 q))];exact ih
def kS:List Pt->Nat->Option UInt8
 |[],_=>none
 |p::l,i=>(dt p i).or (kS l i)
theorem om:∀(a b:List Pt) (i:Nat),kS (a++b) i=(kS a i).or (kS b i)
 |[],_,_=>rfl
 |p::a,b,i=>by show(dt p i).or (kS (a++b) i)=_;rw[om a b, <-Option.or_assoc];rfl
theorem m8:∀(l:List Pt) (i:Nat),kS l.reverse i=fw l i
 |[],_=>rfl
 |p::l,i=>by
  rw[List.reverse_cons,om,m8 l,l3];show _=_;congr 1;show(dt p i).or none=_;rw[Option.or_none]
theorem u_{at_ n:Nat}(o:0<n):∀{L:List Std} {P:List Pt},j6 L P->
  ((xK at_ n L).1=2->∀j,j<n->kS P (at_+j)=none)/\
  ((xK at_ n L).1=1->(xK at_ n L).2.size=n/\∀j,j<n->kS P (at_+j)=gb (xK at_ n L).2 j)
 |[],[],_=>⟨λ_ _ _=>rfl,λh=>by cases h⟩
 |[],_::_,h=>h.elim
 |_::_,[],h=>h.elim
 | s ::L,p::P,⟨⟨f,k,l⟩,h⟩=>by
  have ih:=u_ (at_:=at_) o h;unfold xK;have c:∀j,hV s.W s.size at_ n=false->j<n->dt p (at_+j)=none:=λj b a=>by
   unfold hV at b;simp[Bool.and_eq_false_iff,mA]at b;unfold dt;split
   .refine kc ?_;rw[<-k, <-f];rename_i q;rw[<-f]at q;omega
   .rfl
  split
  .rename_i b;refine⟨λq j a=>?_,λq=>⟨(ih.2 q).1,λj a=>?_⟩⟩
   .show(dt p _).or _=none;rw[c j b a,ih.1 q j a];rfl
   .show(dt p _).or _=_;rw[c j b a,(ih.2 q).2 j a];rfl
  .split
   .exact⟨nofun,nofun⟩
   .rename_i b g
    have e:Fh s.W s.size at_ n=true:=by cases d:Fh s.W s.size at_ n with
     |true=>rfl
     |false=>exact absurd (.inl d) g
    have i:s.there=true:=by cases d:s.there with
     |true=>rfl
     |false=>exact absurd (.inr d) g
    unfold Fh at e;simp[aP,aY]at e;have m:=l i;rw[m];refine⟨nofun,λ_=>⟨?_,λj a=>?_⟩⟩
    .show(p.data.extract _ _).size=n;rw[dA];omega
    .show(dt p (at_+j)).or _=gb (p.data.extract _ _) j;rw[ke,aa ad];unfold dt;rw[aa ad,(oT:at_+j-p.W=at_-s.W+j)];have:gb p.data (at_-s.W+j)≠none:=by
      unfold gb;rw[Ne,Array.getElem?_eq_none_iff];have:p.data.data.size=p.data.size:=rfl;omega
     cases d:gb p.data (at_-s.W+j)with
     |none=>exact absurd d this
     |some v=>rfl
def j1(e x:ai):Bool:= !f' x 4||(x.known&&decide (x.halt=0)&& !hV x.W (bh x.i.op) e.W (bh e.i.op))
def m4{e x}:j1 e x=true↔(aj x.i.op=4->x.known=true/\x.halt=0/\hV x.W (bh x.i.op) e.W (bh e.i.op)=false):=by
 unfold j1;by_cases a:aj x.i.op=4
 .rw[jt.2 a];simp[a,uK]
 rw[show f' x 4=false by cases h:f' x 4 with|false=>rfl|true=>exact absurd (jt.1 h) a];simp[a]
theorem u0{at_ n:Nat}:∀{L:List Std},(xK at_ n L).1=2->∀s∈L,hV s.W s.size at_ n=false
 |[],_,s,h=>by cases h
 | x::L,a,s,h=>by
  unfold xK at a;split at a
  .rename_i b;rcases eu.1 h with rfl|h
   .exact b
   .exact u0 a s h
  .split at a
   .cases a
   .cases a
def If{a}{agF}{i}{e}(f:a[i]?=some e)(h:(lL a agF i).1=2):(a.take i).all (j1 e)=true:=by
 unfold lL at h;rw[f]at h;simp only at h;split at h
 .cases h
 split at h
 .cases h
 rename_i j;rw[rC];intro x d;refine m4.2 λb=>?_;have c:Aw x=false:=by
  cases g:Aw x with
  |false=>rfl
  |true=>exact absurd (Mv.2 ⟨x,d,g⟩) j
 let⟨k,l⟩:=p_ c b;refine⟨k,l,?_⟩;apply u0 h (Fg x);unfold FW;rw[dz,List.mem_reverse,pG];exact .inl ⟨x,List.mem_filter.2 ⟨d,jt.2 b⟩,R⟩
def E_{e}{l:List ai}(h:l.all (j1 e)=true):l.any Aw=false:=by
 rw[List.any_eq_false];intro x b a;have:=m4.1 (rC.1 h x b);unfold Aw at a;rw[aP,jt]at a;let⟨c,d,_⟩:=this a.1;rw[c,d]at a;simp at a
theorem vx{prog:List Nat}:∀{T:St} {l:List ai} {p:Pt},p∈wl prog T l->∃x∈l,aj x.i.op=4/\p.W=x.W/\p.data.size=bh x.i.op
 |T,[],p,h=>by cases h
 | T,e::l,p,h=>by
  rw[qm,dz]at h;rcases h with h|h
  .split at h
   .rename_i a;rw[uJ]at h;subst h;exact⟨e,dg,jt.1 a,rfl,mP _ _⟩
   .cases h
  .let⟨x,b,h⟩:=vx h;exact⟨x,bY _ b,h⟩
def In{a b}{k n}(d:a.size=b.size)(e:k+n<=a.size)(h:∀j,j<n->gb a (k+j)=gb b (k+j)):Cv a k n=Cv b k n:=by
 unfold Cv;refine mz (by rw[dA,dA,d]) λj c=>?_;rw[dA]at c;rw[ke,ke, <-d,aa c,aa c];exact h j ad
def u1{prog:List Nat}{T:St}{l:List ai}{e:ai}(h:ig prog T l)(a:l.all (j1 e)=true)(k:kZ T.mem.size e.W (bh e.i.op)=true):Cv (bz prog T l).mem e.W (bh e.i.op)=Cv T.mem e.W (bh e.i.op):=by
 let⟨o,g⟩:=l5 k;refine In (kf l) (by rw[kf];exact g) λj n=>?_;have c:∀p∈wl prog T l,dt p (e.W+j)=none:=by
  intro p hp;let⟨x,m,i,d,f⟩:=vx hp;let⟨_,_,b⟩:=m4.1 (rC.1 a x m) i;unfold hV at b;simp[Bool.and_eq_false_iff,mA]at b;unfold dt;split
  .apply kc;rw[f];rename_i q;rw[d]at q⊢;omega
  rfl
 rw[qn h (E_ a),qe c];rfl
def F3{prog:List Nat}{T:St}{a:List ai}{agF:List Pt}{u:Nat->Option UInt8}(h:ig prog T a){i:Nat}{e:ai}(g:a[i]?=some e)(o:kZ T.mem.size e.W (bh e.i.op)=true)
  (p:∀i,i<T.mem.size->gb T.mem i=(fw agF i).or (u i)) (b:(lL a agF i).1=1):(lL a agF i).2=Cv (bz prog T (a.take i)).mem e.W (bh e.i.op):=by
 obtain⟨w,s⟩:=l5 o;obtain⟨t,r⟩:=Em.1 g;have f:ig prog T (a.take i):=by
  have:a=a.take i++a.drop i:=(j' _ _).symm;rw[this]at h;exact(m6.1 h).1
 unfold lL at b⊢;rw[g]at b⊢;simp only at b⊢;split at b
 .cases b
 rename_i l;split at b
 .cases b
 rename_i c;rw[dZ l,dZ c]
 have c:(a.take i).any Aw=false:=by cases n:(a.take i).any Aw with
  |false=>rfl
  |true=>exact absurd n c
 have m:j6 (FW (a.take i) agF) ((wl prog T (a.take i)).reverse++agF.reverse):=qo (qp (vk f c)) (qp (uz agF));obtain⟨s1,s2⟩:=(u_ (at_:=e.W) (n:=bh e.i.op) ad m).2 b;unfold Cv;refine mz (by rw[s1,dA,kf];omega) λj d=>?_;rw[s1]at d;rw[ke,aa (by rw[kf];omega), <-s2 j d,qn f c,p _ ad,om,m8,m8];have k:(fw (wl prog T (a.take i)) (e.W+j)).or (fw agF (e.W+j))≠none:=by
  rw[<-m8, <-m8 (l:=agF), <-om,s2 j d];unfold gb;rw[Ne,Array.getElem?_eq_none_iff];have:(xK e.W (bh e.i.op) (FW (a.take i) agF)).2.data.size=_:=s1;omega
 rw[<-Option.or_assoc]
 cases q:(fw (wl prog T (a.take i)) (e.W+j)).or (fw agF (e.W+j))with
 |none=>exact absurd q k
 |some v=>rfl
structure RI(prog:List Nat)(s:St)(l:List ai):Prop where
 ok:ig prog s l
 U:∀i e,l[i]?=some e->e.is=2->(l.take i).all (j1 e)=true
theorem qr{prog:List Nat}:∀{T:St} {l:List ai},(∀k e,l[k]?=some e->ea prog (bz prog T (l.take k)) e)->ig prog T l
 |T,[],_=>trivial
 |T,e::l,h=>⟨h 0 e R,qr λk x a=>h (k+1) x a⟩
theorem RI.take{prog}{s}{l}(h:RI prog s l)(n):RI prog s (l.take n):=by
 refine⟨qr λk e bb=>?_,λi e bb h2=>?_⟩
 all_goals
  rw[cU]at bb;split at bb
  .rename_i a;rw[List.take_take,kD ad]
   first|exact jd h.ok bb|exact h.U i e bb h2
  cases bb
def F6{e e' x a}(i:a.i=x.i)(j:aj x.i.op=4->x.known=true->x.halt=0->a.known=true/\a.halt=0/\a.W=x.W)(c:e'.i=e.i/\e'.W=e.W)(h:j1 e x=true):j1 e' a=true:=by
 refine m4.2 λb=>?_;rw[i]at b⊢;let⟨d,f,g⟩:=m4.1 h b;let⟨k,l,m⟩:=j b d f;exact⟨k,l,by rw[m,c.1,c.2];exact g⟩
structure gc(e e':ai):Prop where
 M:e'.M=e.M
 i:e'.i=e.i
 g:e'.K=e.K
 st:aj e.i.op=4->e.known=true->e.halt=0->e'.known=true/\e'.halt=0/\e'.W=e.W
theorem gc.refl(e):gc e e:=⟨R,R,R,λ_ a b=>⟨a,b,R⟩⟩
def qy{l a:List ai}(d:a.length=l.length)(h:∀(k:Nat) e e',l[k]?=some e->a[k]?=some e'->gc e e'):a.map (λe=>(e.M,e.K))=l.map (λe=>(e.M,e.K)):=by
 apply dD;intro k;rw[aX,aX]
 cases b:l[k]? with
 |none=>rw[bE (by rw[d];exact List.getElem?_eq_none_iff.1 b)]
 |some e=>
  let⟨f,_⟩:=Em.1 b;have c:=aA (l:=a) (i:=k) ad;rw[c];have:=h k e _ b c;simp[this.M,this.g]
theorem RI.Zw{prog}{s}{l c}(h:RI prog s l)(r:c.length=l.length)(f:∀(k:Nat) e e',l[k]?=some e->c[k]?=some e'->gc e e')
  (hk:∀(k:Nat) e e',l[k]?=some e->c[k]?=some e'->ea prog (bz prog s (l.take k)) e->ea prog (bz prog s (l.take k)) e')
  (q:∀(k:Nat) e e',l[k]?=some e->c[k]?=some e'->e'.is=2->(e.is=2/\e'.W=e.W)\/(c.take k).all (j1 e')=true):RI prog s c:=by
 have d:∀k e',c[k]?=some e'->∃e,l[k]?=some e:=λk e' a=>by
  let⟨hk,_⟩:=Em.1 a;exact⟨_,aA ad⟩
 have hp:∀k,(c.take k).map _=(l.take k).map _:=λk=>by
  have:=am (List.map Prod.fst) (qy r f);rw[List.map_map,List.map_map]at this;rw[eO,eO];exact am _ this
 refine⟨qr λk e' a=>?_,λk e' a p=>?_⟩
 .let⟨e,h1⟩:=d k e' a;rw[qk prog s _ _ (hp k)];exact hk k e e' h1 a (jd h.ok h1)
 let⟨e,h1⟩:=d k e' a;rcases q k e e' h1 a p with ⟨n,o⟩|b
 .have:=h.U k e h1 n;rw[rC]at this⊢;intro m i;let⟨j,bb⟩:=List.mem_iff_getElem?.1 i;rw[cU]at bb;split at bb
  .rename_i g;let⟨x,hx⟩:=d j m bb;have t:=f j x m hx bb;exact F6 t.i t.st ⟨(f k e e' h1 a).i,o⟩ (this x (List.mem_iff_getElem?.2 ⟨j,by rw[cU,aa g];exact hx⟩))
  cases bb
 exact b
theorem RI.map{prog}{s}{l}(h:RI prog s l)(f)(i:∀e∈l,gc e (f e))(g:∀k e,l[k]?=some e->ea prog (bz prog s (l.take k)) e->ea prog (bz prog s (l.take k)) (f e))(d:∀e∈l,(f e).is=2->e.is=2/\(f e).W=e.W):RI prog s (l.map f):=by
 have c:∀k e e',l[k]?=some e->(l.map f)[k]?=some e'->e'=f e:=λk e e' a b=>by
  rw[aX,a]at b;injection b with b;exact b.symm
 refine h.Zw (aH ..) (λk e e' a b=>?_) (λk e e' a b q=>?_) (λk e e' a b q=>?_)
 .rw[c k e e' a b];exact i e (aB a)
 .rw[c k e e' a b];exact g k e a q
 rw[c k e e' a b]at q⊢;exact .inl (d e (aB a) q)
theorem RI.set{prog}{s}{l}(h:RI prog s l){k}{e e'}(i:l[k]?=some e)(o:gc e e')(n:ea prog (bz prog s (l.take k)) e->ea prog (bz prog s (l.take k)) e')(m:e'.is=2->(e.is=2/\e'.W=e.W)\/(l.take k).all (j1 e')=true):RI prog s (l.set k e'):=by
 let⟨bb,_⟩:=Em.1 i;have f:∀j x d,l[j]?=some x->(l.set k e')[j]?=some d->(j=k/\x=e/\d=e')\/(j≠k/\d=x):=λj x d c a=>by
  by_cases g:j=k
  .subst g;rw[aZ bb]at a;rw[i]at c;injection c with c;injection a with a;exact .inl ⟨R,c.symm,a.symm⟩
  rw[kX (λq=>g q.symm),c]at a;injection a with a;exact .inr ⟨g,a.symm⟩
 refine h.Zw (cC ..) (λj x d c a=>?_) (λj x d c a q=>?_) (λj x d c a q=>?_)
 .rcases f j x d c a with ⟨rfl,rfl,rfl⟩|⟨_,rfl⟩
  .exact o
  exact gc.refl _
 .rcases f j x d c a with ⟨rfl,rfl,rfl⟩|⟨_,rfl⟩
  .exact n q
  exact q
 rcases f j x d c a with ⟨rfl,rfl,rfl⟩|⟨_,rfl⟩
 .rcases m q with b|b
  .exact .inl b
  exact .inr (by rw[List.take_set_of_le (aC _)];exact b)
 exact .inl ⟨q,rfl⟩
def vv(e)(a:aj e.i.op=4->e.is≠1):gc e (bn e):=by
 unfold bn;split
 .exact gc.refl _
 rename_i h;split<;>exact⟨R,R,R,λq=>absurd q (λq=>a q ad)⟩
def qh(e)(b):gc e (uF e b):=by
 unfold uF;split
 .exact gc.refl _
 exact⟨R,R,R,λ_ a b=>⟨a,b,R⟩⟩
def ln(e)(s):gc e (uM e s):=by
 unfold uM;split
 .exact gc.refl _
 exact⟨R,R,R,λ_ a b=>⟨a,b,R⟩⟩
def qi(e)(a b):gc e (rJ e a b):=by
 unfold rJ
 (repeat' split)<;>first|exact gc.refl _|exact⟨rfl,rfl,rfl,λq=>absurd q ad⟩
def lp(e)(n)(a):gc e (yC e n a):=by
 unfold yC;split
 .exact gc.refl _
 rename_i b;split<;>exact⟨R,R,R,λ_ q=>absurd (.inr (.inr q)) b⟩
theorem RI.go{prog}{s}{l}(h:RI prog s l):RI prog s (l.map bn):=by
 refine h.map bn (λe b=>?_) (λk e _ q=>(M7 q).1) (λe b q=>?_)
 .let⟨k,hk⟩:=List.mem_iff_getElem?.1 b;exact vv e (jd h.ok hk).Zn
 unfold bn at q⊢;split at q
 .rename_i a;rw[aa a];exact⟨q,R⟩
 split at q
 .cases q
 rename_i a _;have q:e.is=2:=q;omega
theorem RI.putAt{prog}{s}{l}(h:RI prog s l)(j:s.r 0=0)(i):RI prog s (gm s.r l i)/\(gm s.r l i).length=l.length/\(gm s.r l i).map (λe=>(e.M,e.K))=l.map (λe=>(e.M,e.K)):=by
 unfold gm;split
 .rename_i e d;split
  .split
   .rename_i b g;let⟨bb,_⟩:=Em.1 d;refine⟨h.set d (qh e b) (λq=>(H_ q (m0 h.ok j (Nat.le_of_lt bb) g)).1) (λq=>.inl ?_),cC ..,?_⟩
    .unfold uF at q⊢;split at q
     .rename_i c;rw[aa c];exact⟨q,R⟩
     cases q
    refine qy (cC ..) λk x m c a=>?_;by_cases f:i=k
    .subst f;rw[aZ bb]at a;rw[d]at c;injection c with c;injection a with a;subst c a;exact qh _ _
    rw[kX f,c]at a;injection a with a;subst a;exact gc.refl _
   exact⟨h,R,R⟩
  exact⟨h,R,R⟩
 exact⟨h,R,R⟩
theorem RI.Y0{prog:List Nat}{s:St}{l:List ai}(h:RI prog s l)(a:s.r 0=0):∀n,RI prog s (b3 s.r l n)/\(b3 s.r l n).length=l.length/\(b3 s.r l n).map (λe=>(e.M,e.K))=l.map (λe=>(e.M,e.K))
 |0=>⟨h,R,R⟩
 |n+1=>by
  let⟨h1,h2,h3⟩:=h.Y0 a n;let⟨bb,b4,cs⟩:=h1.putAt a n;exact⟨bb,b4.trans h2,cs.trans h3⟩
def ki:Nat->List (Nat×Nat)->Nat->Prop
 |a,[],z=>a=z
 |a,p::l,z=>p.1=a/\ki p.2 l z
theorem l1:∀{a:Nat} {l m:List (Nat×Nat)} {z:Nat},ki a (l++m) z↔∃y,ki a l y/\ki y m z
 |a,[],m,z=>⟨λh=>⟨a,R,h⟩,λ⟨y,b,c⟩=>by cases b;exact c⟩
 |a,p::l,m,z=>by
  show p.1=a/\ki p.2 (l++m) z↔_;rw[l1];exact⟨λ⟨h,y,b,c⟩=>⟨y,⟨h,b⟩,c⟩,λ⟨y,⟨h,b⟩,c⟩=>⟨h,y,b,c⟩⟩
def h9(l:List ai):List (Nat×Nat):=l.map λe=>(e.M,e.K)
def m5(l:List Ft):List (Nat×Nat):=l.map λf=>(f.M,f.K)
def qx(prog:List Nat)(f:Ft):Prop:=(fv prog f.M->aj (be (a8 prog f.M)).op≠5)->f.K=b_ f.M
structure Iv(prog:List Nat)(c:Co)(s:St):Prop where
 pr:c.prog=prog
 r:c.r=s.r
 z:s.r 0=0
 mem:Xr c=s.mem
 halt:c.halt=s.halt
 hl:c.halt≠0->c.Z=[]
 ri:RI prog s c.Z
 ch:c.halt=0->∃z,ki s.M (h9 c.Z++m5 c.L) z/\(c.stop=false->c.J=z)
 Y1:∀f∈c.L,qx prog f
theorem Iv.same{prog}{c d}{s}(h:Iv prog c s)(f:d.prog=c.prog)(g:d.r=c.r)(i:Xr d=Xr c)(a:d.halt=c.halt)(e:d.L=c.L)(j:d.J=c.J)(k:d.stop=c.stop)(b:h9 d.Z=h9 c.Z)(l:RI prog s d.Z):Iv prog d s:=by
 refine⟨f.trans h.pr,g.trans h.r,h.z,i.trans h.mem,a.trans h.halt,λq=>?_,l,λq=>?_,by rw[e];exact h.Y1⟩
 .have:=h.hl (by rwa [a]at q);rw[this]at b;exact List.map_eq_nil_iff.1 b
 rw[b,e,k,j];exact h.ch (by rwa [a]at q)
theorem Iv.fill{prog}{c}{s}(f:RI prog s c.Z)(j:Xr c=s.mem)(agY):RI prog s (c.Z.map (wO c agY))/\h9 (c.Z.map (wO c agY))=h9 c.Z:=by
 have d:∀e,gc e (wO c agY e):=λe=>by
  unfold wO;split
  .have:=ln {e with Z8:=true} (oL c e);exact⟨this.M,this.i,this.g,this.st⟩
  exact gc.refl _
 refine⟨f.map _ (λe _=>d e) (λk e h q=>?_) (λe _ q=>?_),?_⟩
 .unfold wO;split
  .rename_i b;refine(ql (e:={e with Z8:=true}) ⟨q.ins,q.ZC,q.told,q.wait,q.ZL,q.st,q.U,q.run,q.Zn,q.ahead,q.Y8,q.YV,q.gs⟩ λi g _=>?_).1;let⟨_,bb⟩:=q.ZL i (.inl g);rw[kf]at bb;show oL c e=_;unfold oL;rw[j,aa bb];exact(u1 ((f.take k).ok) (f.U k e h b.1) bb).symm
  exact q
 .unfold wO at q⊢;split at q
  .rename_i a;rw[aa a];unfold uM at q⊢;split at q
   .rename_i b;rw[aa b];exact⟨q,R⟩
   cases q
  rename_i a;rw[dZ a];exact⟨q,R⟩
 unfold h9;rw[List.map_map];exact iB λe _=>by show(_,_)=_;rw[(d e).M,(d e).g]
theorem Iv.Zu{prog}{c}{s}(h:Iv prog c s)(b:c.mc)(e:∀x∈c.U,x.ok):Iv prog (lM c) s:=by
 have d:(lM c).V=c.V:=by
  unfold lM ip oK
  (repeat' split)<;>rfl
 have a:=m_ (ou b e) d
 revert a
 unfold lM;split
 rename_i q x ok _;split
 .unfold ip;split
  .intro a;let⟨f1,f2⟩:=Iv.fill (c:={c with U:=q}) h.ri (a.trans h.mem) x.S;exact h.same R R a R R R R f2 f1
  split
  .exact λa=>h.same R R a R R R R R h.ri
  split
  .intro a;unfold oK at a⊢;exact h.same R R a R R R R R h.ri
  split
  .exact λa=>h.same R R a R R R R R h.ri
  exact λa=>h.same R R a R R R R R h.ri
 exact λa=>h.same R R a R R R R R h.ri
def NW(l:List ai):Prop:=∀e∈l,Nj e=false
theorem Iv.Zt{prog}{c}{s}(h:Iv prog c s):Iv prog (kK c) s/\NW (kK c).Z:=by
 unfold kK;split
 .rename_i d;exact⟨h,by rw[h.hl d];intro e b;cases b⟩
 rename_i d;have d:c.halt=0:=cw.1 d;let⟨g1,g2,c'⟩:=(h.ri.go).Y0 h.z c.Z.length;have B:b5 c=b3 s.r (c.Z.map bn) c.Z.length:=by unfold b5;rw[h.r]
 rw[<-B]at g1 g2 c';have r:h9 (b5 c)=h9 c.Z:=by
  unfold h9;rw[c',List.map_map];refine iB λe b=>?_;let⟨k,hk⟩:=List.mem_iff_getElem?.1 b;have:=vv e (jd h.ri.ok hk).Zn;show(_,_)=_;rw[this.M,this.g]
 split
 .rename_i i u;unfold yD at u;let⟨cs,b4,dr⟩:=List.findIdx?_eq_some_iff_getElem.1 u;have b:(b5 c)[i]?=some (b5 c)[i]:=aA cs;generalize A:(b5 c)[i]=e at b b4;rw[b];have n:DY (b5 c) i=(b5 c).take i++[{e with K:=e.next}]:=by unfold DY;rw[b]
  rw[n];have l:aj e.i.op=5/\e.known=true/\e.next≠e.K:=by
   unfold Nj at b4;simp[aP,aY]at b4;exact⟨b4.1.1,b4.1.2,b4.2⟩
  have m:=g1.take i;have a:=jd g1.ok b;have g:RI prog s ((b5 c).take i++[{e with K:=e.next}]):=by
   refine⟨m6.2 ⟨m.ok,⟨a.ins,a.ZC,a.told,a.wait,a.ZL,a.st,a.U,a.run,a.Zn,a.ahead,a.Y8,a.YV,λq=>?_⟩,tr⟩,λj x bb h2=>?_⟩
   .by_cases t:fv prog e.M
    .exact absurd l.1 (q t)
    have:=(a.ZC t).2;rw[this]at l;exact absurd l.1 dT
   by_cases c0:j<i
   .have o:j<((b5 c).take i).length:=by rw[aM];omega
    rw[cF o]at bb;rw[List.take_append_of_le_length ad];exact m.U j x bb h2
   have o:((b5 c).take i).length=i:=by rw[aM];omega
   rw[bM ad,o]at bb;rcases fb (j-i) 1 with q|q
   .rw[(oT:j-i=0)]at bb;injection bb with bb;subst bb;have D:=(a.U h2).1;exact absurd l.1 ad
   rw[bE (sU q)]at bb;cases bb
  refine⟨⟨h.pr,h.r,h.z,h.mem,h.halt,λq=>absurd d q,g,λ_=>?_,λf C=>by cases C⟩,?_⟩
  .let⟨fs,ds,_⟩:=h.ch d;let⟨y,hy,_⟩:=l1.1 ds;rw[<-r]at hy;have w:b5 c=(b5 c).take i++(e::(b5 c).drop (i+1)):=by
    rw[<-A, <-bF cs,j']
   rw[w]at hy;unfold h9 at hy;rw[dH]at hy;let⟨em,h1,h2⟩:=l1.1 hy;refine⟨e.next,?_,λ_=>rfl⟩;show ki s.M (h9 _++[]) _;rw[dY];unfold h9;rw[dH];exact l1.2 ⟨em,h1,h2.1,R⟩
  intro x hx;rcases dz.1 hx with hx|hx
  .let⟨j,bb⟩:=List.mem_iff_getElem?.1 hx;rw[cU]at bb;split at bb
   .rename_i v;let⟨e',c0⟩:=Em.1 bb;have:=dr j v;rw[c0]at this;exact Bool.eq_false_iff.2 this
   cases bb
  rw[uJ]at hx;subst hx;unfold Nj;simp
 rename_i p;unfold yD at p;rw[List.findIdx?_eq_none_iff]at p;exact⟨h.same R R R R R R R r g1,λe b=>p e b⟩
def J'(a)(f)(prog):(qB a f prog).K=f.K/\(qB a f prog).is≠2:=by
 unfold qB;(repeat' split)<;>first|exact⟨rfl,(dT:(3:Int)≠2)⟩|exact⟨rfl,(dT:(0:Int)≠2)⟩
theorem Iv.enter{prog}{c}{s}(h:Iv prog c s){f}{l}(b:c.L=f::l)(e:c.halt=0):Iv prog {c with Z:=c.Z++[qB c.next f c.prog],next:=wrap64 (c.next+1),L:=l} s:=by
 let⟨bb,b4⟩:=H' prog (bz prog s c.Z) c.next f (h.Y1 f (by rw[b];exact dg));let⟨g1,g2⟩:=J' c.next f prog;rw[h.pr];refine⟨R,h.r,h.z,h.mem,h.halt,λq=>absurd e q,⟨m6.2 ⟨h.ri.ok,bb,tr⟩,λj x a d=>?_⟩,λ_=>?_,λx i=>h.Y1 x (by rw[b];exact bY _ i)⟩
 .by_cases g:j<c.Z.length
  .rw[cF g]at a;rw[List.take_append_of_le_length ad];exact h.ri.U j x a d
  rw[bM ad]at a;rcases fb (j-c.Z.length) 1 with q|q
  .rw[(oT:j-c.Z.length=0)]at a;injection a with a;subst a;exact absurd d g2
  rw[bE (sU q)]at a;cases a
 let⟨c0,cs,hs⟩:=h.ch e;refine⟨c0,?_,hs⟩;rw[b]at cs;show ki s.M (h9 (c.Z++[_])++m5 l) c0;unfold h9;rw[dH,eD];show ki s.M (h9 c.Z++((qB c.next f prog).M,(qB c.next f prog).K)::m5 l) c0;rwa[b4,g1]
theorem Iv.YK{prog:List Nat}{s:St}:∀(n:Nat) {c:Co},Iv prog c s->c.halt=0->Iv prog (ez n c) s/\(ez n c).halt=0
 |0,c,h,hh=>⟨h,hh⟩
 | n+1,c,h,hh=>by
  unfold ez;split
  .exact⟨h,hh⟩
  .split
   .exact⟨h,hh⟩
   .rename_i f l a;exact Iv.YK n (h.enter a hh) hh
theorem Iv.enters{prog}{c}{s}(h:Iv prog c s):Iv prog (lP c) s:=by
 unfold lP;split
 .exact h
 rename_i a;exact(Iv.YK _ h (cw.1 a)).1
theorem Iv.J{prog}{c}{s}(h:Iv prog c s)(g:c.halt=0)(p:c.stop=false)(n)(st)(x)(r:st=false->x=n)(o:qx prog ⟨c.J,n⟩){d}(i:d.prog=c.prog)(j:d.r=c.r)(k:Xr d=Xr c)(a:d.halt=c.halt)(b:d.L=c.L++[⟨c.J,n⟩])(l:d.J=x)(m:d.stop=st)(e:d.Z=c.Z):Iv prog d s:=by
 refine⟨i.trans h.pr,j.trans h.r,h.z,k.trans h.mem,a.trans h.halt,λq=>absurd (a.trans g) q,by rw[e];exact h.ri,λ_=>?_,λf hf=>?_⟩
 .let⟨cs,b4,bb⟩:=h.ch g;refine⟨n,?_,λq=>by rw[l];exact r (by rw[<-m];exact q)⟩;rw[e,b];unfold m5;rw[dH, <-eD];exact l1.2 ⟨cs,b4,bb p,R⟩
 rw[b]at hf;rcases dz.1 hf with hf|hf
 .exact h.Y1 f hf
 rw[uJ]at hf;subst hf;exact o
def E'(c)(w):(dM c w).1.prog=c.prog/\(dM c w).1.r=c.r/\Xr (dM c w).1=Xr c/\(dM c w).1.halt=c.halt/\(dM c w).1.L=c.L/\(dM c w).1.J=c.J/\(dM c w).1.stop=c.stop/\(dM c w).1.Z=c.Z/\((dM c w).1.data=c.data/\(dM c w).1.U=c.U/\(dM c w).1.mem=c.mem)/\(dq w=0\/aj (be w).op≠5->(dM c w).2=b_ c.J):=by
 unfold dM;split
 .exact⟨R,R,R,R,R,R,R,R,c9,λ_=>rfl⟩
 rename_i a;split<;>exact⟨R,R,R,R,R,R,R,R,c9,λq=>absurd q a⟩
theorem Iv.YJ{prog:List Nat}{s:St}:∀(n:Nat) {c:Co},Iv prog c s->c.mc->c.halt=0->Iv prog (ed n c) s
 |0,c,h,_,_=>h
 | n + 1,c,h,c',hh=>by
  unfold ed;split
  .exact h
  .rename_i g
   have b:c.stop=false:=by cases q:c.stop with
    |false=>rfl
    |true=>exact absurd (.inl q) g
   have hp:=h.pr;split
   .rename_i a;exact h.J hh b (b_ c.J) true c.J nofun (λ_=>rfl) R R R R R R R R
   .rename_i a;split
    .split
     .exact h.same R R (m_ (na c' dT _ _) R) R R R R R h.ri
     .exact h
    .let⟨dr,ds,em,b4,e',fs,fz,gf,⟨ha,cs,c0⟩,bb⟩:=E' {c with u:=tO c.u (ao c.J)} (a8 c.prog c.J);generalize j:dM {c with u:=tO c.u (ao c.J)} (a8 c.prog c.J)=B at *;let⟨d,nx⟩:=B;simp only at dr ds em b4 e' fs fz gf ha cs c0 bb⊢;rw[hp]at bb a;have e:qx prog ⟨c.J,nx⟩:=λq=>bb (by
      by_cases f:dq (a8 prog c.J)=0
      .exact .inl f
      .refine .inr (q ⟨?_,f⟩)
       cases i:(es prog c.J).isSome with
       |true=>rfl
       |false=>exact absurd i a)
     refine Iv.YJ n (h.J hh b nx false nx (λ_=>rfl) e (d:=LU d nx) dr ds em b4 (by show d.L++[⟨d.J,nx⟩]=_;rw[e',fs]) R (by show d.stop=false;rw[fz];exact b) gf) ?_ (b4.trans hh);exact fc c' ha cs c0
theorem Iv.Zo{prog}{c}{s}(h:Iv prog c s)(a:c.mc):Iv prog (eN c) s:=by
 unfold eN;split
 .exact h
 rename_i b;exact h.YJ _ a (cw.1 b)
theorem Iv.Zj{prog}{c}{s}(h:Iv prog c s)(a:c.mc):Iv prog (tY c) s:=by
 let⟨_,hA,_⟩:=v1 a;have b:(tY c).prog=c.prog/\(tY c).r=c.r/\(tY c).halt=c.halt/\(tY c).L=c.L/\(tY c).J=c.J/\(tY c).stop=c.stop/\(tY c).Z=c.Z:=by
  unfold tY ec pE f_ bg jE
  (repeat' split)<;>exact⟨R,R,R,R,R,R,R⟩
 let⟨s1,s2,s3,eC,e6,e7,eL⟩:=b;exact h.same s1 s2 hA s3 eC e6 e7 (by rw[eL]) (by rw[eL];exact h.ri)
def lx(prog:List Nat):St->List Sp->St->Prop
 |s,[],t=>t=s
 |s,x::l,t=>s.halt=0/\x=(gE prog s).2/\lx prog (gE prog s).1 l t
def F7{m}{a}{b}(h:a+b.size<=m.size):BE m ⟨a,b⟩=DD m a b:=by
 have c:(BE m ⟨a,b⟩).size=m.size:=iY m [⟨a,b⟩];refine mz (c.trans (qg m a b h).symm) λi d=>?_;rw[vy m ⟨a,b⟩ i ad,vm m a b h]
def HB{e}(h:(cA e).halt=0):e.halt=0/\((cA e).store=true->aj e.i.op=4)/\(cA e).next=(if aj e.i.op=5 then e.next else b_ e.M)/\(aj e.i.op=3->(cA e).W=e.W):=by
 unfold cA at h⊢;split at h
 .rename_i a;exact absurd h a
 rename_i a;rw[dZ a];refine⟨cw.1 a,?_,?_,?_⟩
 ·(repeat' split)<;>first|(intro _;assumption)|(intro q;cases q)
 ·(repeat' split)<;>first|rfl|omega
 intro b;rw[dZ ad,aa b]
theorem Iv.YR{prog}{c}{s}(h:Iv prog c s)(M:NW c.Z)(H:c.mc){e}{l}(D:c.Z=e::l)(G:e.ok)(E:e.is=3)(w:c.halt=0):
  s.halt=0/\cA e=(gE prog s).2/\((cA e).halt≠0->Iv prog (tM c (cA e)) (gE prog s).1)/\((cA e).halt=0->Iv prog (io c e (cA e) l) (gE prog s).1/\(io c e (cA e) l).mc):=by
 have n:s.halt=0:=by rw[<-h.halt];exact w
 let⟨e',bb,fz⟩:=h.ch w;rw[D]at bb;have I:e.M=s.M:=bb.1;have v:=h.ri;rw[D]at v;have B:ea prog s e:=v.ok.1;have J:(⟨e.M,s.r,s.mem,0⟩:St)=s:=by rw[I];let⟨a,b,c,d⟩:=s;simp only at n;subst n;rfl
 have A:bx prog s e=gE prog s:=by unfold bx;rw[J]
 have j:cA e=(gE prog s).2:=by rw[<-A];exact B.told (.inr E)
 have r:=ii prog n;refine⟨n,j,λg=>?_,λg=>?_⟩
 .let⟨dr,_,_⟩:=r.halt (by rw[<-j];exact g);rw[dr, <-j];exact⟨h.pr,h.r,h.z,h.mem,R,λ_=>rfl,⟨tr,λi x g=>by cases g⟩,λq=>absurd q g,λf L=>by cases L⟩
 let⟨t1,t2,t3,t4⟩:=HB g;let⟨ds,em⟩:=r.run (by rw[<-j];exact g);have y:e.K=(gE prog s).1.M:=by
  rw[em, <-j,t3];split
  .rename_i hk;have:=M e (by rw[D];exact dg);unfold Nj at this;rw[B.YV hk E t1,jP hk]at this;simp only[kL,mA]at this;exact(cw.1 this).symm
  rename_i hk;exact B.gs λ_=>hk
 have N:(Xr c).size=s.mem.size:=by rw[h.mem]
 have t:(fZ c (cA e)).mc:=fc H R R R;have m:(vG (fZ c (cA e)) e (cA e)).mc/\Xr (vG (fZ c (cA e)) e (cA e))=Xr (fZ c (cA e)):=by
  unfold vG;split
  .rename_i hk;have F:=q3 t (agY:=(cA e).W) (by rw[t4 hk];exact G.W);exact⟨F.mc,m_ F R⟩
  exact⟨t,R⟩
 have C:Xr (fZ c (cA e))=(gE prog s).1.mem:=by
  rw[r.mem, <-j];split
  .rename_i o;let⟨_,fs,b4⟩:=r.st (by rw[<-j];exact o);rw[<-j]at fs b4;let⟨k,hk⟩:∃k:Nat,(cA e).size=(k:Int):=⟨_,(lU ad).symm⟩;have u:iJ (cA e)=some ⟨(cA e).W,oF (cA e).value (cA e).size.toNat⟩:=by
    unfold iJ;rw[dZ (by rw[o,g];simp;omega)]
   show jz (match iJ (cA e)with|some p=>c.V++[p]|none=>c.V) c.data c.U c.mem=_;rw[u];show rP (Ct c.data c.U c.mem) (c.V++[_])=_;unfold rP;rw[List.foldl_append];show BE (Xr c) _=_;rw[h.mem];apply F7;rw[hk]at b4⊢;rw[mP];exact(l5 b4).2
  rename_i o;have u:iJ (cA e)=none:=by
   unfold iJ;rw[aa (.inl (by cases q:(cA e).store with|false=>rfl|true=>exact absurd q o))]
  show jz (match iJ (cA e)with|some p=>c.V++[p]|none=>c.V) c.data c.U c.mem=_;rw[u];exact h.mem
 have f1:(vG (fZ c (cA e)) e (cA e)).prog=c.prog/\(vG (fZ c (cA e)) e (cA e)).halt=c.halt/\(vG (fZ c (cA e)) e (cA e)).L=c.L/\(vG (fZ c (cA e)) e (cA e)).J=c.J/\(vG (fZ c (cA e)) e (cA e)).stop=c.stop:=by
  unfold vG oK;(repeat' split)<;>exact⟨R,R,R,R,R⟩
 let⟨g1,g2,cs,c0,c'⟩:=f1;refine⟨⟨g1.trans h.pr,?_,?_,m.2.trans C,?_,λq=>?_,?_,λ_=>?_,?_⟩,fc m.1 R R R⟩
 .show lY c.r (cA e)=_;rw[r.r,h.r,j]
 .rw[r.r];unfold lY;split
  .show(if 0=_ then _ else _)=_;rw[dZ ad];exact h.z
  exact h.z
 .show(vG _ _ _).halt=_;rw[g2,w,ds]
 .have q:(vG (fZ c (cA e)) e (cA e)).halt≠0:=q;rw[g2]at q;exact absurd w q
 .show RI prog _ l;refine⟨by rw[<-A];exact v.ok.2,λi x g K=>?_⟩;have:=v.U (i+1) x g K;rw[oP,List.all_cons,aP]at this;exact this.2
 .refine⟨e',?_,?_⟩
  .show ki _ (h9 l++m5 (vG _ _ _).L) e';rw[cs, <-y];exact bb.2
  show(vG _ _ _).stop=false->(vG _ _ _).J=e';rwa[c',c0]
 show ∀f∈(vG _ _ _).L,_;rw[cs];exact h.Y1
theorem Iv.Y6{prog:List Nat}:∀(n:Nat) {c:Co} {s:St},Iv prog c s->NW c.Z->c.mc->(∀e∈c.Z,e.ok)->∃l bb,(c5 n c).N=c.N++l/\l.length<=n/\lx prog s l bb/\Iv prog (c5 n c) bb
 |0,c,s,h,_,_,_=>⟨[],s,(dY _).symm,aC _,R,h⟩
 | n + 1,c,s,h,hw,b4,ho=>by
  unfold c5;have b:∃l bb,c.N=c.N++l/\l.length<=n+1/\lx prog s l bb/\Iv prog c bb:=⟨[],s,(dY _).symm,aE _,R,h⟩;split
  .exact b
  .rename_i g;have g:c.halt=0:=cw.1 g;split
   .exact b
   .rename_i e l d;split
    .exact b
    .rename_i f;have f:e.is=3:=cw.1 f;let⟨i1,i2,cs,c0⟩:=h.YR hw b4 d (ho e (by rw[d];exact dg)) f g;split
     .rename_i a;exact⟨[cA e],_,R,by simp,⟨i1,i2,R⟩,cs a⟩
     .rename_i a;have a:(cA e).halt=0:=cw.1 a;split
      .exact b
      .let⟨c',dr⟩:=c0 a;let⟨m,bb,ds,em,e',fs⟩:=Iv.Y6 n c' (λx a=>hw x (by rw[d];exact bY _ a)) dr (λx a=>ho x (by rw[d];exact bY _ a));refine⟨cA e::m,bb,?_,sU em,⟨i1,i2,e'⟩,fs⟩;rw[ds];have:(io c e (cA e) l).N=c.N++[cA e]:=by
        show(vG _ _ _).N=_;unfold vG oK;(repeat' split)<;>rfl
       rw[this,eD];rfl
def HF{a}{j}{e e'}(c:a[j]?=some e)(f:e'.i=e.i)(b)(k):LS (a.set j e') b k=LS a b k:=by
 let⟨g,_⟩:=Em.1 c;unfold LS;by_cases d:j=k
 .subst d;rw[aZ g,c];simp[f]
 rw[kX d]
theorem u'{a:List ai}{j:Nat}{e e':ai}(c:a[j]?=some e)(d:e'.i=e.i)(b:Int):∀n,fe (a.set j e') b n=fe a b n
 |0=>rfl
 |n+1=>by unfold fe;rw[HF c d,u' c d b n]
def Ix{b}{j}{e e'}(f:b[j]?=some e)(l:e'.i=e.i)(n:e.is=0){r}{i}{c}(a:(lK b r i c).isSome=true):lK (b.set j e') r i c=lK b r i c:=by
 unfold lK cx at a⊢;rw[cC,u' f l];split
 .rfl
 split
 .rfl
 rename_i g h;rw[dZ g,dZ h]at a;split
 .rfl
 rename_i k m;rw[m]at a;simp only at a;by_cases d:j=k
 .subst d;rw[f]at a;simp only at a;rw[dZ ad]at a;cases a
 rw[kX d]
def Rd(a:List ai)(r:Nat->Nat)(i:Nat):Prop:=∀e,a[i]?=some e->e.is=0/\(aj e.i.op=3->e.known=true\/(lK a r i e.i.y).isSome=true)/\(aj e.i.op=4->(lK a r i e.i.y).isSome=true)/\(aj e.i.op≠3->aj e.i.op≠4->(lK a r i e.i.y).isSome=true/\(lK a r i e.i.A).isSome=true)
def qv{a}{j}{e e'}(t:a[j]?=some e)(u:e'.i=e.i)(s:e.is=0){r}{i}(f:j≠i)(h:Rd a r i):Rd (a.set j e') r i:=by
 intro x g;rw[kX f]at g;let⟨n,o,p,d⟩:=h x g;have c:∀b,(lK a r i b).isSome=true->(lK _ r i b).isSome=true:=λb q=>by rw[Ix t u s q];exact q
 exact⟨n,λk=>(o k).imp id (c _),λk=>c _ (p k),λl m=>⟨c _ (d l m).1,c _ (d l m).2⟩⟩
def l0{c}{i}(h:fl c i=true):Rd c.Z c.r i:=by
 intro e a;unfold fl at h;rw[a]at h;simp only at h;split at h
 .cases h
 rename_i b;refine⟨cw.1 b,λk=>?_,λk=>?_,λd f=>?_⟩
 .rw[aa k,dE,aP]at h;exact h.imp id (·.1)
 .rw[dZ ad,aa k,aP,aP]at h;exact h.1.2
 rw[dZ d,dZ f,aP]at h;unfold mI at h;rw[a]at h;simp[aP]at h;exact h.1
theorem Iv.put{prog}{c}{s}(h:Iv prog c s){j}{e e'}(f:c.Z[j]?=some e)(g:gc e e')(d:ea prog (bz prog s (c.Z.take j)) e->ea prog (bz prog s (c.Z.take j)) e')(i:e'.is=2->(e.is=2/\e'.W=e.W)\/(c.Z.take j).all (j1 e')=true):Iv prog (fh c j e') s:=by
 refine h.same R R R R R R R ?_ (h.ri.set f g d i);let⟨bb,_⟩:=Em.1 f;refine qy (cC ..) λk x l b a=>?_;by_cases d:j=k
 .subst d;rw[show(fh c j e').Z=c.Z.set j e' from R,aZ bb]at a;rw[f]at b;injection b with b;injection a with a;subst b a;exact g
 rw[show(fh c j e').Z=c.Z.set j e' from R,kX d,b]at a;injection a with a;subst a;exact gc.refl _
theorem Iv.load{prog}{c}{s}(h:Iv prog c s)(d:c.mc){j}{e}(a:c.Z[j]?=some e)(u:aj e.i.op=3)(w:e.known=true->e.is=0):
  Iv prog (oE c j) s/\(oE c j).mc/\(oE c j).halt=c.halt/\(oE c j).r=c.r/\∃e',(oE c j).Z=c.Z.set j e'/\e'.i=e.i:=by
 have k:Iv prog c s/\c.mc/\c.halt=c.halt/\c.r=c.r/\∃e',c.Z=c.Z.set j e'/\e'.i=e.i:=by
  refine⟨h,d,R,R,e,?_,R⟩;let⟨dr,b4⟩:=Em.1 a;rw[<-b4,List.set_getElem_self]
 have p:=jd h.ri.ok a;unfold oE;rw[a];simp only;split
 .exact k
 rename_i b;have b:e.known=true:=by cases q:e.known with|true=>rfl|false=>exact absurd q b
 let⟨_,bb⟩:=p.ZL b (.inl u);rw[kf]at bb;split
 .rename_i g;have o:=F3 h.ri.ok a bb (λi t=>by rw[<-h.mem];exact qu _ _ _ _ (by rw[<-h.mem,show(Xr c).size=c.mem.size from MU ..]at t;exact t)) g;refine⟨h.put a (ln e _) (λq=>(ql q λ_ _ _=>o).1) (λq=>?_),fc d R R R,R,R,_,R,(ln e _).i⟩;unfold uM at q⊢;split at q
  .rename_i m;rw[aa m];exact .inl ⟨q,R⟩
  cases q
 split
 .exact k
 rename_i g;have g:(lL c.Z c.V j).1=2:=cw.1 g;have f:=If a g;split
 .have o:e.known=true->aj e.i.op=3->e.is=0\/e.is=2->oL c e=Cv (bz prog s (c.Z.take j)).mem e.W (bh e.i.op):=λ_ _ _=>by
   unfold oL;rw[h.mem,aa bb];exact(u1 ((h.ri.take j).ok) f bb).symm
  refine⟨h.put a (ln e _) (λq=>(ql q o).1) (λq=>?_),fc d R R R,R,R,_,R,(ln e _).i⟩;unfold uM at q⊢;split at q
  .rename_i m;rw[aa m];exact .inl ⟨q,R⟩
  cases q
 have y:e.is=0:=w b;let⟨cs,c0,c'⟩:=p.wait (.inl y);have l:ea prog (bz prog s (c.Z.take j)) e->ea prog (bz prog s (c.Z.take j)) {e with is:=2}:=λq=>
  ⟨q.ins,λn=>absurd (q.ZC n).1 ad,(λn=>by rcases n with n|n<;>cases n),λ_=>⟨cs,c0,c'⟩,q.ZL,.inr (.inr (.inl R)),λ_=>⟨u,b⟩,nofun,nofun,nofun,λn=>by have n:aj e.i.op=5:=n;omega,λn=>by have n:aj e.i.op=5:=n;omega,q.gs⟩
 have v:gc e {e with is:=2}:=⟨R,R,R,λq=>by omega⟩;split
 .exact⟨h.put a v l (λ_=>.inr f),fc d R R R,R,R,_,R,R⟩
 split
 .have r:=na d (k:=1) dT (ao e.W) oZ;have x:Iv prog (jE c 1 (ao e.W) oZ) s:=h.same R R (m_ r R) R R R R R h.ri;exact⟨x.put a v l (λ_=>.inr f),fc r.mc R R R,R,R,_,R,R⟩
 exact k
theorem Iv.start{prog}{c}{s}(h:Iv prog c s)(f:c.mc){j}(B:Rd c.Z c.r j):
  Iv prog (iS c j) s/\(iS c j).mc/\(iS c j).halt=c.halt/\(iS c j).r=c.r/\(c.Z[j]?=none/\(iS c j).Z=c.Z\/∃e e',c.Z[j]?=some e/\(iS c j).Z=c.Z.set j e'/\e'.i=e.i/\e.is=0):=by
 unfold iS;split
 .rename_i C;exact⟨h,f,R,R,.inl ⟨C,R⟩⟩
 rename_i e d;let⟨bb,ha,r4,hc⟩:=B e d;let⟨cs,_⟩:=Em.1 d;have r:∀l:List ai,(c.mem.size:Int)=(bz prog s l).mem.size:=λl=>by
  rw[kf, <-h.mem,show(Xr c).size=c.mem.size from MU ..]
 have k:∀g,(lK c.Z c.r j g).isSome=true->(lK c.Z c.r j g).getD 0=(bz prog s (c.Z.take j)).r g.toNat:=λg q=>by
  let⟨v,b4⟩:=FH.1 q;rw[b4];rw[h.r]at b4;exact m0 h.ri.ok h.z (Nat.le_of_lt cs) b4
 have u:mI c.Z c.r j=((lK c.Z c.r j e.i.y).getD 0,(lK c.Z c.r j e.i.A).getD 0,(lK c.Z c.r j e.i.y).isSome&&(lK c.Z c.r j e.i.A).isSome):=by unfold mI;rw[d]
 have D:∀(e':ai) (P:Prop),e'.is≠2->e'.is=2->P:=λe' P a b=>absurd b a;have o:∀n a,(yC e n a).is≠2:=λn a=>by
  unfold yC
  (repeat' split)<;>first|(show e.is≠2;omega)|(show(3:Int)≠2;decide)
 rw[u];simp only;split
 .rename_i m;exact⟨h.put d (lp e _ _) (λq=>(vj q (r _) (λ_ _=>k _ (r4 m))).1) (λq=>absurd q (o _ _)),fc f R R R,R,R,.inr ⟨e,_,d,R,(lp e _ _).i,bb⟩⟩
 split
 .rename_i p m;have t:(fh c j (yC e c.mem.size ((lK c.Z c.r j e.i.y).getD 0))).Z[j]?=some (yC e c.mem.size ((lK c.Z c.r j e.i.y).getD 0)):=aZ cs;have x:(yC e c.mem.size ((lK c.Z c.r j e.i.y).getD 0)).known=true->(yC e c.mem.size ((lK c.Z c.r j e.i.y).getD 0)).is=0:=λq=>by
   unfold yC at q⊢;split at q
   .rename_i i;rwa[aa i]
   rename_i i;rw[dZ i];split at q
   .rename_i A;rwa[aa A]
   exact absurd (.inr (.inr q)) i
  let⟨c0,c',dr,ds,e',em,fs⟩:=(h.put d (lp e _ _) (λq=>(vj q (r _) (λ_ y=>k _ ((ha m).resolve_left (by rw[y];decide)))).1) (λq=>absurd q (o _ _))).load (fc f R R R) t (by rw[(lp e _ _).i];exact m) x;refine⟨c0,c',dr,ds,.inr ⟨e,e',d,?_,fs.trans (lp e _ _).i,bb⟩⟩;rw[em];show(c.Z.set j _).set j e'=_;rw[lO]
 rename_i p w;let⟨fz,gf⟩:=hc w p;have z:∀a b,(rJ e a b).is≠2:=λa b=>by
  unfold rJ
  (repeat' split)<;>first|(show e.is≠2;omega)|(show(1:Int)≠2;decide)
 exact⟨h.put d (qi e _ _) (λq=>(H9 q (λ_=>k _ fz) (λ_=>k _ gf)).1) (λq=>absurd q (z _ _)),fc f R R R,R,R,.inr ⟨e,_,d,R,(qi e _ _).i,bb⟩⟩
theorem Iv.ZN{prog:List Nat}{s:St}:∀(p:List Nat) {c:Co},Iv prog c s->c.mc->p.Nodup->(∀i∈p,Rd c.Z c.r i)->Iv prog (p.foldl iS c) s
 |[],c,h,_,_,_=>h
 | j::p,c,h,b4,hn,hR=>by
  let⟨cs,c0,fz,c',dr⟩:=h.start b4 (hR j dg);rw[List.nodup_cons]at hn;refine Iv.ZN p cs c0 hn.2 λi b=>?_;have a:=hR i (bY _ b);rw[c'];rcases dr with ⟨_,fs⟩|⟨e,e',em,fs,bb,ds⟩
  .rw[fs];exact a
  .rw[fs];exact qv em bb ds (λz=>hn.1 (by rw[z];exact b)) a
theorem oh{agN:Int}{busy:Bool}{kinds:List Int}{can:List Bool}:∀n,(∀i∈(kA agN busy kinds can n).out,i<n/\can.getD i false=true)/\(kA agN busy kinds can n).out.Nodup
 |0=>⟨nofun,List.nodup_nil⟩
 | n +1=>by
  let⟨e,d⟩:=oh (agN:=agN) (busy:=busy) (kinds:=kinds) (can:=can) n;have c:∀i∈(kA agN busy kinds can n).out,i<n+1/\can.getD i false=true:=λi hi=>⟨oH ((e i hi).1),(e i hi).2⟩;unfold kA IW;split
  .exact⟨c,d⟩
  split
  .exact⟨c,d⟩
  split
  .exact⟨c,d⟩
  .rename_i h _;refine⟨λi hi=>?_,?_⟩
   .rcases dz.1 hi with hi|hi
    .exact c i hi
    .rw[uJ]at hi;subst hi;exact⟨oT,by cases q:can.getD i false with|true=>rfl|false=>exact absurd q h⟩
   .show((kA agN busy kinds can n).out++[n]).Nodup;rw[List.nodup_append];refine⟨d,by simp,λa g b f=>?_⟩;rw[uJ]at f;subst f;have:=(e a g).1;omega
theorem Iv.ZF{prog}{c}{s}(h:Iv prog c s)(a:c.mc):Iv prog (gY c) s:=by
 unfold gY;split
 .exact h
 obtain⟨b,d⟩:=oh (Kv c).length;refine h.ZN _ a d λi e=>l0 ?_;let⟨bb,b4⟩:=b i e;unfold Kv at bb b4;rw[aH,fV]at bb;rwa[aR,aX,eZ bb]at b4
theorem Iv.step{prog}{c}{s}{n}(h:Iv prog c s)(p:c.E n)(m:n+20<=890000)(i:c.mc):∃l bb,(g6 c).N=c.N++l/\l.length<=c.Q.o.toNat/\lx prog s l bb/\Iv prog (g6 c) bb:=by
 have a:=Ql p m;have r:Iv prog (s0 c) s:=h.same R R R R R R R R h.ri;have e:(s0 c).mc:=fc i R R R;have j:(s1 c).mc:=(ou e a.k0.ok.Z_).mc;have u:Iv prog (s1 c) s:=r.Zu e a.k0.ok.Z_;have f:(s2 c).mc:=by
  show(kK (s1 c)).mc;unfold kK
  repeat' split
  all_goals exact fc j R R R
 let⟨i2,dr⟩:Iv prog _ s/\NW (s2 c).Z:=u.Zt;have b:(s3 c).mc:=ov _ _ a.k2.ok.Z6 f;let⟨l,bb,b4,cs,c0,c'⟩:=i2.Y6 (s2 c).Q.o.toNat dr f a.k2.ok.Z6;have g:(eC c).mc:=by
  show(gY _).mc;unfold gY;split
  .exact b
  exact qf _ _ b
 have d:(e6 c).mc:=by
  show(lP _).mc;unfold lP;split
  .exact g
  exact qz _ _ g
 have v:Iv prog _ bb:=(Iv.ZF c' b).enters;have k:(e7 c).mc:=by
  show(eN _).mc;unfold eN;split
  .exact d
  exact q4 _ _ d
 have w:Iv prog _ bb:=(v.Zo d).Zj k;refine⟨l,bb,?_,aL cs ?_,c0,w⟩
 .have x:(s1 c).N=c.N:=(rG _).2.2.1;have y:(s2 c).N=(s1 c).N:=(mC _).2;have z:(s3 c).N=(s2 c).N++l:=b4;have r4:(eC c).N=(s3 c).N:=by have:=nO a.k3 ad;simp_all only[eC]
  have A:(e6 c).N=(eC c).N:=(Ai a.k4).2.2;have B:(e7 c).N=(e6 c).N:=(uX a.k5 ad).2.2.1;have C:(g6 c).N=(e7 c).N:=(wX a.k6 ad).2.2.1;rw[C,B,A,r4,z,y,x]
 have o:(s2 c).Q=c.Q:=by
  show(kK _).Q=_;have q:(lM (s0 c)).Q=c.Q:=by
   unfold lM ip oK;(repeat' split)<;>rfl
  unfold kK;(repeat' split)<;>exact q
 rw[o];exact aC _
theorem Iv.new(cf)(prog)(m):Iv (fX cf prog m).prog (fX cf prog m) ⟨0,λ_=>0,jB m,0⟩:=by
 refine⟨R,R,R,?_,R,λ_=>rfl,⟨tr,λi e a=>by cases a⟩,λ_=>⟨0,R,λ_=>rfl⟩,λf b=>by cases b⟩;have c:LV (fX cf prog m).data=[]:=by
  show((List.replicate _ _).flatten.map _)=[];rw[List.flatten_replicate_nil];rfl
 show rP (rP (jZ [] (jB m)) (LV (fX cf prog m).data)) []=jB m;rw[c];rfl
theorem Iv.run{X}{s}(a:∀k,k<=3000->ib X k)(h:Iv X.prog X s)(b:X.mc):∀k,k<3000->∀t,Iv X.prog (uN X k) t->∃l u,(uN X (k+1)).N=(uN X k).N++l/\l.length<=(uN X k).Q.o.toNat/\lx X.prog t l u/\Iv X.prog (uN X (k+1)) u:=by
 intro k d t c;have g:=a k ad;rw[show uN X (k+1)=g6 (uN X k)from aa g.rt];exact c.step (EL g.ok ad g.rt) ad (oj a b k ad)
end Go.Proofs.YtiaekocjeinkjaaGreatDoor
