/- Lemmas. -/
import Derived.Test.YtlpkggpdjobpmaaGreatDoorS1
import Derived.Test.YtlpkggpdjobpmaaGreatDoorS9
import Derived.Test.YtlpkggpdjobpmaaGreatDoorS21
import Derived.Test.YtlpkggpdjobpmaaGreatDoorS22
import Derived.Test.YtlpkggpdjobpmaaGreatDoorS30
import Derived.Test.YtlpkggpdjobpmaaGreatDoorS31
import Derived.Test.YtlpkggpdjobpmaaGreatDoorS36
set_option linter.all false
namespace Go.Proofs.YtlpkggpdjobpmaaGreatDoor
open Go.RowKit
def gb(m:ByteArray)(i:Nat):Option UInt8:=m.data[i]?
def aoG(p:Pt)(i:Nat):Option UInt8:=if p.agZ<=i then gb p.data (i-p.agZ)else none
def apF(l:List Pt)(i:Nat):Option UInt8:=l.foldl (λo p=>(aoG p i).or o) none
def aoO{m:ByteArray}{i:Nat}(h:m.size<=i):gb m i=none:=iE h
def aiE{a b}(hs:a.size=b.size)(h:∀i,i<a.size->gb a i=gb b i):a=b:=by
 refine ByteArray.ext (Array.ext_getElem? λi=>?_);by_cases hi:i<a.size
 ·exact h i hi
 exact(aoO omT).trans (aoO omT).symm
def ajD(a b)(i):gb (a++b) i=if i<a.size then gb a i else gb b (i-a.size):=by
 unfold gb;rw[ByteArray.data_append,Array.getElem?_append];rfl
def aoP(m)(a b i):gb (m.extract a b) i=if i<min b m.size-a then gb m (a+i)else none:=by
 unfold gb;rw[ByteArray.data_extract,mQ];rfl
def al3(m)(p)(i)(hi:i<m.size):gb (BE m p) i=(aoG p i).or (gb m i):=by
 unfold BE aoG;by_cases h:p.agZ<m.size
 ·rw[af1 h,ajD,ajD,aoP,aoP,aoP];simp only[kH,dA];by_cases h1:p.agZ<=i
  ·rw[af1 h1];by_cases h2:i-p.agZ<p.data.size
   ·rw[af1 omT,dZ omT,af1 omT];rw[(oT:0+(i-(min p.agZ m.size-0))=i-p.agZ)];have:∃x,gb p.data _=some x:=⟨p.data.data[i-p.agZ],aT h2⟩;obtain⟨x,hx⟩:=this;rw[hx];rfl
   rw[dZ omT,af1 omT];rw[(oT:p.agZ+min p.data.size _+(i-(min p.agZ m.size-0+(min _ p.data.size-0)))=i)];rw[aoO (i:=i-p.agZ) omT];rfl
  rw[dZ h1,af1 omT,af1 omT,af1 omT,(oT:0+i=i)];rfl
 rw[dZ h,dZ omT];rfl
def ajE(l)(i):∀o,l.foldl (λo p=>(aoG p i).or o) o=(apF l i).or o:=by
 induction l with
 |nil=>intro o;rfl
 |cons p l ih=>
  intro o;show l.foldl _ ((aoG p i).or o)=(l.foldl _ ((aoG p i).or none)).or o;rw[ih,ih _,Option.or_assoc];cases aoG p i<;>rfl
def aoC(p)(l)(i):apF (p::l) i=(apF l i).or (aoG p i):=by
 show l.foldl _ ((aoG p i).or none)=_;rw[ajE];cases aoG p i<;>rfl
def ah2(a b)(i):apF (a++b) i=(apF b i).or (apF a i):=by
 unfold apF;rw[List.foldl_append];exact ajE b i _
def ag9(l)(i):∀m,i<m.size->gb (rP m l) i=(apF l i).or (gb m i):=by
 induction l with
 |nil=>intro m _;rfl
 |cons p l ih=>
  intro m hi;show gb (rP (BE m p) l) i=_;rw[ih _ (by rw[Kn];exact hi),al3 m p i hi,aoC,Option.or_assoc]
def ahA{l}{i}(h:∀p∈l,aoG p i=none):apF l i=none:=by
 induction l with
 |nil=>rfl
 |cons p l ih=>rw[aoC,ih (λq hq=>h q (bY _ hq)),h p al_List_mem_cons_self];rfl
def alG{l}{i}{v}(h:∀p∈l,aoG p i=none∨aoG p i=v)(h1:∃p∈l,aoG p i=v):apF l i=v:=by
 induction l with
 |nil=>obtain⟨p,hp,_⟩:=h1;exact absurd hp List.not_mem_nil
 | cons p l ih=>
  rw[aoC];by_cases hl:∃q∈l,aoG q i=v
  ·rw[ih (λq hq=>h q (bY _ hq)) hl];rcases h p al_List_mem_cons_self with e|e
   ·rw[e];cases v<;>rfl
   ·rw[e];cases v<;>rfl
  ·have hn:∀q∈l,aoG q i=none:=λq hq=>(h q (bY _ hq)).resolve_right λe=>hl ⟨q,hq,e⟩;rw[ahA hn];obtain⟨q,hq,e⟩:=h1;rcases al_List_mem_cons.1 hq with e2|e2
   ·subst e2;exact e
   ·exact absurd ⟨q,e2,e⟩ hl
def WayOf(c:Ca)(w:Wy):Prop:=w∈c.agJ.flatten
def aoL{c}(h:CaG c){w}:WayOf c w↔w∈pF c (w.agY/16%c.agJ.length):=by
 unfold WayOf;constructor
 ·intro hw;obtain⟨s,hs,hm⟩:=List.mem_flatten.1 hw;obtain⟨k,hk,rfl⟩:=fY hs;have e:=((h.set k _ (aA hk)).way w hm).set;rw[e,vA (aA hk)];exact hm
 ·intro hw;unfold pF at hw
  cases hk:c.agJ[w.agY/16%c.agJ.length]? with
  |none=>rw[hk]at hw;exact absurd hw List.not_mem_nil
  |some s=>rw[hk]at hw;exact List.mem_flatten.2 ⟨s,aB hk,hw⟩
def alH{c}(h:CaG c){w}(hw:WayOf c w):WyG c.agJ.length (w.agY/16%c.agJ.length) w:=by
 obtain⟨s,hs,hm⟩:=List.mem_flatten.1 hw;obtain⟨k,hk,rfl⟩:=fY hs;have g:=(h.set k _ (aA hk)).way w hm;rw[g.set];exact g
def akE{l:List Wy}(h:(l.map (·.agY)).Nodup){w v}(hw:w∈l)(hv:v∈l)(e:w.agY=v.agY):w=v:=by
 induction l with
 |nil=>exact absurd hw List.not_mem_nil
 | cons x l ih=>
  rw[jC,List.nodup_cons]at h;rcases al_List_mem_cons.1 hw with h1|h1
  ·rcases al_List_mem_cons.1 hv with h2|h2
   ·rw[h1,h2]
   ·exact absurd (pG.2 ⟨v,h2,by rw[<-e,h1]⟩) h.1
  ·rcases al_List_mem_cons.1 hv with h2|h2
   ·exact absurd (pG.2 ⟨w,h1,by rw[e,h2]⟩) h.1
   ·exact ih h.2 h1 h2
def aiY{c}(h:CaG c){w v}(hw:WayOf c w)(hv:WayOf c v)(e:w.agY=v.agY):w=v:=by
 have h1:=(aoL h).1 hw;have h2:=(aoL h).1 hv;rw[<-e]at h2;have hn:0<c.agJ.length:=oH h.agJ;exact akE (h.at (aQ _ hn)).one h1 h2 e
def ao6{c}(h:CaG c){k}(hk:k<c.agJ.length)(s){w}:WayOf (rK c k s) w↔w∈s∨(WayOf c w∧w.agY/16%c.agJ.length≠k):=by
 show w∈(c.agJ.set k s).flatten↔_;rw[List.mem_flatten];constructor
 ·rintro⟨t,ht,hm⟩;obtain⟨j,hj,e⟩:=fY ht;rw[List.getElem_set]at e;split at e
  ·subst e;exact .inl hm
  rename_i hne;rw[cC]at hj;subst e;refine .inr ⟨List.mem_flatten.2 ⟨_,jO hj,hm⟩,?_⟩;rw[((h.set j _ (aA hj)).way w hm).set];exact λz=>hne z.symm
 rintro(hm|⟨hw,hne⟩)
 ·exact⟨s,List.mem_set hk s,hm⟩
 have h1:=(aoL h).1 hw;have hj:w.agY/16%c.agJ.length<c.agJ.length:=aQ _ omT;rw[vA (aA hj)]at h1;refine⟨_,?_,h1⟩;exact List.mem_iff_getElem?.2 ⟨w.agY/16%c.agJ.length,by rw[kX (λz=>hne z.symm)];exact aA hj⟩
def alI{p}{i}(hl:p.agZ%16=0)(hd:p.data.size=0∨p.data.size=16):aoG p i=if p.agZ=lineOf i then gb p.data (i%16)else none:=by
 unfold aoG lineOf;by_cases h:p.agZ=i-i%16
 ·rw[af1 h,af1 omT,(oT:i-p.agZ=i%16)]
 rw[dZ h];split
 ·exact aoO omT
 rfl
def an6(c:Ca)(i:Nat):Option UInt8:=apF (LV c) i
def ahB{c}(h:CaG c){w}(hw:WayOf c w)(i):aoG ⟨w.agY,w.data⟩ i=if w.agY=lineOf i then gb w.data (i%16)else none:=by
 have g:=alH h hw;have:=g.agY;exact alI (by show w.agY%16=0;unfold lineOf at this;omega) g.data
def an9{c}(h:CaG c){w}(hw:WayOf c w){i}(e:w.agY=lineOf i):an6 c i=gb w.data (i%16):=by
 refine alG (λp hp=>?_) ⟨⟨w.agY,w.data⟩,pG.2 ⟨w,hw,rfl⟩,by rw[ahB h hw,af1 e]⟩;obtain⟨v,hv,rfl⟩:=pG.1 hp;rw[ahB h hv];split
 ·rename_i e2;rw[aiY h hv hw (e2.trans e.symm)];exact .inr rfl
 exact .inl rfl
def ah3{c}(h:CaG c){i}(hn:∀w,WayOf c w->w.agY≠lineOf i):an6 c i=none:=by
 refine ahA λp hp=>?_;obtain⟨v,hv,rfl⟩:=pG.1 hp;rw[ahB h hv,dZ (hn v hv)]
def aoM{c d}(h:CaG c)(hd:CaG d){i}(e:∀w,w.agY=lineOf i->(WayOf d w->∃v,WayOf c v∧v.agY=w.agY∧v.data=w.data)∧(WayOf c w->∃v,WayOf d v∧v.agY=w.agY∧v.data=w.data)):an6 d i=an6 c i:=by
 by_cases hx:∃w,WayOf c w∧w.agY=lineOf i
 ·obtain⟨w,hw,e1⟩:=hx;obtain⟨v,hv,e2,e3⟩:=(e w e1).2 hw;rw[an9 h hw e1,an9 hd hv (e2.trans e1),e3]
 rw[ah3 h λw hw e1=>hx ⟨w,hw,e1⟩,ah3 hd λw hw e1=>?_];obtain⟨v,hv,e2,_⟩:=(e w e1).1 hw;exact hx ⟨v,hv,e2.trans e1⟩
def akF{c}(h:CaG c)(agY){w}:WayOf (tO c agY) w↔WayOf c w:=by
 by_cases hF:(bK c agY).2.isSome=true
 ·rw[Dw hF];have ff:=pR hF;rw[ao6 h ff.2.2.1,(EV ff.2.2.2).mem_iff];constructor
  ·rintro(h1|h1)
   ·rw[aoL h,((h.at ff.2.2.1).way w h1).set];exact h1
   exact h1.1
  intro hw;by_cases e:w.agY/16%c.agJ.length=(bK c agY).1
  ·exact .inl (by rw[<-e];exact(aoL h).1 hw)
  exact .inr ⟨hw,e⟩
 rw[Dx (sU hF)]
def aiF{c}(h:CaG c){agY}(hF:(bK c agY).2.isSome=false){w}(hw:WayOf c w):w.agY≠lineOf agY:=by
 have e:=rI (agY:=agY) (ab7.1 h).1;rw[e]at hF;have hn:jY _ _=none:=sU hF;intro he;have h1:=(aoL h).1 hw;rw[he]at h1;exact QC.1 hn w h1 he
def aiG{c}(h:CaG c){agY}(hF:(bK c agY).2.isSome=true):∃w,(pF c (bK c agY).1)[(bK c agY).2.getD 0]?=some w∧WayOf c w∧w.agY=lineOf agY:=by
 have ff:=pR hF;refine⟨_,aA ff.2.2.2,?_,?_⟩
 ·have hm:=jO ff.2.2.2;rw[aoL h,((h.at ff.2.2.1).way _ hm).set];exact hm
 ·have e:=rI (agY:=agY) (ab7.1 h).1;have hp:∀(l:List Wy) (x j:Nat) _,jY l x=some j->l[j].agY=x:=by
   intro l
   induction l with
   |nil=>intro x j hj;exact absurd hj (dG _)
   | cons y l ih=>
    intro x j hj q;unfold jY at q;by_cases hy:y.agY=x
    ·rw[af1 hy]at q;injection q with q;subst q;exact hy
    ·rw[dZ hy,Gi]at q;obtain⟨i,q1,q2⟩:=q;subst q2;exact ih x i _ q1
  obtain⟨j,hj⟩:=FH.1 hF;refine hp _ _ _ _ ?_;have e2:=hj;rw[e]at e2;rw[hj];rw[e];exact e2
def way_put{c}(h:CaG c){agY}(hF:(bK c agY).2.isSome=false)(d)(b):
  ((qZ c agY d b).2.2=false∧∀w,WayOf (qZ c agY d b).1 w↔w=⟨lineOf agY,b,dC d⟩∨WayOf c w)∨
  ((qZ c agY d b).2.2=true∧WayOf c (qZ c agY d b).2.1∧∀w,WayOf (qZ c agY d b).1 w↔w=⟨lineOf agY,b,dC d⟩∨(WayOf c w∧w.agY≠(qZ c agY d b).2.1.agY)):=by
 have hR:=(ab7.1 h).1;have e:=rI (agY:=agY) hR;have hk:(bK c agY).1<c.agJ.length:=by rw[e];exact AP (kJ hR).1 _
 have hset:∀w,w∈pF c (bK c agY).1↔WayOf c w∧w.agY/16%c.agJ.length=(bK c agY).1:=λw=>by
  constructor
  ·intro hw;have q:=((h.at hk).way w hw).set;exact⟨by rw[aoL h,q];exact hw,q⟩
  ·rintro⟨hw,q⟩;rw[<-q];exact(aoL h).1 hw
 rw[AR hR hF];split
 all_goals
  first
   |rename_i hw;right;have hne:pF c (bK c agY).1≠[]:=λz=>by rw[z]at hw;have:=h.ways;simp at hw;omega
    have hl:(pF c (bK c agY).1).getLast?.getD qE=(pF c (bK c agY).1).getLast hne:=by rw[List.getLast?_eq_some_getLast hne];rfl
    have hg:=(hset _).1 (List.getLast_mem hne);refine⟨rfl,by show WayOf c ((pF c (bK c agY).1).getLast?.getD qE);rw[hl];exact hg.1,λw=>?_⟩;rw[hl,ao6 h hk,al_List_mem_cons];have hone:=(h.at hk).one;have hd:w∈(pF c (bK c agY).1).dropLast↔w∈pF c (bK c agY).1∧w.agY≠((pF c (bK c agY).1).getLast hne).agY:=by
     constructor
     ·intro q;refine⟨oC _ q,λz=>?_⟩;rw[<-List.dropLast_concat_getLast hne,dH,List.nodup_append]at hone;exact hone.2.2 w.agY (pG.2 ⟨w,q,rfl⟩) _ (pG.2 ⟨_,uJ.2 rfl,rfl⟩) z
     ·rintro⟨q,z⟩;rw[<-List.dropLast_concat_getLast hne]at q;rcases al_List_mem_append.1 q with q|q
      ·exact q
      ·exact absurd (by rw[uJ.1 q]) z
    rw[hd,hset]
   |left;refine⟨rfl,λw=>?_⟩;rw[ao6 h hk,al_List_mem_cons,hset]
  constructor
  ·rintro((q|q)|q)
   ·exact .inl q
   ·first|exact .inr ⟨q.1.1,q.2⟩|exact .inr q.1
   ·first|(exact .inr ⟨q.1,λz=>q.2 (by rw[z];exact hg.2)⟩)|exact .inr q.1
  ·rintro(q|q)
   ·exact .inl (.inl q)
   ·by_cases z:w.agY/16%c.agJ.length=(bK c agY).1
    ·first|exact .inl (.inr ⟨⟨q.1,z⟩,q.2⟩)|exact .inl (.inr ⟨q,z⟩)
    ·first|exact .inr ⟨q.1,z⟩|exact .inr ⟨q,z⟩
def aiZ{f}{l}{j}{x:Wy}(hx:l[j]?=some x):modHd f (eY l j)=f x::(l.take j++l.drop (j+1)):=by
 unfold eY;rw[hx];rfl
def ajF{l:List Wy}(h:(l.map (·.agY)).Nodup){j}{x}(hx:l[j]?=some x){w}:w∈l.take j++l.drop (j+1)↔w∈l∧w.agY≠x.agY:=by
 obtain⟨hj,e⟩:=Em.1 hx;have hp:(x::(l.take j++l.drop (j+1))).Perm l:=by
  have:=EV hj;unfold eY at this;rw[hx]at this;exact this
 have hn:=((hp.map _).nodup_iff).2 h;rw[jC,List.nodup_cons]at hn;constructor
 ·intro q;exact⟨hp.mem_iff.1 (bY _ q),λz=>hn.1 (pG.2 ⟨w,q,z⟩)⟩
 rintro⟨q,z⟩;rcases al_List_mem_cons.1 (hp.mem_iff.2 q)with r|r
 ·exact absurd (by rw[r]) z
 exact r
def ajG{c}(h:CaG c){agY}(hF:(bK c agY).2.isSome=true){s}{x y}(hx:(pF c (bK c agY).1)[(bK c agY).2.getD 0]?=some x)
  (hs:∀w,w∈s↔w=y∨(w∈pF c (bK c agY).1∧w.agY≠x.agY)) (hl:x.agY=lineOf agY) (w):WayOf (rK c (bK c agY).1 s) w↔w=y∨(WayOf c w∧w.agY≠lineOf agY):=by
 have ff:=pR hF;have hxm:=(h.at ff.2.2.1).way x (aB hx);rw[ao6 h ff.2.2.1,hs,hl];constructor
 ·rintro((q|q)|q)
  ·exact .inl q
  ·refine .inr ⟨?_,q.2⟩;rw[aoL h,((h.at ff.2.2.1).way w q.1).set];exact q.1
  refine .inr ⟨q.1,λz=>q.2 ?_⟩;rw[z, <-hl];exact hxm.set
 rintro(q|q)
 ·exact .inl (.inl q)
 by_cases z:w.agY/16%c.agJ.length=(bK c agY).1
 ·exact .inl (.inr ⟨by rw[<-z];exact(aoL h).1 q.1,q.2⟩)
 exact .inr ⟨q.1,z⟩
def akG{c}(h:CaG c){a}{b}(hw:(xL c a b).2=true):∃v,WayOf c v∧v.agY=lineOf a∧v.data.size=16∧b.size+a%16<=16∧
  ∀w,WayOf (xL c a b).1 w↔w={v with data:=Fk v.data (a%16) b,agQ:=true}∨(WayOf c w∧w.agY≠lineOf a):=by
 by_cases hF:(bK c a).2.isSome=true
 ·obtain⟨x,hx,hxw,hxl⟩:=aiG h hF;rw[At b hF rfl hx]at hw⊢;by_cases hq:x.data.size=0∨b.size+a%16>16
  ·rw[af1 hq]at hw;cases hw
  rw[dZ hq];have g:=alH h hxw;refine⟨x,hxw,hxl,oH g.data,oT,ajG h hF hx (λw=>?_) hxl⟩;rw[aiZ hx,al_List_mem_cons,ajF (h.at (pR hF).2.2.1).one hx]
 rw[GV b (sU hF)]at hw;cases hw
def akH{c}(h:CaG c){agY}(w):WayOf (wB c agY) w↔(∃u,WayOf c u∧u.agY=lineOf agY∧w={u with agQ:=false})∨(WayOf c w∧w.agY≠lineOf agY):=by
 by_cases hF:(bK c agY).2.isSome=true
 ·obtain⟨x,hx,hxw,hxl⟩:=aiG h hF;rw[Dy hF rfl,ajG h hF hx (λv=>?_) hxl]
  ·constructor
   ·rintro(q|q)
    ·exact .inl ⟨x,hxw,hxl,q⟩
    exact .inr q
   rintro(⟨u,h1,h2,h3⟩|q)
   ·rw[aiY h h1 hxw (h2.trans hxl.symm)]at h3;exact .inl h3
   exact .inr q
  have hone:=(h.at (pR hF).2.2.1).one;obtain⟨hj,e⟩:=Em.1 hx;rw[<-ajF hone hx,List.modify_eq_take_cons_drop hj,e];simp only[al_List_mem_append,al_List_mem_cons];constructor
  all_goals
   rintro(q|q|q)
   ·exact .inr (.inl q)
   ·exact .inl q
   exact .inr (.inr q)
 rw[Dz (sU hF)];have hn:=λv=>aiF h (sU hF) (w:=v);constructor
 ·intro q;exact .inr ⟨q,hn w q⟩
 rintro(⟨u,h1,h2,_⟩|q)
 ·exact absurd h2 (hn u h1)
 exact q.1
def belByte(q:List Req)(m:ByteArray)(i:Nat):Option UInt8:=(apF (fP q) i).or (gb m i)
def apG(c:Ca)(q:List Req)(m:ByteArray)(i:Nat):Option UInt8:=(an6 c i).or (belByte q m i)
def alJ(q:List Req)(m:ByteArray){i:Nat}(hi:i<m.size):gb (jZ q m) i=belByte q m i:=ag9 _ _ _ hi
def akI(s)(c)(q)(m){i}(hi:i<m.size):gb (ZS s c q m) i=(apF s i).or (apG c q m i):=by
 unfold ZS Ct jZ;rw[ag9 _ _ _ (by rw[iY,iY];exact hi),ag9 _ _ _ (by rw[iY];exact hi),ag9 _ _ _ hi];rfl
def ah4{s s'}{c c'}{q q'}{m m'}(hm:m'.size=m.size)(h:∀i,i<m.size->(apF s' i).or (apG c' q' m' i)=(apF s i).or (apG c q m i)):ZS s' c' q' m'=ZS s c q m:=by
 refine aiE (by rw[MU,MU,hm]) λi hi=>?_;rw[MU]at hi;rw[akI _ _ _ _ hi,akI _ _ _ _ omT];exact h i omT
def ahC(q)(k)(agY)(left)(d):fP (Bi q k agY left d)=fP q++if k=4 then [⟨agY,d⟩]else []:=by
 unfold fP Bi;rw[mL,dH];congr 1;by_cases h:k=4
 ·rw[af1 h];subst h;rfl
 rw[dZ h,List.filter_cons,dZ (sU h)];rfl
def ahD(q)(agY)(left)(d)(m)(i):belByte (Bi q 4 agY left d) m i=(aoG ⟨agY,d⟩ i).or (belByte q m i):=by
 unfold belByte;rw[ahC,af1 rfl,ah2,Option.or_assoc];congr 1;rw[aoC];rfl
def ajN(q){k}(hk:k≠4)(agY)(left)(d)(m)(i):belByte (Bi q k agY left d) m i=belByte q m i:=by
 unfold belByte;rw[ahC,dZ hk,dY]
structure McCoh(d:Ca)(q:List Req)(m:ByteArray):Prop where
 g:CaG d
 al:m.size%16=0
 cl:∀w,WayOf d w->w.agQ=false->0<w.data.size->∀i,i<m.size->w.agY=lineOf i->gb w.data (i%16)=belByte q m i
def ao7{c}(h:CaG c){w}(hw:WayOf c w)(hs:0<w.data.size){i}:∃x,gb w.data (i%16)=some x:=by
 have:=(alH h hw).data;exact⟨_,aT (show i%16<w.data.data.size by show i%16<w.data.size;omega)⟩
def amK{m:ByteArray}(al:m.size%16=0){i}(hi:i<m.size):lineOf i+16<=m.size:=by unfold lineOf;omega
def am5{m}(al:m.size%16=0){agY i}(hi:i<m.size)(e:lineOf agY=lineOf i):(dC (Ga m agY)).size=16∧gb (dC (Ga m agY)) (i%16)=gb m i:=by
 have h1:=amK al hi;unfold Ga;rw[e,af1 omT,(oT:min _ 16=16)];have hs:(m.extract (lineOf i) (lineOf i+16)).size=16:=by rw[dA];omega
 rw[show dC _=m.extract _ (lineOf i+16)from af1 hs];refine⟨hs,?_⟩;rw[aoP,af1 omT];congr 1;unfold lineOf;omega
def alK{d}{q}{m}(h:McCoh d q m){agY}(hl:agY<=4294967295)(left):
  McCoh (iQ d q m agY left).1 (iQ d q m agY left).2.1 m∧∀i,i<m.size->apG (iQ d q m agY left).1 (iQ d q m agY left).2.1 m i=apG d q m i:=by
 have hR:=(ab7.1 h.g).1;unfold iQ;rw[dZ (by rw[hR];decide)];have hll:lineOf (lineOf agY)=lineOf agY:=by unfold lineOf;omega
 by_cases hF:(bK d (lineOf agY)).2.isSome=true
 ·rw[af1 hF];have ht:=λw=>akF h.g (lineOf agY) (w:=w);refine⟨⟨h.g.touch _,h.al,λw hw=>h.cl w ((ht w).1 hw)⟩,λi _=>?_⟩;show apG (tO d (lineOf agY)) q m i=_;unfold apG;rw[aoM h.g (h.g.touch _) λw _=>⟨λz=>⟨w,(ht w).1 z,rfl,rfl⟩,λz=>⟨w,(ht w).2 z,rfl,rfl⟩⟩]
 ·rw [dZ hF];have hF':(bK d (lineOf agY)).2.isSome=false:=sU hF;have hno:∀{w},WayOf d w->w.agY≠lineOf agY:=λ{w} hw=>hll ▸ aiF h.g hF' hw;have hgp:=h.g.put (dV hl) (Ga (jZ q m) (lineOf agY)) false;have hsz:(jZ q m).size=m.size:=iY _ _;have hnew:∀i,i<m.size->lineOf agY=lineOf i->(dC (Ga (jZ q m) (lineOf agY))).size=16∧gb (dC (Ga (jZ q m) (lineOf agY))) (i%16)=belByte q m i:=λi hi e=>by
   obtain⟨h1,h2⟩:=am5 (by rw[hsz];exact h.al) (by rw[hsz];exact hi) (hll.trans e);exact⟨h1,h2.trans (alJ q m hi)⟩
  have hat:∀i,i<m.size->lineOf agY=lineOf i->an6 d i=none:=λi _ e=>ah3 h.g λw hw z=>hno hw (z.trans e.symm);have hsm:∀i,i<m.size->lineOf agY=lineOf i->∃x,belByte q m i=some x:=λi hi e=>by
   obtain⟨h1,h2⟩:=hnew i hi e;rw[<-h2];exact⟨_,aT (by show i%16<(dC (Ga (jZ q m) (lineOf agY))).size;omega)⟩
  rcases way_put h.g hF' (Ga (jZ q m) (lineOf agY)) false with ⟨hw2,hw⟩|⟨hw2,hgo,hw⟩
  ·rcases hP:qZ d (lineOf agY) (Ga (jZ q m) (lineOf agY)) false with ⟨d',gone,went⟩;rw[hP]at hw2 hw hgp;simp only at hw2 hw hgp;rw[hll]at hw;show McCoh (if went=true∧gone.agQ=true∧gone.data.size≠0 then(d',Bi q 4 gone.agY left gone.data,true)else(d',q,false):Ca×List Req×Bool).1 (if went=true∧gone.agQ=true∧gone.data.size≠0 then(d',Bi q 4 gone.agY left gone.data,true)else(d',q,false):Ca×List Req×Bool).2.1 m∧∀i,i<m.size->apG (if went=true∧gone.agQ=true∧gone.data.size≠0 then(d',Bi q 4 gone.agY left gone.data,true)else(d',q,false):Ca×List Req×Bool).1 (if went=true∧gone.agQ=true∧gone.data.size≠0 then(d',Bi q 4 gone.agY left gone.data,true)else(d',q,false):Ca×List Req×Bool).2.1 m i=apG d q m i;rw[dZ (by rw[hw2];simp)];have hn:WayOf d' ⟨lineOf agY,false,dC (Ga (jZ q m) (lineOf agY))⟩:=(hw _).2 (.inl rfl);refine⟨⟨hgp,h.al,λw hw1 hd hs i hi e=>?_⟩,λi hi=>?_⟩
   ·rcases(hw w).1 hw1 with z|z
    ·subst z;exact(hnew i hi e).2
    ·exact h.cl w z hd hs i hi e
   ·show(an6 d' i).or _=(an6 d i).or _;by_cases e:lineOf agY=lineOf i
    ·rw[an9 hgp hn e,hat i hi e,(hnew i hi e).2];obtain⟨x,hx⟩:=hsm i hi e;rw[hx];rfl
    ·rw[aoM h.g hgp λw ew=>⟨λz=>⟨w,((hw w).1 z).resolve_left λy=>e (by rw[<-ew,y]),rfl,rfl⟩,λz=>⟨w,(hw w).2 (.inr z),rfl,rfl⟩⟩]
  ·rcases hP:qZ d (lineOf agY) (Ga (jZ q m) (lineOf agY)) false with ⟨d',gone,went⟩;rw[hP]at hw2 hw hgp hgo;simp only at hw2 hw hgp hgo;rw[hll]at hw;have hn:WayOf d' ⟨lineOf agY,false,dC (Ga (jZ q m) (lineOf agY))⟩:=(hw _).2 (.inl rfl);have hgl:gone.agY≠lineOf agY:=hno hgo;have hgn:∀i,gone.agY=lineOf i->an6 d' i=none:=λi e=>ah3 hgp λw z y=>by
    rcases(hw w).1 z with x|x
    ·rw[x]at y;exact hgl (e.trans y.symm)
    ·exact x.2 (y.trans e.symm)
   have hold:∀i,lineOf agY≠lineOf i->gone.agY≠lineOf i->an6 d' i=an6 d i:=λi e e2=>
    aoM h.g hgp λw ew=>⟨λz=>⟨w,(((hw w).1 z).resolve_left λy=>e (by rw[<-ew,y])).1,rfl,rfl⟩,λz=>⟨w,(hw w).2 (.inr ⟨z,λy=>e2 (by rw[<-y,ew])⟩),rfl,rfl⟩⟩
   have hcov:=ahB h.g hgo;show McCoh (if went=true∧gone.agQ=true∧gone.data.size≠0 then(d',Bi q 4 gone.agY left gone.data,true)else(d',q,false):Ca×List Req×Bool).1 (if went=true∧gone.agQ=true∧gone.data.size≠0 then(d',Bi q 4 gone.agY left gone.data,true)else(d',q,false):Ca×List Req×Bool).2.1 m∧∀i,i<m.size->apG (if went=true∧gone.agQ=true∧gone.data.size≠0 then(d',Bi q 4 gone.agY left gone.data,true)else(d',q,false):Ca×List Req×Bool).1 (if went=true∧gone.agQ=true∧gone.data.size≠0 then(d',Bi q 4 gone.agY left gone.data,true)else(d',q,false):Ca×List Req×Bool).2.1 m i=apG d q m i;by_cases hc:went=true∧gone.agQ=true∧gone.data.size≠0
   ·rw [af1 hc];have hb:∀i,belByte (Bi q 4 gone.agY left gone.data) m i=if gone.agY=lineOf i then gb gone.data (i%16)else belByte q m i:=λi=>by
     rw[ahD,hcov];split
     ·obtain⟨x,hx⟩:=ao7 h.g hgo omT;rw[hx];rfl
     ·rfl
    refine⟨⟨hgp,h.al,λw hw1 hd hs i hi e=>?_⟩,λi hi=>?_⟩
    ·show _=belByte (Bi q 4 gone.agY left gone.data) m i;rw[hb];rcases(hw w).1 hw1 with z|z
     ·subst z;rw[dZ (λy=>hgl (y.trans e.symm))];exact(hnew i hi e).2
     ·rw[dZ (λy=>z.2 (e.trans y.symm))];exact h.cl w z.1 hd hs i hi e
    ·show(an6 d' i).or (belByte (Bi q 4 gone.agY left gone.data) m i)=(an6 d i).or _;rw[hb];by_cases e2:gone.agY=lineOf i
     ·rw[af1 e2,hgn i e2,an9 h.g hgo e2];obtain⟨x,hx⟩:=ao7 h.g hgo omT;rw[hx];rfl
     ·rw[dZ e2];by_cases e:lineOf agY=lineOf i
      ·rw[an9 hgp hn e,hat i hi e,(hnew i hi e).2];obtain⟨x,hx⟩:=hsm i hi e;rw[hx];rfl
      ·rw[hold i e e2]
   ·rw [dZ hc];refine⟨⟨hgp,h.al,λw hw1 hd hs i hi e=>?_⟩,λi hi=>?_⟩
    ·rcases(hw w).1 hw1 with z|z
     ·subst z;exact(hnew i hi e).2
     ·exact h.cl w z.1 hd hs i hi e
    ·show(an6 d' i).or _=(an6 d i).or _;by_cases e2:gone.agY=lineOf i
     ·rw[hgn i e2,an9 h.g hgo e2];by_cases hs:gone.data.size=0
      ·rw[aoO omT]
      ·have hd:gone.agQ=false:=by
        cases hq:gone.agQ with
        |false=>rfl
        |true=>exact absurd ⟨hw2,hq,hs⟩ hc
       rw[h.cl gone hgo hd omT i hi e2];cases belByte q m i<;>rfl
     ·by_cases e:lineOf agY=lineOf i
      ·rw[an9 hgp hn e,hat i hi e,(hnew i hi e).2];obtain⟨x,hx⟩:=hsm i hi e;rw[hx];rfl
      ·rw[hold i e e2]
def aoH(x)(q):fP (x::q)=(if x.kind=4 then [⟨x.agY,x.data⟩]else [])++fP q:=by
 unfold fP;by_cases h:x.kind=4
 ·rw[af1 h,List.filter_cons,af1 (sU h)];rfl
 rw[dZ h,List.filter_cons,dZ (sU h)];rfl
def ajO(q)(m)(i)(hi:i<m.size):
  belByte (eH q).1 (if(eH q).2.2=true∧(eH q).2.1.kind=4 then rP m [⟨(eH q).2.1.agY,(eH q).2.1.data⟩]else m) i=belByte q m i:=by
 cases q with
 |nil=>rfl
 | cons x r=>
  by_cases h:wrap64 (x.left-1)>0
  ·rw[show eH (x::r)=({x with left:=wrap64 _}::r,OU,false)from af1 h];rw[dZ (by simp)];unfold belByte;rw[aoH,aoH]
  ·rw[show eH (x::r)=(r,{x with left:=wrap64 _},true)from dZ h];by_cases hk:x.kind=4
   ·rw[af1 ⟨rfl,hk⟩];unfold belByte;rw[aoH,af1 hk,ag9 _ _ _ hi,ah2,Option.or_assoc]
   ·rw[dZ (λz=>hk z.2)];unfold belByte;rw[aoH,dZ hk,iA]
theorem McCoh.belowK{d}{q q'}{m m'}(h:McCoh d q m)(hm:m'.size=m.size)(hb:∀i,i<m.size->belByte q' m' i=belByte q m i):McCoh d q' m':=
 ⟨h.g,by rw[hm];exact h.al,λw hw hd hs i hi e=>by rw[hb i omT];exact h.cl w hw hd hs i omT e⟩
abbrev Co.mc(c:Co):Prop:=McCoh c.data c.agS c.mem
abbrev Co.und(c:Co)(i:Nat):Option UInt8:=apG c.data c.agS c.mem i
structure Keeps(c d:Co):Prop where
 mc:d.mc
 sz:d.mem.size=c.mem.size
 un:∀i,i<c.mem.size->d.und i=c.und i
theorem Keeps.refl{c}(h:c.mc):Keeps c c:=⟨h,rfl,λ_ _=>rfl⟩
theorem Keeps.trans{a b c}(h:Keeps a b)(k:Keeps b c):Keeps a c:=⟨k.mc,k.sz.trans h.sz,λi hi=>(k.un i (oH h.sz)).trans (h.un i hi)⟩
theorem Keeps.same{a b c}(h:Keeps a b)(h1:c.data=b.data)(h2:c.agS=b.agS)(h3:c.mem=b.mem):Keeps a c:=by
 refine⟨?_,by rw[h3];exact h.sz,λi hi=>?_⟩
 ·show McCoh c.data c.agS c.mem;rw[h1,h2,h3];exact h.mc
 show apG c.data c.agS c.mem i=_;rw[h1,h2,h3];exact h.un i hi
def aoS{c}(h:c.mc){agY}(hl:agY<=4294967295):Keeps c (oK c agY):=by
 have hb:=alK h hl (lX c.agL c.asked);have hm:=(aiI c agY).1;refine⟨?_,by rw[hm],λi hi=>?_⟩
 ·show McCoh (oK c agY).data (oK c agY).agS (oK c agY).mem;rw[hm];exact hb.1
 show apG (oK c agY).data (oK c agY).agS (oK c agY).mem i=_;rw[hm];exact hb.2 i hi
def qL{c}(h:c.mc){k}(hk:k≠4)(agY)(d):Keeps c (jE c k agY d):=by
 have hb:∀i,belByte (jE c k agY d).agS c.mem i=belByte c.agS c.mem i:=λi=>ajN _ hk _ _ _ _ _;refine⟨McCoh.belowK h rfl λi _=>hb i,rfl,λi _=>?_⟩;show(an6 c.data i).or (belByte (jE c k agY d).agS c.mem i)=_;rw[hb];rfl
def akJ{q}(h:∀x∈q,x.ok):(eH q).2.2=true->(eH q).2.1.agY<=4294967295:=by
 cases q with
 |nil=>intro z;cases z
 |cons x r=>
  by_cases hx:wrap64 (x.left-1)>0
  ·rw[show eH (x::r)=({x with left:=wrap64 _}::r,OU,false)from af1 hx];intro z;cases z
  ·rw[show eH (x::r)=(r,{x with left:=wrap64 _},true)from dZ hx];exact λ_=>(h x al_List_mem_cons_self).1
def aoT{c}(h:c.mc)(hq:∀x∈c.agS,x.ok):Keeps c (lM c):=by
 have hb:=ajO c.agS c.mem;have hl:=akJ hq;unfold lM;rcases hT:eH c.agS with ⟨q,x,ok⟩;rw[hT]at hb hl;simp only at hb hl;show Keeps c (if ok=true then ID {c with agS:=q} x else {c with agS:=q});have hk:∀{m':ByteArray},m'.size=c.mem.size->(∀i,i<c.mem.size->belByte q m' i=belByte c.agS c.mem i)->Keeps c {c with agS:=q,mem:=m' }:=λ{m'} hs hb=>by
  refine⟨McCoh.belowK h hs hb,hs,λi hi=>?_⟩;show(an6 c.data i).or (belByte q m' i)=_;rw[hb i hi];rfl
 by_cases ho:ok=true
 ·rw [af1 ho];unfold ID;by_cases h4:x.kind=4
  ·rw[dZ omT,dZ omT,dZ omT,af1 h4];exact hk (iY _ _) λi hi=>by have:=hb i hi;rw[af1 ⟨ho,h4⟩]at this;exact this
  have k0:Keeps c {c with agS:=q}:=hk rfl λi hi=>by have:=hb i hi;rw[dZ (λz=>h4 z.2)]at this;exact this
  by_cases h1:x.kind=1
  ·rw[af1 h1];exact k0.same rfl rfl rfl
  rw[dZ h1];by_cases h2:x.kind=2
  ·rw[af1 h2];exact k0.same rfl rfl rfl
  rw[dZ h2];by_cases h3:x.kind=3
  ·rw[af1 h3];exact k0.trans (aoS k0.mc (hl ho))
  rw[dZ h3,dZ h4];exact k0
 rw[dZ ho];exact hk rfl λi hi=>by have:=hb i hi;rw[dZ (λz=>ho z.1)]at this;exact this
def akK{d b}{a j}(hd:d.size=16)(hb:b.size+a<=16)(hj:j<16):gb (Fk d a b) j=(if a<=j then gb b (j-a)else none).or (gb d j):=by
 unfold Fk;rw[ajD,ajD,aoP,aoP];simp only[kH,dA];by_cases h1:a<=j
 ·rw[af1 h1];by_cases h2:j-a<b.size
  ·rw[af1 omT,dZ omT,(oT:j-(min a d.size-0)=j-a)];have:∃x,gb b _=some x:=⟨_,aT h2⟩;obtain⟨x,hx⟩:=this;rw[hx];rfl
  rw[aoO (i:=j-a) omT,dZ omT,af1 omT,(oT:a+b.size+(j-(min a d.size-0+b.size))=j)];rfl
 rw[dZ h1,af1 omT,af1 omT,af1 omT,(oT:0+j=j)];rfl
def alL{d}{q}{m}(h:McCoh d q m){p}(hw:(xL d p.agZ p.data).2=true):
  McCoh (xL d p.agZ p.data).1 q m∧∀i,i<m.size->apG (xL d p.agZ p.data).1 q m i=(aoG p i).or (apG d q m i):=by
 obtain⟨v,hv,hvl,hvs,hbs,hW⟩:=akG h.g hw;have hg:=h.g.write p.agZ p.data;refine⟨⟨hg,h.al,λw hw1 hd hs i hi e=>?_⟩,λi hi=>?_⟩
 ·rcases(hW w).1 hw1 with z|z
  ·subst z;cases hd
  exact h.cl w z.1 hd hs i hi e
 show(an6 _ i).or _=(aoG p i).or ((an6 d i).or _);by_cases e:lineOf p.agZ=lineOf i
 ·rw[an9 hg ((hW _).2 (.inl rfl)) (hvl.trans e),an9 h.g hv (hvl.trans e)];rw[akK hvs hbs omT,Option.or_assoc];congr 1;unfold aoG lineOf at *;by_cases h2:p.agZ<=i
  ·rw[af1 h2,af1 omT];congr 1;omega
  rw[dZ h2,dZ omT]
 have hc:aoG p i=none:=by
  unfold aoG;split
  ·exact aoO (by unfold lineOf at e;omega)
  rfl
 rw[hc,aoM h.g hg λw ew=>⟨λz=>⟨w,(((hW w).1 z).resolve_left λy=>e (by rw[<-ew,y];exact hvl.symm)).1,rfl,rfl⟩,λz=>⟨w,(hW w).2 (.inr ⟨z,λy=>e (by rw[<-y,ew])⟩),rfl,rfl⟩⟩];rfl
def amL{d}{q}{m}(h:McCoh d q m){w}(hw:WayOf d w)(hs:w.data.size≠0)(left):
  McCoh (wB d w.agY) (Bi q 4 w.agY left w.data) m∧∀i,i<m.size->apG (wB d w.agY) (Bi q 4 w.agY left w.data) m i=apG d q m i:=by
 have hg:=h.g.clean w.agY;have hwl:=(alH h.g hw).agY;have hC:=λv=>akH h.g (agY:=w.agY) v;have hb:∀i,belByte (Bi q 4 w.agY left w.data) m i=if w.agY=lineOf i then gb w.data (i%16)else belByte q m i:=λi=>by
  rw[ahD,ahB h.g hw];split
  ·obtain⟨x,hx⟩:=ao7 h.g hw omT;rw[hx];rfl
  rfl
 refine⟨⟨hg,h.al,λv hv hd hvs i hi e=>?_⟩,λi hi=>?_⟩
 ·rw[hb];rcases(hC v).1 hv with ⟨u,h1,h2,h3⟩|z
  ·have:=aiY h.g h1 hw (h2.trans hwl);subst this;subst h3;rw[af1 e]
  rw[dZ (λy=>z.2 (by rw[e, <-y,hwl]))];exact h.cl v z.1 hd hvs i hi e
 show(an6 _ i).or _=(an6 d i).or _;have hl:an6 (wB d w.agY) i=an6 d i:=aoM h.g hg λv _=>⟨λz=>by
  rcases(hC v).1 z with ⟨u,h1,h2,h3⟩|y
  ·subst h3;exact⟨u,h1,rfl,rfl⟩
  ·exact⟨v,y.1,rfl,rfl⟩,λz=>by
  by_cases e:v.agY=lineOf w.agY
  ·exact⟨{v with agQ:=false},(hC _).2 (.inl ⟨v,z,e,rfl⟩),rfl,rfl⟩
  exact⟨v,(hC v).2 (.inr ⟨z,e⟩),rfl,rfl⟩⟩
 rw[hl,hb];split
 ·rename_i e;rw[an9 h.g hw e];obtain⟨x,hx⟩:=ao7 h.g hw omT;rw[hx];rfl
 rfl
def apJ{c d:Co}(h:Keeps c d)(hs:d.agF=c.agF):Xr d=Xr c:=ah4 h.sz λi hi=>by rw[hs];exact af2 _ (h.un i hi)
def ao4{c}(h:c.mc):(tY c).mc∧Xr (tY c)=Xr c∧(tY c).mem.size=c.mem.size:=by
 have h1:(aW c).mc∧Xr (aW c)=Xr c∧(aW c).mem=c.mem:=by
  cases hs:c.agF with
  |nil=>
   have hd:aW c={c with agF:=[],data:=c.data}:=by unfold aW;rw[hs];rfl
   rw[hd]
   exact⟨h,by unfold Xr;rw[hs],rfl⟩
  | cons p l=>
   have hd:aW c={c with agF:=(sL (p::l) c.data).1,data:=(sL (p::l) c.data).2.1}:=by unfold aW;rw[hs]
   rw[hd];by_cases hw:(xL c.data p.agZ p.data).2=true
   ·rw[show sL (p::l) c.data=(l,(xL c.data p.agZ p.data).1,true)from af1 hw];have k:=alL h hw;refine⟨k.1,?_,rfl⟩;unfold Xr;refine ah4 rfl λi hi=>?_;rw[hs,aoC,Option.or_assoc,k.2 i hi]
   ·rw[show sL (p::l) c.data=(p::l,c.data,false)from dZ hw];exact⟨h,by unfold Xr;rw[hs],rfl⟩
 have hA:∀{d:Co},d.mc->(tW d).mc∧Xr (tW d)=Xr d∧(tW d).mem.size=d.mem.size:=λ{d} k=>by
  unfold tW;split
  ·exact⟨k,rfl,rfl⟩
  ·split
   ·have z:=λl=>qL k (k:=3) dT l oZ;exact⟨(z _).mc,apJ (z _) rfl,(z _).sz⟩
   ·exact⟨k,rfl,rfl⟩
 have hB:∀{d:Co},d.mc->(nP d).mc∧Xr (nP d)=Xr d∧(nP d).mem.size=d.mem.size:=λ{d} k=>by
  unfold nP;split
  ·exact⟨k,rfl,rfl⟩
  ·unfold pE;split
   ·rename_i w e;split
    ·rename_i hs;have hw:WayOf d.data w:=by
      unfold cR at e;split at e
      ·exact List.mem_of_find?_eq_some e
      ·cases e
     have z:=amL k hw hs (lX d.agL d.asked);refine⟨z.1,?_,rfl⟩;unfold Xr;exact ah4 rfl λi hi=>af2 _ (z.2 i hi)
    ·exact⟨k,rfl,rfl⟩
   ·exact⟨k,rfl,rfl⟩
 rw[mO];split
 ·have a:=hA h1.1;have b:=hB a.1;exact⟨b.1,b.2.1.trans (a.2.1.trans h1.2.1),b.2.2.trans (a.2.2.trans (by rw[h1.2.2]))⟩
 ·have b:=hB h1.1;exact⟨b.1,b.2.1.trans h1.2.1,b.2.2.trans (by rw[h1.2.2])⟩
def apE{c d:Co}(h:c.mc)(h1:d.data=c.data)(h2:d.agS=c.agS)(h3:d.mem=c.mem):d.mc:=by
 show McCoh d.data d.agS d.mem;rw[h1,h2,h3];exact h
theorem aoU:∀(n:Nat) (c:Co),(∀e∈c.agI,e.ok)->c.mc->(eC n c).mc
 |0,_,_,h=>h
 | n + 1,c,ho,h=>by
  unfold eC;split
  ·exact h
  ·split
   ·exact h
   ·rename_i e l he;split
    ·exact h
    ·split
     ·exact apE h rfl rfl rfl
     ·split
      ·exact h
      ·have heo:=ho e (by rw[he];exact al_List_mem_cons_self);refine aoU n _ (λx hx=>ho x (by rw[he];exact bY _ hx)) ?_;have hp:(fZ c (cA e)).mc:=apE h rfl rfl rfl;unfold vZ vG;split
       ·exact apE (aoS hp (fE heo).agZ).mc rfl rfl rfl
       ·exact apE h rfl rfl rfl
def amM{c}(h:c.mc)(i):(oE c i).mc:=by
 have hs:∀e,(setE c i e).mc:=λe=>apE h rfl rfl rfl;have ha:=λl=>(qL h (k:=1) dT l oZ).mc;unfold oE
 repeat' split
 all_goals first|exact h|exact hs _|exact apE (ha _) rfl rfl rfl
def alM{c}(h:c.mc)(i):(iS c i).mc:=by
 have hs:∀e,(setE c i e).mc:=λe=>apE h rfl rfl rfl;unfold iS
 repeat' split
 all_goals first|exact h|exact hs _|exact amM (hs _) _
theorem ahE:∀(p:List Nat) (c:Co),c.mc->(p.foldl iS c).mc
 |[],_,h=>h
 |i::p,c,h=>ahE p _ (alM h i)
theorem ao2:∀(n:Nat) (c:Co),c.mc->(kV n c).mc
 |0,_,h=>h
 |n+1,c,h=>by
  unfold kV
  repeat' split
  ·exact h
  ·exact h
  ·exact ao2 n _ (apE h rfl rfl rfl)
theorem aoV:∀(n:Nat) (c:Co),c.mc->(eL n c).mc
 |0,_,h=>h
 | n +1,c,h=>by
  unfold eL;split
  ·exact h
  ·split
   ·exact apE h rfl rfl rfl
   ·split
    ·split
     ·exact(qL h (k:=2) dT _ _).mc
     ·exact h
    ·refine aoV n _ ?_;have hb:∀w,(dM {c with agO:=tO c.agO (lineOf c.agM)} w).1.mc:=λw=>by
      unfold dM
      repeat' split
      all_goals exact apE h rfl rfl rfl
     exact apE (hb (fetchW c.prog c.agM)) rfl rfl rfl
def amN{c}{n}(hm:c.okM n)(hb:n+20<=890000)(h:c.mc):(ZJ c).mc:=by
 have hk:=Ql hm hb;have h0:(s0 c).mc:=apE h rfl rfl rfl;have h1:(s1 c).mc:=(aoT h0 hk.k0.ok.buso).mc;have h2:(s2 c).mc:=by
  show(kK _).mc;unfold kK
  repeat' split
  all_goals exact apE h1 rfl rfl rfl
 have h3:(s3 c).mc:=aoU _ _ hk.k2.ok.agX h2;have h4:(s4 c).mc:=by
  show(gY _).mc;unfold gY;split
  ·exact h3
  exact ahE _ _ h3
 have h5:(s5 c).mc:=by
  show(lP _).mc;unfold lP;split
  ·exact h4
  exact ao2 _ _ h4
 have h6:(s6 c).mc:=by
  show(eN _).mc;unfold eN;split
  ·exact h5
  exact aoV _ _ h5
 exact(ao4 h6).1
def am6(cf)(prog)(m)(h0:(fX cf prog m).okM 0):(fX cf prog m).mc:=by
 have hn:∀w, ¬WayOf (fX cf prog m).data w:=λw hw=>by
  obtain⟨s,hs,hm⟩:=List.mem_flatten.1 hw;rw[(List.mem_replicate.1 hs).2]at hm;exact absurd hm List.not_mem_nil
 refine⟨h0.gd,?_,λw hw=>absurd hw (hn w)⟩;show(jB m).size%16=0;obtain⟨n,hn⟩:∃n,(jB m).size=upS n:=⟨_,wE m⟩;rw[hn];unfold upS
 (repeat' split)<;>rfl
theorem al4{X:Co}(hG:∀k,k<=3000->GdRun X k)(h:X.mc):∀k,k<=3000->(uN X k).mc
 |0,_=>h
 |k+1,hk=>by
  have g:=hG k omT;show(uG (uN X k)).mc;rw[show uG (uN X k)=ZJ (uN X k)from af1 g.rt];exact amN (EL g.ok omT g.rt) omT (al4 hG h k omT)
structure HdCo(c:Co):Prop where
 st:c.halt≠0->c.agI=[]∧c.agH=[]
structure SameH(c d:Co):Prop where
 ret:d.agG=c.agG
 r:d.r=c.r
 halt:d.halt=c.halt
 agI:c.agI=[]->d.agI=[]
 fet:d.agH=c.agH
 agM:d.agM=c.agM
theorem SameH.trans{a b c}(h:SameH a b)(k:SameH b c):SameH a c:=⟨k.ret.trans h.ret,k.r.trans h.r,k.halt.trans h.halt,λz=>k.agI (h.agI z),k.fet.trans h.fet,k.agM.trans h.agM⟩
set_option maxRecDepth 100000
set_option maxHeartbeats 4000000
structure StepIs(s t:St)(x:Sp):Prop where
 pc:x.pc=s.pc
 halt:x.halt≠0->t={s with halt:=x.halt}∧x.rd=0∧x.store=false
 run:x.halt=0->t.halt=0∧t.pc=x.next
 r:t.r=lY s.r x
 mem:t.mem=if x.store=true then DD s.mem x.agZ (oF x.value x.size.toNat)else s.mem
 st:x.store=true->x.halt=0∧(x.size=1∨x.size=2∨x.size=4)∧kZ s.mem.size x.agZ x.size=true
def ag6(x n j)(hj:j<n):gb (oF x n) j=some (UInt8.ofNat (x/256 ^ j%256)):=by
 have key:∀(l:List Int) (r:ByteArray),(l.foldl (λr m=>r.push (UInt8.ofNat m.toNat)) r).data.toList=r.data.toList++l.map λm=>UInt8.ofNat m.toNat:=by
  intro l
  induction l with
  |nil=>intro r;simp
  |cons a l ih=>intro r;rw[mK,ih];simp[ByteArray.push]
 unfold gb oF;rw[<-bQ,key];rw[List.map_map,show(ByteArray.empty.data.toList)=[]from rfl,iA,aX,eZ hj];rfl
theorem ai8(l:List UInt8):∀(n j:Nat),j<n->joinTo l n/256 ^ j%256=(l.getD j 0).toNat
 |0,j,h=>absurd h (dG j)
 | n+1,j,h=>by
  have hl:=yK l n;unfold joinTo;by_cases e:j=n
  ·subst e;rw[Nat.add_mul_div_left _ _ (Nat.pow_pos dT),Nat.div_eq_of_lt hl,bJ];exact jM (UInt8.toNat_lt _)
  ·have hj:j<n:=oT;have ih:=ai8 l n j hj;rw[<-ih];obtain⟨d,rfl⟩:∃d,n=j+1+d:=⟨n-(j+1),oT⟩;rw[show 256 ^ (j+1+d)*(l.getD (j+1+d) 0).toNat=256 ^ j*(256*(256 ^ d*(l.getD (j+1+d) 0).toNat)) by rw[Nat.pow_add,Nat.pow_succ];ac_rfl];rw[Nat.add_mul_div_left _ _ (Nat.pow_pos dT),Nat.add_mul_mod_self_left]
def ah9(b n):oF (valB b n) n=oF b n:=by
 refine aiE (by rw[mP,mP]) λj hj=>?_;rw[mP]at hj;rw[ag6 _ _ _ hj,ag6 _ _ _ hj];unfold valB;rw[mP,ai8 _ _ _ hj];have h:=ag6 b n j hj;have h2:(oF b n).data.toList.getD j 0=UInt8.ofNat (b/256 ^ j%256):=by
  rw[aR,bQ];unfold gb at h;rw[h];rfl
 rw[h2];congr 1;simp
def aj3(op):(kindOf op=3↔11<=op∧op<=15)∧(kindOf op=4↔16<=op∧op<=18)∧(kindOf op=5↔3<=op∧op<=10):=by
 unfold kindOf;(repeat' split)<;>omega
def ak7{i}(h:kindOf i.op=4):wr i=0:=by
 have:=(aj3 i.op).2.1.1 h;have hf:cW i.op=4:=by unfold cW;(repeat' split)<;>omega
 unfold wr;rw[hf];rfl
def ah1(prog){s}(h:s.halt=0):StepIs s (gE prog s).1 (gE prog s).2:=by
 have hw:=ZU (fetchW prog s.pc);have apply0:∀(x:Sp),x.rd=0->lY s.r x=s.r:=λx hx=>by unfold lY;rw[dZ (by rw[hx];omega)]
 have hlt:∀why agZ,why≠0->StepIs s (Gc s why agZ).1 (Gc s why agZ).2:=λwhy agZ hn=>⟨rfl,λ_=>⟨rfl,rfl,rfl⟩,λe=>absurd e hn,(apply0 _ rfl).symm,rfl,λe=>by cases e⟩;have hset:∀(i:SI) (x:Sp),i=rA prog s->x.rd=wr i->wr i≠0->x.halt=0->lY s.r x=setR s.r (wr i).toNat x.value:=λi x hi h1 h2 h3=>by
  unfold lY;rw[h1,af1 ⟨by subst hi;have:0<=wr (rA prog s):=hw.1;omega,by subst hi;have:wr (rA prog s)<32:=hw.2;omega,h3⟩]
 unfold gE;rw[af1 h];split
 ·split
  ·exact hlt 2 0 dT
  unfold doI;split
  ·exact hlt 6 0 dT
  split
  ·exact hlt 7 0 dT
  split
  ·unfold sN;split
   ·rename_i hr;split
    ·rename_i hk;have hsz:((sizeOf' (rA prog s).op:Nat):Int)=1∨((sizeOf' (rA prog s).op:Nat):Int)=2∨((sizeOf' (rA prog s).op:Nat):Int)=4:=by
      unfold kZ at hr;simp only[aP,aY]at hr;exact hr.1
     refine⟨rfl,λe=>absurd rfl e,λ_=>⟨h,rfl⟩,?_,?_,λ_=>⟨rfl,hsz,hr⟩⟩
     ·exact(apply0 _ (ak7 hk)).symm
     simp only[hk,an7,fD];rw[Int.toNat_natCast,ah9]
    rename_i hk;split
    ·rename_i h0;exact⟨rfl,λe=>absurd rfl e,λ_=>⟨h,rfl⟩,(apply0 _ h0).symm,by simp[hk],λe=>by simp[hk]at e⟩
    rename_i h0;exact⟨rfl,λe=>absurd rfl e,λ_=>⟨h,rfl⟩,(by symm;exact hset _ _ rfl rfl h0 rfl),by simp[hk],λe=>by simp[hk]at e⟩
   exact hlt _ _ (by split<;>decide)
  unfold oN;have hfin:∀nx tk,StepIs s (IJ s (rA prog s) (s.r (rA prog s).ag0.toNat) (s.r (rA prog s).ag1.toNat) nx tk).1 (IJ s (rA prog s) (s.r (rA prog s).ag0.toNat) (s.r (rA prog s).ag1.toNat) nx tk).2:=λnx tk=>by
   unfold IJ;split
   ·rename_i h0;exact⟨rfl,λe=>absurd rfl e,λ_=>⟨h,rfl⟩,(apply0 _ h0).symm,rfl,λe=>by cases e⟩
   rename_i h0;exact⟨rfl,λe=>absurd rfl e,λ_=>⟨h,rfl⟩,(by symm;exact hset _ _ rfl rfl h0 rfl),rfl,λe=>by cases e⟩
  split
  ·split
   ·exact hfin _ _
   exact hlt 3 0 dT
  exact hfin _ _
 exact hlt 1 0 dT
def aoF(prog:List Nat)(pc:Nat):Prop:=(fetchP prog pc).isSome=true∧opOf (fetchW prog pc)≠0
def stT(prog:List Nat)(T:St)(e:Ent):St×Sp:=gE prog ⟨e.pc,T.r,T.mem,0⟩
def aoA(prog:List Nat)(T:St)(l:List Ent):St:=l.foldl (λT e=>(stT prog T e).1) T
def aoB(prog:List Nat)(T:St)(e:Ent)(l:List Ent):aoA prog T (e::l)=aoA prog (stT prog T e).1 l:=rfl
def ak8(prog:List Nat)(T:St)(a b:List Ent):aoA prog T (a++b)=aoA prog (aoA prog T a) b:=List.foldl_append
structure EOk(prog:List Nat)(T:St)(e:Ent):Prop where
 ins:aoF prog e.pc->e.i=decN (fetchW prog e.pc)
 noi: ¬aoF prog e.pc->e.is=3∧e.i=MG
 told:e.is=1∨e.is=3->cA e=(stT prog T e).2
 wait:e.is=0∨e.is=2->e.halt=0∧e.i.op≠47∧e.i.op≠48
 adr:e.known=true->kindOf e.i.op=3∨kindOf e.i.op=4->e.agZ=addrOf e.i (T.r e.i.ag0.toNat)∧kZ T.mem.size e.agZ (sizeOf' e.i.op)=true
 st:e.is=0∨e.is=1∨e.is=2∨e.is=3
 agS:e.is=2->kindOf e.i.op=3∧e.known=true
 run:e.is=1->e.halt=0∨(kindOf e.i.op=5∧e.halt=3)
 one4:kindOf e.i.op=4->e.is≠1
 ahead:kindOf e.i.op=3->e.is=1->e.known=true
 kn5:kindOf e.i.op=5->e.known=true->e.is=3∧e.halt=0
 dn5:kindOf e.i.op=5->e.is=3->e.halt=0->e.known=true
 gs:(aoF prog e.pc->kindOf e.i.op≠5)->e.agK=up4 e.pc
def ROk(prog:List Nat):St->List Ent->Prop
 |_,[]=>True
 |T,e::l=>EOk prog T e∧ROk prog (stT prog T e).1 l
theorem amF{prog:List Nat}:∀{T:St} {a b:List Ent},ROk prog T (a++b)↔ROk prog T a∧ROk prog (aoA prog T a) b
 |T,[],b=>⟨λh=>⟨trivial,h⟩,λh=>h.2⟩
 |T,e::a,b=>by
  show EOk prog T e∧ROk prog (stT prog T e).1 (a++b)↔(EOk prog T e∧ROk prog (stT prog T e).1 a)∧_;rw[amF,aoB,uK]
def ag7{prog}{T}{l}(h:ROk prog T l){k}{e}(he:l[k]?=some e):EOk prog (aoA prog T (l.take k)) e:=by
 obtain⟨hk,hk2⟩:=Em.1 he;have:l=l.take k++e::l.drop (k+1):=by rw[<-hk2, <-bF hk,afF]
 rw[this]at h;exact(amF.1 h).2.1
def al1(prog)(T){e e'}(h:e'.pc=e.pc):stT prog T e'=stT prog T e:=by unfold stT;rw[h]
theorem ai9(prog:List Nat):∀(T:St) (l l':List Ent),l'.map (·.pc)=l.map (·.pc)->aoA prog T l'=aoA prog T l
 |T,[],[],_=>rfl
 |T,[],_::_,h=>by cases h
 |T,_::_,[],h=>by cases h
 |T,e::l,e'::l',h=>by
  simp only[jC,List.cons.injEq]at h;rw[aoB,aoB,al1 prog T h.1,ai9 prog _ l l' h.2]
def amG(prog){s}(h:s.halt=0):(gE prog s).2.rd=0∨((gE prog s).2.rd=wr (rA prog s)∧aoF prog s.pc):=by
 unfold gE;rw[af1 h];split
 ·rename_i hf;split
  ·exact .inl rfl
  rename_i ho;have hP:aoF prog s.pc:=⟨hf,ho⟩;unfold doI sN oN IJ Gc
  (repeat' split)<;>first|exact .inl rfl|exact .inr ⟨rfl,hP⟩
 exact .inl rfl
def ak9{e}(h:e.halt=0)(hw:wr e.i≠0):(cA e).rd=wr e.i∧(cA e).halt=0∧(cA e).value=e.value:=by
 unfold cA;rw[dZ (by rw[h];decide)]
 (repeat' split)<;>first|exact⟨rfl,rfl,rfl⟩|contradiction
theorem ajA{prog:List Nat}{T:St}{agI:List Ent}(h:ROk prog T agI){reg:Int}(h1:1<=reg)(h2:reg<=31):∀(n:Nat),n<=agI.length->
  (makerTo agI reg n=none->(aoA prog T (agI.take n)).r reg.toNat=T.r reg.toNat)∧
  (∀k e,makerTo agI reg n=some k->agI[k]?=some e->e.is=3->e.halt=0->(aoA prog T (agI.take n)).r reg.toNat=e.value)
 |0,_=>⟨λ_=>rfl,(λk e hk=>by cases hk)⟩
 | n +1,hn=>by
  obtain⟨x,hx⟩:∃x,agI[n]?=some x:=⟨_,aA omT⟩;have hE:=ag7 h hx;have hS:=ah1 prog (s:=⟨x.pc,(aoA prog T (agI.take n)).r,(aoA prog T (agI.take n)).mem,0⟩) rfl;have hR:=amG prog (s:=⟨x.pc,(aoA prog T (agI.take n)).r,(aoA prog T (agI.take n)).mem,0⟩) rfl;have ht:aoA prog T (agI.take (n+1))=(stT prog (aoA prog T (agI.take n)) x).1:=by
   rw[bW,hx,ak8];rfl
  obtain⟨ih1,ih2⟩:=ajA h h1 h2 n omT;rw[ht];unfold makerTo LS;rw[hx];simp only[aY];by_cases hw:wr x.i=reg
  ·rw[af1 hw];refine⟨(λe=>by cases e),λk e hk he h3 h0=>?_⟩;injection hk with hk;subst hk;rw[hx]at he;injection he with he;subst he;obtain⟨t1,t2,t3⟩:=ak9 h0 omT;have ht:=hE.told (.inr h3);show(gE prog _).1.r _=_;rw[hS.r];unfold stT at ht;rw[<-ht];unfold lY;rw[af1 ⟨oT,oT,t2⟩,t1,hw,t3];exact af1 rfl
  ·rw [dZ hw];have hn:(stT prog (aoA prog T (agI.take n)) x).1.r reg.toNat=(aoA prog T (agI.take n)).r reg.toNat:=by
    show(gE prog _).1.r _=_;rw[hS.r];unfold lY;split
    ·rename_i hc;have:(gE prog ⟨x.pc,(aoA prog T (agI.take n)).r,(aoA prog T (agI.take n)).mem,0⟩).2.rd≠reg:=by
      rcases hR with hR|⟨hR,hP⟩
      ·omega
      ·rw[hR];have:=hE.ins hP;rw[this]at hw;exact hw
     show(if reg.toNat=_ then _ else _)=_;rw[dZ omT]
    ·rfl
   rw[hn];exact⟨ih1,ih2⟩
theorem aiA{prog:List Nat}:∀{T:St} (l:List Ent),T.r 0=0->(aoA prog T l).r 0=0
 |T,[],h=>h
 | T,e::l,h=>by
  rw[aoB];refine aiA l ?_;show(gE prog _).1.r 0=0;rw[(ah1 prog (s:=⟨e.pc,T.r,T.mem,0⟩) rfl).r];unfold lY;split
  ·show(if 0=_ then _ else _)=_;rw[dZ omT];exact h
  ·exact h
def aj4{prog}{T}{agI}(h:ROk prog T agI)(h0:T.r 0=0){i}(hi:i<=agI.length){reg}{v}(hv:lK agI T.r i reg=some v):v=(aoA prog T (agI.take i)).r reg.toNat:=by
 unfold lK at hv;split at hv
 ·rename_i hr;injection hv with hv;subst hr;rw[<-hv];exact(aiA _ h0).symm
 split at hv
 ·cases hv
 rename_i hz hr;have h1:1<=reg:=oT;have h2:reg<=31:=oT;obtain⟨m1,m2⟩:=ajA h h1 h2 i hi;unfold gX at hv;rw[dZ omT,kD hi]at hv;split at hv
 ·rename_i hm;injection hv with hv;rw[m1 hm];exact hv.symm
 rename_i k hm;split at hv
 ·rename_i e he;split at hv
  ·rename_i hc;injection hv with hv;rw[m2 k e hm he hc.1 hc.2];exact hv.symm
  cases hv
 cases hv
def aoY{prog}{T}{e}(hP:aoF prog e.pc)(hi:e.i=decN (fetchW prog e.pc))(h7:e.i.op≠47)(h8:e.i.op≠48):
  stT prog T e=if kindOf e.i.op=3∨kindOf e.i.op=4 then sN ⟨e.pc,T.r,T.mem,0⟩ e.i (T.r e.i.ag0.toNat) (T.r e.i.ag1.toNat)else oN ⟨e.pc,T.r,T.mem,0⟩ e.i (T.r e.i.ag0.toNat) (T.r e.i.ag1.toNat):=by
 have hI:rA prog ⟨e.pc,T.r,T.mem,0⟩=e.i:=hi.symm;unfold stT gE;rw[af1 rfl,af1 hP.1,dZ hP.2,hI];unfold doI;rw[dZ h7,dZ h8]
def anT{prog}{T}{e}(h:EOk prog T e):EOk prog T (goE e)∧(goE e).pc=e.pc:=by
 unfold goE;split
 ·exact⟨h,rfl⟩
 rename_i h1;have h1:e.is=1:=oT;split
 ·refine⟨⟨h.ins,λhn=>⟨rfl,(h.noi hn).2⟩,λ_=>(h.told (.inl h1)),(λh=>by rcases h with h|h<;>cases h),λhk hc=>h.adr ?_ hc,.inr (.inr (.inr rfl)),(λh=>by cases h),(λh=>by cases h),(λhk hc=>by cases hc),(λ_ hc=>by cases hc),λhk5 hk=>⟨rfl,?_⟩,λhk5 _ h0=>af1 ⟨hk5,h0⟩,h.gs⟩,rfl⟩
  ·have hk:(if kindOf e.i.op=5∧e.halt=0 then true else e.known)=true:=hk
   rwa [dZ (λq=>by have:=q.1;have hc:kindOf e.i.op=3∨kindOf e.i.op=4:=hc;omega)]at hk
  have hk:(if kindOf e.i.op=5∧e.halt=0 then true else e.known)=true:=hk;have hk5:kindOf e.i.op=5:=hk5;by_cases h0:e.halt=0
  ·exact h0
  rw[dZ (λq=>h0 q.2)]at hk;exact absurd (h.kn5 hk5 hk).1 omT
 exact⟨⟨h.ins,h.noi,h.told,h.wait,h.adr,h.st,h.agS,h.run,h.one4,h.ahead,h.kn5,h.dn5,h.gs⟩,rfl⟩
def alA{prog}{T}{e}(h:EOk prog T e){a b}(ha:e.is=0->a=T.r e.i.ag0.toNat)(hb:e.is=0->b=T.r e.i.ag1.toNat):EOk prog T (rJ e a b)∧(rJ e a b).pc=e.pc:=by
 by_cases hn:e.is≠0∨kindOf e.i.op=3∨kindOf e.i.op=4
 ·unfold rJ;rw[af1 hn];exact⟨h,rfl⟩
 have h0:e.is=0:=oT;obtain⟨w0,w7,w8⟩:=h.wait (.inl h0);have hP:aoF prog e.pc:=af4 λq=>by have:=(h.noi q).1;omega
 obtain rfl:=ha h0;obtain rfl:=hb h0;have hS:=aoY (T:=T) hP (h.ins hP) w7 w8;rw[dZ omT]at hS;have hkn:kindOf e.i.op=5->e.known=false:=λq=>by
  cases hk:e.known with
  |false=>rfl
  |true=>have:=(h.kn5 q hk).1;omega
 have mk:∀(x:Ent),x.pc=e.pc->x.i=e.i->x.agK=e.agK->x.is=1->x.known=e.known->(x.halt=0∨(kindOf e.i.op=5∧x.halt=3))->cA x=(stT prog T e).2->EOk prog T x∧x.pc=e.pc:=λx e1 e2 e3 e4 e5 e6 e7=>by
  refine⟨⟨by rw[e1,e2];exact h.ins,λq=>absurd hP (by rwa [e1]at q),λ_=>by rw[al1 prog T e1];exact e7,λq=>by omega,λ_ q=>by rw[e2]at q;omega,oT,λq=>by omega,λ_=>by rw[e2];exact e6,λq=>by rw[e2]at q;omega,λq=>by rw[e2]at q;omega,λq1 q2=>?_,λ_ q=>by omega,by rw[e1,e2,e3];exact h.gs⟩,e1⟩;rw[e2]at q1;rw[e5,hkn q1]at q2;cases q2
 unfold rJ;rw[dZ hn];rw[hS]at mk;split
 ·rename_i hk;refine mk _ rfl rfl rfl rfl rfl (.inl w0) ?_;unfold cA uE oN IJ;simp only[w0,hk];by_cases hw:wr e.i=0<;>simp[hw]
 ·rename_i hk1;split
  ·rename_i hk;refine mk _ rfl rfl rfl rfl rfl (.inl w0) ?_;unfold cA uE oN IJ;simp only[w0,hk];by_cases hw:wr e.i=0<;>simp[hw]
  ·rename_i hk2;split
   ·rename_i hk;split
    ·rename_i hx;refine mk _ rfl rfl rfl rfl rfl (.inl w0) ?_;unfold cA uE oN IJ;simp only[w0,hk,hx];by_cases hw:wr e.i=0<;>simp[hw]
    ·rename_i hx;refine mk _ rfl rfl rfl rfl rfl (.inr ⟨hk,rfl⟩) ?_;unfold cA oN Gc;simp[hk,hx]
   ·rename_i hk5;refine mk _ rfl rfl rfl rfl rfl (.inl w0) ?_;have hk3:kindOf e.i.op≠3:=oT;have hk4:kindOf e.i.op≠4:=oT;unfold cA uE oN IJ;by_cases hw:wr e.i=0<;>simp[hw,w0,hk1,hk2,hk3,hk4,hk5]
def aj5{prog}{T}{e}(h:EOk prog T e){size:Int}{a}(hs:size=T.mem.size)(ha:e.is=0->e.known=false->a=T.r e.i.ag0.toNat):EOk prog T (yC e size a)∧(yC e size a).pc=e.pc:=by
 by_cases hn:(kindOf e.i.op≠3∧kindOf e.i.op≠4)∨e.is≠0∨e.known=true
 ·unfold yC;rw[af1 hn];exact⟨h,rfl⟩
 have h0:e.is=0:=oT
 have hkn:e.known=false:=by cases hk:e.known with
  |false=>rfl
  |true=>exact absurd (.inr (.inr hk)) hn
 obtain⟨w0,w7,w8⟩:=h.wait (.inl h0);have hP:aoF prog e.pc:=af4 λq=>by have:=(h.noi q).1;omega
 obtain rfl:=ha h0 hkn;subst hs;have hS:=aoY (T:=T) hP (h.ins hP) w7 w8;rw[af1 omT]at hS;unfold yC;rw[dZ hn];split
 ·rename_i hr;exact⟨⟨h.ins,h.noi,λq=>absurd (show e.is=1∨e.is=3 from q) omT,h.wait,λ_ _=>⟨rfl,hr⟩,h.st,λq=>⟨(h.agS q).1,rfl⟩,h.run,h.one4,λ_ _=>rfl,λq=>by have q:kindOf e.i.op=5:=q;omega,λq=>by have q:kindOf e.i.op=5:=q;omega,h.gs⟩,rfl⟩
 ·rename_i hr;refine⟨⟨h.ins,λq=>absurd hP q,λ_=>?_,(λq=>by rcases q with q|q<;>cases q),(λq=>by rw[show e.known=true from q]at hkn;cases hkn),.inr (.inr (.inr rfl)),(λq=>by cases q),(λq=>by cases q),(λ_ q=>by cases q),(λ_ q=>by cases q),λq=>by have q:kindOf e.i.op=5:=q;omega,λq=>by have q:kindOf e.i.op=5:=q;omega,h.gs⟩,rfl⟩;show cA _=(stT prog T e).2;rw[hS];unfold sN;rw[dZ (show ¬kZ _ (addrOf e.i (T.r e.i.ag0.toNat)) _=true from hr)];unfold cA Gc addrOf;by_cases hk:kindOf e.i.op=4<;>simp[hk]
def alB{prog}{T}{e}(h:EOk prog T e){b}(hb:b=T.r e.i.ag1.toNat):EOk prog T (uF e b)∧(uF e b).pc=e.pc:=by
 unfold uF;split
 ·exact⟨h,rfl⟩
 ·rename_i hn;have h0:e.is=0:=oT;have hk:kindOf e.i.op=4:=oT
  have hkn:e.known=true:=by cases hk:e.known with
   |true=>rfl
   |false=>exact absurd (.inr (.inl hk)) hn
  obtain⟨w0,w7,w8⟩:=h.wait (.inl h0);have hP:aoF prog e.pc:=af4 λq=>by have:=(h.noi q).1;omega
  subst hb;have hS:=aoY (T:=T) hP (h.ins hP) w7 w8;rw[af1 omT]at hS;obtain⟨a1,a2⟩:=h.adr hkn (.inr hk);refine⟨⟨h.ins,λq=>absurd hP q,λ_=>?_,(λq=>by rcases q with q|q<;>cases q),h.adr,.inr (.inr (.inr rfl)),(λq=>by cases q),(λq=>by cases q),(λ_ q=>by cases q),(λ_ q=>by cases q),λq=>by have q:kindOf e.i.op=5:=q;omega,λq=>by have q:kindOf e.i.op=5:=q;omega,h.gs⟩,rfl⟩;show cA _=(stT prog T e).2;rw[hS];unfold sN;rw[<-a1,af1 a2,af1 hk];unfold cA;simp[w0,hk]
def aiR{prog}{T}{e}(h:EOk prog T e){s}(hs:e.known=true->kindOf e.i.op=3->e.is=0∨e.is=2->s=Cv T.mem e.agZ (sizeOf' e.i.op)):EOk prog T (uM e s)∧(uM e s).pc=e.pc:=by
 unfold uM;split
 ·exact⟨h,rfl⟩
 ·rename_i hn;have hk:kindOf e.i.op=3:=oT
  have hkn:e.known=true:=by cases hk:e.known with
   |true=>rfl
   |false=>exact absurd (.inr (.inl hk)) hn
  have h0:e.is=0∨e.is=2:=oT;obtain⟨w0,w7,w8⟩:=h.wait h0;have hP:aoF prog e.pc:=af4 λq=>by have:=(h.noi q).1;omega
  obtain rfl:=hs hkn hk h0;have hS:=aoY (T:=T) hP (h.ins hP) w7 w8;rw[af1 omT]at hS;obtain⟨a1,a2⟩:=h.adr hkn (.inl hk);refine⟨⟨h.ins,λq=>absurd hP q,λ_=>?_,(λq=>by rcases q with q|q<;>cases q),h.adr,.inr (.inl rfl),(λq=>by cases q),λ_=>.inl w0,λq=>by have q:kindOf e.i.op=4:=q;omega,λ_ _=>hkn,λq=>by have q:kindOf e.i.op=5:=q;omega,λq=>by have q:kindOf e.i.op=5:=q;omega,h.gs⟩,rfl⟩;show cA _=(stT prog T e).2;rw[hS];unfold sN;rw[<-a1,af1 a2,dZ (oT:¬kindOf e.i.op=4)];unfold cA;by_cases hw:wr e.i=0<;>simp[w0,hk,hw]
def alC(prog)(T)(no)(f)(hg:(aoF prog f.pc->kindOf (decN (fetchW prog f.pc)).op≠5)->f.agK=up4 f.pc):EOk prog T (qB no f prog)∧(qB no f prog).pc=f.pc:=by
 have h5:kindOf MG.op≠5:=dT;have hn:∀(x:Ent) (why:Int),why≠0->why≠4->why≠5->x={Cs with no:=no,pc:=f.pc,agK:=f.agK,i:=x.i,halt:=why,is:=3}->(aoF prog f.pc->x.i=decN (fetchW prog f.pc))->(¬aoF prog f.pc->x.i=MG)->kindOf x.i.op≠5->gE prog ⟨f.pc,T.r,T.mem,0⟩=Gc ⟨f.pc,T.r,T.mem,0⟩ why 0->EOk prog T x∧x.pc=f.pc:=by
  intro x why w0 w4 w5 hx h1 h2 h3 hs;obtain⟨xno,xpc,xi,xg,xis,xl,xv,xn,xa,xh,xt,xk,xf⟩:=x;injection hx with e1 e2 e3 e4 e5 e6 e7 e8 e9 e10 e11 e12 e13;subst e1 e2 e4 e5 e6 e7 e8 e9 e10 e11 e12 e13;refine⟨⟨h1,λq=>⟨rfl,h2 q⟩,λ_=>?_,(λq=>by rcases q with q|q<;>cases q),(λq=>by cases q),.inr (.inr (.inr rfl)),(λq=>by cases q),(λq=>by cases q),(λ_ q=>by cases q),(λ_ q=>by cases q),λq=>absurd q h3,λq=>absurd q h3,λ_=>hg λq=>by have:=h1 q;simp only at this h3;rwa [this]at h3⟩,rfl⟩;show cA _=(gE prog _).2;rw[hs];unfold cA Gc;simp only;rw[af1 w0,dZ omT]
 unfold qB;split
 ·rename_i hf;refine hn _ 1 dT dT dT rfl (λq=>by have:=q.1;rw[hf]at this;cases this) (λ_=>rfl) h5 ?_;unfold gE;rw[af1 rfl,dZ (by rw[hf];decide)]
 ·rename_i hf
  have hf:(fetchP prog f.pc).isSome=true:=by cases h:(fetchP prog f.pc).isSome with
   |true=>rfl
   |false=>exact absurd h hf
  split
  ·rename_i ho;refine hn _ 2 dT dT dT rfl (λq=>absurd ho q.2) (λ_=>rfl) h5 ?_;unfold gE;rw[af1 rfl,af1 hf,af1 ho]
  ·rename_i ho;have hP:aoF prog f.pc:=⟨hf,ho⟩;split
   ·rename_i h7;refine hn _ 6 dT dT dT rfl (λ_=>rfl) (λq=>absurd hP q) (by simp only[h7];decide) ?_;unfold gE;rw[af1 rfl,af1 hf,dZ ho];unfold doI;rw[af1 (show(rA prog ⟨f.pc,T.r,T.mem,0⟩).op=47 from h7)]
   ·rename_i h7;split
    ·rename_i h8;refine hn _ 7 dT dT dT rfl (λ_=>rfl) (λq=>absurd hP q) (by simp only[h8];decide) ?_;unfold gE;rw[af1 rfl,af1 hf,dZ ho];unfold doI;rw[dZ (show ¬(rA prog ⟨f.pc,T.r,T.mem,0⟩).op=47 from h7),af1 (show(rA prog ⟨f.pc,T.r,T.mem,0⟩).op=48 from h8)]
    ·rename_i h8;exact⟨⟨λ_=>rfl,λq=>absurd hP q,(λq=>by rcases q with q|q<;>cases q),λ_=>⟨rfl,h7,h8⟩,(λq=>by cases q),.inl rfl,(λq=>by cases q),(λq=>by cases q),(λ_ q=>by cases q),(λ_ q=>by cases q),(λ_ q=>by cases q),(λ_ q=>by cases q),hg⟩,rfl⟩
def ajB(m)(a)(b)(h:a+b.size<=m.size)(i):gb (DD m a b) i=(aoG ⟨a,b⟩ i).or (gb m i):=by
 unfold gb aoG DD;have hl:m.data.toList.length=m.size:=cV;have hb:b.data.toList.length=b.size:=cV;have h1:(m.data.toList.take a).length=a:=by rw[aM];omega
 rw[<-bQ, <-bQ];show((m.data.toList.take a++b.data.toList)++m.data.toList.drop (a+b.size))[i]?=_;by_cases c1:i<a
 ·rw[dZ (oT:¬a<=i),eD,cF omT,List.getElem?_take_of_lt c1];rfl
 rw[af1 (oT:a<=i)];by_cases c2:i<a+b.size
 ·rw[cF (by rw[aU];omega),bM omT,h1];show _=(gb b _).or _;unfold gb;rw[<-bQ,aA omT];rfl
 rw[bM (by rw[aU];omega),aU,h1,hb,cL,(oT:a+b.size+(i-(a+b.size))=i)];show _=(gb b _).or _;rw[aoO omT];rfl
def ahP(m)(a)(b)(h:a+b.size<=m.size):(DD m a b).size=m.size:=by
 have hl:m.data.toList.length=m.size:=cV;have hb:b.data.toList.length=b.size:=cV;show(m.data.toList.take a++b.data.toList++m.data.toList.drop _).toArray.size=_;rw[kP,aU,aU,aM,bD];omega
def aoZ{n:Nat}{a}{k}(h:kZ (n:Int) a (k:Nat)=true):(k=1∨k=2∨k=4)∧a+k<=n:=by
 unfold kZ at h;simp only[aP,aY]at h;omega
def ajC{prog}{T}{e}(h:EOk prog T e):
  (kindOf e.i.op≠4->(stT prog T e).1.mem=T.mem)∧
  (kindOf e.i.op=4->e.known=true->e.halt=0∧(stT prog T e).1.mem=DD T.mem e.agZ (oF (T.r e.i.ag1.toNat) (sizeOf' e.i.op))∧(e.is=3->oF e.value (sizeOf' e.i.op)=oF (T.r e.i.ag1.toNat) (sizeOf' e.i.op))):=by
 constructor
 ·intro hk;by_cases hP:aoF prog e.pc
  ·have hi:rA prog ⟨e.pc,T.r,T.mem,0⟩=e.i:=(h.ins hP).symm;unfold stT gE;rw[af1 rfl,af1 hP.1,dZ hP.2,hi];unfold doI sN oN IJ Gc;rw[dZ hk]
   (repeat' split)<;>rfl
  unfold stT gE Gc;rw[af1 rfl];unfold aoF at hP;split
  ·split
   ·rfl
   rename_i a b;exact absurd ⟨a,b⟩ hP
  rfl
 intro hk hkn;obtain⟨a1,a2⟩:=h.adr hkn (.inr hk);have hP:aoF prog e.pc:=af4 λq=>by rw[(h.noi q).2]at hk;revert hk;decide
 have hop:=(aj3 e.i.op).2.1.1 hk;have hS:=aoY (T:=T) hP (h.ins hP) omT omT;rw[af1 (.inr hk)]at hS;unfold sN at hS;rw[<-a1,af1 a2,af1 hk]at hS;refine⟨?_,by rw[hS],λh3=>?_⟩
 ·rcases h.st with q|q|q|q
  ·exact(h.wait (.inl q)).1
  ·exact absurd q (h.one4 hk)
  ·exact(h.wait (.inr q)).1
  have ht:=h.told (.inr q);rw[hS]at ht;unfold cA at ht;split at ht
  ·rename_i h0;have:=af2 Sp.halt ht;exact absurd this h0
  rename_i h0;exact agD.1 h0
 have ht:=h.told (.inr h3);rw[hS]at ht;unfold cA at ht;split at ht
 ·rename_i h0;have:=af2 Sp.halt ht;exact absurd this h0
 have:=af2 Sp.value ht;simp only at this;rw[this,ah9]
def aj6{prog}{T}{e}:(stT prog T e).1.mem.size=T.mem.size:=by
 have hS:=ah1 prog (s:=⟨e.pc,T.r,T.mem,0⟩) rfl;show(gE prog _).1.mem.size=_;rw[hS.mem];split
 ·rename_i hs;obtain⟨_,h2,h3⟩:=hS.st hs;obtain⟨k,hk⟩:∃k:Nat,(gE prog ⟨e.pc,T.r,T.mem,0⟩).2.size=(k:Int):=⟨_,(lU omT).symm⟩;rw[hk]at h3⊢;exact ahP _ _ _ (by rw[mP];exact(aoZ h3).2)
 rfl
theorem apH{prog:List Nat}:∀{T:St} (l:List Ent),(aoA prog T l).mem.size=T.mem.size
 |T,[]=>rfl
 |T,e::l=>by rw[aoB,apH l,aj6]
def wl(prog:List Nat):St->List Ent->List Pt
 |_,[]=>[]
 |T,e::l=>(if isK e 4=true then [⟨e.agZ,oF (T.r e.i.ag1.toNat) (sizeOf' e.i.op)⟩]else [])++wl prog (stT prog T e).1 l
def aiS(prog:List Nat)(T:St)(e:Ent)(l:List Ent):wl prog T (e::l)=(if isK e 4=true then [⟨e.agZ,oF (T.r e.i.ag1.toNat) (sizeOf' e.i.op)⟩]else [])++wl prog (stT prog T e).1 l:=rfl
def amH{e}{k}:isK e k=true↔kindOf e.i.op=k:=by unfold isK;exact decide_eq_true_iff
def ag8{e}(h:Aw e=false)(hk:kindOf e.i.op=4):e.known=true∧e.halt=0:=by
 unfold Aw at h;rw[amH.2 hk]at h;cases hkn:e.known<;>simp[hkn]at h⊢
 exact h
theorem aiT{prog:List Nat}:∀{T:St} {l:List Ent},ROk prog T l->l.any Aw=false->∀i,gb (aoA prog T l).mem i=(apF (wl prog T l) i).or (gb T.mem i)
 |T,[],_,_,i=>rfl
 | T,e::l,h,hv,i=>by
  rw[List.any_cons,dP]at hv;have hm:=ajC h.1;rw[aoB,aiT h.2 hv.2];rw[aiS,ah2];by_cases hk:kindOf e.i.op=4
  ·obtain⟨k1,k2⟩:=ag8 hv.1 hk;obtain⟨_,a2⟩:=h.1.adr k1 (.inr hk);rw[(hm.2 hk k1).2.1,af1 (amH.2 hk),ajB _ _ _ (by rw[mP];exact(aoZ a2).2)];show _=((apF _ i).or ((aoG _ i).or none)).or _;rw[Option.or_none,Option.or_assoc]
  ·rw[hm.1 hk,dZ (λq=>hk (amH.1 q))];show _=((apF _ i).or none).or _;rw[Option.or_none]
def Al(s:Std)(p:Pt):Prop:=s.agZ=p.agZ∧s.size=p.data.size∧(s.there=true->s.data=p.data)
def Al2:List Std->List Pt->Prop
 |[],[]=>True
 |s::l,p::k=>Al s p∧Al2 l k
 |_,_=>False
theorem aiU:∀{a:List Std} {p:List Pt} {b:List Std} {q:List Pt},Al2 a p->Al2 b q->Al2 (a++b) (p++q)
 |[],[],_,_,_,h=>h
 |_::_,_::_,_,_,⟨h1,h2⟩,h=>⟨h1,aiU h2 h⟩
 |[],_::_,_,_,h,_=>h.elim
 |_::_,[],_,_,h,_=>h.elim
theorem aiV:∀{a:List Std} {p:List Pt},Al2 a p->Al2 a.reverse p.reverse
 |[],[],_=>trivial
 |_::_,_::_,⟨h1,h2⟩=>by rw[List.reverse_cons,List.reverse_cons];exact aiU (aiV h2) ⟨h1,trivial⟩
 |[],_::_,h=>h.elim
 |_::_,[],h=>h.elim
theorem ahQ:∀(l:List Pt),Al2 (l.map CY) l
 |[]=>trivial
 |p::l=>⟨⟨rfl,rfl,λ_=>rfl⟩,ahQ l⟩
theorem aj7{prog:List Nat}:∀{T:St} {l:List Ent},ROk prog T l->l.any Aw=false->Al2 ((l.filter λe=>isK e 4).map Fg) (wl prog T l)
 |T,[],_,_=>trivial
 | T,e::l,h,hv=>by
  rw[List.any_cons,dP]at hv;have ih:=aj7 h.2 hv.2;rw[aiS];by_cases hk:kindOf e.i.op=4
  ·obtain⟨k1,k2⟩:=ag8 hv.1 hk;have hm:=((ajC h.1).2 hk k1).2.2;rw[List.filter_cons_of_pos (p:=λe=>isK e 4) (amH.2 hk),af1 (amH.2 hk)];refine⟨⟨rfl,(mP _ _).symm,λht=>hm ?_⟩,ih⟩;exact af0 ht
  ·rw[List.filter_cons_of_neg (p:=λe=>isK e 4) (λq=>hk (amH.1 q)),dZ (λq=>hk (amH.1 q))];exact ih
def ao3:List Pt->Nat->Option UInt8
 |[],_=>none
 |p::l,i=>(aoG p i).or (ao3 l i)
theorem ao0:∀(a b:List Pt) (i:Nat),ao3 (a++b) i=(ao3 a i).or (ao3 b i)
 |[],_,_=>rfl
 |p::a,b,i=>by show(aoG p i).or (ao3 (a++b) i)=_;rw[ao0 a b, <-Option.or_assoc];rfl
theorem aoI:∀(l:List Pt) (i:Nat),ao3 l.reverse i=apF l i
 |[],_=>rfl
 |p::l,i=>by
  rw[List.reverse_cons,ao0,aoI l,aoC];show _=_;congr 1;show(aoG p i).or none=_;rw[Option.or_none]
theorem aiB{at_ n:Nat}(hn:0<n):∀{L:List Std} {P:List Pt},Al2 L P->
  ((xK at_ n L).1=2->∀j,j<n->ao3 P (at_+j)=none)∧
  ((xK at_ n L).1=1->(xK at_ n L).2.size=n∧∀j,j<n->ao3 P (at_+j)=gb (xK at_ n L).2 j)
 |[],[],_=>⟨λ_ _ _=>rfl,λh=>by cases h⟩
 |[],_::_,h=>h.elim
 |_::_,[],h=>h.elim
 | s ::L,p::P,⟨⟨h1,h2,h3⟩,h⟩=>by
  have ih:=aiB (at_:=at_) hn h;unfold xK;have hcov:∀j,lapsP s.agZ s.size at_ n=false->j<n->aoG p (at_+j)=none:=λj hl hj=>by
   unfold lapsP at hl;simp only[Bool.and_eq_false_iff,mA]at hl;unfold aoG;split
   ·refine aoO ?_;rw[<-h2, <-h1];rename_i q;rw[<-h1]at q;omega
   ·rfl
  split
  ·rename_i hl;refine⟨λq j hj=>?_,λq=>⟨(ih.2 q).1,λj hj=>?_⟩⟩
   ·show(aoG p _).or _=none;rw[hcov j hl hj,ih.1 q j hj];rfl
   ·show(aoG p _).or _=_;rw[hcov j hl hj,(ih.2 q).2 j hj];rfl
  ·split
   ·exact⟨(λq=>by cases q),(λq=>by cases q)⟩
   ·rename_i hl hh
    have hh1:Fh s.agZ s.size at_ n=true:=by cases hx:Fh s.agZ s.size at_ n with
     |true=>rfl
     |false=>exact absurd (.inl hx) hh
    have hh2:s.there=true:=by cases hx:s.there with
     |true=>rfl
     |false=>exact absurd (.inr hx) hh
    unfold Fh at hh1;simp only[aP,aY]at hh1;have hd:=h3 hh2;rw[hd];refine⟨(λq=>by cases q),λ_=>⟨?_,λj hj=>?_⟩⟩
    ·show(p.data.extract _ _).size=n;rw[dA];omega
    ·show(aoG p (at_+j)).or _=gb (p.data.extract _ _) j;rw[aoP,af1 omT];unfold aoG;rw[af1 omT,(oT:at_+j-p.agZ=at_-s.agZ+j)];have:gb p.data (at_-s.agZ+j)≠none:=by
      unfold gb;rw[Ne,Array.getElem?_eq_none_iff];have:p.data.data.size=p.data.size:=rfl;omega
     cases hx:gb p.data (at_-s.agZ+j)with
     |none=>exact absurd hx this
     |some v=>rfl
def an8(e x:Ent):Bool:= !isK x 4||(x.known&&decide (x.halt=0)&& !lapsP x.agZ (sizeOf' x.i.op) e.agZ (sizeOf' e.i.op))
def am1{e x}:an8 e x=true↔(kindOf x.i.op=4->x.known=true∧x.halt=0∧lapsP x.agZ (sizeOf' x.i.op) e.agZ (sizeOf' e.i.op)=false):=by
 unfold an8;by_cases hk:kindOf x.i.op=4
 ·rw[amH.2 hk];simp[hk,uK]
 rw[show isK x 4=false by cases h:isK x 4 with|false=>rfl|true=>exact absurd (amH.1 h) hk];simp[hk]
theorem ahR{at_ n:Nat}:∀{L:List Std},(xK at_ n L).1=2->∀s∈L,lapsP s.agZ s.size at_ n=false
 |[],_,s,h=>by cases h
 | x::L,hq,s,h=>by
  unfold xK at hq;split at hq
  ·rename_i hl;rcases al_List_mem_cons.1 h with rfl|h
   ·exact hl
   ·exact ahR hq s h
  ·split at hq
   ·cases hq
   ·cases hq
def alD{agI}{agF}{i}{e}(he:agI[i]?=some e)(h:(lL agI agF i).1=2):(agI.take i).all (an8 e)=true:=by
 unfold lL at h;rw[he]at h;simp only at h;split at h
 ·cases h
 split at h
 ·cases h
 rename_i hv;rw[rC];intro x hx;refine am1.2 λhk=>?_;have hvx:Aw x=false:=by
  cases hq:Aw x with
  |false=>rfl
  |true=>exact absurd (Mv.2 ⟨x,hx,hq⟩) hv
 obtain⟨k1,k2⟩:=ag8 hvx hk;refine⟨k1,k2,?_⟩;refine ahR h (Fg x) ?_;unfold FW;rw[al_List_mem_append,List.mem_reverse,pG];exact .inl ⟨x,List.mem_filter.2 ⟨hx,amH.2 hk⟩,rfl⟩
def aiW{e}{l:List Ent}(h:l.all (an8 e)=true):l.any Aw=false:=by
 rw[List.any_eq_false];intro x hx hv;have:=am1.1 (rC.1 h x hx);unfold Aw at hv;rw[aP,amH]at hv;obtain⟨k1,k2,_⟩:=this hv.1;rw[k1,k2]at hv;simp at hv
theorem al2{prog:List Nat}:∀{T:St} {l:List Ent} {p:Pt},p∈wl prog T l->∃x∈l,kindOf x.i.op=4∧p.agZ=x.agZ∧p.data.size=sizeOf' x.i.op
 |T,[],p,h=>by cases h
 | T,e::l,p,h=>by
  rw[aiS,al_List_mem_append]at h;rcases h with h|h
  ·split at h
   ·rename_i hk;rw[uJ]at h;subst h;exact⟨e,al_List_mem_cons_self,amH.1 hk,rfl,mP _ _⟩
   ·cases h
  ·obtain⟨x,hx,h⟩:=al2 h;exact⟨x,bY _ hx,h⟩
def alE{a b}{k n}(hs:a.size=b.size)(hn:k+n<=a.size)(h:∀j,j<n->gb a (k+j)=gb b (k+j)):Cv a k n=Cv b k n:=by
 unfold Cv;refine aiE (by rw[dA,dA,hs]) λj hj=>?_;rw[dA]at hj;rw[aoP,aoP, <-hs,af1 hj,af1 hj];exact h j omT
def ahS{prog:List Nat}{T:St}{l:List Ent}{e:Ent}(h:ROk prog T l)(hc:l.all (an8 e)=true)(hr:kZ T.mem.size e.agZ (sizeOf' e.i.op)=true):Cv (aoA prog T l).mem e.agZ (sizeOf' e.i.op)=Cv T.mem e.agZ (sizeOf' e.i.op):=by
 obtain⟨hn,hi⟩:=aoZ hr;refine alE (apH l) (by rw[apH];exact hi) λj hj=>?_;have hn0:∀p∈wl prog T l,aoG p (e.agZ+j)=none:=by
  intro p hp;obtain⟨x,hx,hk,h1,h2⟩:=al2 hp;obtain⟨_,_,hl⟩:=am1.1 (rC.1 hc x hx) hk;unfold lapsP at hl;simp only[Bool.and_eq_false_iff,mA]at hl;unfold aoG;split
  ·refine aoO ?_;rw[h2];rename_i q;rw[h1]at q⊢;omega
  rfl
 rw[aiT h (aiW hc),ahA hn0];rfl
def aj8{prog}{T}{agI}{agF}{u:Nat->Option UInt8}(h:ROk prog T agI){i}{e}(he:agI[i]?=some e)(hr:kZ T.mem.size e.agZ (sizeOf' e.i.op)=true)
  (hu:∀i,i<T.mem.size->gb T.mem i=(apF agF i).or (u i)) (hd:(lL agI agF i).1=1):(lL agI agF i).2=Cv (aoA prog T (agI.take i)).mem e.agZ (sizeOf' e.i.op):=by
 obtain⟨hn,hi⟩:=aoZ hr;obtain⟨hk,hk2⟩:=Em.1 he;have hR:ROk prog T (agI.take i):=by
  have:agI=agI.take i++agI.drop i:=(afF _ _).symm;rw[this]at h;exact(amF.1 h).1
 unfold lL at hd⊢;rw[he]at hd⊢;simp only at hd⊢;split at hd
 ·cases hd
 rename_i h3;split at hd
 ·cases hd
 rename_i hv;rw[dZ h3,dZ hv]
 have hv:(agI.take i).any Aw=false:=by cases hq:(agI.take i).any Aw with
  |false=>rfl
  |true=>exact absurd hq hv
 have hA:Al2 (FW (agI.take i) agF) _:=aiU (aiV (aj7 hR hv)) (aiV (ahQ agF));obtain⟨s1,s2⟩:=(aiB omT hA).2 hd;unfold Cv;refine aiE (by rw[s1,dA,apH];omega) λj hj=>?_;rw[s1]at hj;rw[aoP,af1 (by rw[apH];omega), <-s2 j hj,aiT hR hv,hu _ omT,ao0,aoI,aoI];have hne:(apF (wl prog T (agI.take i)) (e.agZ+j)).or (apF agF (e.agZ+j))≠none:=by
  rw[<-aoI, <-aoI, <-ao0,s2 j hj];unfold gb;rw[Ne,Array.getElem?_eq_none_iff];have:(xK e.agZ _ _).2.data.size=_:=s1;omega
 rw[<-Option.or_assoc]
 cases hx:(apF _ _).or (apF agF (e.agZ+j))with
 |none=>exact absurd hx hne
 |some v=>rfl
structure RI(prog:List Nat)(s:St)(l:List Ent):Prop where
 ok:ROk prog s l
 agS:∀i e,l[i]?=some e->e.is=2->(l.take i).all (an8 e)=true
theorem aj9{prog:List Nat}:∀{T:St} {l:List Ent},(∀k e,l[k]?=some e->EOk prog (aoA prog T (l.take k)) e)->ROk prog T l
 |T,[],_=>trivial
 |T,e::l,h=>⟨h 0 e rfl,aj9 λk x hx=>h (k+1) x hx⟩
theorem RI.take{prog}{s}{l}(h:RI prog s l)(n):RI prog s (l.take n):=by
 refine⟨aj9 λk e he=>?_,λi e he h2=>?_⟩
 all_goals
  rw[cU]at he;split at he
  ·rename_i hk;rw[List.take_take,kD omT]
   first|exact ag7 h.ok he|exact h.agS i e he h2
  cases he
def ajL{e e' x x'}(hi:x'.i=x.i)(hx:kindOf x.i.op=4->x.known=true->x.halt=0->x'.known=true∧x'.halt=0∧x'.agZ=x.agZ)(he:e'.i=e.i∧e'.agZ=e.agZ)(h:an8 e x=true):an8 e' x'=true:=by
 refine am1.2 λhk=>?_;rw[hi]at hk⊢;obtain⟨h1,h2,h3⟩:=am1.1 h hk;obtain⟨k1,k2,k3⟩:=hx hk h1 h2;exact⟨k1,k2,by rw[k3,he.1,he.2];exact h3⟩
structure Turn(e e':Ent):Prop where
 pc:e'.pc=e.pc
 i:e'.i=e.i
 g:e'.agK=e.agK
 st:kindOf e.i.op=4->e.known=true->e.halt=0->e'.known=true∧e'.halt=0∧e'.agZ=e.agZ
theorem Turn.refl(e):Turn e e:=⟨rfl,rfl,rfl,λ_ a b=>⟨a,b,rfl⟩⟩
def ao1{l l':List Ent}(hl:l'.length=l.length)(h:∀(k:Nat) e e',l[k]?=some e->l'[k]?=some e'->Turn e e'):l'.map (λe=>(e.pc,e.agK))=l.map (λe=>(e.pc,e.agK)):=by
 apply dD;intro k;rw[aX,aX]
 cases h1:l[k]? with
 |none=>rw[bE (by rw[hl];exact List.getElem?_eq_none_iff.1 h1)]
 |some e=>
  obtain⟨hk,_⟩:=Em.1 h1;have h2:=aA (l:=l') (i:=k) omT;rw[h2];have:=h k e _ h1 h2;simp[this.pc,this.g]
theorem RI.turn{prog}{s}{l l'}(h:RI prog s l)(hl:l'.length=l.length)(ht:∀(k:Nat) e e',l[k]?=some e->l'[k]?=some e'->Turn e e')
  (hk:∀(k:Nat) e e',l[k]?=some e->l'[k]?=some e'->EOk prog (aoA prog s (l.take k)) e->EOk prog (aoA prog s (l.take k)) e')
  (hb:∀(k:Nat) e e',l[k]?=some e->l'[k]?=some e'->e'.is=2->(e.is=2∧e'.agZ=e.agZ)∨(l'.take k).all (an8 e')=true):RI prog s l':=by
 have hg:∀k e',l'[k]?=some e'->∃e,l[k]?=some e:=λk e' he=>by
  obtain⟨hk,_⟩:=Em.1 he;exact⟨_,aA omT⟩
 have hp:∀k,(l'.take k).map _=(l.take k).map _:=λk=>by
  have:=af2 (List.map Prod.fst) (ao1 hl ht);rw[List.map_map,List.map_map]at this;rw[eO,eO];exact af2 _ this
 refine⟨aj9 λk e' he=>?_,λk e' he h2=>?_⟩
 ·obtain⟨e,h1⟩:=hg k e' he;rw[ai9 prog s _ _ (hp k)];exact hk k e e' h1 he (ag7 h.ok h1)
 obtain⟨e,h1⟩:=hg k e' he;rcases hb k e e' h1 he h2 with ⟨b1,b2⟩|b
 ·have:=h.agS k e h1 b1;rw[rC]at this⊢;intro x' hx';obtain⟨j,hj⟩:=List.mem_iff_getElem?.1 hx';rw[cU]at hj;split at hj
  ·rename_i hjk;obtain⟨x,hx⟩:=hg j x' hj;have t:=ht j x x' hx hj;refine ajL t.i t.st ⟨(ht k e e' h1 he).i,b2⟩ (this x ?_);exact List.mem_iff_getElem?.2 ⟨j,by rw[cU,af1 hjk];exact hx⟩
  cases hj
 exact b
theorem RI.map{prog}{s}{l}(h:RI prog s l)(f)(ht:∀e∈l,Turn e (f e))(hk:∀k e,l[k]?=some e->EOk prog (aoA prog s (l.take k)) e->EOk prog (aoA prog s (l.take k)) (f e))(hb:∀e∈l,(f e).is=2->e.is=2∧(f e).agZ=e.agZ):RI prog s (l.map f):=by
 have hg:∀k e e',l[k]?=some e->(l.map f)[k]?=some e'->e'=f e:=λk e e' h1 h2=>by
  rw[aX,h1]at h2;injection h2 with h2;exact h2.symm
 refine h.turn (aH ..) (λk e e' h1 h2=>?_) (λk e e' h1 h2 q=>?_) (λk e e' h1 h2 q=>?_)
 ·rw[hg k e e' h1 h2];exact ht e (aB h1)
 ·rw[hg k e e' h1 h2];exact hk k e h1 q
 rw[hg k e e' h1 h2]at q⊢;exact .inl (hb e (aB h1) q)
theorem RI.set{prog}{s}{l}(h:RI prog s l){k}{e e'}(he:l[k]?=some e)(ht:Turn e e')(hk:EOk prog (aoA prog s (l.take k)) e->EOk prog (aoA prog s (l.take k)) e')(hb:e'.is=2->(e.is=2∧e'.agZ=e.agZ)∨(l.take k).all (an8 e')=true):RI prog s (l.set k e'):=by
 obtain⟨hk1,_⟩:=Em.1 he;have hg:∀j x x',l[j]?=some x->(l.set k e')[j]?=some x'->(j=k∧x=e∧x'=e')∨(j≠k∧x'=x):=λj x x' h1 h2=>by
  by_cases hj:j=k
  ·subst hj;rw[aZ hk1]at h2;rw[he]at h1;injection h1 with h1;injection h2 with h2;exact .inl ⟨rfl,h1.symm,h2.symm⟩
  rw[kX (λq=>hj q.symm),h1]at h2;injection h2 with h2;exact .inr ⟨hj,h2.symm⟩
 refine h.turn (cC ..) (λj x x' h1 h2=>?_) (λj x x' h1 h2 q=>?_) (λj x x' h1 h2 q=>?_)
 ·rcases hg j x x' h1 h2 with ⟨rfl,rfl,rfl⟩|⟨_,rfl⟩
  ·exact ht
  exact Turn.refl _
 ·rcases hg j x x' h1 h2 with ⟨rfl,rfl,rfl⟩|⟨_,rfl⟩
  ·exact hk q
  exact q
 rcases hg j x x' h1 h2 with ⟨rfl,rfl,rfl⟩|⟨_,rfl⟩
 ·rcases hb q with b|b
  ·exact .inl b
  exact .inr (by rw[List.take_set_of_le (aC _)];exact b)
 exact .inl ⟨q,rfl⟩
def akA(e)(hs:kindOf e.i.op=4->e.is≠1):Turn e (goE e):=by
 unfold goE;split
 ·exact Turn.refl _
 rename_i h;have h4:kindOf e.i.op≠4:=λq=>hs q omT;split<;>exact⟨rfl,rfl,rfl,λq=>absurd q h4⟩
def ahT(e)(b):Turn e (uF e b):=by
 unfold uF;split
 ·exact Turn.refl _
 exact⟨rfl,rfl,rfl,λ_ a b=>⟨a,b,rfl⟩⟩
def aoJ(e)(s):Turn e (uM e s):=by
 unfold uM;split
 ·exact Turn.refl _
 exact⟨rfl,rfl,rfl,λ_ a b=>⟨a,b,rfl⟩⟩
def ahU(e)(a b):Turn e (rJ e a b):=by
 unfold rJ
 (repeat' split)<;>first|exact Turn.refl _|exact⟨rfl,rfl,rfl,λq=>absurd q omT⟩
def aoK(e)(n)(a):Turn e (yC e n a):=by
 unfold yC;split
 ·exact Turn.refl _
 rename_i hn;split<;>exact⟨rfl,rfl,rfl,λ_ q=>absurd (.inr (.inr q)) hn⟩
theorem RI.go{prog}{s}{l}(h:RI prog s l):RI prog s (l.map goE):=by
 refine h.map goE (λe he=>?_) (λk e _ q=>(anT q).1) (λe he q=>?_)
 ·obtain⟨k,hk⟩:=List.mem_iff_getElem?.1 he;exact akA e (ag7 h.ok hk).one4
 unfold goE at q⊢;split at q
 ·rename_i h1;rw[af1 h1];exact⟨q,rfl⟩
 split at q
 ·cases q
 rename_i h1 _;have q:e.is=2:=q;omega
theorem RI.putAt{prog}{s}{l}(h:RI prog s l)(hz:s.r 0=0)(i):RI prog s (storeAt s.r l i)∧(storeAt s.r l i).length=l.length∧(storeAt s.r l i).map (λe=>(e.pc,e.agK))=l.map (λe=>(e.pc,e.agK)):=by
 unfold storeAt;split
 ·rename_i e he;split
  ·split
   ·rename_i b hb;obtain⟨hi,_⟩:=Em.1 he;have hv:=aj4 h.ok hz (Nat.le_of_lt hi) hb;refine⟨h.set he (ahT e b) (λq=>(alB q hv).1) (λq=>.inl ?_),cC ..,?_⟩
    ·unfold uF at q⊢;split at q
     ·rename_i h1;rw[af1 h1];exact⟨q,rfl⟩
     cases q
    refine ao1 (cC ..) λk x x' h1 h2=>?_;by_cases hk:i=k
    ·subst hk;rw[aZ hi]at h2;rw[he]at h1;injection h1 with h1;injection h2 with h2;subst h1;subst h2;exact ahT _ _
    rw[kX hk,h1]at h2;injection h2 with h2;subst h2;exact Turn.refl _
   exact⟨h,rfl,rfl⟩
  exact⟨h,rfl,rfl⟩
 exact⟨h,rfl,rfl⟩
theorem RI.putTo{prog:List Nat}{s:St}{l:List Ent}(h:RI prog s l)(hz:s.r 0=0):∀n,RI prog s (cN s.r l n)∧(cN s.r l n).length=l.length∧(cN s.r l n).map (λe=>(e.pc,e.agK))=l.map (λe=>(e.pc,e.agK))
 |0=>⟨h,rfl,rfl⟩
 |n+1=>by
  obtain⟨h1,h2,h3⟩:=h.putTo hz n;obtain⟨k1,k2,k3⟩:=h1.putAt hz n;exact⟨k1,k2.trans h2,k3.trans h3⟩
def lnk:Nat->List (Nat×Nat)->Nat->Prop
 |a,[],z=>a=z
 |a,p::l,z=>p.1=a∧lnk p.2 l z
theorem amI:∀{a:Nat} {l m:List (Nat×Nat)} {z:Nat},lnk a (l++m) z↔∃y,lnk a l y∧lnk y m z
 |a,[],m,z=>⟨λh=>⟨a,rfl,h⟩,λ⟨y,h1,h2⟩=>by cases h1;exact h2⟩
 |a,p::l,m,z=>by
  show p.1=a∧lnk p.2 (l++m) z↔_;rw[amI];exact⟨λ⟨h,y,h1,h2⟩=>⟨y,⟨h,h1⟩,h2⟩,λ⟨y,⟨h,h1⟩,h2⟩=>⟨h,y,h1,h2⟩⟩
def aiO(l:List Ent):List (Nat×Nat):=l.map λe=>(e.pc,e.agK)
def am2(l:List Ft):List (Nat×Nat):=l.map λf=>(f.pc,f.agK)
def anC(prog:List Nat)(f:Ft):Prop:=(aoF prog f.pc->kindOf (decN (fetchW prog f.pc)).op≠5)->f.agK=up4 f.pc
structure Iv(prog:List Nat)(c:Co)(s:St):Prop where
 pr:c.prog=prog
 r:c.r=s.r
 z:s.r 0=0
 mem:Xr c=s.mem
 halt:c.halt=s.halt
 hl:c.halt≠0->c.agI=[]
 ri:RI prog s c.agI
 ch:c.halt=0->∃z,lnk s.pc (aiO c.agI++am2 c.agH) z∧(c.stop=false->c.agM=z)
 fts:∀f∈c.agH,anC prog f
theorem Iv.same{prog}{c d}{s}(h:Iv prog c s)(e1:d.prog=c.prog)(e2:d.r=c.r)(e3:Xr d=Xr c)(e4:d.halt=c.halt)(e5:d.agH=c.agH)(e6:d.agM=c.agM)(e7:d.stop=c.stop)(e8:aiO d.agI=aiO c.agI)(hr:RI prog s d.agI):Iv prog d s:=by
 refine⟨e1.trans h.pr,e2.trans h.r,h.z,e3.trans h.mem,e4.trans h.halt,λq=>?_,hr,λq=>?_,by rw[e5];exact h.fts⟩
 ·have:=h.hl (by rwa [e4]at q);rw[this]at e8;exact List.map_eq_nil_iff.1 e8
 rw[e8,e5,e7,e6];exact h.ch (by rwa [e4]at q)
theorem Iv.fill{prog}{c}{s}(hr:RI prog s c.agI)(hm:Xr c=s.mem)(agY):RI prog s (c.agI.map (wO c agY))∧aiO (c.agI.map (wO c agY))=aiO c.agI:=by
 have hT:∀e,Turn e (wO c agY e):=λe=>by
  unfold wO;split
  ·have:=aoJ {e with agU:=true} (oL c e);exact⟨this.pc,this.i,this.g,this.st⟩
  exact Turn.refl _
 refine⟨hr.map _ (λe _=>hT e) (λk e he q=>?_) (λe _ q=>?_),?_⟩
 ·unfold wO;split
  ·rename_i h2;refine(aiR (e:={e with agU:=true}) ⟨q.ins,q.noi,q.told,q.wait,q.adr,q.st,q.agS,q.run,q.one4,q.ahead,q.kn5,q.dn5,q.gs⟩ λhk hk3 _=>?_).1;obtain⟨_,a2⟩:=q.adr hk (.inl hk3);rw[apH]at a2;show oL c e=_;unfold oL;rw[hm,af1 a2];have hR:ROk prog s _:=(hr.take k).ok;exact(ahS hR (hr.agS k e he h2.1) a2).symm
  exact q
 ·unfold wO at q⊢;split at q
  ·rename_i h1;rw[af1 h1];unfold uM at q⊢;split at q
   ·rename_i h2;rw[af1 h2];exact⟨q,rfl⟩
   cases q
  rename_i h1;rw[dZ h1];exact⟨q,rfl⟩
 unfold aiO;rw[List.map_map];exact iB λe _=>by show(_,_)=_;rw[(hT e).pc,(hT e).g]
theorem Iv.ticks{prog}{c}{s}(h:Iv prog c s)(hmc:c.mc)(hq:∀x∈c.agS,x.ok):Iv prog (lM c) s:=by
 have hK:=aoT hmc hq;have hst:(lM c).agF=c.agF:=by
  unfold lM ID oK
  (repeat' split)<;>rfl
 have hA:=apJ hK hst
 revert hA
 unfold lM;split
 rename_i q x ok _;split
 ·unfold ID;split
  ·intro hA;have hA2:Xr {c with agS:=q}=s.mem:=hA.trans h.mem;obtain⟨f1,f2⟩:=Iv.fill (c:={c with agS:=q}) h.ri hA2 x.agY;exact h.same rfl rfl hA rfl rfl rfl rfl f2 f1
  split
  ·exact λhA=>h.same rfl rfl hA rfl rfl rfl rfl rfl h.ri
  split
  ·intro hA;unfold oK at hA⊢;exact h.same rfl rfl hA rfl rfl rfl rfl rfl h.ri
  split
  ·exact λhA=>h.same rfl rfl hA rfl rfl rfl rfl rfl h.ri
  exact λhA=>h.same rfl rfl hA rfl rfl rfl rfl rfl h.ri
 exact λhA=>h.same rfl rfl hA rfl rfl rfl rfl rfl h.ri
def NW(l:List Ent):Prop:=∀e∈l,Nj e=false
theorem Iv.works{prog}{c}{s}(h:Iv prog c s):Iv prog (kK c) s∧NW (kK c).agI:=by
 unfold kK;split
 ·rename_i hh;exact⟨h,by rw[h.hl hh];intro e he;cases he⟩
 rename_i hh;have hh:c.halt=0:=agD.1 hh;obtain⟨g1,g2,g3⟩:=(h.ri.go).putTo h.z c.agI.length;have hW:afD c=cN s.r (c.agI.map goE) c.agI.length:=by unfold afD;rw[h.r]
 rw[<-hW]at g1 g2 g3;have g4:aiO (afD c)=aiO c.agI:=by
  unfold aiO;rw[g3,List.map_map];refine iB λe he=>?_;obtain⟨k,hk⟩:=List.mem_iff_getElem?.1 he;have:=akA e (ag7 h.ri.ok hk).one4;show(_,_)=_;rw[this.pc,this.g]
 split
 ·rename_i i hi;unfold yD at hi;obtain⟨hi1,hi2,hi3⟩:=List.findIdx?_eq_some_iff_getElem.1 hi;have he:(afD c)[i]?=some (afD c)[i]:=aA hi1;generalize hE:(afD c)[i]=e at he hi2;rw[he];have hcut:DY (afD c) i=(afD c).take i++[{e with agK:=e.next}]:=by unfold DY;rw[he]
  rw[hcut];have hw:kindOf e.i.op=5∧e.known=true∧e.next≠e.agK:=by
   unfold Nj at hi2;simp only[aP,aY]at hi2;exact⟨hi2.1.1,hi2.1.2,hi2.2⟩
  have hR1:=g1.take i;have hEok:=ag7 g1.ok he;have hlast:RI prog s ((afD c).take i++[{e with agK:=e.next}]):=by
   refine⟨amF.2 ⟨hR1.ok,⟨hEok.ins,hEok.noi,hEok.told,hEok.wait,hEok.adr,hEok.st,hEok.agS,hEok.run,hEok.one4,hEok.ahead,hEok.kn5,hEok.dn5,λq=>?_⟩,trivial⟩,λj x hj h2=>?_⟩
   ·by_cases hP:aoF prog e.pc
    ·exact absurd hw.1 (q hP)
    have:=(hEok.noi hP).2;rw[this]at hw;exact absurd hw.1 dT
   by_cases hj2:j<i
   ·have hl:j<((afD c).take i).length:=by rw[aM];omega
    rw[cF hl]at hj;rw[List.take_append_of_le_length omT];exact hR1.agS j x hj h2
   have hl:((afD c).take i).length=i:=by rw[aM];omega
   rw[bM omT,hl]at hj;rcases al_Nat_lt_or_ge (j-i) 1 with q|q
   ·rw[(oT:j-i=0)]at hj;injection hj with hj;subst hj;have h3:=(hEok.agS h2).1;exact absurd hw.1 omT
   rw[bE (sU q)]at hj;cases hj
  refine⟨⟨h.pr,h.r,h.z,h.mem,h.halt,λq=>absurd hh q,hlast,λ_=>?_,λf hf=>by cases hf⟩,?_⟩
  ·obtain⟨z,hz,_⟩:=h.ch hh;obtain⟨y,hy,_⟩:=amI.1 hz;rw[<-g4]at hy;have hsp:afD c=(afD c).take i++(e::(afD c).drop (i+1)):=by
    rw[<-hE, <-bF hi1,afF]
   rw[hsp]at hy;unfold aiO at hy;rw[dH]at hy;obtain⟨y1,h1,h2⟩:=amI.1 hy;refine⟨e.next,?_,λ_=>rfl⟩;show lnk s.pc (aiO _++[]) _;rw[dY];unfold aiO;rw[dH];exact amI.2 ⟨y1,h1,h2.1,rfl⟩
  intro x hx;rcases al_List_mem_append.1 hx with hx|hx
  ·obtain⟨j,hj⟩:=List.mem_iff_getElem?.1 hx;rw[cU]at hj;split at hj
   ·rename_i hji;obtain⟨hj1,hj2⟩:=Em.1 hj;have:=hi3 j hji;rw[hj2]at this;exact Bool.eq_false_iff.2 this
   cases hj
  rw[uJ]at hx;subst hx;unfold Nj;simp
 rename_i hn;unfold yD at hn;rw[List.findIdx?_eq_none_iff]at hn;exact⟨h.same rfl rfl rfl rfl rfl rfl rfl g4 g1,λe he=>hn e he⟩
def amJ(no)(f)(prog):(qB no f prog).agK=f.agK∧(qB no f prog).is≠2:=by
 unfold qB;(repeat' split)<;>first|exact⟨rfl,(dT:(3:Int)≠2)⟩|exact⟨rfl,(dT:(0:Int)≠2)⟩
theorem Iv.enter{prog}{c}{s}(h:Iv prog c s){f}{l}(hf:c.agH=f::l)(hh:c.halt=0):Iv prog {c with agI:=c.agI++[qB c.next f c.prog],next:=wrap64 (c.next+1),agH:=l} s:=by
 have hF:anC prog f:=h.fts f (by rw[hf];exact al_List_mem_cons_self);obtain⟨e1,e2⟩:=alC prog (aoA prog s c.agI) c.next f hF;obtain⟨g1,g2⟩:=amJ c.next f prog;rw[h.pr];refine⟨rfl,h.r,h.z,h.mem,h.halt,λq=>absurd hh q,⟨amF.2 ⟨h.ri.ok,e1,trivial⟩,λj x hj h2=>?_⟩,λ_=>?_,λx hx=>h.fts x (by rw[hf];exact bY _ hx)⟩
 ·by_cases hj2:j<c.agI.length
  ·rw[cF hj2]at hj;rw[List.take_append_of_le_length omT];exact h.ri.agS j x hj h2
  rw[bM omT]at hj;rcases al_Nat_lt_or_ge (j-c.agI.length) 1 with q|q
  ·rw[(oT:j-c.agI.length=0)]at hj;injection hj with hj;subst hj;exact absurd h2 g2
  rw[bE (sU q)]at hj;cases hj
 obtain⟨z,hz,hs⟩:=h.ch hh;refine⟨z,?_,hs⟩;rw[hf]at hz;show lnk s.pc (aiO (c.agI++[_])++am2 l) z;unfold aiO;rw[dH,eD];show lnk s.pc (aiO c.agI++((qB c.next f prog).pc,(qB c.next f prog).agK)::am2 l) z;rw[e2,g1];exact hz
theorem Iv.enN{prog:List Nat}{s:St}:∀(n:Nat) {c:Co},Iv prog c s->c.halt=0->Iv prog (kV n c) s∧(kV n c).halt=0
 |0,c,h,hh=>⟨h,hh⟩
 | n+1,c,h,hh=>by
  unfold kV;split
  ·exact⟨h,hh⟩
  ·split
   ·exact⟨h,hh⟩
   ·rename_i f l hf;exact Iv.enN n (h.enter hf hh) hh
theorem Iv.enters{prog}{c}{s}(h:Iv prog c s):Iv prog (lP c) s:=by
 unfold lP;split
 ·exact h
 rename_i hh;exact(Iv.enN _ h (agD.1 hh)).1
theorem Iv.agM{prog}{c}{s}(h:Iv prog c s)(hh:c.halt=0)(hs:c.stop=false)(n)(st)(x)(hx:st=false->x=n)(hF:anC prog ⟨c.agM,n⟩){d}(e1:d.prog=c.prog)(e2:d.r=c.r)(e3:Xr d=Xr c)(e4:d.halt=c.halt)(e5:d.agH=c.agH++[⟨c.agM,n⟩])(e6:d.agM=x)(e7:d.stop=st)(e8:d.agI=c.agI):Iv prog d s:=by
 refine⟨e1.trans h.pr,e2.trans h.r,h.z,e3.trans h.mem,e4.trans h.halt,λq=>absurd (e4.trans hh) q,by rw[e8];exact h.ri,λ_=>?_,λf hf=>?_⟩
 ·obtain⟨z,hz,hz2⟩:=h.ch hh;refine⟨n,?_,λq=>by rw[e6];exact hx (by rw[<-e7];exact q)⟩;rw[e8,e5];unfold am2;rw[dH, <-eD];exact amI.2 ⟨z,hz,hz2 hs,rfl⟩
 rw[e5]at hf;rcases al_List_mem_append.1 hf with hf|hf
 ·exact h.fts f hf
 rw[uJ]at hf;subst hf;exact hF
def aiX(c)(w):(dM c w).1.prog=c.prog∧(dM c w).1.r=c.r∧Xr (dM c w).1=Xr c∧(dM c w).1.halt=c.halt∧(dM c w).1.agH=c.agH∧(dM c w).1.agM=c.agM∧(dM c w).1.stop=c.stop∧(dM c w).1.agI=c.agI∧((dM c w).1.data=c.data∧(dM c w).1.agS=c.agS∧(dM c w).1.mem=c.mem)∧(opOf w=0∨kindOf (decN w).op≠5->(dM c w).2=up4 c.agM):=by
 unfold dM;split
 ·exact⟨rfl,rfl,rfl,rfl,rfl,rfl,rfl,rfl,⟨rfl,rfl,rfl⟩,λ_=>rfl⟩
 rename_i hn;split<;>exact⟨rfl,rfl,rfl,rfl,rfl,rfl,rfl,rfl,⟨rfl,rfl,rfl⟩,λq=>absurd q hn⟩
theorem Iv.feN{prog:List Nat}{s:St}:∀(n:Nat) {c:Co},Iv prog c s->c.mc->c.halt=0->Iv prog (eL n c) s
 |0,c,h,_,_=>h
 | n + 1,c,h,hmc,hh=>by
  unfold eL;split
  ·exact h
  ·rename_i hst
   have hs:c.stop=false:=by cases q:c.stop with
    |false=>rfl
    |true=>exact absurd (.inl q) hst
   have hp:=h.pr;split
   ·rename_i hf;exact h.agM hh hs (up4 c.agM) true c.agM (λq=>by cases q) (λ_=>rfl) rfl rfl rfl rfl rfl rfl rfl rfl
   ·rename_i hf;split
    ·split
     ·exact h.same rfl rfl (apJ (qL hmc dT _ _) rfl) rfl rfl rfl rfl rfl h.ri
     ·exact h
    ·obtain⟨b1,b2,b3,b4,b5,b6,b7,b8,⟨b9,b10,b11⟩,b12⟩:=aiX {c with agO:=tO c.agO (lineOf c.agM)} (fetchW c.prog c.agM);generalize hB:dM {c with agO:=tO c.agO (lineOf c.agM)} (fetchW c.prog c.agM)=B at *;obtain⟨d,nx⟩:=B;simp only at b1 b2 b3 b4 b5 b6 b7 b8 b9 b10 b11 b12⊢;rw[hp]at b12 hf;have hFt:anC prog ⟨c.agM,nx⟩:=λq=>b12 (by
      by_cases ho:opOf (fetchW prog c.agM)=0
      ·exact .inl ho
      ·refine .inr (q ⟨?_,ho⟩)
       cases hz:(fetchP prog c.agM).isSome with
       |true=>rfl
       |false=>exact absurd hz hf)
     refine Iv.feN n (h.agM hh hs nx false nx (λ_=>rfl) hFt (d:=LU d nx) b1 b2 b3 b4 (by show d.agH++[⟨d.agM,nx⟩]=_;rw[b5,b6]) rfl (by show d.stop=false;rw[b7];exact hs) b8) ?_ (b4.trans hh);exact apE hmc b9 b10 b11
theorem Iv.fetches{prog}{c}{s}(h:Iv prog c s)(hmc:c.mc):Iv prog (eN c) s:=by
 unfold eN;split
 ·exact h
 rename_i hh;exact h.feN _ hmc (agD.1 hh)
theorem Iv.drains{prog}{c}{s}(h:Iv prog c s)(hmc:c.mc):Iv prog (tY c) s:=by
 obtain⟨_,hA,_⟩:=ao4 hmc;have hs:(tY c).prog=c.prog∧(tY c).r=c.r∧(tY c).halt=c.halt∧(tY c).agH=c.agH∧(tY c).agM=c.agM∧(tY c).stop=c.stop∧(tY c).agI=c.agI:=by
  unfold tY nP pE tW aW jE
  (repeat' split)<;>exact⟨rfl,rfl,rfl,rfl,rfl,rfl,rfl⟩
 obtain⟨s1,s2,s3,s4,s5,s6,s7⟩:=hs;exact h.same s1 s2 hA s3 s4 s5 s6 (by rw[s7]) (by rw[s7];exact h.ri)
def Ran(prog:List Nat):St->List Sp->St->Prop
 |s,[],t=>t=s
 |s,x::l,t=>s.halt=0∧x=(gE prog s).2∧Ran prog (gE prog s).1 l t
theorem akB{prog:List Nat}:∀{s t u:St} {l m:List Sp},Ran prog s l t->Ran prog t m u->Ran prog s (l++m) u
 |s,t,u,[],m,h,k=>by rw[show t=s from h]at k;exact k
 |s,t,u,x::l,m,h,k=>⟨h.1,h.2.1,akB h.2.2 k⟩
def ajM{m}{a}{b}(h:a+b.size<=m.size):BE m ⟨a,b⟩=DD m a b:=by
 have hs:(BE m ⟨a,b⟩).size=m.size:=iY m [⟨a,b⟩];refine aiE (hs.trans (ahP m a b h).symm) λi hi=>?_;rw[al3 m ⟨a,b⟩ i omT,ajB m a b h]
def akC{e}(h:(cA e).halt=0):e.halt=0∧((cA e).store=true->kindOf e.i.op=4)∧(cA e).next=(if kindOf e.i.op=5 then e.next else up4 e.pc)∧(kindOf e.i.op=3->(cA e).agZ=e.agZ):=by
 unfold cA at h⊢;split at h
 ·rename_i h0;exact absurd h h0
 rename_i h0;rw[dZ h0];refine⟨agD.1 h0,?_,?_,?_⟩
 ·(repeat' split)<;>first|(intro _;assumption)|(intro q;cases q)
 ·(repeat' split)<;>first|rfl|omega
 intro h3;rw[dZ omT,af1 h3]
theorem Iv.retire{prog}{c}{s}(h:Iv prog c s)(hw:NW c.agI)(hmc:c.mc){e}{l}(hr:c.agI=e::l)(heo:e.ok)(h3:e.is=3)(hh:c.halt=0):
  s.halt=0∧cA e=(gE prog s).2∧((cA e).halt≠0->Iv prog (tM c (cA e)) (gE prog s).1)∧((cA e).halt=0->Iv prog (vZ c e (cA e) l) (gE prog s).1∧(vZ c e (cA e) l).mc):=by
 have hs0:s.halt=0:=by rw[<-h.halt];exact hh
 obtain⟨z,hz,hz2⟩:=h.ch hh;rw[hr]at hz;have hpc:e.pc=s.pc:=hz.1;have hR:=h.ri;rw[hr]at hR;have hE:EOk prog s e:=hR.ok.1;have hsS:(⟨e.pc,s.r,s.mem,0⟩:St)=s:=by rw[hpc];obtain⟨a,b,c,d⟩:=s;simp only at hs0;subst hs0;rfl
 have hST:stT prog s e=gE prog s:=by unfold stT;rw[hsS]
 have hT:cA e=(gE prog s).2:=by rw[<-hST];exact hE.told (.inr h3)
 have hS:=ah1 prog hs0;refine⟨hs0,hT,λhx=>?_,λhx=>?_⟩
 ·obtain⟨q1,_,_⟩:=hS.halt (by rw[<-hT];exact hx);rw[q1, <-hT];exact⟨h.pr,h.r,h.z,h.mem,rfl,λ_=>rfl,⟨trivial,λi x hx=>by cases hx⟩,λq=>absurd q hx,λf hf=>by cases hf⟩
 obtain⟨t1,t2,t3,t4⟩:=akC hx;obtain⟨r1,r2⟩:=hS.run (by rw[<-hT];exact hx);have hnext:e.agK=(gE prog s).1.pc:=by
  rw[r2, <-hT,t3];split
  ·rename_i hk;have hkn:=hE.dn5 hk h3 t1;have:=hw e (by rw[hr];exact al_List_mem_cons_self);unfold Nj at this;rw[hkn,jP hk]at this;simp only[kL,mA]at this;exact(agD.1 this).symm
  rename_i hk;exact hE.gs λ_=>hk
 have hsz:(Xr c).size=s.mem.size:=by rw[h.mem]
 have hput:(fZ c (cA e)).mc:=apE hmc rfl rfl rfl;have hload:(vG (fZ c (cA e)) e (cA e)).mc∧Xr (vG (fZ c (cA e)) e (cA e))=Xr (fZ c (cA e)):=by
  unfold vG;split
  ·rename_i hk;have hK:=aoS hput (agY:=(cA e).agZ) (by rw[t4 hk];exact heo.agZ);exact⟨hK.mc,apJ hK rfl⟩
  exact⟨hput,rfl⟩
 have hmem:Xr (fZ c (cA e))=(gE prog s).1.mem:=by
  rw[hS.mem, <-hT];split
  ·rename_i hst;obtain⟨_,z2,z3⟩:=hS.st (by rw[<-hT];exact hst);rw[<-hT]at z2 z3;obtain⟨k,hk⟩:∃k:Nat,(cA e).size=(k:Int):=⟨_,(lU omT).symm⟩;have hso:iJ (cA e)=some ⟨(cA e).agZ,oF (cA e).value (cA e).size.toNat⟩:=by
    unfold iJ;rw[dZ (by rw[hst,hx];simp;omega)]
   show ZS (match iJ (cA e)with|some p=>c.agF++[p]|none=>c.agF) c.data c.agS c.mem=_;rw[hso];show rP (Ct c.data c.agS c.mem) (c.agF++[_])=_;unfold rP;rw[List.foldl_append];show BE (Xr c) _=_;rw[h.mem];refine ajM ?_;rw[hk]at z3⊢;rw[mP];exact(aoZ z3).2
  rename_i hst;have hso:iJ (cA e)=none:=by
   unfold iJ;rw[af1 (.inl (by cases q:(cA e).store with|false=>rfl|true=>exact absurd q hst))]
  show ZS (match iJ (cA e)with|some p=>c.agF++[p]|none=>c.agF) c.data c.agS c.mem=_;rw[hso];exact h.mem
 have f1:(vG (fZ c (cA e)) e (cA e)).prog=c.prog∧(vG (fZ c (cA e)) e (cA e)).halt=c.halt∧(vG (fZ c (cA e)) e (cA e)).agH=c.agH∧(vG (fZ c (cA e)) e (cA e)).agM=c.agM∧(vG (fZ c (cA e)) e (cA e)).stop=c.stop:=by
  unfold vG oK;(repeat' split)<;>exact⟨rfl,rfl,rfl,rfl,rfl⟩
 obtain⟨g1,g2,g3,g4,g5⟩:=f1;refine⟨⟨g1.trans h.pr,?_,?_,hload.2.trans hmem,?_,λq=>?_,?_,λ_=>?_,?_⟩,apE hload.1 rfl rfl rfl⟩
 ·show lY c.r (cA e)=_;rw[hS.r,h.r,hT]
 ·rw[hS.r];unfold lY;split
  ·show(if 0=_ then _ else _)=_;rw[dZ omT];exact h.z
  exact h.z
 ·show(vG _ _ _).halt=_;rw[g2,hh,r1]
 ·have q:(vG (fZ c (cA e)) e (cA e)).halt≠0:=q;rw[g2]at q;exact absurd hh q
 ·show RI prog _ l;refine⟨by rw[<-hST];exact hR.ok.2,λi x hx h2=>?_⟩;have:=hR.agS (i+1) x hx h2;rw[oP,List.all_cons,aP]at this;exact this.2
 ·refine⟨z,?_,?_⟩
  ·show lnk _ (aiO l++am2 (vG _ _ _).agH) z;rw[g3, <-hnext];exact hz.2
  show(vG _ _ _).stop=false->(vG _ _ _).agM=z;rw[g5,g4];exact hz2
 show ∀f∈(vG _ _ _).agH,_;rw[g3];exact h.fts
theorem Iv.reN{prog:List Nat}:∀(n:Nat) {c:Co} {s:St},Iv prog c s->NW c.agI->c.mc->(∀e∈c.agI,e.ok)->∃l t,(eC n c).agG=c.agG++l∧l.length<=n∧Ran prog s l t∧Iv prog (eC n c) t
 |0,c,s,h,_,_,_=>⟨[],s,(dY _).symm,aC _,rfl,h⟩
 | n + 1,c,s,h,hw,hmc,ho=>by
  unfold eC;have hid:∃l t,c.agG=c.agG++l∧l.length<=n+1∧Ran prog s l t∧Iv prog c t:=⟨[],s,(dY _).symm,aE _,rfl,h⟩;split
  ·exact hid
  ·rename_i hh;have hh:c.halt=0:=agD.1 hh;split
   ·exact hid
   ·rename_i e l hr;split
    ·exact hid
    ·rename_i h3;have h3:e.is=3:=agD.1 h3;obtain⟨i1,i2,i3,i4⟩:=h.retire hw hmc hr (ho e (by rw[hr];exact al_List_mem_cons_self)) h3 hh;split
     ·rename_i hx;exact⟨[cA e],_,rfl,by simp,⟨i1,i2,rfl⟩,i3 hx⟩
     ·rename_i hx;have hx:(cA e).halt=0:=agD.1 hx;split
      ·exact hid
      ·obtain⟨j1,j2⟩:=i4 hx;obtain⟨m,t,k1,k2,k3,k4⟩:=Iv.reN n j1 (λx hx=>hw x (by rw[hr];exact bY _ hx)) j2 (λx hx=>ho x (by rw[hr];exact bY _ hx));refine⟨cA e::m,t,?_,sU k2,⟨i1,i2,k3⟩,k4⟩;rw[k1];have:(vZ c e (cA e) l).agG=c.agG++[cA e]:=by
        show(vG _ _ _).agG=_;unfold vG oK;(repeat' split)<;>rfl
       rw[this,eD];rfl
def akD{agI}{j}{e e'}(he:agI[j]?=some e)(hi:e'.i=e.i)(reg)(k):LS (agI.set j e') reg k=LS agI reg k:=by
 obtain⟨hj,_⟩:=Em.1 he;unfold LS;by_cases hk:j=k
 ·subst hk;rw[aZ hj,he];simp only[hi]
 rw[kX hk]
theorem aiC{agI:List Ent}{j:Nat}{e e':Ent}(he:agI[j]?=some e)(hi:e'.i=e.i)(reg:Int):∀n,makerTo (agI.set j e') reg n=makerTo agI reg n
 |0=>rfl
 |n+1=>by unfold makerTo;rw[akD he hi,aiC he hi reg n]
def alF{agI}{j}{e e'}(he:agI[j]?=some e)(hi:e'.i=e.i)(h0:e.is=0){r}{i}{reg}(hs:(lK agI r i reg).isSome=true):lK (agI.set j e') r i reg=lK agI r i reg:=by
 unfold lK gX at hs⊢;rw[cC,aiC he hi];split
 ·rfl
 split
 ·rfl
 rename_i h1 h2;rw[dZ h1,dZ h2]at hs;split
 ·rfl
 rename_i k hk;rw[hk]at hs;simp only at hs;by_cases hjk:j=k
 ·subst hjk;rw[he]at hs;simp only at hs;rw[dZ omT]at hs;cases hs
 rw[kX hjk]
def Rd(agI:List Ent)(r:Nat->Nat)(i:Nat):Prop:=∀e,agI[i]?=some e->e.is=0∧(kindOf e.i.op=3->e.known=true∨(lK agI r i e.i.ag0).isSome=true)∧(kindOf e.i.op=4->(lK agI r i e.i.ag0).isSome=true)∧(kindOf e.i.op≠3->kindOf e.i.op≠4->(lK agI r i e.i.ag0).isSome=true∧(lK agI r i e.i.ag1).isSome=true)
def am3{agI}{j}{e e'}(he:agI[j]?=some e)(hi:e'.i=e.i)(h0:e.is=0){r}{i}(hij:j≠i)(h:Rd agI r i):Rd (agI.set j e') r i:=by
 intro x hx;rw[kX hij]at hx;obtain⟨a1,a2,a3,a4⟩:=h x hx;have hR:∀reg,(lK agI r i reg).isSome=true->(lK _ r i reg).isSome=true:=λreg q=>by rw[alF he hi h0 q];exact q
 exact⟨a1,λk=>(a2 k).imp id (hR _),λk=>hR _ (a3 k),λk1 k2=>⟨hR _ (a4 k1 k2).1,hR _ (a4 k1 k2).2⟩⟩
def am4{c}{i}(h:DN c i=true):Rd c.agI c.r i:=by
 intro e he;unfold DN at h;rw[he]at h;simp only at h;split at h
 ·cases h
 rename_i h0;have h0:e.is=0:=agD.1 h0;refine⟨h0,λk=>?_,λk=>?_,λk1 k2=>?_⟩
 ·rw[af1 k,dE,aP]at h;exact h.imp id (·.1)
 ·rw[dZ omT,af1 k,aP,aP]at h;exact h.1.2
 rw[dZ k1,dZ k2,aP]at h;unfold mI at h;rw[he]at h;simp only[aP]at h;exact h.1
theorem Iv.put{prog}{c}{s}(h:Iv prog c s){j}{e e'}(he:c.agI[j]?=some e)(ht:Turn e e')(hk:EOk prog (aoA prog s (c.agI.take j)) e->EOk prog (aoA prog s (c.agI.take j)) e')(hb:e'.is=2->(e.is=2∧e'.agZ=e.agZ)∨(c.agI.take j).all (an8 e')=true):Iv prog (setE c j e') s:=by
 refine h.same rfl rfl rfl rfl rfl rfl rfl ?_ (h.ri.set he ht hk hb);obtain⟨hj,_⟩:=Em.1 he;refine ao1 (cC ..) λk x x' h1 h2=>?_;by_cases hk:j=k
 ·subst hk;rw[show(setE c j e').agI=c.agI.set j e' from rfl,aZ hj]at h2;rw[he]at h1;injection h1 with h1;injection h2 with h2;subst h1;subst h2;exact ht
 rw[show(setE c j e').agI=c.agI.set j e' from rfl,kX hk,h1]at h2;injection h2 with h2;subst h2;exact Turn.refl _
theorem Iv.load{prog}{c}{s}(h:Iv prog c s)(hmc:c.mc){j}{e}(he:c.agI[j]?=some e)(hk:kindOf e.i.op=3)(h0:e.known=true->e.is=0):
  Iv prog (oE c j) s∧(oE c j).mc∧(oE c j).halt=c.halt∧(oE c j).r=c.r∧∃e',(oE c j).agI=c.agI.set j e'∧e'.i=e.i:=by
 have hid:Iv prog c s∧c.mc∧c.halt=c.halt∧c.r=c.r∧∃e',c.agI=c.agI.set j e'∧e'.i=e.i:=by
  refine⟨h,hmc,rfl,rfl,e,?_,rfl⟩;obtain⟨q1,q2⟩:=Em.1 he;rw[<-q2,List.set_getElem_self]
 have hE:=ag7 h.ri.ok he;have hR:ROk prog s (c.agI.take j):=(h.ri.take j).ok;unfold oE;rw[he];simp only;split
 ·exact hid
 rename_i hkn;have hkn:e.known=true:=by cases q:e.known with|true=>rfl|false=>exact absurd q hkn
 obtain⟨_,a2⟩:=hE.adr hkn (.inl hk);rw[apH]at a2;split
 ·rename_i hd;have hr:=aj8 h.ri.ok he a2 (λi hi=>by rw[<-h.mem];exact akI _ _ _ _ (by rw[<-h.mem,show(Xr c).size=c.mem.size from MU ..]at hi;exact hi)) hd;refine⟨h.put he (aoJ e _) (λq=>(aiR q λ_ _ _=>hr).1) (λq=>?_),apE hmc rfl rfl rfl,rfl,rfl,_,rfl,(aoJ e _).i⟩;unfold uM at q⊢;split at q
  ·rename_i h1;rw[af1 h1];exact .inl ⟨q,rfl⟩
  cases q
 split
 ·exact hid
 rename_i hd;have hd:(lL c.agI c.agF j).1=2:=agD.1 hd;have hcl:=alD he hd;split
 ·have hr:e.known=true->kindOf e.i.op=3->e.is=0∨e.is=2->oL c e=Cv (aoA prog s (c.agI.take j)).mem e.agZ (sizeOf' e.i.op):=λ_ _ _=>by
   unfold oL;rw[h.mem,af1 a2];exact(ahS hR hcl a2).symm
  refine⟨h.put he (aoJ e _) (λq=>(aiR q hr).1) (λq=>?_),apE hmc rfl rfl rfl,rfl,rfl,_,rfl,(aoJ e _).i⟩;unfold uM at q⊢;split at q
  ·rename_i h1;rw[af1 h1];exact .inl ⟨q,rfl⟩
  cases q
 have hz:e.is=0:=h0 hkn;obtain⟨w0,w7,w8⟩:=hE.wait (.inl hz);have hk2:EOk prog (aoA prog s (c.agI.take j)) e->EOk prog (aoA prog s (c.agI.take j)) {e with is:=2}:=λq=>
  ⟨q.ins,λn=>absurd (q.noi n).1 omT,(λn=>by rcases n with n|n<;>cases n),λ_=>⟨w0,w7,w8⟩,q.adr,.inr (.inr (.inl rfl)),λ_=>⟨hk,hkn⟩,(λn=>by cases n),(λ_ n=>by cases n),(λ_ n=>by cases n),λn=>by have n:kindOf e.i.op=5:=n;omega,λn=>by have n:kindOf e.i.op=5:=n;omega,q.gs⟩
 have ht:Turn e {e with is:=2}:=⟨rfl,rfl,rfl,λq=>by omega⟩;split
 ·exact⟨h.put he ht hk2 (λ_=>.inr hcl),apE hmc rfl rfl rfl,rfl,rfl,_,rfl,rfl⟩
 split
 ·have hK:=qL hmc (k:=1) dT (lineOf e.agZ) oZ;have hA:Iv prog (jE c 1 (lineOf e.agZ) oZ) s:=h.same rfl rfl (apJ hK rfl) rfl rfl rfl rfl rfl h.ri;exact⟨hA.put he ht hk2 (λ_=>.inr hcl),apE hK.mc rfl rfl rfl,rfl,rfl,_,rfl,rfl⟩
 exact hid
theorem Iv.start{prog}{c}{s}(h:Iv prog c s)(hmc:c.mc){j}(hR:Rd c.agI c.r j):
  Iv prog (iS c j) s∧(iS c j).mc∧(iS c j).halt=c.halt∧(iS c j).r=c.r∧(c.agI[j]?=none∧(iS c j).agI=c.agI∨∃e e',c.agI[j]?=some e∧(iS c j).agI=c.agI.set j e'∧e'.i=e.i∧e.is=0):=by
 unfold iS;split
 ·rename_i hn;exact⟨h,hmc,rfl,rfl,.inl ⟨hn,rfl⟩⟩
 rename_i e he;obtain⟨h0,r3,r4,r5⟩:=hR e he;obtain⟨hj,_⟩:=Em.1 he;have hsz:∀l:List Ent,(c.mem.size:Int)=(aoA prog s l).mem.size:=λl=>by
  rw[apH, <-h.mem,show(Xr c).size=c.mem.size from MU ..]
 have hb:∀reg,(lK c.agI c.r j reg).isSome=true->(lK c.agI c.r j reg).getD 0=(aoA prog s (c.agI.take j)).r reg.toNat:=λreg q=>by
  obtain⟨v,hv⟩:=FH.1 q;rw[hv];rw[h.r]at hv;exact aj4 h.ri.ok h.z (Nat.le_of_lt hj) hv
 have hbo:mI c.agI c.r j=((lK c.agI c.r j e.i.ag0).getD 0,(lK c.agI c.r j e.i.ag1).getD 0,(lK c.agI c.r j e.i.ag0).isSome&&(lK c.agI c.r j e.i.ag1).isSome):=by unfold mI;rw[he]
 have h2:∀(e':Ent) (P:Prop),e'.is≠2->e'.is=2->P:=λe' P a b=>absurd b a;have ha2:∀n a,(yC e n a).is≠2:=λn a=>by
  unfold yC
  (repeat' split)<;>first|(show e.is≠2;omega)|(show(3:Int)≠2;decide)
 rw[hbo];simp only;split
 ·rename_i hk;exact⟨h.put he (aoK e _ _) (λq=>(aj5 q (hsz _) (λ_ _=>hb _ (r4 hk))).1) (λq=>absurd q (ha2 _ _)),apE hmc rfl rfl rfl,rfl,rfl,.inr ⟨e,_,he,rfl,(aoK e _ _).i,h0⟩⟩
 split
 ·rename_i hk4 hk;have hA:Iv prog (setE c j (yC e c.mem.size ((lK c.agI c.r j e.i.ag0).getD 0))) s:=h.put he (aoK e _ _) (λq=>(aj5 q (hsz _) (λ_ hkn=>hb _ ((r3 hk).resolve_left (by rw[hkn];decide)))).1) (λq=>absurd q (ha2 _ _));have hAj:(setE c j (yC e c.mem.size ((lK c.agI c.r j e.i.ag0).getD 0))).agI[j]?=some (yC e c.mem.size ((lK c.agI c.r j e.i.ag0).getD 0)):=aZ hj;have hkA:(yC e c.mem.size ((lK c.agI c.r j e.i.ag0).getD 0)).known=true->(yC e c.mem.size ((lK c.agI c.r j e.i.ag0).getD 0)).is=0:=λq=>by
   unfold yC at q⊢;split at q
   ·rename_i h1;rw[af1 h1];exact h0
   rename_i h1;rw[dZ h1];split at q
   ·rename_i h3;rw[af1 h3];exact h0
   exact absurd (.inr (.inr q)) h1
  obtain⟨l1,l2,l3,l4,e',l5,l6⟩:=hA.load (apE hmc rfl rfl rfl) hAj (by rw[(aoK e _ _).i];exact hk) hkA;refine⟨l1,l2,l3,l4,.inr ⟨e,e',he,?_,l6.trans (aoK e _ _).i,h0⟩⟩;rw[l5];show(c.agI.set j _).set j e'=_;rw[lO]
 rename_i hk4 hk3;obtain⟨q1,q2⟩:=r5 hk3 hk4;have hs2:∀a b,(rJ e a b).is≠2:=λa b=>by
  unfold rJ
  (repeat' split)<;>first|(show e.is≠2;omega)|(show(1:Int)≠2;decide)
 exact⟨h.put he (ahU e _ _) (λq=>(alA q (λ_=>hb _ q1) (λ_=>hb _ q2)).1) (λq=>absurd q (hs2 _ _)),apE hmc rfl rfl rfl,rfl,rfl,.inr ⟨e,_,he,rfl,(ahU e _ _).i,h0⟩⟩
theorem Iv.startF{prog:List Nat}{s:St}:∀(p:List Nat) {c:Co},Iv prog c s->c.mc->p.Nodup->(∀i∈p,Rd c.agI c.r i)->Iv prog (p.foldl iS c) s
 |[],c,h,_,_,_=>h
 | j::p,c,h,hmc,hn,hR=>by
  obtain⟨a1,a2,a3,a4,a5⟩:=h.start hmc (hR j al_List_mem_cons_self);rw[List.nodup_cons]at hn;refine Iv.startF p a1 a2 hn.2 λi hi=>?_;have hRi:=hR i (bY _ hi);rw[a4];rcases a5 with ⟨_,q⟩|⟨e,e',he,q,hi2,h0⟩
  ·rw[q];exact hRi
  ·rw[q];exact am3 he hi2 h0 (λz=>hn.1 (by rw[z];exact hi)) hRi
theorem aiD{agN:Int}{busy:Bool}{kinds:List Int}{can:List Bool}:∀n,(∀i∈(kA agN busy kinds can n).out,i<n∧can.getD i false=true)∧(kA agN busy kinds can n).out.Nodup
 |0=>⟨(λi h=>by cases h),List.nodup_nil⟩
 | n +1=>by
  obtain⟨h1,h2⟩:=aiD (agN:=agN) (busy:=busy) (kinds:=kinds) (can:=can) n;have h1':∀i∈(kA agN busy kinds can n).out,i<n+1∧can.getD i false=true:=λi hi=>⟨oH ((h1 i hi).1),(h1 i hi).2⟩;unfold kA IW;split
  ·exact⟨h1',h2⟩
  split
  ·exact⟨h1',h2⟩
  split
  ·exact⟨h1',h2⟩
  ·rename_i hc _;refine⟨λi hi=>?_,?_⟩
   ·rcases al_List_mem_append.1 hi with hi|hi
    ·exact h1' i hi
    ·rw[uJ]at hi;subst hi;exact⟨oT,by cases q:can.getD i false with|true=>rfl|false=>exact absurd q hc⟩
   ·show((kA agN busy kinds can n).out++[n]).Nodup;rw[List.nodup_append];refine⟨h2,by simp,λa ha b hb=>?_⟩;rw[uJ]at hb;subst hb;have:=(h1 a ha).1;omega
theorem Iv.starts{prog}{c}{s}(h:Iv prog c s)(hmc:c.mc):Iv prog (gY c) s:=by
 unfold gY;split
 ·exact h
 obtain⟨h1,h2⟩:=aiD (Kv c).length;refine h.startF _ hmc h2 λi hi=>am4 ?_;obtain⟨q1,q2⟩:=h1 i hi;unfold Kv at q1 q2;rw[aH,fV]at q1;rw[aR,aX,eZ q1]at q2;exact q2
theorem Iv.step{prog}{c}{s}{n}(h:Iv prog c s)(hm:c.okM n)(hb:n+20<=890000)(hmc:c.mc):∃l t,(ZJ c).agG=c.agG++l∧l.length<=c.agL.agN.toNat∧Ran prog s l t∧Iv prog (ZJ c) t:=by
 have hk:=Ql hm hb;have i0:Iv prog (s0 c) s:=h.same rfl rfl rfl rfl rfl rfl rfl rfl h.ri;have h0:(s0 c).mc:=apE hmc rfl rfl rfl;have h1:(s1 c).mc:=(aoT h0 hk.k0.ok.buso).mc;have i1:Iv prog (s1 c) s:=i0.ticks h0 hk.k0.ok.buso;have h2:(s2 c).mc:=by
  show(kK (s1 c)).mc;unfold kK
  repeat' split
  all_goals exact apE h1 rfl rfl rfl
 obtain⟨i2,w2⟩:Iv prog _ s∧NW (s2 c).agI:=i1.works;have h3:(s3 c).mc:=aoU _ _ hk.k2.ok.agX h2;obtain⟨l,t,e1,e2,e3,i3⟩:=i2.reN (s2 c).agL.agN.toNat w2 h2 hk.k2.ok.agX;have h4:(s4 c).mc:=by
  show(gY _).mc;unfold gY;split
  ·exact h3
  exact ahE _ _ h3
 have i4:Iv prog _ t:=Iv.starts i3 h3;have h5:(s5 c).mc:=by
  show(lP _).mc;unfold lP;split
  ·exact h4
  exact ao2 _ _ h4
 have i5:Iv prog _ t:=i4.enters;have h6:(s6 c).mc:=by
  show(eN _).mc;unfold eN;split
  ·exact h5
  exact aoV _ _ h5
 have i6:Iv prog _ t:=i5.fetches h5;have i7:Iv prog _ t:=i6.drains h6;refine⟨l,t,?_,aL e2 ?_,e3,i7⟩
 ·have r1:(s1 c).agG=c.agG:=(rG _).2.2.1;have r2:(s2 c).agG=(s1 c).agG:=(mC _).2;have r3:(s3 c).agG=(s2 c).agG++l:=e1;have r4:(s4 c).agG=(s3 c).agG:=by have:=nO hk.k3 omT;simp_all only[s4]
  have r5:(s5 c).agG=(s4 c).agG:=(Ai hk.k4).2.2;have r6:(s6 c).agG=(s5 c).agG:=(uX hk.k5 omT).2.2.1;have r7:(ZJ c).agG=(s6 c).agG:=(wX hk.k6 omT).2.2.1;rw[r7,r6,r5,r4,r3,r2,r1]
 have hc:(s2 c).agL=c.agL:=by
  show(kK _).agL=_;have ht:(lM (s0 c)).agL=c.agL:=by
   unfold lM ID oK;(repeat' split)<;>rfl
  unfold kK;(repeat' split)<;>exact ht
 rw[hc];exact aC _
theorem Iv.new(cf)(prog)(m):Iv (fX cf prog m).prog (fX cf prog m) ⟨0,λ_=>0,jB m,0⟩:=by
 refine⟨rfl,rfl,rfl,?_,rfl,λ_=>rfl,⟨trivial,λi e he=>by cases he⟩,λ_=>⟨0,rfl,λ_=>rfl⟩,λf hf=>by cases hf⟩;have hl:LV (fX cf prog m).data=[]:=by
  show((List.replicate _ _).flatten.map _)=[];rw[List.flatten_replicate_nil];rfl
 show rP (rP (jZ [] (jB m)) (LV (fX cf prog m).data)) []=jB m;rw[hl];rfl
theorem Iv.run{X}{s}(hG:∀k,k<=3000->GdRun X k)(h:Iv X.prog X s)(hmc:X.mc):∀k,k<3000->∀t,Iv X.prog (uN X k) t->∃l u,(uN X (k+1)).agG=(uN X k).agG++l∧l.length<=(uN X k).agL.agN.toNat∧Ran X.prog t l u∧Iv X.prog (uN X (k+1)) u:=by
 intro k hk t ht;have g:=hG k omT;rw[show uN X (k+1)=ZJ (uN X k)from af1 g.rt];exact ht.step (EL g.ok omT g.rt) omT (al4 hG hmc k omT)
open Go.Proofs.Tryz
def YA(a b)(ha:a<=4294967295)(hb:b<=4294967295):(((a/65536)*(b/65536))+((((a%65536)*(b/65536))+(((a%65536)*(b%65536))/65536))/65536)+((((a/65536)*(b%65536))+((((a%65536)*(b/65536))+(((a%65536)*(b%65536))/65536))%65536))/65536))%4294967296=a*b/4294967296:=by
 have e:a*b=4294967296*((a/65536)*(b/65536))+65536*((a/65536)*(b%65536))+65536*((a%65536)*(b/65536))+(a%65536)*(b%65536):=by
  have h1:a=65536*(a/65536)+a%65536:=oT;have h2:b=65536*(b/65536)+b%65536:=oT;generalize a/65536=x at h1⊢;generalize a%65536=y at h1⊢;generalize b/65536=z at h2⊢;generalize b%65536=t at h2⊢;subst h1 h2;simp only[Nat.mul_add,cG];have e1:65536*x*(65536*z)=4294967296*(x*z):=by rw[Nat.mul_mul_mul_comm]
  have e2:65536*x*t=65536*(x*t):=by rw[Nat.mul_assoc]
  have e3:y*(65536*z)=65536*(y*z):=by rw[Nat.mul_left_comm]
  omega
 have hle:a*b<=4294967295*4294967295:=cJ ha hb;rw[e]at hle⊢;generalize _*(b/65536)=p at hle⊢;generalize _*(b%65536)=q at hle⊢;generalize _*(b/65536)=r at hle⊢;generalize _*(b%65536)=s at hle⊢;omega
def adG(a b:Nat)(ha:a<=4294967295)(hb:b<=4294967295):bI C0 136 [.v (.int .u32 (a:Int)),.v (.int .u32 (b:Int))] (.v (.int .u32 ((a*b/4294967296:Nat):Int))):=by
 refine dIZ func136 rfl ?_;have b1:a%65536<=65535:=aI (aQ _ dT);refine nW (.v (.int .u32 ((a%65536:Nat):Int))) rfl rfl dT<|zW _ (okI (nJ b1 rfl)) ?_;have b2:a/65536<=65535:=eG ha;refine nW _ rfl (al8 (nJ b2 rfl)) dT<|zW _ (okI (nJ b2 rfl)) ?_;have b3:b%65536<=65535:=aI (aQ _ dT);refine nW (.v (.int .u32 ((b%65536:Nat):Int))) rfl rfl dT<|zW _ (okI (nJ b3 rfl)) ?_;have b4:b/65536<=65535:=eG hb;refine nW _ rfl (al8 (nJ b4 rfl)) dT<|zW _ (okI (nJ b4 rfl)) ?_;have b5:(a%65536)*(b%65536)<=4294836225:=cJ b1 b3;refine zW _ (okI (nJ b5 rfl)) ?_;have b6:(a%65536)*(b/65536)<=4294836225:=cJ b1 b4;refine zW _ (okI (nJ b6 rfl)) ?_;have b7:((a%65536)*(b%65536))/65536<=65534:=eG b5;refine nW _ rfl (al8 (nJ b7 rfl)) dT ?_;have b8:((a%65536)*(b/65536))+(((a%65536)*(b%65536))/65536)<=4294901759:=aD b6 b7;refine zW _ (okI (nJ b8 rfl)) ?_;have b9:(a/65536)*(b%65536)<=4294836225:=cJ b2 b3;refine zW _ (okI (nJ b9 rfl)) ?_;have b10:(((a%65536)*(b/65536))+(((a%65536)*(b%65536))/65536))%65536<=65535:=aI (aQ _ dT);refine nW (.v (.int .u64 (((((a%65536)*(b/65536))+(((a%65536)*(b%65536))/65536))%65536:Nat):Int))) rfl rfl dT ?_;have b11:((a/65536)*(b%65536))+((((a%65536)*(b/65536))+(((a%65536)*(b%65536))/65536))%65536)<=4294901760:=aD b9 b10;refine zW _ (okI (nJ b11 rfl)) ?_;have b12:(a/65536)*(b/65536)<=4294836225:=cJ b2 b4;refine zW _ (okI (nJ b12 rfl)) ?_;have b13:(((a%65536)*(b/65536))+(((a%65536)*(b%65536))/65536))/65536<=65534:=eG b8;refine nW _ rfl (al8 (nJ b13 rfl)) dT ?_;have b14:((a/65536)*(b/65536))+((((a%65536)*(b/65536))+(((a%65536)*(b%65536))/65536))/65536)<=4294901759:=aD b12 b13;refine zW _ (okI (nJ b14 rfl)) ?_;have b15:(((a/65536)*(b%65536))+((((a%65536)*(b/65536))+(((a%65536)*(b%65536))/65536))%65536))/65536<=65535:=eG b11;refine nW _ rfl (al8 (nJ b15 rfl)) dT ?_;have b16:(((a/65536)*(b/65536))+((((a%65536)*(b/65536))+(((a%65536)*(b%65536))/65536))/65536))+((((a/65536)*(b%65536))+((((a%65536)*(b/65536))+(((a%65536)*(b%65536))/65536))%65536))/65536)<=4294967294:=aD b14 b15;refine rW _ rfl (okI (nJ b16 rfl)) ?_;have b17:((((a/65536)*(b/65536))+((((a%65536)*(b/65536))+(((a%65536)*(b%65536))/65536))/65536))+((((a/65536)*(b%65536))+((((a%65536)*(b/65536))+(((a%65536)*(b%65536))/65536))%65536))/65536))%4294967296<=4294967295:=aI (aQ _ dT);refine nW (.v (.int .u64 ((((((a/65536)*(b/65536))+((((a%65536)*(b/65536))+(((a%65536)*(b%65536))/65536))/65536))+((((a/65536)*(b%65536))+((((a%65536)*(b/65536))+(((a%65536)*(b%65536))/65536))%65536))/65536))%4294967296:Nat):Int))) rfl rfl dT<|zW _ (okI (nJ b17 rfl)) ?_;exact qY rfl trivial rfl (af2 (λn:Nat=>AV.v (.int .u32 (n:Int))) (YA a b ha hb))
def wL(a:Nat)(ha:a<=4294967295):bI C0 137 [.v (.int .u32 (a:Int))] (.v (.int .i64 (sgn a))):=by
 refine dIZ func137 rfl ?_;refine zW (.v (.bool (decide (a>=2147483648)))) (okB (geN _ _)) ?_;refine zB rfl (λh1=>?_) (λh1=>?_)
 ·refine rW _ rfl (okI (bH ha rfl))<|zV _ ?_;exact qY rfl trivial rfl (af2 (λn:Int=>AV.v (.int .i64 n)) (by have:=af0 h1;unfold sgn;rw[dZ omT];exact wrap_i64 omT omT))
 refine zW _ (okI (bH ha rfl)) ?_;exact qY rfl trivial rfl (af2 (λn:Int=>AV.v (.int .i64 n)) (by have:=aF h1;unfold sgn;rw[af1 omT]))
end Go.Proofs.YtlpkggpdjobpmaaGreatDoor
