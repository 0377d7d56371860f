/- Lemmas. -/
import Derived.Test.YtmbhlpgmfafmbaaGreatDoorS1
import Derived.Test.YtmbhlpgmfafmbaaGreatDoorS28
import Derived.Test.YtmbhlpgmfafmbaaGreatDoorS34
import Derived.Test.YtmbhlpgmfafmbaaGreatDoorS37
set_option linter.all false
namespace Go.Proofs.YtmbhlpgmfafmbaaGreatDoor
set_option maxRecDepth 100000
set_option maxHeartbeats 1000000
open Go Go.RowKit
def dN(s:List Wy):Nat:=(s.filter (·.Z')).length
def dv(c:Ca):Nat:=dN c.Q.flatten
def mi(a b:List Wy):dN (a++b)=dN a+dN b:=by simp[dN]
def jx(w:Wy)(l:List Wy):dN (w::l)=(if w.Z'=true then 1 else 0)+dN l:=by
 unfold dN;rw[List.filter_cons];split<;>simp<;>omega
def v7{a b:List Wy}(h:a.Perm b):dN a=dN b:=(h.filter _).length_eq
def A0(s:List Wy):dN s<=s.length:=List.length_filter_le _ _
theorem sd:∀(l:List (List Wy)) (k:Nat) (s:List Wy) (a:k<l.length),dN (l.set k s).flatten+dN l[k]=dN l.flatten+dN s
 |[],k,s,a=>by cases a
 |x::l,0,s,_=>by show dN (s++l.flatten)+dN x=dN (x++l.flatten)+dN s;rw[mi,mi];omega
 |x::l,k+1,s,a=>by
  have:=sd l k s (sU a);show dN (x++(l.set k s).flatten)+dN (l[k]'(sU a))=dN (x++l.flatten)+dN s;rw[mi,mi];omega
def l3{c:Ca}{k:Nat}(a:k<c.Q.length)(s:List Wy):dv (rK c k s)+dN (pF c k)=dv c+dN s:=by
 rw[vA (aA a)];exact sd c.Q k s a
def xi{c:Ca}(agY:Nat):dv (tO c agY)=dv c:=by
 cases a:(bK c agY).2.isSome with
 |false=>rw[Dx a]
 |true=>
  obtain⟨_,_,f3,f4⟩:=pR a;rw[Dw a];have:=l3 f3 (eY (pF c (bK c agY).1) ((bK c agY).2.getD 0));rw[v7 (EV f4)]at this;omega
def xm(f:Wy->Wy)(l:List Wy):dN (jp f l)<=dN l+1:=by
 cases l with
 |nil=>exact aE _
 |cons w l=>show dN (f w::l)<=_;rw[jx,jx];split<;>split<;>omega
def zt{c:Ca}{a:Nat}{b:ByteArray}:dv (xL c a b).1<=dv c+1:=by
 cases d:(bK c a).2.isSome with
 | false=>
  have:(xL c a b)=(c,false):=by
   unfold xL;have e:bK c a=((bK c a).1,none):=by
    have:(bK c a).2=none:=sU d;rw[<-this]
   rw[e]
  rw[this];exact fF _
 | true=>
  obtain⟨_,_,f3,f4⟩:=pR d;rw[At b d rfl (aA f4)];split
  ·exact fF _
  ·show dv (rK c _ _)<=_;have g:=l3 f3 (jp (λw=>{w with data:=Fk w.data (a%16) b,Z':=true}) (eY (pF c (bK c a).1) ((bK c a).2.getD 0)));have f:=xm (λw=>{w with data:=Fk w.data (a%16) b,Z':=true}) (eY (pF c (bK c a).1) ((bK c a).2.getD 0));rw[v7 (EV f4)]at f;omega
def IN{c:Ca}(j:gG c=true){agY:Nat}(i:(bK c agY).2.isSome=false)(g:(bK c agY).1<c.Q.length)(d:ByteArray):
  dv (qZ c agY d false).1+(if(qZ c agY d false).2.2=true∧(qZ c agY d false).2.1.Z'=true then 1 else 0)<=dv c:=by
 rw[AR j i];split
 ·rename_i k;show dv (rK c _ (⟨ab agY,false,dC d⟩::(pF c (bK c agY).1).dropLast))+(if true=true∧((pF c (bK c agY).1).getLast?.getD qE).Z'=true then 1 else 0)<=_;have b:=l3 g (⟨ab agY,false,dC d⟩::(pF c (bK c agY).1).dropLast);rw[jx,dZ (dT:¬false=true)]at b
  cases a:(pF c (bK c agY).1).getLast? with
  |none=>rw[List.getLast?_eq_none_iff.1 a]at b⊢;simp[qE]at b⊢;omega
  | some w=>
   have h:pF c (bK c agY).1=(pF c (bK c agY).1).dropLast++[w]:=by
    have:=List.dropLast_concat_getLast (l:=pF c (bK c agY).1) (by intro z;rw[z]at a;cases a);rw[List.getLast?_eq_some_getLast (by intro z;rw[z]at a;cases a)]at a;injection a with a;rw[a]at this;exact this.symm
   have f:dN (pF c (bK c agY).1)=dN (pF c (bK c agY).1).dropLast+(if w.Z'=true then 1 else 0):=by
    conv=>lhs;rw[h]
    rw[mi,jx];rfl
   show _+(if true=true∧w.Z'=true then 1 else 0)<=_;by_cases e:w.Z'=true
   ·rw[aa e]at f;rw[aa ⟨rfl,e⟩];omega
   ·rw[dZ e]at f;rw[dZ λz=>e z.2];omega
 ·show dv (rK c _ (⟨ab agY,false,dC d⟩::pF c (bK c agY).1))+(if false=true∧_ then 1 else 0)<=_;have b:=l3 g (⟨ab agY,false,dC d⟩::pF c (bK c agY).1);rw[jx,dZ (dT:¬false=true)]at b;rw[dZ (by simp)];omega
theorem vy:∀(l:List Wy) (j:Nat) (w:Wy),l[j]?=some w->w.Z'=true->dN (l.modify j λw=>{w with Z':=false})+1=dN l
 |[],_,_,h,_=>by cases h
 |x::l,0,w,h,a=>by
  injection h with h;subst h;show dN ({x with Z':=false}::l)+1=dN (x::l)
  rw[jx,jx,aa a];show(if false=true then 1 else 0)+_+1=_;simp;omega
 |x::l,j+1,w,h,a=>by
  have:=vy l j w h a;show dN (x::l.modify j _)+1=dN (x::l);rw[jx,jx];omega
def ys{c:Ca}(a:bT c){w:Wy}(d:b7 c w)(i:w.Z'=true):dv (wB c w.R)+1=dv c:=by
 have e:w.R=ab w.R:=((mq a d).R).symm;have b:=lc a d e;obtain⟨x,j,h,g⟩:=ll a b;obtain⟨_,_,f3,f4⟩:=pR b;have f:x=w:=oc a h d (g.trans e.symm);subst f;rw[Dy b rfl];have k:=l3 f3 ((pF c (bK c x.R).1).modify ((bK c x.R).2.getD 0) λw=>{w with Z':=false});have l:=vy _ _ x j i;omega
def jc(L:Nat)(a:List Pt)(q:List a2):Nat:=
 match a with
 |[]=>0
 |p::l=>l.length*(3*L+3)+(if bf q (ab p.V) 3=true then L+2 else 3*L+3)
def hA(L:Nat)(c:Co):Nat:=wD L c.Y+gF b_ c.Y+(L+1)*dv c.data
def d_(L:Nat)(c:Co):Nat:=hA L c+jc L c.W c.Y
def v9(L:Nat)(a:List Pt)(q:List a2):jc L a q<=a.length*(3*L+3):=by
 unfold jc;split
 ·exact aE _
 rw[bN,cG];split<;>omega
def CJ{c:Co}(e:bT c.data)(agY:Nat):dv (oK c agY).data<=dv c.data:=by
 have a:=(gl.1 e).1;show dv (iQ c.data c.Y c.mem agY (lX c.U c.asked)).1<=_;unfold iQ;rw[dZ (by rw[a];decide)];split
 ·rw[xi];exact aC _
 rename_i b;have b:(bK c.data (ab agY)).2.isSome=false:=sU b;have f:(bK c.data (ab agY)).1<c.data.Q.length:=by rw[rI a];exact AP (kJ a).1 _
 have:=IN a b f (Ga (jZ c.Y c.mem) (ab agY));generalize qZ c.data (ab agY) (Ga (jZ c.Y c.mem) (ab agY)) false=z at this;obtain⟨d,g,w⟩:=z;simp only;split<;>exact aL (Nat.le_add_right _ _) this
def J1{c:Co}(a:bT c.data):dv (lM c).data<=dv c.data:=by
 unfold lM ID;generalize eH c.Y=t;obtain⟨q,x,ok⟩:=t;simp only
 (repeat' split)<;>first|exact aC _|exact CJ (c:={c with Y:=q}) a _
def K0{L:Nat}{c:Co}(d:i7 L c (lM c))(e:bT c.data):hA L (lM c)<=hA L c∧(c.Y≠[]->hA L (lM c)+1<=hA L c):=by
 have g:=Nat.mul_le_mul_left (L+1) (J1 e);have h:=ru d;unfold hA
 cases d with
 |none a b s=>rw[a,b,s.2.2];exact⟨aC _,λz=>absurd rfl z⟩
 |write w r d3 n f p s=>
  have:wD L (lM c).Y+1<=wD L c.Y:=by unfold wD;rw[d3];omega
  exact⟨oT,λ_=>by omega⟩
 |read w r d3 n j f p s=>exact⟨oT,λ_=>by omega⟩
 |done x i w r=>exact⟨oT,λ_=>by omega⟩
def uA{L:Nat}{d:Co}(g:bT d.data)(p:ig d.data)(r:∀k,1<=lX d.U k∧lX d.U k<=(L:Int))(b:d.W=[]):(pE d).W=[]∧d_ L (pE d)<=d_ L d∧(0<dv d.data->d_ L (pE d)+1<=d_ L d):=by
 have m:=(gl.1 g).1;have c:cR d.data=d.data.Q.flatten.find? (·.Z'):=aa m;have f:∀e:Co,e.W=[]->d_ L e=hA L e:=λe o=>by unfold d_ jc;rw[o];rfl
 unfold pE;split
 ·rename_i w a;rw[c]at a;have h:b7 d.data w:=List.mem_of_find?_eq_some a;have n:w.Z'=true:=List.find?_some a;have:=p w h;rw[aa ad];have l:=ys g h n;have v:=r d.asked;have j:d_ L {jE d 4 w.R w.data with data:=wB d.data w.R}+1<=d_ L d:=by
   rw[f d b,f {jE d 4 w.R w.data with data:=wB d.data w.R} b];show wD L (d.Y++[⟨4,w.R,max (lX d.U d.asked) 1,w.data⟩])+gF b_ (d.Y++[⟨4,w.R,max (lX d.U d.asked) 1,w.data⟩])+(L+1)*dv (wB d.data w.R)+1<=hA L d;rw[lw,km];have s:wD L [(⟨4,w.R,max (lX d.U d.asked) 1,w.data⟩:a2)]=(max (lX d.U d.asked) 1).toNat:=by unfold wD gF gF cw cz;simp
   have t:gF b_ [(⟨4,w.R,max (lX d.U d.asked) 1,w.data⟩:a2)]=0:=by unfold gF gF b_;simp
   have u:(L+1)*dv d.data=(L+1)*dv (wB d.data w.R)+(L+1):=by rw[<-l,Nat.mul_add,iD]
   unfold hA;omega
  exact⟨b,oT,λ_=>j⟩
 rename_i i;rw[c]at i;refine⟨b,aC _,λz=>?_⟩;have:dv d.data=0:=by
  unfold dv dN;rw[List.length_eq_zero_iff,List.filter_eq_nil_iff];intro w a q;exact(List.find?_eq_none.1 i) w a q
 omega
def Ak{L s:Nat}{c:Co}(I:L<=8)(li:LI L c)(X:c.mc)(hs:c.U.C=(s:Int))(ap:2<=s)(V:c.halt≠0)(ak:∀p∈c.W,kZ c.mem.size p.V p.data.size=true)(h2:∀e∈c.Z,e.is=2->am e.i.op=3∧e.known=true)(u:∀x∈c.Y,x.ok):
  d_ L (c8 c)+1<=d_ L c∨(d_ L c=0∧d_ L (c8 c)=0):=by
 rw[wn V];have l0:LI L (s0 c):=li.same rfl rfl rfl rfl rfl li.st;have C:(s0 c).mc:=ea X rfl rfl rfl;have g:=l0.ZE I C h2;have A:=qp I l0 C;have E:=(lf C u).mc;obtain⟨t1,t2,t3,t4,t5,t6,t7,t8,t9⟩:=l8 (s0 c);obtain⟨a1,Q⟩:=K0 A C.g;have T:d_ L c=hA L (s0 c)+jc L c.W c.Y:=rfl;have a:(lM (s0 c)).W=c.W:=t1;have U:(lM (s0 c)).U.C=(s:Int):=by rw[t2];exact hs
 have K:(lM (s0 c)).halt≠0:=by rw[t6];exact V
 have b:(s0 c).Y=c.Y:=rfl;rw[T];generalize hD:lM (s0 c)=D at *;have hB:∀d:Co,d.halt≠0->bT d.data->ig d.data->d.U=D.U->d_ L (nP d)<=d_ L d:=λd F y q3 q4=>by
  unfold nP;split
  ·exact aC _
  ·rename_i z;exact(uA y q3 (by rw[q4];exact g.J) (by cases q:d.W with|nil=>rfl|cons _ _=>exact absurd (.inl (by rw[q];simp)) z)).2.1
 cases o:c.W with
 | nil=>
  rw[o]at a;have h:aW D=D:=by unfold aW;rw[a];show({D with W:=[],data:=D.data}:Co)=D;rw[<-a]
  have j:tY D=pE D:=by
   unfold tY;rw[a];show nP (aW D)=_;rw[h];unfold nP;rw[dZ (by rw[a];simp[K])]
  obtain⟨_,R,b3⟩:=uA E.g g.d g.J a;have aq:d_ L D=hA L D:=by unfold d_ jc;rw[a];rfl
  rw[j];show _+1<=hA L (s0 c)+0∨(hA L (s0 c)+0=0∧_);by_cases m:c.Y=[]
  ·by_cases hd:0<dv D.data
   ·left;have:=b3 hd;omega
   ·right;have S:D.data=c.data∧D.Y=[]:=by
     cases A with
     |none p q s=>exact⟨s.2.2,q⟩
     |write w r d3 n f p s=>have:=w;rw[b,m]at this;exact absurd this (by show ¬_+1<=0;omega)
     |read w r d3 n v f p s=>rw[b,m]at v;cases v
     |done x k4 w r n=>rw[b,m]at n;cases n
    have hz:hA L (s0 c)=0:=by
     show wD L c.Y+gF b_ c.Y+(L+1)*dv c.data=0;rw[m, <-S.1,(oT:dv D.data=0)];rfl
    exact⟨hz,oT⟩
  ·left;have:=Q m;omega
 | cons p l=>
  rw[o]at a;have ag:=ak p (by rw[o];exact b1);left;have h:sL D.W D.data=if(xL D.data p.V p.data).2=true then(l,(xL D.data p.V p.data).1,true)else(D.W,D.data,false):=by rw[a];rfl
  have ai:jc L (p::l) c.Y=l.length*(3*L+3)+(if bf c.Y (ab p.V) 3=true then L+2 else 3*L+3):=rfl;rw[ai];have ao:L+2<=(if bf c.Y (ab p.V) 3=true then L+2 else 3*L+3):=by split<;>omega
  by_cases B:(xL D.data p.V p.data).2=true
  ·rw[aa B]at h;have j:tY D=nP (aW D):=by have i:=h;rw[a]at i;unfold tY;rw[a];show(if(sL (p::l) D.data).2.2=true then _ else _)=_;rw[i];rfl
   have k:(aW D).data=(xL D.data p.V p.data).1:=by show(sL D.W D.data).2.1=_;rw[h]
   have e4:(aW D).W=l:=by show(sL D.W D.data).1=_;rw[h]
   have h5:=hB (aW D) K (by rw[k];exact E.g.write _ _) (by rw[k];exact tl E.g g.d B) rfl;rw[j];have h6:d_ L (aW D)<=hA L D+(L+1)+l.length*(3*L+3):=by
    have d1:=Nat.mul_le_mul_left (L+1) (zt (c:=D.data) (a:=p.V) (b:=p.data));have d2:=v9 L l D.Y;rw[Nat.mul_add,iD]at d1;unfold d_ hA;rw[k,e4];show wD L D.Y+gF b_ D.Y+_+jc L l D.Y<=_;omega
   omega
  ·rw [dZ B]at h;have j:aW D=D:=by unfold aW;rw[h]
   have k:tY D=if bf D.Y (ab p.V) 3=false∧tA D true=true then jE D 3 (ab p.V) oZ else D:=by
    have H:∀d:Co,d.W=p::l->nP d=d:=λd q=>aa (.inl (by rw[q];simp));have i:=h;rw[a]at i;unfold tY;rw[a];show(if(sL (p::l) D.data).2.2=true then _ else nP (tW (aW D)))=_;rw[i,dZ (by simp),j];have:tW D=if bf D.Y (ab p.V) 3=false∧tA D true=true then jE D 3 (ab p.V) oZ else D:=by unfold tW;rw[a]
    rw[this];split
    ·exact H _ a
    ·exact H _ a
   rw[k];have Z:∀w,b7 D.data w->w.R=ab p.V->False:=λw z1 z2=>
    B (v6 E.g g.d (show kZ c.mem.size p.V p.data.size=true from ag) z1 z2)
   have J:bf c.Y (ab p.V) 3=bf D.Y (ab p.V) 3:=by
    cases A with
    |none F y _=>rw[y];rw[b]at F;rw[F]
    |write _ _ _ _ _ q _=>exact(q _ 3 dT).2.symm
    |read _ _ _ _ _ _ q _=>exact(q _ 3).2.symm
    | done x k4 w r n f q z one agI bb al G=>
     cases t:du (ab p.V) 3 x with
     |false=>exact(q _ 3 dT t).1.symm
     |true=>
      unfold du at t;simp only[aP,aY]at t;obtain⟨ar,u1,u2⟩:=G t.2;exact(Z ar u1 (by rw[u2,t.1,fI])).elim
   have M:∀q,jc L (p::l) q=l.length*(3*L+3)+(if bf q (ab p.V) 3=true then L+2 else 3*L+3):=λ_=>rfl;have N:D.Y≠[]->c.Y≠[]:=λz q=>by
    cases A with
    |none F y _=>exact z y
    |write w r d3 n f p s=>have:=w;rw[b,q]at this;exact absurd this (by show ¬_+1<=0;omega)
    |read w r d3 n v f p s=>rw[b,q]at v;cases v
    |done x k4 w r n=>rw[b,q]at n;cases n
   split
   ·rename_i P;have hv:=g.J D.asked;have W:bf (jE D 3 (ab p.V) oZ).Y (ab p.V) 3=true:=by
     show bf (D.Y++_) _ _=true;rw[j5,dE];right;unfold bf;simp
    have O:d_ L (jE D 3 (ab p.V) oZ)=wD L (D.Y++[⟨3,ab p.V,max (lX D.U D.asked) 1,oZ⟩])+gF b_ (D.Y++[⟨3,ab p.V,max (lX D.U D.asked) 1,oZ⟩])+(L+1)*dv D.data+(l.length*(3*L+3)+(L+2)):=by
     unfold d_;rw[show(jE D 3 (ab p.V) oZ).W=p::l from a,M,aa W];rfl
    rw[O,lw,km];have an:wD L [(⟨3,ab p.V,max (lX D.U D.asked) 1,oZ⟩:a2)]=L:=by unfold wD gF gF cw cz;simp
    have R:gF b_ [(⟨3,ab p.V,max (lX D.U D.asked) 1,oZ⟩:a2)]=(max (lX D.U D.asked) 1).toNat:=by unfold gF gF b_;simp
    rw[an,R,J,P.1,dZ dT];unfold hA at a1⊢;omega
   ·rename_i P;have O:d_ L D=hA L D+(l.length*(3*L+3)+(if bf D.Y (ab p.V) 3=true then L+2 else 3*L+3)):=by
     unfold d_;rw[a,M]
    rw[O,J];have Y:D.Y≠[]:=λz=>by
     apply P;rw[z];refine⟨rfl,?_⟩;unfold tA;rw[aa rfl,z,U];exact jP (by show((0:Nat):Int)<_;omega)
    have:=Q (N Y);omega
def h9(f:Cf):Int:=60+2*(f.C+f.W+f.Q*f.ways+4)*(dl f.J+1)*(f.W+f.Q*f.ways+2)
structure lS(c:Co):Prop where
 st:c.W=[]
 Y:c.Y=[]
 di:∀w,b7 c.data w->w.Z'=false
def xT{L:Nat}{c:Co}(i:LI L c)(h:d_ L c=0):lS c:=by
 have b:hA L c=0∧jc L c.W c.Y=0:=by unfold d_ at h;omega
 obtain⟨b,d⟩:=b;refine⟨?_,?_,λw g=>?_⟩
 ·cases f:c.W with
  |nil=>rfl
  |cons p l=>
   rw[f]at d;have d:l.length*(3*L+3)+(if bf c.Y (ab p.V) 3=true then L+2 else 3*L+3)=0:=d;split at d<;>omega
 ·unfold hA wD at b
  cases e:c.Y with
  |nil=>rfl
  |cons x q=>
   have j:=i.b x (by rw[e];exact b1);rw[e]at b;have a:gF cw (x::q)=0∧gF b_ (x::q)=0:=oT;unfold gF at a;rw[m0]at a;cases z:b_ x<;>rw[z]at a<;>simp at a<;>omega
 ·unfold hA at b;have:dv c.data=0:=by
   rcases jt (dv c.data)with z|z
   ·exact z
   ·have:=Nat.mul_pos (oT:0<L+1) z;omega
  unfold dv dN at this;rw[List.length_eq_zero_iff,List.filter_eq_nil_iff]at this;simpa using this w g
def H9{c:Co}(h:lS c)(b:c.mc)(k:ig c.data):Xr c=c.mem:=by
 refine lq (by unfold Xr;rw[MU]) λi e=>?_;unfold Xr at e⊢;rw[MU]at e;rw[nr _ _ _ _ e,h.st,h.Y];show(gh c.data [] c.mem i)=_;unfold gh;have g:dz [] c.mem i=gb c.mem i:=rfl;by_cases j:∃w,b7 c.data w∧w.R=ab i
 ·obtain⟨w,a,d⟩:=j;have f:=b.cl w a (h.di w a) (k w a) i e d;rw[h.Y]at f;rw[i3 b.g a d,f,g];cases gb c.mem i<;>rfl
 rw[m4 b.g λw a d=>j ⟨w,a,d⟩];exact g
def xw{P:Nat->Prop}(n:Nat)(h:P n):∃k,k<=n∧P k∧∀j,j<k-> ¬P j:=by
 induction n using Nat.strongRecOn with
 | ind n ih=>
  by_cases q:∃j,j<n∧P j
  ·obtain⟨j,d,e⟩:=q;obtain⟨k,a,b,c⟩:=ih j d e;exact⟨k,oT,b,c⟩
  ·exact⟨n,aC _,h,λj d e=>q ⟨j,d,e⟩⟩
theorem uU{L s:Nat}{X:Co}{m:ByteArray}(c:L<=8)(l:X.U.C=(s:Int))(ap:2<=s)(b:∀k,k<=3000->ip X k)(a:X.mc)(hI:Iv X.prog X (PL m))(f:X.N=[])(d:∀k,k<=3000->LI L (uN X k)){t:Nat}(n:(uN X t).halt≠0):∀j,t+j<=3000->(uN X (t+j)).halt=(uN X t).halt∧(d_ L (uN X (t+j))+j<=d_ L (uN X t)∨d_ L (uN X (t+j))=0)
 |0,_=>⟨rfl,.inl (aC _)⟩
 | j+1,y=>by
  obtain⟨h,o⟩:=uU c l ap b a hI f d n j ad;have g:=b (t+j) ad;have w:=EL g.ok ad g.rt;have e:uN X (t+(j+1))=c8 (uN X (t+j)):=(show uG (uN X (t+j))=_ from aa g.rt);have i:(uN X (t+j)).halt≠0:=by rw[h];exact n
  obtain⟨u,_,x,_⟩:=la b a hI f (t+j) ad;rw[e];refine⟨(sb i).halt.trans h,?_⟩;have p:(uN X (t+j)).U=X.U:=g.bd.U;rcases Ak c (d (t+j) ad) (kp b a _ ad) (by rw[p];exact l) ap i g.rc.sp (λe r z=>by
   obtain⟨k,v⟩:=List.getElem?_of_mem r;exact(ic x.ri.ok v).Y z) w.ok.Z_ with q|q
  ·rcases o with z|z
   ·left;omega
   ·omega
  ·exact .inr q.2
theorem o6{prog:List Nat}:∀{s t:St} {l:List Sp},ir prog s l t->t=cr prog s l.length
 |s,t,[],h=>h
 |s,t,x::l,⟨_,_,h⟩=>by rw[o6 h,nS];rfl
theorem p9{prog:List Nat}:∀{n:Nat} {s:St} {k:Nat},k<cv prog n s->(cr prog s k).halt=0
 |0,s,k,h=>absurd h (dG k)
 | n+1,s,k,h=>by
  unfold cv at h;split at h
  ·rename_i a
   cases k with
   |zero=>exact a
   |succ k=>rw[<-nS];exact p9 (n:=n) ad
  ·omega
def pe{prog:List Nat}{s t:St}{l:List Sp}(h:ir prog s l t){N:Nat}(e:cv prog N s=N)(c:(cr prog s N).halt≠0):l.length<=N∧(t.halt≠0->l.length=N)∧(l.length=N->t.halt≠0):=by
 have b:=o6 h;have d:=(oy h).2;have a:l.length<=N:=by
  rcases ew N l.length with q|q
  ·exact absurd (p9 (by rw[d];exact q)) c
  exact q
 refine⟨a,λz=>?_,λz=>by rw[b,z];exact c⟩;rcases ew l.length N with q|q
 ·rw[b]at z;exact absurd (p9 (by rw[e];exact q)) z
 omega
def yq{d:Ca}(c:bT d){e w:Nat}(g:(d.Q.length:Int)=e)(i:d.ways=(w:Int)):dv d<=e*w:=by
 refine aL (A0 _) ?_;have:∀l:List (List Wy),(∀s∈l,s.length<=w)->l.flatten.length<=l.length*w:=λl=>by
  induction l with
  |nil=>intro _;exact aE _
  |cons x l ih=>
   intro h;have a:=h x b1;have:=ih λs b=>h s (bY _ b);rw[mU,aU,bN,cG];omega
 have a:=this d.Q λs b=>by
  obtain⟨k,f⟩:=List.getElem?_of_mem b;have:=(c.set k s f).len;omega
 rw[(oT:d.Q.length=e)]at a;exact a
def Jr(s S L D:Nat):Bool:=decide (4*L+s*L+(L+1)*D+S*(3*L+3)+1<=62+2*(s+S+D+4)*(L+1)*(S+D+2))
def FB:((List.range 7).all λs=>(List.range 5).all λS=>(List.range 9).all λL=>(List.range 9).all λD=>Jr s S L D)=true:=by decide+kernel
def yw(s:Nat)(a:s<7)(S:Nat)(b:S<5)(L:Nat)(c:L<9)(D:Nat)(d:D<9):4*L+s*L+(L+1)*D+S*(3*L+3)+1<=62+2*(s+S+D+4)*(L+1)*(S+D+2):=
 a7 (rC.1 (rC.1 (rC.1 (rC.1 FB s (lI.2 a)) S (lI.2 b)) L (lI.2 c)) D (lI.2 d))
def FE{c:Cf}{prog:List Nat}{m:ByteArray}{X:Co}(r:X=fX c prog m)(P:0<=X.U.Z∧0<=X.U.queue)(h:∀k,k<=3000->ip X k)(g:X.mc)(hI:Iv X.prog X (PL m)){N:Nat}(J:cv X.prog N (PL m)=N)(K:(cr X.prog (PL m) N).halt≠0){d:Nat}(hf:(d:Int)=e9 (bZ c)*N+h9 (bZ c)+2)(ap:d<=2000):
  (uN X d).halt=(cr X.prog (PL m) N).halt∧(uN X d).r=(cr X.prog (PL m) N).r∧(uN X d).mem=(cr X.prog (PL m) N).mem∧(uN X d).N=(fc X.prog (PL m) N).map Prod.snd∧lS (uN X d):=by
 have l:X.N=[]:=by rw[r];rfl
 have h1:=NS c.C 2 6 dT;have h2:=NS c.W 1 4 dT;have h3:=NS c.ways 1 2 dT;have h4:=NS c.Q 1 4 dT;have hm:=ot c;obtain⟨s,n⟩:∃s:Nat,(bZ c).C=s:=⟨(bV c.C 2 6).toNat,by show bV c.C 2 6=_;omega⟩;obtain⟨S,p⟩:∃S:Nat,(bZ c).W=S:=⟨(bV c.W 1 4).toNat,by show bV c.W 1 4=_;omega⟩;have e4:(bZ c).Q=if bV c.Q 1 4=3 then 2 else bV c.Q 1 4:=rfl
 have av:0<=(bZ c).Q∧(bZ c).Q<=4:=by rw[e4];split<;>omega
 obtain⟨e,Y⟩:∃e:Nat,(bZ c).Q=e:=⟨(bZ c).Q.toNat,oT⟩;obtain⟨w,hw⟩:∃w:Nat,(bZ c).ways=w:=⟨(bV c.ways 1 2).toNat,by show bV c.ways 1 2=_;omega⟩;have Z:e*w<9:=by
  have a:e<=4:=oT;have b:w<=2:=by have:(bZ c).ways=bV c.ways 1 2:=rfl;omega
  have:=cJ a b;omega
 obtain⟨y,O,b3⟩:=yi c n p rfl;generalize hL:(dl (bZ c).J).toNat=L at y O b3;have au:(bZ c).C=bV c.C 2 6:=rfl;have ao:(bZ c).W=bV c.W 1 4:=rfl;have i:X.U=bZ c:=by rw[r];rfl
 have f:=si ad (oT:L<=8) (i ▸ n) (i ▸ p) P y h g hI l (r ▸ hL ▸ LI.new c prog m);have am:g5 L s X=2*(s*L)+9*L+73:=r ▸ w4 c prog m L s;generalize hB:(e9 (bZ c)).toNat=B at y O f;have T:e9 (bZ c)=(B:Int):=by
  have:0<=e9 (bZ c):=by
   rcases Int.lt_or_le (e9 (bZ c)) 0 with z|z
   ·rw[Int.toNat_of_nonpos ad]at hB;omega
   exact z
  omega
 have hD:=yw s ad S ad L ad (e*w) Z;have W:h9 (bZ c)=((60+2*(s+S+e*w+4)*(L+1)*(S+e*w+2):Nat):Int):=by
  unfold h9;rw[n,p,Y,hw,(oT:dl (bZ c).J=(L:Int))]
  push_cast;rfl
 have al:d=B*N+(60+2*(s+S+e*w+4)*(L+1)*(S+e*w+2))+2:=by
  rw[T,W]at hf;exact_mod_cast hf
 have Q:(uN X (B*N)).halt≠0:=λz=>by
  obtain⟨t,r1,r2,_⟩:=la h g hI l (B*N) ad;have:=(f (B*N) ad).go.resolve_left λq=>q z;obtain⟨a1,a2,I⟩:=pe r1 J K;have x:B*N+B*0<B*((uN X (B*N)).N.length+1):=by rw[Nat.mul_add,iD];omega
  have:N<(uN X (B*N)).N.length+1:=Nat.lt_of_mul_lt_mul_left (sU x);exact I ad (by rw[<-r2.halt];exact z)
 obtain⟨t,t1,t2,t3⟩:=xw (P:=λk=>(uN X k).halt≠0) (B*N) Q;have aw:t≠0:=λz=>by rw[z]at t2;exact t2 (by rw[r];rfl)
 obtain⟨k,rfl⟩:∃k,t=k+1:=⟨t-1,oT⟩;have F:(uN X k).halt=0:=ej.1 (t3 k ad);have o:=h k ad;have aq:=(f k ad).go.resolve_left λq=>q F;obtain⟨ax,u1,u2,_⟩:=la h g hI l k ad;have U:(uN X k).N.length+1<=N:=by
  obtain⟨a1,a2,I⟩:=pe u1 J K;rcases ew (uN X k).N.length N with q|q
  ·exact q
  exact absurd (u2.halt ▸ F) (I ad)
 have u:=EL o.ok ad o.rt;obtain⟨_,wd,_,_⟩:=su ad (oT:L<=8) (i ▸ n) (i ▸ p) P (f k ad).li u ad u2 (kp h g k ad) o.bd o.rc y;have ek:uN X (k+1)=c8 (uN X k):=(show uG (uN X k)=_ from aa o.rt);rw[<-ek]at wd;have gt:=h (k+1) ad;have x:=(f (k+1) ad).li;have ag:yH (uN X (k+1)).Y<=s:=by have:=gt.bd.rd;rw[i,n]at this;omega
 have ai:(uN X (k+1)).W.length<=S:=by have:=gt.bd.Z9;rw[i,p]at this;omega
 have ab:=kp h g (k+1) ad;have D:(uN X (k+1)).U=bZ c:=gt.bd.U.trans i;have V:=yq ab.g (gt.rc.da.1.trans (by rw[D];exact Y)) (gt.rc.da.2.trans (by rw[D];exact hw));have ar:d_ L (uN X (k+1))<=wD L (uN X (k+1)).Y+s*L+(L+1)*(e*w)+S*(3*L+3):=by
  have p1:=jd x.b ag;have p2:=aL (v9 L (uN X (k+1)).W (uN X (k+1)).Y) (eF (3*L+3) ai);have p3:=Nat.mul_le_mul_left (L+1) V;unfold d_ hA;omega
 have an:wD L (uN X k).Y<=g5 L s (uN X k):=by unfold g5 h5 wD;omega
 have R:B*((uN X k).N.length+1)<=B*N:=Nat.mul_le_mul_left B U;rw[Nat.mul_add,iD]at R;obtain⟨j,hj⟩:∃j,d=k+1+j:=⟨d-(k+1),oT⟩;obtain⟨z1,z2⟩:=uU (oT:L<=8) (i ▸ n) ad h g hI l (λk hk=>(f k hk).li) t2 j ad;rw[<-hj]at z1 z2;have hz:d_ L (uN X d)=0:=by rcases z2 with q|q<;>omega
 have E:=xT (f d ad).li hz;obtain⟨v,M,C,_⟩:=la h g hI l d ad;have ak:v.halt≠0:=by rw[<-C.halt,z1];exact t2
 have G:=(pe M J K).2.1 ak;have A:=o6 M;rw[G]at A;have H:=(oy M).1;rw[G]at H;refine⟨by rw[C.halt,A],by rw[C.r,A],?_,H,E⟩;rw[<-A, <-C.mem];exact(H9 E (kp h g d ad) (f d ad).li.d).symm
def xM(e:Cf)(prog:List Nat)(m:ByteArray)(n:e.ok)(hp:∀x∈Bj prog,x<=4294967295){N b:Nat}(j:cv (Bj prog) N (PL m)=N)(p:(cr (Bj prog) (PL m) N).halt≠0)(w:(b:Int)=e9 (bZ e)*N+h9 (bZ e)+2)(o:b<=2000)(c:Co)(l:c=uN (fX e (Bj prog) m) b):
  c.ok (10*b)∧jF c=true∧c.halt=(cr (Bj prog) (PL m) N).halt∧c.r=(cr (Bj prog) (PL m) N).r∧c.mem=(cr (Bj prog) (PL m) N).mem∧c.N=(fc (Bj prog) (PL m) N).map Prod.snd∧lS c:=by
 obtain⟨X,a⟩:∃X,X=fX e (Bj prog) m:=⟨_,rfl⟩;rw[<-a]at l;have d:X.ok 0:=a ▸ Id e _ _ n hp;have f:0<=X.U.Z∧0<=X.U.queue:=by rw[a];exact HB e
 have h:jF X=true:=a ▸ J' _ _ _ (a ▸ d);have i:=r2 (Eh e (Bj prog) m n hp X a h) f;have q:X.mc:=by subst a;exact F_ _ _ _ (EL d ad h)
 have k:X.prog=Bj prog:=by rw[a];exact xk prog
 have hI:Iv X.prog X (PL m):=by subst a;exact Iv.new _ _ _
 have g:=i b ad;rw[<-k]at j p⊢;obtain⟨r,s,t,u,v⟩:=FE a f i q hI j p w o;subst l;exact⟨g.ok,g.rt,r,s,t,u,v⟩
open Go.Proofs.Tryz
set_option maxHeartbeats 4000000
open Go.RowKit
def im(l:List Int)(k:Nat):Int:=dl (l.take k)
def vw{l:List Int}{k:Nat}{x:Int}(h:l[k]?=some x):im l (k+1)=if x>im l k then x else im l k:=by
 unfold im dl;rw[bW,h,List.foldl_append];rfl
def J0{l:List Int}{k:Nat}{x:Int}(h:l[k]?=some x)(q:decide (x>im l k)=true):x=im l (k+1):=by
 rw[vw h,aa (a7 q)]
def x5{l:List Int}{k:Nat}{x:Int}(h:l[k]?=some x)(q:decide (x>im l k)=false):im l k=im l (k+1):=by
 rw[vw h,dZ (aF q)]
def kc{a b:Int}(d:0<=a∧a<=1000000)(c:0<=b∧b<=1000):wrap64 (a*b)=a*b:=by
 have e:0<=a*b:=Int.mul_nonneg d.1 c.1;have f:a*b<=1000000*1000:=Int.mul_le_mul d.2 c.2 c.1 dT;unfold wrap64;omega
def ii{a b:Int}(c:0<=a∧a<=1000000000)(d:0<=b∧b<=1000000000):wrap64 (a+b)=a+b:=by unfold wrap64;omega
structure DZ(f:Cf):Prop where
 s:0<=f.C∧f.C<=6
 t:0<=f.W∧f.W<=4
 e:0<=f.Q∧f.Q<=4
 w:0<=f.ways∧f.ways<=2
 m:0<=dl f.J∧dl f.J<=8
 p:0<=f.Q*f.ways∧f.Q*f.ways<=8
 q:0<=(f.C+f.W+f.Q*f.ways+4)*(dl f.J+1)∧(f.C+f.W+f.Q*f.ways+4)*(dl f.J+1)<=1000
def pf(c:Cf):DZ (bZ c):=by
 have h:=NS c.C 2 6 dT;have i:=NS c.W 1 4 dT;have j:=NS c.ways 1 2 dT;have k:=NS c.Q 1 4 dT;have l:=ot c;have d:(bZ c).C=bV c.C 2 6:=rfl;have f:(bZ c).W=bV c.W 1 4:=rfl;have g:(bZ c).ways=bV c.ways 1 2:=rfl;have a:(bZ c).Q=if bV c.Q 1 4=3 then 2 else bV c.Q 1 4:=rfl
 have e:0<=(bZ c).Q∧(bZ c).Q<=4:=by rw[a];split<;>omega
 have w:0<=(bZ c).ways∧(bZ c).ways<=2:=oT;have b:=Int.mul_nonneg e.1 w.1;have m:=Int.mul_le_mul e.2 w.2 w.1 dT;refine⟨oT,oT,e,w,oT,⟨b,oT⟩,Int.mul_nonneg oT oT,?_⟩;have:=Int.mul_le_mul (oT:(bZ c).C+(bZ c).W+(bZ c).Q*(bZ c).ways+4<=22) (oT:dl (bZ c).J+1<=9) oT dT;omega
def rz(c:Cf)(j:c.ok):bI C0 15 [.agg (fv c false false)] (vI (dl (bZ c).J)):=by
 refine bx func15 rfl ?_;have o:(bZ c).J.length<=64:=QT c;refine zC (o4 c j)<|bw (x:=vN (((bZ c).J).length)) rfl rfl (cD a_ ((bZ c).J)) ?_;refine dm 0 rfl<|dy (κ:=Nat) (λk=>⟨be [(2,vI 0),(8,.X 1 (((bZ c).J).map a_) false),(9,vN (((bZ c).J).length)),(3,vI (im (bZ c).J k)),(10,vN k)],ao [(0,.box [vI c.mode,vI c.u,vI c.Z,vI c.queue,vI c.W,vI c.C,vI c.Q,vI c.ways,.X 1 (c.J.map a_) false,vB c.tables,.X 1 (c.tape.map dU) false])],8⟩) (λk=>k<=((bZ c).J).length) (λk=>((bZ c).J).length-k) 0 (λs=>s) (au (λs=>s) wT wH rfl) (aE _) ?_;intro k l;have n:k<=((bZ c).J).length:=l;have b:k<=64:=oT;refine bw (x:=vB (decide (k<(((bZ c).J).length)))) rfl rfl (ar (b2 _ _)) ?_;refine dm 0 rfl<|zB rfl (λd=>?_) (λd=>?_)
 ·have f:=a7 d;obtain⟨x,e⟩:∃m,((bZ c).J)[k]?=some m:=⟨_,aA ad⟩;refine FO (a_ x) (x:=.dp 1 0 (a_ x)) rfl rfl rfl (⟨aG _,iH e⟩) rfl<|qR 0 rfl<|bw (x:=vB (decide (x>(im (bZ c).J k)))) rfl rfl rfl ?_;refine dm 0 rfl<|zB rfl (λa=>?_) (λa=>?_)
  ·have g:=a7 a;have h:k+1<=65:=aD b (aC 1);refine bw (x:=vN (k+1)) rfl rfl (ax (bH h rfl)) ?_;refine cd 0 rfl<|⟨k+1,λs=>s,au (λs=>s) ⟨⟨rfl,rfl⟩,⟨rfl,rfl⟩,⟨rfl,rfl⟩,⟨(a1 (λz:Int=>vI z) (J0 e a)),rfl⟩,⟨rfl,rfl⟩,trivial⟩ wH rfl,oT,by show((bZ c).J).length-(k+1)<((bZ c).J).length-k;omega⟩
  have g:=aF a;have i:k+1<=65:=aD b (aC 1);refine bw (x:=vN (k+1)) rfl rfl (ax (bH i rfl)) ?_;refine cd 0 rfl<|⟨k+1,λs=>s,au (λs=>s) ⟨⟨rfl,rfl⟩,⟨rfl,rfl⟩,⟨rfl,rfl⟩,⟨(a1 (λz:Int=>vI z) (x5 e a)),rfl⟩,⟨rfl,rfl⟩,trivial⟩ wH rfl,oT,by show((bZ c).J).length-(k+1)<((bZ c).J).length-k;omega⟩
 have f:=aF d;exact dK rfl trivial rfl (by unfold im;rw[aN oT];rfl)
def FC(c:Cf)(b:c.ok):bI C0 7 [.agg (fv c false false)] (vI (e9 (bZ c))):=by
 refine dx func7 rfl ?_;obtain⟨⟨s1,ap⟩,⟨t1,t2⟩,⟨j,k⟩,⟨l,m⟩,⟨f,g⟩,⟨h,i⟩,⟨d,e⟩⟩:=pf c;have a:0<=((bZ c).C+(bZ c).W+(bZ c).Q*(bZ c).ways+4)*(dl (bZ c).J+1)*((bZ c).W+3)∧((bZ c).C+(bZ c).W+(bZ c).Q*(bZ c).ways+4)*(dl (bZ c).J+1)*((bZ c).W+3)<=1000000000:=by have:=Int.mul_nonneg d (oT:0<=(bZ c).W+3);have:=Int.mul_le_mul e (oT:(bZ c).W+3<=7) oT dT;omega
 refine zC (o4 c b)<|bw (x:=vI ((bZ c).C+(bZ c).W)) rfl rfl (ax ((ae _).trans (ii oT oT))) ?_;refine qR 0 rfl<|bw (x:=vI ((bZ c).Q*(bZ c).ways)) rfl rfl (ax ((ae _).trans (kc oT oT)))<|bw (x:=vI ((bZ c).C+(bZ c).W+(bZ c).Q*(bZ c).ways)) rfl rfl (ax ((ae _).trans (ii oT oT)))<|bw (x:=vI ((bZ c).C+(bZ c).W+(bZ c).Q*(bZ c).ways+4)) rfl rfl (ax ((ae _).trans (ii oT dT)))<|dm 0 rfl<|Wz rfl<|oR 2 rfl<|fd rfl (.inl rfl) (rz c b)<|bw (x:=vI (dl (bZ c).J+1)) rfl rfl (ax ((ae _).trans (ii oT dT)))<|bw (x:=vI (((bZ c).C+(bZ c).W+(bZ c).Q*(bZ c).ways+4)*(dl (bZ c).J+1))) rfl rfl (ax ((ae _).trans (kc oT oT)))<|oR 2 rfl<|bw (x:=vI ((bZ c).W+3)) rfl rfl (ax ((ae _).trans (ii oT dT)))<|bw (x:=vI (((bZ c).C+(bZ c).W+(bZ c).Q*(bZ c).ways+4)*(dl (bZ c).J+1)*((bZ c).W+3))) rfl rfl (ax ((ae _).trans (kc oT oT)))<|bw (x:=vI (e9 (bZ c))) rfl rfl (ax ((ae _).trans ((ii dT a)))) ?_;refine oR 1 rfl<|rE 30<|cm 0 rfl ?_;exact dK rfl trivial rfl rfl
attribute [local irreducible] jS
def E2(c:Cf)(d:c.ok):bI C0 8 [.agg (fv c false false)] (vI (h9 (bZ c))):=by
 refine dx func8 rfl ?_;obtain⟨⟨s1,ap⟩,⟨t1,t2⟩,⟨m,n⟩,⟨o,p⟩,⟨g,h⟩,⟨i,j⟩,⟨k,l⟩⟩:=pf c;obtain⟨y,e⟩:∃z:Int,z=2*((bZ c).C+(bZ c).W+(bZ c).Q*(bZ c).ways+4):=⟨_,rfl⟩;have a:0<=y*(dl (bZ c).J+1)∧y*(dl (bZ c).J+1)<=1000:=⟨Int.mul_nonneg oT oT,by have:=Int.mul_le_mul (oT:y<=44) (oT:dl (bZ c).J+1<=9) oT dT;omega⟩;have b:0<=y*(dl (bZ c).J+1)*((bZ c).W+(bZ c).Q*(bZ c).ways+2)∧y*(dl (bZ c).J+1)*((bZ c).W+(bZ c).Q*(bZ c).ways+2)<=1000000000:=by have:=Int.mul_nonneg a.1 (oT:0<=(bZ c).W+(bZ c).Q*(bZ c).ways+2);have:=Int.mul_le_mul a.2 (oT:(bZ c).W+(bZ c).Q*(bZ c).ways+2<=14) oT dT;omega
 refine fd rfl (.inl rfl) (o4 c d) ?_;refine j3 0 0 rfl<|Fq (κ:=Unit) (λf=>⟨be [(1,.ptr 0 0),(3,.ptr 4 0),(4,vI ((bZ c).C+(bZ c).W+(bZ c).Q*(bZ c).ways+4))],ao [(0,.box [vI c.mode,vI c.u,vI c.Z,vI c.queue,vI c.W,vI c.C,vI c.Q,vI c.ways,.X 1 (c.J.map a_) false,vB c.tables,.X 1 (c.tape.map dU) false]),(4,.box [vI ((bZ c).mode),vI ((bZ c).u),vI ((bZ c).Z),vI ((bZ c).queue),vI ((bZ c).W),vI ((bZ c).C),vI ((bZ c).Q),vI ((bZ c).ways),.X 1 (((bZ c).J).map a_) false,vB ((bZ c).tables),.X 1 (((bZ c).tape).map dU) false])],6⟩) (λf=>True) ?_ ?_
 ·refine qS 0 rfl<|bw (x:=vI ((bZ c).C+(bZ c).W)) rfl rfl (ax ((ae _).trans (ii oT oT)))<|qR 0 rfl<|bw (x:=vI ((bZ c).Q*(bZ c).ways)) rfl rfl (ax ((ae _).trans (kc oT oT)))<|bw (x:=vI ((bZ c).C+(bZ c).W+(bZ c).Q*(bZ c).ways)) rfl rfl (ax ((ae _).trans (ii oT oT)))<|bw (x:=vI ((bZ c).C+(bZ c).W+(bZ c).Q*(bZ c).ways+4)) rfl rfl (ax ((ae _).trans (ii oT dT))) ?_;refine cd 0 rfl<| .mk _ (.refl _) ⟨(),λs=>s,au (λs=>s) wT wH rfl,rfl,trivial⟩
 intro f _;refine j2 0 rfl<|Wz rfl<|oR 1 rfl<|bw (x:=vI y) rfl rfl (ax ((ae _).trans ((kc dT oT).trans e.symm)))<|oR 1 rfl<|fd rfl (.inl rfl) (rz c d)<|bw (x:=vI (dl (bZ c).J+1)) rfl rfl (ax ((ae _).trans (ii oT dT)))<|bw (x:=vI (y*(dl (bZ c).J+1))) rfl rfl (ax ((ae _).trans (kc oT oT)))<|oR 6 rfl<|bw (x:=vI ((bZ c).Q*(bZ c).ways)) rfl rfl (ax ((ae _).trans (kc oT oT)))<|bw (x:=vI ((bZ c).W+(bZ c).Q*(bZ c).ways)) rfl rfl (ax ((ae _).trans (ii oT oT)))<|bw (x:=vI ((bZ c).W+(bZ c).Q*(bZ c).ways+2)) rfl rfl (ax ((ae _).trans (ii oT dT)))<|bw (x:=vI (y*(dl (bZ c).J+1)*((bZ c).W+(bZ c).Q*(bZ c).ways+2))) rfl rfl (ax ((ae _).trans (kc ⟨a.1,oT⟩ oT)))<|bw (x:=vI (h9 (bZ c))) rfl rfl (ax ((ae _).trans ((ii dT b).trans (by rw[e];rfl))))<|oR 1 rfl<|rE 24 ?_;refine cm 0 rfl ?_;exact dK rfl trivial rfl rfl
def y6{a b:Int}(h:a=b):(a != b)=false:=by rw[h];simp
def yz{a b:ByteArray}(h:a=b):(!(a.toList==b.toList))=false:=by rw[h];simp
theorem t'{prog:List Nat}:∀(n:Nat) (s:St),cv prog (cv prog n s) s=cv prog n s
 |0,_=>rfl
 | n+1,s=>by
  by_cases h:s.halt=0
  ·have e:cv prog (n+1) s=cv prog n (gE prog s).1+1:=aa h;rw[e];exact(aa h).trans (a1 (· +1) (t' n _))
  ·have e:cv prog (n+1) s=0:=dZ h;rw[e];rfl
def B0(prog:List Nat)(m:ByteArray)(N:Nat)(a:N<=12)(hp:∀x∈prog,x<=4294967295)(b:prog.length<=1000):∃(u:St) (T:List Sp),u.ok∧T.length<=12∧cv prog T.length (PL m)=T.length∧u=cr prog (PL m) T.length∧T=(fc prog (PL m) T.length).map Prod.snd∧
  bI C0 5 [.X 1 (prog.map dU) false,.v (.string m),vN N] (.A [i_ u,.X 9 (T.map a3) false]):=by
 have h:=A_ prog m (N:Int) false hp b;rw[(oT:(min (N:Int) 10000).toNat=N),Jj]at h;have e:((fc prog (PL m) (cv prog N (PL m))).map Prod.snd).length=cv prog N (PL m):=by rw[aH,qu]
 exact⟨_,_,Si (Jk m) _,by rw[e];exact aL (AB ..) a,by rw[e];exact t' N _,by rw[e],by rw[e],h⟩
def g0(x:Cf)(k:Nat):Cf:={x with mode:=(k:Int)}
def na{x:Cf}{k:Nat}(h:x.ok):(g0 x k).ok:=⟨h.J,h.tape,h.tp⟩
abbrev re(x:Cf):List AV:=fv x false false
def jz(e:Cf)(L:Nat):Nat:=(e9 (bZ e)*(L:Int)+h9 (bZ e)+2).toNat
def ng(c:Cf):(0<=e9 (bZ c)∧e9 (bZ c)<=8000)∧0<=h9 (bZ c)∧h9 (bZ c)<=20000:=by
 obtain⟨⟨s1,ap⟩,⟨t1,t2⟩,⟨m,n⟩,⟨o,p⟩,⟨h,i⟩,⟨j,k⟩,⟨b,d⟩⟩:=pf c;unfold e9 h9;generalize (bZ c).Q*(bZ c).ways=P at *;generalize (bZ c).C=s at *;generalize (bZ c).W=t at *;generalize dl (bZ c).J=L at *;have e:=Int.mul_nonneg b (oT:0<=t+3);have f:=Int.mul_le_mul d (oT:t+3<=7) ad dT;have a:2*(s+t+P+4)*(L+1)=2*((s+t+P+4)*(L+1)):=Int.mul_assoc _ _ _;rw[a];have g:=Int.mul_nonneg (oT:0<=2*((s+t+P+4)*(L+1))) (oT:0<=t+P+2);have l:=Int.mul_le_mul (oT:s+t+P+4<=22) (oT:L+1<=9) ad dT;have c2:=Int.mul_le_mul (oT:2*((s+t+P+4)*(L+1))<=396) (oT:t+P+2<=14) ad dT;omega
def ow(e:Cf){L:Nat}(h:L<=12):0<=e9 (bZ e)*(L:Int)∧e9 (bZ e)*(L:Int)<=96000:=by
 obtain⟨⟨a,b⟩, -⟩:=ng e;have:=Int.mul_le_mul b (oT:(L:Int)<=12) ad dT;exact⟨Int.mul_nonneg a ad,oT⟩
def vd(e:Cf){L:Nat}(h:L<=12):((jz e L:Nat):Int)=e9 (bZ e)*(L:Int)+h9 (bZ e)+2:=by
 have:=ow e h;have:=ng e;unfold jz;omega
def B3(e:Cf){L:Nat}(h:L<=12):wrap64 (e9 (bZ e)*(L:Int))=e9 (bZ e)*(L:Int):=by
 have:=ow e h;unfold wrap64;omega
def Ek(e:Cf){L:Nat}(h:L<=12):wrap64 (e9 (bZ e)*(L:Int)+h9 (bZ e))=e9 (bZ e)*(L:Int)+h9 (bZ e):=by
 have:=ow e h;have:=ng e;unfold wrap64;omega
def Js(e:Cf){L:Nat}(h:L<=12):wrap64 (e9 (bZ e)*(L:Int)+h9 (bZ e)+2)=((jz e L:Nat):Int):=by
 rw[vd e h];have:=ow e h;have:=ng e;unfold wrap64;omega
def KZ(l:List Sp)(d c2:Bool)(q:l.length<=1000000)(m:∀x∈l,x.ok):bI C0 10 [.X 9 (l.map a3) d,.X 9 (l.map a3) c2] (vB true):=by
 refine dJ func10 ?_;refine qS 0 rfl<|rW _ rfl (cD a3 l)<|qR 0 rfl<|rW _ rfl (cD a3 l)<|rW _ rfl (ar (ee _ _)) ?_;refine dm 0 rfl<|aV rfl (λh=>by simp[ep,gy,qy]at h) (λ_=>?_);refine qC 0 rfl<|rW _ rfl (cD a3 l)<|dm 0 rfl<|jR (κ:=Nat) (λk=>⟨be [(0,.X 9 (l.map a3) d),(1,.X 9 (l.map a3) c2),(10,vB (l.length != l.length)),(12,vN l.length),(13,vN k)],ao [],9⟩) (λk=>k<=l.length) (λk=>l.length-k) 0 (λs=>s) (au (λs=>s) wT trivial rfl) (aE _) ?_;intro k j;have p:k<=l.length:=j;have f:k<=1000000:=oT;refine qS 0 rfl<|rW _ rfl (ar (b2 _ _)) ?_;refine dm 0 rfl<|aV rfl (λc=>?_) (λc=>?_)
 ·have e:=a7 c;refine j2 0 rfl<|a6<|oR 2 rfl ?_;obtain⟨a,b⟩:∃o,l[k]?=some o:=⟨_,aA ad⟩;have n:=m a (aB b);refine h6 (a3 a) (.dp 9 0 (a3 a)) rfl rfl (iH b) rfl<|oR 3 rfl<|h6 (a3 a) (.dp 9 0 (a3 a)) rfl rfl (iH b) rfl<|oR 1 rfl<|rV (vB (!((((a.K:Nat):Int)==((a.K:Nat):Int))&&((((a.next:Nat):Int)==((a.next:Nat):Int))&&((a.rd==a.rd)&&((((a.value:Nat):Int)==((a.value:Nat):Int))&&((((a.V:Nat):Int)==((a.V:Nat):Int))&&((a.size==a.size)&&((a.store==a.store)&&((a.halt==a.halt)&&((a.ZX==a.ZX)&&true))))))))))) rfl<|rE 21 ?_;refine il 0 rfl<|aV rfl (λi=>by simp[ep,gy,qy]at i) (λ_=>?_);have g:k+1<=1000001:=aD f (aC 1);refine qC 0 rfl<|rW _ rfl (ax (bH g rfl)) ?_;refine cd 0 rfl<|⟨k+1,λs=>s,au _ wT trivial rfl,oT,by show l.length-(k+1)<l.length-k;omega⟩
 have e:=aF c;refine hM 0 rfl<|cm 0 rfl ?_;exact fT rfl (dR (by simp[ep,gy,qy]))
def CE(c:Co)(n:Nat)(a:c.ok n)(m:n<=890000)(q:jF c=true)(hI:lS c)(p:c.halt≠0):bI C0 11 [.agg (ey c)] (vB true):=by
 refine dx func11 rfl ?_;refine fd (x:=vB true) rfl (.inl rfl) ((show bI C0 18 [.agg (ey c)] (vB true)from q ▸ Ip c n a m))<|zW _ (ar (rfl))<|gS rfl id<|a' (x:=vB false) rfl id (ar (sU p))<|zN rfl (by simp) ?_;refine gS rfl id<|a' (x:=vN c.W.length) rfl id (cD av c.W)<|a' (x:=vB false) rfl id (ar (by rw[hI.st];rfl))<|zN rfl (by simp)<|gS rfl id<|a' (x:=vN c.Y.length) rfl id (cD b3 c.Y)<|a' (x:=vB false) rfl id (ar (by rw[hI.Y];rfl))<|bO rfl rfl rfl (by simp) ?_;refine qR 1 rfl<|zW _ (cD bX c.data.Q)<|dy (κ:=Nat) (λk=>⟨be [(26,vB false),(29,.X 1 (c.data.Q.map bX) false),(30,vN c.data.Q.length),(31,vN k)],ao [(0,.box (ey c))],27⟩) (λk=>k<=c.data.Q.length) (λk=>c.data.Q.length-k) 0 (λs=>s) (au (λs=>s) wT wH rfl) (aE _) ?_;intro k t;have z:k<=c.data.Q.length:=t;have w:k<=9223372036854775807:=oH a.data.Q;have E:=a.data.Q;refine bu (ar (b2 _ _)) (λd=>?_) (λd=>?_)
 ·have i:=a7 d;obtain⟨x,f⟩:∃h,c.data.Q[k]?=some h:=⟨_,aA ad⟩;have b:=a.data.set x (aB f);refine zX (bX x) (.dp 1 0 (bX x)) rfl (iH f)<|zW _ (cD a8 x)<|dy (κ:=Nat) (λj=>⟨be [(26,vB false),(29,.X 1 (c.data.Q.map bX) false),(30,vN c.data.Q.length),(31,vN k),(32,vB (decide (k<c.data.Q.length))),(33,.dp 1 0 (bX x)),(34,.X 3 (x.map a8) false),(4,.X 3 (x.map a8) false),(35,.X 3 (x.map a8) false),(36,vN x.length),(37,vN j)],ao [(0,.box (ey c))],34⟩) (λj=>j<=x.length) (λj=>x.length-j) 0 (λs=>s) (au (λs=>s) wT wH rfl) (aE _) ?_;intro j r;have v:j<=x.length:=r;have u:j<=9223372036854775807:=oH b.1;have A:=b.1;refine bu (ar (b2 _ _)) (λe=>?_) (λe=>?_)
  ·have l:=a7 e;obtain⟨y,g⟩:∃h,x[j]?=some h:=⟨_,aA ad⟩;have B:=(b).2 y (aB g);refine zX (a8 y) (.dp 3 0 (a8 y)) rfl (iH g) ?_;refine zB rfl (λo=>by exact absurd o (by rw[hI.di y (List.mem_flatten.2 ⟨x,aB f,aB g⟩)];decide)) (λ_=>?_);have C:j+1<=9223372036854775807:=oT;refine zW _ (ax (bH (oT:j+1<=9223372036854775807) rfl)) ?_;refine⟨j+1,λs=>s,au _ wT wH rfl,oT,by show x.length-(j+1)<x.length-j;omega⟩
  have l:=aF e;have D:k+1<=9223372036854775807:=oT;refine zW _ (ax (bH (oT:k+1<=9223372036854775807) rfl)) ?_;refine⟨k+1,λs=>s,au _ wT wH rfl,oT,by show c.data.Q.length-(k+1)<c.data.Q.length-k;omega⟩
 have i:=aF d;exact fT rfl rfl
def y1(c d:Cf)(prog:List Nat)(m:ByteArray)(n:Int)(hc:c.ok)(hd:d.ok)(hp:∀x∈prog,x<=4294967295)(hl:prog.length<=9223372036854775807)(hm:m.size<=9223372036854775807):bI C0 3 [.agg (fv c false false),.agg (fv d false false),.X 1 (prog.map dU) false,.v (.string m),vI n] (vB true):=by
 refine dx func3 rfl ?_;obtain⟨N,q⟩:∃N,N=mx n 12:=⟨_,rfl⟩;have J:(if(12:Int)<max n 0 then(12:Int)else max n 0)=(N:Int):=q ▸ Yn n 12;have W:N<=12:=q ▸ Ym _ _;have y:(Bj prog).length<=1000:=by unfold Bj;rw[aM];omega
 have l:=zD (P:=λx=>x<=4294967295) (n:=min prog.length 64) hp;obtain⟨u,T,ag,a,r,i,t,K⟩:=B0 (Bj prog) (Bk m) N W l y;have L:∀x∈[c,d],x.ok:=λx o=>by simp only[dh,List.not_mem_nil,or_false]at o;rcases o with rfl|rfl<;>assumption
 refine zC (HR prog m hl hm)<|rW _ rfl (ax (We n 0)) ?_;refine zW _ (ax J)<|zC (K) ?_;refine cq (u.halt==0) (λp=>?_) (λp=>?_)
 ·have F:=mT p;refine zC (v2) ?_;exact fT rfl rfl
 have F:=nA p;have M:u.halt≠0:=sU p;refine dy (κ:=Nat) (λk=>⟨be [(2,.X 1 ((Bj prog).map dU) false),(3,.v (.string (Bk m))),(5,.ptr 0 0),(6,.ptr 1 0),(11,.ptr 22 0),(12,.X 9 (T.map a3) false),(13,vN k)],ao [(0,.box [vI c.mode,vI c.u,vI c.Z,vI c.queue,vI c.W,vI c.C,vI c.Q,vI c.ways,.X 1 (c.J.map a_) false,vB c.tables,.X 1 (c.tape.map dU) false]),(1,.box [vI d.mode,vI d.u,vI d.Z,vI d.queue,vI d.W,vI d.C,vI d.Q,vI d.ways,.X 1 (d.J.map a_) false,vB d.tables,.X 1 (d.tape.map dU) false]),(22,.box (cx u.K u.r u.mem u.halt))],29⟩) (λk=>k<=3) (λk=>3-k) 0 (λs=>s) (au (λs=>s) wT wH rfl) (aE _) ?_;intro k hk;have ab:k<=3:=hk;have O:k<=3:=oT;refine bu (ar (iT _ _)) (λz=>?_) (λz=>?_)
 ·have e:=a7 z;have G:(k<=2):=e;refine rV (.X 11 ([[vI c.mode,vI c.u,vI c.Z,vI c.queue,vI c.W,vI c.C,vI c.Q,vI c.ways,.X 1 (c.J.map a_) false,vB c.tables,.X 1 (c.tape.map dU) false],[vI d.mode,vI d.u,vI d.Z,vI d.queue,vI d.W,vI d.C,vI d.Q,vI d.ways,.X 1 (d.J.map a_) false,vB d.tables,.X 1 (d.tape.map dU) false]]) true) rfl<|zV (vI 2)<|dy (κ:=Nat) (λj=>⟨be [(2,.X 1 ((Bj prog).map dU) false),(3,.v (.string (Bk m))),(5,.ptr 0 0),(6,.ptr 1 0),(11,.ptr 22 0),(12,.X 9 (T.map a3) false),(13,vN k),(45,vI 2),(44,.X 11 (([c,d]).map re) true),(46,vN j)],ao [(0,.box [vI c.mode,vI c.u,vI c.Z,vI c.queue,vI c.W,vI c.C,vI c.Q,vI c.ways,.X 1 (c.J.map a_) false,vB c.tables,.X 1 (c.tape.map dU) false]),(1,.box [vI d.mode,vI d.u,vI d.Z,vI d.queue,vI d.W,vI d.C,vI d.Q,vI d.ways,.X 1 (d.J.map a_) false,vB d.tables,.X 1 (d.tape.map dU) false]),(22,.box (cx u.K u.r u.mem u.halt))],36⟩) (λj=>j<=2) (λj=>2-j) 0 (λs=>s) (au (λs=>s) wT wH rfl) (aE _) ?_;intro j Y;have aa:j<=2:=Y;have w:j<=2:=oT;refine bu (ar (b2 _ _)) (λA=>?_) (λA=>?_)
  ·have f:=a7 A;have H:(j<2):=f;obtain⟨x,o⟩:∃y_,([c,d])[j]?=some y_:=⟨_,aA ad⟩;have b:=L x (aB o);refine zX (re x) (.dp 11 0 (re x)) rfl (iH o)<|zR<|zC (FC (g0 x k) (na b))<|zW _ (cD a3 T) ?_;refine zW _ (ax ((ae _).trans (B3 (g0 x k) a)))<|zC (E2 (g0 x k) (na b))<|zW _ (ax ((ae _).trans (Ek (g0 x k) a)))<|zW _ (ax ((ae _).trans (Js (g0 x k) a)))<|zW _ (ar (gQ _ _)) ?_;refine aV rfl (λB=>?_) (λB=>?_)
   ·have g:=a7 B;have I:((jz (g0 x k) T.length)>2000):=g;have S:j+1<=3:=aD w (aC 1);refine qC 0 rfl<|zW _ (ax (bH S rfl)) ?_;refine⟨j+1,λs=>s,au _ wT wH rfl,oT,by show 2-(j+1)<2-j;omega⟩
   have g:=aF B;have I: ¬((jz (g0 x k) T.length)>2000):=g;obtain⟨Z,v⟩:∃Z,Z=uN (fX (g0 x k) (Bj prog) (Bk m)) (jz (g0 x k) T.length):=⟨_,rfl⟩;obtain⟨C,z2,D,Q,R,E,z7⟩:=xM (g0 x k) prog (Bk m) (na b) l r (by rw[<-i];exact M) (vd (g0 x k) a) ad Z v;rw[<-i]at D Q R;replace E:=E.trans t.symm;clear t i r;have P:10*jz (g0 x k) T.length<=890000:=oT;refine qC 0 rfl<|fd (x:=.agg (ey Z)) rfl (.inl rfl) ((show bI C0 9 [.agg (fv (g0 x k) false false),.X 1 ((Bj prog).map dU) false,.v (.string (Bk m)),vN (jz (g0 x k) T.length)] (.agg (ey Z))from by rw[v];exact I5 (g0 x k) (Bj prog) (Bk m) (jz (g0 x k) T.length) (na b) l y ad _ rfl))<|de 0 rfl<|c_ 61 (ey Z) rfl rfl rfl<|qR 0 rfl<|zW _ (ar (y6 D))<|zG rfl id ?_;refine gS rfl id<|a' (x:=vB false) rfl cj (ar (by rw[Q];simp))<|zN rfl (by simp)<|zG rfl id<|gS rfl id<|a' (x:=vB false) rfl cj (ar (yz R))<|zN rfl (by simp)<|zG rfl id<|jQ (args:=[.X 9 (Z.N.map a3) false,.X 9 (T.map a3) false]) (x:=vB true) (g:= !false) rfl rfl rfl rfl cj rfl rfl rfl (.inl rfl) rfl (λX=>(show bI C0 10 [.X 9 (Z.N.map a3) false,.X 9 (T.map a3) false] (vB true)from by rw[<-E];exact KZ Z.N false false (aL C.ret ad) C.ZT))<|a' (x:=vB false) rfl id (ar (rfl)) ?_;refine zN rfl (by simp)<|jQ (args:=[.agg (ey Z)]) (x:=vB true) (g:= !false) rfl rfl rfl rfl (λh=>h) rfl rfl rfl (.inl rfl) rfl (λX=>CE Z _ C P z2 z7 (by rw[D];exact M))<|a' (x:=vB false) rfl id (ar (rfl))<|bO rfl rfl rfl (by simp) ?_;have U:j+1<=3:=aD w (aC 1);refine qR 1 rfl<|zW _ (ax (bH U rfl)) ?_;refine⟨j+1,λs=>s,au _ wT wH rfl,oT,by show 2-(j+1)<2-j;omega⟩
  have f:=aF A;have H: ¬(j<2):=f;have V:k+1<=4:=aD O (aC 1);refine zW _ (ax (bH V rfl)) ?_;refine⟨k+1,λs=>s,au _ wT wH rfl,oT,by show 3-(k+1)<3-k;omega⟩
 have e:=aF z;have G: ¬(k<=2):=e;refine zC (v2) ?_;exact fT rfl rfl
end Go.Proofs.YtmbhlpgmfafmbaaGreatDoor
