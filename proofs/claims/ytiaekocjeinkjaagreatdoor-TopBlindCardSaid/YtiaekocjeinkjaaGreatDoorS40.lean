import Derived.Test.YtiaekocjeinkjaaGreatDoorS39
set_option linter.all false
namespace Go.Proofs.YtiaekocjeinkjaaGreatDoor
set_option maxRecDepth 100000
set_option maxHeartbeats 4000000
open Go Go.RowKit
def r3(n:Nat):ByteArray:=⟨Array.replicate n 0⟩
def O0(n:Nat):(r3 n).size=n:=by show(Array.replicate n (0:UInt8)).size=n;simp
def gi(b:ByteArray):ByteArray:=r3 b.size
def iy(b:ByteArray):(gi b).size=b.size:=O0 _
def N0{a b:ByteArray}(h:a.size=b.size):gi a=gi b:=am r3 h
def R3(b:ByteArray):gi (gi b)=gi b:=N0 (iy b)
def bq(nx:Bool)(e:ai):ai:={e with value:=0,next:=if nx=true then e.next else 0}
def hC(p:Pt):Pt:={p with data:=gi p.data}
def ej(w:Wy):Wy:={w with data:=gi w.data}
def ew(x:bp):bp:={x with data:=gi x.data}
def ce(c:Ca):Ca:={c with O:=c.O.map λs=>s.map ej}
def rb(s:Sp):Sp:={s with value:=0}
theorem re(agY:Nat):∀l:List Wy,jY (l.map ej) agY=jY l agY
 |[]=>rfl
 |w::l=>by show(if w.S=agY then _ else _)=(if w.S=agY then _ else _);rw[re agY l]
def wi(c:Ca)(agY:Nat):hj (ce c) agY=hj c agY:=by unfold hj ce;rw[aH]
def N3(c:Ca)(k:Nat)(s:List Wy):xB (ce c) k (s.map ej)=xB c k s:=by
 unfold xB;rw[aH];refine am (_&& ·) (am (List.all (List.range s.length)) (funext λi=>?_));rw[aX, <-eO]
 cases s[i]? with
 |none=>rfl
 |some w=>show(_&&decide (hj (ce c) w.S=k)&&(decide ((gi w.data).size=0)||decide ((gi w.data).size=16))&&(jY _ _).isNone)=_;rw[iy,re,wi];rfl
def l6(c:Ca):gG (ce c)=gG c:=by
 unfold gG;rw[show(ce c).O.length=c.O.length from aH ..];refine am (_&& ·) (am (List.all (List.range c.O.length)) (funext λi=>?_));show(match(c.O.map λs=>s.map ej)[i]? with|some s=>xB (ce c) i s|none=>true)=_;rw[aX]
 cases c.O[i]? with
 |none=>rfl
 |some s=>exact N3 c i s
def l7(c:Ca)(k:Nat):pF (ce c) k=(pF c k).map ej:=by
 unfold pF ce;rw[aX];cases c.O[k]? <;>rfl
def l8(c:Ca)(agY:Nat):bK (ce c) agY=bK c agY:=by
 unfold bK;rw[l6,wi];split
 .rw[show((ce c).O[hj c (ao agY)]?).getD []=_ from l7 c _,re];rfl
 rfl
def l9{e β:Type}(f:e->β)(l:List e)(k:Nat):eY (l.map f) k=(eY l k).map f:=by
 unfold eY;rw[aX,dH,dH,eO,kM];cases l[k]? <;>rfl
def lr(c:Ca)(k:Nat)(s:List Wy):ce (rK c k s)=rK (ce c) k (s.map ej):=by
 unfold ce rK;rw[List.map_set]
def wj(c:Ca)(agY:Nat):tO (ce c) agY=ce (tO c agY):=by
 unfold tO;rw[l8];split
 .rw[lr,l7,l9]
 rfl
def w4(w:Wy):ej (ej w)=ej w:=by show Wy.mk _ _ _=_;rw[show(ej w).data=gi w.data from R,R3];rfl
def ow(c:Ca):ce (ce c)=ce c:=by
 show Ca.mk _ (List.map _ (List.map _ _))=_;rw[List.map_map];refine am (Ca.mk _) (iB λs _=>?_);show List.map _ (List.map _ _)=_;rw[List.map_map];exact iB λw _=>w4 w
def q_(d:ByteArray):dC (gi d)=gi (dC d):=by
 unfold dC;rw[iy];split<;>rfl
theorem O9{e β:Type}{f:β->β}{g:e->e}{p:e->β}(h:∀x,f (p x)=p (g x)):∀l:List e,ku f (l.map p)=(ku g l).map p
 |[]=>rfl
 |x::l=>by show f (p x)::_=p (g x)::_;rw[h]
def NR{e β:Type}(f:e->β)(l:List e):(l.map f).dropLast=l.dropLast.map f:=by
 rw[j0,j0,aH,eO]
def w5(c:Ca)(agY:Nat)(d:ByteArray)(agQ:Bool):qZ (ce c) agY (gi d) agQ=(ce (qZ c agY d agQ).1,ej (qZ c agY d agQ).2.1,(qZ c agY d agQ).2.2):=by
 unfold qZ;rw[l6];split
 .rw [l8];split
  .rename_i k j _;refine Prod.ext ?_ (Prod.ext R R);show rK (ce c) k _=ce (rK c k _);rw[lr,l7,l9];refine am _ (O9 (λw=>?_) _);show Wy.mk _ _ _=Wy.mk _ _ _;rw[q_,iy];refine am (Wy.mk w.S (w.f||agQ)) ?_;show(if _ then gi w.data else _)=gi (if _ then _ else _);split<;>rfl
  rename_i k _;rw[l7,aH,show(ce c).ways=c.ways from rfl];split
  .refine Prod.ext ?_ (Prod.ext ?_ rfl)
   .show rK (ce c) k _=ce (rK c k _);rw[lr,jC,NR,q_];rfl
   show((pF c k).map ej).getLast?.getD qE=ej ((pF c k).getLast?.getD qE);rw[List.getLast?_map];cases(pF c k).getLast? <;>rfl
  refine Prod.ext ?_ (Prod.ext rfl rfl);show rK (ce c) k _=ce (rK c k _);rw[lr,jC,q_];rfl
 rfl
def N4(d f b e:ByteArray)(k:Nat)(g:d.size=f.size)(i:b.size=e.size):(Fk d k b).size=(Fk f k e).size:=by
 unfold Fk;simp[kH,dA,g,i]
def wk(c:Ca)(e:Nat)(b:ByteArray):(xL (ce c) e (gi b)).2=(xL c e b).2/\ce (xL (ce c) e (gi b)).1=ce (xL c e b).1:=by
 unfold xL;rw[l8];split
 .rename_i k j _;rw[l7,aX]
  cases(pF c k)[j]? with
  |none=>exact⟨R,ow c⟩
  | some w=>
   have hc:((ej w).data.size=0\/(gi b).size+e%16>16)↔(w.data.size=0\/b.size+e%16>16):=by rw[show(ej w).data.size=w.data.size from iy _,iy]
   by_cases h:w.data.size=0\/b.size+e%16>16
   .simp only[dF,aa h,aa (hc.2 h)];exact⟨tr,ow c⟩
   .simp only[dF,dZ h,dZ (λq=>h (hc.1 q))];refine⟨tr,?_⟩;rw[lr,lr,ow,l9];refine am _ ?_
    cases eY (pF c k) j with
    |nil=>rfl
    |cons x l=>
     show ej _::List.map _ (List.map _ _)=ej _::_;rw[List.map_map,show l.map (ej∘ej)=l.map ej from iB λw _=>w4 w];refine am (· ::_) ?_;show Wy.mk _ _ _=Wy.mk _ _ _;exact am _ (N0 (N4 _ _ _ _ _ (iy _) (iy _)))
 .exact⟨R,ow c⟩
def O2{e β:Type}{f:β->β}{g:e->e}{p:e->β}(h:∀x,f (p x)=p (g x))(l:List e)(j:Nat):(l.map p).modify j f=(l.modify j g).map p:=by
 apply dD;intro i;rw[oD,aX,aX,oD]
 cases l[i]? with
 |none=>simp
 |some x=>by_cases k:j=i<;>simp[k,h]
def v7(c:Ca)(agY:Nat):wB (ce c) agY=ce (wB c agY):=by
 unfold wB;rw[l8];split
 .rw[lr,l7];exact am _ (O2 (f:=λw:Wy=>{w with f:=false}) (g:=λw:Wy=>{w with f:=false}) (λ_=>rfl) _ _)
 rfl
def O1(c:Ca):(ce c).O.flatten=c.O.flatten.map ej:=by unfold ce;rw[List.map_flatten]
def wm(c:Ca):cR (ce c)=(cR c).map ej:=by
 unfold cR;rw[l6,O1];split
 .rw[List.find?_map];rfl
 rfl
def N6(c:Ca):kY (ce c)=kY c:=by
 unfold kY;rw[l6];split
 .show List.map _ (List.map _ _)=_;rw[List.map_map];refine iB λs _=>?_;show List.map _ (List.map _ _)=_;rw[List.map_map];rfl
 rfl
def w6(q:List bp)(agY:Nat)(k:Int):Ec (q.map ew) agY k=Ec q agY k:=by unfold Ec;rw[List.any_map];rfl
def wn(q:List bp):yH (q.map ew)=yH q:=by unfold yH;rw[List.filter_map,aH];rfl
def wy(q:List bp)(k:Int)(agY:Nat)(left:Int)(d:ByteArray):Bi (q.map ew) k agY left (gi d)=(Bi q k agY left d).map ew:=by unfold Bi;rw[dH];rfl
def wz(q:List bp):eH (q.map ew)=((eH q).1.map ew,ew (eH q).2.1,(eH q).2.2):=by
 unfold eH
 cases q with
 |nil=>rfl
 | cons x l=>
  by_cases h:wrap64 (x.left-1)>0
  .show(if wrap64 (x.left-1)>0 then _ else _)=(List.map ew (if wrap64 (x.left-1)>0 then _ else _:List bp×bp×Bool).1,ew (if wrap64 (x.left-1)>0 then _ else _:List bp×bp×Bool).2.1,(if wrap64 (x.left-1)>0 then _ else _:List bp×bp×Bool).2.2);simp only[aa h];rfl
  .show(if wrap64 (x.left-1)>0 then _ else _)=(List.map ew (if wrap64 (x.left-1)>0 then _ else _:List bp×bp×Bool).1,ew (if wrap64 (x.left-1)>0 then _ else _:List bp×bp×Bool).2.1,(if wrap64 (x.left-1)>0 then _ else _:List bp×bp×Bool).2.2);simp only[dZ h];rfl
def P3{m e:ByteArray}(h:m.size=e.size)(agY:Nat):(Ga m agY).size=(Ga e agY).size:=by
 unfold Ga;rw[h];split
 .simp[dA,h]
 rfl
def N2(q:List bp)(m:ByteArray):(jZ q m).size=m.size:=iY _ _
structure iq(nx:Bool)(e e':ai):Prop where
 no:e.no=e'.no
 M:e.M=e'.M
 i:e.i=e'.i
 K:e.K=e'.K
 is:e.is=e'.is
 left:e.left=e'.left
 Y7:nx=true->e.next=e'.next
 W:e.W=e'.W
 halt:e.halt=e'.halt
 d:e.d=e'.d
 known:e.known=e'.known
 Z8:e.Z8=e'.Z8
def hz{nx:Bool}{e e':ai}(h:bq nx e=bq nx e'):iq nx e e':=
 ⟨am (·.no) h,am (·.M) h,am (·.i) h,am (·.K) h,am (·.is) h,am (·.left) h,λq=>by have:=am (·.next) h;unfold bq at this;simpa [q]using this,am (·.W) h,am (·.halt) h,am (·.d) h,am (·.known) h,am (·.Z8) h⟩
theorem iq.to{nx:Bool}{e e':ai}(h:iq nx e e'):bq nx e=bq nx e':=by
 obtain⟨a,b,c,d,f,g,j,k,l,m,n,o⟩:=h;unfold bq;rw[a,b,c,d,f,g,k,l,m,n,o]
 cases nx with
 |true=>rw[j R]
 |false=>rfl
structure Lo(nx:Bool)(c d:Co):Prop where
 Q:c.Q=d.Q
 prog:c.prog=d.prog
 Z3:c.Z3=d.Z3
 J:c.J=d.J
 stop:c.stop=d.stop
 L:c.L=d.L
 next:c.next=d.next
 u:c.u=d.u
 asked:c.asked=d.asked
 Z1:c.Z1=d.Z1
 K:c.K=d.K
 halt:c.halt=d.halt
 Z:c.Z.map (bq nx)=d.Z.map (bq nx)
 Z':c.V.map hC=d.V.map hC
 data:ce c.data=ce d.data
 U:c.U.map ew=d.U.map ew
 mem:c.mem.size=d.mem.size
 ret:c.N.map rb=d.N.map rb
theorem N5{j m n:Type}{β:Type}{p:j->β}{q:m->n}{f g:j->m}(k:∀x i,p x=p i->q (f x)=q (g i)):∀l e:List j,l.map p=e.map p->(l.map f).map q=(e.map g).map q
 |[],[],_=>rfl
 |[],_::_,h=>by cases h
 |_::_,[],h=>by cases h
 |x::l,i::e,h=>by
  simp only[jC,List.cons.injEq]at h;show q _::_=q _::_;rw[k _ _ h.1,N5 k l e h.2]
def ia{i β:Type}{p:i->β}{l f:List i}(h:l.map p=f.map p)(k:Nat):(l[k]?=none/\f[k]?=none)\/∃x g,l[k]?=some x/\f[k]?=some g/\p x=p g:=by
 have e:=am (λz:List β=>z[k]?) h;simp only[aX]at e;cases j:l[k]? <;>cases m:f[k]? <;>rw[j,m]at e
 .exact .inl ⟨R,R⟩
 .cases e
 .cases e
 exact .inr ⟨_,_,R,R,fj e⟩
def je{f β:Type}{p:f->β}{l e:List f}(h:l.map p=e.map p):l.length=e.length:=by
 have:=am List.length h;rwa [aH,aH]at this
def w7{e β:Type}{p:e->β}{l f:List e}(h:l.map p=f.map p)(k:Nat){x g:e}(i:p x=p g):(l.set k x).map p=(f.set k g).map p:=by
 rw[List.map_set,List.map_set,h,i]
def nd{g β:Type}{p:g->β}{l e m f:List g}(h:l.map p=e.map p)(k:m.map p=f.map p):(l++m).map p=(e++f).map p:=by rw[dH,dH,h,k]
def q9{f β:Type}{p:f->β}{l e:List f}(h:l.map p=e.map p)(k:Nat):(l.take k).map p=(e.take k).map p:=by rw[eO,eO,h]
section
variable {a b:Ca}(h:ce a=ce b)
include h
def Q0:gG a=gG b:=by rw[<-l6 a,h,l6]
def w8(agY:Nat):bK a agY=bK b agY:=by rw[<-l8 a,h,l8]
def Q1(agY:Nat):ce (tO a agY)=ce (tO b agY):=by rw[<-wj,h,wj]
def R6(agY:Nat){d e:ByteArray}(hd:d.size=e.size)(x:Bool):ce (qZ a agY d x).1=ce (qZ b agY e x).1/\ej (qZ a agY d x).2.1=ej (qZ b agY e x).2.1/\(qZ a agY d x).2.2=(qZ b agY e x).2.2:=by
 have k:=(w5 a agY d x).symm.trans ((by rw[h,N0 hd]:_=qZ (ce b) agY (gi e) x).trans (w5 b agY e x));exact⟨am (·.1) k,am (·.2.1) k,am (·.2.2) k⟩
def Q2(f:Nat){d e:ByteArray}(hd:d.size=e.size):(xL a f d).2=(xL b f e).2/\ce (xL a f d).1=ce (xL b f e).1:=by
 obtain⟨g,i⟩:=wk a f d;obtain⟨j,k⟩:=wk b f e;rw[h,N0 hd]at g i;exact⟨g.symm.trans j,i.symm.trans k⟩
def O3(agY:Nat):ce (wB a agY)=ce (wB b agY):=by rw[<-v7,h,v7]
def Q3:(cR a).map ej=(cR b).map ej:=by rw[<-wm,h,wm]
def P4:kY a=kY b:=by rw[<-N6 a,h,N6]
end
section
variable {q r:List bp}(h:q.map ew=r.map ew)
include h
def w0(agY:Nat)(k:Int):Ec q agY k=Ec r agY k:=by rw[<-w6 q,h,w6]
def Q4:yH q=yH r:=by rw[<-wn q,h,wn]
def w9(k:Int)(agY:Nat)(left:Int){d e:ByteArray}(hd:d.size=e.size):(Bi q k agY left d).map ew=(Bi r k agY left e).map ew:=by rw[<-wy, <-wy,h,N0 hd]
def P5:(eH q).1.map ew=(eH r).1.map ew/\ew (eH q).2.1=ew (eH r).2.1/\(eH q).2.2=(eH r).2.2:=by
 have k:=(wz q).symm.trans ((am eH h).trans (wz r));exact⟨am (·.1) k,am (·.2.1) k,am (·.2.2) k⟩
end
def Q5{a b:Ca}{q r:List bp}{m n:ByteArray}(h:ce a=ce b)(k:q.map ew=r.map ew)(y:m.size=n.size)(agY:Nat)(left:Int):ce (iQ a q m agY left).1=ce (iQ b r n agY left).1/\(iQ a q m agY left).2.1.map ew=(iQ b r n agY left).2.1.map ew/\(iQ a q m agY left).2.2=(iQ b r n agY left).2.2:=by
 unfold iQ;rw[Q0 h,w8 h];by_cases l:gG b=false
 .rw[aa l,aa l];exact⟨h,k,R⟩
 rw[dZ l,dZ l];by_cases o:(bK b (ao agY)).2.isSome=true
 .rw[aa o,aa o];exact⟨Q1 h _,k,R⟩
 rw[dZ o,dZ o];have hc:(Ga (jZ q m) (ao agY)).size=(Ga (jZ r n) (ao agY)).size:=P3 (by rw[N2,N2,y]) _;obtain⟨f,i,j⟩:=R6 h (ao agY) hc false
 revert f i j
 generalize qZ a (ao agY) (Ga (jZ q m) (ao agY)) false=A;generalize qZ b (ao agY) (Ga (jZ r n) (ao agY)) false=B;obtain⟨d,g,w⟩:=A;obtain⟨u,e,w'⟩:=B;intro f i j;have f:ce d=ce u:=f;have j:w=w':=j;have v:g.f=e.f:=by have:=am Wy.f i;exact this
 have x:g.S=e.S:=by have:=am Wy.S i;exact this
 have p:g.data.size=e.data.size:=by have:=am (λz:Wy=>z.data.size) i;rw[show(ej g).data.size=_ from iy _,show(ej e).data.size=_ from iy _]at this;exact this
 subst j;show ce (if w=true/\g.f=true/\g.data.size≠0 then _ else _:Ca×List bp×Bool).1=ce (if w=true/\e.f=true/\e.data.size≠0 then _ else _:Ca×List bp×Bool).1/\List.map ew (if w=true/\g.f=true/\g.data.size≠0 then _ else _:Ca×List bp×Bool).2.1=List.map ew (if w=true/\e.f=true/\e.data.size≠0 then _ else _:Ca×List bp×Bool).2.1/\(if w=true/\g.f=true/\g.data.size≠0 then _ else _:Ca×List bp×Bool).2.2=(if w=true/\e.f=true/\e.data.size≠0 then _ else _:Ca×List bp×Bool).2.2;rw[v,x,p];split
 .exact⟨f,w9 k _ _ _ p,R⟩
 exact⟨f,k,R⟩
def rk(nx:Bool)(e:ai)(s f:ByteArray):bq nx (uM (bq nx e) s)=bq nx (uM e f):=by
 unfold uM;by_cases h:aj e.i.op≠3\/e.known=false\/(e.is≠0/\e.is≠2)
 .rw[aa h];refine(am (bq nx) (aa h)).trans ?_;cases nx<;>rfl
 rw[dZ h];refine(am (bq nx) (dZ h)).trans ?_;cases nx<;>rfl
def oB(nx:Bool)(e:ai)(c d:Co)(agY:Nat):bq nx (wO c agY (bq nx e))=bq nx (wO d agY e):=by
 unfold wO;by_cases h:e.is=2/\ao e.W=agY
 .rw[aa h,aa (show(bq nx e).is=2/\ao (bq nx e).W=agY from h)];exact rk nx {e with Z8:=true} _ _
 rw[dZ h,dZ (show ¬((bq nx e).is=2/\ao (bq nx e).W=agY)from h)];cases nx<;>rfl
def o7{f g:ai->ai}{nx:Bool}(h:∀e,bq nx (f (bq nx e))=bq nx (f e))(k:∀e,bq nx (f (bq nx e))=bq nx (g e)){e e':ai}(q:bq nx e=bq nx e'):bq nx (f e)=bq nx (g e'):=(h e).symm.trans ((am (λz=>bq nx (f z)) q).trans (k e'))
theorem Lo.ZJ{nx:Bool}{c d:Co}(h:Lo nx c d)(agY:Nat):Lo nx (oK c agY) (oK d agY):=by
 unfold oK;obtain⟨f,g,e⟩:=Q5 h.data h.U h.mem agY (lX c.Q c.asked);rw[show lX d.Q d.asked=lX c.Q c.asked by rw[h.Q,h.asked]]
 revert f g e
 generalize iQ c.data c.U c.mem agY (lX c.Q c.asked)=A;generalize iQ d.data d.U d.mem agY (lX c.Q c.asked)=B;obtain⟨x,y,z⟩:=A;obtain⟨i,j,l⟩:=B;intro f g e;have e:z=l:=e;subst e;show Lo nx {c with data:=x,U:=y,asked:=if z=true then wrap64 (c.asked+1)else c.asked} {d with data:=i,U:=j,asked:=if z=true then wrap64 (d.asked+1)else d.asked};exact {h with asked:=am (λk=>if z=true then wrap64 (k+1)else k) h.asked,data:=f,U:=g}
theorem Lo.ticksDo{nx:Bool}{c d:Co}(h:Lo nx c d){x e:bp}(f:ew x=ew e):Lo nx (ip c x) (ip d e):=by
 have g:x.kind=e.kind:=by have:=am bp.kind f;exact this
 have i:x.S=e.S:=by have:=am bp.S f;exact this
 unfold Go.Proofs.YtiaekocjeinkjaaGreatDoor.ip;rw[<-g, <-i];split
 .exact {h with Z:=N5 (λy j q=>o7 (oB nx · _ _ _) (oB nx · _ _ _) q) _ _ h.Z}
 split
 .exact {h with u:=by show(qZ c.u _ _ _).1=(qZ d.u _ _ _).1;rw[h.u]}
 split
 .exact h.ZJ _
 split
 .exact {h with mem:=by show(rP _ _).size=(rP _ _).size;rw[iY,iY];exact h.mem}
 exact h
theorem Lo.Zu{nx:Bool}{c d:Co}(h:Lo nx c d):Lo nx (lM c) (lM d):=by
 obtain⟨f,g,e⟩:=P5 h.U;unfold lM
 revert f g e
 generalize eH c.U=A;generalize eH d.U=B;obtain⟨q,x,k⟩:=A;obtain⟨i,m,l⟩:=B;intro f g e;have e:k=l:=e;subst e;have j:Lo nx {c with U:=q} {d with U:=i }:={h with U:=f};show Lo nx (if k=true then Go.Proofs.YtiaekocjeinkjaaGreatDoor.ip {c with U:=q} x else {c with U:=q}) (if k=true then Go.Proofs.YtiaekocjeinkjaaGreatDoor.ip {d with U:=i } m else {d with U:=i });split
 .exact j.ticksDo g
 exact j
def xe(nx:Bool)(e:ai):bq nx (bn (bq nx e))=bq nx (bn e):=by
 unfold bn;by_cases h:e.is≠1
 .rw[aa h];refine(am (bq nx) (aa h)).trans ?_;cases nx<;>rfl
 rw[dZ h];refine(am (bq nx) (dZ h)).trans ?_;by_cases f:wrap64 (e.left-1)<=0
 .rw[aa f];refine(am (bq nx) (aa f)).trans ?_;cases nx<;>rfl
 rw[dZ f];refine(am (bq nx) (dZ f)).trans ?_;cases nx<;>rfl
def wq(nx:Bool)(e:ai)(b f:Nat):bq nx (uF (bq nx e) b)=bq nx (uF e f):=by
 unfold uF;by_cases h:aj e.i.op≠4\/e.known=false\/e.is≠0
 .rw[aa h];refine(am (bq nx) (aa h)).trans ?_;cases nx<;>rfl
 rw[dZ h];refine(am (bq nx) (dZ h)).trans ?_;cases nx<;>rfl
section
variable {nx:Bool}{agI rob':List ai}(h:agI.map (bq nx)=rob'.map (bq nx))
include h
def Q6(f:Int)(k:Nat):LS agI f k=LS rob' f k:=by
 unfold LS;rcases ia h k with ⟨a,b⟩|⟨e,e',a,b,q⟩<;>rw[a,b];show decide (wr e.i=f)=decide (wr e'.i=f);rw[(hz q).i]
theorem v'(e:Int):∀n,fe agI e n=fe rob' e n
 |0=>rfl
 |n+1=>by unfold fe;rw[Q6 h,v' e n]
def m'(i:Nat)(e:Int):cx agI i e=cx rob' i e:=by unfold cx;rw[je h,v' h]
def nc(r r':Nat->Nat)(i:Nat)(f:Int):(lK agI r i f).isSome=(lK rob' r' i f).isSome:=by
 unfold lK;rw[m' h];split
 .rfl
 split
 .rfl
 split
 .rfl
 rename_i k _;rcases ia h k with ⟨a,b⟩|⟨e,e',a,b,q⟩<;>rw[a,b];have q:=hz q;show(if e.is=3/\e.halt=0 then some e.value else none).isSome=(if e'.is=3/\e'.halt=0 then some e'.value else none).isSome;rw[q.is,q.halt];split<;>rfl
def O4(r r':Nat->Nat)(i:Nat):(gm r agI i).map (bq nx)=(gm r' rob' i).map (bq nx):=by
 unfold gm;rcases ia h i with ⟨a,b⟩|⟨e,e',a,b,f⟩
 .rw[a,b];exact h
 have q:=hz f;have hr:=nc h r r' i e.i.A;rw[a,b];show(if aj e.i.op=4 then(match lK agI r i e.i.A with|some b=>agI.set i (uF e b)|none=>agI)else agI).map (bq nx)=(if aj e'.i.op=4 then(match lK rob' r' i e'.i.A with|some b=>rob'.set i (uF e' b)|none=>rob')else rob').map (bq nx);rw[<-q.i];split
 .cases g:lK agI r i e.i.A<;>cases j:lK rob' r' i e.i.A<;>rw[g,j]at hr
  .exact h
  .cases hr
  .cases hr
  exact w7 h i (o7 (f:=λe=>uF e _) (g:=λe=>uF e _) (wq nx · _ _) (wq nx · _ _) f)
 exact h
end
theorem v8{nx:Bool}{agI rob':List ai}(h:agI.map (bq nx)=rob'.map (bq nx))(r r':Nat->Nat):∀n,(b3 r agI n).map (bq nx)=(b3 r' rob' n).map (bq nx)
 |0=>h
 |n+1=>O4 (v8 h r r' n) r r' n
def Q7{agI rob':List ai}(h:agI.map (bq true)=rob'.map (bq true)):yD agI=yD rob':=by
 have k:∀l:List ai,yD l=(l.map (bq true)).findIdx? Nj:=λl=>by unfold yD;rw[List.findIdx?_map];rfl
 rw[k,k,h]
def P6{agI rob':List ai}(h:agI.map (bq true)=rob'.map (bq true))(i:Nat):(DY agI i).map (bq true)=(DY rob' i).map (bq true):=by
 unfold DY;rcases ia h i with ⟨a,b⟩|⟨e,e',a,b,q⟩
 .rw[a,b];exact h
 rw[a,b];have q:=hz q;refine nd (q9 h i) ?_;show [bq true {e with K:=e.next}]=[bq true {e' with K:=e'.next}];exact am (λz=>[z]) (iq.to ⟨q.no,q.M,q.i,q.Y7 R,q.is,q.left,q.Y7,q.W,q.halt,q.d,q.known,q.Z8⟩)
theorem Lo.Zt{c d:Co}(h:Lo true c d):Lo true (kK c) (kK d):=by
 have f:(b5 c).map (bq true)=(b5 d).map (bq true):=by
  unfold b5;rw[je h.Z];exact v8 (N5 (λ_ _ q=>o7 (xe true) (xe true) q) _ _ h.Z) _ _ _
 unfold kK;rw[h.halt,Q7 f];split
 .exact h
 split
 .rename_i i _;refine {h with Z:=P6 f i,J:= ?_,L:=rfl,stop:=rfl,halt:=rfl};show(match(b5 c)[i]? with|some e=>e.next|none=>0)=(match(b5 d)[i]? with|some e=>e.next|none=>0);rcases ia f i with ⟨a,b⟩|⟨e,e',a,b,q⟩<;>rw[a,b];exact(hz q).Y7 rfl
 exact {h with Z:=f,halt:=rfl}
def wa(e:ai):rb (cA (bq true e))=rb (cA e):=by
 unfold cA;by_cases h:e.halt≠0
 .rw[aa h];exact(am rb (aa h)).trans R
 rw[dZ h];refine(am rb (dZ h)).trans ?_;by_cases i:aj e.i.op=4
 .rw[aa i];exact(am rb (aa i)).trans R
 rw[dZ i];refine(am rb (dZ i)).trans ?_;by_cases g:aj e.i.op=3
 .rw[aa g];exact(am rb (aa g)).trans R
 rw[dZ g];refine(am rb (dZ g)).trans ?_;by_cases f:aj e.i.op=2
 .rw[aa f];exact(am rb (aa f)).trans R
 rw[dZ f];refine(am rb (dZ f)).trans ?_;by_cases j:aj e.i.op=5
 .rw[aa j];exact(am rb (aa j)).trans R
 rw[dZ j];exact(am rb (dZ j)).trans R
def O_{s e:Sp}(h:rb s=rb e):(iJ s).map hC=(iJ e).map hC:=by
 have f:s.store=e.store:=by have:=am Sp.store h;exact this
 have g:s.halt=e.halt:=by have:=am Sp.halt h;exact this
 have i:s.size=e.size:=by have:=am Sp.size h;exact this
 have j:s.W=e.W:=by have:=am Sp.W h;exact this
 unfold iJ;rw[f,g,i,j];split
 .rfl
 exact am some (am (Pt.mk e.W) (N0 (by rw[mP,mP])))
theorem Lo.retireOne{c d:Co}(h:Lo true c d){e e':ai}(u:bq true e=bq true e'){s f:Sp}(g:rb s=rb f){l n:List ai}(v:l.map (bq true)=n.map (bq true)):Lo true (io c e s l) (io d e' f n):=by
 have m:e.i=e'.i:=(hz u).i;have o:s.W=f.W:=by have:=am Sp.W g;exact this
 have hp:s.M=f.M:=by have:=am Sp.M g;exact this
 have w:s.next=f.next:=by have:=am Sp.next g;exact this
 have i:Lo true (fZ c s) (fZ d f):=by
  refine {h with Z':= ?_,ret:=nd h.ret (by show [rb s]=[rb f];rw[g])};show List.map hC (match iJ s with|some p=>c.V++[p]|none=>c.V)=List.map hC (match iJ f with|some p=>d.V++[p]|none=>d.V);have k:=O_ g;cases i:iJ s<;>cases j:iJ f<;>rw[i,j]at k
  .exact h.Z'
  .cases k
  .cases k
  exact nd h.Z' (by show [hC _]=[hC _];rw[fj k])
 have j:Lo true (vG (fZ c s) e s) (vG (fZ d f) e' f):=by
  unfold vG;rw[<-m, <-o];split
  .exact i.ZJ _
  exact i
 exact {j with Z:=v,K:=by show fM _ _ _ _=fM _ _ _ _;rw[h.K,hp,w,m]}
theorem Lo.retiresN:∀(n:Nat) {c d:Co},Lo true c d->Lo true (c5 n c) (c5 n d)
 |0,_,_,h=>h
 | n +1,c,d,h=>by
  unfold Go.Proofs.YtiaekocjeinkjaaGreatDoor.c5;by_cases k:d.halt≠0
  .rw[aa k,aa (by rw[h.halt];exact k)];exact h
  rw[dZ k,dZ (by rw[h.halt];exact k)];have hr:=h.Z
  cases o:c.Z with
  |nil=>
   cases f:d.Z with
   |nil=>exact h
   |cons _ _=>rw[o,f]at hr;cases hr
  | cons e l=>
   cases f:d.Z with
   |nil=>rw[o,f]at hr;cases hr
   | cons e' bb=>
    rw[o,f]at hr;simp only[jC,List.cons.injEq]at hr;obtain⟨q,v⟩:=hr;have m:rb (cA e)=rb (cA e'):=(wa e).symm.trans ((am (λz=>rb (cA z)) q).trans (wa e'));have p:(cA e).halt=(cA e').halt:=by have:=am Sp.halt m;exact this
    have u:(cA e).store=(cA e').store:=by have:=am Sp.store m;exact this
    show Lo true (if e.is≠3 then c else _) (if e'.is≠3 then d else _);rw[(hz q).is];by_cases g:e'.is≠3
    .rw[aa g,aa g];exact h
    rw[dZ g,dZ g,p];by_cases i:(cA e').halt≠0
    .rw[aa i,aa i];exact {h with ret:=nd h.ret (by show [rb _]=[rb _];rw[m]),halt:=p,Z:=rfl,L:=rfl,stop:=rfl}
    rw[dZ i,dZ i,u,je h.Z',h.Q];by_cases j:(cA e').store=true/\(d.V.length:Int)>=d.Q.V
    .rw[aa j,aa j];exact h
    rw[dZ j,dZ j];exact Lo.retiresN n (h.retireOne q m v)
theorem Lo.YY{c d:Co}(h:Lo true c d):Lo true (ei c) (ei d):=by
 unfold ei;rw[h.Q];exact Lo.retiresN _ h
theorem Lo.form{nx:Bool}{c d:Co}(h:Lo nx c d):∃R P S D B M T,d={c with r:=R,Z:=P,V:=S,data:=D,U:=B,mem:=M,N:=T}:=by
 refine⟨d.r,d.Z,d.V,d.data,d.U,d.mem,d.N,?_⟩;obtain⟨i,j,k,l,m,n,o,p,u,e,f,g, -, -, -, -, -, -⟩:=h;cases c;cases d
 simp only at i j k l m n o p u e f g;subst i j k l m n o p u e f g;rfl
theorem Lo.entersN{nx:Bool}:∀(n:Nat) {c d:Co},Lo nx c d->Lo nx (ez n c) (ez n d)
 |0,_,_,h=>h
 |n+1,c,d,h=>by
  obtain⟨R,P,S,D,B,M,T,rfl⟩:=h.form;unfold Go.Proofs.YtiaekocjeinkjaaGreatDoor.ez;dsimp only;rw[show P.length=c.Z.length from(je h.Z).symm];by_cases e:(c.Z.length:Int)>=c.Q.Z
  .rw[aa e,aa e];exact h
  rw[dZ e,dZ e]
  cases g:c.L with
  |nil=>exact {h with L:=g}
  |cons f l=>exact Lo.entersN n {h with Z:=nd h.Z rfl,next:=rfl,L:=rfl}
theorem Lo.enters{nx:Bool}{c d:Co}(h:Lo nx c d):Lo nx (lP c) (lP d):=by
 unfold lP;rw[h.halt,h.Q];split
 .exact h
 exact Lo.entersN _ h
theorem Lo.ask{nx:Bool}{c d:Co}(h:Lo nx c d)(k:Int)(agY:Nat){x y:ByteArray}(e:x.size=y.size):Lo nx (jE c k agY x) (jE d k agY y):=by
 obtain⟨R,P,S,D,B,M,T,rfl⟩:=h.form;exact {h with U:=w9 h.U _ _ _ e,asked:=rfl}
theorem Lo.room{nx:Bool}{c d:Co}(h:Lo nx c d)(b:Bool):tA c b=tA d b:=by unfold tA;rw[Q4 h.U,h.Q]
theorem Lo.fetchesN{nx:Bool}:∀(n:Nat) {c d:Co},Lo nx c d->Lo nx (ed n c) (ed n d)
 |0,_,_,h=>h
 | n+1,c,d,h=>by
  have hr:=h.room false;obtain⟨R,P,S,D,B,M,T,rfl⟩:=h.form;unfold Go.Proofs.YtiaekocjeinkjaaGreatDoor.ed;dsimp only;rw[<-hr,show Ec B (ao c.J) 2=Ec c.U (ao c.J) 2 from(w0 h.U _ _).symm];by_cases e:c.stop=true∨(c.L.length:Int)>=c.Q.queue
  .rw[aa e,aa e];exact h
  rw[dZ e,dZ e];by_cases f:(es c.prog c.J).isSome=false
  .rw[aa f,aa f];exact {h with L:=rfl,stop:=rfl}
  rw[dZ f,dZ f];by_cases g:(bK c.u (ao c.J)).2.isSome=false
  .rw[aa g,aa g];split
   .exact h.ask _ _ rfl
   .exact h
  rw[dZ g,dZ g];refine Lo.fetchesN n ?_;unfold dM;dsimp only;by_cases i:dq (a8 c.prog c.J)=0∨aj (be (a8 c.prog c.J)).op≠5
  .rw[aa i,aa i];exact {h with u:=rfl,L:=rfl,J:=rfl}
  rw[dZ i,dZ i];by_cases j:c.Q.tables=true
  .rw[aa j,aa j];exact {h with u:=rfl,L:=rfl,J:=rfl}
  .rw[dZ j,dZ j];exact {h with u:=rfl,L:=rfl,J:=rfl,Z1:=rfl}
theorem Lo.Zo{nx:Bool}{c d:Co}(h:Lo nx c d):Lo nx (eN c) (eN d):=by
 unfold eN;rw[h.halt,h.Q];split
 .exact h
 exact Lo.fetchesN _ h
def ws{a b:Ca}{l m:List Pt}(h:ce a=ce b)(k:l.map hC=m.map hC):(sL l a).1.map hC=(sL m b).1.map hC/\ce (sL l a).2.1=ce (sL m b).2.1/\(sL l a).2.2=(sL m b).2.2:=by
 unfold sL
 cases l with
 |nil=>
  cases m with
  |nil=>exact⟨R,h,R⟩
  |cons _ _=>cases k
 | cons p l=>
  cases m with
  |nil=>cases k
  | cons e m=>
   have o:=k;simp only[jC,List.cons.injEq]at k;obtain⟨q,u⟩:=k;have f:p.W=e.W:=by have:=am Pt.W q;exact this
   have n:p.data.size=e.data.size:=by have:=am (λz:Pt=>z.data.size) q;rw[show(hC p).data.size=_ from iy _,show(hC e).data.size=_ from iy _]at this;exact this
   obtain⟨i,j⟩:=Q2 h e.W n;rw[<-f]at i j;by_cases g:(xL b p.W e.data).2=true
   .simp only[i,f ▸ g,fD];rw[<-f];simp only[g,fD];exact⟨u,j,tr⟩
   .simp only[i];rw[<-f];simp only[g];exact⟨o,h,R⟩
theorem Lo.drainsB{nx:Bool}{c d:Co}(h:Lo nx c d):Lo nx (ec c) (ec d):=by
 unfold Go.Proofs.YtiaekocjeinkjaaGreatDoor.ec;have g:c.V=[]↔d.V=[]:=by rw[<-List.length_eq_zero_iff, <-List.length_eq_zero_iff,je h.Z']
 by_cases e:d.V≠[]\/d.halt=0
 .rw[aa e,aa (by rw[h.halt];exact e.imp (λq z=>q (g.1 z)) id)];exact h
 rw[dZ e,dZ (by rw[h.halt];exact λq=>e (q.imp (λq z=>q (g.2 z)) id))];unfold pE;have k:=Q3 h.data;cases j:cR c.data<;>cases l:cR d.data<;>rw[j,l]at k
 .exact h
 .cases k
 .cases k
 rename_i w w';have q:ej w=ej w':=fj k;have i:w.S=w'.S:=by have:=am Wy.S q;exact this
 have f:w.data.size=w'.data.size:=by have:=am (λz:Wy=>z.data.size) q;rw[show(ej w).data.size=_ from iy _,show(ej w').data.size=_ from iy _]at this;exact this
 show Lo nx (if w.data.size≠0 then _ else _) (if w'.data.size≠0 then _ else _);rw[i,f];split
 .have:=h.ask 4 w'.S f;exact {this with data:=O3 h.data _}
 exact h
theorem Lo.drainOne{nx:Bool}{c d:Co}(h:Lo nx c d):Lo nx (bg c) (bg d):=by
 obtain⟨e,f,_⟩:=ws h.data h.Z';exact {h with Z':=e,data:=f}
theorem Lo.drainAsk{nx:Bool}{c d:Co}(h:Lo nx c d):Lo nx (f_ c) (f_ d):=by
 unfold Go.Proofs.YtiaekocjeinkjaaGreatDoor.f_;have k:=h.Z';cases f:c.V<;>cases g:d.V<;>rw[f,g]at k
 .exact h
 .cases k
 .cases k
 simp only[jC,List.cons.injEq]at k;have e:=am Pt.W k.1;rename_i p _ i _;have e:p.W=i.W:=e;show Lo nx (if Ec _ _ _=false/\_ then _ else _) (if Ec _ _ _=false/\_ then _ else _);rw[w0 h.U,h.room,e];split
 .exact h.ask _ _ R
 exact h
theorem Lo.Zj{nx:Bool}{c d:Co}(h:Lo nx c d):Lo nx (tY c) (tY d):=by
 unfold tY;obtain⟨_,_,f⟩:=ws h.data h.Z';have k:=h.Z';cases g:c.V<;>cases i:d.V<;>(have e:=k;rw[g,i]at e)
 .exact h.drainOne.drainsB
 .cases e
 .cases e
 rw[g,i]at f;show Lo nx (if(sL _ c.data).2.2=true then _ else _) (if(sL _ d.data).2.2=true then _ else _);rw[f];split
 .exact h.drainOne.drainsB
 exact h.drainOne.drainAsk.drainsB
section
variable {nx:Bool}{agI rob':List ai}(h:agI.map (bq nx)=rob'.map (bq nx))
include h
def N1:Cq agI=Cq rob':=by
 have k:∀l:List ai,Cq l=(l.map (bq nx)).findIdx λe=> !LT e:=λl=>by unfold Cq;rw[List.findIdx_map];rfl
 rw[k,k,h]
def v9(i:Nat):vC agI i=vC rob' i:=by unfold vC;rw[je h,N1 h]
def O'(f:List Int)(k:Nat):DB agI f k=DB rob' f k:=by
 unfold DB;rw[N1 h];rcases ia h k with ⟨a,b⟩|⟨e,e',a,b,q⟩<;>rw[a,b];show(if aj e.i.op≠3 then _ else _)=(if aj e'.i.op≠3 then _ else _);rw[(hz q).i,m' h,m' h]
theorem v_:∀k,cN agI k=cN rob' k
 |0=>rfl
 |k+1=>by unfold cN;rw[v_ k,O' h]
def O5(i:Nat)(e:Int):IC agI i e=IC rob' i e:=by unfold IC jo;rw[m' h,je h,v_ h]
def R7(g:Int)(i:Nat):Pr g agI i=Pr g rob' i:=by
 unfold Pr;rcases ia h i with ⟨a,b⟩|⟨e,e',a,b,q⟩<;>rw[a,b];have q:=hz q;have j:DC e=DC e':=by unfold DC;rw[q.i]
 have k:qD e=qD e':=by unfold qD;rw[q.i]
 show(if DC e=false then _ else _)=(if DC e'=false then _ else _);rw[j,k,v9 h,show(λf=> !IC agI i f)=λf=> !IC rob' i f from funext λf=>by rw[O5 h]]
def P7(r r':Nat->Nat)(i:Nat):(mI agI r i).2.2=(mI rob' r' i).2.2:=by
 unfold mI;rcases ia h i with ⟨a,b⟩|⟨e,e',a,b,q⟩<;>rw[a,b];show((lK agI r i e.i.y).isSome&&(lK agI r i e.i.A).isSome)=((lK rob' r' i e'.i.y).isSome&&(lK rob' r' i e'.i.A).isSome);rw[(hz q).i,nc h r r',nc h r r']
def rq{p:ai->Bool}(hp:∀e,p (bq nx e)=p e):agI.any p=rob'.any p:=by
 have k:∀l:List ai,l.any p=(l.map (bq nx)).any p:=λl=>by rw[List.any_map];exact am (List.any l) (funext λe=>(hp e).symm)
 rw[k agI,k rob',h]
end
theorem Lo.can{nx:Bool}{c d:Co}(h:Lo nx c d)(i:Nat):fl c i=fl d i:=by
 unfold fl;rcases ia h.Z i with ⟨a,b⟩|⟨e,e',a,b,q⟩<;>rw[a,b];have q:=hz q;show(if e.is≠0 then false else if aj e.i.op=3 then _ else if aj e.i.op=4 then _ else _)=(if e'.is≠0 then false else if aj e'.i.op=3 then _ else if aj e'.i.op=4 then _ else _);rw[q.is,q.i,q.known,nc h.Z c.r d.r,h.Q,R7 h.Z,P7 h.Z c.r d.r]
def ls(s:Std):Std:={s with data:=oZ}
theorem q'(a n:Nat):∀l:List Std,(xK a n l).1=(xK a n (l.map ls)).1
 |[]=>rfl
 |s::l=>by
  show(if hV s.W s.size a n=false then _ else if Fh s.W s.size a n=false\/s.there=false then _ else _:Int×ByteArray).1=(if hV s.W s.size a n=false then _ else if Fh s.W s.size a n=false\/s.there=false then _ else _:Int×ByteArray).1;split
  .exact q' a n l
  .split<;>rfl
def P8{nx:Bool}{agI rob':List ai}(h:agI.map (bq nx)=rob'.map (bq nx)){l m:List Pt}(k:l.map hC=m.map hC):(FW agI l).map ls=(FW rob' m).map ls:=by
 have f:∀r:List ai,((r.filter λe=>f' e 4).map Fg).map ls=(((r.map (bq nx)).filter λe=>f' e 4).map Fg).map ls:=λr=>by
  rw[List.filter_map,List.map_map,List.map_map,List.map_map];rfl
 have g:∀r:List Pt,(r.map CY).map ls=((r.map hC).map CY).map ls:=λr=>by
  rw[List.map_map,List.map_map,List.map_map];exact iB λp _=>by show Std.mk p.W p.data.size oZ true=Std.mk p.W (gi p.data).size oZ true;rw[iy]
 unfold FW;rw[dH,dH,List.map_reverse,List.map_reverse,List.map_reverse,List.map_reverse,f,g,h,k, <-f, <-g]
def PL{nx:Bool}{agI rob':List ai}(h:agI.map (bq nx)=rob'.map (bq nx)){l m:List Pt}(k:l.map hC=m.map hC)(i:Nat):(lL agI l i).1=(lL rob' m i).1:=by
 unfold lL;rcases ia h i with ⟨a,b⟩|⟨e,e',a,b,q⟩<;>rw[a,b];have q:=hz q;show(if aj e.i.op≠3 then _ else if(agI.take i).any Aw=true then _ else _:Int×ByteArray).1=(if aj e'.i.op≠3 then _ else if(rob'.take i).any Aw=true then _ else _:Int×ByteArray).1;rw[q.i,q.W,rq (q9 h i) (p:=Aw) (λ_=>rfl)];split
 .rfl
 split
 .rfl
 rw[q',P8 (q9 h i) k, <-q']
theorem Lo.YH{nx:Bool}{c d:Co}(h:Lo nx c d)(agY:Nat):Kt c agY=Kt d agY:=by
 unfold Kt;rw[w8 h.data,rq h.Z (p:=λe=>e.Z8&&decide (ao e.W=agY)) (λ_=>rfl)]
theorem Lo.setE{nx:Bool}{c d:Co}(h:Lo nx c d)(i:Nat){e e':ai}(q:bq nx e=bq nx e'):Lo nx (fh c i e) (fh d i e'):={h with Z:=w7 h.Z i q}
def wb{nx:Bool}{e e':ai}(q:bq nx e=bq nx e')(s f:ByteArray):bq nx (uM e s)=bq nx (uM e' f):=o7 (f:=λe=>uM e s) (g:=λe=>uM e f) (rk nx · _ _) (rk nx · _ _) q
theorem Lo.load{nx:Bool}{c d:Co}(h:Lo nx c d)(i:Nat):Lo nx (oE c i) (oE d i):=by
 unfold oE;rcases ia h.Z i with ⟨a,b⟩|⟨e,e',a,b,q⟩<;>rw[a,b]
 .exact h
 have k:=hz q;show Lo nx (if e.known=false then c else if(lL c.Z c.V i).1=1 then _ else if(lL c.Z c.V i).1≠2 then c else if Kt c (ao e.W)=true then _ else if Ec c.U (ao e.W) 1=true then _ else if tA c (vC c.Z i)=true/\Ec c.U (ao e.W) 3=false then _ else c)
  (if e'.known=false then d else if(lL d.Z d.V i).1=1 then _ else if(lL d.Z d.V i).1≠2 then d else if Kt d (ao e'.W)=true then _ else if Ec d.U (ao e'.W) 1=true then _ else if tA d (vC d.Z i)=true/\Ec d.U (ao e'.W) 3=false then _ else d)
 rw[k.known,k.W,PL h.Z h.Z',h.YH,w0 h.U,w0 h.U,h.room,v9 h.Z];split
 .exact h
 split
 .exact h.setE i (wb q _ _)
 split
 .exact h
 split
 .exact h.setE i (wb q _ _)
 have f:=iq.to (nx:=nx) (e:={e with is:=2,W:=e'.W,known:=e'.known}) (e':={e' with is:=2}) ⟨k.no,k.M,k.i,k.K,R,k.left,k.Y7,R,k.halt,k.d,R,k.Z8⟩;split
 .exact h.setE i f
 split
 .exact(h.ask _ _ R).setE i f
 exact h
structure W4(nx:Bool)(e:ai)(S T:St):Prop where
 ZL:aj e.i.op=3\/aj e.i.op=4->(S.r e.i.y.toNat+e.i.C)%4294967296=(T.r e.i.y.toNat+e.i.C)%4294967296
 d:aj e.i.op=2->e8 e.i.op (S.r e.i.y.toNat) (S.r e.i.A.toNat)=e8 e.i.op (T.r e.i.y.toNat) (T.r e.i.A.toNat)
 Yz:aj e.i.op=5->(qP e.i.op e.i.C e.M (S.r e.i.y.toNat) (S.r e.i.A.toNat)%4=0↔qP e.i.op e.i.C e.M (T.r e.i.y.toNat) (T.r e.i.A.toNat)%4=0)/\(nx=true->qP e.i.op e.i.C e.M (S.r e.i.y.toNat) (S.r e.i.A.toNat)%4=0->qP e.i.op e.i.C e.M (S.r e.i.y.toNat) (S.r e.i.A.toNat)=qP e.i.op e.i.C e.M (T.r e.i.y.toNat) (T.r e.i.A.toNat))
def wc{nx:Bool}{e e':ai}(q:iq nx e e')(n:Int){a f:Nat}(i:aj e.i.op=3\/aj e.i.op=4->e.known=false->(a+e.i.C)%4294967296=(f+e.i.C)%4294967296):bq nx (yC e n a)=bq nx (yC e' n f):=by
 unfold yC;by_cases h:(aj e.i.op≠3/\aj e.i.op≠4)\/e.is≠0\/e.known=true
 .have h':=h;rw[q.i,q.is,q.known]at h';rw[aa h,aa h'];exact q.to
 have h':=h;rw[q.i,q.is,q.known]at h';rw[dZ h,dZ h'];have j:e.known=false:=by cases k:e.known with|false=>rfl|true=>exact absurd (.inr (.inr k)) h
 have g:=i ad j;rw[<-q.i, <-g];split
 .exact iq.to ⟨q.no,q.M,R,q.K,q.is,q.left,q.Y7,R,q.halt,q.d,R,q.Z8⟩
 exact iq.to ⟨q.no,q.M,R,q.K,R,q.left,q.Y7,R,R,q.d,q.known,q.Z8⟩
def P0{nx:Bool}{e e':ai}(q:iq nx e e'){a b g i:Nat}(l:aj e.i.op=2->e8 e.i.op a b=e8 e.i.op g i)(j:aj e.i.op=5->(qP e.i.op e.i.C e.M a b%4=0↔qP e.i.op e.i.C e.M g i%4=0)/\(nx=true->qP e.i.op e.i.C e.M a b%4=0->qP e.i.op e.i.C e.M a b=qP e.i.op e.i.C e.M g i)):bq nx (rJ e a b)=bq nx (rJ e' g i):=by
 unfold rJ;by_cases h:e.is≠0\/aj e.i.op=3\/aj e.i.op=4
 .have h':=h;rw[q.i,q.is]at h';rw[aa h,aa h'];exact q.to
 have h':=h;rw[q.i,q.is]at h';rw[dZ h,dZ h', <-q.i, <-q.M];split
 .exact iq.to ⟨q.no,R,R,q.K,R,R,λ_=>rfl,q.W,q.halt,q.d,q.known,q.Z8⟩
 split
 .rename_i k;exact iq.to ⟨q.no,R,R,q.K,R,am (λz:Nat=>(z:Int)) (l k),λ_=>rfl,q.W,q.halt,am (λz:Nat=>(z:Int)) (l k),q.known,q.Z8⟩
 split
 .rename_i k;obtain⟨j,m⟩:=j k;by_cases f:qP e.i.op e.i.C e.M a b%4=0
  .rw[aa f,aa (j.1 f)];exact iq.to ⟨q.no,R,R,q.K,R,R,λz=>m z f,q.W,q.halt,q.d,q.known,q.Z8⟩
  rw[dZ f,dZ (λz=>f (j.2 z))];exact iq.to ⟨q.no,R,R,q.K,R,R,λ_=>rfl,q.W,R,q.d,q.known,q.Z8⟩
 exact iq.to ⟨q.no,R,R,q.K,R,R,λ_=>rfl,q.W,q.halt,q.d,q.known,q.Z8⟩
theorem Lo.start{nx:Bool}{prog:List Nat}{s t:St}{c d:Co}(h:Lo nx c d)(hc:Iv prog c s)(hd:Iv prog d t){j:Nat}(A:Rd c.Z c.r j)(u:Rd d.Z d.r j)(z:∀e,c.Z[j]?=some e->W4 nx e (bz prog s (c.Z.take j)) (bz prog t (d.Z.take j))):Lo nx (iS c j) (iS d j):=by
 unfold iS;rcases ia h.Z j with ⟨a,b⟩|⟨e,e',bb,b4,q⟩
 .rw[a,b];exact h
 have k:=hz q;have O:=z e bb;have i:∀{c:Co} {s:St},Iv prog c s->∀{e:ai},c.Z[j]?=some e->∀l,(lK c.Z c.r j l).isSome=true->(lK c.Z c.r j l).getD 0=(bz prog s (c.Z.take j)).r l.toNat:=λ{c} {s} h {e} bb l q=>by
  obtain⟨B,_⟩:=Em.1 bb;obtain⟨v,p⟩:=FH.1 q;rw[p];rw[h.r]at p;exact m0 h.ri.ok h.z (Nat.le_of_lt B) p
 obtain⟨_,E,r4,y⟩:=A e bb;obtain⟨_,m,o,n⟩:=u e' b4;have w:∀(c:Co) (e:ai),c.Z[j]?=some e->mI c.Z c.r j=((lK c.Z c.r j e.i.y).getD 0,(lK c.Z c.r j e.i.A).getD 0,(lK c.Z c.r j e.i.y).isSome&&(lK c.Z c.r j e.i.A).isSome):=λc e bb=>by unfold mI;rw[bb]
 rw[w c e bb,w d e' b4,bb,b4];rw[<-k.i]at m o n ⊢;rw[<-k.known]at m;show Lo nx (if aj e.i.op=4 then Go.Proofs.YtiaekocjeinkjaaGreatDoor.fh c j (yC e c.mem.size ((lK c.Z c.r j e.i.y).getD 0))else if aj e.i.op=3 then oE (Go.Proofs.YtiaekocjeinkjaaGreatDoor.fh c j (yC e c.mem.size ((lK c.Z c.r j e.i.y).getD 0))) j else Go.Proofs.YtiaekocjeinkjaaGreatDoor.fh c j (rJ e ((lK c.Z c.r j e.i.y).getD 0) ((lK c.Z c.r j e.i.A).getD 0)))
  (if aj e'.i.op=4 then Go.Proofs.YtiaekocjeinkjaaGreatDoor.fh d j (yC e' d.mem.size ((lK d.Z d.r j e.i.y).getD 0))else if aj e'.i.op=3 then oE (Go.Proofs.YtiaekocjeinkjaaGreatDoor.fh d j (yC e' d.mem.size ((lK d.Z d.r j e.i.y).getD 0))) j else Go.Proofs.YtiaekocjeinkjaaGreatDoor.fh d j (rJ e' ((lK d.Z d.r j e.i.y).getD 0) ((lK d.Z d.r j e.i.A).getD 0)))
 rw[<-k.i, <-h.mem];by_cases g:aj e.i.op=4
 .rw[aa g,aa g];refine h.setE j (wc k _ λ_ _=>?_);rw[i hc bb _ (r4 g),i hd b4 _ (o g)];exact O.ZL (.inr g)
 rw[dZ g,dZ g];by_cases f:aj e.i.op=3
 .rw[aa f,aa f];refine(h.setE j (wc k _ λ_ x=>?_)).load j;rw[i hc bb _ ((E f).resolve_left (by rw[x];decide)),i hd b4 _ ((m f).resolve_left (by rw[x];decide))];exact O.ZL (.inl f)
 rw[dZ f,dZ f];refine h.setE j (P0 k (λC=>?_) λD=>?_)
 all_goals rw[i hc bb _ (y f g).1,i hd b4 _ (n f g).1,i hc bb _ (y f g).2,i hd b4 _ (n f g).2]
 .exact O.d C
 exact O.Yz D
def Q8(c:Co)(j:Nat):(oE c j).Z.map (·.M)=c.Z.map (·.M):=by
 unfold oE
 cases f:c.Z[j]? with
 |none=>rfl
 |some e=>
  dsimp only
  (repeat' split)<;>first|rfl|exact ng f (ln e _).M|exact ng f rfl
def P1(c:Co)(j:Nat):(iS c j).Z.map (·.M)=c.Z.map (·.M):=by
 unfold iS
 cases f:c.Z[j]? with
 |none=>rfl
 | some e=>
  dsimp only;split
  .exact ng f (lp e _ _).M
  .split
   .rw[Q8];exact ng f (lp e _ _).M
   .exact ng f (qi e _ _).M
theorem Lo.ZN{nx:Bool}{prog:List Nat}{s t:St}:∀(p:List Nat) {c d:Co},Lo nx c d->Iv prog c s->Iv prog d t->c.mc->d.mc->p.Nodup->(∀i∈p,Rd c.Z c.r i)->(∀i∈p,Rd d.Z d.r i)->(∀i∈p,∀e,c.Z[i]?=some e->W4 nx e (bz prog s (c.Z.take i)) (bz prog t (d.Z.take i)))->Lo nx (p.foldl iS c) (p.foldl iS d)
 |[],c,d,h,_,_,_,_,_,_,_,_=>h
 | j::p,c,d,h,hc,hd,ds,em,hn,hR,bb,c0=>by
  obtain⟨o,u,C,m,n⟩:=hc.start ds (hR j dg);obtain⟨v,w,D,x,y⟩:=hd.start em (bb j dg);rw[List.nodup_cons]at hn;have l:∀{c:Co},(iS c j).r=c.r->(c.Z[j]?=none/\(iS c j).Z=c.Z\/∃e e',c.Z[j]?=some e/\(iS c j).Z=c.Z.set j e'/\e'.i=e.i/\e.is=0)->∀i∈p,Rd c.Z c.r i->Rd (iS c j).Z (iS c j).r i/\(iS c j).Z[i]?=c.Z[i]? :=λ{c} A B i f g=>by
   have k:j≠i:=λz=>hn.1 (by rw[z];exact f);rw[A];rcases B with ⟨_,q⟩|⟨e,e',cs,q,c',dr⟩
   .rw[q];exact⟨g,rfl⟩
   .rw[q];exact⟨qv cs c' dr k g,kX k⟩
  have tk:∀{c:Co} {s:St} (i:Nat),bz prog s ((iS c j).Z.take i)=bz prog s (c.Z.take i):=λ{c} {s} i=>qk prog s _ _ (by rw[eO,eO,P1]);refine Lo.ZN p (h.start hc hd (hR j dg) (bb j dg) (c0 j dg)) o v u w hn.2 (λi f=>(l m n i f (hR i (bY _ f))).1) (λi f=>(l x y i f (bb i (bY _ f))).1) λi f e cs=>?_;rw[tk,tk];rw[(l m n i f (hR i (bY _ f))).2]at cs;exact c0 i (bY _ f) e cs
theorem Lo.ZF{nx:Bool}{prog:List Nat}{s t:St}{c d:Co}(h:Lo nx c d)(hc:Iv prog c s)(hd:Iv prog d t)(y:c.mc)(z:d.mc)(x:∀i,fl c i=true->∀e,c.Z[i]?=some e->W4 nx e (bz prog s (c.Z.take i)) (bz prog t (d.Z.take i))):Lo nx (gY c) (gY d):=by
 have o:Fi c=Fi d:=by
  have k:∀l:List ai,(l.map λe=>(aj e.i.op:Int))=(l.map (bq nx)).map λe=>(aj e.i.op:Int):=λl=>by rw[List.map_map];rfl
  unfold Fi;rw[k,k d.Z,h.Z]
 have p:Kv c=Kv d:=by unfold Kv;rw[je h.Z];exact iB λi _=>h.can i
 have u:c.Z.any IE=d.Z.any IE:=rq h.Z (λ_=>rfl);unfold gY;by_cases j:c.halt≠0
 .rw[aa j,aa (by rw[<-h.halt];exact j)];exact h
 rw[dZ j,dZ (by rw[<-h.halt];exact j), <-o, <-p, <-u, <-h.Q];obtain⟨v,w⟩:=oh (agN:=c.Q.o) (busy:=c.Z.any IE) (kinds:=Fi c) (can:=Kv c) (Kv c).length;have f:∀i∈kj c.Q.o (c.Z.any IE) (Fi c) (Kv c),fl c i=true:=λi g=>by
  obtain⟨m,n⟩:=v i g;unfold Kv at m n;rw[aH,fV]at m
  rwa [aR,aX,eZ m]at n
 exact h.ZN _ hc hd y z w (λi g=>l0 (f i g)) (λi g=>l0 ((h.can i) ▸ f i g)) λi g=>x i (f i g)
def Q9{prog:List Nat}{T:St}{e:ai}(h:ea prog T e)(g:LT e=true)(o:Nj e=false):(bx prog T e).2.halt=0/\(bx prog T e).1.M=e.K:=by
 unfold LT at g;split at g
 .cases g
 rename_i A;have A:e.halt=0:=cw.1 A;split at g
 .cases g
 rename_i y;have z:fv prog e.M:=dw λq=>by
  obtain⟨D,H⟩:=h.ZC q;have w:=h.told (.inr D);have:(cA e).halt=0:=by
   unfold cA;rw[dZ ad]
   (repeat' split)<;>rfl
  rw[w]at this;unfold bx gE at this;rw[aa R]at this;by_cases u:(es prog (⟨e.M,T.r,T.mem,0⟩:St).M).isSome=true
  .rw[aa u]at this;by_cases B:dq (a8 prog (⟨e.M,T.r,T.mem,0⟩:St).M)=0
   .rw[aa B]at this;exact absurd this (dT:¬(2:Int)=0)
   exact q ⟨u,B⟩
  rw[dZ u]at this;exact absurd this (dT:¬(1:Int)=0)
 have E:=h.ins z;have p:e.i.op≠47/\e.i.op≠48:=by
  have k:∀x:Int,x=47\/x=48->aj x=6:=λx F=>by rcases F with rfl|rfl<;>rfl
  exact⟨λq=>y (k _ (.inl q)),λq=>y (k _ (.inr q))⟩
 have n:=kq (T:=T) z E p.1 p.2;have v:=(ii prog (s:=⟨e.M,T.r,T.mem,0⟩) R).run;have l:(bx prog T e).2.halt=0->(bx prog T e).1.M=(bx prog T e).2.next:=λq=>(v q).2;by_cases j:aj e.i.op=3\/aj e.i.op=4
 .rw[aa ad]at g;obtain⟨C,m⟩:=h.ZL g j;rw[aa j]at n;have f:(bx prog T e).2.halt=0/\(bx prog T e).2.next=b_ e.M:=by
   rw[n];unfold sN;rw[C]at m;have m:kZ (⟨e.M,T.r,T.mem,0⟩:St).mem.size (fa e.i (T.r e.i.y.toNat)) (bh e.i.op)=true:=m;rw[aa m]
   (repeat' split)<;>exact⟨R,R⟩
  exact⟨f.1,(l f.1).trans (f.2.trans (h.gs λ_=>by omega).symm)⟩
 by_cases i:aj e.i.op=5
 .rw[aa (.inr (.inr i))]at g;obtain⟨G,I⟩:=h.Y8 i g;have w:=h.told (.inr G);have f:(cA e).halt=0/\(cA e).next=e.next:=by
   unfold cA;rw[dZ ad,dZ ad,dZ ad,dZ ad,aa i];exact⟨R,R⟩
  rw[w]at f;refine⟨f.1,(l f.1).trans (f.2.trans ?_)⟩;unfold Nj at o;rw[g,jP i]at o;simp only[kL,mA]at o;exact cw.1 o
 rw[dZ j]at n;have f:(bx prog T e).2.halt=0/\(bx prog T e).2.next=b_ e.M:=by
  rw[n];unfold oN IJ;rw[dZ i]
  (repeat' split)<;>exact⟨R,R⟩
 exact⟨f.1,(l f.1).trans (f.2.trans (h.gs λ_=>i).symm)⟩
def P9{prog:List Nat}{c:Co}{s:St}(h:Iv prog c s)(M:NW c.Z)(v:c.halt=0):∀i,i<=Cq c.Z->i<c.Z.length->∃e,c.Z[i]?=some e/\bf prog s i=⟨e.M,(bz prog s (c.Z.take i)).r,(bz prog s (c.Z.take i)).mem,0⟩:=by
 intro i
 induction i with
 | zero=>
  intro _ w;obtain⟨e,f⟩:∃e,c.Z[0]?=some e:=⟨_,aA w⟩;obtain⟨z,j,_⟩:=h.ch v;have hr:c.Z=e::c.Z.drop 1:=by
   cases hc:c.Z with
   |nil=>rw[hc]at f;cases f
   |cons x l=>rw[hc]at f;injection f with f;subst f;rfl
  rw[hr]at j;have o:s.halt=0:=by rw[<-h.halt];exact v
  refine⟨e,f,?_⟩;have:e.M=s.M:=j.1;show s=⟨e.M,s.r,s.mem,0⟩
  rw[this];obtain⟨a,b,m,d⟩:=s;simp only at o;subst o;rfl
 | succ i ih=>
  intro H w;obtain⟨e,f,F⟩:=ih ad ad;obtain⟨p,n⟩:∃e,c.Z[i+1]?=some e:=⟨_,aA w⟩;have G:=jd h.ri.ok f;have J:LT e=true:=by
   have:=List.not_of_lt_findIdx (p:=λe=> !LT e) (xs:=c.Z) (i:=i) (by unfold Cq at H;omega);obtain⟨A,k⟩:=Em.1 f;rw[k]at this;simpa using this
  obtain⟨O,P⟩:=Q9 G J (M e (aB f));refine⟨p,n,?_⟩;have K:bz prog s (c.Z.take (i+1))=(bx prog (bz prog s (c.Z.take i)) e).1:=by rw[bW,f,vu];rfl
  have E:bf prog s (i+1)=(bx prog (bz prog s (c.Z.take i)) e).1:=by
   show(gE prog (bf prog s i)).1=_;rw[F];rfl
  rw[E,K];have C:p.M=e.K:=by
   obtain⟨z,j,_⟩:=h.ch v;have D:c.Z=c.Z.take i++(e::p::c.Z.drop (i+2)):=by
    obtain⟨A,k⟩:=Em.1 f;obtain⟨I,B⟩:=Em.1 n;rw[<-k, <-B, <-bF I, <-bF A,j']
   rw[D]at j;unfold h9 at j;rw[dH,eD]at j;obtain⟨y,_,N⟩:=l1.1 j;exact N.2.1
  have g:=((ii prog (s:=⟨e.M,(bz prog s (c.Z.take i)).r,(bz prog s (c.Z.take i)).mem,0⟩) R).run O).1;rw[C, <-P];generalize L:(bx prog (bz prog s (c.Z.take i)) e).1=u;have g:u.halt=0:=by rw[<-L];exact g
  obtain⟨a,b,m,d⟩:=u;simp only at g;subst g;rfl
def rf{prog:List Nat}{S T:St}{e:ai}(n:S.r (be (a8 prog e.M)).y.toNat=T.r (be (a8 prog e.M)).y.toNat)(o:S.r (be (a8 prog e.M)).A.toNat=T.r (be (a8 prog e.M)).A.toNat)(p:S.mem.size=T.mem.size)(u:aj (be (a8 prog e.M)).op≠3):(bx prog S e).2=(bx prog T e).2:=by
 unfold bx gE;rw[aa R,aa R];by_cases k:(es prog e.M).isSome=true
 .rw [aa k,aa k];by_cases l:dq (a8 prog e.M)=0
  .rw[aa l,aa l];rfl
  rw[dZ l,dZ l];show(dj _ (be (a8 prog e.M))).2=(dj _ (be (a8 prog e.M))).2;generalize be (a8 prog e.M)=i at *;unfold dj;by_cases g:i.op=47
  .rw[aa g,aa g];rfl
  rw[dZ g,dZ g];by_cases j:i.op=48
  .rw[aa j,aa j];rfl
  rw[dZ j,dZ j];show(if aj i.op=3\/aj i.op=4 then sN _ i (S.r _) (S.r _)else oN _ i (S.r _) (S.r _)).2=(if aj i.op=3\/aj i.op=4 then sN _ i (T.r _) (T.r _)else oN _ i (T.r _) (T.r _)).2;rw[n,o];by_cases f:aj i.op=3\/aj i.op=4
  .rw[aa f,aa f];unfold sN;have m:aj i.op=4:=oT;show(if kZ S.mem.size _ _=true then _ else _:St×Sp).2=(if kZ T.mem.size _ _=true then _ else _:St×Sp).2;rw[p];split
   .first|rfl|(rw[aa m,aa m])
   rfl
  rw[dZ f,dZ f];unfold oN IJ;split
  .split
   .split<;>rfl
   rfl
  split<;>rfl
 rw[dZ k,dZ k];rfl
def wu{prog:List Nat}{T:St}{e:ai}(j:fv prog e.M)(k:e.i=be (a8 prog e.M))(f:aj e.i.op=3\/aj e.i.op=4):(bx prog T e).2.W=fa e.i (T.r e.i.y.toNat):=by
 have g:e.i.op≠47:=λq=>by rw[q]at f;exact absurd f dT
 have i:e.i.op≠48:=λq=>by rw[q]at f;exact absurd f dT
 rw[kq j k g i,aa f];unfold sN
 (repeat' split)<;>rfl
def wv{prog:List Nat}{T:St}{e:ai}(j:fv prog e.M)(k:e.i=be (a8 prog e.M))(f:aj e.i.op=2):(bx prog T e).2.d=(e8 e.i.op (T.r e.i.y.toNat) (T.r e.i.A.toNat):Nat):=by
 have g:e.i.op≠47:=λq=>by rw[q]at f;exact absurd f dT
 have i:e.i.op≠48:=λq=>by rw[q]at f;exact absurd f dT
 rw[kq j k g i,dZ ad];unfold oN IJ;rw[dZ ad,aa f];split<;>rfl
def we{prog:List Nat}{T:St}{e:ai}(k:fv prog e.M)(l:e.i=be (a8 prog e.M))(f:aj e.i.op=5):((bx prog T e).2.halt=0↔qP e.i.op e.i.C e.M (T.r e.i.y.toNat) (T.r e.i.A.toNat)%4=0)/\((bx prog T e).2.halt=0->(bx prog T e).2.next=qP e.i.op e.i.C e.M (T.r e.i.y.toNat) (T.r e.i.A.toNat)):=by
 have i:e.i.op≠47:=λq=>by rw[q]at f;exact absurd f dT
 have j:e.i.op≠48:=λq=>by rw[q]at f;exact absurd f dT
 rw[kq k l i j,dZ ad];unfold oN IJ;rw[aa f];by_cases g:qP e.i.op e.i.C e.M (T.r e.i.y.toNat) (T.r e.i.A.toNat)%4=0
 .rw[aa g]
  (repeat' split)<;>exact⟨⟨λ_=>g,λ_=>rfl⟩,λ_=>rfl⟩
 rw[dZ g];exact⟨⟨λq=>absurd q (dT:¬(3:Int)=0),λq=>absurd q g⟩,λq=>absurd q (dT:¬(3:Int)=0)⟩
structure lc(prog:List Nat)(m w:ByteArray)(ld:Bool)(F:Nat):Prop where
 j:(jB m).size=(jB w).size
 go:∀k,k<F->((bf prog (a3 m) k).halt=0↔(bf prog (a3 w) k).halt=0)
 ev:∀k,k<F->(bf prog (a3 m) k).halt=0->bu ld (gE prog (bf prog (a3 m) k)).2=bu ld (gE prog (bf prog (a3 w) k)).2
theorem w_{prog:List Nat}{s:St}{k:Nat}(h:(bf prog s k).halt≠0):∀j,bf prog s (k+j)=bf prog s k
 |0=>rfl
 |j+1=>by
  show(gE prog (bf prog s (k+j))).1=_;rw[w_ h j];unfold gE;rw[dZ h]
def R8{prog:List Nat}{m:ByteArray}{n:Int}{ld:Bool}{k:Nat}(h:k<cz prog (min n 10000).toNat (a3 m)):(CJ prog m n ld)[k]?=some (bu ld (gE prog (bf prog (a3 m) k)).2):=by
 unfold CJ e9;rw[aX,aX,aX,eZ h];rfl
def xa(prog:List Nat)(m:ByteArray)(n:Int)(ld:Bool):(CJ prog m n ld).length=cz prog (min n 10000).toNat (a3 m):=by unfold CJ;rw[aH,aH,lR]
theorem xb:∀{A B:List cn} {k:Nat},k<br A B->A[k]?=B[k]?
 |[],_,_,h=>by simp[br]at h
 |_::_,[],_,h=>by simp[br]at h
 |a::A,b::B,0,h=>by
  simp only[br]at h;split at h
  .rename_i q;rw[(Ve a b).1 q];rfl
  .omega
 |a::A,b::B,k+1,h=>by
  simp only[br]at h;split at h
  .exact xb (A:=A) (B:=B) ad
  .omega
def R9{prog:List Nat}{m w:ByteArray}{ld:Bool}{e:Int}(I:0<=e/\e<=10000)(h:Vf (CJ prog m e ld) (CJ prog w e ld) e (jB m).size (jB w).size=true):lc prog m w ld e.toNat:=by
 have p:(min e 10000).toNat=e.toNat:=oT;have B:=xa prog m e ld;have C:=xa prog w e ld;rw[p]at B C;have K:=Eh (CJ prog m e ld) (CJ prog w e ld);have o:∀{m k},k<cz prog e.toNat (a3 m)->(CJ prog m e ld)[k]?=some (bu ld (gE prog (bf prog (a3 m) k)).2):=λ{m k} q=>R8 (by rw[p];exact q);have i:∀k,k<br (CJ prog m e ld) (CJ prog w e ld)->bu ld (gE prog (bf prog (a3 m) k)).2=bu ld (gE prog (bf prog (a3 w) k)).2:=λk l=>by
  have:=xb l;rw[o ad,o ad]at this;exact fj this
 unfold Vf at h;split at h
 .cases h
 rename_i n;have n:(jB m).size=(jB w).size:=cw.1 n;have E:=AB prog e.toNat (a3 m);split at h
 .rename_i l;exact⟨n,λk j=>⟨λ_=>Hd (n:=e.toNat) ad,λ_=>Hd (n:=e.toNat) ad⟩,λk j _=>i k ad⟩
 rename_i l;simp only[aP,pU,aY,pX,ne_eq]at h;obtain⟨F,G,H,g⟩:=h;generalize J:br (CJ prog m e ld) (CJ prog w e ld)=z at *;obtain⟨y,rfl⟩:∃y,z=y+1:=⟨z-1,oT⟩;rw[kB,o ad]at g;have g:(gE prog (bf prog (a3 m) y)).2.halt≠0:=g;have f:∀{m},(bf prog (a3 m) y).halt=0->(gE prog (bf prog (a3 m) y)).2.halt≠0->∀k,y+1<=k->(bf prog (a3 m) k).halt≠0:=λ{m} D x k l=>by
  obtain⟨t,rfl⟩:∃t,k=y+1+t:=⟨k-(y+1),oT⟩;have v:(bf prog (a3 m) (y+1)).halt≠0:=by
   show(gE prog _).1.halt≠0;rw[((ii prog D).halt x).1];exact x
  rw[w_ v];exact v
 have g1:(bf prog (a3 m) y).halt=0:=Hd (n:=e.toNat) ad;have g2:(bf prog (a3 w) y).halt=0:=Hd (n:=e.toNat) ad;have A:(gE prog (bf prog (a3 w) y)).2.halt≠0:=by
  have:=am cn.halt (i y ad);have this:(gE prog (bf prog (a3 m) y)).2.halt=(gE prog (bf prog (a3 w) y)).2.halt:=this;rw[<-this];exact g
 refine⟨n,λk j=>?_,λk j u=>?_⟩
 .rcases fb k (y+1)with q|q
  .exact⟨λ_=>Hd (n:=e.toNat) ad,λ_=>Hd (n:=e.toNat) ad⟩
  exact⟨λz=>absurd z (f g1 g k q),λz=>absurd z (f g2 A k q)⟩
 rcases fb k (y+1)with q|q
 .exact i k q
 exact absurd u (f g1 g k q)
def o4{prog:List Nat}{s:St}(k:Nat):(bf prog s k).mem.size=s.mem.size:=by
 induction k with
 |zero=>rfl
 | succ k ih=>
  show(gE prog (bf prog s k)).1.mem.size=_;by_cases h:(bf prog s k).halt=0
  .have e:=ii prog h;rw[e.mem];split
   .rename_i f;obtain⟨_,l,g⟩:=e.st f;obtain⟨j,i⟩:∃j:Nat,(gE prog (bf prog s k)).2.size=(j:Int):=⟨_,(lU ad).symm⟩;rw[i]at g⊢;rw[qg _ _ _ (by rw[Int.toNat_natCast,mP];exact(l5 g).2)];exact ih
   .exact ih
  .unfold gE;rw[dZ h];exact ih
def ww{prog:List Nat}{S T:St}{e:ai}(A:S.r (be (a8 prog e.M)).y.toNat=T.r (be (a8 prog e.M)).y.toNat)(B:S.mem.size=T.mem.size)(f:aj (be (a8 prog e.M)).op=3)(v:bu true (bx prog S e).2=bu true (bx prog T e).2):(bx prog S e).2=(bx prog T e).2:=by
 have g:0<(bx prog S e).2.size->(bx prog S e).2.store=false->0<(bx prog T e).2.size->(bx prog T e).2.store=false->(bx prog S e).2.value=(bx prog T e).2.value:=λw x y z=>by
  have:=am cn.Zz v;have this:(if true=true/\0<(bx prog S e).2.size/\(bx prog S e).2.store=false then(bx prog S e).2.value else 0)=(if true=true/\0<(bx prog T e).2.size/\(bx prog T e).2.store=false then(bx prog T e).2.value else 0):=this
  rwa [aa ⟨R,w,x⟩,aa ⟨R,y,z⟩]at this
 revert g
 clear v;unfold bx gE;rw[aa R,aa R];by_cases j:(es prog e.M).isSome=true
 .rw [aa j,aa j];by_cases k:dq (a8 prog e.M)=0
  .rw[aa k,aa k];exact λ_=>rfl
  rw [dZ k,dZ k];show(_->_)->(dj _ (be (a8 prog e.M))).2=(dj _ (be (a8 prog e.M))).2
  change (0<(dj ⟨e.M,S.r,S.mem,0⟩ (be (a8 prog e.M))).2.size->(dj ⟨e.M,S.r,S.mem,0⟩ (be (a8 prog e.M))).2.store=false->0<(dj ⟨e.M,T.r,T.mem,0⟩ (be (a8 prog e.M))).2.size->(dj ⟨e.M,T.r,T.mem,0⟩ (be (a8 prog e.M))).2.store=false->(dj ⟨e.M,S.r,S.mem,0⟩ (be (a8 prog e.M))).2.value=(dj ⟨e.M,T.r,T.mem,0⟩ (be (a8 prog e.M))).2.value)->_
  generalize be (a8 prog e.M)=i at *;have m:i.op≠47:=λq=>by rw[q]at f;exact absurd f dT
  have n:i.op≠48:=λq=>by rw[q]at f;exact absurd f dT
  unfold dj;rw[dZ m,dZ m,dZ n,dZ n,aa (.inl f),aa (.inl f)];dsimp only;rw[A];unfold sN;dsimp only;rw[B];by_cases hr:kZ T.mem.size (fa i (T.r i.y.toNat)) (bh i.op)=true
  .have u: ¬aj i.op=4:=oT;rw[aa hr,aa hr,dZ u,dZ u];by_cases l:wr i=0
   .rw[aa l,aa l];exact λ_=>rfl
   rw[dZ l,dZ l];intro g;have p:(0:Int)<(bh i.op:Nat):=by
    unfold kZ at hr;simp only[aP,aY]at hr;omega
   have o:(aj i.op==4)=false:=by rw[f];rfl
   have:=g p o p o;dsimp only at this⊢;rw[this]
  rw[dZ hr,dZ hr];exact λ_=>rfl
 rw[dZ j,dZ j];exact λ_=>rfl
def wg{prog:List Nat}{A:St}(h:A.halt=0):bx prog A {Cs with M:=A.M}=gE prog A:=by
 unfold bx;obtain⟨a,b,c,d⟩:=A;simp only at h;subst h;rfl
def oI{prog:List Nat}{m w:ByteArray}{F:Nat}(h:lc prog m w true F):∀k,k<=F->(bf prog (a3 m) k).r=(bf prog (a3 w) k).r/\(k<F->(bf prog (a3 m) k).halt=0->(gE prog (bf prog (a3 m) k)).2=(gE prog (bf prog (a3 w) k)).2):=by
 intro k
 induction k with
 |zero=>
  intro _;refine⟨R,λn f=>?_⟩;have g:=(h.go 0 n).1 f;have e:=h.ev 0 n f;rw[<-wg f, <-wg g]at e⊢;have j:(bf prog (a3 m) 0).mem.size=(bf prog (a3 w) 0).mem.size:=h.j;by_cases i:aj (be (a8 prog (bf prog (a3 m) 0).M)).op=3
  .exact ww R j i e
  .exact rf R R j i
 | succ k ih=>
  intro n;obtain⟨p,u⟩:=ih ad;have hr:(bf prog (a3 m) (k+1)).r=(bf prog (a3 w) (k+1)).r:=by
   show(gE prog _).1.r=(gE prog _).1.r;by_cases f:(bf prog (a3 m) k).halt=0
   .rw[(ii prog f).r,(ii prog ((h.go k ad).1 f)).r,p,u ad f]
   .have g:(bf prog (a3 w) k).halt≠0:=λq=>f ((h.go k ad).2 q);unfold gE;rw[dZ f,dZ g];exact p
  refine⟨hr,λl f=>?_⟩;have g:=(h.go (k+1) l).1 f;have e:=h.ev (k+1) l f;have o:(bf prog (a3 m) (k+1)).M=(bf prog (a3 w) (k+1)).M:=by
   have:=am cn.M e;have this:(gE prog (bf prog (a3 m) (k+1))).2.M=(gE prog (bf prog (a3 w) (k+1))).2.M:=this
   rwa [(ii prog f).M,(ii prog g).M]at this
  rw[<-wg f, <-wg g]at e⊢;have j:(bf prog (a3 m) (k+1)).mem.size=(bf prog (a3 w) (k+1)).mem.size:=by rw[o4,o4];exact h.j
  rw[<-o]at e⊢;by_cases i:aj (be (a8 prog (bf prog (a3 m) (k+1)).M)).op=3
  .exact ww (e:={Cs with M:=(bf prog (a3 m) (k+1)).M}) (by rw[hr]) j i e
  .exact rf (e:={Cs with M:=(bf prog (a3 m) (k+1)).M}) (by rw[hr]) (by rw[hr]) j i
def ik(e:ai):Prop:=e.is=3/\e.halt=0
def cj(agI:List ai)(r:Nat->Nat):Prop:=∀(k:Nat) e,agI[k]?=some e->aj e.i.op≠3->aj e.i.op≠4->e.is=1\/e.is=3->e.halt=0\/e.halt=3->(lK agI r k e.i.y).isSome=true/\(lK agI r k e.i.A).isSome=true
theorem v3{l m:List ai}(f:Int):∀k,(∀j,j<k->∀e,l[j]?=some e->∃e',m[j]?=some e'/\e'.i=e.i)->k<=l.length->fe m f k=fe l f k
 |0,_,_=>rfl
 |k+1,h,p=>by
  obtain⟨e,g⟩:∃e,l[k]?=some e:=⟨_,aA ad⟩;obtain⟨e',i,n⟩:=h k ad e g;unfold fe LS;rw[g,i,v3 f k (λj o=>h j ad) ad];simp only[n]
theorem rl{l:List ai}{g:Int}:∀{k m:Nat},fe l g k=some m->m<k/\∃e,l[m]?=some e/\wr e.i=g
 |0,_,h=>by cases h
 | k+1,m,h=>by
  unfold fe at h;split at h
  .rename_i f;injection h with h;subst h;unfold LS at f
   cases i:l[k]? with
   |none=>rw[i]at f;cases f
   |some e=>rw[i]at f;exact⟨oT,e,R,ax f⟩
  .obtain⟨a,b⟩:=rl h;exact⟨oT,b⟩
def ox{l n:List ai}{r r':Nat->Nat}{k:Nat}(h:∀j,j<k->∀e,l[j]?=some e->∃e',n[j]?=some e'/\e'.i=e.i/\(ik e->ik e'))(u:k<=l.length)(y:k<=n.length){g:Int}(f:(lK l r k g).isSome=true):(lK n r' k g).isSome=true:=by
 unfold lK cx at f⊢;rw[kD u]at f;rw[kD y,v3 g k (λj z e i=>by obtain⟨e',a,b,_⟩:=h j z e i;exact⟨e',a,b⟩) u];split
 .rfl
 split
 .rename_i o p;rw[dZ o,aa p]at f;cases f
 rename_i o p;rw[dZ o,dZ p]at f;rw[dZ ad]at f⊢;split
 .rfl
 rename_i m w;rw[w]at f;obtain⟨x,e,i,_⟩:=rl w;obtain⟨e',v,_,hd⟩:=h m x e i;dsimp only at f;rw[i]at f;rw[v];dsimp only at f⊢;by_cases hc:e.is=3/\e.halt=0
 .rw[aa (show e'.is=3/\e'.halt=0 from hd hc)];rfl
 rw[dZ hc]at f;cases f
theorem cj.Zw{l g:List ai}{r r':Nat->Nat}(h:cj l r)(H:g.length<=l.length)(w:∀k e',g[k]?=some e'->∃e,l[k]?=some e/\e'.i=e.i/\(ik e->ik e')/\(aj e.i.op≠3->aj e.i.op≠4->e'.is=1\/e'.is=3->e'.halt=0\/e'.halt=3->((e.is=1\/e.is=3)/\(e.halt=0\/e.halt=3))\/(lK l r k e.i.y).isSome=true/\(lK l r k e.i.A).isSome=true)):cj g r':=by
 intro k e' m o p z A;obtain⟨e,B,C,_,D⟩:=w k e' m;obtain⟨F,_⟩:=Em.1 m;rw[C]at o p⊢;have u:(lK l r k e.i.y).isSome=true/\(lK l r k e.i.A).isSome=true:=by
  rcases D o p z A with ⟨a,b⟩|q
  .exact h k e B o p a b
  exact q
 have v:∀j,j<k->∀x,l[j]?=some x->∃f,g[j]?=some f/\f.i=x.i/\(ik x->ik f):=λj G x E=>by
  obtain⟨f,n⟩:∃f,g[j]?=some f:=⟨_,aA ad⟩;obtain⟨y,i,a,b,_⟩:=w j f n;rw[E]at i;injection i with i;subst i;exact⟨f,n,a,b⟩
 exact⟨ox v ad ad u.1,ox v ad ad u.2⟩
theorem cj.map{l:List ai}{r r':Nat->Nat}(h:cj l r)(f:ai->ai)(n:∀e,(f e).i=e.i/\(ik e->ik (f e))/\(aj e.i.op≠3->aj e.i.op≠4->(f e).is=1\/(f e).is=3->(f e).halt=0\/(f e).halt=3->(e.is=1\/e.is=3)/\(e.halt=0\/e.halt=3))):cj (l.map f) r':=by
 refine h.Zw (by rw[aH];exact aC _) λk e' g=>?_;rw[aX]at g
 cases i:l[k]? with
 |none=>rw[i]at g;cases g
 |some e=>
  rw[i]at g;injection g with g;subst g;obtain⟨a,b,c⟩:=n e;exact⟨e,R,a,b,λo p j m=>.inl (c o p j m)⟩
def Q_(c:Co)(agY:Nat)(e:ai):(wO c agY e).i=e.i/\(ik e->ik (wO c agY e))/\(aj e.i.op≠3->aj e.i.op≠4->(wO c agY e).is=1\/(wO c agY e).is=3->(wO c agY e).halt=0\/(wO c agY e).halt=3->(e.is=1\/e.is=3)/\(e.halt=0\/e.halt=3)):=by
 unfold wO;by_cases h:e.is=2/\ao e.W=agY
 .rw[aa h];refine⟨(ln _ _).i,λq=>by have:=q.1;omega,λf _=>?_⟩;unfold uM;rw[aa (.inl f)];intro q;have q:e.is=1\/e.is=3:=q;omega
 rw[dZ h];exact⟨R,id,λ_ _ a b=>⟨a,b⟩⟩
def R_(e:ai):(bn e).i=e.i/\(ik e->ik (bn e))/\(aj e.i.op≠3->aj e.i.op≠4->(bn e).is=1\/(bn e).is=3->(bn e).halt=0\/(bn e).halt=3->(e.is=1\/e.is=3)/\(e.halt=0\/e.halt=3)):=by
 unfold bn;by_cases h:e.is≠1
 .rw[aa h];exact⟨R,id,λ_ _ a b=>⟨a,b⟩⟩
 rw[dZ h];split
 .exact⟨R,λq=>by have:=q.1;omega,λ_ _ _ b=>⟨.inl ad,b⟩⟩
 exact⟨R,λq=>by have:=q.1;omega,λ_ _ _ b=>⟨.inl ad,b⟩⟩
theorem cj.storeAt{l:List ai}{r r' q:Nat->Nat}(h:cj l r)(i:Nat):cj (gm q l i) r':=by
 unfold Go.Proofs.YtiaekocjeinkjaaGreatDoor.gm;have g:cj l r':=h.Zw (aC _) λk e j=>⟨e,j,R,id,λ_ _ a b=>.inl ⟨a,b⟩⟩;split
 .rename_i e j;split
  .rename_i n;split
   .rename_i b _;obtain⟨o,_⟩:=Em.1 j;refine h.Zw (by rw[cC];exact aC _) λk x f=>?_;by_cases m:i=k
    .subst m;rw[aZ o]at f;injection f with f;subst f;refine⟨e,j,(qh e b).i,λq=>?_,λ_ p=>absurd n p⟩;unfold uF;rw[aa (.inr (.inr (oH q.1)))];exact q
    rw[kX m]at f;exact⟨x,f,R,id,λ_ _ a b=>.inl ⟨a,b⟩⟩
   exact g
  exact g
 exact g
theorem cj.storesTo{l:List ai}{r q:Nat->Nat}(h:cj l r):∀n,cj (b3 q l n) r
 |0=>h
 |n+1=>(h.storesTo n).storeAt n
theorem cj.Zu{c:Co}(h:cj c.Z c.r):cj (lM c).Z (lM c).r:=by
 unfold lM;split
 rename_i q x ok _;split
 .unfold ip;split
  .exact h.map _ (Q_ _ _)
  (repeat' split)<;>first|exact h|(unfold oK;exact h)
 exact h
theorem cj.Zt{c:Co}(h:cj c.Z c.r):cj (kK c).Z (kK c).r:=by
 have g:cj (b5 c) c.r:=(h.map (r':=c.r) _ R_).storesTo _;unfold kK;split
 .exact h
 split
 .rename_i i _;show cj (DY (b5 c) i) c.r;unfold DY
  cases j:(b5 c)[i]? with
  |none=>exact g
  | some e=>
   obtain⟨m,_⟩:=Em.1 j;refine g.Zw (by rw[aU,aM];simp;omega) λk x f=>?_;by_cases l:k<i
   .rw[cF (by rw[aM];omega),cU,aa l]at f;exact⟨x,f,R,id,λ_ _ a b=>.inl ⟨a,b⟩⟩
   .rw[bM (by rw[aM];omega),aM,kD ad]at f;rcases fb (k-i) 1 with q|q
    .rw[(oT:k-i=0)]at f;injection f with f;subst f;rw[(oT:k=i)];exact⟨e,j,R,id,λ_ _ a b=>.inl ⟨a,b⟩⟩
    .rw[bE (sU q)]at f;cases f
 .exact g
theorem v4(e:ai)(l:List ai)(f:Int):∀n,fe (e::l) f (n+1)=match fe l f n with|some m=>some (m+1)|none=>if wr e.i=f then some 0 else none
 |0=>by
  show(if LS (e::l) f 0=true then _ else none)=if wr e.i=f then some 0 else none
  show(if decide (wr e.i=f)=true then _ else none)=_
  simp only[aY]
 |n+1=>by
  show(if LS (e::l) f (n+1)=true then some (n+1)else fe (e::l) f (n+1))=match(if LS l f n=true then some n else fe l f n)with|some m=>some (m+1)|none=>_
  rw[show LS (e::l) f (n+1)=LS l f n from R,v4 e l f n];split<;>rfl
theorem cj.tail{e:ai}{l:List ai}{r r':Nat->Nat}(h:cj (e::l) r):cj l r':=by
 intro k x n w y p u;have:=h (k+1) x n w y p u;have o:∀g,(lK (e::l) r (k+1) g).isSome=true->(lK l r' k g).isSome=true:=λg f=>by
  obtain⟨z,_⟩:=Em.1 n;unfold lK cx at f⊢;rw[kD (by simp;omega),v4]at f;rw[kD ad];split
  .rfl
  split
  .rename_i i j;rw[dZ i,aa j]at f;cases f
  rename_i i j;rw[dZ i,dZ j,dZ ad]at f;rw[dZ ad]
  cases v:fe l g k with
  |none=>rfl
  |some m=>rw[v]at f;exact f
 exact⟨o _ this.1,o _ this.2⟩
theorem cj.Y6:∀(n:Nat) {c:Co},cj c.Z c.r->cj (c5 n c).Z (c5 n c).r
 |0,_,h=>h
 | n+1,c,h=>by
  unfold c5;split
  .exact h
  split
  .rename_i hr;rw[hr]at h⊢;exact h
  .rename_i e l hr;split
   .exact h
   split
   .intro k x f;cases f
   split
   .exact h
   .refine cj.Y6 n ?_;rw[hr]at h;exact h.tail
theorem cj.set{l:List ai}{r:Nat->Nat}(h:cj l r){j:Nat}{e e':ai}(g:l[j]?=some e)(m:e'.i=e.i)(u:e.is=0)(hr:aj e.i.op≠3->aj e.i.op≠4->(lK l r j e.i.y).isSome=true/\(lK l r j e.i.A).isSome=true):cj (l.set j e') r:=by
 obtain⟨n,_⟩:=Em.1 g;refine h.Zw (by rw[cC];exact aC _) λk x f=>?_;by_cases i:j=k
 .subst i;rw[aZ n]at f;injection f with f;subst f;exact⟨e,g,m,λq=>by have:=q.1;omega,λo p _ _=>.inr (hr o p)⟩
 rw[kX i]at f;exact⟨x,f,R,id,λ_ _ a b=>.inl ⟨a,b⟩⟩
theorem cj.ZN{prog:List Nat}{s:St}:∀(p:List Nat) {c:Co},cj c.Z c.r->Iv prog c s->c.mc->p.Nodup->(∀i∈p,Rd c.Z c.r i)->cj (p.foldl iS c).Z (p.foldl iS c).r
 |[],c,h,_,_,_,_=>h
 | j::p,c,h,hc,c0,hn,hR=>by
  obtain⟨m,n,u,g,k⟩:=hc.start c0 (hR j dg);rw[List.nodup_cons]at hn;have hd:cj (iS c j).Z (iS c j).r:=by
   rw[g];rcases k with ⟨_,q⟩|⟨e,e',b4,q,bb,cs⟩
   .rw[q];exact h
   .rw[q];obtain⟨_,_,_,o⟩:=hR j dg e b4;exact h.set b4 bb cs o
  refine cj.ZN p hd m n hn.2 λi l=>?_;have f:=hR i (bY _ l);rw[g];rcases k with ⟨_,q⟩|⟨e,e',b4,q,bb,cs⟩
  .rw[q];exact f
  .rw[q];exact qv b4 bb cs (λz=>hn.1 (by rw[z];exact l)) f
theorem cj.ZF{prog:List Nat}{s:St}{c:Co}(h:cj c.Z c.r)(hc:Iv prog c s)(l:c.mc):cj (gY c).Z (gY c).r:=by
 unfold gY;split
 .exact h
 obtain⟨g,j⟩:=oh (agN:=c.Q.o) (busy:=c.Z.any IE) (kinds:=Fi c) (can:=Kv c) (Kv c).length;refine h.ZN _ hc l j λi k=>l0 ?_;obtain⟨e,f⟩:=g i k;unfold Kv at e f;rw[aH,fV]at e
 rwa [aR,aX,eZ e]at f
theorem cj.entersN:∀(n:Nat) {c:Co},cj c.Z c.r->cj (ez n c).Z (ez n c).r
 |0,_,h=>h
 | n +1,c,h=>by
  unfold Go.Proofs.YtiaekocjeinkjaaGreatDoor.ez;split
  .exact h
  split
  .exact h
  .rename_i f l _;refine cj.entersN n ?_;show cj (c.Z++[qB c.next f c.prog]) c.r;intro k x e v w g i;by_cases p:k<c.Z.length
   .rw[cF p]at e;have o:∀j,j<k->∀y,c.Z[j]?=some y->∃m,(c.Z++[qB c.next f c.prog])[j]?=some m/\m.i=y.i/\(ik y->ik m):=λj z y u=>⟨y,by rw[cF ad];exact u,R,id⟩;obtain⟨a,b⟩:=h k x e v w g i;exact⟨ox o ad (by rw[aU];omega) a,ox o ad (by rw[aU];omega) b⟩
   .rw[bM ad]at e;rcases fb (k-c.Z.length) 1 with q|q
    .rw[(oT:k-c.Z.length=0)]at e;injection e with e;subst e;exfalso;unfold qB at g i
     revert g i
     (repeat' split)<;>(intro g i;simp[Cs]at g i)
    .rw[bE (sU q)]at e;cases e
theorem cj.enters{c:Co}(h:cj c.Z c.r):cj (lP c).Z (lP c).r:=by
 unfold lP;split
 .exact h
 exact cj.entersN _ h
def me(agI:List ai)(k:Nat):Int:=DB agI (cN agI k) k
theorem o5(agI:List ai):∀k,(cN agI k).length=k
 |0=>rfl
 |k+1=>by unfold cN;rw[aU,o5 agI k];rfl
theorem rg(agI:List ai){m:Nat}:∀k,m<k->(cN agI k).getD m (-1)=me agI m
 |0,h=>absurd h (dG m)
 |k+1,h=>by
  unfold cN;rw[aR];by_cases e:m<k
  .rw[cF (by rw[o5];exact e), <-aR];exact rg agI k e
  .rw[bM (by rw[o5];omega),o5,(oT:m-k=0),(oT:k=m)];rfl
def xi(agI:List ai)(k:Nat)(e:Int):Prop:=∀m,cx agI k e=some m->me agI m<0
def rr{agI:List ai}{k m:Nat}{f:Int}(g:k<=agI.length)(h:cx agI k f=some m):m<k/\1<=f/\∃e,agI[m]?=some e/\wr e.i=f:=by
 unfold cx at h;split at h
 .cases h
 rename_i q;rw[kD g]at h;obtain⟨a,b⟩:=rl h;exact⟨a,oT,b⟩
section
variable {prog:List Nat}{c d:Co}{s t:St}(h:Lo true c d)(hc:Iv prog c s)(hd:Iv prog d t)(hr:s.r=t.r)
include h hc hd hr
def rm{k:Nat}(p:k<=c.Z.length)(ih:∀m e e',m<k->c.Z[m]?=some e->d.Z[m]?=some e'->ik e->me c.Z m<0->wr e.i≠0->e.value=e'.value){i:Int}(w:(lK c.Z c.r k i).isSome=true)(C:xi c.Z k i):(bz prog s (c.Z.take k)).r i.toNat=(bz prog t (d.Z.take k)).r i.toNat:=by
 have o:=w;rw[nc h.Z c.r d.r]at o;obtain⟨v,g⟩:=FH.1 w;obtain⟨E,f⟩:=FH.1 o;have A:v=(bz prog s (c.Z.take k)).r i.toNat:=by rw[hc.r]at g;exact m0 hc.ri.ok hc.z p g
 have B:E=(bz prog t (d.Z.take k)).r i.toNat:=by rw[hd.r]at f;exact m0 hd.ri.ok hd.z (by rw[<-je h.Z];exact p) f
 rw[<-A, <-B];unfold lK at g f;by_cases y:i=0
 .rw[aa y]at g f;injection g with g;injection f with f;omega
 rw[dZ y]at g f;by_cases z:i<0\/i>31
 .rw[aa z]at g;cases g
 rw[dZ z]at g f;rw[<-m' h.Z]at f
 cases n:cx c.Z k i with
 |none=>
  rw[n]at g f;injection g with g;injection f with f
  rw[<-g, <-f,hc.r,hd.r,hr]
 | some m=>
  rw[n]at g f;dsimp only at g f;obtain⟨u,D,e,l,F⟩:=rr p n;rcases ia h.Z m with ⟨a,b⟩|⟨x,e',a,b,q⟩
  .rw[l]at a;cases a
  .rw[l]at a;injection a with a;subst a;rw[l]at g;rw[b]at f;dsimp only at g f;have q:=hz q;by_cases j:e.is=3/\e.halt=0
   .rw[aa j]at g;rw[q.is,q.halt]at j;rw[aa j]at f;injection g with g;injection f with f;rw[<-g, <-f];rw[<-q.is, <-q.halt]at j;exact ih m e e' u l b j (C m n) ad
   .rw[dZ j]at g;cases g
def Q'(K:s.mem.size=t.mem.size)(rc:cj c.Z c.r)(D:∀(k:Nat) e,c.Z[k]?=some e->aj e.i.op=3->k<=Cq c.Z->(bx prog (bz prog s (c.Z.take k)) e).2.value=(bx prog (bz prog t (d.Z.take k)) e).2.value):∀(k:Nat) e e',c.Z[k]?=some e->d.Z[k]?=some e'->ik e->me c.Z k<0->wr e.i≠0->e.value=e'.value:=by
 intro k
 induction k using Nat.strongRecOn with
 | ind k ih=>
  intro e e' i w g f p;rcases ia h.Z k with ⟨a,b⟩|⟨x,v,a,b,q⟩
  .rw[i]at a;cases a
  rw[i]at a;injection a with a;subst a;rw[w]at b;injection b with b;subst b;have q:=hz q;have y:=jd hc.ri.ok i;have C:=jd hd.ri.ok w;obtain⟨A,_⟩:=Em.1 i;have t1:=y.told (.inr g.1);have t2:=C.told (.inr (q.is ▸ g.1));have N:=(qt g.2 p).2.2;have O:=(qt (e:=e') (q.halt ▸ g.2) (q.i ▸ p)).2.2;rw[<-N, <-O,t1,t2,m3 prog _ (show e'.M=e.M from q.M.symm)];by_cases u:aj e.i.op=3
  .refine D k e i u ?_;unfold me DB at f;rw[i]at f;dsimp only at f;rw[dZ ad]at f;by_cases I:k>Cq c.Z
   .rw[aa I]at f;omega
   .omega
  .have G:aj e.i.op≠4:=λq=>p (vt q);have H:fv prog e.M:=dw λq=>by
    have:=(y.ZC q).2;rw[this]at p;exact p R
   have z:=y.ins H;obtain⟨L,M⟩:=rc k e i u G (.inr g.1) (.inl g.2);have o:∀l,(l=e.i.y\/l=e.i.A)->xi c.Z k l:=λl B m n=>by
    obtain⟨j,_,_⟩:=rr (Nat.le_of_lt A) n;have J:=rg c.Z k j;unfold me DB at f;rw[i]at f;dsimp only at f;rw[aa u]at f;have:sZ (cN c.Z k) (some m)<0:=by
     rcases B with rfl|rfl
     .rw[n]at f;omega
     .rw[n]at f;omega
    unfold sZ at this;dsimp only at this
    rwa [J]at this
   have E:=rm h hc hd hr (Nat.le_of_lt A) (λm x v j=>ih m j x v) L (o _ (.inl R));have F:=rm h hc hd hr (Nat.le_of_lt A) (λm x v j=>ih m j x v) M (o _ (.inr R));exact am Sp.value (rf (by rw[<-z];exact E) (by rw[<-z];exact F) (by rw[kf,kf];exact K) (by rw[<-z];exact u))
end
def Ra{prog:List Nat}{T:St}{e:ai}(h:ea prog T e)(f:e.is=0):fv prog e.M:=dw λq=>by have:=(h.ZC q).1;omega
def xc{c:Co}{i:Nat}{e:ai}(f:c.Z[i]?=some e)(h:fl c i=true):(aj e.i.op=3/\e.known=true)\/Pr c.Q.mode c.Z i=true:=by
 unfold fl at h;rw[f]at h;dsimp only at h;split at h
 .cases h
 split at h
 .rename_i k;rw[dE,aP]at h;exact h.imp (λq=>⟨k,q⟩) (·.2)
 split at h
 .rw[aP]at h;exact .inr h.2
 rw[aP]at h;exact .inr h.2
def wx{prog:List Nat}{S T:St}{e e':ai}{nx:Bool}(q:iq nx e e')(h:ea prog S e)(h':ea prog T e')(g:e.known=true)(f:aj e.i.op=3\/aj e.i.op=4):(S.r e.i.y.toNat+e.i.C)%4294967296=(T.r e.i.y.toNat+e.i.C)%4294967296:=by
 have a:=(h.ZL g f).1;have b:=(h'.ZL (q.known ▸ g) (q.i ▸ f)).1;rw[<-q.W, <-q.i]at b;exact a.symm.trans b
def P2{prog:List Nat}{c d:Co}{s t:St}(h:Lo true c d)(hc:Iv prog c s)(hd:Iv prog d t)(hr:s.r=t.r)(G:s.mem.size=t.mem.size)(rc:cj c.Z c.r)(E:∀(k:Nat) e,c.Z[k]?=some e->aj e.i.op=3->k<=Cq c.Z->(bx prog (bz prog s (c.Z.take k)) e).2.value=(bx prog (bz prog t (d.Z.take k)) e).2.value)(v:c.Q.mode=1){i:Nat}(o:fl c i=true){e:ai}(l:c.Z[i]?=some e):W4 true e (bz prog s (c.Z.take i)) (bz prog t (d.Z.take i)):=by
 rcases ia h.Z i with ⟨a,b⟩|⟨x,e',a,C,q⟩
 .rw[l]at a;cases a
 rw[l]at a;injection a with a;subst a;have q:=hz q;obtain⟨D,_⟩:=Em.1 l;obtain⟨N,J,r4,K⟩:=l0 o e l;have F:=Q' h hc hd hr G rc E;have n:∀f,(lK c.Z c.r i f).isSome=true->IC c.Z i f=false->(bz prog s (c.Z.take i)).r f.toNat=(bz prog t (d.Z.take i)).r f.toNat:=λf B j=>by
  refine rm h hc hd hr (Nat.le_of_lt D) (λm x L _=>F m x L) B λm y=>?_;obtain⟨M,_,_⟩:=rr (Nat.le_of_lt D) y;unfold IC jo at j;rw[y]at j;dsimp only at j;rw[rg c.Z _ ad,mA]at j;omega
 have g:DC e=true-> ¬(aj e.i.op=3/\e.known=true)->∀f∈qD e,IC c.Z i f=false:=λj w f A=>by
  have:=(xc l o).resolve_left w;unfold Pr at this;rw[l]at this;dsimp only at this;rw[dZ (by rw[j];decide),dZ ad,aa v,rC]at this;simpa using this f A
 refine⟨λu=>?_,λO=>?_,λP=>?_⟩
 .by_cases p:e.known=true
  .exact wx q (jd hc.ri.ok l) (jd hd.ri.ok C) p u
  have j:=g (by unfold DC;exact jP ad) (λz=>p z.2) e.i.y (by unfold qD;rw[aa u];exact uJ.2 R);have B:(lK c.Z c.r i e.i.y).isSome=true:=by
   rcases u with k|k
   .exact(J k).resolve_left p
   exact r4 k
  rw[n _ B j]
 all_goals
  have w:DC e=true:=by unfold DC;exact jP ad
  obtain⟨s1,s2⟩:=K ad ad;have H:=g w ad e.i.y (by unfold qD;rw[dZ ad];simp);have I:=g w ad e.i.A (by unfold qD;rw[dZ ad];simp);rw[n _ s1 H,n _ s2 I]
 exact⟨Iff.rfl,λ_ _=>rfl⟩
theorem nf(prog:List Nat)(s:St)(a:Nat):∀b,bf prog (bf prog s a) b=bf prog s (a+b)
 |0=>rfl
 |b+1=>by show(gE prog (bf prog (bf prog s a) b)).1=(gE prog (bf prog s (a+b))).1;rw[nf prog s a b]
def oy{prog:List Nat}{c:Co}{m:ByteArray}{K:Nat}(hc:Iv prog c (bf prog (a3 m) K))(o:NW c.Z)(l:c.halt=0){i:Nat}{e:ai}(j:c.Z[i]?=some e)(k:i<=Cq c.Z):(bf prog (a3 m) (K+i)).halt=0/\gE prog (bf prog (a3 m) (K+i))=bx prog (bz prog (bf prog (a3 m) K) (c.Z.take i)) e:=by
 obtain⟨n,_⟩:=Em.1 j;obtain⟨x,f,g⟩:=P9 hc o l i k n;rw[j]at f;injection f with f;subst f;rw[nf]at g;rw[g];exact⟨R,R⟩
def O6{prog:List Nat}{c d:Co}{m w:ByteArray}{ld:Bool}{F K:Nat}{nx:Bool}(I:lc prog m w ld F)(h:Lo true c d)(hc:Iv prog c (bf prog (a3 m) K))(hd:Iv prog d (bf prog (a3 w) K))(hw:NW c.Z)(N:NW d.Z)(M:c.halt=0)(A:c.Q.mode=2){i:Nat}(n:fl c i=true){e:ai}(j:c.Z[i]?=some e)(Y:K+i<F)(J:nx=true->K+i+1<F):W4 nx e (bz prog (bf prog (a3 m) K) (c.Z.take i)) (bz prog (bf prog (a3 w) K) (d.Z.take i)):=by
 rcases ia h.Z i with ⟨a,b⟩|⟨x,e',a,C,q⟩
 .rw[j]at a;cases a
 rw[j]at a;injection a with a;subst a;have q:=hz q;obtain⟨X,_,_,_⟩:=l0 n e j;have E:=jd hc.ri.ok j;have g:=Ra E X;have l:=E.ins g;have k:DC e=true-> ¬(aj e.i.op=3/\e.known=true)->i<=Cq c.Z:=λZ p=>by
  have:=(xc j n).resolve_left p;unfold Pr at this;rw[j]at this;dsimp only at this;rw[dZ (by rw[Z];decide),dZ ad,dZ ad,aa A]at this;unfold vC at this;simp only[aP,aY]at this;exact this.2
 have o:i<=Cq c.Z->bu ld (bx prog (bz prog (bf prog (a3 m) K) (c.Z.take i)) e).2=bu ld (bx prog (bz prog (bf prog (a3 w) K) (d.Z.take i)) e).2/\(nx=true->(bx prog (bz prog (bf prog (a3 m) K) (c.Z.take i)) e).2.halt=0->(bx prog (bz prog (bf prog (a3 m) K) (c.Z.take i)) e).2.next=(bx prog (bz prog (bf prog (a3 w) K) (d.Z.take i)) e).2.next):=λL=>by
  obtain⟨G,T⟩:=oy hc hw M j L;obtain⟨U,H⟩:=oy hd N (by rw[<-h.halt];exact M) C (by rw[<-N1 h.Z];exact L);rw[m3 prog _ (show e'.M=e.M from q.M.symm)]at H;have f:=I.ev (K+i) Y G;rw[<-T, <-H];refine⟨f,λp B=>?_⟩;have O:(gE prog (bf prog (a3 w) (K+i))).2.halt=0:=by
   have:=am cn.halt f;have this:(gE prog (bf prog (a3 m) (K+i))).2.halt=(gE prog (bf prog (a3 w) (K+i))).2.halt:=this;rw[<-this];exact B
  obtain⟨S,x2⟩:=(ii prog G).run B;obtain⟨y1,y2⟩:=(ii prog U).run O;have y:=am cn.M (I.ev (K+i+1) (J p) S);have y:(gE prog (bf prog (a3 m) (K+i+1))).2.M=(gE prog (bf prog (a3 w) (K+i+1))).2.M:=y;rw[(ii prog (s:=bf prog (a3 m) (K+i+1)) S).M,(ii prog (s:=bf prog (a3 w) (K+i+1)) y1).M]at y;rw[<-x2, <-y2];exact y
 refine⟨λv=>?_,λP=>?_,λQ=>?_⟩
 .by_cases D:e.known=true
  .exact wx q E (jd hd.ri.ok C) D v
  have f:=am cn.W (o (k (by unfold DC;exact jP ad) (λz=>D z.2))).1;have f:(bx prog _ e).2.W=(bx prog _ e).2.W:=f;rw[wu g l v,wu g l v]at f;exact f
 .have f:=am cn.d (o (k (by unfold DC;exact jP ad) ad)).1;have f:(bx prog _ e).2.d=(bx prog _ e).2.d:=f;rw[wv g l P,wv g l P]at f;exact Int.ofNat.inj f
 obtain⟨f1,f2⟩:=o (k (by unfold DC;exact jP ad) ad);have f:=am cn.halt f1;have f:(bx prog _ e).2.halt=(bx prog _ e).2.halt:=f;obtain⟨g1,g2⟩:=we (T:=bz prog (bf prog (a3 m) K) (c.Z.take i)) g l Q;obtain⟨V,W⟩:=we (T:=bz prog (bf prog (a3 w) K) (d.Z.take i)) g l Q;refine⟨by rw[<-g1, <-V,f],λp B=>?_⟩;have u:=g1.2 B;rw[<-g2 u, <-W (by rw[<-f];exact u)];exact f2 p u
theorem Lo.Zd{nx:Bool}{c d:Co}(h:Lo true c d):Lo nx c d:=by
 have k:∀l:List ai,l.map (bq nx)=(l.map (bq true)).map (bq nx):=λl=>by
  rw[List.map_map];exact iB λe _=>by cases nx<;>rfl
 exact {h with Z:=by rw[k c.Z,h.Z, <-k]}
theorem xf:∀(n:Nat) {c:Co},NW c.Z->NW (c5 n c).Z
 |0,_,h=>h
 | n+1,c,h=>by
  unfold c5;split
  .exact h
  split
  .rename_i hr;rw[hr]at h;exact hr ▸ h
  .rename_i e l hr;split
   .exact h
   split
   .intro x f;cases f
   split
   .exact h
   .exact xf n λx f=>h x (by rw[hr];exact bY _ f)
theorem w2:∀(n:Nat) (c:Co),(c5 n c).Z.length<=c.Z.length/\(c5 n c).Q=c.Q
 |0,_=>⟨aC _,R⟩
 | n +1,c=>by
  unfold c5;split
  .exact⟨aC _,R⟩
  split
  .exact⟨aC _,R⟩
  .rename_i e l hr;split
   .exact⟨aC _,R⟩
   split
   .exact⟨aE _,R⟩
   split
   .exact⟨aC _,R⟩
   .have:=w2 n (io c e (cA e) l);have f:(io c e (cA e) l).Q=c.Q:=by
     show(vG _ _ _).Q=_;unfold vG oK;(repeat' split)<;>rfl
    have g:(io c e (cA e) l).Z=l:=rfl;rw[f,g]at this;exact⟨aL this.1 (by rw[hr];simp),this.2⟩
theorem w3(r:Nat->Nat)(l:List ai):∀n,(b3 r l n).length=l.length
 |0=>rfl
 |n+1=>by
  show(gm r (b3 r l n) n).length=_;rw[<-w3 r l n];unfold gm
  (repeat' split)<;>first|rfl|exact cC ..
def rh(c:Co):(kK c).Z.length<=c.Z.length/\(kK c).Q=c.Q/\(kK c).N=c.N:=by
 have i:(b5 c).length=c.Z.length:=by unfold b5;rw[w3,aH]
 unfold kK;split
 .exact⟨aC _,R,R⟩
 split
 .refine⟨?_,R,R⟩;show(DY (b5 c) _).length<=_;unfold DY;split
  .rename_i e f;obtain⟨g,_⟩:=Em.1 f;rw[aU,aM];simp;omega
  omega
 exact⟨by show(b5 c).length<=_;omega,R,R⟩
def rj(c:Co):(lM c).Z.length=c.Z.length/\(lM c).Q=c.Q/\(lM c).N=c.N:=by
 unfold lM ip oK
 (repeat' split)<;>first|exact⟨rfl,rfl,rfl⟩|exact⟨aH ..,rfl,rfl⟩
theorem o6{prog:List Nat}:∀{l:List Sp} {s t:St},lx prog s l t->t=bf prog s l.length
 |[],s,t,h=>h
 |x::l,s,t,h=>by rw[o6 h.2.2];exact Sj prog s l.length
structure xu(prog:List Nat)(c:Co)(m:ByteArray)(K:Nat):Prop where
 iv:Iv prog (s3 c) (bf prog (a3 m) K)
 mc:(s3 c).mc
 nw:NW (s3 c).Z
 ret:(s3 c).N.length=K
def xg{prog:List Nat}{c:Co}{m:ByteArray}{K n:Nat}(h:Iv prog c (bf prog (a3 m) K))(A:c.E n)(z:n+20<=890000)(j:c.mc)(y:c.N.length=K):∃f,K<=f/\f<=K+c.Q.o.toNat/\xu prog c m f:=by
 have e:=Ql A z;have B:Iv prog (s0 c) (bf prog (a3 m) K):=h.same R R R R R R R R h.ri;have g:(s0 c).mc:=fc j R R R;have w:(s1 c).mc:=(ou g e.k0.ok.Z_).mc;have C:Iv prog (s1 c) (bf prog (a3 m) K):=B.Zu g e.k0.ok.Z_;have i:(s2 c).mc:=by
  show(kK (s1 c)).mc;unfold kK
  repeat' split
  all_goals exact fc w R R R
 obtain⟨D,o⟩:Iv prog (s2 c) (bf prog (a3 m) K)/\NW (s2 c).Z:=C.Zt;have x:(s3 c).mc:=ov _ _ e.k2.ok.Z6 i;obtain⟨l,t,p,u,v,k⟩:=D.Y6 (s2 c).Q.o.toNat o i e.k2.ok.Z6;have hc:(s2 c).Q=c.Q:=(rh (s1 c)).2.1.trans (rj (s0 c)).2.1;have hr:(s2 c).N=c.N:=(rh (s1 c)).2.2.trans (rj (s0 c)).2.2;refine⟨K+l.length,Nat.le_add_right _ _,by rw[hc]at u;omega,?_,x,xf _ o,?_⟩
 .rw[o6 v,nf]at k;exact k
 show(c5 _ (s2 c)).N.length=_;rw[p,aU,hr,y]
def R'(c:Co):(s3 c).Z.length<=c.Z.length/\(s3 c).Q=c.Q:=by
 have a:=w2 (s2 c).Q.o.toNat (s2 c);have b:=rh (s1 c);have d:=rj (s0 c);exact⟨aL a.1 (aL b.1 (Nat.le_of_eq d.1)),a.2.trans (b.2.1.trans d.2.1)⟩
def xh{c:Co}(h:cj c.Z c.r):cj (s3 c).Z (s3 c).r:=cj.Y6 _ (cj.Zt (cj.Zu (c:=s0 c) h))
def S1{c d:Co}(h:Lo true c d):Lo true (s3 c) (s3 d):=by
 have e:Lo true (s0 c) (s0 d):={h with Z3:=am (λz=>wrap64 (z+1)) h.Z3};exact e.Zu.Zt.YY
def N7{prog:List Nat}{c:Co}{s:St}(h:cj c.Z c.r)(m:Iv prog (s3 c) s)(o:(s3 c).mc):cj (g6 c).Z (g6 c).r:=by
 have j:cj (e6 c).Z (e6 c).r:=((xh h).ZF m o).enters;have f:(e7 c).Z=(e6 c).Z:=by
  have:∀(n:Nat) (c:Co),(ed n c).Z=c.Z:=by
   intro n
   induction n with
   |zero=>intro c;rfl
   |succ n ih=>
    intro c;unfold ed;split
    .rfl
    split
    .rfl
    split
    .split<;>rfl
    .rw[ih];unfold dM;(repeat' split)<;>rfl
  show(eN (e6 c)).Z=_;unfold eN;split
  .rfl
  .exact this _ _
 have g:(g6 c).Z=(e7 c).Z:=by
  show(tY (e7 c)).Z=_;have i:∀c:Co,(ec c).Z=c.Z:=λc=>by unfold ec pE;(repeat' split)<;>rfl
  unfold tY
  (repeat' split)<;>rw[i]<;>first|rfl|(unfold f_;(repeat' split)<;>rfl)
 rw[g,f];exact j.Zw (aC _) λk e l=>⟨e,l,R,id,λ_ _ a b=>.inl ⟨a,b⟩⟩
def Rc{prog:List Nat}{m w:ByteArray}{ld:Bool}{F K n:Nat}{c d:Co}(nx:Bool)(o:lc prog m w ld F)(p:c.Q.mode=1/\ld=true\/c.Q.mode=2)(h:Lo true c d)(hc:Iv prog c (bf prog (a3 m) K))(hd:Iv prog d (bf prog (a3 w) K))(rc:cj c.Z c.r)(T:c.mc)(U:d.mc)(V:c.E n)(W:d.E n)(H:n+20<=890000)(B:c.N.length=K)(hb:K+c.Q.o.toNat+c.Z.length<=F)(D:nx=true->K+c.Q.o.toNat+c.Z.length<F):Lo nx (g6 c) (g6 d)/\cj (g6 c).Z (g6 c).r:=by
 obtain⟨L,k1,k2,M⟩:=xg hc V H T B;obtain⟨v,_,_,N⟩:=xg hd W H U ((je h.ret).symm.trans B);have g:=S1 h;have C:v=L:=by rw[<-M.ret, <-N.ret,je g.ret]
 subst C;obtain⟨l1,J⟩:=R' c;refine⟨?_,N7 rc M.iv M.mc⟩
 suffices Q:Lo nx (gY (s3 c)) (gY (s3 d))from Q.enters.Zo.Zj
 have G:∀i,fl (s3 c) i=true->∀e,(s3 c).Z[i]?=some e->(s3 c).halt=0/\i<c.Z.length:=λi _ e j=>by
  obtain⟨z,_⟩:=Em.1 j;refine⟨dw λq=>?_,oT⟩;rw[M.iv.hl q]at z;exact absurd z (dG _)
 rcases p with ⟨hmo,rfl⟩|hmo
 .refine Lo.Zd (g.ZF M.iv N.iv M.mc N.mc λi f e j=>?_);obtain⟨l,S⟩:=G i f e j;refine P2 g M.iv N.iv (oI o v ad).1 (by rw[o4,o4];exact o.j) (xh rc) (λk x u Y E=>?_) (J ▸ hmo) f j;obtain⟨O,P⟩:=oy M.iv M.nw l u E;rcases ia g.Z k with ⟨a,b⟩|⟨y,X,a,I,q⟩
  .rw[u]at a;cases a
  rw[u]at a;injection a with a;subst a;have q:=hz q;obtain⟨Z,A⟩:=oy N.iv N.nw (by rw[<-g.halt];exact l) I (by rw[<-N1 g.Z];exact E);rw[m3 prog _ (show X.M=x.M from q.M.symm)]at A;obtain⟨z,_⟩:=Em.1 u;rw[<-P, <-A,(oI o (v+k) ad).2 ad O]
 refine Lo.ZF g.Zd M.iv N.iv M.mc N.mc λi f e j=>?_;obtain⟨l,S⟩:=G i f e j;exact O6 o g M.iv N.iv M.nw N.nw l (J ▸ hmo) f j ad (λq=>by have:=D q;omega)
def RY{nx:Bool}{c d:Co}(h:Lo nx c d)(k:Nat):lF c (k:Int)=lF d (k:Int):=by
 have e:∀l:List bp,l.map ky=(l.map ew).map ky:=λl=>by rw[List.map_map];rfl
 have f:∀l:List Sp,l.map (·.M)=(l.map rb).map (·.M):=λl=>by rw[List.map_map];rfl
 unfold lF;rw[P4 h.data,h.u,e,h.U, <-e,f,kM,h.ret, <-kM, <-f]
structure nm(prog:List Nat)(m w:ByteArray)(X Y:Co)(j K:Nat):Prop where
 lo:Lo true (uN X j) (uN Y j)
 YA:cj (uN X j).Z (uN X j).r
 ret:(uN X j).N.length=K
 iv:Iv prog (uN X j) (bf prog (a3 m) K)
 iw:Iv prog (uN Y j) (bf prog (a3 w) K)
def SA{X:Co}{k:Nat}(h:ib X k):((uN X k).Z.length:Int)<=X.Q.Z:=by
 have:=h.rt;unfold jF at this;simp only[aP,aY]at this;rw[h.bd.Q]at this;exact this.1.1.1.1.1.1.1.2
def v5{prog:List Nat}{m w:ByteArray}{X Y:Co}{ld:Bool}{F j K:Nat}(nx:Bool)(f:∀k,k<=3000->ib X k)(i:∀k,k<=3000->ib Y k)(p:X.mc)(u:Y.mc)(o:lc prog m w ld F)(e:X.Q.mode=1/\ld=true\/X.Q.mode=2)(x:j<3000)(h:nm prog m w X Y j K)(v:K+X.Q.o.toNat+X.Q.Z.toNat<=F)(n:nx=true->K+X.Q.o.toNat+X.Q.Z.toNat<F):Lo nx (uN X (j+1)) (uN Y (j+1))/\cj (uN X (j+1)).Z (uN X (j+1)).r:=by
 have g:=f j ad;have l:=i j ad;have hr:=SA g;rw[show uN X (j+1)=g6 (uN X j)from aa g.rt,show uN Y (j+1)=g6 (uN Y j)from aa l.rt];exact Rc nx o (by rw[g.bd.Q];exact e) h.lo h.iv h.iw h.YA (oj f p j ad) (oj i u j ad) (EL g.ok ad g.rt) (EL l.ok ad l.rt) ad h.ret (by rw[g.bd.Q];omega) (λq=>by have:=n q;rw[g.bd.Q];omega)
def RZ{prog:List Nat}{m w:ByteArray}{X Y:Co}{ld:Bool}{N:Nat}(e:∀k,k<=3000->ib X k)(n:∀k,k<=3000->ib Y k)(z:X.mc)(A:Y.mc)(f:X.prog=prog)(g:Y.prog=prog)(S:1<=X.Q.o.toNat)(G:lc prog m w ld (X.Q.o.toNat*N+X.Q.Z.toNat))(i:X.Q.mode=1/\ld=true\/X.Q.mode=2)(P:N<=2000)(p:nm prog m w X Y 0 0):∀j,j<N->∃K,K<=X.Q.o.toNat*j/\nm prog m w X Y j K:=by
 intro j
 induction j with
 |zero=>exact λ_=>⟨0,aE _,p⟩
 |succ j ih=>
  intro Q;obtain⟨K,O,h⟩:=ih ad;have I:X.Q.o.toNat*(j+2)<=X.Q.o.toNat*N:=Nat.mul_le_mul_left _ ad;rw[Nat.mul_add]at I;obtain⟨D,L⟩:=v5 true e n z A G i ad h ad (λ_=>by omega);have x:Iv X.prog X (a3 m):=by rw[f];exact p.iv
  have y:Iv Y.prog Y (a3 w):=by rw[g];exact p.iw
  have J:=h.iv;have B:=h.iw;obtain⟨l,u,E,F,v,o⟩:=Iv.run e x z j ad _ (by rw[f];exact J);obtain⟨C,U,f1,f2,f3,f4⟩:=Iv.run n y A j ad _ (by rw[g];exact B);rw[f]at v o;rw[g]at f3 f4;have hc:(uN X j).Q=X.Q:=(e j ad).bd.Q;rw[hc]at F;have M:(uN X (j+1)).N.length=K+l.length:=by rw[E,aU,h.ret]
  have T:(uN Y (j+1)).N.length=K+C.length:=by rw[f1,aU, <-je h.lo.ret,h.ret]
  have H:C.length=l.length:=oH (je D.ret);refine⟨K+l.length,by rw[Nat.mul_succ];omega,D,L,M,?_,?_⟩
  .rw[o6 v,nf]at o;exact o
  .rw[o6 f3,nf,H]at f4;exact f4
def rp{prog:List Nat}{m w:ByteArray}{X Y:Co}{ld:Bool}{N:Nat}(g:∀k,k<=3000->ib X k)(i:∀k,k<=3000->ib Y k)(n:X.mc)(o:Y.mc)(u:X.prog=prog)(v:Y.prog=prog)(A:1<=X.Q.o.toNat)(l:lc prog m w ld (X.Q.o.toNat*N+X.Q.Z.toNat))(f:X.Q.mode=1/\ld=true\/X.Q.mode=2)(y:N<=2000)(x:nm prog m w X Y 0 0):fQ X N=fQ Y N:=by
 unfold fQ;refine iB λj p=>?_;rw[lI]at p;obtain⟨K,C,h⟩:=RZ g i n o u v A l f y x j p;have z:X.Q.o.toNat*(j+1)<=X.Q.o.toNat*N:=Nat.mul_le_mul_left _ ad;rw[Nat.mul_succ]at z;obtain⟨B,_⟩:=v5 false g i n o l f ad h ad (λq=>by cases q);unfold tC;have e:=je h.lo.ret;rw[show uG (uN X j)=uN X (j+1)from R,show uG (uN Y j)=uN Y (j+1)from R, <-e];exact RY B _
def S0{cf:Cf}{prog:List Nat}{m w:ByteArray}(h:(jB m).size=(jB w).size):Lo true (fX cf prog m) (fX cf prog w):=⟨R,R,R,R,R,R,R,R,R,R,R,R,R,R,R,R,h,R⟩
open Go.Proofs.Tryz
open Go.RowKit
theorem Hc:∀(l:List e_) (k:Nat),uI l l k= -1
 |[],_=>rfl
 |x::l,k=>by simp only[uI,Mo,fD,Hc l]
def F4(prog:List Nat):(Bj prog).take (min (Bj prog).length 64)=Bj prog:=aN (by unfold Bj;rw[aM];omega)
def O7{cf:Cf}{prog:List Nat}{m w:ByteArray}{ld:Bool}{N:Nat}(hc:cf.ok)(hp:∀x∈Bj prog,x<=4294967295)(J:N<=250)(g:(bZ cf).mode=1/\ld=true\/(bZ cf).mode=2)(h:Vf (CJ (Bj prog) m (yM cf (N:Nat)) ld) (CJ (Bj prog) w (yM cf (N:Nat)) ld) (yM cf (N:Nat)) (jB m).size (jB w).size=true):uI (fQ (fX cf (Bj prog) m) N) (fQ (fX cf (Bj prog) w) N) 0= -1:=by
 have H:=Sd cf (N:Nat);have I:=Se cf;have n:=R9 (by unfold yM;omega) h;have base:∀m:ByteArray,(∀k,k<=3000->ib (fX cf (Bj prog) m) k)/\(fX cf (Bj prog) m).mc/\(fX cf (Bj prog) m).prog=Bj prog/\Iv (Bj prog) (fX cf (Bj prog) m) (a3 m):=λm=>by
  obtain⟨X,f⟩:∃X,X=fX cf (Bj prog) m:=⟨_,R⟩;have j:X.ok 0:=f ▸ Id cf _ _ hc hp;have o:0<=X.Q.Z/\0<=X.Q.queue:=by rw[f];exact H6 cf
  have l:jF X=true:=f ▸ HS _ _ _ (f ▸ j);have i:X.prog=Bj prog:=by rw[f];exact F4 prog
  have hI:Iv X.prog X (a3 m):=by subst f;exact Iv.new _ _ _
  rw[i]at hI;rw[<-f];exact⟨vz (J2 cf (Bj prog) m hc hp X f l) o,by subst f;exact J1 _ _ _ (EL j ad l),i,hI⟩
 obtain⟨z,A,B,C⟩:=base m;obtain⟨D,E,F,G⟩:=base w;have y:1<=(bZ cf).o/\(bZ cf).o<=2:=NS cf.o 1 2 dT;have p:(yM cf (N:Nat)).toNat=(fX cf (Bj prog) m).Q.o.toNat*N+(fX cf (Bj prog) m).Q.Z.toNat:=by
  show _=(bZ cf).o.toNat*N+(bZ cf).Z.toNat;obtain⟨W,u⟩:∃W:Nat,(bZ cf).o=(W:Int):=⟨_,(lU ad).symm⟩;unfold yM;rw[u,(oT:min (max (N:Int) 0) 2000=(N:Int)),Int.toNat_natCast, <-Int.natCast_mul];omega
 rw[p]at n;have e:=rp z D A E B F (by show 1<=(bZ cf).o.toNat;omega) n g ad ⟨S0 n.j,λk e v=>(by cases v),R,C,G⟩;rw[e];exact Hc _ _
structure iu(A:Nat)(m w:ByteArray):Prop where
 size:w.size=m.size
 eq:∀j,j≠A->w.data.toList[j]?=m.data.toList[j]?
def OF{a b:ByteArray}(h:∀i:Nat,a.data.toList[i]?=b.data.toList[i]?):a=b:=by
 obtain⟨a⟩:=a;obtain⟨b⟩:=b;exact am ByteArray.mk (Array.toList_inj.1 (dD h))
theorem iu.read{A:Nat}{m w:ByteArray}(h:iu A m w){a n:Nat}(f: ¬(a<=A/\A<a+n)):Cv w a n=Cv m a n:=by
 refine OF λi=>?_;unfold Cv;rw[ByteArray.data_extract,ByteArray.data_extract,nY,nY];simp only[List.extract_eq_take_drop,cU,cL];split
 .exact h.eq _ λe=>f ad
 rfl
theorem iu.write{A:Nat}{m w:ByteArray}(h:iu A m w){a:Nat}{b:ByteArray}(hr:a+b.size<=m.size):iu A (DD m a b) (DD w a b):=by
 have e:∀x:ByteArray,x.data.toList.length=x.size:=λx=>by simp
 have f:∀x:ByteArray,x.size=m.size->(DD x a b).size=m.size:=λx l=>by
  rw[<-e];simp only[DD,aU,aM,bD,e];omega
 have g:∀x:ByteArray,x.size=m.size->∀j,(DD x a b).data.toList[j]?=if j<a then x.data.toList[j]? else if j<a+b.size then b.data.toList[j-a]? else x.data.toList[j]? :=λx l j=>by
  have n:(x.data.toList.take a).length=a:=by rw[aM,e];omega
  rw[show(DD x a b).data.toList=x.data.toList.take a++(b.data.toList++x.data.toList.drop (a+b.size)) by simp[DD]];by_cases q:j<a
  .rw[aa q,cF ad,cU,aa q]
  rw[dZ q,bM ad,n];by_cases i:j<a+b.size
  .rw[aa i,cF (by rw[e];omega)]
  rw[dZ i,bM (by rw[e];omega),cL,e];congr 1;omega
 exact⟨by rw[f _ h.size,f _ R],λj k=>by rw[g _ h.size,g _ R,h.eq j k]⟩
def ka(A:Nat)(x:Sp):Prop:=0<x.size/\x.store=false/\wrap64 (x.W:Int)<=(A:Int)/\(A:Int)<wrap64 (wrap64 (x.W:Int)+x.size)
def T'{A a n:Nat}{x:Sp}(f:x.W=a)(g:x.size=(n:Int))(i:x.store=false)(j:a<4294967296)(k:0<n/\n<=4)(h:a<=A/\A<a+n):ka A x:=by
 have e:wrap64 (a:Int)=a:=by unfold wrap64;omega
 refine⟨oT,i,?_,?_⟩<;>rw[f,e]
 .omega
 rw[g];unfold wrap64;omega
def N8{prog:List Nat}{s:St}{m:ByteArray}{A:Nat}(h:iu A s.mem m)(f: ¬ka A (gE prog s).2):∃w,gE prog {s with mem:=m}=({ (gE prog s).1 with mem:=w},(gE prog s).2)/\iu A (gE prog s).1.mem w:=by
 have e:gE prog {s with mem:=m}=(if s.halt=0 then(if(es prog s.M).isSome=true then(if dq (a8 prog s.M)=0 then Gc {s with mem:=m} 2 0 else dj {s with mem:=m} (rA prog s))else Gc {s with mem:=m} 1 0)else({s with mem:=m},D1)):=rfl;have v:∀i a b nx tk,∃w,IJ {s with mem:=m} i a b nx tk=({ (IJ s i a b nx tk).1 with mem:=w},(IJ s i a b nx tk).2)/\iu A (IJ s i a b nx tk).1.mem w:=λi a b nx tk=>by
  unfold IJ;split<;>exact⟨m,R,h⟩
 rw[e];unfold gE at f⊢;by_cases j:s.halt=0
 .rw [aa j]at f⊢;rw[aa j];by_cases k:(es prog s.M).isSome=true
  .rw [aa k]at f⊢;rw[aa k];by_cases l:dq (a8 prog s.M)=0
   .rw[aa l,aa l];exact⟨m,R,h⟩
   rw [dZ l]at f⊢;rw[dZ l];unfold dj at f⊢;by_cases n:(rA prog s).op=47
   .rw[aa n,aa n];exact⟨m,R,h⟩
   rw [dZ n]at f⊢;rw[dZ n];by_cases o:(rA prog s).op=48
   .rw[aa o,aa o];exact⟨m,R,h⟩
   rw [dZ o]at f⊢;rw[dZ o];by_cases p:aj (rA prog s).op=3\/aj (rA prog s).op=4
   .rw [aa p]at f⊢;rw[aa p];dsimp only at f⊢;generalize rA prog s=i at f⊢;generalize s.r i.y.toNat=a at f⊢;generalize s.r i.A.toNat=b at f⊢;unfold sN at f⊢;dsimp only at f⊢;rw[h.size];by_cases hr:kZ (s.mem.size:Int) (fa i a) (bh i.op:Nat)=true
    .rw[aa hr]at f⊢;rw[aa hr];have x:=sQ hr;by_cases g:aj i.op=4
     .rw[aa g,aa g];exact⟨_,R,h.write (by rw[mP];exact x.1)⟩
     rw[dZ g]at f⊢;rw[dZ g];by_cases u:wr i=0
     .rw[aa u,aa u];exact⟨m,R,h⟩
     rw[dZ u]at f⊢;rw[dZ u];rw[h.read λq=>f (T' R R (sU g) (aQ _ dT) x.2 q)];exact⟨m,R,h⟩
    rw[dZ hr,dZ hr];exact⟨m,R,h⟩
   rw[dZ p,dZ p];unfold oN;dsimp only;split
   .split
    .exact v ..
    exact⟨m,R,h⟩
   exact v ..
  rw[dZ k,dZ k];exact⟨m,R,h⟩
 rw[dZ j,dZ j];exact⟨m,R,h⟩
def vr(prog:List Nat)(s:St)(k:Nat):e9 prog s (k+1)=gE prog s::e9 prog (gE prog s).1 k:=by
 unfold e9;rw[List.range_succ_eq_map,jC,List.map_map];exact am (gE prog s:: ·) (iB λk _=>by show gE prog (bf prog s (k+1))=_;rw[Sj])
def vg{prog:List Nat}{n:Nat}{s:St}(h:s.halt=0):cz prog (n+1) s=cz prog n (gE prog s).1+1:=aa h
def wh{prog:List Nat}{n:Nat}{s:St}(h:s.halt≠0):cz prog (n+1) s=0:=dZ h
theorem vh{prog:List Nat}{A:Nat}:∀(n:Nat) (s:St) (m:ByteArray),iu A s.mem m->(∀x∈e9 prog s (cz prog n s), ¬ka A x.2)->(e9 prog {s with mem:=m} (cz prog n {s with mem:=m})).map Prod.snd=(e9 prog s (cz prog n s)).map Prod.snd
 |0,_,_,_,_=>rfl
 | n+1,s,m,h,g=>by
  by_cases f:s.halt=0
  .rw[vg f,vr]at g⊢;rw[vg (s:={s with mem:=m}) f,vr];obtain⟨w,e,i⟩:=N8 h (g _ (dg ..));rw[e,jC,jC];exact am _ (vh n _ w i λx j=>g x (bY _ j))
  .rw[wh f,wh (s:={s with mem:=m}) f];rfl
theorem oz{prog:List Nat}:∀{a b:Nat} {s:St},a<=b->cz prog a s=min a (cz prog b s)
 |0,b,s,_=>by rw[Nat.zero_min];rfl
 |a+1,0,s,h=>absurd h (Nat.not_succ_le_zero a)
 |a+1,b+1,s,h=>by
  have:=oz (prog:=prog) (a:=a) (b:=b) (s:=(gE prog s).1) ad;unfold cz;split<;>omega
def R1{prog:List Nat}{m w:ByteArray}{A:Nat}{F:Int}(ld:Bool)(h:iu A (jB m) (jB w))(g:F<=500)(f:∀x∈(e9 prog (a3 m) (cz prog 500 (a3 m))).map Prod.snd, ¬ka A x):CJ prog w F ld=CJ prog m F ld:=by
 unfold CJ;refine am _ (vh _ (a3 m) (jB w) h λx e=>f _ (List.mem_map_of_mem ?_));rw[oz (b:=500) ad]at e;exact(Yg (eX ..)).subset e
def R2{prog:List Nat}{s:St}{f:Nat}(h:f<=500): ¬(cz prog f s<cz prog 500 s/\cz prog f s<f):=by
 rw[oz h];omega
def q8(m:ByteArray)(A:Nat)(c:UInt8):ByteArray:=⟨(m.data.toList.set A c).toArray⟩
def ix(m:ByteArray)(A:Nat)(c:UInt8):iu A m (q8 m A c):=by
 refine⟨?_,λj f=>?_⟩
 .show(m.data.toList.set A c).toArray.size=m.data.size;simp
 show(m.data.toList.set A c).toArray.toList[j]?=_;rw[List.toList_toArray,kX (λe=>f e.symm)]
def N9{A:Nat}{x:Sp}(h:cE (cE (cE (decide (x.size>0)) (!x.store) false) (decide (wrap64 (x.W:Int)<=(A:Int))) false) (decide ((A:Int)<wrap64 (wrap64 (x.W:Int)+x.size))) false=false): ¬ka A x:=λ⟨a,b,c,d⟩=>by
 rw[jP (show x.size>0 from a),b,jP c,jP d]at h;cases h
def N_{L:List Sp}{k:Nat}{x:Sp}{Q:Sp->Prop}(h:∀y∈L.take k,Q y)(e:L[k]?=some x)(q:Q x):∀y∈L.take (k+1),Q y:=λy hy=>by
 rw[bW,e]at hy;rcases dz.1 hy with hy|hy
 .exact h y hy
 rw[uJ.1 hy];exact q
def G3(prog:List Nat){s:St}(h:s.halt=0):(gE prog s).1.halt=(gE prog s).2.halt:=by
 unfold gE;rw[aa h];unfold dj sN oN IJ Gc
 (repeat' split)<;>first|rfl|exact h
def xj{prog:List Nat}{m:ByteArray}{f:Int}(e:0<f)(g:f<=10000)(h: ¬((cz prog (min f 10000).toNat (a3 m):Nat):Int)>=f):(hv (a3 m) (e9 prog (a3 m) (cz prog (min f 10000).toNat (a3 m)))).halt≠0:=by
 rw[Jj];exact Dj ad
def Vd(prog:List Nat)(m:ByteArray)(f:Int)(ld:Bool)(p:Nat)(i:0<f)(j:f<=10000):Vf (CJ prog m f ld) (CJ prog m f ld) f p p=true:=by
 have k:=xj (prog:=prog) (m:=m) i j;unfold Vf;rw[l_];simp only[ne_eq,not_true_eq_false,eE];have u:(CJ prog m f ld).length=cz prog (min f 10000).toNat (a3 m):=by unfold CJ;rw[aH,aH,lR]
 rw[u];by_cases g:((cz prog (min f 10000).toNat (a3 m):Nat):Int)>=f
 .rw[aa g]
 rw[dZ g];have e:=k g;rw[Jj]at e;unfold CJ;generalize v:cz prog (min f 10000).toNat (a3 m)=C at *;rcases C with _|C
 .exact absurd rfl e
 have l:=G3 prog (Hd (n:=(min f 10000).toNat) (s:=a3 m) (prog:=prog) (k:=C) ad);have n:(e9 prog (a3 m) (C+1))[C]?=some (gE prog (bf prog (a3 m) C)):=by
  rw[<-KW,bM (by rw[lR];exact aC _),lR,eK];rfl
 rw[kB,aX,aX,n];have o:(gE prog (bf prog (a3 m) C)).2.halt≠0:=l ▸ e;simp[bu,o]
def xd(a:Int):Nat->Int
 |0=>a
 |k+1=>((k+1:Nat):Int)
def fk(x:Cf)(k:Nat):Cf:={x with mode:=xd x.mode k}
def ld{x:Cf}{k:Nat}(h:x.ok):(fk x k).ok:=⟨h.q,h.tape,h.tp⟩
def O8(c:Cf){N:Nat}(h:N<=200):0<yM c (N:Nat)/\yM c (N:Nat)<=500:=by
 have e:1<=(bZ c).o/\(bZ c).o<=2:=NS c.o 1 2 dT;have h2:(bZ c).o=1\/(bZ c).o=2:=oT;have:=Se c;unfold yM;rcases h2 with h2|h2<;>rw[h2]<;>omega
def R4{cf:Cf}{prog:List Nat}{m w:ByteArray}{A N:Nat}(hc:cf.ok)(hp:∀x∈Bj prog,x<=4294967295)(i:N<=200)(f:(bZ cf).mode=1\/(bZ cf).mode=2)(g:iu A (jB m) (jB w))(k:∀x∈(e9 (Bj prog) (a3 m) (cz (Bj prog) 500 (a3 m))).map Prod.snd, ¬ka A x):uI (fQ (fX cf (Bj prog) m) N) (fQ (fX cf (Bj prog) w) N) 0= -1/\∃K,br (CJ (Bj prog) m (yM cf (N:Nat)) true) (CJ (Bj prog) w (yM cf (N:Nat)) true)=K/\K<=10000/\ ¬(K<((e9 (Bj prog) (a3 m) (cz (Bj prog) 500 (a3 m))).map Prod.snd).length/\(K:Int)<yM cf (N:Nat)):=by
 obtain⟨f1,f2⟩:=O8 cf i;have e:=R1 true g f2 k;have l:(jB m).size=(jB w).size:=g.size.symm;have el:(CJ (Bj prog) m (yM cf (N:Nat)) true).length=cz (Bj prog) (yM cf (N:Nat)).toNat (a3 m):=by
  unfold CJ;rw[aH,aH,lR,Int.min_eq_left ad]
 have j:=R2 (prog:=Bj prog) (s:=a3 m) (f:=(yM cf (N:Nat)).toNat) ad;refine⟨O7 (ld:=true) hc hp ad (f.imp (λh=>⟨h,R⟩) id) ?_,_,R,aL (Eh _ _).1 (Ji ..),?_⟩
 .rw[e, <-l];exact Vd _ _ _ _ _ f1 ad
 rw[e,l_,el,aH,lR];intro h;exact j ⟨h.1,oT⟩
def U0{n:Int}(h:(Lit.int .u8 n).wf=true):∃c:UInt8,n=(c.toNat:Int):=by
 simp only[Lit.wf,IntKind.min,IntKind.max,IntKind.signed,IntKind.bits,aP,aY]at h;simp at h;exact⟨UInt8.ofNat n.toNat,by rw[UInt8.toNat_ofNat_of_lt' (by show n.toNat<256;omega)];omega⟩
def R5{k:Nat}(h:k<=2000):Cd (k:Int)=k:=by unfold Cd;omega
def N'(c:Cf){k:Nat}(h:k<2):(bZ (fk c (k+1))).mode=1\/(bZ (fk c (k+1))).mode=2:=by
 show bV ((k+1:Nat):Int) 0 2=1\/bV ((k+1:Nat):Int) 0 2=2;unfold bV;(repeat' split)<;>omega
abbrev W5(b:UInt8):List AV:=[.v (.int .u8 b.toNat)]
def T_{K L:Nat}{F:Int}(h: ¬(K<L/\(K:Int)<F)):cE (cE (decide (K<L)) (decide ((K:Int)<F)) false) true false=false:=by
 by_cases a:K<L
 .rw[jP a,sW λb=>h ⟨a,b⟩];rfl
 rw[sW a];rfl
def I'(m:ByteArray)(A:Nat)(c:UInt8):gU (List.take m.size (List.drop 0 ((m.data.toList.set A c).map W5)))=some (m.data.toList.set A c):=by
 rw[bS,aN (by rw[aH,cC];exact Nat.le_of_eq (by simp))];exact lN _
def JP(cf:Cf)(prog:List Nat)(m:ByteArray)(at_:Int)(c:UInt8)(n:Int)(hc:cf.ok)(hp:∀x∈prog,x<=4294967295)(hl:prog.length<=9223372036854775807)(hm:m.size<=9223372036854775807):bI C0 3 [.agg (er cf false false),.Y 1 (prog.map dU) false,.v (.string m),vI at_,.v (.int .u8 (c.toNat:Int)),vI n] (vB true):=by
 refine dJ func3 ?_;obtain⟨N,z⟩:∃N,N=nl n 200:=⟨_,R⟩;have S:(if(200:Int)<max n 0 then(200:Int)else max n 0)=(N:Int):=z ▸ Yn n 200;have hN:N<=200:=z ▸ Ym _ _;have B:(Bj prog).length<=1000:=by unfold Bj;rw[aM];omega
 have o:=zD (P:=λx=>x<=4294967295) (n:=min prog.length 64) hp;obtain⟨M,w⟩:∃M,M=jB (Bk m):=⟨_,R⟩;have v:=pw (Bk m);rw[<-w]at v;have f:M.size=hY (min (Bk m).size 256):=by rw[w];exact wE _
 have am:M.size<=256:=f ▸ RA _;have al:0<M.size:=by rw[f];unfold hY;(repeat' split)<;>omega
 have Q:jB M=M:=ut ⟨_,f⟩;have ao:=Int.tmod_lt_of_pos at_ (oT:(0:Int)<(M.size:Int));have ar:=Int.lt_tmod_of_pos at_ (oT:(0:Int)<(M.size:Int));obtain⟨A,ab⟩:∃A:Nat,A=(Int.tmod (Int.tmod at_ (M.size:Int)+(M.size:Int)) (M.size:Int)).toNat:=⟨_,R⟩;have av:=Int.tmod_lt_of_pos (Int.tmod at_ (M.size:Int)+(M.size:Int)) (oT:(0:Int)<(M.size:Int));have ay:=Int.tmod_nonneg (M.size:Int) (oT:0<=Int.tmod at_ (M.size:Int)+(M.size:Int));have K:Int.tmod (Int.tmod at_ (M.size:Int)+(M.size:Int)) (M.size:Int)=(A:Int):=oT;have aa:A<M.size:=oT;have ag:A<=256:=oT;have az:c.toNat<=255:=aI c.toNat_lt;have i:=ix M A c;have O:iu A (jB M) (jB (q8 M A c)):=by rw[Q,ut ⟨_,i.size.trans f⟩];exact i
 have u:=ui (Bj prog) M 500 false o (aL B dT);rw[show(min (500:Int) 10000).toNat=500 from R]at u;generalize hv _ _=Z at u;obtain⟨L,e⟩:∃L,(e9 (Bj prog) (a3 M) (cz (Bj prog) 500 (a3 M))).map Prod.snd=L:=⟨_,R⟩;have aj:L.length<=10000:=by rw[<-e,aH,lR];exact aL (AB ..) dT
 rw[e]at u;clear ab w;refine qS 0 R<|zC (H7 prog m hl hm)<|zC (v) ?_;refine rW _ R (ap (We n 0))<|zW _ (ap S)<|rV (vN M.size) R<|zM _ R ad<|rV (vN M.size) R<|zW _ (ap ((af _).trans (Mk ad ad))) ?_;refine rV (vN M.size) R<|zM _ (ij K) ad<|zC (u) ?_;refine zW _ (cD a2 L)<|dk (κ:=Nat) (λk=>⟨a6 [(1,.Y 1 ((Bj prog).map dU) false),(2,.v (.string M)),(3,vN A),(4,.v (.int .u8 ((c.toNat:Nat):Int))),(5,vN N),(6,.ptr 0 0),(14,.Y 9 (L.map a2) false),(47,.Y 9 (L.map a2) false),(48,vN L.length),(49,vN k)],aq [(0,.box [vI cf.mode,vI cf.o,vI cf.Z,vI cf.queue,vI cf.V,vI cf.m,vI cf.O,vI cf.ways,.Y 1 (cf.q.map bm) false,vB cf.tables,.Y 1 (cf.tape.map dU) false]),(34,.box (c6 Z.M Z.r Z.mem Z.halt))],40⟩) (λk=>k<=L.length/\∀y∈L.take k, ¬ka A y) (λk=>L.length-k) 0 (λs=>s) (au (λs=>s) wT wH R) (⟨aE _,(λy hy=>by cases hy)⟩) ?_;intro k j;have U:k<=L.length:=j.1;have l:k<=10000:=oT;refine b0 (ak (bl _ _)) (λD=>?_) (λD=>?_)
 .have H:=ax D;obtain⟨x,V⟩:∃F,L[k]?=some F:=⟨_,aA ad⟩;refine zX (a2 x) (.k 9 0 (a2 x)) R (iH V)<|zV (vB (decide (x.size>0)))<|gS R id<|gS R id<|zN R (λh=>h) ?_;refine gS R id<|gn (x:=vI (wrap64 ((x.W:Nat):Int))) R id (ap (af _))<|aw (x:=vB (decide ((wrap64 ((x.W:Nat):Int))<=(A:Int)))) R b9 R<|zN R (λh=>h)<|gS R id<|gn (x:=vI (wrap64 ((x.W:Nat):Int))) R id (ap (af _))<|gS R id<|aw (x:=vI (wrap64 (wrap64 ((x.W:Nat):Int)+x.size))) R b9 (ap (af _))<|aw (x:=vB (decide ((A:Int)<(wrap64 (wrap64 ((x.W:Nat):Int)+x.size))))) R b9 R<|zN R (λh=>h) ?_;refine zB R (λI=>?_) (λI=>?_)
  .refine zC (u6) ?_;exact fT R R
  skip
  have X:k+1<=10001:=aD l (aC 1);refine zW _ (ap (bH X R)) ?_;refine⟨k+1,λs=>s,au _ wT wH R,⟨oT,N_ j.2 V (N9 I)⟩,by show L.length-(k+1)<L.length-k;omega⟩
 have H:=aF D;have P:∀x∈(e9 (Bj prog) (a3 M) (cz (Bj prog) 500 (a3 M))).map Prod.snd, ¬ka A x:=by rw[e];have h:=j.2;rw[aN ad]at h;exact h
 refine zF (x:=.X 42 0 M.size false) (h':=an _ 42 (some (.arr (M.data.toList.map W5) 1))) R (by show M.size<=1000000;omega)<|nW (.x 42 (0+A) 0) R R fd ?_;obtain⟨x1,W⟩:∃F,M.data.toList[A]?=some F:=⟨_,aA ad⟩;have aB:(M.data.toList.set A c)[A]?=some c:=aZ ad;refine nM (W5 x1) (h':=an _ 42 (some (.arr ((M.data.toList.set A c).map W5) 1))) R R R (⟨aG _,Jv (iH W)⟩) (vX (f:=W5) (l:=M.data.toList) (k:=A) (x:=c))<|cr 0 R<|dk (κ:=Nat) (λk=>⟨a6 [(1,.Y 1 ((Bj prog).map dU) false),(2,.v (.string M)),(5,vN N),(6,.ptr 0 0),(14,.Y 9 (L.map a2) false),(17,.X 42 0 M.size false),(18,vN (k+1))],aq [(0,.box [vI (xd cf.mode k),vI cf.o,vI cf.Z,vI cf.queue,vI cf.V,vI cf.m,vI cf.O,vI cf.ways,.Y 1 (cf.q.map bm) false,vB cf.tables,.Y 1 (cf.tape.map dU) false]),(34,.box (c6 Z.M Z.r Z.mem Z.halt)),(42,.arr ((M.data.toList.set A c).map W5) 1)],50⟩) (λk=>k<=2) (λk=>2-k) 0 (λs=>s) (au (λs=>s) wT wH R) (aE _) ?_;intro k j;have U:k<=2:=j;have l:k<=2:=oT;refine zW _ (ak (ju _ _)) ?_;refine aV R (λp=>?_) (λp=>?_)
 .have J:=ax p;have T:k<2:=ax p;have E:=A6 (fk cf (k+1)) (Bj prog) M (q8 M A c) (N:Nat) true (ld hc) o B;obtain⟨f1,G,e1,ai,C⟩:=R4 (cf:=fk cf (k+1)) (ld hc) o hN (N' cf T) O P;rw[R5 ad,f1,e1]at E;generalize Vf _ _ _ _ _=g at E;rw[e]at C;refine qC 0 R<|SV (M.data.toList.set A c) (d:=96) R R R (by show 0+M.size<=List.length ((M.data.toList.set A c).map W5);rw[aH,cC,bJ];exact Nat.le_of_eq (by simp)) (I' M A c)<|qR 0 R<|zC (E) ?_;refine zR<|zW _ (cD a2 L)<|zW _ (ak (bl _ _))<|zG R id<|zQ (args:=[.agg [vN (k+1),vI cf.o,vI cf.Z,vI cf.queue,vI cf.V,vI cf.m,vI cf.O,vI cf.ways,.Y 1 (cf.q.map bm) false,vB cf.tables,.Y 1 (cf.tape.map dU) false],vN N]) (x:=vI (yM (fk cf (k+1)) (N:Nat))) (g:=decide (G<L.length)) R b9 R (.inl R) (λhg=>B8 (fk cf (k+1)) (N:Nat) (ld hc))<|gn (x:=vB (decide ((G:Int)<(yM (fk cf (k+1)) (N:Nat))))) R b9 R<|zN R (λh=>h) ?_;refine zG R id<|gn (x:=vB false) R id (rfl)<|zN R (by simp) ?_;refine zB R (λh4=>by exact absurd h4 (by rw[T_ C];decide)) (λ_=>?_);have Y:(k+1)+1<=4:=aD (Nat.succ_le_succ l) (aC 1);refine zW _ (ap (bH Y R)) ?_;refine⟨k+1,λs=>s,au _ wT wH R,oT,by show 2-(k+1)<2-k;omega⟩
 have J:=aF p;refine jj 0 R<|zC (u6) ?_;exact fT R R
end Go.Proofs.YtiaekocjeinkjaaGreatDoor
