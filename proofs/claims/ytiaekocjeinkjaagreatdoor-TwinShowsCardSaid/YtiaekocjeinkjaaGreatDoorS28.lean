import Derived.Laws.BytesString
import Derived.Laws.IdiomStrings
import Derived.Test.YtiaekocjeinkjaaGreatDoorS27
set_option linter.all false
namespace Go.Proofs.YtiaekocjeinkjaaGreatDoor
open Go.RowKit
def bs(B:Nat)(S:Nat->Prop)(w:World)(β:Bt)(s:Nat)(r:Result Next)(x:AV)(h':AH):Prop:=
 ∃v w' c b,(r=.ok (.value v) w'\/(r=.ok .skip w'/\v=undef))/\av c w' b x v/\c3 B c w' b h'/\gy B S w β s c w' b
section
variable {C:a5}{S:Nat->Prop}{w w':World}{β:Bt}{B:Nat}{h:AH}{s:Nat}
theorem gy.refl(B:Nat)(S:Nat->Prop)(w:World)(β:Bt)(s:Nat):gy B S w β s S w β:=⟨λ_ h=>h,cp.refl _ _,Below.refl _ _,ME.refl _,λ_ _ h=>.inl h,λ_ h=>.inl h,λ_ _ _=>rfl⟩
theorem bs.Zx{P:Program}{x:AV}{r:Sem Value}(H:c3 B S w β h)(d:hM P S w β x r):bs B S w β s ((do pure (.value (<-r)):Sem Next).run P w) x h:=by
 obtain⟨v,b,c⟩:=d;exact⟨v,w,S,β,.inl (by simp only[Sem.run_bind,b,Result.andThen_ok,Sem.run_pure]),c,H,gy.refl _ _ _ _ _⟩
def dB{b:Type}(f:Nat->b)(i:Nat)(x:b):an f i x i=x:=by unfold an;rw[show Nat.beq i i=true from nG i]
def cI{b:Type}(f:Nat->b){i j:Nat}(x:b)(c:j≠i):an f i x j=f j:=by
 unfold an;have:Nat.beq j i=false:=by rw[<-eJ];exact λe=>c (aO e)
 rw[this]
theorem ME.upd(c:β s=none)(l:Loc):ME β (an β s (some l)):=λx k b=>by
 rw[cI _ _ (λe=>by rw[e,c]at b;cases b)];exact b
def iG{o:Obj}(c:w'.heap=w.heap.push o){b:Nat}(d:b<w.heap.size):w'.heap[b]?=w.heap[b]? :=by rw[c,Array.getElem?_push,dZ oT]
def rX{o:Obj}(b:w'.heap=w.heap.push o):w'.heap[w.heap.size]?=some o:=by rw[b,Array.getElem?_push,aa R]
def AF(H:c3 B S w β h)(hs:β s=none){v:Array Value}{e:TypeId}{y:Nat×Nat}(r:w'.heap=w.heap.push (.cells v e y))(X:∀o,o<v.size->(decide (y.1<=o)&&decide (o<y.2))=false)(L:Below B w w'){blk:a'}{l:Loc}(M:l.l=w.heap.size)
  (Y:Bf S w' (an β s (some l)) l v blk):c3 B S w' (an β s (some l)) (an h s (some blk))/\gy B S w β s S w' (an β s (some l)):=by
 have U:cp S w w':=cp.ZQ (λb f=>iG r f) H.lt;have q:ME β (an β s (some l)):=ME.upd hs l;have aa:w'.heap.size=w.heap.size+1:=by rw[r];simp
 refine⟨⟨λZ I d=>?_,λs1 s2 g P m T c j f=>?_,λb f=>by have:=H.lt b f;omega,oH H.ZT⟩,⟨λ_ h=>h,U,L,q,λx k p=>?_,λ_ h=>.inl h,λb f _=>iG r f⟩⟩
 .by_cases n:Z=s
  .subst n;rw[dB]at d;injection d with d;subst d;refine⟨l,v,e,y,dB _ _ _,by rw[M];exact rX r,X,by rw[M];exact H.ZT,λf=>?_,Y⟩;have:=H.lt _ f;omega
  .rw[cI _ _ n]at d;obtain⟨O,F,Q,G,z,A,k3,k4,k5,k6⟩:=H.own Z I d;exact⟨O,F,Q,G,q _ _ z,(iG r (fJ A)).trans A,k3,k4,k5,k6.mono (λ_ h=>h) U q⟩
 .have i:∀s1 g,s1≠s->an h s (some blk) s1≠none->an β s (some l) s1=some g->g.l<w.heap.size/\h s1≠none/\β s1=some g:=by
   intro s1 g hn m c;rw[cI _ _ hn]at m c;obtain⟨J,W⟩:∃b,h s1=some b:=by
    cases hq:h s1 with
    |none=>exact absurd hq m
    |some b=>exact⟨b,R⟩
   obtain⟨O,F,Q,G,z,A,_⟩:=H.own s1 J W;obtain rfl:g=O:=by rw[c]at z;exact fj z
   exact⟨fJ A,m,c⟩
  by_cases E:s1=s
  .by_cases u:s2=s
   .rw[E,u]
   .subst E;rw[dB]at c;injection c with c;subst c;have:=(i s2 P u T j).1;omega
  .by_cases u:s2=s
   .subst u;rw[dB]at j;injection j with j;subst j;have:=(i s1 g E m c).1;omega
   .obtain⟨_,a1,a2⟩:=i s1 g E m c;obtain⟨_,b1,b2⟩:=i s2 P u T j;exact H.inj s1 s2 g P a1 b1 a2 b2 f
 .by_cases n:x=s
  .refine .inr ⟨n,.inl ?_⟩;subst n;rw[dB]at p;injection p with p;subst p;rw[M];exact aC _
  .rw[cI _ _ n]at p;exact .inl p
def Tm(H:c3 B S w β h){s0:Nat}{j:a'}{l:Loc}(G:h s0=some j)(p:β s0=some l){O g:Array Value}{e:TypeId}{A:Nat×Nat}(n:w.heap[l.l]?=some (.cells O e A))
  (r:∀b,b≠l.l->w'.heap[b]?=w.heap[b]?) (Y:w'.heap[l.l]?=some (.cells g e A)) (v:g.size=O.size) (ag:w'.heap.size=w.heap.size) (F:Below B w w') {blk:a'} (X:cp S w w'->Bf S w' β l g blk):
  c3 B S w' β (an h s0 (some blk))/\gy B S w β s S w' β:=by
 obtain⟨i,aa,e',ab,k1,u,k3,k4,k5,k6⟩:=H.own s0 j G;obtain rfl:i=l:=by rw[p]at k1;exact(fj k1).symm
 rw[n]at u;injection u with u;injection u with I J L;subst I;subst J;subst L;have E:cp S w w':=⟨λb U=>r b (λe=>k5 (e ▸ U)),λb c1 Q f1 d=>by
  by_cases f:b=i.l
  .subst f;rw[n]at d;injection d with d;injection d with I J L;subst I;subst J;subst L;exact⟨g,Y,v⟩
  exact⟨c1,(r b f).trans d,R⟩⟩
 refine⟨⟨λM y c=>?_,λs1 s2 l1 m d h2 Q z W=>?_,λb n=>by have:=H.lt b n;omega,oH H.ZT⟩,⟨λ_ h=>h,E,F,ME.refl _,λ_ _ hx=>.inl hx,λ_ h=>.inl h,λb _ k=>r b (λe=>k s0 i p e.symm)⟩⟩
 .by_cases f:M=s0
  .subst f;rw[dB]at c;injection c with c;subst c;exact⟨i,g,e,A,p,Y,by rw[v];exact k3,k4,k5,X E⟩
  rw[cI _ _ f]at c;obtain⟨m,P,z,T,Z,j2,j3,j4,j5,j6⟩:=H.own M y c;have k:m.l≠i.l:=λq=>f (H.inj M s0 m i (by rw[c];simp) (by rw[G];simp) Z p q);exact⟨m,P,z,T,Z,(r _ k).trans j2,j3,j4,j5,j6.mono (λ_ h=>h) E (ME.refl _)⟩
 have x:∀s1,an h s0 (some blk) s1≠none->h s1≠none:=λs1 d=>by
  by_cases f:s1=s0
  .rw[f,G];simp
  rwa [cI _ _ f]at d
 exact H.inj s1 s2 l1 m (x s1 d) (x s2 h2) Q z W
theorem yS(b:Nat):∀(d:List Value) (o:Nat) (w:World) (c:Array Value) (e:TypeId) (g:Nat×Nat),w.heap[b]?=some (.cells c e g)->o+d.length<=c.size->
  ∃f:Array Value,(w.setCells b o d).heap[b]?=some (.cells f e g)/\f.size=c.size/\(∀k,f[k]?=if o<=k/\k<o+d.length then d[k-o]? else c[k]?)/\
   (w.setCells b o d).heap.size=w.heap.size/\∀x,x≠b->(w.setCells b o d).heap[x]?=w.heap[x]?
 |[],o,w,c,e,g,j,_=>⟨c,j,R,λk=>by rw[dZ (by simp)],R,λ_ _=>rfl⟩
 | v::d,o,w,c,e,g,j,z=>by
  simp only[bN]at z;have u:(w.setCell ⟨b,o,none⟩ v).heap[b]?=some (.cells (c.setIfInBounds o v) e g):=by
   simp only[World.setCell,Array.getElem?_modify,fD,j,dF,Option.isSome_none,cS,eE]
  obtain⟨f,m,n,p,q,r⟩:=yS b d (o+1) (w.setCell ⟨b,o,none⟩ v) (c.setIfInBounds o v) e g u (by simp;omega);refine⟨f,by rw[World.setCells];exact m,by rw[n];simp,λk=>?_,by rw[World.setCells];exact q.trans (by simp[World.setCell]),λx l=>by rw[World.setCells,r x l,Below.heap_setCell _ _ _ _ l]⟩;rw[p k];simp only[bN];by_cases y:k=o
  .subst y;rw[dZ oT,aa oT,eK,cP,cZ oT]
  .by_cases i:o+1<=k/\k<o+1+d.length
   .rw[aa i,aa oT,(oT:k-o=(k-(o+1))+1),dL]
   .rw[dZ i,dZ oT,cY oT]
theorem xE{b:Nat}(d:B<=b):∀(c:List Value) (o:Nat) (w:World),Below B w (w.setCells b o c)
 |[],_,w=>Below.refl _ _
 |v::c,o,w=>by
  rw[World.setCells];exact((Below.refl B w).setCell (p:=⟨b,o,none⟩) d v).trans (xE d c (o+1) _)
def Ew(x:cb C){t:TypeId}{ti:TI}(F:C.ty t=some ti){v:Value}{c:List Value}(p:v.cells.toList=c)(A:c.length=ti.j)(r:∀(i:Nat) u,c[i]?=some u->u.oneCell'=true){b o:Nat}{d:Array Value}{e:TypeId}{f:Nat×Nat}
  (k:w.heap[b]?=some (.cells d e f)) (l:∀o,o<d.size->(decide (f.1<=o)&&decide (o<f.2))=false) (q:o+c.length<=d.size):
  (Instr.storeAt t (.pointer (some ⟨b,o,none⟩)) v).run C.P w=.ok () (w.setCells b o c):=by
 obtain⟨inf,z,g,n,_⟩:=(x.ty t _ F).ZR;have m:=run_storeCells_cells (P:=C.P) b o c 0 w (λj y=>by rw[gP k,aT oT];rfl) (λj y=>vP k l _ oT) (λu G=>by
  obtain⟨i,g,rfl⟩:=fY G;exact r i _ (aA g))
 simp only[iU]at m;have E:v.cells.size=ti.j:=by rw[<-A, <-p];simp
 simp only[Instr.storeAt,Instr.sureAddr,Sem.run_bind,Sem.run_pure,Result.andThen_ok,storeVar,sizeOf,typeInfo,program,Sem.run,g,n,E,ne_eq,not_true_eq_false,eE,p,m]
def DT(H:c3 B S w β h){s0:Nat}{g:a'}{l:Loc}(z:h s0=some g)(y:β s0=some l){d:Array Value}{e:TypeId}{i:Nat×Nat}(m:w.heap[l.l]?=some (.cells d e i))(j:B<=l.l)
  (b:List Value) (o:Nat) (f:o+b.length<=d.size) {blk:a'}
  (n:∀(w':World) (c:Array Value),cp S w w'->(∀k,c[k]?=if o<=k/\k<o+b.length then b[k-o]? else d[k]?)->Bf S w' β l c blk):
  c3 B S (w.setCells l.l o b) β (an h s0 (some blk))/\gy B S w β s S (w.setCells l.l o b) β:=by
 obtain⟨c,p,q,r,u,v⟩:=yS l.l b o w d e i m f;exact Tm H z y m v p q u (xE j b o w) λx=>n _ _ x r
def Lq(v:cb C)(H:c3 B S w β h){t:TypeId}{ti:TI}{b c:Nat}{x:AV}{M vx:Value}{d cells:List AV}(F:C.ty t=some ti)(A:kN x=some d)(E:d.length=ti.j)(z:h b=some (.box cells))(q:c+d.length<=cells.length)
  (P:av S w β (.ptr b c) M) (W:av S w β x vx):bs B S w β s ((do Instr.storeAt t M vx;pure .skip:Sem Next).run C.P w) .any (an h b (some (.box (zS c d cells)))):=by
 have T:0<d.length:=by rw[E];exact((v.ty t _ F).ZR).elim λ_ h=>h.elim λ_ h=>h.2.2.2.2.2.2.1
 have n:=vE W A;have i:=n.ZX.1
 cases P with
 |ptr _ _ l r=>
 obtain⟨m,O,e,fr,G,I,X,Y,k5,J⟩:=H.own b _ z;obtain rfl:m=l:=by rw[r]at G;exact(fj G).symm
 have f:m.base+c+vx.cells.toList.length<=O.size:=by
  rw[<-i];obtain⟨u,U,_⟩:=J (c+d.length-1) _ (aA oT);have:=(DP.1 U).1;omega
 have L:=Ew v F R (by rw[<-i,E]) n.one I X f;obtain⟨Z,p2⟩:=DT (s:=s) H z r I Y vx.cells.toList (m.base+c) f (blk:=.box (zS c d cells)) (λw' ab y g j a p=>by
  rw[BQ _ _ _ _ q]at p;split at p
  .rename_i Q;have k:j-c<vx.cells.toList.length:=oT;refine⟨vx.cells.toList[j-c],?_,n.one (j-c) _ (aA k),(n.ZX.2 (j-c) a _ p (aA k)).mono (λ_ h=>h) y (ME.refl _)⟩;rw[g,aa oT,(oT:m.base+j-(m.base+c)=j-c),aA k]
  .rename_i Q;obtain⟨u,q1,q2,q3⟩:=J j a p;exact⟨u,by rw[g,dZ oT];exact q1,q2,q3.mono (λ_ h=>h) y (ME.refl _)⟩)
 exact⟨undef,_,S,β,.inr ⟨by simp only[Sem.run_bind,L,Result.andThen_ok,Sem.run_pure],R⟩,.any _,Z,p2⟩
def Wo{c:Type}(l:List c)(i j:Nat)(x:c):(l.set i x)[j]?=if i=j/\i<l.length then some x else l[j]? :=by
 rw[mV];by_cases h:i=j
 .subst h;by_cases b:i<l.length
  .simp[b]
  simp[b,bE (Nat.le_of_not_lt b)]
 simp[h]
def Lr(P:cb C)(H:c3 B S w β h){t:TypeId}{ti:TI}{b r c:Nat}{x:AV}{va vx:Value}{f row:List AV}{rows:List (List AV)}{rs:Nat}(ht:C.ty t=some ti)(U:kN x=some f)(W:f.length=ti.j)(Q:h b=some (.arr rows rs))(g:rows[r]?=some row)(q:c+f.length<=row.length)(T:eW f=true)
  (ha:av S w β (.x b r c) va) (hx:av S w β x vx):bs B S w β s ((do Instr.storeAt t va vx;pure .skip:Sem Next).run C.P w) .any (an h b (some (.arr (rows.set r (zS c f row)) rs))):=by
 have ag:0<f.length:=by rw[W];exact((P.ty t _ ht).ZR).elim λ_ h=>h.elim λ_ h=>h.2.2.2.2.2.2.1
 have A:=vE hx U;have y:=A.ZX.1
 cases ha with
 |x _ _ _ l E=>
 obtain⟨d,ds,e,fr,k1,k2,k3,k4,k5,k6,I,J⟩:=H.own b _ Q;obtain rfl:d=l:=by rw[E]at k1;exact(fj k1).symm
 subst k6;have Z:row.length=d.rs:=I row (aB g);have G:r<rows.length:=(Em.1 g).1;have v:d.base+r*d.rs+c+vx.cells.toList.length<=ds.size:=by
  rw[<-y];obtain⟨u,hu,_⟩:=J r row (c+f.length-1) _ g (aA oT);have:=(DP.1 hu).1;omega
 have ab:=Ew P ht R (by rw[<-y,W]) A.one k2 k3 v;obtain⟨p1,p2⟩:=DT (s:=s) H Q E k2 k4 vx.cells.toList (d.base+r*d.rs+c) v (blk:=.arr (rows.set r (zS c f row)) d.rs) (λw' ai F k=>by
  refine⟨R,λp Y=>?_,λi p j a m n=>?_⟩
  .rcases List.mem_or_eq_of_mem_set Y with h|h
   .exact I _ h
   .rw[h,vO _ _ _ q];exact Z
  .rw [Wo]at m;split at m
   .rename_i z;obtain⟨rfl,_⟩:=z;injection m with m;subst m;rw[BQ _ _ _ _ q]at n;split at n
    .rename_i hc;have hlt:j-c<vx.cells.toList.length:=oT;refine⟨vx.cells.toList[j-c],?_,A.one (j-c) _ (aA hlt),mB ((A.ZX.2 (j-c) a _ n (aA hlt)).mono (λ_ h=>h) F (ME.refl _)) (fW f T _ a n) _⟩;rw[k,aa oT,(oT:d.base+r*d.rs+j-(d.base+r*d.rs+c)=j-c),aA hlt]
    .rename_i hc;obtain⟨u,L,M,O⟩:=J r row j a g n;exact⟨u,by rw[k,dZ oT];exact L,M,O.mono (λ_ h=>h) F (ME.refl _)⟩
   .rename_i z;obtain⟨u,L,M,O⟩:=J i p j a m n;have X:i≠r:=λe=>z ⟨e.symm,G⟩;have aj:j<d.rs:=by rw[<-I p (aB m)];exact(Em.1 n).1
    refine⟨u,?_,M,O.mono (λ_ h=>h) F (ME.refl _)⟩;rw[k,dZ ?_]
    .exact L
    .rintro⟨g1,g2⟩;rcases Nat.lt_or_gt_of_ne X with hlt|hlt
     .have:(i+1)*d.rs<=r*d.rs:=eF _ hlt;rw[cG]at this;omega
     .have:(r+1)*d.rs<=i*d.rs:=eF _ hlt;rw[cG]at this;omega)
 exact⟨undef,_,S,β,.inr ⟨by simp only[Sem.run_bind,ab,Result.andThen_ok,Sem.run_pure],R⟩,.any _,p1,p2⟩
def Ls(M:cb C)(H:c3 B S w β h){t:TypeId}{ti:TI}{b r:Nat}{x y:AV}{J vx:Value}{cells:List AV}(Q:C.ty t=some ti)(A:kN x=some [y])(P:([y]:List AV).length=ti.j)(z:h b=some (.row cells))(k:r<cells.length)
  (O:av S w β (.x b r 0) J) (U:av S w β x vx):bs B S w β s ((do Instr.storeAt t J vx;pure .skip:Sem Next).run C.P w) .any (an h b (some (.row (cells.set r y)))):=by
 have m:=vE U A;have i:vx.cells.toList.length=1:=m.ZX.1.symm
 cases O with
 |x _ _ _ l n=>
 obtain⟨d,L,e,fr,E,F,W,X,k5,q,G⟩:=H.own b _ z;obtain rfl:d=l:=by rw[n]at E;exact(fj E).symm
 have g:d.base+r*d.rs+0+vx.cells.toList.length<=L.size:=by
  rw[i,q];obtain⟨u,T,_⟩:=G r _ (aA k);have:=(DP.1 T).1;omega
 have I:=Ew M Q R (by rw[i];simpa using P) m.one F W g;obtain⟨Y,Z⟩:=DT (s:=s) H z n F X vx.cells.toList (d.base+r*d.rs+0) g (blk:=.row (cells.set r y)) (λw' ab v c=>by
  refine⟨q,λj a f=>?_⟩;rw[q]at c;by_cases p:j=r
  .subst p;rw[aZ k]at f;injection f with f;subst f;refine⟨vx.cells.toList[0]' oT,?_,m.one 0 _ (aA oT),(m.ZX.2 0 y _ R (aA oT)).mono (λ_ h=>h) v (ME.refl _)⟩;rw[c,aa oT,(oT:d.base+j-(d.base+j*1+0)=0),aA oT]
  .rw[kX (Ne.symm p)]at f;obtain⟨u,q1,q2,q3⟩:=G j a f;exact⟨u,by rw[c,dZ oT];exact q1,q2,q3.mono (λ_ h=>h) v (ME.refl _)⟩)
 exact⟨undef,_,S,β,.inr ⟨by simp only[Sem.run_bind,I,Result.andThen_ok,Sem.run_pure],R⟩,.any _,Y,Z⟩
def Vx(H:c3 B S w β h)(k:β s=none)(t:TypeId){x:AV}{v:Value}{e:List AV}(p:av S w β x v)(f:kN x=some e):
  bs B S w β s ((do pure (.value (<-Instr.box t v)):Sem Next).run C.P w) (.ptr s 0) (an h s (some (.box e))):=by
 have d:=vE p f;have l:(w.alloc (.cells v.cells t)).heap=w.heap.push (.cells v.cells t):=rfl;have i:ME β (an β s (some ⟨w.heap.size,0,0⟩)):=ME.upd k _;have m:cp S w (w.alloc (.cells v.cells t)):=cp.ZQ (λb n=>iG l n) H.lt;obtain⟨q,r⟩:=AF H k l (λo _=>by simp) ((Below.refl B w).alloc H.ZT _) (l:=⟨w.heap.size,0,0⟩) (blk:=.box e) R (λj a g=>by
  have c:j<v.cells.toList.length:=by rw[<-d.ZX.1];exact(Em.1 g).1
  refine⟨v.cells.toList[j],by rw[bJ, <-bQ,aA c],d.one j _ (aA c),(d.ZX.2 j a _ g (aA c)).mono (λ_ h=>h) m i⟩)
 refine⟨.pointer (some ⟨w.heap.size,0,none⟩),_,S,_,.inl ?_,?_,q,r⟩
 .rfl
 exact .ptr s 0 ⟨w.heap.size,0,0⟩ (dB _ _ _)
def Tn(k:cb C)(H:c3 B S w β h)(l:β s=none)(t:TypeId){i:TI}{b:List AV}(m:C.ty t=some i)(c:kN i.zero=some b):
  bs B S w β s ((do pure (.value (<-Instr.alloc t true (.tuple #[]))):Sem Next).run C.P w) (.ptr s 0) (an h s (some (.box b))):=by
 obtain⟨inf,z,f,r,u,g,j,_⟩:=(k.ty t _ m).ZR;have n:(zeroValue t).run C.P w=.ok z w:=by simp only[zeroValue,typeInfo,program,Sem.run_bind,Sem.run,f,Sem.run_pure,Result.andThen_ok,g]
 obtain⟨v,w',e,d,p,q⟩:=Vx (C:=C) (s:=s) H l t (Hx z) (by rw[<-j];exact c);refine⟨v,w',e,d,?_,q⟩;rw[<-p.elim (λh=>h) (λh=>by have:=h.1;simp[Instr.box,newVar,newRow,newObj,Sem.run]at this)];refine .inl ?_;simp only[Instr.alloc,Sem.run_bind,n,Result.andThen_ok,Instr.box]
end
end Go.Proofs.YtiaekocjeinkjaaGreatDoor
namespace Go.Proofs.YtiaekocjeinkjaaGreatDoor
open Go.RowKit
def kU(n rc:Nat)(u:Nat->Nat->Value):List Value:=(List.range (n*rc)).map λk=>u (k/rc) (k%rc)
def fG(n rc:Nat)(u:Nat->Nat->Value):(kU n rc u).length=n*rc:=by simp[kU]
def vL(n rc:Nat)(u:Nat->Nat->Value)(k:Nat)(b:k<n*rc):(kU n rc u)[k]?=some (u (k/rc) (k%rc)):=by
 simp[kU,b]
def qs{i j rc:Nat}(b:j<rc):(i*rc+j)/rc=i/\(i*rc+j)%rc=j:=by
 have c:0<rc:=oT;constructor
 .rw[gJ,Nat.add_mul_div_right _ _ c,Nat.div_eq_of_lt b,bJ]
 rw[gJ,Nat.add_mul_mod_self_right,jM b]
def vM{i j n rc:Nat}(b:i<n)(c:j<rc):i*rc+j<n*rc:=by
 have:(i+1)*rc<=n*rc:=eF _ b;rw[cG]at this;omega
def Hr(n rc:Nat)(u:Nat->Nat->Value){i j:Nat}(c:i<n)(b:j<rc):(kU n rc u)[i*rc+j]?=some (u i j):=by
 rw[vL _ _ _ _ (vM c b),(qs b).1,(qs b).2]
section
variable {C:a5}{S:Nat->Prop}{w w':World}{β:Bt}{B:Nat}{h:AH}{s:Nat}
structure jn(S:Nat->Prop)(w:World)(β:Bt)(rc:Nat)(rows:List (List AV))(u:Nat->Nat->Value):Prop where
 len:∀row∈rows,row.length=rc
 ZX:∀(i:Nat) row (j:Nat) a,rows[i]?=some row->row[j]?=some a->(u i j).oneCell'=true/\av S w β a (u i j)
theorem jn.one{rc:Nat}{rows:List (List AV)}{u:Nat->Nat->Value}(R:jn S w β rc rows u):∀x∈kU rows.length rc u,x.oneCell'=true:=by
 intro x d;simp only[kU,pG,lI]at d;obtain⟨k,b,rfl⟩:=d;have f:0<rc:=eU λe=>by subst e;simp at b
 have g:k/rc<rows.length:=fO (by rw[fR];exact b);have c:rows[k/rc]?=some rows[k/rc]:=aA g;have j:=R.len _ (aB c);have i:k%rc<rows[k/rc].length:=by rw[j];exact aQ _ f
 exact(R.ZX _ _ _ _ c (aA i)).1
theorem jn.append{rc:Nat}{b f:List (List AV)}{u v:Nat->Nat->Value}(R:jn S w β rc b u)(T:jn S w β rc f v):jn S w β rc (b++f) (λi j=>if i<b.length then u i j else v (i-b.length) j):=by
 refine⟨λrow g=>(dz.1 g).elim (R.len row) (T.len row),λi row j a c e=>?_⟩;by_cases d:i<b.length
 .rw[cF d]at c;simp only[aa d];exact R.ZX i row j a c e
 rw[bM oT]at c;simp only[dZ d];exact T.ZX _ row j a c e
def JH(n m rc:Nat)(u v:Nat->Nat->Value):kU n rc u++kU m rc v=kU (n+m) rc (λi j=>if i<n then u i j else v (i-n) j):=by
 rcases kR rc with h0|h0
 .subst h0;simp[kU]
 apply dD;intro k;by_cases c:k<n*rc
 .rw[cF (by rw[fG];exact c),vL _ _ _ _ c,vL _ _ _ _ (by rw[cG];omega)];have:k/rc<n:=fO (by rw[fR];exact c);rw[aa this]
 rw[bM (by rw[fG];omega),fG];by_cases b:k<(n+m)*rc
 .rw[cG]at b;rw[vL _ _ _ _ (by omega:k-n*rc<m*rc),vL _ _ _ _ (by rw[cG];omega)];have e:k=(k-n*rc)+n*rc:=oT;have d:k/rc=(k-n*rc)/rc+n:=by
   conv=>lhs;rw[e]
   rw[Nat.add_mul_div_right _ _ h0]
  have f:k%rc=(k-n*rc)%rc:=by
   conv=>lhs;rw[e]
   rw[Nat.add_mul_mod_self_right]
  rw[d,f,dZ (oH (aE ((k-n*rc)/rc))),kB]
 rw[bE (by rw[fG];rw[cG]at b;omega),bE (by rw[fG];omega)]
def AG(al:c3 B S w β h){y:AV}{vy:Value}{rc:Nat}{rows:List (List AV)}(hy:av S w β y vy)(d:mY h y=some (rc,rows))(aa:xV h y):
  ∃u,jn S w cy rc rows u∧(∀f:World,(Builtin.lenOf vy).run C.P f=.ok rows.length f)∧
   ∀f:World,(∀b,b<w.heap.size->f.heap[b]?=w.heap[b]?)->∀n,n<=rows.length->(Builtin.firstCells rc n vy).run C.P f=.ok (kU n rc u).toArray f:=by
 have W:∀(b o:Nat) (A:Option Addr) (len c:Nat) (rows:List (List AV)) (u:Nat->Nat->Value),jn S w cy rc rows u->len=rows.length->(0<len->A=some ⟨b,o,none⟩)->
   (∀(i:Nat) row (j:Nat) a,rows[i]?=some row->row[j]?=some a->w.cell? ⟨b,o+i*rc+j,none⟩=some (u i j))->
   ∀f:World,(∀b,b<w.heap.size->f.heap[b]?=w.heap[b]?)->∀n,n<=rows.length->(Builtin.firstCells rc n (.slice A len c)).run C.P f=.ok (kU n rc u).toArray f:=by
  intro b o A len c rows u R hl I hw f ai n Q;rcases kR n with h0|h0
  .subst h0;have:kU 0 rc u=[]:=by simp[kU]
   rw[this]
   cases A with
   |none=>exact run_firstCells_none f rc 0 len c
   |some A=>exact run_firstCells_some f rc 0 A len c [] (by simp) (by simp)
  .rw[I oT];refine run_firstCells_some f rc n ⟨b,o,none⟩ len c (kU n rc u) (fG _ _ _) λk x E=>?_;have L:k<n*rc:=by rw[<-fG n rc u];exact(Em.1 E).1
   rw[vL _ _ _ _ L]at E;injection E with E;subst E;have ab:0<rc:=eU λe=>by subst e;simp at L
   have z:k/rc<rows.length:=e5 (fO (by rw[fR];exact L)) Q;have g:rows[k/rc]?=some rows[k/rc]:=aA z;have J:k%rc<rows[k/rc].length:=by rw[R.len _ (aB g)];exact aQ _ ab
   have:=hw _ _ _ _ g (aA J);rw[Addr.add_mid];have H:k/rc*rc+k%rc=k:=by rw[fR];exact Nat.div_add_mod k rc
   rw[dW,H]at this;have P:b<w.heap.size:=World.block_lt_of_cell? w _ this;rw[uC (ai b P)];exact this
 cases hy with
 | v =>
  simp only[mY]at d;split at d
  .rename_i st M;injection M with M;subst M;injection d with d;injection d with F G;subst F;subst G;have r:(aS st).length=st.size:=by simp[aS]
   refine⟨λi _=>.int .u8 (st.data.toList.getD i 0).toNat,⟨λrow g=>?_,λi row j a O Z=>?_⟩,λf=>by rw[r];rfl,λf _ n Q=>?_⟩
   .simp only[aS,pG]at g;obtain⟨b,_,rfl⟩:=g;rfl
   .simp only[aS,aX]at O;obtain⟨b,P,rfl⟩:=Gi.1 O
    cases j with
    |zero=>
     simp only[cP,jc]at Z;subst Z;refine⟨rfl,?_⟩;rw[aR,P,gI]
     exact .v _
    |succ j=>simp at Z
   .rw[r]at Q;simp only[Builtin.firstCells,Sem.run_pure];congr 1;apply Array.ext';simp only[jN,kU,iD,qU];apply dD;intro k;simp only[aX];by_cases E:k<n
    .have U:k<st.data.toList.length:=sU (Nat.lt_of_lt_of_le E Q);have:(st.extract 0 n).data.toList[k]?=st.data.toList[k]? :=by
      simp[E]
     rw[this,aA U,eZ E,dF,dF,aR,aA U];rfl
    .have:(st.extract 0 n).data.toList[k]?=none:=by
      apply bE;simp;omega
     rw[this,bE (by simp;omega)];rfl
  .rename_i he;cases he
  .rename_i he;cases he
  .cases d
 |Y rs rows' Y A c b o u hc hm q bb I hw O ag=>
  simp only[mY]at d;injection d with d;injection d with F G;subst F;subst G;have R:jn S w cy rs rows' u:=⟨bb,λi row j a p am=>⟨O i j,ag i row j a p am⟩⟩
  exact⟨u,R,λ_=>rfl,W b o A _ c rows' u R rfl (λh0=>(I h0).1) hw⟩
 | X s0 lo len Y l A c hl hc hm q I cs e fr P bd=>
  simp only[mY]at d;split at d
  .rename_i rows' rs hs;injection d with d;injection d with F G;subst F;subst G;obtain⟨m,ds,e',ak,k1,k2,k3,k4,k5,k6,k7,k8⟩:=al.own s0 _ hs;obtain rfl:m=l:=by rw[hl]at k1;exact(fj k1).symm
   subst k6;have aj:lo+len<=rows'.length:=by simpa [xV,hs]using aa
   have r:((rows'.drop lo).take len).length=len:=by rw[aM,bD];omega
   have X:∀(i:Nat) row,((rows'.drop lo).take len)[i]?=some row->rows'[lo+i]?=some row:=by
    intro i row z;rw[cU]at z;split at z
    .rwa [cL]at z
    .cases z
   have R:jn S w cy m.rs ((rows'.drop lo).take len) (λi j=>ds.getD (m.base+(lo+i)*m.rs+j) undef):=by
    refine⟨λrow g=>k7 row (eT (cQ g)),λi row j a z J=>?_⟩;obtain⟨u,T,q2,q3⟩:=k8 _ _ _ _ (X i row z) J;rw[show ds.getD (m.base+(lo+i)*m.rs+j) undef=u by rw[aK,T];rfl];exact⟨q2,q3⟩
   refine⟨_,R,λ_=>by rw[r];rfl,W m.l (m.base+lo*m.rs) A len c _ _ R r.symm (λh0=>I oT) λi row j a z J=>?_⟩;obtain⟨u,T,q2,q3⟩:=k8 _ _ _ _ (X i row z) J;rw[gP k2,show m.base+lo*m.rs+i*m.rs+j=m.base+(lo+i)*m.rs+j by rw[cG];omega,T,aK,T];rfl
  .cases d
 |_=>simp only[mY]at d;cases d
def To(I:cb C)(H:c3 B S w β h)(y:β s=none){e:TypeId}{c:TI}(J:C.ty e=some c){z:Value}(q:z.cells.size=c.j){rows:List (List AV)}{u:Nat->Nat->Value}(R:jn S w cy c.j rows u)(d:Nat)(l:rows.length<=d)(x:d<=maxLen){w':World}
  (n:w'.heap=w.heap.push (.cells ((kU rows.length c.j u).toArray++Builtin.zeroCells z.cells (d-rows.length)) e)) (k:Below B w w'):
  av S w' (an β s (some ⟨w.heap.size,0,c.j⟩)) (.X s 0 rows.length false) (.slice (some ⟨w.heap.size,0,none⟩) rows.length d)∧
  c3 B S w' (an β s (some ⟨w.heap.size,0,c.j⟩)) (an h s (some (.arr rows c.j)))∧gy B S w β s S w' (an β s (some ⟨w.heap.size,0,c.j⟩)):=by
 have r:cp S w w':=cp.ZQ (λb v=>iG n v) H.lt;obtain⟨A,E⟩:=AF H y n (λo _=>by simp) k (l:=⟨w.heap.size,0,c.j⟩) (blk:=.arr rows c.j) rfl ⟨rfl,R.len,λi row j a m p=>by
  have g:j<c.j:=by rw[<-R.len row (aB m)];exact(Em.1 p).1
  have f:i<rows.length:=(Em.1 m).1;obtain⟨F,G⟩:=R.ZX i row j a m p;refine⟨u i j,?_,F,G.mono (λ_ h=>h) r (ME.refl _)⟩;rw[bJ,dS (by simp only[kP,fG];exact vM f g),eM];exact Hr _ _ _ f g⟩
 refine⟨.X s 0 rows.length false ⟨w.heap.size,0,c.j⟩ _ d (dB _ _ _) l x (λh=>by cases h) (λ_=>by simp) _ e _ (rX n) ?_,A,E⟩;simp only[Array.size_append,kP,fG,size_zeroCells,q,bJ];rw[<-cG];exact eF _ oT
def PM(H:c3 B S w β h){b:TypeId}{tk:TI}(e:(∃g,C.P.underlying b=some (.slice g))∨C.P.underlying b=some .string){y:AV}{f:Value}{rc:Nat}{rows:List (List AV)}(k:av S w β y f)(j:mY h y=some (rc,rows))(d:xV h y):
  ∃u,jn S w cy rc rows u∧Src C.P rc b f rows.length (kU rows.length rc u) w:=by
 obtain⟨u,R,i,c⟩:=AG (C:=C) H k j d;exact⟨u,R,⟨e,i,c w (λ_ _=>rfl) _ (aC _),c w.drew (λ_ _=>rfl) _ (aC _),fG _ _ _,R.one⟩⟩
def PN(e:cb C){b:TypeId}{tk:TI}(g:C.ty b=some tk)(c:Ou tk.kd=true):(∃d,C.P.underlying b=some (.slice d))\/C.P.underlying b=some .string:=by
 have:=(e.ty b _ g).kd;cases f:tk.kd<;>rw[f]at c this<;>simp only[Ou,cS]at c
 .exact .inr this
 exact .inl ⟨_,this⟩
def yT(i:cb C)(H:c3 B S w β h)(O:β s=none){t k ty e:TypeId}{ti tk d:TI}(v:C.P.underlying t=some (.slice e))(x:C.ty k=some tk)(J:Ou tk.kd=true)(q:C.ty e=some d)
  {y:AV} {A:Option Addr} {l:Value} {n b:Nat} {ra rc:Nat} {a c:List (List AV)} {ua:Nat->Nat->Value} (F:jn S w cy d.j a ua) (m:a.length=n)
  (j:(Builtin.firstCells d.j n (.slice A n b)).run C.P w.drew=.ok (kU n d.j ua).toArray w.drew) (P:av S w β y l) (M:mY h y=some (d.j,c)) (u:xV h y)
  (r:b<n+c.length) (p:n+c.length<=jH):
  bs B S w β s ((do pure (.value (<-Builtin.append_ #[t,k] ty #[.slice A n b,l])):Sem Next).run C.P w) (.X s 0 (n+c.length) false) (an h s (some (.arr (a++c) d.j))):=by
 obtain⟨Y,I,src⟩:=PM (tk:=tk) H (PN i x J) P M u;obtain⟨inf,z,Q,E,T,U,Z,W,i7,X⟩:=(i.ty e _ q).ZR;have g:n+c.length<=1000000:=p;have L:n+c.length<=maxLen:=by unfold maxLen;omega
 have f:=run_append_grow_src (P:=C.P) w t k ty e inf z v Q U A n b (kU n d.j ua) (by rw[E];exact j) l c.length (kU c.length d.j Y) (by rw[E];exact src) r oT
  (growslice_fits r (by rw[T];exact aL (cJ g X) oT))
 subst m;rw[JH]at f;have R:=F.append I;rw[<-aU]at f;have G:=To (s:=s) i H O q W R (grownCap w (a.length+c.length) b e) (by rw[aU];exact grownCap_ge _ _ _ _) (grownCap_le_maxLen _ _ _ _ L) (w':=w.drew.alloc (.cells ((kU (a++c).length d.j _).toArray++Builtin.zeroCells z.cells (grownCap w (a.length+c.length) b e-(a.length+c.length))) e))
  (by rw[aU];rfl) ((Below.refl B w).drew.alloc H.ZT _)
 rw[aU]at G f;exact⟨_,_,S,_,.inl (by simp only[Sem.run_bind,f,Result.andThen_ok,Sem.run_pure]),G.1,G.2.1,G.2.2⟩
end
end Go.Proofs.YtiaekocjeinkjaaGreatDoor
namespace Go.Proofs.YtiaekocjeinkjaaGreatDoor
open Go.RowKit
section
variable {C:a5}{S:Nat->Prop}{w w':World}{β:Bt}{B:Nat}{h:AH}{s:Nat}
def zZ(B:Nat)(S:Nat->Prop)(w:World)(β:Bt)(h:AH)(s:Nat)(r:Result Next):b1->Prop
 | .bad=>True
 | .ok x=>bs B S w β s r x h
 | .Z9 p x=>p->bs B S w β s r x h
 | .idx rows i f=>∀row x,0<=i->rows[i.toNat]?=some row->f row=some x->bs B S w β s r x h
 | .fx p x h'=>p->bs B S w β s r x h'
 | .ZS rows i f=>∀row h',0<=i->rows[i.toNat]?=some row->f row=some h'->bs B S w β s r .any h'
 | .str p rows=>∀l,p->gU rows=some l->bs B S w β s r (.v (.string ⟨l.toArray⟩)) h
 | .call _ _=>False
theorem rN.post{P:Program}{x:b1}{r:Sem Value}(H:c3 B S w β h)(b:rN P S w β r x):zZ B S w β h s ((do pure (.value (<-r)):Sem Next).run P w) x:=by
 cases x<;>simp only[rN,zZ]at b⊢
 .exact bs.Zx H b
 .exact λhp=>bs.Zx H (b hp)
 .exact λrow x c d e=>bs.Zx H (b row x c d e)
 exact λl hp c=>bs.Zx H (b l hp c)
def Lt(hC:cb C)(H:c3 B S w β h)(hs:β s=none){t tx ty e:TypeId}{tk f:TI}(am:C.P.underlying t=some (.slice e))(aC:C.ty tx=some tk)(hk:Ou tk.kd=true)(he:C.ty e=some f)
  {y:AV} {vx vy:Value} {s0 lo n p:Nat} {A:Option Addr} {rows c:List (List AV)} (M:av S w β (.X s0 lo n false) (.slice A n p)) (Y:h s0=some (.arr rows f.j)) (aI:lo+n=rows.length) (hy:av S w β y vy) (hr:mY h y=some (f.j,c)) (az:xV h y)
  (hg:n+c.length<=p):
  bs B S w β s ((do pure (.value (<-Builtin.append_ #[t,tx] ty #[.slice A n p,vy])):Sem Next).run C.P w) (.X s 0 (n+c.length) false) (an (an h s0 none) s (some (.arr ((rows.drop lo).take n++c) f.j))):=by
 obtain⟨G,Rc,src⟩:=PM (tk:=tk) H (PN hC aC hk) hy hr az;obtain⟨inf,aN,i1,i2,i3,i4,i5,i6,i7,i8⟩:=(hC.ty e _ he).ZR;obtain⟨l,cs,ee,fr,k1,k2,k3,k4,k5,r,k7,k8⟩:=H.own s0 _ Y
 cases M with
 |X _ _ _ _ d _ _ U hc hm cf hA I bd b4 Z bb=>
 obtain rfl:d=l:=by rw[U]at k1;exact fj k1
 rw[k2]at Z;injection Z with Z;injection Z with q1 q2 q3;subst q1;subst q2;subst q3;have aF:s≠s0:=λe=>by rw[e,U]at hs;cases hs
 have fit:d.base+lo*d.rs+n*d.rs+(kU c.length f.j G).length<=cs.size:=by
  rw[fG, <-r,dW,dW, <-cG, <-cG];exact aL (oQ (eF _ oT) _) bb
 obtain⟨I,a1,a2,a3,a4,a5⟩:=yS d.l (kU c.length f.j G) (d.base+lo*d.rs+n*d.rs) w cs ee fr k2 fit;have ap:=xE (B:=B) k4 (kU c.length f.j G) (d.base+lo*d.rs+n*d.rs) w;have aE:(Builtin.append_ #[t,tx] ty #[.slice A n p,vy]).run C.P w=.ok (.slice A (n+c.length) p) (w.setCells d.l (d.base+lo*d.rs+n*d.rs) (kU c.length f.j G)):=by
  rcases kR p with hc0|hc0
  .have aA:n=0:=oT;have Q:c.length=0:=oT;have ag:=src.len;rw[Q]at ag;have E:=src.cells;rw[Q]at E;have ak:kU 0 f.j G=[]:=by simp[kU]
   rw[Q,ak];rw[ak]at E;subst aA;rcases src.kind with ⟨bd,hk'⟩|hk'<;>cases A<;>simp[Builtin.append_,run_underlying am,run_underlying hk',sizeOf,typeInfo,i1,i2,ag,E,World.setCells,storeCells]
  .rw[hA hc0];have g:∀j,j<(kU c.length f.j G).length->(w.cell? ⟨d.l,d.base+lo*d.rs+n*inf.size+j,none⟩).isSome=true:=λj hj=>by
    rw[i2, <-r,gP k2,aT oT];rfl
   have h2:∀j,j<(kU c.length f.j G).length->w.frozen? ⟨d.l,d.base+lo*d.rs+n*inf.size+j,none⟩=false:=λj hj=>by
    rw[i2, <-r];exact vP k2 k3 _ oT
   have:=run_append_room_src (P:=C.P) w t tx ty e inf am i1 d.l (d.base+lo*d.rs) n p vy c.length (kU c.length f.j G) (by rw[i2];exact src) hg g h2;rw[i2, <-r]at this;rw[<-r];exact this
 have ab:ME β (an β s (some ⟨d.l,d.base+lo*d.rs,d.rs⟩)):=ME.upd hs _;have hE:cp S w (w.setCells d.l (d.base+lo*d.rs+n*d.rs) (kU c.length f.j G)):=⟨λb ay=>a5 b (λe=>k5 (e ▸ ay)),λb c1 v f1 g=>by
  by_cases hq:b=d.l
  .subst hq;rw[k2]at g;injection g with g;injection g with q1 q2 q3;subst q1;subst q2;subst q3;exact⟨I,a1,a2⟩
  .exact⟨c1,(a5 b hq).trans g,R⟩⟩
 have aj:((rows.drop lo).take n).length=n:=by rw[aM,bD];omega
 refine⟨.slice A (n+c.length) p,_,S,an β s (some ⟨d.l,d.base+lo*d.rs,d.rs⟩),.inl (by simp only[Sem.run_bind,aE,Result.andThen_ok,Sem.run_pure]),?_,?_,⟨λ_ h=>h,hE,ap,ab,λx k M=>?_,λ_ h=>.inl h,λb _ ai=>a5 b (λe=>ai s0 d U e.symm)⟩⟩
 .refine .X s 0 (n+c.length) false ⟨d.l,d.base+lo*d.rs,d.rs⟩ A p (dB _ _ _) hg hm (λh=>by cases h) (λY=>by rw[hA Y];simp) I ee fr a1 ?_;rw[a2];rw[dW, <-cG,bJ];exact bb
 .refine⟨λs' ao m=>?_,λs1 s2 O P g h2 v L q=>?_,λb Z=>by have:=H.lt b Z;rw[a4];exact this,by rw[a4];exact H.ZT⟩
  .by_cases J:s'=s
   .subst J;rw[dB]at m;injection m with m;subst m;refine⟨⟨d.l,d.base+lo*d.rs,d.rs⟩,I,ee,fr,dB _ _ _,a1,by rw[a2];exact k3,k4,k5,r,λrow aq=>?_,λi row j a T hj=>?_⟩
    .rcases dz.1 aq with h|h
     .exact k7 row (eT (cQ h))
     .exact Rc.len row h
    .suffices hh:∃u,I[d.base+lo*d.rs+i*d.rs+j]?=some u/\u.oneCell'=true/\av S (w.setCells d.l (d.base+lo*d.rs+n*d.rs) (kU c.length f.j G)) cy a u by
      obtain⟨u,hu,aD⟩:=hh;exact⟨u,by show I[d.base+lo*d.rs+i*f.j+j]?=_;rw[<-r];exact hu,aD⟩
     by_cases z:i<n
     .rw[cF (by rw[aj];exact z),cU,aa z,cL]at T;obtain⟨u,p1,p2,p3⟩:=k8 (lo+i) row j a T hj;have W:j<d.rs:=by rw[r, <-k7 row (aB T)];exact(Em.1 hj).1
      refine⟨u,?_,p2,p3.mono (λ_ h=>h) hE (ME.refl _)⟩;rw[a3,dZ ?_]
      .rw[<-p1, <-r];congr 1;rw[cG];omega
      .rintro⟨g1,_⟩;have:=vM z W;omega
     .rw[bM (by rw[aj];omega),aj]at T;have W:j<d.rs:=by rw[r, <-Rc.len row (aB T)];exact(Em.1 hj).1
      have al:i-n<c.length:=(Em.1 T).1;obtain⟨r1,r2⟩:=Rc.ZX _ row j a T hj;refine⟨G (i-n) j,?_,r1,r2.mono (λ_ h=>h) hE (ME.refl _)⟩;have v:i*d.rs=n*d.rs+(i-n)*d.rs:=by rw[<-cG];congr 1;omega
      have aJ:=vM (rc:=d.rs) al W;rw[a3,aa (by rw[fG, <-r];omega),(oT:d.base+lo*d.rs+i*d.rs+j-(d.base+lo*d.rs+n*d.rs)=(i-n)*d.rs+j), <-r];exact Hr _ _ _ al W
   .rw[cI _ _ J]at m;by_cases F:s'=s0
    .subst F;rw[dB]at m;cases m
    .rw[cI _ _ F]at m;obtain⟨P,aw,L,ax,j1,j2,j3,j4,j5,j6⟩:=H.own s' ao m;have ai:P.l≠d.l:=λaK=>F (H.inj s' s0 P d (by rw[m];simp) (by rw[Y];simp) j1 U aK);exact⟨P,aw,L,ax,ab _ _ j1,(a5 _ ai).trans j2,j3,j4,j5,j6.mono (λ_ h=>h) hE ab⟩
  .have X:∀s1 O,s1≠s->an (an h s0 none) s (some (.arr ((rows.drop lo).take n++c) f.j)) s1≠none->an β s (some ⟨d.l,d.base+lo*d.rs,d.rs⟩) s1=some O->s1≠s0/\h s1≠none/\β s1=some O:=by
    intro s1 O hn g v;rw[cI _ _ hn]at g v;by_cases F:s1=s0
    .rw[F,dB]at g;exact absurd R g
    .rw[cI _ _ F]at g;exact⟨F,g,v⟩
   by_cases n1:s1=s
   .by_cases n2:s2=s
    .rw[n1,n2]
    .subst n1;rw[dB]at v;injection v with v;subst v;obtain⟨b0,b1,b2⟩:=X s2 P n2 h2 L;exact absurd (H.inj s2 s0 P d b1 (by rw[Y];simp) b2 U q.symm) b0
   .by_cases n2:s2=s
    .subst n2;rw[dB]at L;injection L with L;subst L;obtain⟨b0,b1,b2⟩:=X s1 O n1 g v;exact absurd (H.inj s1 s0 O d b1 (by rw[Y];simp) b2 U q) b0
    .obtain⟨_,ar,au⟩:=X s1 O n1 g v;obtain⟨_,b1,b2⟩:=X s2 P n2 h2 L;exact H.inj s1 s2 O P ar b1 au b2 q
 .by_cases J:x=s
  .refine .inr ⟨J,.inr ⟨s0,d,U,?_⟩⟩;subst J;rw[dB]at M;injection M with M;subst M;rfl
  .rw[cI _ _ J]at M;exact .inl M
theorem c3.forget(H:c3 B S w β h)(s0:Nat):c3 B S w β (an h s0 none):=by
 have e:∀s1,an h s0 none s1≠none->h s1≠none:=λs1 c=>by
  by_cases d:s1=s0
  .rw[d,dB]at c;exact absurd R c
  rwa [cI _ _ d]at c
 refine⟨λf blk b=>?_,λs1 s2 l m c j g i k=>H.inj s1 s2 l m (e s1 c) (e s2 j) g i k,H.lt,H.ZT⟩;by_cases d:f=s0
 .rw[d,dB]at b;cases b
 rw[cI _ _ d]at b;exact H.own f blk b
theorem bs.forget{r:Result Next}{x:AV}{h':AH}(s0:Nat)(hp:bs B S w β s r x h'):bs B S w β s r x (an h' s0 none):=
 let ⟨v,w',bb,z,a,b,c,d⟩:=hp;⟨v,w',bb,z,a,b,c.forget s0,d⟩
def Lu(g:cb C)(H:c3 B S w β h){t m ty e:TypeId}{tk f:TI}(k:C.P.underlying t=some (.slice e))(l:C.ty m=some tk)(u:Ou tk.kd=true)(r:C.ty e=some f)
  {y:AV} {p:Value} {n c:Nat} {A:Option Addr} (x:av S w β y p) (v:mY h y=some (f.j,[])) (j:xV h y) (q:n<=c):
  (Builtin.append_ #[t,m] ty #[.slice A n c,p]).run C.P w=.ok (.slice A n c) w:=by
 obtain⟨G,I,src⟩:=PM (tk:=tk) H (PN g l u) x v j;obtain⟨inf,z,E,F,L,M,O,P,Q,T⟩:=(g.ty e _ r).ZR;have d:=src.len;have b:=src.cells;have i:kU ([]:List (List AV)).length f.j G=[]:=by simp[kU]
 rw[i]at b;simp only[cX]at d b;rcases src.kind with ⟨J,hk'⟩|hk'<;>cases A<;>simp[Builtin.append_,run_underlying k,run_underlying hk',sizeOf,typeInfo,E,F,d,b,q,storeCells]
def PO(E:cb C)(H:c3 B S w β h)(F:β s=none)(t tx ty:TypeId){x y:AV}{vx vy:Value}(m:av S w β x vx)(O:av S w β y vy):
  zZ B S w β h s ((do pure (.value (<-Builtin.append_ #[t,tx] ty #[vx,vy])):Sem Next).run C.P w) (bR C h s .append [t,tx] [x,y]):=by
 simp only[bR,qG];split
 .rename_i e sz X z I Y tk ht q;have p:C.P.underlying t=some (.slice e):=(E.ty t _ ht).kd;split
  .rename_i v M;split
   .rename_i r0 J ra a rc c r g d;simp only[mY]at d;injection d with d;injection d with q1 q2;subst q1;subst q2;split
    .rename_i e1 f;have f:=aO f;subst f;rintro⟨p1,p2,G,n⟩
     cases m with
     |Y _ _ _ A cc b o u Q hm j b4 Z hw L bd=>
     have ha:J=[]:=gq p1;subst ha;have T:=j rfl;have ab:(Builtin.firstCells v.j 0 (.slice A 0 cc)).run C.P w.drew=.ok (kU 0 v.j (λ_ _=>undef)).toArray w.drew:=by
      have:kU 0 v.j (λ_ _=>undef)=[]:=by simp[kU]
      rw[this]
      cases A with
      |none=>exact run_firstCells_none w.drew v.j 0 0 cc
      |some A=>exact run_firstCells_some w.drew v.j 0 A 0 cc [] (by simp) (by simp)
     have:=yT (s:=s) (ti:=⟨.slice e,sz,X,z,I,Y⟩) (ra:=0) (rc:=0) E H F p q r M (a:=[]) (ua:=λ_ _=>undef) (n:=0) ⟨by simp,by simp⟩ rfl ab O g n (by simp at T;omega) oT (ty:=ty);simpa using this
    .rename_i e1 i f;have i:=aO i;have f:=aO f;subst f;split
     .rintro⟨G,n⟩;have W:=m
      cases m with
      |Y _ _ _ A cc b o u' Q hm j b4 Z hw L bd=>
      exact⟨_,w,S,β,.inl (by simp only[Sem.run_bind,Lu E H p q r M O g n Q,Result.andThen_ok,Sem.run_pure]),W,H,gy.refl _ _ _ _ _⟩
     .rintro⟨p1,p2,G,n⟩;obtain⟨u,R,hl,U⟩:=AG (C:=C) H m (rc:=r0) (rows:=J) rfl G
      cases m with
      |Y _ _ _ A cc b o u' Q hm j b4 Z hw L bd=>
      subst i;have T:=j rfl;exact yT (s:=s) (ti:=⟨.slice e,sz,X,z,I,Y⟩) (ra:=0) (rc:=0) E H F p q r M R rfl (U w.drew (λ_ _=>rfl) _ (aC _)) O g n oT oT (ty:=ty)
    .trivial
   .rename_i s0 lo len ra a rc c r g d;split
    .rename_i i f;have i:=aO i;have f:=aO f;subst i;subst f;rintro⟨p1,p2,G,n⟩;obtain⟨u,R,hl,U⟩:=AG (C:=C) H m d G
     cases m with
     |X _ _ _ _ l A cc bb Q hm j Z cs c' fr hb cf=>
     have T:=j rfl;have hn:a.length=len:=by
      have:=hl w;simp only[Builtin.lenOf,Sem.run_pure]at this;injection this with this _;exact this.symm
     subst hn;exact yT (s:=s) (ti:=⟨.slice e,sz,X,z,I,Y⟩) (ra:=0) (rc:=0) E H F p q r M R rfl (U w.drew (λ_ _=>rfl) _ (aC _)) O g n oT oT (ty:=ty)
    .trivial
   .rename_i s0 lo len ra a rc c r g d;split
    .rename_i rows rs P i f;have P:h s0=some (.arr rows rs):=P;have i:=aO i;have f:=aO f;subst i;subst f;rintro⟨p1,p2,n⟩;have G:xV h (.X s0 lo len false):=by simp only[xV,P];omega
     obtain⟨u,R,hl,U⟩:=AG (C:=C) H m d G;simp only[mY,P]at d;injection d with d;injection d with q1 q2;subst q1;have aa:a.length=len:=by rw[<-q2,aM,bD];omega
     have W:=m
     cases m with
     |X _ _ _ _ l A c0 bb Q hm j Z cs c' fr hb cf=>
     by_cases hg:len+c.length<=c0
     .have:=Lt (s:=s) E H F p q r M (ty:=ty) (vx:=undef) W P p2 O g n hg;rw[q2]at this;rw[aa];exact this
     .subst aa;have:=(yT (s:=s) (ti:=⟨.slice e,sz,X,z,I,Y⟩) (ra:=0) (rc:=0) E H F p q r M R rfl (U w.drew (λ_ _=>rfl) _ (aC _)) O g n oT oT (ty:=ty)).forget s0;have ai:s≠s0:=λe=>by rw[e,bb]at F;cases F
      rw[show an (an h s (some (.arr (a++c) v.j))) s0 none=an (an h s0 none) s (some (.arr (a++c) v.j))from by
       funext k;by_cases L:k=s0
       .subst L;rw[dB,cI _ _ (Ne.symm ai),dB]
       .rw[cI _ _ L];by_cases h2:k=s
        .subst h2;rw[dB,dB]
        .rw[cI _ _ h2,cI _ _ h2,cI _ _ L]]at this
      exact this
    .trivial
   .trivial
  .trivial
 .trivial
end
end Go.Proofs.YtiaekocjeinkjaaGreatDoor
namespace Go.Proofs.YtiaekocjeinkjaaGreatDoor
open Go.RowKit
section
variable {C:a5}{S:Nat->Prop}{w w':World}{β:Bt}{B:Nat}{h:AH}{s:Nat}
def Wp(W:cb C)(H:c3 B S w β h)(ts:List TypeId)(ty:TypeId){x y:AV}{vx vy:Value}(P:av S w β x vx)(hy:av S w β y vy):
  zZ B S w β h s ((do pure (.value (<-Builtin.copy_ ts.toArray ty #[vx,vy])):Sem Next).run C.P w) (EB C h ts x y):=by
 unfold EB;split
 .trivial
 .rename_i t rest;split
  .rename_i e sz ag aq an eq ht;have T:C.P.underlying t=some (.slice e):=(W.ty t _ ht).kd;split
   .rename_i d s0 lo len am he;split
    .rename_i rows rs rc c h0 ai;split
     .rename_i J U;have J:=aO J;have U:=aO U;subst J;subst U;rintro⟨p1,p2⟩;obtain⟨u,R,G,hf⟩:=AG (C:=C) H hy ai p2;obtain⟨l,cs,ee,fr,k1,Q,k3,k4,k5,n,k7,k8⟩:=H.own s0 _ h0
      cases P with
      |X _ _ _ _ b A E hl hc hm b4 hA bb cf bd L z=>
      obtain rfl:b=l:=by rw[hl]at k1;exact fj k1
      rw[Q]at L;injection L with L;injection L with q1 q2 q3;subst q1;subst q2;subst q3;have hn:min c.length len<=c.length:=Nat.min_le_left _ _;have ap:min c.length len<=len:=eX _ _;have g:=hf w (λ_ _=>rfl) (min c.length len) hn;have fit:b.base+lo*b.rs+(kU (min c.length len) d.j u).length<=cs.size:=by
       rw[fG, <-n,dW, <-cG];exact aL (oQ (eF _ oT) _) z
      have Z:∀x∈kU (min c.length len) d.j u,x.oneCell'=true:=by
       intro x P;simp only[kU,pG,lI]at P;obtain⟨k,X,rfl⟩:=P;have ab:0<d.j:=eU λe=>by rw[e]at X;simp at X
       have f:k/d.j<c.length:=e5 (fO (by rw[fR];exact X)) hn;have O:c[k/d.j]?=some c[k/d.j]:=aA f;have p:k%d.j<c[k/d.j].length:=by rw[R.len _ (aB O)];exact aQ _ ab
       exact(R.ZX _ _ _ _ O (aA p)).1
      have al:(Builtin.copy_ (t::rest).toArray ty #[.slice A len E,vy]).run C.P w=.ok (.int .i64 ((min c.length len:Nat):Int)) (w.setCells b.l (b.base+lo*b.rs) (kU (min c.length len) d.j u)):=by
       have aj:∀a,A=some a->(storeCells a (kU (min c.length len) d.j u)).run C.P w=.ok () (w.setCells b.l (b.base+lo*b.rs) (kU (min c.length len) d.j u)):=by
        intro a q;rcases kR E with hc0|hc0
        .have:min c.length len=0:=oT;rw[this];simp[kU,storeCells,World.setCells]
        .rw[hA hc0]at q;injection q with q;subst q;have:=run_storeCells_cells (P:=C.P) b.l (b.base+lo*b.rs) (kU (min c.length len) d.j u) 0 w (λj p=>by rw[gP Q,aT oT];rfl) (λj p=>vP Q k3 _ oT) Z;simpa using this
       have M:A=none->min c.length len=0:=λq=>by
        rcases kR E with hc0|hc0
        .omega
        .rw[hA hc0]at q;cases q
       cases A with
       |none=>
        have hz:=M rfl;rw[hz]at g⊢;have ak:Nat.min c.length len=0:=hz;simp only[Builtin.copy_,eM,cP,dL,Sem.run_bind,run_underlying T,Result.andThen_ok,G,AK W he,ak,g,Sem.run_pure,goInt]
        simp[kU,World.setCells]
       |some a=>
        have Y:Nat.min c.length len=min c.length len:=rfl;simp only[Builtin.copy_,eM,cP,dL,Sem.run_bind,run_underlying T,Result.andThen_ok,G,AK W he,Y,g,aj a rfl,Sem.run_pure,goInt]
      have I:∀(i:Nat) row,(rows.take lo++c.take (min c.length len)++rows.drop (lo+min c.length len))[i]?=some row->(lo<=i∧i<lo+min c.length len∧c[i-lo]?=some row)∨(¬(lo<=i∧i<lo+min c.length len)∧rows[i]?=some row):=by
       intro i row f;have h1:(rows.take lo).length=lo:=by rw[aM];omega
       have h2:(c.take (min c.length len)).length=min c.length len:=by rw[aM];omega
       by_cases g1:i<lo
       .rw[eD,cF oT,cU,aa g1]at f;exact .inr ⟨oT,f⟩
       .by_cases g2:i<lo+min c.length len
        .rw[eD,bM oT,cF oT,cU,h1,aa oT]at f;exact .inl ⟨oT,g2,f⟩
        .rw[bM (by rw[aU];omega),cL,aU,h1,h2]at f;refine .inr ⟨oT,?_⟩;rw[<-f];congr 1;omega
      obtain⟨r1,r2⟩:=DT (s:=s) H h0 hl Q k4 (kU (min c.length len) d.j u) (b.base+lo*b.rs) fit (blk:=.arr (rows.take lo++c.take (min c.length len)++rows.drop (lo+min c.length len)) d.j) (λw' bb hE F=>by
       refine⟨n,λrow O=>?_,λi row j a f p=>?_⟩
       .obtain⟨i,f⟩:=List.mem_iff_getElem?.1 O;rcases I i row f with ⟨_,_,m⟩|⟨_,m⟩
        .exact R.len row (aB m)
        .exact k7 row (aB m)
       .rw [<-n];rcases I i row f with ⟨g1,g2,m⟩|⟨g1,m⟩
        .have r:j<b.rs:=by rw[n, <-R.len row (aB m)];exact(Em.1 p).1
         obtain⟨t1,t2⟩:=R.ZX _ row j a m p;refine⟨u (i-lo) j,?_,t1,t2.mono (λ_ h=>h) hE (ME.refl _)⟩;have ao:=vM (rc:=b.rs) (by omega:i-lo<min c.length len) r;have J:i*b.rs=lo*b.rs+(i-lo)*b.rs:=by rw[<-cG];congr 1;omega
         rw[F,aa (by rw[fG, <-n];omega),(oT:b.base+i*b.rs+j-(b.base+lo*b.rs)=(i-lo)*b.rs+j), <-n];exact Hr _ _ _ oT r
        .have r:j<b.rs:=by rw[n, <-k7 row (aB m)];exact(Em.1 p).1
         obtain⟨v,t0,t1,t2⟩:=k8 i row j a m p;rw[<-n]at t0;refine⟨v,?_,t1,t2.mono (λ_ h=>h) hE (ME.refl _)⟩;rw[F,dZ ?_]
         .exact t0
         .rw[fG, <-n];rintro⟨q1,q2⟩;by_cases g2:i<lo
          .have:=vM g2 r;omega
          .have g3:lo+min c.length len<=i:=oT;have:(lo+min c.length len)*b.rs<=i*b.rs:=eF _ g3;rw[cG]at this;omega)
      exact⟨_,_,S,β,.inl (by simp only[Sem.run_bind,al,Result.andThen_ok,Sem.run_pure]),.v _,r1,r2⟩
     .trivial
    .trivial
   .trivial
  .trivial
end
end Go.Proofs.YtiaekocjeinkjaaGreatDoor
namespace Go.Proofs.YtiaekocjeinkjaaGreatDoor
open Go.RowKit
section
variable {C:a5}{S:Nat->Prop}{w w':World}{β:Bt}{B:Nat}{h:AH}{s:Nat}
def Wq(X:cb C)(H:c3 B S w β h)(G:β s=none){t e:TypeId}{q:TI}(I:C.P.underlying t=some (.slice e))(Z:C.ty e=some q){z:List AV}(hz:kN q.zero=some z)(y:eW z=true)(O M:IntKind)(l c:Int)(T:0<=l)(U:l<=c)(W:c<=jH):
  bs B S w β s ((do pure (.value (<-Instr.makeSlice t (.int O l) (.int M c))):Sem Next).run C.P w) (.X s 0 l.toNat false) (an h s (some (.arr (List.replicate l.toNat z) z.length))):=by
 obtain⟨inf,d,i1,J,i3,m,L,i6,i7,i8⟩:=CP (S:=S) (w:=w) (β:=β) X Z hz;have k:z.length=q.j:=by rw[m.ZX.1, <-L];simp
 have u:c<=1000000:=W;have r:(inf.bytes:Int)*c<=281474976710656:=by
  have Q:(inf.bytes:Int)<=1000:=by rw[i6];omega
  have:(inf.bytes:Int)*c<=1000*1000000:=Int.mul_le_mul Q u oT oT;omega
 have P:=run_make (P:=C.P) w t e inf d I i1 i3 O M l c T U r oT;have x:(w.alloc (.cells (madeCells d.cells (c.toNat*inf.size)) e)).heap=w.heap.push (.cells (madeCells d.cells (c.toNat*inf.size)) e):=rfl;have E:ME β (an β s (some ⟨w.heap.size,0,z.length⟩)):=ME.upd G _;have Y:cp S w (w.alloc (.cells (madeCells d.cells (c.toNat*inf.size)) e)):=cp.ZQ (λb r=>iG x r) H.lt;obtain⟨p1,p2⟩:=AF H G x (λo _=>by simp) ((Below.refl B w).alloc H.ZT _) (l:=⟨w.heap.size,0,z.length⟩) (blk:=.arr (List.replicate l.toNat z) z.length) R ⟨R,λrow hr=>by rw[(List.mem_replicate.1 hr).2],λi row j a f v=>by
  have A:i<l.toNat:=by have:=(Em.1 f).1;simpa using this
  rw[jG,aa A]at f;injection f with f;subst f;have g:j<z.length:=(Em.1 v).1;have n:j<d.cells.toList.length:=by rw[<-m.ZX.1];exact g
  have p:d.cells.toList[j]?=some d.cells.toList[j]:=aA n;refine⟨d.cells.toList[j],?_,m.one j _ p,mB ((m.ZX.2 j a _ v p).mono (λ_ h=>h) Y E) (fW z y j a v) _⟩;have F:i*z.length+j<c.toNat*inf.size:=by rw[J, <-k];exact vM oT g
  rw[bJ];simp only[madeCells,pH];rw[show(Array.range (c.toNat*inf.size))[i*z.length+j]?=some (i*z.length+j) by simp[F],dF,L, <-k,(qs g).2];congr 1;have:j<d.cells.size:=sU n;rw[getElem!_pos d.cells j this];rfl⟩
 refine⟨.slice (some ⟨w.heap.size,0,none⟩) l.toNat c.toNat,_,S,_,.inl (by simp only[Sem.run_bind,P,Result.andThen_ok,Sem.run_pure]),?_,p1,p2⟩;refine .X s 0 l.toNat false ⟨w.heap.size,0,z.length⟩ _ c.toNat (dB _ _ _) oT (by unfold maxLen;omega) (λh=>by cases h) (λ_=>by simp) _ e _ (rX x) ?_;rw[size_madeCells,J,k,bJ,bJ];exact aC _
def Lv(L:cb C)(H:c3 B S w β h)(E:β s=none){src c e:TypeId}(l:C.P.underlying src=some .string)(d:C.P.underlying c=some (.slice e))(z:C.P.underlying e=some (.int .u8))(b:ByteArray)(v:b.size<=jH):
  bs B S w β s ((do pure (.value (<-convert src c (.string b))):Sem Next).run C.P w) (.X s 0 b.size false) (an h s (some (.arr (aS b) 1))):=by
 have u:=run_bytes_of_string (P:=C.P) w src c e b l d z;have y:b.size<=1000000:=v;have m:=grownCap_ge w b.size 0 e;have A:grownCap w b.size 0 e<=maxLen:=grownCap_le_maxLen _ _ _ _ (by unfold maxLen;omega);have p:(bytesRow b (grownCap w b.size 0 e)).size=grownCap w b.size 0 e:=by
  have:b.data.size=b.size:=rfl;simp[bytesRow,this];omega
 have q:(w.drew.alloc (.cells (bytesRow b (grownCap w b.size 0 e)) e ((bytesRow b (grownCap w b.size 0 e)).size,(bytesRow b (grownCap w b.size 0 e)).size+1))).heap=w.heap.push (.cells (bytesRow b (grownCap w b.size 0 e)) e ((bytesRow b (grownCap w b.size 0 e)).size,(bytesRow b (grownCap w b.size 0 e)).size+1)):=rfl;have k:(aS b).length=b.size:=by simp[aS]
 obtain⟨F,G⟩:=AF H E q (λo M=>by simp;omega) ((Below.refl B w).drew.alloc H.ZT _) (l:=⟨w.heap.size,0,1⟩) (blk:=.arr (aS b) 1) R ⟨R,λrow n=>by
   simp only[aS,pG]at n;obtain⟨x,_,rfl⟩:=n;rfl,λi row j a f g=>by
  have J:i<b.size:=by rw[<-k];exact(Em.1 f).1
  simp only[aS,aX]at f;obtain⟨x,r,rfl⟩:=Gi.1 f
  cases j with
  |succ j=>simp at g
  |zero=>
   simp only[cP,jc]at g;subst g;refine⟨.int .u8 x.toNat,?_,R,.v _⟩;rw[bQ]at r;have I:b.data.size=b.size:=rfl;simp only[bytesRow,bJ,iD,iU];rw[dS (by simp;omega),pH,r];rfl⟩
 refine⟨.slice (some ⟨w.heap.size,0,none⟩) b.size (grownCap w b.size 0 e),_,S,_,.inl (by simp only[Sem.run_bind,u,Result.andThen_ok,Sem.run_pure]),?_,F,G⟩;refine .X s 0 b.size false ⟨w.heap.size,0,1⟩ _ _ (dB _ _ _) m A (λh=>by cases h) (λ_=>by simp) _ e _ (rX q) ?_;show 0+(0+grownCap w b.size 0 e)*1<=_;rw[p];omega
theorem Dn:∀(rows:List (List AV)) (l:List UInt8),gU rows=some l->∃b:List Int,rows=b.map (λn=>[.v (.int .u8 n)])/\l=b.map (λn=>UInt8.ofNat n.toNat)
 |[],l,h=>by simp only[gU]at h;injection h with h;subst h;exact⟨[],R,R⟩
 | r::rows,l,h=>by
  unfold gU at h;split at h
  .rename_i c;cases c
  .rename_i n rs c;injection c with e f;subst e;subst f;split at h
   .rename_i j d;injection h with h;subst h;obtain⟨b,g,i⟩:=Dn rows j d;exact⟨n::b,by rw[g];rfl,by rw[i];rfl⟩
   .cases h
  .cases h
theorem Gy:∀(b:List Int) (r:ByteArray),b.foldl (λr n=>r.push (UInt8.ofNat n.toNat)) r=⟨r.data++(b.map λn=>UInt8.ofNat n.toNat).toArray⟩
 |[],r=>by simp
 |n::b,r=>by
  simp only[mK,jC];rw[Gy b];simp[ByteArray.push]
def Lw(hC:cb C)(H:c3 B S w β h){src m e:TypeId}(F:C.P.underlying src=some (.slice e))(z:C.P.underlying m=some .string)(he:C.P.underlying e=some (.int .u8)){x:AV}{vx:Value}{rc:Nat}{rows:List (List AV)}
  (X:av S w β x vx) (W:∀b,x≠ .v (.string b)) (f:mY h x=some (rc,rows)) (T:xV h x) (l:List UInt8) (Q:gU rows=some l):hM C.P S w β (.v (.string ⟨l.toArray⟩)) (convert src m vx):=by
 obtain⟨u,R,E,O⟩:=AG (C:=C) H X f T;obtain⟨g,p,G⟩:=Dn rows l Q;obtain⟨A,c,hv⟩:∃A c,vx=.slice A rows.length c:=by
  have j:=E w
  cases X with
  |v=>cases vx<;>first|exact absurd rfl (W _)|(simp[mY]at f;done)
  |Y rs rows' y A c b o u Z hm L bd Y hw h1 bb=>
   simp only[mY]at f;injection f with f;injection f with q1 q2;subst q2
   exact⟨A,c,rfl⟩
  |X s0 lo len y l A c Q Z hm L Y cs e fr hb ag=>
   simp only[Builtin.lenOf,Sem.run_pure]at j;injection j with j _
   exact⟨A,c,by rw[j]⟩
  |_=>simp only[mY]at f;cases f
 subst hv;refine⟨_,?_,.v _⟩;rw[run_convert_bytes_string w src m e A rows.length c F he z];have r:0<rows.length->rc=1:=λI=>by
  obtain⟨row,d⟩:=List.exists_mem_of_length_pos I;rw[<-R.len row d];rw[p]at d;obtain⟨n,_,rfl⟩:=pG.1 d;rfl
 have hu:∀i,i<rows.length->u i 0=.int .u8 (g.getD i 0):=λi P=>by
  have U:i<g.length:=by rw[p]at P;simpa using P
  have d:rows[i]?=some [.v (.int .u8 (g.getD i 0))]:=by
   rw[p,aX,aA U,aR,aA U];rfl
  exact(lV (R.ZX i _ 0 _ d rfl).2)
 have aa:g.length=rows.length:=by rw[p];simp
 cases A with
 | none=>
  have I:rows.length=0:=by
   rcases kR rows.length with h|h
   .exact h
   .have:=O w (λ_ _=>rfl) rows.length (aC _);rw[run_firstCells_none]at this;injection this with this _;have J:=am Array.size this;rw[r h]at J;simp[fG]at J;omega
  have:g=[]:=gq oT;subst this;subst G
  rfl
 | some a=>
  have q:(loadCells a rows.length).run C.P w=.ok (g.map (Value.int .u8)).toArray w:=by
   rcases kR rows.length with h|h
   .have:g=[]:=gq oT;subst this;rw[h];rfl
   .have:=O w (λ_ _=>rfl) rows.length (aC _);rw[r h]at this;simp only[Builtin.firstCells,iD]at this;rw[this];congr 2;apply dD;intro k;by_cases hk:k<rows.length
    .rw[vL _ _ _ _ oT,qU,Nat.mod_one,hu k hk,aX,aA oT,aR,aA oT];rfl
    .rw[bE (by rw[fG];omega),bE (by simp;omega)]
  rw[run_bytesToString w a rows.length c g q,Gy,G];have M:ByteArray.empty.data= #[]:=rfl;rw[M];simp
theorem Lx:∀(n:Nat) (b l:List AV),n+b.length<=l.length->zS n b l=l.take n++b++l.drop (n+b.length)
 |0,[],l,_=>by simp[zS]
 |0,c::b,x::l,h=>by simp[zS,Lx 0 b l (by simp at h;omega)]
 |0,c::b,[],h=>by simp at h
 |n+1,b,x::l,h=>by
  simp only[zS,Lx n b l (by simp at h;omega),oP,nV,eD]
  rw[(oT:n+1+b.length=(n+b.length)+1),List.drop_succ_cons]
 |n+1,b,[],h=>by simp at h
theorem Gz(d:Nat):∀(e:List (Nat×AV)) (k:Nat) (rows:List (List AV)) (cells:List AV),FL d k e=some rows->cells.length=(k+rows.length)*d->
  HJ C (λi=>some (i*d,d)) cells e=some (cells.take (k*d)++rows.flatten)
 |[],k,rows,cells,h,c=>by
  simp only[FL]at h;injection h with h;subst h;simp only[HJ,List.flatten_nil,dY]
  rw[aN (by rw[c];simp)]
 | (i,x)::e,k,rows,cells,h,c=>by
  simp only[FL]at h;split at h
  .rename_i b rows' g n p;split at h
   .rename_i j q;injection h with h;subst h;have g:=aO g;subst g;have j:=aO j;subst j;simp only[bN]at c;have f:i*b.length+b.length<=cells.length:=by
     rw[c];have:(i+1)*b.length<=(i+(rows'.length+1))*b.length:=eF _ oT;rw[cG,lD]at this;exact this
    have hp:=Lx (i*b.length) b cells f;have l:=vO (i*b.length) b cells f;have ih:=Gz b.length e (i+1) rows' (zS (i*b.length) b cells) p (by rw[l,c];congr 1;omega);simp only[HJ,n];rw[show Nat.beq b.length b.length=true from nG _,show Nat.ble (i*b.length+b.length) cells.length=true from iL f];simp only;rw[ih,hp];congr 1;have m:(cells.take (i*b.length)).length=i*b.length:=by rw[aM];omega
    rw[List.take_append_of_le_length (by rw[aU,m,cG,lD];exact aC _),aN (by rw[aU,m,cG,lD];exact aC _)];simp
   .cases h
  .cases h
theorem Ex{b:Nat}:∀(rows:List (List AV)),(∀row∈rows,row.length=b)->∀(i:Nat) row (j:Nat) a,rows[i]?=some row->row[j]?=some a->rows.flatten[i*b+j]?=some a
 |[],_,i,row,j,a,h,_=>by simp at h
 |r::rows,d,0,row,j,a,h,c=>by
  simp only[cP,jc]at h;subst h;rw[mU,Nat.zero_mul,bJ,cF (Em.1 c).1]
  exact c
 |r::rows,d,i+1,row,j,a,h,c=>by
  have f:r.length=b:=d r (ce);rw[mU,bM (by rw[f,cG];omega),f,show(i+1)*b+j-b=i*b+j by rw[cG];omega];exact Ex rows (λrow e=>d row (bY _ e)) i row j a (sU h) c
theorem GA(c:Nat):∀(b:List (Nat×AV)) (k:Nat) (rows:List (List AV)),FL c k b=some rows->∀row∈rows,row.length=c/\eW row=true
 |[],k,rows,h,row,hr=>by
  simp only[FL]at h;injection h with h;subst h
  cases hr
 | (i,x)::b,k,rows,h,row,hr=>by
  simp only[FL]at h;split at h
  .rename_i g rows' j l d;split at h
   .rename_i e f;injection h with h;subst h;rcases eu.1 hr with rfl|hr
    .exact⟨aO e,f⟩
    .exact GA c b (k+1) rows' d row hr
   .cases h
  .cases h
def Hs(hC:cb C)(H:c3 B S w β h){t e:TypeId}{c:TI}(ai:C.P.underlying t=some (.slice e))(he:C.ty e=some c)(J:List (Nat×AV))(O:Array (Nat×Value))(hq:Ez S w β J O.toList){rows:List (List AV)}(M:FL c.j 0 J=some rows)
  {len:Nat} (W:rows.length=len) (h0:0<len) (hb:len*c.j<=16777216):bs B S w β s ((do pure (.value (<-Instr.buildSlice t len O)):Sem Next).run C.P w) (.Y c.j rows true) h:=by
 obtain⟨inf,z,i1,i2,i3,i4,i5,i6,i7,i8⟩:=(hC.ty e _ he).ZR;have hz:jw S w β (List.replicate (len*c.j) AV.any) ((Array.range (len*c.j)).map (z.cells[· % z.cells.size]!)).toList:=by
  have X:∀(i:Nat) u,z.cells[i]?=some u->u.oneCell'=true:=(hC.ty e _ he).one inf z i1 i4;refine⟨⟨by simp,λi a u p ak=>by
   rw[jG]at p;split at p
   .injection p with p;subst p;exact .any _
   cases p⟩,λi u hu=>?_⟩
  simp only[bQ,pH]at hu;obtain⟨k,hk,rfl⟩:=Gi.1 hu;have g:k%z.cells.size<z.cells.size:=aQ _ oT;rw[getElem!_pos z.cells _ g];exact X _ _ (aT g)
 obtain⟨d,g1,g2⟩:=HC (C:=C) (pv:=λi=>some (i*c.j,c.j)) (λi x Z=>Z) J O.toList _ _ _ hq hz (Gz c.j J 0 rows _ M (by rw[cM,W,bJ]));have Y: ¬len*c.j=0:=Nat.ne_of_gt (Nat.mul_pos h0 i7);have aj:=run_buildSlice (P:=C.P) w t e len O d inf z ai i1 i4 (by rw[i2];omega) (by rw[i2];exact Y) (by rw[i2];exact g1);have G:(w.alloc (.cells d e)).heap=w.heap.push (.cells d e):=rfl;have T:cp S w (w.alloc (.cells d e)):=cp.ZQ (λb hb=>iG G hb) H.lt;have spec:=GA c.j J 0 rows M;have E:jw S w β rows.flatten d.toList:=sU g2;have U:∀b,S b->S b\/b=w.heap.size:=λb hb=>.inl hb;have v:∀(i:Nat) row (j:Nat) a,rows[i]?=some row->row[j]?=some a->∃u,d[i*c.j+j]?=some u/\u.oneCell'=true/\av S w β a u:=by
  intro i row j a f m;have hf:=Ex rows (λr M=>(spec r M).1) i row j a f m;have g:i*c.j+j<d.toList.length:=by rw[<-E.ZX.1];exact(Em.1 hf).1
  exact⟨d.toList[i*c.j+j],by rw[<-bQ,aA g],E.one _ _ (aA g),E.ZX.2 _ _ _ hf (aA g)⟩
 refine⟨.slice (some ⟨w.heap.size,0,none⟩) len len,_,(λb=>S b\/b=w.heap.size),β,.inl (by simp only[Sem.run_bind,aj,Result.andThen_ok,Sem.run_pure]),?_,?_,⟨U,T,(Below.refl B w).alloc H.ZT _,ME.refl _,λ_ _ Z=>.inl Z,λb hb=>hb.imp id λe=>⟨by rw[e];exact H.ZT,.inl (by rw[e];exact aC _)⟩,λb hb _=>iG G hb⟩⟩
 .have hm:len<=maxLen:=by
   have:len*1<=len*c.j:=Nat.mul_le_mul_left _ i7;unfold maxLen;omega
  rw[<-W];refine .Y c.j rows true _ rows.length w.heap.size 0 (λi j=>if i<rows.length/\j<c.j then d.getD (i*c.j+j) (.bool false)else .bool false) (aC _) (by rw[W];exact hm) (λ_=>rfl) (λrow l=>(spec row l).1) (λ_=>⟨R,.inr R⟩) (λi row j a f m=>?_) (λi j=>?_) λi row j a f m=>?_
  .obtain⟨u,y,A,I⟩:=v i row j a f m;have F:=(Em.1 f).1;have n:j<c.j:=by rw[<-(spec row (aB f)).1];exact(Em.1 m).1
   rw[aa ⟨F,n⟩,gP (rX G),bJ,aK,y];rfl
  .show(if i<rows.length/\j<c.j then d.getD (i*c.j+j) (.bool false)else .bool false).oneCell'=true;by_cases L:i<rows.length/\j<c.j
   .have l:rows[i]?=some rows[i]:=aA L.1;have n:j<rows[i].length:=by rw[(spec _ (aB l)).1];exact L.2
    obtain⟨u,y,A,I⟩:=v i _ j _ l (aA n);rw[aa L,aK,y];exact A
   rw[dZ L];rfl
  obtain⟨u,y,A,I⟩:=v i row j a f m;have F:=(Em.1 f).1;have n:j<c.j:=by rw[<-(spec row (aB f)).1];exact(Em.1 m).1
  rw[aa ⟨F,n⟩,aK,y];exact mB (I.mono U T (ME.refl _)) (fW row (spec row (aB f)).2 j a m) cy
 have P:(w.alloc (.cells d e)).heap.size=w.heap.size+1:=by rw[G];simp
 refine⟨λs' Q ag=>?_,H.inj,λb hb=>?_,by rw[P];have:=H.ZT;omega⟩
 .obtain⟨l',q,e',ab,y,A,I,k4,k5,k6⟩:=H.own s' Q ag;refine⟨l',q,e',ab,y,(iG G (fJ A)).trans A,I,k4,λhb=>?_,k6.mono U T (ME.refl _)⟩;rcases hb with hb|hb
  .exact k5 hb
  have:=fJ A;omega
 rw[P];rcases hb with hb|hb
 .have:=H.lt b hb;omega
 omega
def FI(y:cb C)(H:c3 B S w β h){t e:TypeId}{k:TI}(r:C.P.underlying t=some (.slice e))(A:C.ty e=some k)(l:Array (Nat×Value))(E:l.toList=[]):
  bs B S w β s ((do pure (.value (<-Instr.buildSlice t 0 l)):Sem Next).run C.P w) (.Y k.j [] true) h:=by
 obtain⟨inf,z,I,U,W,X,Y,Z,i7,i8⟩:=(y.ty e _ A).ZR;have v:(Instr.buildSlice t 0 l).run C.P w=.ok (.slice (some ⟨w.heap.size,0,none⟩) 0 0) (w.alloc (.cells #[] e)):=by
  have F:Array.range 0= #[]:=rfl;unfold Instr.buildSlice;simp[run_underlying r,sizeOf,typeInfo,I,E,F,Instr.fill,newRow,newObj,Sem.run_bind,Result.andThen];rfl
 have d:(w.alloc (.cells #[] e)).heap=w.heap.push (.cells #[] e):=rfl;have p:cp S w (w.alloc (.cells #[] e)):=cp.ZQ (λb c=>iG d c) H.lt;refine⟨.slice (some ⟨w.heap.size,0,none⟩) 0 0,_,S,β,.inl (by simp only[Sem.run_bind,v,Result.andThen_ok,Sem.run_pure]),?_,?_,⟨λ_ h=>h,p,(Below.refl B w).alloc H.ZT _,ME.refl _,λ_ _ G=>.inl G,λb c=>.inl c,λb c _=>iG d c⟩⟩
 .exact .Y k.j [] true _ 0 0 0 (λ_ _=>.bool false) (by simp) (by simp) (λ_=>rfl) (λ_ h=>by simp at h) (λh=>by simp at h) (λi row j a h=>by simp at h) (λ_ _=>rfl) (λi row j a h=>by simp at h)
 have f:(w.alloc (.cells #[] e)).heap.size=w.heap.size+1:=by rw[d];simp
 refine⟨λT g q=>?_,H.inj,λb c=>?_,by rw[f];have:=H.ZT;omega⟩
 .obtain⟨Q,m,x,n,J,u,L,M,O,P⟩:=H.own T g q;exact⟨Q,m,x,n,J,(iG d (fJ u)).trans u,L,M,O,P.mono (λ_ h=>h) p (ME.refl _)⟩
 have:=H.lt b c;rw[f];omega
end
section
variable {C:a5}{V:Inv C.fr}{S:Nat->Prop}{w w':World}{β:Bt}{B:Nat}{h:AH}{s:Nat}
theorem b6.of_map{ev:Operand->AV}{ρ:Operand->Value}:∀(l:List Operand),(∀x∈l,av S w β (ev x) (ρ x))->b6 S w β (l.map ev) (l.map ρ)
 |[],_=>b6.nil _ _ _
 |x::l,z=>b6.cons (z x (ce)) (b6.of_map l λy b=>z y (bY _ b))
theorem b6.append{a b:List AV}{u v:List Value}(h:b6 S w β a u)(k:b6 S w β b v):b6 S w β (a++b) (u++v):=by
 refine⟨by simp[h.1,k.1],λi x y p q=>?_⟩;by_cases c:i<a.length
 .rw[cF c]at p;rw[cF (by rw[<-h.1];exact c)]at q;exact h.2 i x y p q
 rw[bM oT]at p;rw[bM (by rw[<-h.1];omega)]at q;exact k.2 _ x y p (by rw[h.1];exact q)
theorem Ez.of_map{ev:Operand->AV}{ρ:Operand->Value}:∀(l:List (Nat×Operand)),(∀x∈l,av S w β (ev x.2) (ρ x.2))->Ez S w β (l.map λp=>(p.1,ev p.2)) (l.map λp=>(p.1,ρ p.2))
 |[],_=>trivial
 |x::l,z=>⟨R,z x (ce),Ez.of_map l λy b=>z y (bY _ b)⟩
def MA(P:Program)(B:Nat)(S:Nat->Prop)(w:World)(β:Bt)(h:AH)(s:Nat)(m:Sem Next):b1->Prop
 | .call f args=>∃b,b6 S w β args b/\m.run P w=(callFunc f b.toArray).run P w
 |r=>zZ B S w β h s (m.run P w) r
theorem MA.of{P:Program}{m:Sem Next}{r:b1}(z:zZ B S w β h s (m.run P w) r):MA P B S w β h s m r:=by
 cases r<;>first|exact z|exact z.elim
def MB(n:cb C)(H:c3 B S w β h)(hs:β s=none)(ev:Operand->AV)(ρ:Operand->Value)(o:Oper)(j:∀x∈o.op.operands,av S w β (ev x) (ρ x))(aN:∀v,ρ (.const v)=v):
  MA C.P B S w β h s (execOp ρ o) (bj C ev h s o.op):=by
 obtain⟨Q,op,A,al,T,guard⟩:=o;cases op<;>simp only[bj]<;>simp only[Op.operands]at j<;>try (exact tr)
 case move x=>exact⟨_,_,S,β,.inl R,j x (by simp),H,gy.refl _ _ _ _ _⟩
 case assign x=>exact⟨_,_,S,β,.inl R,j x (by simp),H,gy.refl _ _ _ _ _⟩
 case pick c a b=>
  have:=(Wr (P:=C.P) (j c (by simp)) (j a (by simp)) (j b (by simp))).post (s:=s) H;exact MA.of (by simpa only[execOp,bind_pure_comp,Functor.map_map]using this)
 case alloc t=>
  split
  .rename_i cs L;simp only[AL]at L;split at L
   .rename_i i hi;exact λ_=>Tn n H hs t hi L
   .cases L
  .trivial
 case box t x=>
  split
  .rename_i cs L;exact λ_=>Vx (C:=C) H hs t (j x (by simp)) L
  .trivial
 case build t parts=>
  have O:Ez S w β (parts.toList.map λp=>(p.1,ev p.2)) (parts.map λ(i,x)=>(i,ρ x)).toList:=by
   rw[jN];exact Ez.of_map parts.toList λx k=>j x.2 (by simp;exact⟨x.1,sU k⟩)
  exact MA.of ((Tx n t _ _ O).post (s:=s) H)
 case buildSlice t len parts=>
  have O:Ez S w β (parts.toList.map λp=>(p.1,ev p.2)) (parts.map λ(i,x)=>(i,ρ x)).toList:=by
   rw[jN];exact Ez.of_map parts.toList λx k=>j x.2 (by simp;exact⟨x.1,sU k⟩)
  split
  .rename_i e sz ag z aQ eq ht;have aq:C.P.underlying t=some (.slice e):=(n.ty t _ ht).kd;split
   .rename_i ei F;split
    .rename_i rows P;split
     .rename_i M h3;have M:=aO M;rcases kR len with h0|h0
      .subst h0;have aL:rows=[]:=gq M;subst aL;have hp:(parts.toList.map λp=>(p.1,ev p.2))=[]:=by
        cases aK:(parts.toList.map λp=>(p.1,ev p.2))with
        |nil=>rfl
        |cons p cf=>
         rw[aK]at P;obtain⟨i,x⟩:=p;simp only[FL]at P;split at P
         .split at P<;>simp at P
         .cases P
       have aI:parts.toList=[]:=sU hp;exact FI n H aq F _ (by rw[jN,aI];rfl)
      .exact Hs n H aq F _ _ O P M h0 (aJ h3)
     .trivial
    .trivial
   .trivial
  .trivial
 case load t a=>exact MA.of ((Wv n H t (j a (by simp))).post (s:=s) H)
 case store t a x=>
  have ha:=j a (by simp);have k:=j x (by simp);split
  .rename_i ti cs ht L;split
   .rename_i J;split
    .rename_i b c ak;split
     .rename_i cells Y;split
      .rename_i Z;rw[ak]at ha;exact λ_=>Lq n H ht L (aO J) Y (aJ Z) ha k
      .trivial
     .trivial
    .rename_i b r c ak;split
     .rename_i rows rs Y;rw[ak]at ha;intro row h' h0 aj I;dsimp only at I;split at I
      .rename_i Z az;injection I with I;subst I;exact Lr n H ht L (aO J) Y (sU aj) (aJ Z) az ha k
      .cases I
     .rename_i cells Y;rw[ak]at ha;intro row h' h0 aj I;dsimp only at I;split at I
      .injection I with I;subst I;have aE:r<cells.length:=by
        have:=(Em.1 (sU aj:(cells.map λx=>[x])[r]?=some row)).1;simpa using this
       exact Ls n H ht L (aO J) Y aE ha k
      .cases I
     .trivial
    .trivial
   .trivial
  .trivial
 case nilCheck x=>
  have k:=j x (by simp);have aa:∀(a:AV) (v:Value),av S w β a v->ρ x=v->(execOp ρ ⟨Q,.nilCheck x,A,al,T,guard⟩).run C.P w=.ok (.value v) w->MA C.P B S w β h s (execOp ρ ⟨Q,.nilCheck x,A,al,T,guard⟩) (.ok a):=λa v P E au=>
   ⟨v,w,S,β,.inl au,P,H,gy.refl _ _ _ _ _⟩
  generalize E:ρ x=v at k;unfold TD;split
  .rename_i b c F;rw[F]at k;have U:=k
   cases k with
   |ptr _ _ l J=>exact aa _ _ U E (by simp only[execOp,E,Sem.run_pure])
  .rename_i b r c F;rw[F]at k;have U:=k
   cases k with
   |x _ _ _ l J=>exact aa _ _ U E (by simp only[execOp,E,Sem.run_pure])
  .rename_i a b c F;rw[F]at k;have U:=k
   cases k with
   |k=>exact aa _ _ U E (by simp only[execOp,E,Sem.run_pure])
  .rename_i a b c F;rw[F]at k;have U:=k
   cases k with
   |a=>exact aa _ _ U E (by simp only[execOp,E,Sem.run_pure])
  .trivial
 case binOp op t x y yt=>
  split
  .rename_i aR hn;exact MA.of ((x2 n op t x y hn (λv E=>by rw[E];exact aN v) (j x (by simp))).post (s:=s) H)
  .exact MA.of ((x1 n op t x y (j x (by simp)) (j y (by simp))).post (s:=s) H)
 case unOp op t x=>exact MA.of ((zy (P:=C.P) op (j x (by simp))).post (s:=s) H)
 case convert src Q x=>
  have k:=j x (by simp);have ap:zZ B S w β h s ((do pure (.value (<-convert src Q (ρ x))):Sem Next).run C.P w) (DF C src Q (ev x)):=(Wu n src Q k).post H;unfold FM;split
  .rename_i e _ _ _ _ _ M W;split
   .rename_i b _ _ _ _ _ F O;rw[F]at k;have Y:=lV k;refine λax=>?_;have:=Lv n H hs (n.ty _ _ M).kd (n.ty _ _ W).kd (n.ty _ _ O).kd b ax;rw[<-Y]at this;exact this
   .trivial
  .rename_i e _ _ _ _ _ M W;split
   .trivial
   .rename_i a aF;split
    .rename_i rc rows O P;intro l aD J;exact bs.Zx H (Lw n H (n.ty _ _ M).kd (n.ty _ _ W).kd (n.ty _ _ O).kd k (λb Y=>aF _ Y) P aD l J)
    .trivial
  .exact MA.of ap
 case makeFunc fn first ai=>
  cases fn with
  |func f=>
   refine⟨.func (.func f) (first.map ρ) (ai.map ρ),w,S,β,.inl R,?_,H,gy.refl _ _ _ _ _⟩;have M:=b6.of_map (S:=S) (w:=w) (β:=β) (ev:=ev) (ρ:=ρ) first.toList λx k=>j x (by simp;exact .inl (sU k));have W:=b6.of_map (S:=S) (w:=w) (β:=β) (ev:=ev) (ρ:=ρ) ai.toList λx k=>j x (by simp;exact .inr (sU k))
   exact .a f _ _ _ _ (by simp) (λi a u p q=>M.2 i a u p (by rw[<-jN,bQ];exact q)) (by simp) (λi a u p q=>W.2 i a u p (by rw[<-jN,bQ];exact q))
  |_=>exact tr
 case makeSlice t l c=>
  have J:=j l (by simp);have hc:=j c (by simp);unfold JM;split
  .rename_i e _ _ _ _ _ kl l' kc c' ht aC aB;rw[aC]at J;rw[aB]at hc;have bd:=lV J;have ay:=lV hc;split
   .rename_i ei F;split
    .rename_i z hz;split
     .rename_i aA;rintro⟨p0,p1,p2⟩;have:=Wq n H hs (n.ty _ _ ht).kd F hz aA kl kc l' c' p0 p1 p2;rw[<-bd, <-ay]at this;exact this
     .trivial
    .trivial
   .trivial
  .trivial
 case slice t x lo hi mx=>
  have ao:∀(y:Option Operand),(∀z,y=some z->av S w β (ev z) (ρ z))->(∀a,y.map ev=some a->∃u,y.map ρ=some u/\av S w β a u)/\(y.map ev=none->y.map ρ=none):=by
   intro y hy
   cases y with
   |none=>exact⟨λa h=>(by cases h),λ_=>rfl⟩
   |some z=>exact⟨λa h=>(by injection h with h;subst h;exact⟨_,R,hy z R⟩),λh=>(by cases h)⟩
  have M:=ao lo λz hz=>j z (by subst hz;simp);have W:=ao hi λz hz=>j z (by subst hz;simp);have h3:=ao mx λz hz=>j z (by subst hz;simp);exact MA.of ((Tw n H t (j x (by simp)) M.1 M.2 W.1 W.2 h3.1 h3.2).post (s:=s) H)
 case fieldAddr t x f=>exact MA.of ((JI n t f (j x (by simp))).post (s:=s) H)
 case field t x f=>exact MA.of ((Tu n t f (j x (by simp))).post (s:=s) H)
 case indexAddr t x i=>exact MA.of ((JJ n H t (j x (by simp)) (j i (by simp))).post (s:=s) H)
 case index t x i=>exact MA.of ((Tv n t (j x (by simp)) (j i (by simp))).post (s:=s) H)
 case extract x i=>exact MA.of ((Oq (P:=C.P) i (j x (by simp))).post (s:=s) H)
 case call c=>
  obtain⟨am,args,d⟩:=c
  cases am with
  | builtin b=>
   simp only[Call.operands,Array.empty_append]at j;have G:b6 S w β (args.toList.map ev) (args.toList.map ρ):=b6.of_map _ λx k=>j x (sU k);have ab:∀(m:Sem Value) (r:b1),(∀an,Go.builtin b d A an (args.map ρ)=(do pure (.value (<-m)):Sem Next))->zZ B S w β h s ((do pure (.value (<-m)):Sem Next).run C.P w) r->
     MA C.P B S w β h s (execOp ρ ⟨Q,.call ⟨.builtin b,args,d⟩,A,al,T,guard⟩) r:=by
    intro m r M W;refine MA.of ?_;have:(execOp ρ ⟨Q,.call ⟨.builtin b,args,d⟩,A,al,T,guard⟩).run C.P w=(do pure (.value (<-m)):Sem Next).run C.P w:=by
     simp only[execOp,resolve,Sem.run_bind,Sem.run_pure,Result.andThen_ok,invoke,M]
    rw[this];exact W
   have one:∀(x:AV),args.toList.map ev=[x]->∃v,args.map ρ= #[v]/\av S w β x v:=by
    intro x k;rw[k]at G;have J:args.toList.length=1:=sU G.1.symm
    match O:args.toList,J with
    |[a],_=>
     refine⟨ρ a,(by apply Array.ext';simp[O]),G.2 0 x (ρ a) R (by simp[O])⟩
   have jl:∀(x y:AV),args.toList.map ev=[x,y]->∃v u,args.map ρ= #[v,u]/\av S w β x v/\av S w β y u:=by
    intro x y k;rw[k]at G;have J:args.toList.length=2:=sU G.1.symm
    match O:args.toList,J with
    |[a,b],_=>
     refine⟨ρ a,ρ b,(by apply Array.ext';simp[O]),G.2 0 x (ρ a) R (by simp[O]),G.2 1 y (ρ b) R (by simp[O])⟩
   have aw:∀t bb,d.toList=[t,bb]->d= #[t,bb]:=λt bb F=>by apply Array.ext';simp[F]
   have ar:∀t,d.toList=[t]->d= #[t]:=λt F=>by apply Array.ext';simp[F]
   simp only;cases b<;>try (simp only[bR];exact tr)
   case append=>
    match X:args.toList.map ev with
    |[]=>simp only[bR];exact tr
    |[_]=>simp only[bR];exact tr
    |_::_::_::_=>simp only[bR];exact tr
    | [x,y]=>
     match hT:d.toList with
     |[]=>simp only[bR];exact tr
     |[_]=>simp only[bR];exact tr
     |_::_::_::_=>simp only[bR];exact tr
     |[t,bb]=>
      obtain⟨v,u,E,k,hy⟩:=jl x y X;refine ab (Builtin.append_ d A (args.map ρ)) _ (λ_=>rfl) ?_;rw[E,aw t bb hT];exact PO n H hs t bb A k hy
   case copy=>
    match X:args.toList.map ev with
    |[]=>simp only[bR];exact tr
    |[_]=>simp only[bR];exact tr
    |_::_::_::_=>simp only[bR];exact tr
    |[x,y]=>
     obtain⟨v,u,E,k,hy⟩:=jl x y X;simp only[bR];refine ab (Builtin.copy_ d A (args.map ρ)) _ (λ_=>rfl) ?_;rw[E];exact Wp n H d.toList A k hy
   case len=>
    match X:args.toList.map ev with
    |[]=>simp only[bR];exact tr
    |_::_::_=>simp only[bR];exact tr
    | [x]=>
     match hT:d.toList with
     |[]=>simp only[bR];exact tr
     |_::_::_=>simp only[bR];exact tr
     |[t]=>
      obtain⟨v,E,k⟩:=one x X;simp only[bR];refine ab (Builtin.len_ d A (args.map ρ)) _ (λ_=>rfl) ?_;rw[E,ar t hT];exact(x5 n t A k).post H
   case max=>
    match X:args.toList.map ev with
    |[]=>simp only[bR];exact tr
    |[_]=>simp only[bR];exact tr
    |_::_::_::_=>simp only[bR];exact tr
    |[x,y]=>
     obtain⟨v,u,E,k,hy⟩:=jl x y X;simp only[bR];refine ab (Builtin.max_ d A (args.map ρ)) _ (λ_=>rfl) ?_;rw[E];exact(x4 (P:=C.P) _ _ k hy).post H
   case min=>
    match X:args.toList.map ev with
    |[]=>simp only[bR];exact tr
    |[_]=>simp only[bR];exact tr
    |_::_::_::_=>simp only[bR];exact tr
    |[x,y]=>
     obtain⟨v,u,E,k,hy⟩:=jl x y X;simp only[bR];refine ab (Builtin.min_ d A (args.map ρ)) _ (λ_=>rfl) ?_;rw[E]
     exact(x3 (P:=C.P) _ _ k hy).post H
  |invoke r m=>trivial
  | value f=>
   simp only;split
   .rename_i g first ai F
    have I:=j f (by simp[Call.operands]);rw[F]at I;generalize E:ρ f=v at I
    cases I with
    |a _ _ _ vs us J P bd b4=>
    refine⟨vs.toList++args.toList.map ρ++us.toList,?_,?_⟩
    .refine b6.append (b6.append ⟨sU J,λi a u p q=>P i a u p (sU q)⟩ (b6.of_map _ λx k=>j x (by simp[Call.operands];exact .inr (sU k)))) ⟨sU bd,λi a u p q=>b4 i a u p (sU q)⟩
    .simp only[execOp,resolve,E,Deferred.ofValue,Sem.run_bind,Sem.run_pure,Result.andThen_ok,invoke];congr 2;apply Array.ext';simp
   .trivial
end
end Go.Proofs.YtiaekocjeinkjaaGreatDoor
namespace Go.Proofs.YtiaekocjeinkjaaGreatDoor
open Go.RowKit
def j8(C:a5)(S:Nat->Prop)(w:World):Prop:=∀g cells,C.G g=some cells->av S w cy (.k cells.length 0 cells) (.pointer (some ⟨g,0,none⟩))
theorem j8.g{C:a5}{S:Nat->Prop}{w:World}(h:j8 C S w):tv C.G S w:=h
def bI(C:a5)(f:FuncId)(args:List AV)(r:AV):Prop:=
 (∃ c,C.P.funcs[f]?=some c/\c.body.isSome=true/\(c.name== "runtime.NumGoroutine")=false)/\
 ∀(S:Nat->Prop) (w:World) (d:List Value),(∀b,S b->b<w.heap.size)->j8 C S w->b6 S w cy args d->
  Calls C.P f d.toArray w λe w'=>∃v,e=.returned v/\Below w.heap.size w w'/\av (λb=>S b\/(w.heap.size<=b/\b<w'.heap.size)) w' cy r v
def jq(C:a5)(R:FuncId->List AV->AV->Prop)(h:AH)(r:b1)(x:AV)(h':AH):Prop:=
 match r with
 | .bad=>False
 | .ok y=>x=y∧h'=h
 | .Z9 p y=>p∧x=y∧h'=h
 | .idx rows i f=>∃row,0<=i∧rows[i.toNat]?=some row∧f row=some x∧h'=h
 | .fx p y b=>p∧x=y∧h'=b
 | .ZS rows i f=>∃row,0<=i∧rows[i.toNat]?=some row∧f row=some h'∧x=.any
 | .str p rows=>∃l,p∧gU rows=some l∧x=.v (.string ⟨l.toArray⟩)∧h'=h
 | .call f args=>eW (rO h args)=true∧(oU args=true∨(CQ x=true∧jV h args))∧eP x=true∧R f (rO h args) x∧h'=h
def g8:b1->Bool
 | .fx _ _ _| .ZS _ _ _| .bad=>true
 |_=>false
def h7(C:a5)(R:FuncId->List AV->AV->Prop)(all:List Oper)(o:Oper)(s:Nat)(t:Nat->AV)(h:AH)(x:AV)(h':AH):Prop:=
  match o.guard with
  |none=>jq C R h (bj C (bi C t) h s o.op) x h'
  | some (i,b)=>∃d g y,(all[i]?).bind (·.dst)=some d∧Ad (t d) b=some g∧((x=.ZY g y∧h'=h∧
    ((hU t o.op=none∧(g=true->g8 (bj C (bi C t) h s o.op)=false∧jq C R h (bj C (bi C t) h s o.op) y h))∨
     ∃c,hU t o.op=some c∧(g=true->c=true)∧(g=true->g8 (bj C (gv C t o.op) h s o.op)=false∧jq C R h (bj C (gv C t o.op) h s o.op) y h)))∨(g=true∧jq C R h (bj C (bi C t) h s o.op) x h'))
def li(C:a5):Prop:=∀f args h s bs, ¬C.H f args h s bs
section
variable {C:a5}{V:Inv C.fr}{R:FuncId->List AV->AV->Prop}{all:List Oper}{o:Oper}{s:Nat}{t:Nat->AV}{h h':AH}{K:AV->AH->Prop}
def Tl{r:b1}(hn:i' C R h s r K):(∃x h',jq C R h r x h'∧K x h')∨∃f args bs,r=.call f args∧C.H f args h s bs∧∀x h',bs x h'->K x h':=by
 cases r<;>simp only[i']at hn
 case ok x=>exact .inl ⟨x,h,⟨rfl,rfl⟩,hn⟩
 case Z9 p x=>obtain⟨hp,b⟩:=hn;exact .inl ⟨x,h,⟨hp rfl,rfl,rfl⟩,b⟩
 case idx rows i f=>
  obtain⟨row,d,b⟩:=hn;split at b
  .rename_i x e;exact .inl ⟨x,h,⟨row,(d rfl).1,(d rfl).2,e,rfl⟩,b⟩
  exact b.elim
 case fx p x c=>obtain⟨hp,b⟩:=hn;exact .inl ⟨x,c,⟨hp rfl,rfl,rfl⟩,b⟩
 case ZS rows i f=>
  obtain⟨row,d,b⟩:=hn;split at b
  .rename_i c e;exact .inl ⟨.any,c,⟨row,(d rfl).1,(d rfl).2,e,rfl⟩,b⟩
  exact b.elim
 case str p rows=>obtain⟨l,g,b⟩:=hn;exact .inl ⟨_,h,⟨l,(g rfl).1,(g rfl).2,rfl,rfl⟩,b⟩
 case call f args=>
  rcases hn with hn|hn
  .obtain⟨x,j,c,k,m,b⟩:=hn;exact .inl ⟨x,h,⟨j,c,k,m rfl,rfl⟩,b⟩
  obtain⟨bs,n,b⟩:=hn;exact .inr ⟨f,args,bs,rfl,n,b⟩
def JF{g:Bool}{r:b1}(d:DH C R h g r K):∃y,g8 r=false∧(g=true->jq C R h r y h)∧K (.ZY g y) h:=by
 cases r<;>simp only[DH]at d
 case ok x=>exact⟨x,rfl,λ_=>⟨rfl,rfl⟩,d⟩
 case Z9 p x=>obtain⟨hp,c⟩:=d;exact⟨x,rfl,λb=>⟨hp b,rfl,rfl⟩,c⟩
 case idx rows i f=>
  obtain⟨row,j,c⟩:=d;split at c
  .rename_i x u;exact⟨x,rfl,λb=>⟨row,(j b).1,(j b).2,u,rfl⟩,c⟩
  exact c.elim
 case str p rows=>obtain⟨l,e,c⟩:=d;exact⟨_,rfl,λb=>⟨l,(e b).1,(e b).2,rfl,rfl⟩,c⟩
 case call f args=>obtain⟨x,k,m,n,q,c⟩:=d;exact⟨x,rfl,λb=>⟨k,m,n,q b,rfl⟩,c⟩
def PH{r:b1}(b:Ov r K):∃x h',jq C R h r x h'∧K x h':=by
 cases r<;>simp only[Ov]at b
 case fx p x c=>obtain⟨hp,d⟩:=b;exact⟨x,c,⟨hp rfl,rfl,rfl⟩,d⟩
def pd(b:xG C R all o s t h K):(∃x h',h7 C R all o s t h x h'∧K x h')∨(o.guard=none∧∃f args bs,bj C (bi C t) h s o.op=.call f args∧C.H f args h s bs∧∀x h',bs x h'->K x h'):=by
 unfold xG at b;unfold h7
 cases e:o.guard with
 |none=>simp only[e]at b;exact(Tl b).imp id λh=>⟨rfl,h⟩
 | some q=>
  obtain⟨i,z⟩:=q;simp only[e]at b;split at b
  .exact b.elim
  .rename_i d p;split at b
   .exact b.elim
   .rename_i g l;split at b
    .rename_i n;rcases b with b|⟨r,b⟩
     .obtain⟨y,j,k,m⟩:=JF b;exact .inl ⟨_,h,⟨d,g,y,p,l,.inl ⟨rfl,rfl,.inl ⟨n,λe=>⟨j,k e⟩⟩⟩⟩,m⟩
     .obtain⟨x,h',j,k⟩:=PH (C:=C) (R:=R) (h:=h) b;exact .inl ⟨x,h',⟨d,g,x,p,l,.inr ⟨r,j⟩⟩,k⟩
    .rename_i c n;obtain⟨u,v⟩:=b;obtain⟨y,j,k,m⟩:=JF v;exact .inl ⟨_,h,⟨d,g,y,p,l,.inl ⟨rfl,rfl,.inr ⟨c,n,u,λe=>⟨j,k e⟩⟩⟩⟩,m⟩
end
structure bt(C:a5)(V:Inv C.fr)(w0:World)(S0:Nat->Prop)(N:Nat)(D:Nat->Prop)(t:Nat->AV)(h:AH)(a:Act)(w:World)(S:Nat->Prop)(β:Bt):Prop where
 T:∀i,av S w β (t i) (a.tmps.getD i undef)
 H:c3 w0.heap.size S w β h
 B:Below w0.heap.size w0 w
 Z2:∀x l,β x=some l->D x
 df:a.defers=C.df
 j:a.tmps.size=N
 G:j8 C S w
 nw:∀b,S b->S0 b\/w0.heap.size<=b
 iv:V.p S w β
section
variable {C:a5}{V:Inv C.fr}{R:FuncId->List AV->AV->Prop}{all:List Oper}{o:Oper}{s N:Nat}{t:Nat->AV}{h h':AH}{a:Act}{w w0:World}{D:Nat->Prop}{S0:Nat->Prop}{S:Nat->Prop}{β:Bt}
def sY(M:bt C V w0 S0 N D t h a w S β)(x:Operand):av S w β (bi C t x) (a.eval x):=by
 cases x with
 |tmp i=>exact M.T i
 |const v=>exact Hx v
 | global g=>
  show av S w β (match C.G g with|some cells=>.k cells.length 0 cells|none=>.any) _;split
  .rename_i cells b;exact(M.G g cells b).mono (λ_ h=>h) (cp.refl _ _) (λs l x=>by cases x)
  .exact .any _
 |func f=>exact .a f [] [] #[] #[] rfl (λi a u h=>by simp at h) rfl (λi a u h=>by simp at h)
theorem CO:∀(l:List Operand),vQ t l=none->∀i,.tmp i∈l->MF (t i)=none
 |[],_,i,hi=>by cases hi
 | x::l,b,i,hi=>by
  cases x with
  | tmp j=>
   simp only[vQ]at b;split at b
   .rename_i r d;rcases eu.1 hi with c|hi
    .injection c with c;subst c;exact d
    .exact CO l b i hi
   .cases b
   .cases b
  |_=>
   simp only[vQ]at b;rcases eu.1 hi with c|hi
   .cases c
   .exact CO l b i hi
theorem xP:∀(l:List Operand) (c:Bool),vQ t l=some c->c=true->∀i g,.tmp i∈l->MF (t i)=some g->g=true
 |[],_,e,_,_,_,hi,_=>by cases hi
 | x::l,c,e,f,i,g,hi,k=>by
  cases x with
  | tmp j=>
   simp only[vQ]at e;split at e
   .rename_i r d;rcases eu.1 hi with b|hi
    .injection b with b;subst b;rw[k]at d;cases d
    .exact xP l c e f i g hi k
   .rename_i n d m;injection e with e;subst e;rcases eu.1 hi with b|hi
    .injection b with b;subst b;rw[k]at d;injection d with d;rw[d];exact f
    .have:=CO l m i hi;rw[k]at this;cases this
   .rename_i n r d m;injection e with e;subst e;simp only[aP]at f;rcases eu.1 hi with b|hi
    .injection b with b;subst b;rw[k]at d;injection d with d;rw[d];exact f.1
    .exact xP l r m f.2 i g hi k
  |_=>
   simp only[vQ]at e;rcases eu.1 hi with b|hi
   .cases b
   .exact xP l c e f i g hi k
def JG(M:bt C V w0 S0 N D t h a w S β)(x:Operand)(j:∀i g,x=.tmp i->MF (t i)=some g->g=true):av S w β (Bz (bi C t x)) (a.eval x):=by
 have c:=sY M x
 cases x with
 | tmp i=>
  show av S w β (Bz (t i)) _;have b:av S w β (t i) (a.eval (.tmp i)):=c
  cases d:t i with
  |ZY g y=>
   rw[d]at b
   exact Hy b (j i g rfl (by rw[d];rfl))
  |_=>rw[d]at b;exact b
 | const v=>
  have:Bz (Pq v)=Pq v:=by
   unfold Pq;split
   .rfl
   .split<;>rfl
   .rfl
  show av S w β (Bz (Pq v)) _
  rw[this];exact c
 |global g=>
  have b:av S w β (bi C t (.global g)) (a.eval (.global g)):=c;simp only[bi]at b ⊢
  split<;>rename_i e<;>simp only[e]at b<;>exact b
 |func f=>exact c
def rn(M:bt C V w0 S0 N D t h a w S β)(d:Op){c:Bool}(e:hU t d=some c)(f:c=true)(x:Operand)(n:x∈d.operands):av S w β (gv C t d x) (a.eval x):=by
 have j:vQ t d.operands.toList=some c->av S w β (Bz (bi C t x)) (a.eval x):=λe=>JG M x λk g l b=>by
  subst l;exact xP _ c e f k g (sU n) b
 cases d<;>first|exact j e|skip
 case pick cc p q=>
  show av S w β (match Lz cc x with|true=>Bz (bi C t x)|false=>bi C t x) _
  cases m:Lz cc x with
  |false=>exact sY M x
  |true=>
   refine JG M x λk g l b=>?_;subst l;cases cc<;>simp only[Lz]at m<;>try (cases m;done)
   rename_i i;rw[<-aO m]at b;exact xP _ c e f i g (by simp) b
def Gx(M:bt C V w0 S0 N D t h a w S β){ops:Array Oper}(l:ops.toList=all){i d:Nat}{e g:Bool}(q:o.guard=some (i,e))(u:(all[i]?).bind (·.dst)=some d)(c:Ad (t d) e=some g)(r:d<N):
  Region.wanted o (yielded ops a.tmps)=g:=by
 have p:(ops[i]?).bind (·.dst)=some d:=by rw[<-u, <-l,bQ]
 have f:=M.T d;have j:d<a.tmps.size:=by rw[M.j];exact r
 have n:a.tmps[d]?=some (a.tmps.getD d undef):=by rw[aT j,aK,aT j];rfl
 have y:Region.wanted o (yielded ops a.tmps)=(yielded ops a.tmps i==some e):=by simp only[Region.wanted,q]
 have z:yielded ops a.tmps i=(match(some (a.tmps.getD d undef):Option Value)with|some (.bool b)=>some b|_=>none):=by
  simp only[yielded,p,Option.bind_some,n];cases a.tmps.getD d undef<;>rfl
 rw[y,z];unfold Ad at c;split at c
 .rename_i b m;rw[m]at f;rw[lV f];injection c with c;subst c;cases e<;>cases b<;>rfl
 .rename_i A b m;rw[m]at f;injection c with c;subst c;generalize a.tmps.getD d undef=v at f
  cases f with
  |Zr _ _ _ k x=>rw[lV x,k];cases e<;>cases b<;>rfl
  |Zm _ _ k=>rw[k];rfl
 .cases c
mutual
theorem PI(h:AH):∀(a:AV),HP a=true->jU h a
 | .X _ _ _ _,e=>by simp only[HP]at e;cases e
 | .agg c,e=>AD h c e
 | .F c,e=>by
  show(match oU c with|true=>True|false=>jV h c);rw[show oU c=true from e]
  trivial
 | .a _ a b,e=>by
  simp only[HP]at e;split at e
  .rename_i d;exact⟨AD h a d,AD h b e⟩
  .cases e
 | .v _,_=>trivial
 | .Y _ _ _,_=>trivial
 | .k _ _ _,_=>trivial
 | .ptr _ _,_=>trivial
 | .x _ _ _,_=>trivial
 | .ZY _ _,_=>trivial
 | .any,_=>trivial
theorem AD(h:AH):∀(b:List AV),oU b=true->jV h b
 |[],_=>trivial
 |x::d,e=>by
  simp only[oU]at e;split at e
  .rename_i c;exact⟨PI h x c,AD h d e⟩
  .cases e
end
theorem BN:∀(b:List AV),(SU b).length=b.length
 |[]=>rfl
 |_::b=>am (· +1) (BN b)
theorem MC:∀(d:List AV) (j:Nat) (a:AV),(SU d)[j]?=some a->∃b,d[j]?=some b∧(a=.any∨(a=b∧eP b=true))
 |[],j,a,h=>by simp[SU]at h
 |c::d,0,a,h=>by
  simp only[SU,cP,jc]at h;refine⟨c,rfl,?_⟩
  cases e:eP c with
  |true=>rw[e]at h;exact .inr ⟨h.symm,rfl⟩
  |false=>rw[e]at h;exact .inl h.symm
 |c::d,j+1,a,h=>by
  simp only[SU,dL]at h⊢;exact MC d j a h
def BO{β:Bt}{a:AV}{v:Value}{B:Nat}(H:c3 B S w β h)(W:av S w β a v):jU h a->av (λb=>S b∨(B<=b∧b<w.heap.size)) w β (vR h a) v:=by
 have hS:∀b,S b->S b∨(B<=b∧b<w.heap.size):=λb Y=>.inl Y;have m:∀{a:AV} {v:Value},av S w β a v->av (λb=>S b∨(B<=b∧b<w.heap.size)) w β a v:=λh=>h.mono hS (cp.refl _ _) (ME.refl _);have n:∀(k:List AV) (i:Nat) (x:AV),(rO h k)[i]?=some x->∃y,k[i]?=some y∧x=vR h y:=by
  intro k
  induction k with
  |nil=>intro i x Z;simp[rO]at Z
  |cons c k ih=>
   intro i x Z
   cases i with
   |zero=>simp[rO]at Z;exact⟨c,rfl,Z.symm⟩
   |succ i=>simp[rO]at Z;exact ih i x Z
 have r:∀(k:List AV),(rO h k).length=k.length:=by
  intro k
  induction k with
  |nil=>rfl
  |cons c k ih=>simp[rO,ih]
 have F:∀(k:List AV),jV h k->∀(i:Nat) y,k[i]?=some y->jU h y:=by
  intro k
  induction k with
  |nil=>intro _ i y E;simp at E
  |cons c k ih=>
   intro G i y E;simp only[jV]at G
   cases i with
   |zero=>simp at E;subst E;exact G.1
   |succ i=>exact ih G.2 i y (sU E)
 induction W with
 |v x=>intro _;exact .v x
 |agg k vs G h1 W ih=>
  intro z;simp only[jU]at z;show av _ w _ (.agg (rO h k)) _;refine .agg _ _ (by rw[r];exact G) h1 λi x u p q=>?_;obtain⟨y,E,rfl⟩:=n k i x p
  exact ih i y u E q H m (F k z i y E)
 |F k vs G W ih=>
  intro z
  cases hq:oU k with
  |true=>rw[show vR h (.F k)=.F k by simp only[vR,hq]];exact m (.F k vs G W)
  |false=>
  have ak:jV h k:=by simpa only[jU,hq]using z
  rw[show vR h (.F k)=.F (rO h k) by simp only[vR,hq]];refine .F _ _ (by rw[r];exact G) λi x u p q=>?_;obtain⟨y,E,rfl⟩:=n k i x p
  exact ih i y u E q H m (F k ak i y E)
 | X s lo len Q l A c G hc hm T hA k e fr Y cf=>
  rename_i aq;intro z;simp only[jU]at z;show av _ w _ (match h s with|some (.arr rows rs)=>.Y rs ((rows.drop lo).take len) Q|_=>.any) _;split
  .rename_i rows rs hs;simp only[hs]at z;obtain⟨d,I,e',an,k1,k2,k3,k4,k5,k6,k7,k8⟩:=H.own s _ hs;obtain rfl:d=l:=by rw[G]at k1;exact(fj k1).symm
   subst k6;have L:((rows.drop lo).take len).length=len:=by rw[aM,bD];omega
   have aj:∀(i:Nat) row,((rows.drop lo).take len)[i]?=some row->rows[lo+i]?=some row:=by
    intro i row J;rw[cU]at J;split at J
    .rwa [cL]at J
    .cases J
   have ab:∀(i:Nat) row (j:Nat) a,((rows.drop lo).take len)[i]?=some row->row[j]?=some a->i<len∧j<d.rs∧(I.getD (d.base+(lo+i)*d.rs+j) undef).oneCell'=true∧I[d.base+(lo+i)*d.rs+j]?=some (I.getD (d.base+(lo+i)*d.rs+j) undef)∧av S w cy a (I.getD (d.base+(lo+i)*d.rs+j) undef):=by
    intro i row j a J M;obtain⟨u,q1,q2,q3⟩:=k8 _ _ _ _ (aj i row J) M;have X:I.getD (d.base+(lo+i)*d.rs+j) undef=u:=by rw[aK,q1];rfl
    rw[X];exact⟨by rw[<-L];exact(Em.1 J).1,by rw[<-k7 row (aB (aj i row J))];exact(Em.1 M).1,q2,q1,q3⟩
   have am:(Value.slice A len c)=.slice A ((rows.drop lo).take len).length c:=by rw[L]
   rw[am];refine .Y d.rs _ Q A c d.l (d.base+lo*d.rs) (λi j=>if i<len∧j<d.rs then I.getD (d.base+(lo+i)*d.rs+j) undef else .bool false) (by rw[L];exact hc) hm (by rw[L];exact T) (λrow al=>k7 row (eT (cQ al)))
    (λh0=>⟨hA (by rw[L]at h0;omega),.inr ⟨k4,fJ k2⟩⟩) (λi row j a J M=>?_) (λi j=>?_) λi row j a J M=>?_
   .obtain⟨t1,t2,t3,t4,t5⟩:=ab i row j a J M;rw[aa ⟨t1,t2⟩,gP k2, <-t4];congr 1;rw[cG];omega
   .show(if i<len∧j<d.rs then I.getD (d.base+(lo+i)*d.rs+j) undef else .bool false).oneCell'=true;by_cases U:i<len∧j<d.rs
    .have J:((rows.drop lo).take len)[i]?=some (((rows.drop lo).take len)[i]'(by rw[L];exact U.1)):=aA _;have O:j<(((rows.drop lo).take len)[i]'(by rw[L];exact U.1)).length:=by
      rw[k7 _ (aB (aj i _ J))];exact U.2
     obtain⟨t1,t2,t3,t4,t5⟩:=ab i _ j _ J (aA O);rw[aa U];exact t3
    .rw[dZ U];rfl
   .obtain⟨t1,t2,t3,t4,t5⟩:=ab i row j a J M;rw[aa ⟨t1,t2⟩];exact t5.mono hS (cp.refl _ _) (ME.refl _)
  .exact .any _
 |Y rs rows Q A c b o u hc hm T bb hA hw h1 W ih=>intro _;exact m (.Y rs rows Q A c b o u hc hm T bb hA hw h1 W)
 |k rs P row b o u bb Y hw h1 W ih=>intro _;exact m (.k rs P row b o u bb Y hw h1 W)
 | ptr s P l G=>
  intro _;show av _ w _ (match h s with|some (.box cells)=>.k cells.length P (SU cells)|_=>.any) _;split
  .rename_i cells hs;obtain⟨d,I,e',an,k1,k2,k3,k4,k5,k6⟩:=H.own s _ hs;obtain rfl:d=l:=by rw[G]at k1;exact(fj k1).symm
   have ai:∀(j:Nat) a,(SU cells)[j]?=some a->I[d.base+j]?=some (I.getD (d.base+j) undef)∧(I.getD (d.base+j) undef).oneCell'=true∧av S w cy a (I.getD (d.base+j) undef):=by
    intro j a M;obtain⟨b,Y,ao⟩:=MC cells j a M;obtain⟨u,q1,q2,q3⟩:=k6 j b Y;have X:I.getD (d.base+j) undef=u:=by rw[aK,q1];rfl
    rw[X];rcases ao with rfl|⟨rfl,T⟩
    .exact⟨q1,q2,.any _⟩
    .exact⟨q1,q2,mB q3 T _⟩
   refine .k cells.length P (SU cells) d.l d.base (λj=>if j<cells.length then I.getD (d.base+j) undef else .bool false) (BN cells) (.inr ⟨k4,fJ k2⟩) (λj a M=>?_) (λj=>?_) λj a M=>?_
   .have O:j<cells.length:=by rw[<-BN cells];exact(Em.1 M).1
    rw[aa O,gP k2];exact(ai j a M).1
   .show(if j<cells.length then I.getD (d.base+j) undef else .bool false).oneCell'=true;by_cases O:j<cells.length
    .rw[aa O];exact(ai j _ (aA (by rw[BN];exact O))).2.1
    .rw[dZ O];rfl
   .have O:j<cells.length:=by rw[<-BN cells];exact(Em.1 M).1
    rw[aa O];exact(ai j a M).2.2.mono hS (cp.refl _ _) (ME.refl _)
  .exact .any _
 |x s row P l G=>intro _;exact m (.x s row P l G)
 | a f first ag vs us G h bd h' ih b4=>
  intro z;simp only[jU]at z;rename_i ap;refine .a f _ _ vs us (by rw[r];exact G) (λi x u p q=>?_) (by rw[r];exact bd) λi x u p q=>?_
  .obtain⟨y,E,rfl⟩:=n first i x p
   exact ih i y u E q H m (F first z.1 i y E)
  .obtain⟨y,E,rfl⟩:=n ag i x p
   exact b4 i y u E q H m (F ag z.2 i y E)
 |Zr g a x X h ih=>intro _;exact m (.Zr g a x X h)
 |Zm g a X=>intro _;exact .Zm g a X
 |any x=>intro _;exact .any x
def MD{β j:Bt}{S k:Nat->Prop}{w w':World}{a:AV}{v:Value}(n:av S w β a v):CQ a=true->av k w' j a v:=by
 have get:∀(b:List AV),PV b=true->∀(i:Nat) x,b[i]?=some x->CQ x=true:=by
  intro b
  induction b with
  |nil=>intro _ i x e;simp at e
  | cons c b ih=>
   intro d i x e;simp only[PV]at d;split at d
   .rename_i m
    cases i with
    |zero=>simp at e;subst e;exact m
    |succ i=>exact ih d i x (sU e)
   .cases d
 induction n with
 |v x=>intro _;exact .v x
 |agg b g f l h ih=>intro d;exact .agg b g f l λi a u p q=>ih i a u p q (get b (by simpa [CQ]using d) i a p)
 |F b g f h ih=>intro d;exact .F b g f λi a u p q=>ih i a u p q (get b (by simpa [CQ]using d) i a p)
 |_=>intro d;simp[CQ]at d
def PJ:∀(c:List AV),oU c=true->rO h c=c:=by
 have j:∀(n:Nat) (c:List AV),SizeOf.sizeOf c<=n->oU c=true->rO h c=c:=by
  intro n
  induction n with
  |zero=>intro c g;cases c<;>simp at g
  | succ n ih=>
   intro c g e
   cases c with
   |nil=>rfl
   | cons x r=>
    simp only[oU]at e;split at e
    .rename_i d;have m:=ih r (by simp at g;omega) e;simp only[rO,m];congr 1
     cases x with
     |agg i=>
      have:=ih i (by simp at g;omega) (by simpa [HP]using d)
      simp only[vR,this]
     |F i=>
      have q:oU i=true:=by simpa [HP]using d
      simp only[vR,q]
     |X=>simp[HP]at d
     |ptr=>simp[HP]at d
     | a f a b=>
      simp only[HP]at d;split at d
      .rename_i p;have k:=ih a (by simp at g;omega) p;have l:=ih b (by simp at g;omega) d;simp only[vR,k,l]
      .cases d
     |_=>rfl
    .cases e
 exact λc e=>j _ c (aC _) e
def Oo{f:FuncId}{args:List AV}{x:AV}{A:List Value}(M:bt C V w0 S0 N D t h a w S β)(k:b6 S w β args A)(H:eW (rO h args)=true)(I:oU args=true∨(CQ x=true∧jV h args))(ai:eP x=true)(hR:bI C f (rO h args) x):
  (callFunc f A.toArray).run C.P w=.ok (.enter f A.toArray) w∧Calls C.P f A.toArray w λe w'=>∃v j,e=.returned v∧av j w' β x v∧c3 w0.heap.size j w' β h∧gy w0.heap.size S w β s j w' β:=by
 obtain⟨⟨X,g1,g2,g3⟩,P⟩:=hR;have U:∀(d:List AV),(rO h d).length=d.length:=by
  intro d
  induction d with
  |nil=>rfl
  |cons c d ih=>simp[rO,ih]
 constructor
 .simp only[callFunc,Sem.run_bind,program,Sem.run,Result.andThen_ok,g1];have:X.body.isNone=false:=by cases hb:X.body<;>simp_all
  simp[g3,this]
 ·
  have E:∀(F:Nat->Prop),(∀b,F b->b<w.heap.size)->(∀w' v,Below w.heap.size w w'->av (λb=>F b∨(w.heap.size<=b∧b<w'.heap.size)) w' cy x v->∃j,av j w' β x v∧(∀b,S b->j b)∧(∀b,j b->S b∨w.heap.size<=b)∧∀b,j b->b<w'.heap.size)->b6 F w cy (rO h args) A->j8 C F w->
    Calls C.P f A.toArray w λe w'=>∃v j,e=.returned v∧av j w' β x v∧c3 w0.heap.size j w' β h∧gy w0.heap.size S w β s j w' β:=by
   intro F Z O T hG;refine(P F w A Z hG T).mono ?_;rintro e w' ⟨v,he,m,J⟩;obtain⟨j,r1,r2,r3,r4⟩:=O w' v m J;have Y:cp S w w':=cp.ZQ (λb hb=>m.block b hb) M.H.lt;refine⟨v,j,he,r1,⟨λs' blk ab=>?_,M.H.inj,r4,aL M.H.ZT m.size⟩,⟨r2,Y,m.mono M.H.ZT,ME.refl _,λ_ _ n=>.inl n,λb hb=>(r3 b hb).imp id λh=>⟨aL M.H.ZT h,.inl h⟩,λb hb _=>m.block b hb⟩⟩;obtain⟨l,d,e',fr,k1,k2,k3,k4,k5,k6⟩:=M.H.own s' blk ab;have aa:=fJ k2;refine⟨l,d,e',fr,k1,(m.block _ aa).trans k2,k3,k4,λhb=>?_,k6.mono r2 Y (ME.refl _)⟩;rcases r3 _ hb with hb|hb
   .exact k5 hb
   .omega
  rcases I with I|⟨I,ag⟩
  .have W:=PJ (h:=h) args I;rw[W]at H;refine E S M.H.lt (λw' v m J=>⟨λb=>S b∨(w.heap.size<=b∧b<w'.heap.size),?_,λb hb=>.inl hb,λb hb=>hb.imp id (·.1),λb hb=>?_⟩) (by rw[W];exact⟨k.1,λi y u p q=>mB (k.2 i y u p q) (fW args H i y p) _⟩) M.G
   .exact J.mono (λ_ h=>h) (cp.refl _ _) (λs l x=>by cases x)
   .rcases hb with hb|hb
    .exact e5 (M.H.lt b hb) m.size
    .exact hb.2
  .have r:∀(d:List AV) (i:Nat) (x:AV),(rO h d)[i]?=some x->∃y,d[i]?=some y∧x=vR h y:=by
    intro d
    induction d with
    |nil=>intro i x n;simp[rO]at n
    |cons c d ih=>
     intro i x n
     cases i with
     |zero=>simp[rO]at n;exact⟨c,rfl,n.symm⟩
     |succ i=>simp[rO]at n;exact ih i x n
   have G:∀(d:List AV),jV h d->∀(i:Nat) y,d[i]?=some y->jU h y:=by
    intro d
    induction d with
    |nil=>intro _ i y L;simp at L
    |cons c d ih=>
     intro Q i y L;simp only[jV]at Q
     cases i with
     |zero=>simp at L;subst L;exact Q.1
     |succ i=>exact ih Q.2 i y (sU L)
   refine E (λb=>b<w.heap.size) (λ_ h=>h) (λw' v m J=>⟨S,MD J I,λ_ h=>h,λb hb=>.inl hb,λb hb=>e5 (M.H.lt b hb) m.size⟩) ⟨by rw[U];exact k.1,λi y u p q=>?_⟩ λg cells hg=>(M.G g cells hg).mono M.H.lt (cp.refl _ _) (ME.refl _);obtain⟨z,hz,rfl⟩:=r args i y p;exact mB ((BO M.H (k.2 i z u hz q) (G args ag i z hz)).mono (λb hb=>hb.elim (M.H.lt b) (·.2)) (cp.refl _ _) (ME.refl _)) (fW _ H i _ p) _
end
end Go.Proofs.YtiaekocjeinkjaaGreatDoor
namespace Go.Proofs.YtiaekocjeinkjaaGreatDoor
open Go.RowKit
section
variable {C:a5}{V:Inv C.fr}{all:List Oper}{o:Oper}{s N:Nat}{t:Nat->AV}{h h':AH}{a:Act}{w w0:World}{D:Nat->Prop}{S0:Nat->Prop}{S:Nat->Prop}{β:Bt}
def PK(a:Act){d:Option Nat}{v:Value}{x:AV}{c:Nat->Prop}{w':World}{b:Bt}(f:∀i,av c w' b (t i) (a.tmps.getD i undef))(l:av c w' b x v)(g:∀k,d=some k->k<a.tmps.size):
  ∀i,av c w' b (Aa t d x i) ((a.put d v).tmps.getD i undef):=by
 intro i
 cases d with
 |none=>exact f i
 | some k=>
  have j:=g k R;by_cases e:i=k
  .subst e;have:((a.put (some i) v).tmps.getD i undef)=v:=by simp[Act.put,aK,j]
   rw[this];show av c w' b (an t i x i) v;rw[dB];exact l
  .have:((a.put (some k) v).tmps.getD i undef)=a.tmps.getD i undef:=by simp[Act.put,aK,cY (Ne.symm e)]
   rw[this];show av c w' b (an t k x i) _;rw[cI _ _ e];exact f i
def AE(M:bt C V w0 S0 N D t h a w S β){e:Nat->Prop}{w':World}{c:Bt}{h':AH}(K:gy w0.heap.size S w β s e w' c)(H:c3 w0.heap.size e w' c h'){x:AV}{v:Value}(q:av e w' c x v){d:Option Nat}(j:∀k,d=some k->k<N):
  bt C V w0 S0 N (λn=>D n\/n=s) (Aa t d x) h' (a.put d v) w' e c:=by
 refine⟨PK a (λi=>(M.T i).mono K.hS K.hE K.hle) q (λk p=>by rw[M.j];exact j k p),H,M.B.trans K.hB,λy l r=>(K.Ze y l r).imp (M.Z2 y l) (·.1),?_,?_,λg cells m=>(M.G g cells m).mono K.hS K.hE (ME.refl _),λb f=>(K.hN b f).elim (M.nw b) (λh=>.inr h.1),V.mono M.iv K⟩
 .cases d<;>exact M.df
 .cases d with
  |none=>exact M.j
  |some k=>simp only[Act.put,iV];exact M.j
def yR(L:cb C)(M:bt C V w0 S0 N D t h a w S β)(P:β s=none)(ev:Operand->AV)(E:∀x∈o.op.operands,av S w β (ev x) (a.eval x)){x:AV}(c:jq C (bI C) h (bj C ev h s o.op) x h')(Y:∀k,o.dst=some k->k<N)
  {K:Act->World->Prop} {Q:Exit->Act->World->Prop} (u:∀v w' m j,av m w' j x v->c3 w0.heap.size m w' j h'->gy w0.heap.size S w β s m w' j->K (a.put o.dst v) w'):o.wp C.P a w K Q:=by
 have b:=MB (B:=w0.heap.size) L M.H P ev a.eval o E (λ_=>rfl);have g:bs w0.heap.size S w β s ((execOp a.eval o).run C.P w) x h'->o.wp C.P a w K Q:=by
  rintro⟨v,w',m,j,d,q,z,A⟩;unfold Oper.wp;rcases d with d|⟨d,T⟩
  .rw[d];exact u v w' m j q z A
  .rw[d];subst T;exact u undef w' m j q z A
 cases n:bj C ev h s o.op with
 |bad=>rw[n]at c;exact c.elim
 |ok y=>rw[n]at c b;obtain⟨rfl,rfl⟩:=c;exact g b
 |Z9 p y=>rw[n]at c b;obtain⟨hp,rfl,rfl⟩:=c;exact g (b hp)
 |idx rows i f=>rw[n]at c b;obtain⟨row,r,d,q,rfl⟩:=c;exact g (b row x r d q)
 |fx p y q=>rw[n]at c b;obtain⟨hp,rfl,rfl⟩:=c;exact g (b hp)
 |ZS rows i f=>rw[n]at c b;obtain⟨row,r,d,q,rfl⟩:=c;exact g (b row h' r d q)
 |str p rows=>rw[n]at c b;obtain⟨l,hp,d,rfl,rfl⟩:=c;exact g (b l hp d)
 |call f args=>
  rw[n]at c b;obtain⟨F,c2,G,H,rfl⟩:=c;obtain⟨Z,I,J⟩:=b;obtain⟨g1,g2⟩:=Oo (s:=s) M I F c2 G H;unfold Oper.wp;rw[J,g1];refine g2.mono ?_;rintro e w' ⟨v,m,O,U,W,X⟩;subst O;exact u v w' m β U W X
def Lp(y:cb C)(M:bt C V w0 S0 N D t h a w S β)(d:∀x,D x->x<s){f:FuncId}{args:List AV}{bs:AV->AH->Prop}(j:bj C (bi C t) h s o.op=.call f args)(F:C.H f args h s bs)
  {K:Act->World->Prop} {Q:Exit->Act->World->Prop} (I:∀k,o.dst=some k->k<N) (G:∀x h' q w' p i,bs x h'->bt C V w0 S0 N (λn=>D n\/n=s) (Aa t o.dst x) h' q w' p i->K q w'):o.wp C.P a w K Q:=by
 have c:=MB (B:=w0.heap.size) y M.H (show β s=none from by
  cases L:β s with
  |none=>rfl
  |some l=>exact absurd (d s (M.Z2 s l L)) (iI _)) (bi C t) a.eval o (λx _=>sY M x) (λ_=>rfl)
 rw[j]at c;obtain⟨m,z,A⟩:=c;obtain⟨⟨u,g1,g2,E⟩,b⟩:=y.hH _ _ _ _ _ F;unfold Oper.wp;have g:(callFunc f m.toArray).run C.P w=.ok (.enter f m.toArray) w:=by
  simp only[callFunc,Sem.run_bind,program,Sem.run,Result.andThen_ok,g1];have:u.body.isNone=false:=by cases U:u.body<;>simp_all
  simp[E,this]
 rw[A,g];refine(b _ S w β m M.H (λx l j=>d x (M.Z2 x l j)) M.G.g z).mono ?_;rintro e w' ⟨v,p,i,r,h',H,J,O,P,T⟩;subst J;exact G r h' _ _ _ _ H (AE M T P O I)
def xQ(E:cb C)(M:bt C V w0 S0 N D t h a w S β)(F:β s=none){ops:Array Oper}(A:ops.toList=all){x:AV}(j:h7 C (bI C) all o s t h x h')(f:∀k,o.dst=some k->k<N)(H:∀i u d,o.guard=some (i,u)->(all[i]?).bind (·.dst)=some d->d<N)
  {K:Act->World->Prop} {Q:Exit->Act->World->Prop} (z:∀L w' e b,bt C V w0 S0 N (λn=>D n\/n=s) (Aa t o.dst x) h' L w' e b->K L w'):
  if Region.wanted o (yielded ops a.tmps)then o.wp C.P a w K Q\/(o.asks C.P a w/\LetsOut Q)else K (a.put o.dst undef) w:=by
 unfold h7 at j
 cases r:o.guard with
 |none=>
  simp only[r]at j;have:Region.wanted o (yielded ops a.tmps)=true:=by simp[Region.wanted,r]
  rw[aa this]
  exact .inl (yR E M F _ (λx _=>sY M x) j f λv w' e b l m p=>z _ _ e b (AE M p m l f))
 | some q=>
  obtain⟨i,u⟩:=q;simp only[r]at j;obtain⟨d,g,y,G,O,⟨rfl,rfl,I⟩|⟨rfl,I⟩⟩:=j
  case inr=>
   rw[Gx M A r G O (H i u d r G),aa R];exact .inl (yR E M F _ (λx _=>sY M x) I f λv w' e b l m p=>z _ _ e b (AE M p m l f))
  rw[Gx M A r G O (H i u d r G)]
  cases g with
  |false=>
   rw[dZ (by simp)]
   exact z _ _ S β (AE M (gy.refl _ _ _ _ _) M.H (.Zm false y R) f)
  |true=>
   rw[aa R];refine .inl ?_;rcases I with ⟨_,J⟩|⟨c,P,J,T⟩
   .exact yR E M F _ (λx _=>sY M x) (J R).2 f λv w' e b l m p=>z _ _ e b (AE M p m (.Zr true y v R l) f)
   .exact yR E M F _ (rn M o.op P (J R)) (T R).2 f λv w' e b l m p=>z _ _ e b (AE M p m (.Zr true y v R l) f)
def vK(N:Nat)(l:List Oper):Bool:=l.all λo=>match o.dst with|some d=>Nat.blt d N|none=>true
def wU{l:List Oper}(b:vK N l=true){o:Oper}(d:o∈l):∀k,o.dst=some k->k<N:=λk c=>by
 have:=rC.1 b o d;simp only[c]at this;exact aJ this
def BP(b:vK N all=true):∀(i d:Nat),(all[i]?).bind (λ(o:Oper)=>o.dst)=some d->d<N:=λi d h=>by
 obtain⟨o,e,c⟩:=Option.bind_eq_some_iff.1 h;exact wU b (aB e) d c
theorem Ev(u:cb C){ops:Array Oper}(k:ops.toList=all)(q:vK N all=true){K:a4->Prop}{Q:Exit->Act->World->Prop}{n:Nat}:∀(rest:List Oper) (j:Nat) (t:Nat->AV) (h:AH) (a:Act) (w:World) (S:Nat->Prop) (β:Bt),all.drop j=rest->jS C (bI C) all rest j ⟨t,h,n⟩ K->bt C V w0 S0 N (· <n+j) t h a w S β->
  (∀st e w' g b,K st->bt C V w0 S0 N (· <st.n) st.t st.h e w' g b->Q .normal e w')->wpOps C.P ops Q (List.range' j rest.length) a w
 |[],j,t,h,a,w,S,β,_,z,M,v=>v ⟨t,h,n+j⟩ a w S β z M
 | o::rest,j,t,h,a,w,S,β,m,z,M,v=>by
  have E:all[j]?=some o:=by
   have:(all.drop j)[0]?=some o:=by rw[m];rfl
   simpa using this
  have F:ops[j]?=some o:=by rw[<-E, <-k,bQ]
  have p:o∈all:=aB E;have T:β (n+j)=none:=by
   cases P:β (n+j)with
   |none=>rfl
   |some l=>have:=M.Z2 _ _ P;omega
  rw[bN,nX];simp only[wpOps,F];have next:∀(x:AV) (h':AH),jS C (bI C) all rest (j+1) ⟨Aa t o.dst x,h',n⟩ K->∀e w' g b,bt C V w0 S0 N (λy=>y<n+j\/y=n+j) (Aa t o.dst x) h' e w' g b->wpOps C.P ops Q (List.range' (j+1) rest.length) e w':=λx h' r e w' g b c=>by
   refine Ev u k q rest (j+1) _ h' e w' g b ?_ r ?_ v
   .rw[<-lH,m];rfl
   .exact⟨c.T,c.H,c.B,λy l U=>(c.Z2 y l U).elim (λ(h:y<n+j)=>(oT:y<n+(j+1))) (λ(h:y=n+j)=>(oT:y<n+(j+1))),c.df,c.j,c.G,c.nw,c.iv⟩
  rcases pd z with ⟨x,h',G,r⟩|⟨L,f,args,bs,A,H,O⟩
  rotate_left
  .have:Region.wanted o (yielded ops a.tmps)=true:=by simp[Region.wanted,L]
   rw[aa this];exact .inl (Lp u M (λx (A:x<n+j)=>A) A H (wU q p) λx h' e w' g b I c=>next x h' (O x h' I) e w' g b c)
  refine xQ u M T k G (wU q p) (λi W d _ J=>BP q i d J) λe w' g b c=>next x h' r e w' g b c
end
end Go.Proofs.YtiaekocjeinkjaaGreatDoor
