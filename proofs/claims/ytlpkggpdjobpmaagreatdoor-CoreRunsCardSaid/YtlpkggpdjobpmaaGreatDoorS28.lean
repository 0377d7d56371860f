/- Lemmas. -/
import Derived.Laws.BytesString
import Derived.Laws.IdiomStrings
import Derived.Test.YtlpkggpdjobpmaaGreatDoorS1
import Derived.Test.YtlpkggpdjobpmaaGreatDoorS27
set_option linter.all false
namespace Go.Proofs.YtlpkggpdjobpmaaGreatDoor
open Go.RowKit
def Post(B:Nat)(S:Nat->Prop)(w:World)(β:Bt)(s:Nat)(r:Result Next)(x:AV)(h':AH):Prop:=
 ∃v w' S' β',(r=.ok (.value v) w'∨(r=.ok .skip w'∧v=undef))∧Rep S' w' β' x v∧SimH B S' w' β' h'∧StepK B S w β s S' w' β'
section
variable {C:Ctx}{S:Nat->Prop}{w w':World}{β:Bt}{B:Nat}{h:AH}{s:Nat}
theorem StepK.refl(B)(S)(w)(β)(s):StepK B S w β s S w β:=⟨λ_ h=>h,Evo.refl _ _,Below.refl _ _,ME.refl _,λ_ _ h=>.inl h,λ_ h=>.inl h,λ_ _ _=>rfl⟩
theorem Post.of_yld{P}{x}{r}(H:SimH B S w β h)(hy:Yld P S w β x r):Post B S w β s ((do pure (.value (<-r)):Sem Next).run P w) x h:=by
 obtain⟨v,h1,h2⟩:=hy;exact⟨v,w,S,β,.inl (by simp only[Sem.run_bind,h1,Result.andThen_ok,Sem.run_pure]),h2,H,StepK.refl _ _ _ _ _⟩
def dB{α}(f)(i)(x:α):upd f i x i=x:=by unfold upd;rw[show Nat.beq i i=true from nG i]
def cI{α}(f){i j}(x:α)(hn:j≠i):upd f i x j=f j:=by
 unfold upd;have:Nat.beq j i=false:=by rw[<-eJ];exact λe=>hn (aO e)
 rw[this]
theorem ME.upd(hs:β s=none)(l:Loc):ME β (upd β s (some l)):=λx k hx=>by
 rw[cI _ _ (λe=>by rw[e,hs]at hx;cases hx)];exact hx
def iG{o}(hw:w'.heap=w.heap.push o){b}(hb:b<w.heap.size):w'.heap[b]?=w.heap[b]? :=by rw[hw,Array.getElem?_push,dZ oT]
def rX{o}(hw:w'.heap=w.heap.push o):w'.heap[w.heap.size]?=some o:=by rw[hw,Array.getElem?_push,af1 rfl]
def AF(H:SimH B S w β h)(hs:β s=none){cs}{e}{fr}(hw:w'.heap=w.heap.push (.cells cs e fr))(hfr:∀o,o<cs.size->(decide (fr.1<=o)&&decide (o<fr.2))=false)(hbel:Below B w w'){blk}{l}(hl:l.blk=w.heap.size)
  (hin:Bf S w' (upd β s (some l)) l cs blk):SimH B S w' (upd β s (some l)) (upd h s (some blk))∧StepK B S w β s S w' (upd β s (some l)):=by
 have hE:Evo S w w':=Evo.of_kept (λb hb=>iG hw hb) H.lt;have hle:ME β _:=ME.upd hs l;have hsz:w'.heap.size=w.heap.size+1:=by rw[hw];simp
 refine⟨⟨λs' blk' hs'=>?_,λs1 s2 l1 l2 h1 h2 e1 e2 hb=>?_,λb hb=>by have:=H.lt b hb;omega,oH H.big⟩,⟨λ_ h=>h,hE,hbel,hle,λx k hx=>?_,λ_ h=>.inl h,λb hb _=>iG hw hb⟩⟩
 ·by_cases he:s'=s
  ·subst he;rw[dB]at hs';injection hs' with hs';subst hs';refine⟨l,cs,e,fr,dB _ _ _,by rw[hl];exact rX hw,hfr,by rw[hl];exact H.big,λhb=>?_,hin⟩;have:=H.lt _ hb;omega
  ·rw[cI _ _ he]at hs';obtain⟨l',cs',e',fr',k1,k2,k3,k4,k5,k6⟩:=H.own s' blk' hs';exact⟨l',cs',e',fr',hle _ _ k1,(iG hw (fJ k2)).trans k2,k3,k4,k5,k6.mono (λ_ h=>h) hE hle⟩
 ·have old:∀s1 l1,s1≠s->upd h s (some blk) s1≠none->upd β s (some l) s1=some l1->l1.blk<w.heap.size∧h s1≠none∧β s1=some l1:=by
   intro s1 l1 hn h1 e1;rw[cI _ _ hn]at h1 e1;obtain⟨blk1,hb1⟩:∃b,h s1=some b:=by
    cases hq:h s1 with
    |none=>exact absurd hq h1
    |some b=>exact⟨b,rfl⟩
   obtain⟨l',cs',e',fr',k1,k2,_⟩:=H.own s1 blk1 hb1;obtain rfl:l1=l':=by rw[e1]at k1;exact af5 k1
   exact⟨fJ k2,h1,e1⟩
  by_cases n1:s1=s
  ·by_cases n2:s2=s
   ·rw[n1,n2]
   ·subst n1;rw[dB]at e1;injection e1 with e1;subst e1;have:=(old s2 l2 n2 h2 e2).1;omega
  ·by_cases n2:s2=s
   ·subst n2;rw[dB]at e2;injection e2 with e2;subst e2;have:=(old s1 l1 n1 h1 e1).1;omega
   ·obtain⟨_,a1,a2⟩:=old s1 l1 n1 h1 e1;obtain⟨_,b1,b2⟩:=old s2 l2 n2 h2 e2;exact H.inj s1 s2 l1 l2 a1 b1 a2 b2 hb
 ·by_cases he:x=s
  ·refine .inr ⟨he,.inl ?_⟩;subst he;rw[dB]at hx;injection hx with hx;subst hx;rw[hl];exact aC _
  ·rw[cI _ _ he]at hx;exact .inl hx
def Tm(H:SimH B S w β h){s0}{blk0}{l}(hs:h s0=some blk0)(hl:β s0=some l){cs cs'}{e}{fr}(hb:w.heap[l.blk]?=some (.cells cs e fr))
  (ho:∀b,b≠l.blk->w'.heap[b]?=w.heap[b]?) (hn:w'.heap[l.blk]?=some (.cells cs' e fr)) (hsz:cs'.size=cs.size) (hws:w'.heap.size=w.heap.size) (hbel:Below B w w') {blk} (hin:Evo S w w'->Bf S w' β l cs' blk):
  SimH B S w' β (upd h s0 (some blk))∧StepK B S w β s S w' β:=by
 obtain⟨l',cs0,e',fr',k1,k2,k3,k4,k5,k6⟩:=H.own s0 blk0 hs;obtain rfl:l'=l:=by rw[hl]at k1;exact(af5 k1).symm
 rw[hb]at k2;injection k2 with k2;injection k2 with q1 q2 q3;subst q1;subst q2;subst q3;have hE:Evo S w w':=⟨λb hSb=>ho b (λe=>k5 (e ▸ hSb)),λb c1 e1 f1 h1=>by
  by_cases he:b=l'.blk
  ·subst he;rw[hb]at h1;injection h1 with h1;injection h1 with q1 q2 q3;subst q1;subst q2;subst q3;exact⟨cs',hn,hsz⟩
  exact⟨c1,(ho b he).trans h1,rfl⟩⟩
 refine⟨⟨λs' blk' hs'=>?_,λs1 s2 l1 l2 h1 h2 e1 e2 hbb=>?_,λb hb=>by have:=H.lt b hb;omega,oH H.big⟩,⟨λ_ h=>h,hE,hbel,ME.refl _,λ_ _ hx=>.inl hx,λ_ h=>.inl h,λb _ hne=>ho b (λe=>hne s0 l' hl e.symm)⟩⟩
 ·by_cases he:s'=s0
  ·subst he;rw[dB]at hs';injection hs' with hs';subst hs';exact⟨l',cs',e,fr,hl,hn,by rw[hsz];exact k3,k4,k5,hin hE⟩
  rw[cI _ _ he]at hs';obtain⟨l2,cs2,e2,fr2,j1,j2,j3,j4,j5,j6⟩:=H.own s' blk' hs';have hne:l2.blk≠l'.blk:=λq=>he (H.inj s' s0 l2 l' (by rw[hs'];simp) (by rw[hs];simp) j1 hl q);exact⟨l2,cs2,e2,fr2,j1,(ho _ hne).trans j2,j3,j4,j5,j6.mono (λ_ h=>h) hE (ME.refl _)⟩
 have old:∀s1,upd h s0 (some blk) s1≠none->h s1≠none:=λs1 h1=>by
  by_cases he:s1=s0
  ·rw[he,hs];simp
  rwa [cI _ _ he]at h1
 exact H.inj s1 s2 l1 l2 (old s1 h1) (old s2 h2) e1 e2 hbb
theorem yS(b:Nat):∀(vs:List Value) (o:Nat) (w:World) (cs:Array Value) (e:TypeId) (fr:Nat×Nat),w.heap[b]?=some (.cells cs e fr)->o+vs.length<=cs.size->
  ∃cs':Array Value,(w.setCells b o vs).heap[b]?=some (.cells cs' e fr)∧cs'.size=cs.size∧(∀k,cs'[k]?=if o<=k∧k<o+vs.length then vs[k-o]? else cs[k]?)∧
   (w.setCells b o vs).heap.size=w.heap.size∧∀x,x≠b->(w.setCells b o vs).heap[x]?=w.heap[x]?
 |[],o,w,cs,e,fr,hb,_=>⟨cs,hb,rfl,λk=>by rw[dZ (by simp)],rfl,λ_ _=>rfl⟩
 | v::vs,o,w,cs,e,fr,hb,hl=>by
  simp only[bN]at hl;have h1:(w.setCell ⟨b,o,none⟩ v).heap[b]?=some (.cells (cs.setIfInBounds o v) e fr):=by
   simp only[World.setCell,Array.getElem?_modify,fD,hb,dF,Option.isSome_none,cS,eE]
  obtain⟨cs',a1,a2,a3,a4,a5⟩:=yS b vs (o+1) (w.setCell ⟨b,o,none⟩ v) (cs.setIfInBounds o v) e fr h1 (by simp;omega);refine⟨cs',by rw[World.setCells];exact a1,by rw[a2];simp,λk=>?_,by rw[World.setCells];exact a4.trans (by simp[World.setCell]),λx hx=>by rw[World.setCells,a5 x hx,Below.heap_setCell _ _ _ _ hx]⟩;rw[a3 k];simp only[bN];by_cases hk:k=o
  ·subst hk;rw[dZ oT,af1 oT,eK,cP,cZ oT]
  ·by_cases hk2:o+1<=k∧k<o+1+vs.length
   ·rw[af1 hk2,af1 oT,(oT:k-o=(k-(o+1))+1),dL]
   ·rw[dZ hk2,dZ oT,cY oT]
theorem xE{b:Nat}(hb:B<=b):∀(vs:List Value) (o:Nat) (w:World),Below B w (w.setCells b o vs)
 |[],_,w=>Below.refl _ _
 |v::vs,o,w=>by
  rw[World.setCells];exact((Below.refl B w).setCell (p:=⟨b,o,none⟩) hb v).trans (xE hb vs (o+1) _)
def Ew(hC:CtxOk C){t}{ti}(ht:C.ty t=some ti){v}{vs}(hv:v.cells.toList=vs)(hl:vs.length=ti.sz)(h1:∀(i:Nat) u,vs[i]?=some u->u.oneCell'=true){b o}{cs}{e}{fr}
  (hb:w.heap[b]?=some (.cells cs e fr)) (hfr:∀o,o<cs.size->(decide (fr.1<=o)&&decide (o<fr.2))=false) (hroom:o+vs.length<=cs.size):
  (Instr.storeAt t (.pointer (some ⟨b,o,none⟩)) v).run C.P w=.ok () (w.setCells b o vs):=by
 obtain⟨inf,z,hi,hsz,_⟩:=(hC.ty t _ ht).info;have hs:=run_storeCells_cells (P:=C.P) b o vs 0 w (λj hj=>by rw[gP hb,aT oT];rfl) (λj hj=>vP hb hfr _ oT) (λu hu=>by
  obtain⟨i,hi,rfl⟩:=fY hu;exact h1 i _ (aA hi))
 simp only[iU]at hs;have hn:v.cells.size=ti.sz:=by rw[<-hl, <-hv];simp
 simp only[Instr.storeAt,Instr.sureAddr,Sem.run_bind,Sem.run_pure,Result.andThen_ok,storeVar,sizeOf,typeInfo,program,Sem.run,hi,hsz,hn,ne_eq,not_true_eq_false,eE,hv,hs]
def DT(H:SimH B S w β h){s0}{blk0}{l}(hs:h s0=some blk0)(hl:β s0=some l){cs}{e}{fr}(hb:w.heap[l.blk]?=some (.cells cs e fr))(hBl:B<=l.blk)
  (vs) (o) (hroom:o+vs.length<=cs.size) {blk}
  (hin:∀(w':World) (cs':Array Value),Evo S w w'->(∀k,cs'[k]?=if o<=k∧k<o+vs.length then vs[k-o]? else cs[k]?)->Bf S w' β l cs' blk):
  SimH B S (w.setCells l.blk o vs) β (upd h s0 (some blk))∧StepK B S w β s S (w.setCells l.blk o vs) β:=by
 obtain⟨cs',a1,a2,a3,a4,a5⟩:=yS l.blk vs o w cs e fr hb hroom;exact Tm H hs hl hb a5 a1 a2 a4 (xE hBl vs o w) λhE=>hin _ _ hE a3
def Lq(hC:CtxOk C)(H:SimH B S w β h){t}{ti}{b c}{x}{va vx}{cs cells}(ht:C.ty t=some ti)(hcs:kN x=some cs)(hl:cs.length=ti.sz)(hb:h b=some (.box cells))(hroom:c+cs.length<=cells.length)
  (ha:Rep S w β (.ptr b c) va) (hx:Rep S w β x vx):Post B S w β s ((do Instr.storeAt t va vx;pure .skip:Sem Next).run C.P w) .any (upd h b (some (.box (zS c cs cells)))):=by
 have hpos:0<cs.length:=by rw[hl];exact((hC.ty t _ ht).info).elim λ_ h=>h.elim λ_ h=>h.2.2.2.2.2.2.1
 have CX:=vE hx hcs;have hlen:=CX.rep.1
 cases ha with
 |ptr _ _ l hbl=>
 obtain⟨l',ds,e,fr,k1,k2,k3,k4,k5,k6⟩:=H.own b _ hb;obtain rfl:l'=l:=by rw[hbl]at k1;exact(af5 k1).symm
 have hfit:l'.base+c+vx.cells.toList.length<=ds.size:=by
  rw[<-hlen];obtain⟨u,hu,_⟩:=k6 (c+cs.length-1) _ (aA oT);have:=(DP.1 hu).1;omega
 have run:=Ew hC ht rfl (by rw[<-hlen,hl]) CX.one k2 k3 hfit;obtain⟨p1,p2⟩:=DT H hb hbl k2 k4 vx.cells.toList (l'.base+c) hfit (blk:=.box (zS c cs cells)) (λw' cs' hE hget j a hj=>by
  rw[BQ _ _ _ _ hroom]at hj;split at hj
  ·rename_i hc;have hlt:j-c<vx.cells.toList.length:=oT;refine⟨vx.cells.toList[j-c],?_,CX.one (j-c) _ (aA hlt),(CX.rep.2 (j-c) a _ hj (aA hlt)).mono (λ_ h=>h) hE (ME.refl _)⟩;rw[hget,af1 oT,(oT:l'.base+j-(l'.base+c)=j-c),aA hlt]
  ·rename_i hc;obtain⟨u,q1,q2,q3⟩:=k6 j a hj;exact⟨u,by rw[hget,dZ oT];exact q1,q2,q3.mono (λ_ h=>h) hE (ME.refl _)⟩)
 exact⟨undef,_,S,β,.inr ⟨by simp only[Sem.run_bind,run,Result.andThen_ok,Sem.run_pure],rfl⟩,.any _,p1,p2⟩
def Wo{α}(l:List α)(i j)(x):(l.set i x)[j]?=if i=j∧i<l.length then some x else l[j]? :=by
 rw[mV];by_cases h:i=j
 ·subst h;by_cases h2:i<l.length
  ·simp[h2]
  simp[h2,bE _]
 simp[h]
def Lr(hC:CtxOk C)(H:SimH B S w β h){t}{ti}{b r c}{x}{va vx}{cs row}{rows}{rs}(ht:C.ty t=some ti)(hcs:kN x=some cs)(hl:cs.length=ti.sz)(hb:h b=some (.arr rows rs))(hrow:rows[r]?=some row)(hroom:c+cs.length<=row.length)(hcl:eW cs=true)
  (ha:Rep S w β (.ptr2 b r c) va) (hx:Rep S w β x vx):Post B S w β s ((do Instr.storeAt t va vx;pure .skip:Sem Next).run C.P w) .any (upd h b (some (.arr (rows.set r (zS c cs row)) rs))):=by
 have hpos:0<cs.length:=by rw[hl];exact((hC.ty t _ ht).info).elim λ_ h=>h.elim λ_ h=>h.2.2.2.2.2.2.1
 have CX:=vE hx hcs;have hlen:=CX.rep.1
 cases ha with
 |ptr2 _ _ _ l hbl=>
 obtain⟨l',ds,e,fr,k1,k2,k3,k4,k5,k6,k7,k8⟩:=H.own b _ hb;obtain rfl:l'=l:=by rw[hbl]at k1;exact(af5 k1).symm
 subst k6;have hrl:row.length=l'.rs:=k7 row (aB hrow);have hrlt:r<rows.length:=(Em.1 hrow).1;have hfit:l'.base+r*l'.rs+c+vx.cells.toList.length<=ds.size:=by
  rw[<-hlen];obtain⟨u,hu,_⟩:=k8 r row (c+cs.length-1) _ hrow (aA oT);have:=(DP.1 hu).1;omega
 have run:=Ew hC ht rfl (by rw[<-hlen,hl]) CX.one k2 k3 hfit;obtain⟨p1,p2⟩:=DT H hb hbl k2 k4 vx.cells.toList (l'.base+r*l'.rs+c) hfit (blk:=.arr (rows.set r (zS c cs row)) l'.rs) (λw' cs' hE hget=>by
  refine⟨rfl,λrow' hr'=>?_,λi row' j a hi hj=>?_⟩
  ·rcases List.mem_or_eq_of_mem_set hr' with h|h
   ·exact k7 _ h
   ·rw[h,vO _ _ _ hroom];exact hrl
  ·rw [Wo]at hi;split at hi
   ·rename_i hri;obtain⟨rfl,_⟩:=hri;injection hi with hi;subst hi;rw[BQ _ _ _ _ hroom]at hj;split at hj
    ·rename_i hc;have hlt:j-c<vx.cells.toList.length:=oT;refine⟨vx.cells.toList[j-c],?_,CX.one (j-c) _ (aA hlt),mB ((CX.rep.2 (j-c) a _ hj (aA hlt)).mono (λ_ h=>h) hE (ME.refl _)) (fW cs hcl _ a hj) _⟩;rw[hget,af1 oT,(oT:l'.base+r*l'.rs+j-(l'.base+r*l'.rs+c)=j-c),aA hlt]
    ·rename_i hc;obtain⟨u,q1,q2,q3⟩:=k8 r row j a hrow hj;exact⟨u,by rw[hget,dZ oT];exact q1,q2,q3.mono (λ_ h=>h) hE (ME.refl _)⟩
   ·rename_i hri;obtain⟨u,q1,q2,q3⟩:=k8 i row' j a hi hj;have hne:i≠r:=λe=>hri ⟨e.symm,hrlt⟩;have hjl:j<l'.rs:=by rw[<-k7 row' (aB hi)];exact(Em.1 hj).1
    refine⟨u,?_,q2,q3.mono (λ_ h=>h) hE (ME.refl _)⟩;rw[hget,dZ ?_]
    ·exact q1
    ·rintro⟨g1,g2⟩;rcases Nat.lt_or_gt_of_ne hne with hlt|hlt
     ·have:(i+1)*l'.rs<=r*l'.rs:=eF _ hlt;rw[cG]at this;omega
     ·have:(r+1)*l'.rs<=i*l'.rs:=eF _ hlt;rw[cG]at this;omega)
 exact⟨undef,_,S,β,.inr ⟨by simp only[Sem.run_bind,run,Result.andThen_ok,Sem.run_pure],rfl⟩,.any _,p1,p2⟩
def Ls(hC:CtxOk C)(H:SimH B S w β h){t}{ti}{b r}{x y}{va vx}{cells}(ht:C.ty t=some ti)(hcs:kN x=some [y])(hl:([y]:List AV).length=ti.sz)(hb:h b=some (.row cells))(hrow:r<cells.length)
  (ha:Rep S w β (.ptr2 b r 0) va) (hx:Rep S w β x vx):Post B S w β s ((do Instr.storeAt t va vx;pure .skip:Sem Next).run C.P w) .any (upd h b (some (.row (cells.set r y)))):=by
 have CX:=vE hx hcs;have hlen:vx.cells.toList.length=1:=CX.rep.1.symm
 cases ha with
 |ptr2 _ _ _ l hbl=>
 obtain⟨l',ds,e,fr,k1,k2,k3,k4,k5,k6,k8⟩:=H.own b _ hb;obtain rfl:l'=l:=by rw[hbl]at k1;exact(af5 k1).symm
 have hfit:l'.base+r*l'.rs+0+vx.cells.toList.length<=ds.size:=by
  rw[hlen,k6];obtain⟨u,hu,_⟩:=k8 r _ (aA hrow);have:=(DP.1 hu).1;omega
 have run:=Ew hC ht rfl (by rw[hlen];simpa using hl) CX.one k2 k3 hfit;obtain⟨p1,p2⟩:=DT H hb hbl k2 k4 vx.cells.toList (l'.base+r*l'.rs+0) hfit (blk:=.row (cells.set r y)) (λw' cs' hE hget=>by
  refine⟨k6,λj a hj=>?_⟩;rw[k6]at hget;by_cases hjr:j=r
  ·subst hjr;rw[aZ hrow]at hj;injection hj with hj;subst hj;refine⟨vx.cells.toList[0]' oT,?_,CX.one 0 _ (aA oT),(CX.rep.2 0 y _ rfl (aA oT)).mono (λ_ h=>h) hE (ME.refl _)⟩;rw[hget,af1 oT,(oT:l'.base+j-(l'.base+j*1+0)=0),aA oT]
  ·rw[kX (Ne.symm hjr)]at hj;obtain⟨u,q1,q2,q3⟩:=k8 j a hj;exact⟨u,by rw[hget,dZ oT];exact q1,q2,q3.mono (λ_ h=>h) hE (ME.refl _)⟩)
 exact⟨undef,_,S,β,.inr ⟨by simp only[Sem.run_bind,run,Result.andThen_ok,Sem.run_pure],rfl⟩,.any _,p1,p2⟩
def Vx(H:SimH B S w β h)(hs:β s=none)(t){x}{v}{cs}(hx:Rep S w β x v)(hcs:kN x=some cs):
  Post B S w β s ((do pure (.value (<-Instr.box t v)):Sem Next).run C.P w) (.ptr s 0) (upd h s (some (.box cs))):=by
 have CX:=vE hx hcs;have hw:(w.alloc (.cells v.cells t)).heap=w.heap.push (.cells v.cells t):=rfl;have hle:ME β (upd β s (some ⟨w.heap.size,0,0⟩)):=ME.upd hs _;have hE:Evo S w (w.alloc (.cells v.cells t)):=Evo.of_kept (λb hb=>iG hw hb) H.lt;obtain⟨p1,p2⟩:=AF H hs hw (λo _=>by simp) ((Below.refl B w).alloc H.big _) (blk:=.box cs) rfl (λj a hj=>by
  have hlt:j<v.cells.toList.length:=by rw[<-CX.rep.1];exact(Em.1 hj).1
  refine⟨v.cells.toList[j],by rw[bJ, <-bQ,aA hlt],CX.one j _ (aA hlt),(CX.rep.2 j a _ hj (aA hlt)).mono (λ_ h=>h) hE hle⟩)
 refine⟨.pointer (some ⟨w.heap.size,0,none⟩),_,S,_,.inl ?_,?_,p1,p2⟩
 ·rfl
 exact .ptr s 0 ⟨w.heap.size,0,0⟩ (dB _ _ _)
def Tn(hC:CtxOk C)(H:SimH B S w β h)(hs:β s=none)(t){i}{cs}(ht:C.ty t=some i)(hcs:kN i.zero=some cs):
  Post B S w β s ((do pure (.value (<-Instr.alloc t true (.tuple #[]))):Sem Next).run C.P w) (.ptr s 0) (upd h s (some (.box cs))):=by
 obtain⟨inf,z,h1,h2,h3,h4,h5,_⟩:=(hC.ty t _ ht).info;have hz:(zeroValue t).run C.P w=.ok z w:=by simp only[zeroValue,typeInfo,program,Sem.run_bind,Sem.run,h1,Sem.run_pure,Result.andThen_ok,h4]
 obtain⟨v,w',S',β',r1,r2⟩:=Vx (C:=C) H hs t (Hx z) (by rw[<-h5];exact hcs);refine⟨v,w',S',β',?_,r2⟩;rw[<-r1.elim (λh=>h) (λh=>by have:=h.1;simp[Instr.box,newVar,newRow,newObj,Sem.run]at this)];refine .inl ?_;simp only[Instr.alloc,Sem.run_bind,hz,Result.andThen_ok,Instr.box]
end
end Go.Proofs.YtlpkggpdjobpmaaGreatDoor
namespace Go.Proofs.YtlpkggpdjobpmaaGreatDoor
open Go.RowKit
def kU(n rc:Nat)(u:Nat->Nat->Value):List Value:=(List.range (n*rc)).map λk=>u (k/rc) (k%rc)
def fG(n rc)(u):(kU n rc u).length=n*rc:=by simp[kU]
def vL(n rc)(u)(k)(hk:k<n*rc):(kU n rc u)[k]?=some (u (k/rc) (k%rc)):=by
 simp[kU,hk]
def ajV{i j rc:Nat}(hj:j<rc):(i*rc+j)/rc=i∧(i*rc+j)%rc=j:=by
 have h0:0<rc:=oT;constructor
 ·rw[gJ,Nat.add_mul_div_right _ _ h0,Nat.div_eq_of_lt hj,bJ]
 rw[gJ,Nat.add_mul_mod_self_right,jM hj]
def vM{i j n rc:Nat}(hi:i<n)(hj:j<rc):i*rc+j<n*rc:=by
 have:(i+1)*rc<=n*rc:=eF _ hi;rw[cG]at this;omega
def Hr(n rc)(u){i j}(hi:i<n)(hj:j<rc):(kU n rc u)[i*rc+j]?=some (u i j):=by
 rw[vL _ _ _ _ (vM hi hj),(ajV hj).1,(ajV hj).2]
section
variable {C:Ctx}{S:Nat->Prop}{w w':World}{β:Bt}{B:Nat}{h:AH}{s:Nat}
structure RowsU(S:Nat->Prop)(w:World)(β:Bt)(rc:Nat)(rows:List (List AV))(u:Nat->Nat->Value):Prop where
 len:∀row∈rows,row.length=rc
 rep:∀(i:Nat) row (j:Nat) a,rows[i]?=some row->row[j]?=some a->(u i j).oneCell'=true∧Rep S w β a (u i j)
theorem RowsU.one{rc}{rows}{u}(R:RowsU S w β rc rows u):∀x∈kU rows.length rc u,x.oneCell'=true:=by
 intro x hx;simp only[kU,pG,lI]at hx;obtain⟨k,hk,rfl⟩:=hx;have h0:0<rc:=eU λe=>by subst e;simp at hk
 have hi:k/rc<rows.length:=fO (by rw[fR];exact hk);have hr:rows[k/rc]?=some rows[k/rc]:=aA hi;have hl:=R.len _ (aB hr);have hj:k%rc<rows[k/rc].length:=by rw[hl];exact aQ _ h0
 exact(R.rep _ _ _ _ hr (aA hj)).1
theorem RowsU.append{rc}{xs ys}{u v}(R:RowsU S w β rc xs u)(T:RowsU S w β rc ys v):RowsU S w β rc (xs++ys) (λi j=>if i<xs.length then u i j else v (i-xs.length) j):=by
 refine⟨λrow hr=>(al_List_mem_append.1 hr).elim (R.len row) (T.len row),λi row j a h1 h2=>?_⟩;by_cases hi:i<xs.length
 ·rw[cF hi]at h1;simp only[af1 hi];exact R.rep i row j a h1 h2
 rw[bM oT]at h1;simp only[dZ hi];exact T.rep _ row j a h1 h2
def JH(n m rc)(u v):kU n rc u++kU m rc v=kU (n+m) rc (λi j=>if i<n then u i j else v (i-n) j):=by
 rcases al_Nat_eq_zero_or_pos rc with h0|h0
 ·subst h0;simp[kU]
 apply dD;intro k;by_cases hk:k<n*rc
 ·rw[cF (by rw[fG];exact hk),vL _ _ _ _ hk,vL _ _ _ _ (by rw[cG];omega)];have:k/rc<n:=fO (by rw[fR];exact hk);rw[af1 this]
 rw[bM (by rw[fG];omega),fG];by_cases hk2:k<(n+m)*rc
 ·rw[cG]at hk2;rw[vL _ _ _ _ (by omega:k-n*rc<m*rc),vL _ _ _ _ (by rw[cG];omega)];have e:k=(k-n*rc)+n*rc:=oT;have e1:k/rc=(k-n*rc)/rc+n:=by
   conv=>lhs;rw[e]
   rw[Nat.add_mul_div_right _ _ h0]
  have e2:k%rc=(k-n*rc)%rc:=by
   conv=>lhs;rw[e]
   rw[Nat.add_mul_mod_self_right]
  rw[e1,e2,dZ (oH (aE ((k-n*rc)/rc))),kB]
 rw[bE (by rw[fG];rw[cG]at hk2;omega),bE (by rw[fG];omega)]
def AG(H:SimH B S w β h){y}{vy}{rc}{rows}(hy:Rep S w β y vy)(hr:mY h y=some (rc,rows))(hlk:xV h y):
  ∃u,RowsU S w noB rc rows u∧(∀w1:World,(Builtin.lenOf vy).run C.P w1=.ok rows.length w1)∧
   ∀w1:World,(∀b,b<w.heap.size->w1.heap[b]?=w.heap[b]?)->∀n,n<=rows.length->(Builtin.firstCells rc n vy).run C.P w1=.ok (kU n rc u).toArray w1:=by
 have mem:∀(b o:Nat) (A:Option Addr) (len c:Nat) (rows:List (List AV)) (u:Nat->Nat->Value),RowsU S w noB rc rows u->len=rows.length->(0<len->A=some ⟨b,o,none⟩)->
   (∀(i:Nat) row (j:Nat) a,rows[i]?=some row->row[j]?=some a->w.cell? ⟨b,o+i*rc+j,none⟩=some (u i j))->
   ∀w1:World,(∀b,b<w.heap.size->w1.heap[b]?=w.heap[b]?)->∀n,n<=rows.length->(Builtin.firstCells rc n (.slice A len c)).run C.P w1=.ok (kU n rc u).toArray w1:=by
  intro b o A len c rows u R hl hA hw w1 hw1 n hn;rcases al_Nat_eq_zero_or_pos n with h0|h0
  ·subst h0;have:kU 0 rc u=[]:=by simp[kU]
   rw[this]
   cases A with
   |none=>exact run_firstCells_none w1 rc 0 len c
   |some A=>exact run_firstCells_some w1 rc 0 A len c [] (by simp) (by simp)
  ·rw[hA oT];refine run_firstCells_some w1 rc n ⟨b,o,none⟩ len c (kU n rc u) (fG _ _ _) λk x hk=>?_;have hlt:k<n*rc:=by rw[<-fG n rc u];exact(Em.1 hk).1
   rw[vL _ _ _ _ hlt]at hk;injection hk with hk;subst hk;have hr0:0<rc:=eU λe=>by subst e;simp at hlt
   have hi:k/rc<rows.length:=af3 (fO (by rw[fR];exact hlt)) hn;have hrow:rows[k/rc]?=some rows[k/rc]:=aA hi;have hj:k%rc<rows[k/rc].length:=by rw[R.len _ (aB hrow)];exact aQ _ hr0
   have:=hw _ _ _ _ hrow (aA hj);rw[Addr.add_mid];have hk':k/rc*rc+k%rc=k:=by rw[fR];exact Nat.div_add_mod k rc
   rw[dW,hk']at this;have hb:b<w.heap.size:=World.block_lt_of_cell? w _ this;rw[uC (hw1 b hb)];exact this
 cases hy with
 | v =>
  simp only[mY]at hr;split at hr
  ·rename_i st hst;injection hst with hst;subst hst;injection hr with hr;injection hr with e1 e2;subst e1;subst e2;have hlen:(aS st).length=st.size:=by simp[aS]
   refine⟨λi _=>.int .u8 (st.data.toList.getD i 0).toNat,⟨λrow hrow=>?_,λi row j a h1 h2=>?_⟩,λw1=>by rw[hlen];rfl,λw1 _ n hn=>?_⟩
   ·simp only[aS,pG]at hrow;obtain⟨b,_,rfl⟩:=hrow;rfl
   ·simp only[aS,aX]at h1;obtain⟨b,hb,rfl⟩:=Gi.1 h1
    cases j with
    |zero=>
     simp only[cP,af6]at h2;subst h2;refine⟨rfl,?_⟩;rw[aR,hb,gI]
     exact .v _
    |succ j=>simp at h2
   ·rw[hlen]at hn;simp only[Builtin.firstCells,Sem.run_pure];congr 1;apply Array.ext';simp only[jN,kU,iD,qU];apply dD;intro k;simp only[aX];by_cases hk:k<n
    ·have hkl:k<st.data.toList.length:=sU (Nat.lt_of_lt_of_le hk hn);have:(st.extract 0 n).data.toList[k]?=st.data.toList[k]? :=by
      simp[hk]
     rw[this,aA hkl,eZ hk,dF,dF,aR,aA hkl];rfl
    ·have:(st.extract 0 n).data.toList[k]?=none:=by
      apply bE;simp;omega
     rw[this,bE (by simp;omega)];rfl
  ·rename_i he;cases he
  ·rename_i he;cases he
  ·cases hr
 |sl rs rows' clip A c b o u hc hm hcl hrs hA hw h1 hr'=>
  simp only[mY]at hr;injection hr with hr;injection hr with e1 e2;subst e1;subst e2;have R:RowsU S w noB rs rows' u:=⟨hrs,λi row j a p q=>⟨h1 i j,hr' i row j a p q⟩⟩
  exact⟨u,R,λ_=>rfl,mem b o A _ c rows' u R rfl (λh0=>(hA h0).1) hw⟩
 | osl s0 lo len clip l A c hl hc hm hcl hA cs e fr hb room=>
  simp only[mY]at hr;split at hr
  ·rename_i rows' rs hs;injection hr with hr;injection hr with e1 e2;subst e1;subst e2;obtain⟨l',ds,e',fr',k1,k2,k3,k4,k5,k6,k7,k8⟩:=H.own s0 _ hs;obtain rfl:l'=l:=by rw[hl]at k1;exact(af5 k1).symm
   subst k6;have hlk':lo+len<=rows'.length:=by simpa [xV,hs]using hlk
   have hlen:((rows'.drop lo).take len).length=len:=by rw[aM,bD];omega
   have sub:∀(i:Nat) row,((rows'.drop lo).take len)[i]?=some row->rows'[lo+i]?=some row:=by
    intro i row hi;rw[cU]at hi;split at hi
    ·rwa [cL]at hi
    ·cases hi
   have R:RowsU S w noB l'.rs ((rows'.drop lo).take len) (λi j=>ds.getD (l'.base+(lo+i)*l'.rs+j) undef):=by
    refine⟨λrow hrow=>k7 row (eT (cQ hrow)),λi row j a hi hj=>?_⟩;obtain⟨u,q1,q2,q3⟩:=k8 _ _ _ _ (sub i row hi) hj;rw[show ds.getD (l'.base+(lo+i)*l'.rs+j) undef=u by rw[aK,q1];rfl];exact⟨q2,q3⟩
   refine⟨_,R,λ_=>by rw[hlen];rfl,mem l'.blk (l'.base+lo*l'.rs) A len c _ _ R hlen.symm (λh0=>hA oT) λi row j a hi hj=>?_⟩;obtain⟨u,q1,q2,q3⟩:=k8 _ _ _ _ (sub i row hi) hj;rw[gP k2,show l'.base+lo*l'.rs+i*l'.rs+j=l'.base+(lo+i)*l'.rs+j by rw[cG];omega,q1,aK,q1];rfl
  ·cases hr
 |_=>simp only[mY]at hr;cases hr
def To(hC:CtxOk C)(H:SimH B S w β h)(hs:β s=none){e}{ei}(he:C.ty e=some ei){z:Value}(hzs:z.cells.size=ei.sz){rows}{u}(R:RowsU S w noB ei.sz rows u)(cap)(hcap:rows.length<=cap)(hm:cap<=maxLen){w'}
  (hw:w'.heap=w.heap.push (.cells ((kU rows.length ei.sz u).toArray++Builtin.zeroCells z.cells (cap-rows.length)) e)) (hbel:Below B w w'):
  Rep S w' (upd β s (some ⟨w.heap.size,0,ei.sz⟩)) (.osl s 0 rows.length false) (.slice (some ⟨w.heap.size,0,none⟩) rows.length cap)∧
  SimH B S w' (upd β s (some ⟨w.heap.size,0,ei.sz⟩)) (upd h s (some (.arr rows ei.sz)))∧StepK B S w β s S w' (upd β s (some ⟨w.heap.size,0,ei.sz⟩)):=by
 have hE:Evo S w w':=Evo.of_kept (λb hb=>iG hw hb) H.lt;obtain⟨p1,p2⟩:=AF H hs hw (λo _=>by simp) hbel (l:=⟨w.heap.size,0,ei.sz⟩) (blk:=.arr rows ei.sz) rfl ⟨rfl,R.len,λi row j a hi hj=>by
  have hjl:j<ei.sz:=by rw[<-R.len row (aB hi)];exact(Em.1 hj).1
  have hil:i<rows.length:=(Em.1 hi).1;obtain⟨r1,r2⟩:=R.rep i row j a hi hj;refine⟨u i j,?_,r1,r2.mono (λ_ h=>h) hE (ME.refl _)⟩;rw[bJ,dS (by simp only[kP,fG];exact vM hil hjl),eM];exact Hr _ _ _ hil hjl⟩
 refine⟨.osl s 0 rows.length false ⟨w.heap.size,0,ei.sz⟩ _ cap (dB _ _ _) hcap hm (λh=>by cases h) (λ_=>by simp) _ e _ (rX hw) ?_,p1,p2⟩;simp only[Array.size_append,kP,fG,size_zeroCells,hzs,bJ];rw[<-cG];exact eF _ oT
def PM(H:SimH B S w β h){tx:TypeId}{tk:TI}(htx:(∃e',C.P.underlying tx=some (.slice e'))∨C.P.underlying tx=some .string){y:AV}{vy:Value}{rc:Nat}{rows:List (List AV)}(hy:Rep S w β y vy)(hr:mY h y=some (rc,rows))(hlk:xV h y):
  ∃u,RowsU S w noB rc rows u∧Src C.P rc tx vy rows.length (kU rows.length rc u) w:=by
 obtain⟨u,R,hl,hf⟩:=AG H hy hr hlk;exact⟨u,R,⟨htx,hl,hf w (λ_ _=>rfl) _ (aC _),hf w.drew (λ_ _=>rfl) _ (aC _),fG _ _ _,R.one⟩⟩
def PN(hC:CtxOk C){tx}{tk}(ht:C.ty tx=some tk)(hk:Ou tk.kd=true):(∃e',C.P.underlying tx=some (.slice e'))∨C.P.underlying tx=some .string:=by
 have:=(hC.ty tx _ ht).kd;cases hq:tk.kd<;>rw[hq]at hk this<;>simp only[Ou,cS]at hk
 ·exact .inr this
 exact .inl ⟨_,this⟩
def yT(hC:CtxOk C)(H:SimH B S w β h)(hs:β s=none){t tx ty e:TypeId}{ti tk ei:TI}(hte:C.P.underlying t=some (.slice e))(htx:C.ty tx=some tk)(hk:Ou tk.kd=true)(he:C.ty e=some ei)
  {y:AV} {A:Option Addr} {vy:Value} {n cap:Nat} {ra rc:Nat} {a c:List (List AV)} {ua:Nat->Nat->Value} (Ra:RowsU S w noB ei.sz a ua) (han:a.length=n)
  (hold:(Builtin.firstCells ei.sz n (.slice A n cap)).run C.P w.drew=.ok (kU n ei.sz ua).toArray w.drew) (hy:Rep S w β y vy) (hr:mY h y=some (ei.sz,c)) (hlk:xV h y)
  (hg:cap<n+c.length) (hcm:n+c.length<=jH):
  Post B S w β s ((do pure (.value (<-Builtin.append_ #[t,tx] ty #[.slice A n cap,vy])):Sem Next).run C.P w) (.osl s 0 (n+c.length) false) (upd h s (some (.arr (a++c) ei.sz))):=by
 obtain⟨uc,Rc,src⟩:=PM (tk:=tk) H (PN hC htx hk) hy hr hlk;obtain⟨inf,z,i1,i2,i3,i4,i5,i6,i7,i8⟩:=(hC.ty e _ he).info;have hcap1:n+c.length<=1000000:=hcm;have hm:n+c.length<=maxLen:=by unfold maxLen;omega
 have run:=run_append_grow_src w t tx ty e inf z hte i1 i4 A n cap (kU n ei.sz ua) (by rw[i2];exact hold) vy c.length (kU c.length ei.sz uc) (by rw[i2];exact src) hg oT
  (growslice_fits hg (by rw[i3];exact aL (cJ hcap1 i8) oT))
 subst han;rw[JH]at run;have R:=Ra.append Rc;rw[<-aU]at run;have G:=To hC H hs he i6 R (grownCap w (a.length+c.length) cap e) (by rw[aU];exact grownCap_ge _ _ _ _) (grownCap_le_maxLen _ _ _ _ hm)
  (by rw[aU];rfl) ((Below.refl B w).drew.alloc H.big _)
 rw[aU]at G run;exact⟨_,_,S,_,.inl (by simp only[Sem.run_bind,run,Result.andThen_ok,Sem.run_pure]),G.1,G.2.1,G.2.2⟩
end
end Go.Proofs.YtlpkggpdjobpmaaGreatDoor
namespace Go.Proofs.YtlpkggpdjobpmaaGreatDoor
open Go.RowKit
section
variable {C:Ctx}{S:Nat->Prop}{w w':World}{β:Bt}{B:Nat}{h:AH}{s:Nat}
def zZ(B:Nat)(S:Nat->Prop)(w:World)(β:Bt)(h:AH)(s:Nat)(r:Result Next):Res->Prop
 | .bad=>True
 | .ok x=>Post B S w β s r x h
 | .need p x=>p->Post B S w β s r x h
 | .idx rows i f=>∀row x,0<=i->rows[i.toNat]?=some row->f row=some x->Post B S w β s r x h
 | .fx p x h'=>p->Post B S w β s r x h'
 | .idxfx rows i f=>∀row h',0<=i->rows[i.toNat]?=some row->f row=some h'->Post B S w β s r .any h'
 | .str p rows=>∀l,p->gU rows=some l->Post B S w β s r (.v (.string ⟨l.toArray⟩)) h
 | .call _ _=>False
theorem rN.post{P}{x}{r}(H:SimH B S w β h)(hr:rN P S w β r x):zZ B S w β h s ((do pure (.value (<-r)):Sem Next).run P w) x:=by
 cases x<;>simp only[rN,zZ]at hr⊢
 ·exact Post.of_yld H hr
 ·exact λhp=>Post.of_yld H (hr hp)
 ·exact λrow x h0 h1 h2=>Post.of_yld H (hr row x h0 h1 h2)
 exact λl hp h0=>Post.of_yld H (hr l hp h0)
def Lt(hC:CtxOk C)(H:SimH B S w β h)(hs:β s=none){t tx ty e:TypeId}{tk ei:TI}(hte:C.P.underlying t=some (.slice e))(htx:C.ty tx=some tk)(hk:Ou tk.kd=true)(he:C.ty e=some ei)
  {y:AV} {vx vy:Value} {s0 lo n cap:Nat} {A:Option Addr} {rows c:List (List AV)} (hx:Rep S w β (.osl s0 lo n false) (.slice A n cap)) (h0:h s0=some (.arr rows ei.sz)) (hln:lo+n=rows.length) (hy:Rep S w β y vy) (hr:mY h y=some (ei.sz,c)) (hlk:xV h y)
  (hg:n+c.length<=cap):
  Post B S w β s ((do pure (.value (<-Builtin.append_ #[t,tx] ty #[.slice A n cap,vy])):Sem Next).run C.P w) (.osl s 0 (n+c.length) false) (upd (upd h s0 none) s (some (.arr ((rows.drop lo).take n++c) ei.sz))):=by
 obtain⟨uc,Rc,src⟩:=PM (tk:=tk) H (PN hC htx hk) hy hr hlk;obtain⟨inf,z,i1,i2,i3,i4,i5,i6,i7,i8⟩:=(hC.ty e _ he).info;obtain⟨l,cs,ee,fr,k1,k2,k3,k4,k5,k6,k7,k8⟩:=H.own s0 _ h0
 cases hx with
 |osl _ _ _ _ l' _ _ hl hc hm hcl hA cs' e' fr' hb room=>
 obtain rfl:l'=l:=by rw[hl]at k1;exact af5 k1
 rw[k2]at hb;injection hb with hb;injection hb with q1 q2 q3;subst q1;subst q2;subst q3;have hss0:s≠s0:=λe=>by rw[e,hl]at hs;cases hs
 have fit:l'.base+lo*l'.rs+n*l'.rs+(kU c.length ei.sz uc).length<=cs.size:=by
  rw[fG, <-k6,dW,dW, <-cG, <-cG];exact aL (oQ (eF _ oT) _) room
 obtain⟨cs',a1,a2,a3,a4,a5⟩:=yS l'.blk (kU c.length ei.sz uc) (l'.base+lo*l'.rs+n*l'.rs) w cs ee fr k2 fit;have hbel:=xE k4 (kU c.length ei.sz uc) (l'.base+lo*l'.rs+n*l'.rs) w;have run:(Builtin.append_ #[t,tx] ty #[.slice A n cap,vy]).run C.P w=.ok (.slice A (n+c.length) cap) (w.setCells l'.blk (l'.base+lo*l'.rs+n*l'.rs) (kU c.length ei.sz uc)):=by
  rcases al_Nat_eq_zero_or_pos cap with hc0|hc0
  ·have hn0:n=0:=oT;have hcl0:c.length=0:=oT;have hlen:=src.len;rw[hcl0]at hlen;have hcells:=src.cells;rw[hcl0]at hcells;have hfl:kU 0 ei.sz uc=[]:=by simp[kU]
   rw[hcl0,hfl];rw[hfl]at hcells;subst hn0;rcases src.kind with ⟨e',hk'⟩|hk'<;>cases A<;>simp[Builtin.append_,run_underlying hte,run_underlying hk',sizeOf,typeInfo,i1,i2,hlen,hcells,World.setCells,storeCells]
  ·rw[hA hc0];have h1:∀j,j<(kU c.length ei.sz uc).length->(w.cell? ⟨l'.blk,l'.base+lo*l'.rs+n*inf.size+j,none⟩).isSome=true:=λj hj=>by
    rw[i2, <-k6,gP k2,aT oT];rfl
   have h2:∀j,j<(kU c.length ei.sz uc).length->w.frozen? ⟨l'.blk,l'.base+lo*l'.rs+n*inf.size+j,none⟩=false:=λj hj=>by
    rw[i2, <-k6];exact vP k2 k3 _ oT
   have:=run_append_room_src w t tx ty e inf hte i1 l'.blk (l'.base+lo*l'.rs) n cap vy c.length (kU c.length ei.sz uc) (by rw[i2];exact src) hg h1 h2;rw[i2, <-k6]at this;rw[<-k6];exact this
 have hle:ME β (upd β s (some ⟨l'.blk,l'.base+lo*l'.rs,l'.rs⟩)):=ME.upd hs _;have hE:Evo S w (w.setCells l'.blk (l'.base+lo*l'.rs+n*l'.rs) (kU c.length ei.sz uc)):=⟨λb hSb=>a5 b (λe=>k5 (e ▸ hSb)),λb c1 e1 f1 h1=>by
  by_cases hq:b=l'.blk
  ·subst hq;rw[k2]at h1;injection h1 with h1;injection h1 with q1 q2 q3;subst q1;subst q2;subst q3;exact⟨cs',a1,a2⟩
  ·exact⟨c1,(a5 b hq).trans h1,rfl⟩⟩
 have htl:((rows.drop lo).take n).length=n:=by rw[aM,bD];omega
 refine⟨.slice A (n+c.length) cap,_,S,upd β s (some ⟨l'.blk,l'.base+lo*l'.rs,l'.rs⟩),.inl (by simp only[Sem.run_bind,run,Result.andThen_ok,Sem.run_pure]),?_,?_,⟨λ_ h=>h,hE,hbel,hle,λx k hx=>?_,λ_ h=>.inl h,λb _ hne=>a5 b (λe=>hne s0 l' hl e.symm)⟩⟩
 ·refine .osl s 0 (n+c.length) false ⟨l'.blk,l'.base+lo*l'.rs,l'.rs⟩ A cap (dB _ _ _) hg hm (λh=>by cases h) (λh0=>by rw[hA h0];simp) cs' ee fr a1 ?_;rw[a2];rw[dW, <-cG,bJ];exact room
 ·refine⟨λs' blk' hs'=>?_,λs1 s2 l1 l2 h1 h2 e1 e2 hbb=>?_,λb hb=>by have:=H.lt b hb;rw[a4];exact this,by rw[a4];exact H.big⟩
  ·by_cases he':s'=s
   ·subst he';rw[dB]at hs';injection hs' with hs';subst hs';refine⟨⟨l'.blk,l'.base+lo*l'.rs,l'.rs⟩,cs',ee,fr,dB _ _ _,a1,by rw[a2];exact k3,k4,k5,k6,λrow hrow=>?_,λi row j a hi hj=>?_⟩
    ·rcases al_List_mem_append.1 hrow with h|h
     ·exact k7 row (eT (cQ h))
     ·exact Rc.len row h
    ·suffices hh:∃u,cs'[l'.base+lo*l'.rs+i*l'.rs+j]?=some u∧u.oneCell'=true∧Rep S (w.setCells l'.blk (l'.base+lo*l'.rs+n*l'.rs) (kU c.length ei.sz uc)) noB a u by
      obtain⟨u,hu,hu2⟩:=hh;exact⟨u,by show cs'[l'.base+lo*l'.rs+i*ei.sz+j]?=_;rw[<-k6];exact hu,hu2⟩
     by_cases hin:i<n
     ·rw[cF (by rw[htl];exact hin),cU,af1 hin,cL]at hi;obtain⟨u,p1,p2,p3⟩:=k8 (lo+i) row j a hi hj;have hjl:j<l'.rs:=by rw[k6, <-k7 row (aB hi)];exact(Em.1 hj).1
      refine⟨u,?_,p2,p3.mono (λ_ h=>h) hE (ME.refl _)⟩;rw[a3,dZ ?_]
      ·rw[<-p1, <-k6];congr 1;rw[cG];omega
      ·rintro⟨g1,_⟩;have:=vM hin hjl;omega
     ·rw[bM (by rw[htl];omega),htl]at hi;have hjl:j<l'.rs:=by rw[k6, <-Rc.len row (aB hi)];exact(Em.1 hj).1
      have hil:i-n<c.length:=(Em.1 hi).1;obtain⟨r1,r2⟩:=Rc.rep _ row j a hi hj;refine⟨uc (i-n) j,?_,r1,r2.mono (λ_ h=>h) hE (ME.refl _)⟩;have e1:i*l'.rs=n*l'.rs+(i-n)*l'.rs:=by rw[<-cG];congr 1;omega
      have hlt:=vM hil hjl;rw[a3,af1 (by rw[fG, <-k6];omega),(oT:l'.base+lo*l'.rs+i*l'.rs+j-(l'.base+lo*l'.rs+n*l'.rs)=(i-n)*l'.rs+j), <-k6];exact Hr _ _ _ hil hjl
   ·rw[cI _ _ he']at hs';by_cases he2:s'=s0
    ·subst he2;rw[dB]at hs';cases hs'
    ·rw[cI _ _ he2]at hs';obtain⟨l2,cs2,e2,fr2,j1,j2,j3,j4,j5,j6⟩:=H.own s' blk' hs';have hne:l2.blk≠l'.blk:=λq=>he2 (H.inj s' s0 l2 l' (by rw[hs'];simp) (by rw[h0];simp) j1 hl q);exact⟨l2,cs2,e2,fr2,hle _ _ j1,(a5 _ hne).trans j2,j3,j4,j5,j6.mono (λ_ h=>h) hE hle⟩
  ·have old:∀s1 l1,s1≠s->upd (upd h s0 none) s (some (.arr ((rows.drop lo).take n++c) ei.sz)) s1≠none->upd β s (some ⟨l'.blk,l'.base+lo*l'.rs,l'.rs⟩) s1=some l1->s1≠s0∧h s1≠none∧β s1=some l1:=by
    intro s1 l1 hn h1 e1;rw[cI _ _ hn]at h1 e1;by_cases he2:s1=s0
    ·rw[he2,dB]at h1;exact absurd rfl h1
    ·rw[cI _ _ he2]at h1;exact⟨he2,h1,e1⟩
   by_cases n1:s1=s
   ·by_cases n2:s2=s
    ·rw[n1,n2]
    ·subst n1;rw[dB]at e1;injection e1 with e1;subst e1;obtain⟨b0,b1,b2⟩:=old s2 l2 n2 h2 e2;exact absurd (H.inj s2 s0 l2 l' b1 (by rw[h0];simp) b2 hl hbb.symm) b0
   ·by_cases n2:s2=s
    ·subst n2;rw[dB]at e2;injection e2 with e2;subst e2;obtain⟨b0,b1,b2⟩:=old s1 l1 n1 h1 e1;exact absurd (H.inj s1 s0 l1 l' b1 (by rw[h0];simp) b2 hl hbb) b0
    ·obtain⟨_,a1',a2'⟩:=old s1 l1 n1 h1 e1;obtain⟨_,b1,b2⟩:=old s2 l2 n2 h2 e2;exact H.inj s1 s2 l1 l2 a1' b1 a2' b2 hbb
 ·by_cases he':x=s
  ·refine .inr ⟨he',.inr ⟨s0,l',hl,?_⟩⟩;subst he';rw[dB]at hx;injection hx with hx;subst hx;rfl
  ·rw[cI _ _ he']at hx;exact .inl hx
theorem SimH.forget(H:SimH B S w β h)(s0):SimH B S w β (upd h s0 none):=by
 have old:∀s1,upd h s0 none s1≠none->h s1≠none:=λs1 h1=>by
  by_cases he:s1=s0
  ·rw[he,dB]at h1;exact absurd rfl h1
  rwa [cI _ _ he]at h1
 refine⟨λs' blk hs'=>?_,λs1 s2 l1 l2 h1 h2 e1 e2 hb=>H.inj s1 s2 l1 l2 (old s1 h1) (old s2 h2) e1 e2 hb,H.lt,H.big⟩;by_cases he:s'=s0
 ·rw[he,dB]at hs';cases hs'
 rw[cI _ _ he]at hs';exact H.own s' blk hs'
theorem Post.forget{r}{x}{h'}(s0)(hp:Post B S w β s r x h'):Post B S w β s r x (upd h' s0 none):=
 let ⟨v,w',S',β',a,b,c,d⟩:=hp;⟨v,w',S',β',a,b,c.forget s0,d⟩
def Lu(hC:CtxOk C)(H:SimH B S w β h){t tx ty e}{tk ei}(hte:C.P.underlying t=some (.slice e))(htx:C.ty tx=some tk)(hk:Ou tk.kd=true)(he:C.ty e=some ei)
  {y} {vy} {n cap} {A} (hy:Rep S w β y vy) (hr:mY h y=some (ei.sz,[])) (hlk:xV h y) (hc:n<=cap):
  (Builtin.append_ #[t,tx] ty #[.slice A n cap,vy]).run C.P w=.ok (.slice A n cap) w:=by
 obtain⟨uc,Rc,src⟩:=PM (tk:=tk) H (PN hC htx hk) hy hr hlk;obtain⟨inf,z,i1,i2,i3,i4,i5,i6,i7,i8⟩:=(hC.ty e _ he).info;have hlen:=src.len;have hcells:=src.cells;have hfl:kU ([]:List (List AV)).length ei.sz uc=[]:=by simp[kU]
 rw[hfl]at hcells;simp only[cX]at hlen hcells;rcases src.kind with ⟨e',hk'⟩|hk'<;>cases A<;>simp[Builtin.append_,run_underlying hte,run_underlying hk',sizeOf,typeInfo,i1,i2,hlen,hcells,hc,storeCells]
def PO(hC:CtxOk C)(H:SimH B S w β h)(hs:β s=none)(t tx ty){x y}{vx vy}(hx:Rep S w β x vx)(hy:Rep S w β y vy):
  zZ B S w β h s ((do pure (.value (<-Builtin.append_ #[t,tx] ty #[vx,vy])):Sem Next).run C.P w) (bR C h s .append [t,tx] [x,y]):=by
 simp only[bR,qG];split
 ·rename_i e sz ag z by_ eq tk ht htx;have hte:C.P.underlying t=some _:=(hC.ty t _ ht).kd;split
  ·rename_i ei he;split
   ·rename_i r0 rows0 ra a rc c hk hrc hra;simp only[mY]at hra;injection hra with hra;injection hra with q1 q2;subst q1;subst q2;split
    ·rename_i e1 e3;have e3:=aO e3;subst e3;rintro⟨p1,p2,p3,p4⟩
     cases hx with
     |sl _ _ _ A cc b o u hc hm hcl hrs hA hw h1 hr'=>
     have ha:rows0=[]:=afC p1;subst ha;have hcc:=hcl rfl;have hold:(Builtin.firstCells ei.sz 0 (.slice A 0 cc)).run C.P w.drew=.ok (kU 0 ei.sz (λ_ _=>undef)).toArray w.drew:=by
      have:kU 0 ei.sz (λ_ _=>undef)=[]:=by simp[kU]
      rw[this]
      cases A with
      |none=>exact run_firstCells_none w.drew ei.sz 0 0 cc
      |some A=>exact run_firstCells_some w.drew ei.sz 0 A 0 cc [] (by simp) (by simp)
     have:=yT (s:=s) (ti:=⟨.slice e,sz,ag,z,by_,eq⟩) (ra:=0) (rc:=0) hC H hs hte htx hk he (a:=[]) (ua:=λ_ _=>undef) (n:=0) ⟨by simp,by simp⟩ rfl hold hy hrc p4 (by simp at hcc;omega) oT (ty:=ty);simpa using this
    ·rename_i e1 e2 e3;have e2:=aO e2;have e3:=aO e3;subst e3;split
     ·rintro⟨p3,p4⟩;have hx':=hx
      cases hx with
      |sl _ _ _ A cc b o u' hc hm hcl hrs hA hw h1 hr'=>
      exact⟨_,w,S,β,.inl (by simp only[Sem.run_bind,Lu hC H hte htx hk he hy hrc p4 hc,Result.andThen_ok,Sem.run_pure]),hx',H,StepK.refl _ _ _ _ _⟩
     ·rintro⟨p1,p2,p3,p4⟩;obtain⟨u,R,hl,hf⟩:=AG (C:=C) H hx (rc:=r0) (rows:=rows0) rfl p3
      cases hx with
      |sl _ _ _ A cc b o u' hc hm hcl hrs hA hw h1 hr'=>
      subst e2;have hcc:=hcl rfl;exact yT (s:=s) (ti:=⟨.slice e,sz,ag,z,by_,eq⟩) (ra:=0) (rc:=0) hC H hs hte htx hk he R rfl (hf w.drew (λ_ _=>rfl) _ (aC _)) hy hrc p4 oT oT (ty:=ty)
    ·trivial
   ·rename_i s0 lo len ra a rc c hk hrc hra;split
    ·rename_i e2 e3;have e2:=aO e2;have e3:=aO e3;subst e2;subst e3;rintro⟨p1,p2,p3,p4⟩;obtain⟨u,R,hl,hf⟩:=AG (C:=C) H hx hra p3
     cases hx with
     |osl _ _ _ _ l A cc hl' hc hm hcl hA cs ee fr hb room=>
     have hcc:=hcl rfl;have hn:a.length=len:=by
      have:=hl w;simp only[Builtin.lenOf,Sem.run_pure]at this;injection this with this _;exact this.symm
     subst hn;exact yT (s:=s) (ti:=⟨.slice e,sz,ag,z,by_,eq⟩) (ra:=0) (rc:=0) hC H hs hte htx hk he R rfl (hf w.drew (λ_ _=>rfl) _ (aC _)) hy hrc p4 oT oT (ty:=ty)
    ·trivial
   ·rename_i s0 lo len ra a rc c hk hrc hra;split
    ·rename_i rows rs h0 e2 e3;have h0:h s0=some _:=h0;have e2:=aO e2;have e3:=aO e3;subst e2;subst e3;rintro⟨p1,p2,p4⟩;have p3:xV h (.osl s0 lo len false):=by simp only[xV,h0];omega
     obtain⟨u,R,hl,hf⟩:=AG (C:=C) H hx hra p3;simp only[mY,h0]at hra;injection hra with hra;injection hra with q1 q2;subst q1;have htl:a.length=len:=by rw[<-q2,aM,bD];omega
     have hx':=hx
     cases hx with
     |osl _ _ _ _ l A cap hl' hc hm hcl hA cs ee fr hb room=>
     by_cases hg:len+c.length<=cap
     ·have:=Lt (s:=s) hC H hs hte htx hk he (ty:=ty) (vx:=undef) hx' h0 p2 hy hrc p4 hg;rw[q2]at this;rw[htl];exact this
     ·subst htl;have:=(yT (s:=s) (ti:=⟨.slice e,sz,ag,z,by_,eq⟩) (ra:=0) (rc:=0) hC H hs hte htx hk he R rfl (hf w.drew (λ_ _=>rfl) _ (aC _)) hy hrc p4 oT oT (ty:=ty)).forget s0;have hss0:s≠s0:=λe=>by rw[e,hl']at hs;cases hs
      rw[show upd _ s0 none=upd (upd h s0 none) s (some (.arr (a++c) ei.sz))from by
       funext k;by_cases h1:k=s0
       ·subst h1;rw[dB,cI _ _ (Ne.symm hss0),dB]
       ·rw[cI _ _ h1];by_cases h2:k=s
        ·subst h2;rw[dB,dB]
        ·rw[cI _ _ h2,cI _ _ h2,cI _ _ h1]]at this
      exact this
    ·trivial
   ·trivial
  ·trivial
 ·trivial
end
end Go.Proofs.YtlpkggpdjobpmaaGreatDoor
namespace Go.Proofs.YtlpkggpdjobpmaaGreatDoor
open Go.RowKit
section
variable {C:Ctx}{S:Nat->Prop}{w w':World}{β:Bt}{B:Nat}{h:AH}{s:Nat}
def Wp(hC:CtxOk C)(H:SimH B S w β h)(ts)(ty){x y}{vx vy}(hx:Rep S w β x vx)(hy:Rep S w β y vy):
  zZ B S w β h s ((do pure (.value (<-Builtin.copy_ ts.toArray ty #[vx,vy])):Sem Next).run C.P w) (EB C h ts x y):=by
 unfold EB;split
 ·trivial
 ·rename_i t rest;split
  ·rename_i e sz ag z by_ eq ht;have hte:C.P.underlying t=some (.slice e):=(hC.ty t _ ht).kd;split
   ·rename_i ei s0 lo len clip he;split
    ·rename_i rows rs rc c h0 hrc;split
     ·rename_i e1 e2;have e1:=aO e1;have e2:=aO e2;subst e1;subst e2;rintro⟨p1,p2⟩;obtain⟨u,R,hlen,hf⟩:=AG (C:=C) H hy hrc p2;obtain⟨l,cs,ee,fr,k1,k2,k3,k4,k5,k6,k7,k8⟩:=H.own s0 _ h0
      cases hx with
      |osl _ _ _ _ l' A cap hl hc hm hcl hA cs' e' fr' hb room=>
      obtain rfl:l'=l:=by rw[hl]at k1;exact af5 k1
      rw[k2]at hb;injection hb with hb;injection hb with q1 q2 q3;subst q1;subst q2;subst q3;have hn:min c.length len<=c.length:=Nat.min_le_left _ _;have hn2:min c.length len<=len:=eX _ _;have hfirst:=hf w (λ_ _=>rfl) (min c.length len) hn;have fit:l'.base+lo*l'.rs+(kU (min c.length len) ei.sz u).length<=cs.size:=by
       rw[fG, <-k6,dW, <-cG];exact aL (oQ (eF _ oT) _) room
      have hone:∀x∈kU (min c.length len) ei.sz u,x.oneCell'=true:=by
       intro x hx;simp only[kU,pG,lI]at hx;obtain⟨k,hk,rfl⟩:=hx;have h0':0<ei.sz:=eU λe=>by rw[e]at hk;simp at hk
       have hi:k/ei.sz<c.length:=af3 (fO (by rw[fR];exact hk)) hn;have hr:c[k/ei.sz]?=some c[k/ei.sz]:=aA hi;have hj:k%ei.sz<c[k/ei.sz].length:=by rw[R.len _ (aB hr)];exact aQ _ h0'
       exact(R.rep _ _ _ _ hr (aA hj)).1
      have run:(Builtin.copy_ (t::rest).toArray ty #[.slice A len cap,vy]).run C.P w=.ok (.int .i64 ((min c.length len:Nat):Int)) (w.setCells l'.blk (l'.base+lo*l'.rs) (kU (min c.length len) ei.sz u)):=by
       have hst:∀a,A=some a->(storeCells a (kU (min c.length len) ei.sz u)).run C.P w=.ok () (w.setCells l'.blk (l'.base+lo*l'.rs) (kU (min c.length len) ei.sz u)):=by
        intro a ha;rcases al_Nat_eq_zero_or_pos cap with hc0|hc0
        ·have:min c.length len=0:=oT;rw[this];simp[kU,storeCells,World.setCells]
        ·rw[hA hc0]at ha;injection ha with ha;subst ha;have:=run_storeCells_cells (P:=C.P) l'.blk (l'.base+lo*l'.rs) (kU (min c.length len) ei.sz u) 0 w (λj hj=>by rw[gP k2,aT oT];rfl) (λj hj=>vP k2 k3 _ oT) hone;simpa using this
       have hnone:A=none->min c.length len=0:=λha=>by
        rcases al_Nat_eq_zero_or_pos cap with hc0|hc0
        ·omega
        ·rw[hA hc0]at ha;cases ha
       cases A with
       |none=>
        have hz:=hnone rfl;rw[hz]at hfirst⊢;have hz':Nat.min c.length len=0:=hz;simp only[Builtin.copy_,eM,cP,dL,Sem.run_bind,run_underlying hte,Result.andThen_ok,hlen,AK hC he,hz',hfirst,Sem.run_pure,goInt]
        simp[kU,World.setCells]
       |some a=>
        have hmin:Nat.min c.length len=min c.length len:=rfl;simp only[Builtin.copy_,eM,cP,dL,Sem.run_bind,run_underlying hte,Result.andThen_ok,hlen,AK hC he,hmin,hfirst,hst a rfl,Sem.run_pure,goInt]
      have hrow:∀(i:Nat) row,(rows.take lo++c.take (min c.length len)++rows.drop (lo+min c.length len))[i]?=some row->(lo<=i∧i<lo+min c.length len∧c[i-lo]?=some row)∨(¬(lo<=i∧i<lo+min c.length len)∧rows[i]?=some row):=by
       intro i row hi;have h1:(rows.take lo).length=lo:=by rw[aM];omega
       have h2:(c.take (min c.length len)).length=min c.length len:=by rw[aM];omega
       by_cases g1:i<lo
       ·rw[eD,cF oT,cU,af1 g1]at hi;exact .inr ⟨oT,hi⟩
       ·by_cases g2:i<lo+min c.length len
        ·rw[eD,bM oT,cF oT,cU,h1,af1 oT]at hi;exact .inl ⟨oT,g2,hi⟩
        ·rw[bM (by rw[aU];omega),cL,aU,h1,h2]at hi;refine .inr ⟨oT,?_⟩;rw[<-hi];congr 1;omega
      obtain⟨r1,r2⟩:=DT H h0 hl k2 k4 (kU (min c.length len) ei.sz u) (l'.base+lo*l'.rs) fit (blk:=.arr (rows.take lo++c.take (min c.length len)++rows.drop (lo+min c.length len)) ei.sz) (λw' cs' hE hget=>by
       refine⟨k6,λrow hr=>?_,λi row j a hi hj=>?_⟩
       ·obtain⟨i,hi⟩:=List.mem_iff_getElem?.1 hr;rcases hrow i row hi with ⟨_,_,hh⟩|⟨_,hh⟩
        ·exact R.len row (aB hh)
        ·exact k7 row (aB hh)
       ·rw [<-k6];rcases hrow i row hi with ⟨g1,g2,hh⟩|⟨g1,hh⟩
        ·have hjl:j<l'.rs:=by rw[k6, <-R.len row (aB hh)];exact(Em.1 hj).1
         obtain⟨t1,t2⟩:=R.rep _ row j a hh hj;refine⟨u (i-lo) j,?_,t1,t2.mono (λ_ h=>h) hE (ME.refl _)⟩;have hlt:=vM (by omega:i-lo<min c.length len) hjl;have e1:i*l'.rs=lo*l'.rs+(i-lo)*l'.rs:=by rw[<-cG];congr 1;omega
         rw[hget,af1 (by rw[fG, <-k6];omega),(oT:l'.base+i*l'.rs+j-(l'.base+lo*l'.rs)=(i-lo)*l'.rs+j), <-k6];exact Hr _ _ _ oT hjl
        ·have hjl:j<l'.rs:=by rw[k6, <-k7 row (aB hh)];exact(Em.1 hj).1
         obtain⟨v,t0,t1,t2⟩:=k8 i row j a hh hj;rw[<-k6]at t0;refine⟨v,?_,t1,t2.mono (λ_ h=>h) hE (ME.refl _)⟩;rw[hget,dZ ?_]
         ·exact t0
         ·rw[fG, <-k6];rintro⟨q1,q2⟩;by_cases g2:i<lo
          ·have:=vM g2 hjl;omega
          ·have g3:lo+min c.length len<=i:=oT;have:(lo+min c.length len)*l'.rs<=i*l'.rs:=eF _ g3;rw[cG]at this;omega)
      exact⟨_,_,S,β,.inl (by simp only[Sem.run_bind,run,Result.andThen_ok,Sem.run_pure]),.v _,r1,r2⟩
     ·trivial
    ·trivial
   ·trivial
  ·trivial
end
end Go.Proofs.YtlpkggpdjobpmaaGreatDoor
namespace Go.Proofs.YtlpkggpdjobpmaaGreatDoor
open Go.RowKit
section
variable {C:Ctx}{S:Nat->Prop}{w w':World}{β:Bt}{B:Nat}{h:AH}{s:Nat}
def Wq(hC:CtxOk C)(H:SimH B S w β h)(hs:β s=none){t e}{ei}(hte:C.P.underlying t=some (.slice e))(he:C.ty e=some ei){z}(hz:kN ei.zero=some z)(hcz:eW z=true)(kl kc)(l c:Int)(h0:0<=l)(h1:l<=c)(h2:c<=jH):
  Post B S w β s ((do pure (.value (<-Instr.makeSlice t (.int kl l) (.int kc c))):Sem Next).run C.P w) (.osl s 0 l.toNat false) (upd h s (some (.arr (List.replicate l.toNat z) z.length))):=by
 obtain⟨inf,zv,i1,i2,i3,i4,i5,i6,i7,i8⟩:=CP (S:=S) (w:=w) (β:=β) hC he hz;have hzl:z.length=ei.sz:=by rw[i4.rep.1, <-i5];simp
 have hcap:c<=1000000:=h2;have hb:(inf.bytes:Int)*c<=281474976710656:=by
  have e1:(inf.bytes:Int)<=1000:=by rw[i6];omega
  have:(inf.bytes:Int)*c<=1000*1000000:=Int.mul_le_mul e1 hcap oT oT;omega
 have run:=run_make w t e inf zv hte i1 i3 kl kc l c h0 h1 hb oT;have hw:(w.alloc (.cells (madeCells zv.cells (c.toNat*inf.size)) e)).heap=w.heap.push (.cells (madeCells zv.cells (c.toNat*inf.size)) e):=rfl;have hle:ME β (upd β s (some ⟨w.heap.size,0,z.length⟩)):=ME.upd hs _;have hE:Evo S w (w.alloc (.cells (madeCells zv.cells (c.toNat*inf.size)) e)):=Evo.of_kept (λb hb=>iG hw hb) H.lt;obtain⟨p1,p2⟩:=AF H hs hw (λo _=>by simp) ((Below.refl B w).alloc H.big _) (l:=⟨w.heap.size,0,z.length⟩) (blk:=.arr (List.replicate l.toNat z) z.length) rfl ⟨rfl,λrow hr=>by rw[(List.mem_replicate.1 hr).2],λi row j a hi hj=>by
  have hil:i<l.toNat:=by have:=(Em.1 hi).1;simpa using this
  rw[jG,af1 hil]at hi;injection hi with hi;subst hi;have hjl:j<z.length:=(Em.1 hj).1;have hjv:j<zv.cells.toList.length:=by rw[<-i4.rep.1];exact hjl
  have hjz:zv.cells.toList[j]?=some zv.cells.toList[j]:=aA hjv;refine⟨zv.cells.toList[j],?_,i4.one j _ hjz,mB ((i4.rep.2 j a _ hj hjz).mono (λ_ h=>h) hE hle) (fW z hcz j a hj) _⟩;have hlt:i*z.length+j<c.toNat*inf.size:=by rw[i2, <-hzl];exact vM oT hjl
  rw[bJ];simp only[madeCells,pH];rw[show(Array.range (c.toNat*inf.size))[i*z.length+j]?=some (i*z.length+j) by simp[hlt],dF,i5, <-hzl,(ajV hjl).2];congr 1;have:j<zv.cells.size:=sU hjv;rw[getElem!_pos zv.cells j this];rfl⟩
 refine⟨.slice (some ⟨w.heap.size,0,none⟩) l.toNat c.toNat,_,S,_,.inl (by simp only[Sem.run_bind,run,Result.andThen_ok,Sem.run_pure]),?_,p1,p2⟩;refine .osl s 0 l.toNat false ⟨w.heap.size,0,z.length⟩ _ c.toNat (dB _ _ _) oT (by unfold maxLen;omega) (λh=>by cases h) (λ_=>by simp) _ e _ (rX hw) ?_;rw[size_madeCells,i2,hzl,bJ,bJ];exact aC _
def Lv(hC:CtxOk C)(H:SimH B S w β h)(hs:β s=none){src dst e}(hsrc:C.P.underlying src=some .string)(hdst:C.P.underlying dst=some (.slice e))(he:C.P.underlying e=some (.int .u8))(b)(hb:b.size<=jH):
  Post B S w β s ((do pure (.value (<-convert src dst (.string b))):Sem Next).run C.P w) (.osl s 0 b.size false) (upd h s (some (.arr (aS b) 1))):=by
 have run:=run_bytes_of_string w src dst e b hsrc hdst he;have hcap:b.size<=1000000:=hb;have hge:=grownCap_ge w b.size 0 e;have hm:grownCap w b.size 0 e<=maxLen:=grownCap_le_maxLen _ _ _ _ (by unfold maxLen;omega);have hsz:(bytesRow b (grownCap w b.size 0 e)).size=grownCap w b.size 0 e:=by
  have:b.data.size=b.size:=rfl;simp[bytesRow,this];omega
 have hw:(w.drew.alloc (.cells (bytesRow b (grownCap w b.size 0 e)) e ((bytesRow b (grownCap w b.size 0 e)).size,(bytesRow b (grownCap w b.size 0 e)).size+1))).heap=w.heap.push (.cells (bytesRow b (grownCap w b.size 0 e)) e ((bytesRow b (grownCap w b.size 0 e)).size,(bytesRow b (grownCap w b.size 0 e)).size+1)):=rfl;have hlen:(aS b).length=b.size:=by simp[aS]
 obtain⟨p1,p2⟩:=AF H hs hw (λo ho=>by simp;omega) ((Below.refl B w).drew.alloc H.big _) (l:=⟨w.heap.size,0,1⟩) (blk:=.arr (aS b) 1) rfl ⟨rfl,λrow hr=>by
   simp only[aS,pG]at hr;obtain⟨x,_,rfl⟩:=hr;rfl,λi row j a hi hj=>by
  have hil:i<b.size:=by rw[<-hlen];exact(Em.1 hi).1
  simp only[aS,aX]at hi;obtain⟨x,hx,rfl⟩:=Gi.1 hi
  cases j with
  |succ j=>simp at hj
  |zero=>
   simp only[cP,af6]at hj;subst hj;refine⟨.int .u8 x.toNat,?_,rfl,.v _⟩;rw[bQ]at hx;have hbd:b.data.size=b.size:=rfl;simp only[bytesRow,bJ,iD,iU];rw[dS (by simp;omega),pH,hx];rfl⟩
 refine⟨.slice (some ⟨w.heap.size,0,none⟩) b.size (grownCap w b.size 0 e),_,S,_,.inl (by simp only[Sem.run_bind,run,Result.andThen_ok,Sem.run_pure]),?_,p1,p2⟩;refine .osl s 0 b.size false ⟨w.heap.size,0,1⟩ _ _ (dB _ _ _) hge hm (λh=>by cases h) (λ_=>by simp) _ e _ (rX hw) ?_;show 0+(0+grownCap w b.size 0 e)*1<=_;rw[hsz];omega
theorem Dn:∀(rows:List (List AV)) (l:List UInt8),gU rows=some l->∃ns:List Int,rows=ns.map (λn=>[.v (.int .u8 n)])∧l=ns.map (λn=>UInt8.ofNat n.toNat)
 |[],l,h=>by simp only[gU]at h;injection h with h;subst h;exact⟨[],rfl,rfl⟩
 | r::rows,l,h=>by
  unfold gU at h;split at h
  ·rename_i he;cases he
  ·rename_i n rs he;injection he with e1 e2;subst e1;subst e2;split at h
   ·rename_i l' hl';injection h with h;subst h;obtain⟨ns,h1,h2⟩:=Dn rows l' hl';exact⟨n::ns,by rw[h1];rfl,by rw[h2];rfl⟩
   ·cases h
  ·cases h
theorem Gy:∀(ns:List Int) (r:ByteArray),ns.foldl (λr n=>r.push (UInt8.ofNat n.toNat)) r=⟨r.data++(ns.map λn=>UInt8.ofNat n.toNat).toArray⟩
 |[],r=>by simp
 |n::ns,r=>by
  simp only[mK,jC];rw[Gy ns];simp[ByteArray.push]
def Lw(hC:CtxOk C)(H:SimH B S w β h){src dst e}(hsrc:C.P.underlying src=some (.slice e))(hdst:C.P.underlying dst=some .string)(he:C.P.underlying e=some (.int .u8)){x}{vx}{rc}{rows}
  (hx:Rep S w β x vx) (hns:∀b,x≠ .v (.string b)) (hr:mY h x=some (rc,rows)) (hlk:xV h x) (l) (hl:gU rows=some l):Yld C.P S w β (.v (.string ⟨l.toArray⟩)) (convert src dst vx):=by
 obtain⟨u,R,hlen,hf⟩:=AG H hx hr hlk;obtain⟨ns,e1,e2⟩:=Dn rows l hl;obtain⟨A,c,hv⟩:∃A c,vx=.slice A rows.length c:=by
  have hl':=hlen w
  cases hx with
  |v=>cases vx<;>first|exact absurd rfl (hns _)|(simp[mY]at hr;done)
  |sl rs rows' clip A c b o u hc hm hcl hrs hA hw h1 hr'=>
   simp only[mY]at hr;injection hr with hr;injection hr with q1 q2;subst q2
   exact⟨A,c,rfl⟩
  |osl s0 lo len clip l A c hl hc hm hcl hA cs e fr hb room=>
   simp only[Builtin.lenOf,Sem.run_pure]at hl';injection hl' with hl' _
   exact⟨A,c,by rw[hl']⟩
  |_=>simp only[mY]at hr;cases hr
 subst hv;refine⟨_,?_,.v _⟩;rw[run_convert_bytes_string w src dst e A rows.length c hsrc he hdst];have hrc:0<rows.length->rc=1:=λh0=>by
  obtain⟨row,hrow⟩:=List.exists_mem_of_length_pos h0;rw[<-R.len row hrow];rw[e1]at hrow;obtain⟨n,_,rfl⟩:=pG.1 hrow;rfl
 have hu:∀i,i<rows.length->u i 0=.int .u8 (ns.getD i 0):=λi hi=>by
  have hn:i<ns.length:=by rw[e1]at hi;simpa using hi
  have hrow:rows[i]?=some [.v (.int .u8 (ns.getD i 0))]:=by
   rw[e1,aX,aA hn,aR,aA hn];rfl
  exact(lV (R.rep i _ 0 _ hrow rfl).2)
 have hnl:ns.length=rows.length:=by rw[e1];simp
 cases A with
 | none=>
  have h0:rows.length=0:=by
   rcases al_Nat_eq_zero_or_pos rows.length with h|h
   ·exact h
   ·have:=hf w (λ_ _=>rfl) rows.length (aC _);rw[run_firstCells_none]at this;injection this with this _;have h2:=af2 Array.size this;rw[hrc h]at h2;simp[fG]at h2;omega
  have:ns=[]:=afC oT;subst this;subst e2
  rfl
 | some a=>
  have hload:(loadCells a rows.length).run C.P w=.ok (ns.map (Value.int .u8)).toArray w:=by
   rcases al_Nat_eq_zero_or_pos rows.length with h|h
   ·have:ns=[]:=afC oT;subst this;rw[h];rfl
   ·have:=hf w (λ_ _=>rfl) rows.length (aC _);rw[hrc h]at this;simp only[Builtin.firstCells,iD]at this;rw[this];congr 2;apply dD;intro k;by_cases hk:k<rows.length
    ·rw[vL _ _ _ _ oT,qU,Nat.mod_one,hu k hk,aX,aA oT,aR,aA oT];rfl
    ·rw[bE (by rw[fG];omega),bE (by simp;omega)]
  rw[run_bytesToString w a rows.length c ns hload,Gy,e2];have he0:ByteArray.empty.data= #[]:=rfl;rw[he0];simp
theorem Lx:∀(n:Nat) (cs l:List AV),n+cs.length<=l.length->zS n cs l=l.take n++cs++l.drop (n+cs.length)
 |0,[],l,_=>by simp[zS]
 |0,c::cs,x::l,h=>by simp[zS,Lx 0 cs l (by simp at h;omega)]
 |0,c::cs,[],h=>by simp at h
 |n+1,cs,x::l,h=>by
  simp only[zS,Lx n cs l (by simp at h;omega),oP,nV,eD]
  rw[(oT:n+1+cs.length=(n+cs.length)+1),List.drop_succ_cons]
 |n+1,cs,[],h=>by simp at h
theorem Gz(sz:Nat):∀(ps:List (Nat×AV)) (k:Nat) (rows:List (List AV)) (cells:List AV),FL sz k ps=some rows->cells.length=(k+rows.length)*sz->
  HJ C (λi=>some (i*sz,sz)) cells ps=some (cells.take (k*sz)++rows.flatten)
 |[],k,rows,cells,h,hl=>by
  simp only[FL]at h;injection h with h;subst h;simp only[HJ,List.flatten_nil,dY]
  rw[aN (by rw[hl];simp)]
 | (i,x)::ps,k,rows,cells,h,hl=>by
  simp only[FL]at h;split at h
  ·rename_i cs rows' h1 h2 h3;split at h
   ·rename_i h4 h5;injection h with h;subst h;have h1:=aO h1;subst h1;have h4:=aO h4;subst h4;simp only[bN]at hl;have e1:i*cs.length+cs.length<=cells.length:=by
     rw[hl];have:(i+1)*cs.length<=(i+(rows'.length+1))*cs.length:=eF _ oT;rw[cG,lD]at this;exact this
    have hp:=Lx (i*cs.length) cs cells e1;have hpl:=vO (i*cs.length) cs cells e1;have ih:=Gz cs.length ps (i+1) rows' (zS (i*cs.length) cs cells) h3 (by rw[hpl,hl];congr 1;omega);simp only[HJ,h2];rw[show Nat.beq cs.length cs.length=true from nG _,show Nat.ble (i*cs.length+cs.length) cells.length=true from iL e1];simp only;rw[ih,hp];congr 1;have ht:(cells.take (i*cs.length)).length=i*cs.length:=by rw[aM];omega
    rw[List.take_append_of_le_length (by rw[aU,ht,cG,lD];exact aC _),aN (by rw[aU,ht,cG,lD];exact aC _)];simp
   ·cases h
  ·cases h
theorem Ex{sz:Nat}:∀(rows:List (List AV)),(∀row∈rows,row.length=sz)->∀(i:Nat) row (j:Nat) a,rows[i]?=some row->row[j]?=some a->rows.flatten[i*sz+j]?=some a
 |[],_,i,row,j,a,h,_=>by simp at h
 |r::rows,hl,0,row,j,a,h,hj=>by
  simp only[cP,af6]at h;subst h;rw[mU,Nat.zero_mul,bJ,cF (Em.1 hj).1]
  exact hj
 |r::rows,hl,i+1,row,j,a,h,hj=>by
  have hr:r.length=sz:=hl r (al_List_mem_cons_self);rw[mU,bM (by rw[hr,cG];omega),hr,show(i+1)*sz+j-sz=i*sz+j by rw[cG];omega];exact Ex rows (λrow hrow=>hl row (bY _ hrow)) i row j a (sU h) hj
theorem GA(sz:Nat):∀(ps:List (Nat×AV)) (k:Nat) (rows:List (List AV)),FL sz k ps=some rows->∀row∈rows,row.length=sz∧eW row=true
 |[],k,rows,h,row,hr=>by
  simp only[FL]at h;injection h with h;subst h
  cases hr
 | (i,x)::ps,k,rows,h,row,hr=>by
  simp only[FL]at h;split at h
  ·rename_i cs rows' h1 h2 h3;split at h
   ·rename_i h4 h5;injection h with h;subst h;rcases al_List_mem_cons.1 hr with rfl|hr
    ·exact⟨aO h4,h5⟩
    ·exact GA sz ps (k+1) rows' h3 row hr
   ·cases h
  ·cases h
def Hs(hC:CtxOk C)(H:SimH B S w β h){t e}{ei}(hte:C.P.underlying t=some (.slice e))(he:C.ty e=some ei)(ps)(qs)(hq:Ez S w β ps qs.toList){rows}(hr:FL ei.sz 0 ps=some rows)
  {len} (hl:rows.length=len) (h0:0<len) (hb:len*ei.sz<=16777216):Post B S w β s ((do pure (.value (<-Instr.buildSlice t len qs)):Sem Next).run C.P w) (.sl ei.sz rows true) h:=by
 obtain⟨inf,z,i1,i2,i3,i4,i5,i6,i7,i8⟩:=(hC.ty e _ he).info;have hz:CellL S w β (List.replicate (len*ei.sz) AV.any) ((Array.range (len*ei.sz)).map (z.cells[· % z.cells.size]!)).toList:=by
  have hone:∀(i:Nat) u,z.cells[i]?=some u->u.oneCell'=true:=(hC.ty e _ he).one inf z i1 i4;refine⟨⟨by simp,λi a u p q=>by
   rw[jG]at p;split at p
   ·injection p with p;subst p;exact .any _
   cases p⟩,λi u hu=>?_⟩
  simp only[bQ,pH]at hu;obtain⟨k,hk,rfl⟩:=Gi.1 hu;have hlt:k%z.cells.size<z.cells.size:=aQ _ oT;rw[getElem!_pos z.cells _ hlt];exact hone _ _ (aT hlt)
 obtain⟨vr,g1,g2⟩:=HC (C:=C) (pv:=λi=>some (i*ei.sz,ei.sz)) (λi x hx=>hx) ps qs.toList _ _ _ hq hz (Gz ei.sz ps 0 rows _ hr (by rw[cM,hl,bJ]));have hpos: ¬len*ei.sz=0:=Nat.ne_of_gt (Nat.mul_pos h0 i7);have run:=run_buildSlice w t e len qs vr inf z hte i1 i4 (by rw[i2];omega) (by rw[i2];exact hpos) (by rw[i2];exact g1);have hw:(w.alloc (.cells vr e)).heap=w.heap.push (.cells vr e):=rfl;have hE:Evo S w (w.alloc (.cells vr e)):=Evo.of_kept (λb hb=>iG hw hb) H.lt;have spec:=GA ei.sz ps 0 rows hr;have g2':CellL S w β rows.flatten vr.toList:=sU g2;have hS:∀b,S b->S b∨b=w.heap.size:=λb hb=>.inl hb;have cell:∀(i:Nat) row (j:Nat) a,rows[i]?=some row->row[j]?=some a->∃u,vr[i*ei.sz+j]?=some u∧u.oneCell'=true∧Rep S w β a u:=by
  intro i row j a hi hj;have hf:=Ex rows (λr hr=>(spec r hr).1) i row j a hi hj;have hlt:i*ei.sz+j<vr.toList.length:=by rw[<-g2'.rep.1];exact(Em.1 hf).1
  exact⟨vr.toList[i*ei.sz+j],by rw[<-bQ,aA hlt],g2'.one _ _ (aA hlt),g2'.rep.2 _ _ _ hf (aA hlt)⟩
 refine⟨.slice (some ⟨w.heap.size,0,none⟩) len len,_,(λb=>S b∨b=w.heap.size),β,.inl (by simp only[Sem.run_bind,run,Result.andThen_ok,Sem.run_pure]),?_,?_,⟨hS,hE,(Below.refl B w).alloc H.big _,ME.refl _,λ_ _ hx=>.inl hx,λb hb=>hb.imp id λe=>⟨by rw[e];exact H.big,.inl (by rw[e];exact aC _)⟩,λb hb _=>iG hw hb⟩⟩
 ·have hm:len<=maxLen:=by
   have:len*1<=len*ei.sz:=Nat.mul_le_mul_left _ i7;unfold maxLen;omega
  rw[<-hl];refine .sl ei.sz rows true _ rows.length w.heap.size 0 (λi j=>if i<rows.length∧j<ei.sz then vr.getD (i*ei.sz+j) (.bool false)else .bool false) (aC _) (by rw[hl];exact hm) (λ_=>rfl) (λrow hrow=>(spec row hrow).1) (λ_=>⟨rfl,.inr rfl⟩) (λi row j a hi hj=>?_) (λi j=>?_) λi row j a hi hj=>?_
  ·obtain⟨u,k1,k2,k3⟩:=cell i row j a hi hj;have hil:=(Em.1 hi).1;have hjl:j<ei.sz:=by rw[<-(spec row (aB hi)).1];exact(Em.1 hj).1
   rw[af1 ⟨hil,hjl⟩,gP (rX hw),bJ,aK,k1];rfl
  ·show(if i<rows.length∧j<ei.sz then vr.getD (i*ei.sz+j) (.bool false)else .bool false).oneCell'=true;by_cases hc:i<rows.length∧j<ei.sz
   ·have hrow:rows[i]?=some rows[i]:=aA hc.1;have hjl:j<rows[i].length:=by rw[(spec _ (aB hrow)).1];exact hc.2
    obtain⟨u,k1,k2,k3⟩:=cell i _ j _ hrow (aA hjl);rw[af1 hc,aK,k1];exact k2
   rw[dZ hc];rfl
  obtain⟨u,k1,k2,k3⟩:=cell i row j a hi hj;have hil:=(Em.1 hi).1;have hjl:j<ei.sz:=by rw[<-(spec row (aB hi)).1];exact(Em.1 hj).1
  rw[af1 ⟨hil,hjl⟩,aK,k1];exact mB (k3.mono hS hE (ME.refl _)) (fW row (spec row (aB hi)).2 j a hj) noB
 have hsz:(w.alloc (.cells vr e)).heap.size=w.heap.size+1:=by rw[hw];simp
 refine⟨λs' blk' hs'=>?_,H.inj,λb hb=>?_,by rw[hsz];have:=H.big;omega⟩
 ·obtain⟨l',cs',e',fr',k1,k2,k3,k4,k5,k6⟩:=H.own s' blk' hs';refine⟨l',cs',e',fr',k1,(iG hw (fJ k2)).trans k2,k3,k4,λhb=>?_,k6.mono hS hE (ME.refl _)⟩;rcases hb with hb|hb
  ·exact k5 hb
  have:=fJ k2;omega
 rw[hsz];rcases hb with hb|hb
 ·have:=H.lt b hb;omega
 omega
def FI(hC:CtxOk C)(H:SimH B S w β h){t e}{ei}(hte:C.P.underlying t=some (.slice e))(he:C.ty e=some ei)(qs)(hq:qs.toList=[]):
  Post B S w β s ((do pure (.value (<-Instr.buildSlice t 0 qs)):Sem Next).run C.P w) (.sl ei.sz [] true) h:=by
 obtain⟨inf,z,i1,i2,i3,i4,i5,i6,i7,i8⟩:=(hC.ty e _ he).info;have run:(Instr.buildSlice t 0 qs).run C.P w=.ok (.slice (some ⟨w.heap.size,0,none⟩) 0 0) (w.alloc (.cells #[] e)):=by
  have hr:Array.range 0= #[]:=rfl;unfold Instr.buildSlice;simp[run_underlying hte,sizeOf,typeInfo,i1,hq,hr,Instr.fill,newRow,newObj,Sem.run_bind,Result.andThen];rfl
 have hw:(w.alloc (.cells #[] e)).heap=w.heap.push (.cells #[] e):=rfl;have hE:Evo S w (w.alloc (.cells #[] e)):=Evo.of_kept (λb hb=>iG hw hb) H.lt;refine⟨.slice (some ⟨w.heap.size,0,none⟩) 0 0,_,S,β,.inl (by simp only[Sem.run_bind,run,Result.andThen_ok,Sem.run_pure]),?_,?_,⟨λ_ h=>h,hE,(Below.refl B w).alloc H.big _,ME.refl _,λ_ _ hx=>.inl hx,λb hb=>.inl hb,λb hb _=>iG hw hb⟩⟩
 ·exact .sl ei.sz [] true _ 0 0 0 (λ_ _=>.bool false) (by simp) (by simp) (λ_=>rfl) (λ_ h=>by simp at h) (λh=>by simp at h) (λi row j a h=>by simp at h) (λ_ _=>rfl) (λi row j a h=>by simp at h)
 have hsz:(w.alloc (.cells #[] e)).heap.size=w.heap.size+1:=by rw[hw];simp
 refine⟨λs' blk' hs'=>?_,H.inj,λb hb=>?_,by rw[hsz];have:=H.big;omega⟩
 ·obtain⟨l',cs',e',fr',k1,k2,k3,k4,k5,k6⟩:=H.own s' blk' hs';exact⟨l',cs',e',fr',k1,(iG hw (fJ k2)).trans k2,k3,k4,k5,k6.mono (λ_ h=>h) hE (ME.refl _)⟩
 have:=H.lt b hb;rw[hsz];omega
end
section
variable {C:Ctx}{V:Inv C.fr}{S:Nat->Prop}{w w':World}{β:Bt}{B:Nat}{h:AH}{s:Nat}
theorem RepL.of_map{ev:Operand->AV}{ρ:Operand->Value}:∀(l:List Operand),(∀x∈l,Rep S w β (ev x) (ρ x))->RepL S w β (l.map ev) (l.map ρ)
 |[],_=>RepL.nil _ _ _
 |x::l,H=>RepL.cons (H x (al_List_mem_cons_self)) (RepL.of_map l λy hy=>H y (bY _ hy))
theorem RepL.append{a b}{u v}(h:RepL S w β a u)(k:RepL S w β b v):RepL S w β (a++b) (u++v):=by
 refine⟨by simp[h.1,k.1],λi x y p q=>?_⟩;by_cases hi:i<a.length
 ·rw[cF hi]at p;rw[cF (by rw[<-h.1];exact hi)]at q;exact h.2 i x y p q
 rw[bM oT]at p;rw[bM (by rw[<-h.1];omega)]at q;exact k.2 _ x y p (by rw[h.1];exact q)
theorem Ez.of_map{ev:Operand->AV}{ρ:Operand->Value}:∀(l:List (Nat×Operand)),(∀x∈l,Rep S w β (ev x.2) (ρ x.2))->Ez S w β (l.map λp=>(p.1,ev p.2)) (l.map λp=>(p.1,ρ p.2))
 |[],_=>trivial
 |x::l,H=>⟨rfl,H x (al_List_mem_cons_self),Ez.of_map l λy hy=>H y (bY _ hy)⟩
def MA(P:Program)(B:Nat)(S:Nat->Prop)(w:World)(β:Bt)(h:AH)(s:Nat)(m:Sem Next):Res->Prop
 | .call f args=>∃vs,RepL S w β args vs∧m.run P w=(callFunc f vs.toArray).run P w
 |r=>zZ B S w β h s (m.run P w) r
theorem MA.of{P}{m}{r}(hr:zZ B S w β h s (m.run P w) r):MA P B S w β h s m r:=by
 cases r<;>first|exact hr|exact hr.elim
def MB(hC:CtxOk C)(H:SimH B S w β h)(hs:β s=none)(ev)(ρ)(o)(hev:∀x∈o.op.operands,Rep S w β (ev x) (ρ x))(hρ:∀v,ρ (.const v)=v):
  MA C.P B S w β h s (execOp ρ o) (opA C ev h s o.op):=by
 obtain⟨dst,op,type,pos,after,guard⟩:=o;cases op<;>simp only[opA]<;>simp only[Op.operands]at hev<;>try (exact trivial)
 case move x=>exact⟨_,_,S,β,.inl rfl,hev x (by simp),H,StepK.refl _ _ _ _ _⟩
 case assign x=>exact⟨_,_,S,β,.inl rfl,hev x (by simp),H,StepK.refl _ _ _ _ _⟩
 case pick c a b=>
  have:=(Wr (P:=C.P) (hev c (by simp)) (hev a (by simp)) (hev b (by simp))).post (s:=s) H;exact MA.of (by simpa only[execOp,bind_pure_comp,Functor.map_map]using this)
 case alloc t=>
  split
  ·rename_i cs hcs;simp only[AL]at hcs;split at hcs
   ·rename_i i hi;exact λ_=>Tn hC H hs t hi hcs
   ·cases hcs
  ·trivial
 case box t x=>
  split
  ·rename_i cs hcs;exact λ_=>Vx H hs t (hev x (by simp)) hcs
  ·trivial
 case build t parts=>
  have hq:Ez S w β (parts.toList.map λp=>(p.1,ev p.2)) (parts.map λ(i,x)=>(i,ρ x)).toList:=by
   rw[jN];exact Ez.of_map parts.toList λx hx=>hev x.2 (by simp;exact⟨x.1,sU hx⟩)
  exact MA.of ((Tx hC t _ _ hq).post H)
 case buildSlice t len parts=>
  have hq:Ez S w β (parts.toList.map λp=>(p.1,ev p.2)) (parts.map λ(i,x)=>(i,ρ x)).toList:=by
   rw[jN];exact Ez.of_map parts.toList λx hx=>hev x.2 (by simp;exact⟨x.1,sU hx⟩)
  split
  ·rename_i e sz ag z by_ eq ht;have hte:C.P.underlying t=some (.slice e):=(hC.ty t _ ht).kd;split
   ·rename_i ei he;split
    ·rename_i rows hr;split
     ·rename_i h1 h3;have h1:=aO h1;rcases al_Nat_eq_zero_or_pos len with h0|h0
      ·subst h0;have hr0:rows=[]:=afC h1;subst hr0;have hp:(parts.toList.map λp=>(p.1,ev p.2))=[]:=by
        cases hpp:(parts.toList.map λp=>(p.1,ev p.2))with
        |nil=>rfl
        |cons p ps=>
         rw[hpp]at hr;obtain⟨i,x⟩:=p;simp only[FL]at hr;split at hr
         ·split at hr<;>simp at hr
         ·cases hr
       have hp0:parts.toList=[]:=sU hp;exact FI hC H hte he _ (by rw[jN,hp0];rfl)
      ·exact Hs hC H hte he _ _ hq hr h1 h0 (aJ h3)
     ·trivial
    ·trivial
   ·trivial
  ·trivial
 case load t a=>exact MA.of ((Wv hC H t (hev a (by simp))).post H)
 case store t a x=>
  have ha:=hev a (by simp);have hx:=hev x (by simp);split
  ·rename_i ti cs ht hcs;split
   ·rename_i hl;split
    ·rename_i b c hea;split
     ·rename_i cells hb;split
      ·rename_i hroom;rw[hea]at ha;exact λ_=>Lq hC H ht hcs (aO hl) hb (aJ hroom) ha hx
      ·trivial
     ·trivial
    ·rename_i b r c hea;split
     ·rename_i rows rs hb;rw[hea]at ha;intro row h' h0 hrow hf;dsimp only at hf;split at hf
      ·rename_i hroom hcl;injection hf with hf;subst hf;exact Lr hC H ht hcs (aO hl) hb (sU hrow) (aJ hroom) hcl ha hx
      ·cases hf
     ·rename_i cells hb;rw[hea]at ha;intro row h' h0 hrow hf;dsimp only at hf;split at hf
      ·injection hf with hf;subst hf;have hlt:r<cells.length:=by
        have:=(Em.1 (sU hrow:(cells.map λx=>[x])[r]?=some row)).1;simpa using this
       exact Ls hC H ht hcs (aO hl) hb hlt ha hx
      ·cases hf
     ·trivial
    ·trivial
   ·trivial
  ·trivial
 case nilCheck x=>
  have hx:=hev x (by simp);have pass:∀(a:AV) (v:Value),Rep S w β a v->ρ x=v->(execOp ρ ⟨dst,.nilCheck x,type,pos,after,guard⟩).run C.P w=.ok (.value v) w->MA C.P B S w β h s (execOp ρ ⟨dst,.nilCheck x,type,pos,after,guard⟩) (.ok a):=λa v hr hv hrun=>
   ⟨v,w,S,β,.inl hrun,hr,H,StepK.refl _ _ _ _ _⟩
  generalize hv:ρ x=v at hx;unfold TD;split
  ·rename_i b c he;rw[he]at hx;have hx':=hx
   cases hx with
   |ptr _ _ l hl=>exact pass _ _ hx' hv (by simp only[execOp,hv,Sem.run_pure])
  ·rename_i b r c he;rw[he]at hx;have hx':=hx
   cases hx with
   |ptr2 _ _ _ l hl=>exact pass _ _ hx' hv (by simp only[execOp,hv,Sem.run_pure])
  ·rename_i a b c he;rw[he]at hx;have hx':=hx
   cases hx with
   |dp=>exact pass _ _ hx' hv (by simp only[execOp,hv,Sem.run_pure])
  ·rename_i a b c he;rw[he]at hx;have hx':=hx
   cases hx with
   |clo=>exact pass _ _ hx' hv (by simp only[execOp,hv,Sem.run_pure])
  ·trivial
 case binOp op t x y yt=>
  split
  ·rename_i neq hn;exact MA.of ((YW hC op t x y hn (λv hv=>by rw[hv];exact hρ v) (hev x (by simp))).post H)
  ·exact MA.of ((YV hC op t x y (hev x (by simp)) (hev y (by simp))).post H)
 case unOp op t x=>exact MA.of ((abX op (hev x (by simp))).post H)
 case convert src dst x=>
  have hx:=hev x (by simp);have plain:zZ B S w β h s ((do pure (.value (<-convert src dst (ρ x))):Sem Next).run C.P w) (DF C src dst (ev x)):=(Wu hC src dst hx).post H;unfold FM;split
  ·rename_i e _ _ _ _ _ h1 h2;split
   ·rename_i b _ _ _ _ _ he hq;rw[he]at hx;have hb:=lV hx;refine λhb'=>?_;have:=Lv hC H hs (hC.ty _ _ h1).kd (hC.ty _ _ h2).kd (hC.ty _ _ hq).kd b hb';rw[<-hb]at this;exact this
   ·trivial
  ·rename_i e _ _ _ _ _ h1 h2;split
   ·trivial
   ·rename_i a hna;split
    ·rename_i rc rows hq hr;intro l hlk hl;exact Post.of_yld H (Lw hC H (hC.ty _ _ h1).kd (hC.ty _ _ h2).kd (hC.ty _ _ hq).kd hx (λb hb=>hna _ hb) hr hlk l hl)
    ·trivial
  ·exact MA.of plain
 case makeFunc fn first caps=>
  cases fn with
  |func f=>
   refine⟨.func (.func f) (first.map ρ) (caps.map ρ),w,S,β,.inl rfl,?_,H,StepK.refl _ _ _ _ _⟩;have h1:=RepL.of_map first.toList λx hx=>hev x (by simp;exact .inl (sU hx));have h2:=RepL.of_map caps.toList λx hx=>hev x (by simp;exact .inr (sU hx))
   exact .clo f _ _ _ _ (by simp) (λi a u p q=>h1.2 i a u p (by rw[<-jN,bQ];exact q)) (by simp) (λi a u p q=>h2.2 i a u p (by rw[<-jN,bQ];exact q))
  |_=>exact trivial
 case makeSlice t l c=>
  have hl:=hev l (by simp);have hc:=hev c (by simp);unfold JM;split
  ·rename_i e _ _ _ _ _ kl l' kc c' ht hel hec;rw[hel]at hl;rw[hec]at hc;have hl':=lV hl;have hc':=lV hc;split
   ·rename_i ei he;split
    ·rename_i z hz;split
     ·rename_i hcz;rintro⟨p0,p1,p2⟩;have:=Wq hC H hs (hC.ty _ _ ht).kd he hz hcz kl kc l' c' p0 p1 p2;rw[<-hl', <-hc']at this;exact this
     ·trivial
    ·trivial
   ·trivial
  ·trivial
 case slice t x lo hi mx=>
  have opt:∀(y:Option Operand),(∀z,y=some z->Rep S w β (ev z) (ρ z))->(∀a,y.map ev=some a->∃u,y.map ρ=some u∧Rep S w β a u)∧(y.map ev=none->y.map ρ=none):=by
   intro y hy
   cases y with
   |none=>exact⟨λa h=>(by cases h),λ_=>rfl⟩
   |some z=>exact⟨λa h=>(by injection h with h;subst h;exact⟨_,rfl,hy z rfl⟩),λh=>(by cases h)⟩
  have h1:=opt lo λz hz=>hev z (by subst hz;simp);have h2:=opt hi λz hz=>hev z (by subst hz;simp);have h3:=opt mx λz hz=>hev z (by subst hz;simp);exact MA.of ((Tw hC H t (hev x (by simp)) h1.1 h1.2 h2.1 h2.2 h3.1 h3.2).post H)
 case fieldAddr t x f=>exact MA.of ((JI hC t f (hev x (by simp))).post H)
 case field t x f=>exact MA.of ((Tu hC t f (hev x (by simp))).post H)
 case indexAddr t x i=>exact MA.of ((JJ hC H t (hev x (by simp)) (hev i (by simp))).post H)
 case index t x i=>exact MA.of ((Tv hC t (hev x (by simp)) (hev i (by simp))).post H)
 case extract x i=>exact MA.of ((Oq i (hev x (by simp))).post H)
 case call c=>
  obtain⟨callee,args,argTypes⟩:=c
  cases callee with
  | builtin b=>
   simp only[Call.operands,Array.empty_append]at hev;have hargs:RepL S w β (args.toList.map ev) (args.toList.map ρ):=RepL.of_map _ λx hx=>hev x (sU hx);have key:∀(m:Sem Value) (r:Res),(∀consts,Go.builtin b argTypes type consts (args.map ρ)=(do pure (.value (<-m)):Sem Next))->zZ B S w β h s ((do pure (.value (<-m)):Sem Next).run C.P w) r->
     MA C.P B S w β h s (execOp ρ ⟨dst,.call ⟨.builtin b,args,argTypes⟩,type,pos,after,guard⟩) r:=by
    intro m r h1 h2;refine MA.of ?_;have:(execOp ρ ⟨dst,.call ⟨.builtin b,args,argTypes⟩,type,pos,after,guard⟩).run C.P w=(do pure (.value (<-m)):Sem Next).run C.P w:=by
     simp only[execOp,resolve,Sem.run_bind,Sem.run_pure,Result.andThen_ok,invoke,h1]
    rw[this];exact h2
   have one:∀(x:AV),args.toList.map ev=[x]->∃v,args.map ρ= #[v]∧Rep S w β x v:=by
    intro x hx;rw[hx]at hargs;have hl:args.toList.length=1:=sU hargs.1.symm
    match hq:args.toList,hl with
    |[a],_=>
     refine⟨ρ a,(by apply Array.ext';simp[hq]),hargs.2 0 x (ρ a) rfl (by simp[hq])⟩
   have two:∀(x y:AV),args.toList.map ev=[x,y]->∃v u,args.map ρ= #[v,u]∧Rep S w β x v∧Rep S w β y u:=by
    intro x y hx;rw[hx]at hargs;have hl:args.toList.length=2:=sU hargs.1.symm
    match hq:args.toList,hl with
    |[a,b],_=>
     refine⟨ρ a,ρ b,(by apply Array.ext';simp[hq]),hargs.2 0 x (ρ a) rfl (by simp[hq]),hargs.2 1 y (ρ b) rfl (by simp[hq])⟩
   have hat:∀t tx,argTypes.toList=[t,tx]->argTypes= #[t,tx]:=λt tx he=>by apply Array.ext';simp[he]
   have hat1:∀t,argTypes.toList=[t]->argTypes= #[t]:=λt he=>by apply Array.ext';simp[he]
   simp only;cases b<;>try (simp only[bR];exact trivial)
   case append=>
    match hA:args.toList.map ev with
    |[]=>simp only[bR];exact trivial
    |[_]=>simp only[bR];exact trivial
    |_::_::_::_=>simp only[bR];exact trivial
    | [x,y]=>
     match hT:argTypes.toList with
     |[]=>simp only[bR];exact trivial
     |[_]=>simp only[bR];exact trivial
     |_::_::_::_=>simp only[bR];exact trivial
     |[t,tx]=>
      obtain⟨v,u,hv,hx,hy⟩:=two x y hA;refine key (Builtin.append_ argTypes type (args.map ρ)) _ (λ_=>rfl) ?_;rw[hv,hat t tx hT];exact PO hC H hs t tx type hx hy
   case copy=>
    match hA:args.toList.map ev with
    |[]=>simp only[bR];exact trivial
    |[_]=>simp only[bR];exact trivial
    |_::_::_::_=>simp only[bR];exact trivial
    |[x,y]=>
     obtain⟨v,u,hv,hx,hy⟩:=two x y hA;simp only[bR];refine key (Builtin.copy_ argTypes type (args.map ρ)) _ (λ_=>rfl) ?_;rw[hv];exact Wp hC H argTypes.toList type hx hy
   case len=>
    match hA:args.toList.map ev with
    |[]=>simp only[bR];exact trivial
    |_::_::_=>simp only[bR];exact trivial
    | [x]=>
     match hT:argTypes.toList with
     |[]=>simp only[bR];exact trivial
     |_::_::_=>simp only[bR];exact trivial
     |[t]=>
      obtain⟨v,hv,hx⟩:=one x hA;simp only[bR];refine key (Builtin.len_ argTypes type (args.map ρ)) _ (λ_=>rfl) ?_;rw[hv,hat1 t hT];exact(YZ hC t type hx).post H
   case max=>
    match hA:args.toList.map ev with
    |[]=>simp only[bR];exact trivial
    |[_]=>simp only[bR];exact trivial
    |_::_::_::_=>simp only[bR];exact trivial
    |[x,y]=>
     obtain⟨v,u,hv,hx,hy⟩:=two x y hA;simp only[bR];refine key (Builtin.max_ argTypes type (args.map ρ)) _ (λ_=>rfl) ?_;rw[hv];exact(YY _ _ hx hy).post H
   case min=>
    match hA:args.toList.map ev with
    |[]=>simp only[bR];exact trivial
    |[_]=>simp only[bR];exact trivial
    |_::_::_::_=>simp only[bR];exact trivial
    |[x,y]=>
     obtain⟨v,u,hv,hx,hy⟩:=two x y hA;simp only[bR];refine key (Builtin.min_ argTypes type (args.map ρ)) _ (λ_=>rfl) ?_;rw[hv]
     exact(YX _ _ hx hy).post H
  |invoke r m=>trivial
  | value f=>
   simp only;split
   ·rename_i g first caps he
    have hf:=hev f (by simp[Call.operands]);rw[he]at hf;generalize hv:ρ f=v at hf
    cases hf with
    |clo _ _ _ vs us hl hr hl' hr'=>
    refine⟨vs.toList++args.toList.map ρ++us.toList,?_,?_⟩
    ·refine RepL.append (RepL.append ⟨sU hl,λi a u p q=>hr i a u p (sU q)⟩ (RepL.of_map _ λx hx=>hev x (by simp[Call.operands];exact .inr (sU hx)))) ⟨sU hl',λi a u p q=>hr' i a u p (sU q)⟩
    ·simp only[execOp,resolve,hv,Deferred.ofValue,Sem.run_bind,Sem.run_pure,Result.andThen_ok,invoke];congr 2;apply Array.ext';simp
   ·trivial
end
end Go.Proofs.YtlpkggpdjobpmaaGreatDoor
namespace Go.Proofs.YtlpkggpdjobpmaaGreatDoor
open Go.RowKit
def GOk(C:Ctx)(S:Nat->Prop)(w:World):Prop:=∀g cells,C.G g=some cells->Rep S w noB (.dp cells.length 0 cells) (.pointer (some ⟨g,0,none⟩))
theorem GOk.g{C}{S}{w}(h:GOk C S w):adI C.G S w:=h
def bI(C:Ctx)(f:FuncId)(args:List AV)(r:AV):Prop:=
 (∃ fn,C.P.funcs[f]?=some fn∧fn.body.isSome=true∧(fn.name== "runtime.NumGoroutine")=false)∧
 ∀(S:Nat->Prop) (w:World) (vs:List Value),(∀b,S b->b<w.heap.size)->GOk C S w->RepL S w noB args vs->
  Calls C.P f vs.toArray w λe w'=>∃v,e=.returned v∧Below w.heap.size w w'∧Rep (λb=>S b∨(w.heap.size<=b∧b<w'.heap.size)) w' noB r v
def NodeR(C:Ctx)(R:FuncId->List AV->AV->Prop)(h:AH)(r:Res)(x:AV)(h':AH):Prop:=
 match r with
 | .bad=>False
 | .ok y=>x=y∧h'=h
 | .need p y=>p∧x=y∧h'=h
 | .idx rows i f=>∃row,0<=i∧rows[i.toNat]?=some row∧f row=some x∧h'=h
 | .fx p y h2=>p∧x=y∧h'=h2
 | .idxfx rows i f=>∃row,0<=i∧rows[i.toNat]?=some row∧f row=some h'∧x=.any
 | .str p rows=>∃l,p∧gU rows=some l∧x=.v (.string ⟨l.toArray⟩)∧h'=h
 | .call f args=>eW (rO h args)=true∧(oU args=true∨(CQ x=true∧jV h args))∧eP x=true∧R f (rO h args) x∧h'=h
def isFx:Res->Bool
 | .fx _ _ _| .idxfx _ _ _| .bad=>true
 |_=>false
def StepR(C:Ctx)(R:FuncId->List AV->AV->Prop)(all:List Oper)(o:Oper)(s:Nat)(t:Nat->AV)(h:AH)(x:AV)(h':AH):Prop:=
  match o.guard with
  |none=>NodeR C R h (opA C (evA C t) h s o.op) x h'
  | some (i,pol)=>∃d g y,(all[i]?).bind (·.dst)=some d∧Ad (t d) pol=some g∧((x=.opt g y∧h'=h∧
    ((condsO t o.op=none∧(g=true->isFx (opA C (evA C t) h s o.op)=false∧NodeR C R h (opA C (evA C t) h s o.op) y h))∨
     ∃c,condsO t o.op=some c∧(g=true->c=true)∧(g=true->isFx (opA C (evS C t o.op) h s o.op)=false∧NodeR C R h (opA C (evS C t o.op) h s o.op) y h)))∨(g=true∧NodeR C R h (opA C (evA C t) h s o.op) x h'))
def NoH(C:Ctx):Prop:=∀f args h s Post, ¬C.H f args h s Post
section
variable {C:Ctx}{V:Inv C.fr}{R:FuncId->List AV->AV->Prop}{all:List Oper}{o:Oper}{s:Nat}{t:Nat->AV}{h h':AH}{K:AV->AH->Prop}
def Tl{r}(hn:node C R h s r K):(∃x h',NodeR C R h r x h'∧K x h')∨∃f args Post,r=.call f args∧C.H f args h s Post∧∀x h',Post x h'->K x h':=by
 cases r<;>simp only[node]at hn
 case ok x=>exact .inl ⟨x,h,⟨rfl,rfl⟩,hn⟩
 case need p x=>obtain⟨hp,hk⟩:=hn;exact .inl ⟨x,h,⟨hp rfl,rfl,rfl⟩,hk⟩
 case idx rows i f=>
  obtain⟨row,hr,hk⟩:=hn;split at hk
  ·rename_i x hx;exact .inl ⟨x,h,⟨row,(hr rfl).1,(hr rfl).2,hx,rfl⟩,hk⟩
  exact hk.elim
 case fx p x h2=>obtain⟨hp,hk⟩:=hn;exact .inl ⟨x,h2,⟨hp rfl,rfl,rfl⟩,hk⟩
 case idxfx rows i f=>
  obtain⟨row,hr,hk⟩:=hn;split at hk
  ·rename_i h2 hx;exact .inl ⟨.any,h2,⟨row,(hr rfl).1,(hr rfl).2,hx,rfl⟩,hk⟩
  exact hk.elim
 case str p rows=>obtain⟨l,hl,hk⟩:=hn;exact .inl ⟨_,h,⟨l,(hl rfl).1,(hl rfl).2,rfl,rfl⟩,hk⟩
 case call f args=>
  rcases hn with hn|hn
  ·obtain⟨x,h1,h2,h3,h4,hk⟩:=hn;exact .inl ⟨x,h,⟨h1,h2,h3,h4 rfl,rfl⟩,hk⟩
  obtain⟨Post,hH,hk⟩:=hn;exact .inr ⟨f,args,Post,rfl,hH,hk⟩
def JF{g}{r}(hn:DH C R h g r K):∃y,isFx r=false∧(g=true->NodeR C R h r y h)∧K (.opt g y) h:=by
 cases r<;>simp only[DH]at hn
 case ok x=>exact⟨x,rfl,λ_=>⟨rfl,rfl⟩,hn⟩
 case need p x=>obtain⟨hp,hk⟩:=hn;exact⟨x,rfl,λhg=>⟨hp hg,rfl,rfl⟩,hk⟩
 case idx rows i f=>
  obtain⟨row,hr,hk⟩:=hn;split at hk
  ·rename_i x hx;exact⟨x,rfl,λhg=>⟨row,(hr hg).1,(hr hg).2,hx,rfl⟩,hk⟩
  exact hk.elim
 case str p rows=>obtain⟨l,hl,hk⟩:=hn;exact⟨_,rfl,λhg=>⟨l,(hl hg).1,(hl hg).2,rfl,rfl⟩,hk⟩
 case call f args=>obtain⟨x,h1,h2,h3,h4,hk⟩:=hn;exact⟨x,rfl,λhg=>⟨h1,h2,h3,h4 hg,rfl⟩,hk⟩
def PH{r}(hn:Ov r K):∃x h',NodeR C R h r x h'∧K x h':=by
 cases r<;>simp only[Ov]at hn
 case fx p x h2=>obtain⟨hp,hk⟩:=hn;exact⟨x,h2,⟨hp rfl,rfl,rfl⟩,hk⟩
def step_inv(hs:xG C R all o s t h K):(∃x h',StepR C R all o s t h x h'∧K x h')∨(o.guard=none∧∃f args Post,opA C (evA C t) h s o.op=.call f args∧C.H f args h s Post∧∀x h',Post x h'->K x h'):=by
 unfold xG at hs;unfold StepR
 cases hg:o.guard with
 |none=>simp only[hg]at hs;exact(Tl hs).imp id λh=>⟨rfl,h⟩
 | some q=>
  obtain⟨i,pol⟩:=q;simp only[hg]at hs;split at hs
  ·exact hs.elim
  ·rename_i d hd;split at hs
   ·exact hs.elim
   ·rename_i g hgv;split at hs
    ·rename_i hc;rcases hs with hs|⟨hg1,hs⟩
     ·obtain⟨y,h1,h2,h3⟩:=JF hs;exact .inl ⟨_,h,⟨d,g,y,hd,hgv,.inl ⟨rfl,rfl,.inl ⟨hc,λhg=>⟨h1,h2 hg⟩⟩⟩⟩,h3⟩
     ·obtain⟨x,h',h1,h2⟩:=PH hs;exact .inl ⟨x,h',⟨d,g,x,hd,hgv,.inr ⟨hg1,h1⟩⟩,h2⟩
    ·rename_i c hc;obtain⟨hs1,hs2⟩:=hs;obtain⟨y,h1,h2,h3⟩:=JF hs2;exact .inl ⟨_,h,⟨d,g,y,hd,hgv,.inl ⟨rfl,rfl,.inr ⟨c,hc,hs1,λhg=>⟨h1,h2 hg⟩⟩⟩⟩,h3⟩
end
structure SimD(C:Ctx)(V:Inv C.fr)(w0:World)(S0:Nat->Prop)(N:Nat)(D:Nat->Prop)(t:Nat->AV)(h:AH)(a:Act)(w:World)(S:Nat->Prop)(β:Bt):Prop where
 T:∀i,Rep S w β (t i) (a.tmps.getD i undef)
 H:SimH w0.heap.size S w β h
 B:Below w0.heap.size w0 w
 dom:∀x l,β x=some l->D x
 df:a.defers=C.df
 sz:a.tmps.size=N
 G:GOk C S w
 nw:∀b,S b->S0 b∨w0.heap.size<=b
 iv:V.p S w β
section
variable {C:Ctx}{V:Inv C.fr}{R:FuncId->List AV->AV->Prop}{all:List Oper}{o:Oper}{s N:Nat}{t:Nat->AV}{h h':AH}{a:Act}{w w0:World}{D:Nat->Prop}{S0:Nat->Prop}{S:Nat->Prop}{β:Bt}
def sY(M:SimD C V w0 S0 N D t h a w S β)(x):Rep S w β (evA C t x) (a.eval x):=by
 cases x with
 |tmp i=>exact M.T i
 |const v=>exact Hx v
 | global g=>
  show Rep S w β (match C.G g with|some cells=>.dp cells.length 0 cells|none=>.any) _;split
  ·rename_i cells hg;exact(M.G g cells hg).mono (λ_ h=>h) (Evo.refl _ _) (λs l x=>by cases x)
  ·exact .any _
 |func f=>exact .clo f [] [] #[] #[] rfl (λi a u h=>by simp at h) rfl (λi a u h=>by simp at h)
theorem CO:∀(l:List Operand),vQ t l=none->∀i,.tmp i∈l->MF (t i)=none
 |[],_,i,hi=>by cases hi
 | x::l,hc,i,hi=>by
  cases x with
  | tmp j=>
   simp only[vQ]at hc;split at hc
   ·rename_i r h1;rcases al_List_mem_cons.1 hi with he|hi
    ·injection he with he;subst he;exact h1
    ·exact CO l hc i hi
   ·cases hc
   ·cases hc
  |_=>
   simp only[vQ]at hc;rcases al_List_mem_cons.1 hi with he|hi
   ·cases he
   ·exact CO l hc i hi
theorem xP:∀(l:List Operand) (c:Bool),vQ t l=some c->c=true->∀i g,.tmp i∈l->MF (t i)=some g->g=true
 |[],_,hc,_,_,_,hi,_=>by cases hi
 | x::l,c,hc,hct,i,g,hi,hg=>by
  cases x with
  | tmp j=>
   simp only[vQ]at hc;split at hc
   ·rename_i r h1;rcases al_List_mem_cons.1 hi with he|hi
    ·injection he with he;subst he;rw[hg]at h1;cases h1
    ·exact xP l c hc hct i g hi hg
   ·rename_i g' h1 h2;injection hc with hc;subst hc;rcases al_List_mem_cons.1 hi with he|hi
    ·injection he with he;subst he;rw[hg]at h1;injection h1 with h1;rw[h1];exact hct
    ·have:=CO l h2 i hi;rw[hg]at this;cases this
   ·rename_i g' r h1 h2;injection hc with hc;subst hc;simp only[aP]at hct;rcases al_List_mem_cons.1 hi with he|hi
    ·injection he with he;subst he;rw[hg]at h1;injection h1 with h1;rw[h1];exact hct.1
    ·exact xP l r h2 hct.2 i g hi hg
  |_=>
   simp only[vQ]at hc;rcases al_List_mem_cons.1 hi with he|hi
   ·cases he
   ·exact xP l c hc hct i g hi hg
def JG(M:SimD C V w0 S0 N D t h a w S β)(x)(hx:∀i g,x=.tmp i->MF (t i)=some g->g=true):Rep S w β (Bz (evA C t x)) (a.eval x):=by
 have hr:=sY M x
 cases x with
 | tmp i=>
  show Rep S w β (Bz (t i)) _;have hr':Rep S w β (t i) _:=hr
  cases ht:t i with
  |opt g y=>
   rw[ht]at hr'
   exact Hy hr' (hx i g rfl (by rw[ht];rfl))
  |_=>rw[ht]at hr';exact hr'
 | const v=>
  have:Bz (Pq v)=Pq v:=by
   unfold Pq;split
   ·rfl
   ·split<;>rfl
   ·rfl
  show Rep S w β (Bz (Pq v)) _
  rw[this];exact hr
 |global g=>
  have hr':Rep S w β _ _:=hr;simp only[evA]at hr' ⊢
  split<;>rename_i hq<;>simp only[hq]at hr'<;>exact hr'
 |func f=>exact hr
def Lo(M:SimD C V w0 S0 N D t h a w S β)(op){c}(hc:condsO t op=some c)(hct:c=true)(x)(hx:x∈op.operands):Rep S w β (evS C t op x) (a.eval x):=by
 have full:vQ t op.operands.toList=some c->Rep S w β _ _:=λhc=>JG M x λk g hk hgk=>by
  subst hk;exact xP _ c hc hct k g (sU hx) hgk
 cases op<;>first|exact full hc|skip
 case pick cc aa bb=>
  show Rep S w β (match Lz cc x with|true=>Bz (evA C t x)|false=>evA C t x) _
  cases hs:Lz cc x with
  |false=>exact sY M x
  |true=>
   refine JG M x λk g hk hgk=>?_;subst hk;cases cc<;>simp only[Lz]at hs<;>try (cases hs;done)
   rename_i i;rw[<-aO hs]at hgk;exact xP _ c hc hct i g (by simp) hgk
def Gx(M:SimD C V w0 S0 N D t h a w S β){ops}(hall:ops.toList=all){i d}{pol g}(hgd:o.guard=some (i,pol))(hd:(all[i]?).bind (·.dst)=some d)(hg:Ad (t d) pol=some g)(hlt:d<N):
  Region.wanted o (yielded ops a.tmps)=g:=by
 have hd':(ops[i]?).bind (·.dst)=some d:=by rw[<-hd, <-hall,bQ]
 have hT:=M.T d;have hsz:d<a.tmps.size:=by rw[M.sz];exact hlt
 have hget:a.tmps[d]?=some (a.tmps.getD d undef):=by rw[aT hsz,aK,aT hsz];rfl
 have hw:Region.wanted o (yielded ops a.tmps)=(yielded ops a.tmps i==some pol):=by simp only[Region.wanted,hgd]
 have hy:yielded ops a.tmps i=(match(some (a.tmps.getD d undef):Option Value)with|some (.bool b)=>some b|_=>none):=by
  simp only[yielded,hd',Option.bind_some,hget];cases a.tmps.getD d undef<;>rfl
 rw[hw,hy];unfold Ad at hg;split at hg
 ·rename_i b hb;rw[hb]at hT;rw[lV hT];injection hg with hg;subst hg;cases pol<;>cases b<;>rfl
 ·rename_i a' b hb;rw[hb]at hT;injection hg with hg;subst hg;generalize a.tmps.getD d undef=v at hT
  cases hT with
  |optT _ _ _ ha hr=>rw[lV hr,ha];cases pol<;>cases b<;>rfl
  |optF _ _ ha=>rw[ha];rfl
 ·cases hg
mutual
theorem PI(h:AH):∀(a:AV),HP a=true->jU h a
 | .osl _ _ _ _,e=>by simp only[HP]at e;cases e
 | .agg cs,e=>AD h cs e
 | .tup cs,e=>by
  show(match oU cs with|true=>True|false=>jV h cs);rw[show oU cs=true from e]
  trivial
 | .clo _ a b,e=>by
  simp only[HP]at e;split at e
  ·rename_i ha;exact⟨AD h a ha,AD h b e⟩
  ·cases e
 | .v _,_=>trivial
 | .sl _ _ _,_=>trivial
 | .dp _ _ _,_=>trivial
 | .ptr _ _,_=>trivial
 | .ptr2 _ _ _,_=>trivial
 | .opt _ _,_=>trivial
 | .any,_=>trivial
theorem AD(h:AH):∀(cs:List AV),oU cs=true->jV h cs
 |[],_=>trivial
 |x::xs,e=>by
  simp only[oU]at e;split at e
  ·rename_i ha;exact⟨PI h x ha,AD h xs e⟩
  ·cases e
end
theorem BN:∀(cs:List AV),(SU cs).length=cs.length
 |[]=>rfl
 |_::cs=>af2 (· +1) (BN cs)
theorem MC:∀(cs:List AV) (j:Nat) (a:AV),(SU cs)[j]?=some a->∃b,cs[j]?=some b∧(a=.any∨(a=b∧eP b=true))
 |[],j,a,h=>by simp[SU]at h
 |c::cs,0,a,h=>by
  simp only[SU,cP,af6]at h;refine⟨c,rfl,?_⟩
  cases hc:eP c with
  |true=>rw[hc]at h;exact .inr ⟨h.symm,rfl⟩
  |false=>rw[hc]at h;exact .inl h.symm
 |c::cs,j+1,a,h=>by
  simp only[SU,dL]at h⊢;exact MC cs j a h
def BO{β}{a}{v}{B}(H:SimH B S w β h)(hr:Rep S w β a v):jU h a->Rep (λb=>S b∨(B<=b∧b<w.heap.size)) w β (vR h a) v:=by
 have hS:∀b,S b->S b∨(B<=b∧b<w.heap.size):=λb hb=>.inl hb;have plain:∀{a:AV} {v:Value},Rep S w β a v->Rep (λb=>S b∨(B<=b∧b<w.heap.size)) w β a v:=λh=>h.mono hS (Evo.refl _ _) (ME.refl _);have datL_get:∀(cs:List AV) (i:Nat) (x:AV),(rO h cs)[i]?=some x->∃y,cs[i]?=some y∧x=vR h y:=by
  intro cs
  induction cs with
  |nil=>intro i x hx;simp[rO]at hx
  |cons c cs ih=>
   intro i x hx
   cases i with
   |zero=>simp[rO]at hx;exact⟨c,rfl,hx.symm⟩
   |succ i=>simp[rO]at hx;exact ih i x hx
 have datL_len:∀(cs:List AV),(rO h cs).length=cs.length:=by
  intro cs
  induction cs with
  |nil=>rfl
  |cons c cs ih=>simp[rO,ih]
 have len_get:∀(cs:List AV),jV h cs->∀(i:Nat) y,cs[i]?=some y->jU h y:=by
  intro cs
  induction cs with
  |nil=>intro _ i y hy;simp at hy
  |cons c cs ih=>
   intro hl i y hy;simp only[jV]at hl
   cases i with
   |zero=>simp at hy;subst hy;exact hl.1
   |succ i=>exact ih hl.2 i y (sU hy)
 induction hr with
 |v x=>intro _;exact .v x
 |agg cs vs hl h1 hr ih=>
  intro hlk;simp only[jU]at hlk;show Rep _ w _ (.agg (rO h cs)) _;refine .agg _ _ (by rw[datL_len];exact hl) h1 λi x u p q=>?_;obtain⟨y,hy,rfl⟩:=datL_get cs i x p
  exact ih i y u hy q H plain (len_get cs hlk i y hy)
 |tup cs vs hl hr ih=>
  intro hlk
  cases hq:oU cs with
  |true=>rw[show vR h (.tup cs)=.tup cs by simp only[vR,hq]];exact plain (.tup cs vs hl hr)
  |false=>
  have hlk':jV h cs:=by simpa only[jU,hq]using hlk
  rw[show vR h (.tup cs)=.tup (rO h cs) by simp only[vR,hq]];refine .tup _ _ (by rw[datL_len];exact hl) λi x u p q=>?_;obtain⟨y,hy,rfl⟩:=datL_get cs i x p
  exact ih i y u hy q H plain (len_get cs hlk' i y hy)
 | osl s lo len clip l A c hl hc hm hcl hA cs e fr hb room=>
  rename_i β';intro hlk;simp only[jU]at hlk;show Rep _ w _ (match h s with|some (.arr rows rs)=>.sl rs ((rows.drop lo).take len) clip|_=>.any) _;split
  ·rename_i rows rs hs;simp only[hs]at hlk;obtain⟨l',ds,e',fr',k1,k2,k3,k4,k5,k6,k7,k8⟩:=H.own s _ hs;obtain rfl:l'=l:=by rw[hl]at k1;exact(af5 k1).symm
   subst k6;have hlen:((rows.drop lo).take len).length=len:=by rw[aM,bD];omega
   have sub:∀(i:Nat) row,((rows.drop lo).take len)[i]?=some row->rows[lo+i]?=some row:=by
    intro i row hi;rw[cU]at hi;split at hi
    ·rwa [cL]at hi
    ·cases hi
   have hds:∀(i:Nat) row (j:Nat) a,((rows.drop lo).take len)[i]?=some row->row[j]?=some a->i<len∧j<l'.rs∧(ds.getD (l'.base+(lo+i)*l'.rs+j) undef).oneCell'=true∧ds[l'.base+(lo+i)*l'.rs+j]?=some (ds.getD (l'.base+(lo+i)*l'.rs+j) undef)∧Rep S w noB a (ds.getD (l'.base+(lo+i)*l'.rs+j) undef):=by
    intro i row j a hi hj;obtain⟨u,q1,q2,q3⟩:=k8 _ _ _ _ (sub i row hi) hj;have hg:ds.getD (l'.base+(lo+i)*l'.rs+j) undef=u:=by rw[aK,q1];rfl
    rw[hg];exact⟨by rw[<-hlen];exact(Em.1 hi).1,by rw[<-k7 row (aB (sub i row hi))];exact(Em.1 hj).1,q2,q1,q3⟩
   have hval:(Value.slice A len c)=.slice A ((rows.drop lo).take len).length c:=by rw[hlen]
   rw[hval];refine .sl l'.rs _ clip A c l'.blk (l'.base+lo*l'.rs) (λi j=>if i<len∧j<l'.rs then ds.getD (l'.base+(lo+i)*l'.rs+j) undef else .bool false) (by rw[hlen];exact hc) hm (by rw[hlen];exact hcl) (λrow hrow=>k7 row (eT (cQ hrow)))
    (λh0=>⟨hA (by rw[hlen]at h0;omega),.inr ⟨k4,fJ k2⟩⟩) (λi row j a hi hj=>?_) (λi j=>?_) λi row j a hi hj=>?_
   ·obtain⟨t1,t2,t3,t4,t5⟩:=hds i row j a hi hj;rw[af1 ⟨t1,t2⟩,gP k2, <-t4];congr 1;rw[cG];omega
   ·show(if i<len∧j<l'.rs then ds.getD (l'.base+(lo+i)*l'.rs+j) undef else .bool false).oneCell'=true;by_cases hij:i<len∧j<l'.rs
    ·have hi:((rows.drop lo).take len)[i]?=some (((rows.drop lo).take len)[i]'(by rw[hlen];exact hij.1)):=aA _;have hjl:j<(((rows.drop lo).take len)[i]'(by rw[hlen];exact hij.1)).length:=by
      rw[k7 _ (aB (sub i _ hi))];exact hij.2
     obtain⟨t1,t2,t3,t4,t5⟩:=hds i _ j _ hi (aA hjl);rw[af1 hij];exact t3
    ·rw[dZ hij];rfl
   ·obtain⟨t1,t2,t3,t4,t5⟩:=hds i row j a hi hj;rw[af1 ⟨t1,t2⟩];exact t5.mono hS (Evo.refl _ _) (ME.refl _)
  ·exact .any _
 |sl rs rows clip A c b o u hc hm hcl hrs hA hw h1 hr ih=>intro _;exact plain (.sl rs rows clip A c b o u hc hm hcl hrs hA hw h1 hr)
 |dp rs col row b o u hrs hb hw h1 hr ih=>intro _;exact plain (.dp rs col row b o u hrs hb hw h1 hr)
 | ptr s col l hl=>
  intro _;show Rep _ w _ (match h s with|some (.box cells)=>.dp cells.length col (SU cells)|_=>.any) _;split
  ·rename_i cells hs;obtain⟨l',ds,e',fr',k1,k2,k3,k4,k5,k6⟩:=H.own s _ hs;obtain rfl:l'=l:=by rw[hl]at k1;exact(af5 k1).symm
   have hlt:∀(j:Nat) a,(SU cells)[j]?=some a->ds[l'.base+j]?=some (ds.getD (l'.base+j) undef)∧(ds.getD (l'.base+j) undef).oneCell'=true∧Rep S w noB a (ds.getD (l'.base+j) undef):=by
    intro j a hj;obtain⟨b,hb,hab⟩:=MC cells j a hj;obtain⟨u,q1,q2,q3⟩:=k6 j b hb;have hg:ds.getD (l'.base+j) undef=u:=by rw[aK,q1];rfl
    rw[hg];rcases hab with rfl|⟨rfl,hcl⟩
    ·exact⟨q1,q2,.any _⟩
    ·exact⟨q1,q2,mB q3 hcl _⟩
   refine .dp cells.length col (SU cells) l'.blk l'.base (λj=>if j<cells.length then ds.getD (l'.base+j) undef else .bool false) (BN cells) (.inr ⟨k4,fJ k2⟩) (λj a hj=>?_) (λj=>?_) λj a hj=>?_
   ·have hjl:j<cells.length:=by rw[<-BN cells];exact(Em.1 hj).1
    rw[af1 hjl,gP k2];exact(hlt j a hj).1
   ·show(if j<cells.length then ds.getD (l'.base+j) undef else .bool false).oneCell'=true;by_cases hjl:j<cells.length
    ·rw[af1 hjl];exact(hlt j _ (aA (by rw[BN];exact hjl))).2.1
    ·rw[dZ hjl];rfl
   ·have hjl:j<cells.length:=by rw[<-BN cells];exact(Em.1 hj).1
    rw[af1 hjl];exact(hlt j a hj).2.2.mono hS (Evo.refl _ _) (ME.refl _)
  ·exact .any _
 |ptr2 s row col l hl=>intro _;exact plain (.ptr2 s row col l hl)
 | clo f first caps vs us hl h hl' h' ih ih'=>
  intro hlk;simp only[jU]at hlk;rename_i hh0;refine .clo f _ _ vs us (by rw[datL_len];exact hl) (λi x u p q=>?_) (by rw[datL_len];exact hl') λi x u p q=>?_
  ·obtain⟨y,hy,rfl⟩:=datL_get first i x p
   exact ih i y u hy q H plain (len_get first hlk.1 i y hy)
  ·obtain⟨y,hy,rfl⟩:=datL_get caps i x p
   exact ih' i y u hy q H plain (len_get caps hlk.2 i y hy)
 |optT g a x hg h ih=>intro _;exact plain (.optT g a x hg h)
 |optF g a hg=>intro _;exact .optF g a hg
 |any x=>intro _;exact .any x
def MD{β β'}{S S'}{w w'}{a}{v}(hr:Rep S w β a v):CQ a=true->Rep S' w' β' a v:=by
 have get:∀(cs:List AV),PV cs=true->∀(i:Nat) x,cs[i]?=some x->CQ x=true:=by
  intro cs
  induction cs with
  |nil=>intro _ i x hx;simp at hx
  | cons c cs ih=>
   intro hf i x hx;simp only[PV]at hf;split at hf
   ·rename_i hc
    cases i with
    |zero=>simp at hx;subst hx;exact hc
    |succ i=>exact ih hf i x (sU hx)
   ·cases hf
 induction hr with
 |v x=>intro _;exact .v x
 |agg cs vs hl h1 h ih=>intro hf;exact .agg cs vs hl h1 λi a u p q=>ih i a u p q (get cs (by simpa [CQ]using hf) i a p)
 |tup cs vs hl h ih=>intro hf;exact .tup cs vs hl λi a u p q=>ih i a u p q (get cs (by simpa [CQ]using hf) i a p)
 |_=>intro hf;simp[CQ]at hf
def PJ:∀cs,oU cs=true->rO h cs=cs:=by
 have key:∀(n:Nat) (cs:List AV),SizeOf.sizeOf cs<=n->oU cs=true->rO h cs=cs:=by
  intro n
  induction n with
  |zero=>intro cs hn;cases cs<;>simp at hn
  | succ n ih=>
   intro cs hn hc
   cases cs with
   |nil=>rfl
   | cons x xs=>
    simp only[oU]at hc;split at hc
    ·rename_i hx;have h2:=ih xs (by simp at hn;omega) hc;simp only[rO,h2];congr 1
     cases x with
     |agg ds=>
      have:=ih ds (by simp at hn;omega) (by simpa [HP]using hx)
      simp only[vR,this]
     |tup ds=>
      have hq:oU ds=true:=by simpa [HP]using hx
      simp only[vR,hq]
     |osl=>simp[HP]at hx
     |ptr=>simp[HP]at hx
     | clo f a b=>
      simp only[HP]at hx;split at hx
      ·rename_i ha;have e1:=ih a (by simp at hn;omega) ha;have e2:=ih b (by simp at hn;omega) hx;simp only[vR,e1,e2]
      ·cases hx
     |_=>rfl
    ·cases hc
 exact λcs hc=>key _ cs (aC _) hc
def Oo{f}{args}{x}{vs}(M:SimD C V w0 S0 N D t h a w S β)(hargs:RepL S w β args vs)(hcl:eW (rO h args)=true)(hf:oU args=true∨(CQ x=true∧jV h args))(hcx:eP x=true)(hR:bI C f (rO h args) x):
  (callFunc f vs.toArray).run C.P w=.ok (.enter f vs.toArray) w∧Calls C.P f vs.toArray w λe w'=>∃v S',e=.returned v∧Rep S' w' β x v∧SimH w0.heap.size S' w' β h∧StepK w0.heap.size S w β s S' w' β:=by
 obtain⟨⟨fn,g1,g2,g3⟩,hcall⟩:=hR;have lenL:∀(cs:List AV),(rO h cs).length=cs.length:=by
  intro cs
  induction cs with
  |nil=>rfl
  |cons c cs ih=>simp[rO,ih]
 constructor
 ·simp only[callFunc,Sem.run_bind,program,Sem.run,Result.andThen_ok,g1];have:fn.body.isNone=false:=by cases hb:fn.body<;>simp_all
  simp[g3,this]
 ·
  have after:∀(S1:Nat->Prop),(∀b,S1 b->b<w.heap.size)->(∀w' v,Below w.heap.size w w'->Rep (λb=>S1 b∨(w.heap.size<=b∧b<w'.heap.size)) w' noB x v->∃S',Rep S' w' β x v∧(∀b,S b->S' b)∧(∀b,S' b->S b∨w.heap.size<=b)∧∀b,S' b->b<w'.heap.size)->RepL S1 w noB (rO h args) vs->GOk C S1 w->
    Calls C.P f vs.toArray w λe w'=>∃v S',e=.returned v∧Rep S' w' β x v∧SimH w0.heap.size S' w' β h∧StepK w0.heap.size S w β s S' w' β:=by
   intro S1 hS1 hback hrep hG;refine(hcall S1 w vs hS1 hG hrep).mono ?_;rintro e w' ⟨v,he,hB,hr⟩;obtain⟨S',r1,r2,r3,r4⟩:=hback w' v hB hr;have hE:Evo S w w':=Evo.of_kept (λb hb=>hB.block b hb) M.H.lt;refine⟨v,S',he,r1,⟨λs' blk hs'=>?_,M.H.inj,r4,aL M.H.big hB.size⟩,⟨r2,hE,hB.mono M.H.big,ME.refl _,λ_ _ hx=>.inl hx,λb hb=>(r3 b hb).imp id λh=>⟨aL M.H.big h,.inl h⟩,λb hb _=>hB.block b hb⟩⟩;obtain⟨l,cs,e',fr,k1,k2,k3,k4,k5,k6⟩:=M.H.own s' blk hs';have hlt:=fJ k2;refine⟨l,cs,e',fr,k1,(hB.block _ hlt).trans k2,k3,k4,λhb=>?_,k6.mono r2 hE (ME.refl _)⟩;rcases r3 _ hb with hb|hb
   ·exact k5 hb
   ·omega
  rcases hf with hf|⟨hf,hlk⟩
  ·have e1:=PJ (h:=h) args hf;rw[e1]at hcl;refine after S M.H.lt (λw' v hB hr=>⟨λb=>S b∨(w.heap.size<=b∧b<w'.heap.size),?_,λb hb=>.inl hb,λb hb=>hb.imp id (·.1),λb hb=>?_⟩) (by rw[e1];exact⟨hargs.1,λi y u p q=>mB (hargs.2 i y u p q) (fW args hcl i y p) _⟩) M.G
   ·exact hr.mono (λ_ h=>h) (Evo.refl _ _) (λs l x=>by cases x)
   ·rcases hb with hb|hb
    ·exact af3 (M.H.lt b hb) hB.size
    ·exact hb.2
  ·have datL_get:∀(cs:List AV) (i:Nat) (x:AV),(rO h cs)[i]?=some x->∃y,cs[i]?=some y∧x=vR h y:=by
    intro cs
    induction cs with
    |nil=>intro i x hx;simp[rO]at hx
    |cons c cs ih=>
     intro i x hx
     cases i with
     |zero=>simp[rO]at hx;exact⟨c,rfl,hx.symm⟩
     |succ i=>simp[rO]at hx;exact ih i x hx
   have len_get:∀(cs:List AV),jV h cs->∀(i:Nat) y,cs[i]?=some y->jU h y:=by
    intro cs
    induction cs with
    |nil=>intro _ i y hy;simp at hy
    |cons c cs ih=>
     intro hl i y hy;simp only[jV]at hl
     cases i with
     |zero=>simp at hy;subst hy;exact hl.1
     |succ i=>exact ih hl.2 i y (sU hy)
   refine after (λb=>b<w.heap.size) (λ_ h=>h) (λw' v hB hr=>⟨S,MD hr hf,λ_ h=>h,λb hb=>.inl hb,λb hb=>af3 (M.H.lt b hb) hB.size⟩) ⟨by rw[lenL];exact hargs.1,λi y u p q=>?_⟩ λg cells hg=>(M.G g cells hg).mono M.H.lt (Evo.refl _ _) (ME.refl _);obtain⟨z,hz,rfl⟩:=datL_get args i y p;exact mB ((BO M.H (hargs.2 i z u hz q) (len_get args hlk i z hz)).mono (λb hb=>hb.elim (M.H.lt b) (·.2)) (Evo.refl _ _) (ME.refl _)) (fW _ hcl i _ p) _
end
end Go.Proofs.YtlpkggpdjobpmaaGreatDoor
namespace Go.Proofs.YtlpkggpdjobpmaaGreatDoor
open Go.RowKit
section
variable {C:Ctx}{V:Inv C.fr}{all:List Oper}{o:Oper}{s N:Nat}{t:Nat->AV}{h h':AH}{a:Act}{w w0:World}{D:Nat->Prop}{S0:Nat->Prop}{S:Nat->Prop}{β:Bt}
def PK(a:Act){d}{v}{x}{S'}{w'}{β'}(hT:∀i,Rep S' w' β' (t i) (a.tmps.getD i undef))(hx:Rep S' w' β' x v)(hd:∀k,d=some k->k<a.tmps.size):
  ∀i,Rep S' w' β' (Aa t d x i) ((a.put d v).tmps.getD i undef):=by
 intro i
 cases d with
 |none=>exact hT i
 | some k=>
  have hk:=hd k rfl;by_cases hi:i=k
  ·subst hi;have:((a.put (some i) v).tmps.getD i undef)=v:=by simp[Act.put,aK,hk]
   rw[this];show Rep S' w' β' (upd t i x i) v;rw[dB];exact hx
  ·have:((a.put (some k) v).tmps.getD i undef)=a.tmps.getD i undef:=by simp[Act.put,aK,cY (Ne.symm hi)]
   rw[this];show Rep S' w' β' (upd t k x i) _;rw[cI _ _ hi];exact hT i
def AE(M:SimD C V w0 S0 N D t h a w S β){S'}{w'}{β'}{h'}(K:StepK w0.heap.size S w β s S' w' β')(H:SimH w0.heap.size S' w' β' h'){x}{v}(hx:Rep S' w' β' x v){d}(hd:∀k,d=some k->k<N):
  SimD C V w0 S0 N (λn=>D n∨n=s) (Aa t d x) h' (a.put d v) w' S' β':=by
 refine⟨PK a (λi=>(M.T i).mono K.hS K.hE K.hle) hx (λk hk=>by rw[M.sz];exact hd k hk),H,M.B.trans K.hB,λy l hy=>(K.hdom y l hy).imp (M.dom y l) (·.1),?_,?_,λg cells hg=>(M.G g cells hg).mono K.hS K.hE (ME.refl _),λb hb=>(K.hN b hb).elim (M.nw b) (λh=>.inr h.1),V.mono M.iv K⟩
 ·cases d<;>exact M.df
 ·cases d with
  |none=>exact M.sz
  |some k=>simp only[Act.put,iV];exact M.sz
def yR(hC:CtxOk C)(M:SimD C V w0 S0 N D t h a w S β)(hs:β s=none)(ev)(hev:∀x∈o.op.operands,Rep S w β (ev x) (a.eval x)){x}(hn:NodeR C (bI C) h (opA C ev h s o.op) x h')(hd:∀k,o.dst=some k->k<N)
  {K} {Q} (hK:∀v w' S' β',Rep S' w' β' x v->SimH w0.heap.size S' w' β' h'->StepK w0.heap.size S w β s S' w' β'->K (a.put o.dst v) w'):o.wp C.P a w K Q:=by
 have hop:=MB hC M.H hs ev a.eval o hev (λ_=>rfl);have fin:Post w0.heap.size S w β s ((execOp a.eval o).run C.P w) x h'->o.wp C.P a w K Q:=by
  rintro⟨v,w',S',β',h1,h2,h3,h4⟩;unfold Oper.wp;rcases h1 with h1|⟨h1,hv⟩
  ·rw[h1];exact hK v w' S' β' h2 h3 h4
  ·rw[h1];subst hv;exact hK undef w' S' β' h2 h3 h4
 cases hr:opA C ev h s o.op with
 |bad=>rw[hr]at hn;exact hn.elim
 |ok y=>rw[hr]at hn hop;obtain⟨rfl,rfl⟩:=hn;exact fin hop
 |need p y=>rw[hr]at hn hop;obtain⟨hp,rfl,rfl⟩:=hn;exact fin (hop hp)
 |idx rows i f=>rw[hr]at hn hop;obtain⟨row,h0,h1,h2,rfl⟩:=hn;exact fin (hop row x h0 h1 h2)
 |fx p y h2=>rw[hr]at hn hop;obtain⟨hp,rfl,rfl⟩:=hn;exact fin (hop hp)
 |idxfx rows i f=>rw[hr]at hn hop;obtain⟨row,h0,h1,h2,rfl⟩:=hn;exact fin (hop row h' h0 h1 h2)
 |str p rows=>rw[hr]at hn hop;obtain⟨l,hp,h1,rfl,rfl⟩:=hn;exact fin (hop l hp h1)
 |call f args=>
  rw[hr]at hn hop;obtain⟨c1,c2,c3,c4,rfl⟩:=hn;obtain⟨vs,e1,e2⟩:=hop;obtain⟨g1,g2⟩:=Oo M e1 c1 c2 c3 c4;unfold Oper.wp;rw[e2,g1];refine g2.mono ?_;rintro e w' ⟨v,S',he,k1,k2,k3⟩;subst he;exact hK v w' S' β k1 k2 k3
def Lp(hC:CtxOk C)(M:SimD C V w0 S0 N D t h a w S β)(hsD:∀x,D x->x<s){f}{args}{Post}(hx:opA C (evA C t) h s o.op=.call f args)(hH:C.H f args h s Post)
  {K} {Q} (hd:∀k,o.dst=some k->k<N) (hK:∀x h' a' w' S' β',Post x h'->SimD C V w0 S0 N (λn=>D n∨n=s) (Aa t o.dst x) h' a' w' S' β'->K a' w'):o.wp C.P a w K Q:=by
 have hop:=MB hC M.H (show β s=none from by
  cases hq:β s with
  |none=>rfl
  |some l=>exact absurd (hsD s (M.dom s l hq)) (iI _)) _ a.eval o (λx _=>sY M x) (λ_=>rfl)
 rw[hx]at hop;obtain⟨vs,e1,e2⟩:=hop;obtain⟨⟨fn,g1,g2,g3⟩,hcall⟩:=hC.hH _ _ _ _ _ hH;unfold Oper.wp;have g:(callFunc f vs.toArray).run C.P w=.ok (.enter f vs.toArray) w:=by
  simp only[callFunc,Sem.run_bind,program,Sem.run,Result.andThen_ok,g1];have:fn.body.isNone=false:=by cases hb:fn.body<;>simp_all
  simp[g3,this]
 rw[e2,g];refine(hcall _ S w β vs M.H (λx l hx=>hsD x (M.dom x l hx)) M.G.g e1).mono ?_;rintro e w' ⟨v,S',β',r,h',hP,he,k1,k2,k3⟩;subst he;exact hK r h' _ _ _ _ hP (AE M k3 k2 k1 hd)
def xQ(hC:CtxOk C)(M:SimD C V w0 S0 N D t h a w S β)(hs:β s=none){ops}(hall:ops.toList=all){x}(hst:StepR C (bI C) all o s t h x h')(hd:∀k,o.dst=some k->k<N)(hgd:∀i pol d,o.guard=some (i,pol)->(all[i]?).bind (·.dst)=some d->d<N)
  {K} {Q} (hK:∀a' w' S' β',SimD C V w0 S0 N (λn=>D n∨n=s) (Aa t o.dst x) h' a' w' S' β'->K a' w'):
  if Region.wanted o (yielded ops a.tmps)then o.wp C.P a w K Q∨(o.asks C.P a w∧LetsOut Q)else K (a.put o.dst undef) w:=by
 unfold StepR at hst
 cases hg:o.guard with
 |none=>
  simp only[hg]at hst;have:Region.wanted o (yielded ops a.tmps)=true:=by simp[Region.wanted,hg]
  rw[af1 this]
  exact .inl (yR hC M hs _ (λx _=>sY M x) hst hd λv w' S' β' h1 h2 h3=>hK _ _ S' β' (AE M h3 h2 h1 hd))
 | some q=>
  obtain⟨i,pol⟩:=q;simp only[hg]at hst;obtain⟨d,g,y,q1,q2,⟨rfl,rfl,q3⟩|⟨rfl,q3⟩⟩:=hst
  case inr=>
   rw[Gx M hall hg q1 q2 (hgd i pol d hg q1),af1 rfl];exact .inl (yR hC M hs _ (λx _=>sY M x) q3 hd λv w' S' β' h1 h2 h3=>hK _ _ S' β' (AE M h3 h2 h1 hd))
  rw[Gx M hall hg q1 q2 (hgd i pol d hg q1)]
  cases g with
  |false=>
   rw[dZ (by simp)]
   exact hK _ _ S β (AE M (StepK.refl _ _ _ _ _) M.H (.optF false y rfl) hd)
  |true=>
   rw[af1 rfl];refine .inl ?_;rcases q3 with ⟨_,q5⟩|⟨c,q4,q5,q6⟩
   ·exact yR hC M hs _ (λx _=>sY M x) (q5 rfl).2 hd λv w' S' β' h1 h2 h3=>hK _ _ S' β' (AE M h3 h2 (.optT true y v rfl h1) hd)
   ·exact yR hC M hs _ (Lo M o.op q4 (q5 rfl)) (q6 rfl).2 hd λv w' S' β' h1 h2 h3=>hK _ _ S' β' (AE M h3 h2 (.optT true y v rfl h1) hd)
def vK(N:Nat)(l:List Oper):Bool:=l.all λo=>match o.dst with|some d=>Nat.blt d N|none=>true
def wU{l:List Oper}(hb:vK N l=true){o:Oper}(ho:o∈l):∀k,o.dst=some k->k<N:=λk hk=>by
 have:=rC.1 hb o ho;simp only[hk]at this;exact aJ this
def BP(hb:vK N all=true):∀(i d:Nat),(all[i]?).bind (λ(o:Oper)=>o.dst)=some d->d<N:=λi d h=>by
 obtain⟨o,ho,hd⟩:=Option.bind_eq_some_iff.1 h;exact wU hb (aB ho) d hd
theorem Ev(hC:CtxOk C){ops:Array Oper}(hall:ops.toList=all)(hb:vK N all=true){K:ASt->Prop}{Q:Exit->Act->World->Prop}{n:Nat}:∀(rest:List Oper) (j:Nat) (t:Nat->AV) (h:AH) (a:Act) (w:World) (S:Nat->Prop) (β:Bt),all.drop j=rest->jS C (bI C) all rest j ⟨t,h,n⟩ K->SimD C V w0 S0 N (· <n+j) t h a w S β->
  (∀st a' w' S' β',K st->SimD C V w0 S0 N (· <st.n) st.t st.h a' w' S' β'->Q .normal a' w')->wpOps C.P ops Q (List.range' j rest.length) a w
 |[],j,t,h,a,w,S,β,_,hr,M,hQ=>hQ ⟨t,h,n+j⟩ a w S β hr M
 | o::rest,j,t,h,a,w,S,β,hdrop,hr,M,hQ=>by
  have hj:all[j]?=some o:=by
   have:(all.drop j)[0]?=some o:=by rw[hdrop];rfl
   simpa using this
  have hoj:ops[j]?=some o:=by rw[<-hj, <-hall,bQ]
  have hmem:o∈all:=aB hj;have hs:β (n+j)=none:=by
   cases hq:β (n+j)with
   |none=>rfl
   |some l=>have:=M.dom _ _ hq;omega
  rw[bN,nX];simp only[wpOps,hoj];have next:∀(x:AV) (h':AH),jS C (bI C) all rest (j+1) ⟨Aa t o.dst x,h',n⟩ K->∀a' w' S' β',SimD C V w0 S0 N (λy=>y<n+j∨y=n+j) (Aa t o.dst x) h' a' w' S' β'->wpOps C.P ops Q (List.range' (j+1) rest.length) a' w':=λx h' h2 a' w' S' β' M'=>by
   refine Ev hC hall hb rest (j+1) _ h' a' w' S' β' ?_ h2 ?_ hQ
   ·rw[<-lH,hdrop];rfl
   ·exact⟨M'.T,M'.H,M'.B,λy l hy=>(M'.dom y l hy).elim (λ(h:y<n+j)=>(oT:y<n+(j+1))) (λ(h:y=n+j)=>(oT:y<n+(j+1))),M'.df,M'.sz,M'.G,M'.nw,M'.iv⟩
  rcases step_inv hr with ⟨x,h',h1,h2⟩|⟨hg,f,args,Post,hx,hH,hk⟩
  rotate_left
  ·have:Region.wanted o (yielded ops a.tmps)=true:=by simp[Region.wanted,hg]
   rw[af1 this];exact .inl (Lp hC M (λx (hx:x<n+j)=>hx) hx hH (wU hb hmem) λx h' a' w' S' β' hP M'=>next x h' (hk x h' hP) a' w' S' β' M')
  refine xQ hC M hs hall h1 (wU hb hmem) (λi pol d _ hd=>BP hb i d hd) λa' w' S' β' M'=>next x h' h2 a' w' S' β' M'
end
end Go.Proofs.YtlpkggpdjobpmaaGreatDoor
