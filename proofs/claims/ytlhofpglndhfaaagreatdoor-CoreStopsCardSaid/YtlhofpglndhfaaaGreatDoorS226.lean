/- Joined texts. -/
import Derived.Laws.BytesString
import Derived.Laws.IdiomStrings
import Derived.Test.YtlhofpglndhfaaaGreatDoorS201
import Derived.Test.YtlhofpglndhfaaaGreatDoorS225
set_option linter.unusedVariables false
set_option linter.unusedSimpArgs false
namespace Go.Proofs.YtlhofpglndhfaaaGreatDoor
open Go.RowKit
def Post(B:Nat)(S:Nat→Prop)(w:World)(β:Bt)(s:Nat)(r:Result Next)(x:AV)(h':AH):Prop:=
 ∃ v w' S' β',(r=.ok (.value v) w'∨(r=.ok .skip w'∧v=undef))∧Rep S' w' β' x v∧SimH B S' w' β' h'∧StepK B S w β s S' w' β'
section
variable {C:Ctx}{S:Nat→Prop}{w w':World}{β:Bt}{B:Nat}{h:AH}{s:Nat}
theorem StepK.refl(B:Nat)(S:Nat→Prop)(w:World)(β:Bt)(s:Nat):StepK B S w β s S w β:=⟨λ _ h=>h,Evo.refl _ _,Below.refl _ _,LT.refl _,λ _ _ h=>.inl h,λ _ h=>.inl h,λ _ _ _=>rfl⟩
theorem Post.of_yld{P:Program}{x:AV}{r:Sem Value}(H:SimH B S w β h)(hy:Yld P S w β x r):Post B S w β s ((do pure (.value (←r)):Sem Next).run P w) x h:=by
 obtain⟨v,h1,h2⟩:=hy;exact⟨v,w,S,β,.inl (by simp only[Sem.run_bind,h1,Result.andThen_ok,Sem.run_pure]),h2,H,StepK.refl _ _ _ _ _⟩
theorem cZ{α:Type}(f:Nat→α)(i:Nat)(x:α):upd f i x i=x:=by unfold upd;rw[show Nat.beq i i=true from mY i]
theorem cA{α:Type}(f:Nat→α){i j:Nat}(x:α)(hn:j≠i):upd f i x j=f j:=by
 unfold upd;have:Nat.beq j i=false:=by rw[←eO];exact λ e=>hn (aK e)
 rw[this]
theorem LT.upd(hs:β s=none)(l:Loc):LT β (upd β s (some l)):=λ x k hx=>by
 rw[cA _ _ (λ e=>by rw[e,hs]at hx;cases hx)];exact hx
theorem iH{o:Obj}(hw:w'.heap=w.heap.push o){b:Nat}(hb:b<w.heap.size):w'.heap[b]?=w.heap[b]? :=by rw[hw,Array.getElem?_push,if_neg (by omega)]
theorem rI{o:Obj}(hw:w'.heap=w.heap.push o):w'.heap[w.heap.size]?=some o:=by rw[hw,Array.getElem?_push,if_pos rfl]
theorem Au(H:SimH B S w β h)(hs:β s=none){cs:Array Value}{e:TypeId}{fr:Nat×Nat}(hw:w'.heap=w.heap.push (.cells cs e fr))(hfr:∀ o,o<cs.size→(decide (fr.1≤o)&&decide (o<fr.2))=false)(hbel:Below B w w'){blk:Blk}{l:Loc}(hl:l.blk=w.heap.size)
  (hin:AN S w' (upd β s (some l)) l cs blk):SimH B S w' (upd β s (some l)) (upd h s (some blk))∧StepK B S w β s S w' (upd β s (some l)):=by
 have hE:Evo S w w':=Evo.of_kept (λ b hb=>iH hw hb) H.lt;have hle:LT β (upd β s (some l)):=LT.upd hs l;have hsz:w'.heap.size=w.heap.size+1:=by rw[hw];simp
 refine⟨⟨λ s' blk' hs'=>?_,λ s1 s2 l1 l2 h1 h2 e1 e2 hb=>?_,λ b hb=>by have:=H.lt b hb;omega,by have:=H.big;omega⟩,⟨λ _ h=>h,hE,hbel,hle,λ x k hx=>?_,λ _ h=>.inl h,λ b hb _=>iH hw hb⟩⟩
 ·by_cases he:s'=s
  ·subst he;rw[cZ]at hs';injection hs' with hs';subst hs';refine⟨l,cs,e,fr,cZ _ _ _,by rw[hl];exact rI hw,hfr,by rw[hl];exact H.big,λ hb=>?_,hin⟩;have:=H.lt _ hb;omega
  ·rw[cA _ _ he]at hs';obtain⟨l',cs',e',fr',k1,k2,k3,k4,k5,k6⟩:=H.own s' blk' hs';exact⟨l',cs',e',fr',hle _ _ k1,(iH hw (fP k2)).trans k2,k3,k4,k5,k6.mono (λ _ h=>h) hE hle⟩
 ·have old:∀ s1 l1,s1≠s→upd h s (some blk) s1≠none→upd β s (some l) s1=some l1→l1.blk<w.heap.size∧h s1≠none∧β s1=some l1:=by
   intro s1 l1 hn h1 e1;rw[cA _ _ hn]at h1 e1;obtain⟨blk1,hb1⟩:∃ b,h s1=some b:=by
    cases hq:h s1 with
    |none=>exact absurd hq h1
    |some b=>exact⟨b,rfl⟩
   obtain⟨l',cs',e',fr',k1,k2,_⟩:=H.own s1 blk1 hb1;obtain rfl:l1=l':=by rw[e1]at k1;exact Option.some.inj k1
   exact⟨fP k2,h1,e1⟩
  by_cases n1:s1=s
  ·by_cases n2:s2=s
   ·rw[n1,n2]
   ·subst n1;rw[cZ]at e1;injection e1 with e1;subst e1;have:=(old s2 l2 n2 h2 e2).1;omega
  ·by_cases n2:s2=s
   ·subst n2;rw[cZ]at e2;injection e2 with e2;subst e2;have:=(old s1 l1 n1 h1 e1).1;omega
   ·obtain⟨_,a1,a2⟩:=old s1 l1 n1 h1 e1;obtain⟨_,b1,b2⟩:=old s2 l2 n2 h2 e2;exact H.inj s1 s2 l1 l2 a1 b1 a2 b2 hb
 ·by_cases he:x=s
  ·refine .inr ⟨he,.inl ?_⟩;subst he;rw[cZ]at hx;injection hx with hx;subst hx;rw[hl];exact aC _
  ·rw[cA _ _ he]at hx;exact .inl hx
theorem RR(H:SimH B S w β h){s0:Nat}{blk0:Blk}{l:Loc}(hs:h s0=some blk0)(hl:β s0=some l){cs cs':Array Value}{e:TypeId}{fr:Nat×Nat}(hb:w.heap[l.blk]?=some (.cells cs e fr))
  (ho:∀ b,b≠l.blk→w'.heap[b]?=w.heap[b]?) (hn:w'.heap[l.blk]?=some (.cells cs' e fr)) (hsz:cs'.size=cs.size) (hws:w'.heap.size=w.heap.size) (hbel:Below B w w') {blk:Blk} (hin:Evo S w w'→AN S w' β l cs' blk):
  SimH B S w' β (upd h s0 (some blk))∧StepK B S w β s S w' β:=by
 obtain⟨l',cs0,e',fr',k1,k2,k3,k4,k5,k6⟩:=H.own s0 blk0 hs;obtain rfl:l'=l:=by rw[hl]at k1;exact (Option.some.inj k1).symm
 rw[hb]at k2;injection k2 with k2;injection k2 with q1 q2 q3;subst q1;subst q2;subst q3;have hE:Evo S w w':=⟨λ b hSb=>ho b (λ e=>k5 (e ▸ hSb)),λ b c1 e1 f1 h1=>by
  by_cases he:b=l'.blk
  ·subst he;rw[hb]at h1;injection h1 with h1;injection h1 with q1 q2 q3;subst q1;subst q2;subst q3;exact⟨cs',hn,hsz⟩
  ·exact⟨c1,(ho b he).trans h1,rfl⟩⟩
 refine⟨⟨λ s' blk' hs'=>?_,λ s1 s2 l1 l2 h1 h2 e1 e2 hbb=>?_,λ b hb=>by have:=H.lt b hb;omega,by have:=H.big;omega⟩,⟨λ _ h=>h,hE,hbel,LT.refl _,λ _ _ hx=>.inl hx,λ _ h=>.inl h,λ b _ hne=>ho b (λ e=>hne s0 l' hl e.symm)⟩⟩
 ·by_cases he:s'=s0
  ·subst he;rw[cZ]at hs';injection hs' with hs';subst hs';exact⟨l',cs',e,fr,hl,hn,by rw[hsz];exact k3,k4,k5,hin hE⟩
  ·rw[cA _ _ he]at hs';obtain⟨l2,cs2,e2,fr2,j1,j2,j3,j4,j5,j6⟩:=H.own s' blk' hs';have hne:l2.blk≠l'.blk:=λ q=>he (H.inj s' s0 l2 l' (by rw[hs'];simp) (by rw[hs];simp) j1 hl q);exact⟨l2,cs2,e2,fr2,j1,(ho _ hne).trans j2,j3,j4,j5,j6.mono (λ _ h=>h) hE (LT.refl _)⟩
 ·have old:∀ s1,upd h s0 (some blk) s1≠none→h s1≠none:=λ s1 h1=>by
   by_cases he:s1=s0
   ·rw[he,hs];simp
   ·rwa [cA _ _ he]at h1
  exact H.inj s1 s2 l1 l2 (old s1 h1) (old s2 h2) e1 e2 hbb
theorem yC(b:Nat):∀ (vs:List Value) (o:Nat) (w:World) (cs:Array Value) (e:TypeId) (fr:Nat×Nat),w.heap[b]?=some (.cells cs e fr)→o+vs.length≤cs.size→
  ∃ cs':Array Value,(w.setCells b o vs).heap[b]?=some (.cells cs' e fr)∧cs'.size=cs.size∧(∀ k,cs'[k]?=if o≤k∧k<o+vs.length then vs[k - o]? else cs[k]?)∧
   (w.setCells b o vs).heap.size=w.heap.size∧∀ x,x≠b→(w.setCells b o vs).heap[x]?=w.heap[x]?
 |[],o,w,cs,e,fr,hb,_=>⟨cs,hb,rfl,λ k=>by rw[if_neg (by simp)],rfl,λ _ _=>rfl⟩
 | v::vs,o,w,cs,e,fr,hb,hl=>by
  simp only[bJ]at hl;have h1:(w.setCell ⟨b,o,none⟩ v).heap[b]?=some (.cells (cs.setIfInBounds o v) e fr):=by
   simp only[World.setCell,Array.getElem?_modify,kW,hb,dI,Option.isSome_none,bQ,iN]
  obtain⟨cs',a1,a2,a3,a4,a5⟩:=yC b vs (o+1) (w.setCell ⟨b,o,none⟩ v) (cs.setIfInBounds o v) e fr h1 (by simp;omega);refine⟨cs',by rw[World.setCells];exact a1,by rw[a2];simp,λ k=>?_,by rw[World.setCells];exact a4.trans (by simp[World.setCell]),λ x hx=>by rw[World.setCells,a5 x hx,Below.heap_setCell _ _ _ _ hx]⟩;rw[a3 k];simp only[bJ];by_cases hk:k=o
  ·subst hk;rw[if_neg (by omega),if_pos (by omega),jB,cJ,cV (by omega)]
  ·by_cases hk2:o+1≤k∧k<o+1+vs.length
   ·rw[if_pos hk2,if_pos (by omega),show k - o=(k - (o+1))+1 by omega,dC]
   ·rw[if_neg hk2,if_neg (by omega),cU (by omega)]
theorem wJ{b:Nat}(hb:B≤b):∀ (vs:List Value) (o:Nat) (w:World),Below B w (w.setCells b o vs)
 |[],_,w=>Below.refl _ _
 |v::vs,o,w=>by
  rw[World.setCells];exact ((Below.refl B w).setCell (p:=⟨b,o,none⟩) hb v).trans (wJ hb vs (o+1) _)
theorem DT(hC:CtxOk C){t:TypeId}{ti:TI}(ht:C.ty t=some ti){v:Value}{vs:List Value}(hv:v.cells.toList=vs)(hl:vs.length=ti.sz)(h1:∀ (i:Nat) u,vs[i]?=some u→u.oneCell'=true){b o:Nat}{cs:Array Value}{e:TypeId}{fr:Nat×Nat}
  (hb:w.heap[b]?=some (.cells cs e fr)) (hfr:∀ o,o<cs.size→(decide (fr.1≤o)&&decide (o<fr.2))=false) (hroom:o+vs.length≤cs.size):
  (Instr.storeAt t (.pointer (some ⟨b,o,none⟩)) v).run C.P w=.ok () (w.setCells b o vs):=by
 obtain⟨inf,z,hi,hsz,_⟩:=(hC.ty t _ ht).info;have hs:=run_storeCells_cells (P:=C.P) b o vs 0 w (λ j hj=>by rw[gQ hb,aO (by omega)];rfl) (λ j hj=>uS hb hfr _ (by omega)) (λ u hu=>by
  obtain⟨i,hi,rfl⟩:=eC hu;exact h1 i _ (aA hi))
 simp only[jA]at hs;have hn:v.cells.size=ti.sz:=by rw[←hl, ←hv];simp
 simp only[Instr.storeAt,Instr.sureAddr,Sem.run_bind,Sem.run_pure,Result.andThen_ok,storeVar,sizeOf,typeInfo,program,Sem.run,hi,hsz,hn,ne_eq,not_true_eq_false,iN,hv,hs]
theorem Dz(H:SimH B S w β h){s0:Nat}{blk0:Blk}{l:Loc}(hs:h s0=some blk0)(hl:β s0=some l){cs:Array Value}{e:TypeId}{fr:Nat×Nat}(hb:w.heap[l.blk]?=some (.cells cs e fr))(hBl:B≤l.blk)
  (vs:List Value) (o:Nat) (hroom:o+vs.length≤cs.size) {blk:Blk}
  (hin:∀ (w':World) (cs':Array Value),Evo S w w'→(∀ k,cs'[k]?=if o≤k∧k<o+vs.length then vs[k - o]? else cs[k]?)→AN S w' β l cs' blk):
  SimH B S (w.setCells l.blk o vs) β (upd h s0 (some blk))∧StepK B S w β s S (w.setCells l.blk o vs) β:=by
 obtain⟨cs',a1,a2,a3,a4,a5⟩:=yC l.blk vs o w cs e fr hb hroom;exact RR H hs hl hb a5 a1 a2 a4 (wJ hBl vs o w) λ hE=>hin _ _ hE a3
theorem Kz(hC:CtxOk C)(H:SimH B S w β h){t:TypeId}{ti:TI}{b c:Nat}{x:AV}{va vx:Value}{cs cells:List AV}(ht:C.ty t=some ti)(hcs:kO x=some cs)(hl:cs.length=ti.sz)(hb:h b=some (.box cells))(hroom:c+cs.length≤cells.length)
  (ha:Rep S w β (.ptr b c) va) (hx:Rep S w β x vx):Post B S w β s ((do Instr.storeAt t va vx;pure .skip:Sem Next).run C.P w) .any (upd h b (some (.box (zM c cs cells)))):=by
 have hpos:0<cs.length:=by rw[hl];exact ((hC.ty t _ ht).info).elim λ _ h=>h.elim λ _ h=>h.2.2.2.2.2.2.1
 have CX:=uK hx hcs;have hlen:=CX.rep.1
 cases ha with
 |ptr _ _ l hbl=>
 obtain⟨l',ds,e,fr,k1,k2,k3,k4,k5,k6⟩:=H.own b _ hb;obtain rfl:l'=l:=by rw[hbl]at k1;exact (Option.some.inj k1).symm
 have hfit:l'.base+c+vx.cells.toList.length≤ds.size:=by
  rw[←hlen];obtain⟨u,hu,_⟩:=k6 (c+cs.length - 1) _ (aA (by omega));have:=(Du.1 hu).1;omega
 have run:=DT hC ht rfl (by rw[←hlen,hl]) CX.one k2 k3 hfit;obtain⟨p1,p2⟩:=Dz (s:=s) H hb hbl k2 k4 vx.cells.toList (l'.base+c) hfit (blk:=.box (zM c cs cells)) (λ w' cs' hE hget j a hj=>by
  rw[Bu _ _ _ _ hroom]at hj;split at hj
  ·rename_i hc;have hlt:j - c<vx.cells.toList.length:=by omega
   refine⟨vx.cells.toList[j - c],?_,CX.one (j - c) _ (aA hlt),(CX.rep.2 (j - c) a _ hj (aA hlt)).mono (λ _ h=>h) hE (LT.refl _)⟩;rw[hget,if_pos (by omega),show l'.base+j - (l'.base+c)=j - c by omega,aA hlt]
  ·rename_i hc;obtain⟨u,q1,q2,q3⟩:=k6 j a hj;exact⟨u,by rw[hget,if_neg (by omega)];exact q1,q2,q3.mono (λ _ h=>h) hE (LT.refl _)⟩)
 exact⟨undef,_,S,β,.inr ⟨by simp only[Sem.run_bind,run,Result.andThen_ok,Sem.run_pure],rfl⟩,.any _,p1,p2⟩
theorem Ve{α:Type}(l:List α)(i j:Nat)(x:α):(l.set i x)[j]?=if i=j∧i<l.length then some x else l[j]? :=by
 rw[qF];by_cases h:i=j
 ·subst h;by_cases h2:i<l.length
  ·simp[h2]
  ·simp[h2,bM (Nat.le_of_not_lt h2)]
 ·simp[h]
theorem KA(hC:CtxOk C)(H:SimH B S w β h){t:TypeId}{ti:TI}{b r c:Nat}{x:AV}{va vx:Value}{cs row:List AV}{rows:List (List AV)}{rs:Nat}(ht:C.ty t=some ti)(hcs:kO x=some cs)(hl:cs.length=ti.sz)(hb:h b=some (.arr rows rs))(hrow:rows[r]?=some row)(hroom:c+cs.length≤row.length)(hcl:gE cs=true)
  (ha:Rep S w β (.ptr2 b r c) va) (hx:Rep S w β x vx):Post B S w β s ((do Instr.storeAt t va vx;pure .skip:Sem Next).run C.P w) .any (upd h b (some (.arr (rows.set r (zM c cs row)) rs))):=by
 have hpos:0<cs.length:=by rw[hl];exact ((hC.ty t _ ht).info).elim λ _ h=>h.elim λ _ h=>h.2.2.2.2.2.2.1
 have CX:=uK hx hcs;have hlen:=CX.rep.1
 cases ha with
 |ptr2 _ _ _ l hbl=>
 obtain⟨l',ds,e,fr,k1,k2,k3,k4,k5,k6,k7,k8⟩:=H.own b _ hb;obtain rfl:l'=l:=by rw[hbl]at k1;exact (Option.some.inj k1).symm
 subst k6;have hrl:row.length=l'.rs:=k7 row (aB hrow);have hrlt:r<rows.length:=(DK.1 hrow).1;have hfit:l'.base+r * l'.rs+c+vx.cells.toList.length≤ds.size:=by
  rw[←hlen];obtain⟨u,hu,_⟩:=k8 r row (c+cs.length - 1) _ hrow (aA (by omega));have:=(Du.1 hu).1;omega
 have run:=DT hC ht rfl (by rw[←hlen,hl]) CX.one k2 k3 hfit;obtain⟨p1,p2⟩:=Dz (s:=s) H hb hbl k2 k4 vx.cells.toList (l'.base+r * l'.rs+c) hfit (blk:=.arr (rows.set r (zM c cs row)) l'.rs) (λ w' cs' hE hget=>by
  refine⟨rfl,λ row' hr'=>?_,λ i row' j a hi hj=>?_⟩
  ·rcases List.mem_or_eq_of_mem_set hr' with h|h
   ·exact k7 _ h
   ·rw[h,uR _ _ _ hroom];exact hrl
  ·rw [Ve]at hi;split at hi
   ·rename_i hri;obtain⟨rfl,_⟩:=hri;injection hi with hi;subst hi;rw[Bu _ _ _ _ hroom]at hj;split at hj
    ·rename_i hc;have hlt:j - c<vx.cells.toList.length:=by omega
     refine⟨vx.cells.toList[j - c],?_,CX.one (j - c) _ (aA hlt),lO ((CX.rep.2 (j - c) a _ hj (aA hlt)).mono (λ _ h=>h) hE (LT.refl _)) (fY cs hcl _ a hj) _⟩;rw[hget,if_pos (by omega),show l'.base+r * l'.rs+j - (l'.base+r * l'.rs+c)=j - c by omega,aA hlt]
    ·rename_i hc;obtain⟨u,q1,q2,q3⟩:=k8 r row j a hrow hj;exact⟨u,by rw[hget,if_neg (by omega)];exact q1,q2,q3.mono (λ _ h=>h) hE (LT.refl _)⟩
   ·rename_i hri;obtain⟨u,q1,q2,q3⟩:=k8 i row' j a hi hj;have hne:i≠r:=λ e=>hri ⟨e.symm,hrlt⟩;have hjl:j<l'.rs:=by rw[←k7 row' (aB hi)];exact (DK.1 hj).1
    refine⟨u,?_,q2,q3.mono (λ _ h=>h) hE (LT.refl _)⟩;rw[hget,if_neg ?_]
    ·exact q1
    ·rintro ⟨g1,g2⟩;rcases Nat.lt_or_gt_of_ne hne with hlt|hlt
     ·have:(i+1) * l'.rs≤r * l'.rs:=eI _ hlt;rw[bZ]at this;omega
     ·have:(r+1) * l'.rs≤i * l'.rs:=eI _ hlt;rw[bZ]at this;omega)
 exact⟨undef,_,S,β,.inr ⟨by simp only[Sem.run_bind,run,Result.andThen_ok,Sem.run_pure],rfl⟩,.any _,p1,p2⟩
theorem KB(hC:CtxOk C)(H:SimH B S w β h){t:TypeId}{ti:TI}{b r:Nat}{x y:AV}{va vx:Value}{cells:List AV}(ht:C.ty t=some ti)(hcs:kO x=some [y])(hl:([y]:List AV).length=ti.sz)(hb:h b=some (.row cells))(hrow:r<cells.length)
  (ha:Rep S w β (.ptr2 b r 0) va) (hx:Rep S w β x vx):Post B S w β s ((do Instr.storeAt t va vx;pure .skip:Sem Next).run C.P w) .any (upd h b (some (.row (cells.set r y)))):=by
 have CX:=uK hx hcs;have hlen:vx.cells.toList.length=1:=CX.rep.1.symm
 cases ha with
 |ptr2 _ _ _ l hbl=>
 obtain⟨l',ds,e,fr,k1,k2,k3,k4,k5,k6,k8⟩:=H.own b _ hb;obtain rfl:l'=l:=by rw[hbl]at k1;exact (Option.some.inj k1).symm
 have hfit:l'.base+r * l'.rs+0+vx.cells.toList.length≤ds.size:=by
  rw[hlen,k6];obtain⟨u,hu,_⟩:=k8 r _ (aA hrow);have:=(Du.1 hu).1;omega
 have run:=DT hC ht rfl (by rw[hlen];simpa using hl) CX.one k2 k3 hfit;obtain⟨p1,p2⟩:=Dz (s:=s) H hb hbl k2 k4 vx.cells.toList (l'.base+r * l'.rs+0) hfit (blk:=.row (cells.set r y)) (λ w' cs' hE hget=>by
  refine⟨k6,λ j a hj=>?_⟩;rw[k6]at hget;by_cases hjr:j=r
  ·subst hjr;rw[aW hrow]at hj;injection hj with hj;subst hj;refine⟨vx.cells.toList[0]'(by omega),?_,CX.one 0 _ (aA (by omega)),(CX.rep.2 0 y _ rfl (aA (by omega))).mono (λ _ h=>h) hE (LT.refl _)⟩;rw[hget,if_pos (by omega),show l'.base+j - (l'.base+j * 1+0)=0 by omega,aA (by omega)]
  ·rw[gU (Ne.symm hjr)]at hj;obtain⟨u,q1,q2,q3⟩:=k8 j a hj;exact⟨u,by rw[hget,if_neg (by omega)];exact q1,q2,q3.mono (λ _ h=>h) hE (LT.refl _)⟩)
 exact⟨undef,_,S,β,.inr ⟨by simp only[Sem.run_bind,run,Result.andThen_ok,Sem.run_pure],rfl⟩,.any _,p1,p2⟩
theorem Uk(H:SimH B S w β h)(hs:β s=none)(t:TypeId){x:AV}{v:Value}{cs:List AV}(hx:Rep S w β x v)(hcs:kO x=some cs):
  Post B S w β s ((do pure (.value (←Instr.box t v)):Sem Next).run C.P w) (.ptr s 0) (upd h s (some (.box cs))):=by
 have CX:=uK hx hcs;have hw:(w.alloc (.cells v.cells t)).heap=w.heap.push (.cells v.cells t):=rfl;have hle:LT β (upd β s (some ⟨w.heap.size,0,0⟩)):=LT.upd hs _;have hE:Evo S w (w.alloc (.cells v.cells t)):=Evo.of_kept (λ b hb=>iH hw hb) H.lt;obtain⟨p1,p2⟩:=Au H hs hw (λ o _=>by simp) ((Below.refl B w).alloc H.big _) (l:=⟨w.heap.size,0,0⟩) (blk:=.box cs) rfl (λ j a hj=>by
  have hlt:j<v.cells.toList.length:=by rw[←CX.rep.1];exact (DK.1 hj).1
  refine⟨v.cells.toList[j],by rw[bR, ←bF,aA hlt],CX.one j _ (aA hlt),(CX.rep.2 j a _ hj (aA hlt)).mono (λ _ h=>h) hE hle⟩)
 refine⟨.pointer (some ⟨w.heap.size,0,none⟩),_,S,_,.inl ?_,?_,p1,p2⟩
 ·rfl
 ·exact .ptr s 0 ⟨w.heap.size,0,0⟩ (cZ _ _ _)
theorem RS(hC:CtxOk C)(H:SimH B S w β h)(hs:β s=none)(t:TypeId){i:TI}{cs:List AV}(ht:C.ty t=some i)(hcs:kO i.zero=some cs):
  Post B S w β s ((do pure (.value (←Instr.alloc t true (.tuple #[]))):Sem Next).run C.P w) (.ptr s 0) (upd h s (some (.box cs))):=by
 obtain⟨inf,z,h1,h2,h3,h4,h5,_⟩:=(hC.ty t _ ht).info;have hz:(zeroValue t).run C.P w=.ok z w:=by simp only[zeroValue,typeInfo,program,Sem.run_bind,Sem.run,h1,Sem.run_pure,Result.andThen_ok,h4]
 obtain⟨v,w',S',β',r1,r2⟩:=Uk (C:=C) (s:=s) H hs t (Hc z) (by rw[←h5];exact hcs);refine⟨v,w',S',β',?_,r2⟩;rw[←r1.elim (λ h=>h) (λ h=>by have:=h.1;simp[Instr.box,newVar,newRow,newObj,Sem.run]at this)];refine .inl ?_;simp only[Instr.alloc,Sem.run_bind,hz,Result.andThen_ok,Instr.box]
end
end Go.Proofs.YtlhofpglndhfaaaGreatDoor
namespace Go.Proofs.YtlhofpglndhfaaaGreatDoor
open Go.RowKit
def kI(n rc:Nat)(u:Nat→Nat→Value):List Value:=(List.range (n * rc)).map λ k=>u (k / rc) (k % rc)
theorem fN(n rc:Nat)(u:Nat→Nat→Value):(kI n rc u).length=n * rc:=by simp[kI]
theorem uP(n rc:Nat)(u:Nat→Nat→Value)(k:Nat)(hk:k<n * rc):(kI n rc u)[k]?=some (u (k / rc) (k % rc)):=by
 simp[kI,hk]
theorem OI{i j rc:Nat}(hj:j<rc):(i * rc+j) / rc=i∧(i * rc+j) % rc=j:=by
 have h0:0<rc:=by omega
 constructor
 ·rw[iF,Nat.add_mul_div_right _ _ h0,Nat.div_eq_of_lt hj,bR]
 ·rw[iF,Nat.add_mul_mod_self_right,qT hj]
theorem uQ{i j n rc:Nat}(hi:i<n)(hj:j<rc):i * rc+j<n * rc:=by
 have:(i+1) * rc≤n * rc:=eI _ hi;rw[bZ]at this;omega
theorem GW(n rc:Nat)(u:Nat→Nat→Value){i j:Nat}(hi:i<n)(hj:j<rc):(kI n rc u)[i * rc+j]?=some (u i j):=by
 rw[uP _ _ _ _ (uQ hi hj),(OI hj).1,(OI hj).2]
section
variable {C:Ctx}{S:Nat→Prop}{w w':World}{β:Bt}{B:Nat}{h:AH}{s:Nat}
structure RowsU(S:Nat→Prop)(w:World)(β:Bt)(rc:Nat)(rows:List (List AV))(u:Nat→Nat→Value):Prop where
 len:∀ row∈rows,row.length=rc
 rep:∀ (i:Nat) row (j:Nat) a,rows[i]?=some row→row[j]?=some a→(u i j).oneCell'=true∧Rep S w β a (u i j)
theorem RowsU.one{rc:Nat}{rows:List (List AV)}{u:Nat→Nat→Value}(R:RowsU S w β rc rows u):∀ x∈kI rows.length rc u,x.oneCell'=true:=by
 intro x hx;simp only[kI,sF,mZ]at hx;obtain⟨k,hk,rfl⟩:=hx;have h0:0<rc:=eX λ e=>by subst e;simp at hk
 have hi:k / rc<rows.length:=jD (by rw[lE];exact hk);have hr:rows[k / rc]?=some rows[k / rc]:=aA hi;have hl:=R.len _ (aB hr);have hj:k % rc<rows[k / rc].length:=by rw[hl];exact aY _ h0
 exact (R.rep _ _ _ _ hr (aA hj)).1
theorem RowsU.append{rc:Nat}{xs ys:List (List AV)}{u v:Nat→Nat→Value}(R:RowsU S w β rc xs u)(T:RowsU S w β rc ys v):RowsU S w β rc (xs++ys) (λ i j=>if i<xs.length then u i j else v (i - xs.length) j):=by
 refine⟨λ row hr=>(al_List_mem_append.1 hr).elim (R.len row) (T.len row),λ i row j a h1 h2=>?_⟩;by_cases hi:i<xs.length
 ·rw[cI hi]at h1;simp only[if_pos hi];exact R.rep i row j a h1 h2
 ·rw[bS (by omega)]at h1;simp only[if_neg hi];exact T.rep _ row j a h1 h2
theorem IR(n m rc:Nat)(u v:Nat→Nat→Value):kI n rc u++kI m rc v=kI (n+m) rc (λ i j=>if i<n then u i j else v (i - n) j):=by
 rcases al_Nat_eq_zero_or_pos rc with h0|h0
 ·subst h0;simp[kI]
 apply dL;intro k;by_cases hk:k<n * rc
 ·rw[cI (by rw[fN];exact hk),uP _ _ _ _ hk,uP _ _ _ _ (by rw[bZ];omega)];have:k / rc<n:=jD (by rw[lE];exact hk);rw[if_pos this]
 ·rw[bS (by rw[fN];omega),fN];by_cases hk2:k<(n+m) * rc
  ·rw[bZ]at hk2;rw[uP _ _ _ _ (by omega:k - n * rc<m * rc),uP _ _ _ _ (by rw[bZ];omega)];have e:k=(k - n * rc)+n * rc:=by omega
   have e1:k / rc=(k - n * rc) / rc+n:=by
    conv=>lhs;rw[e]
    rw[Nat.add_mul_div_right _ _ h0]
   have e2:k % rc=(k - n * rc) % rc:=by
    conv=>lhs;rw[e]
    rw[Nat.add_mul_mod_self_right]
   rw[e1,e2,if_neg (by have:=aD ((k - n * rc) / rc);omega),gL]
  ·rw[bM (by rw[fN];rw[bZ]at hk2;omega),bM (by rw[fN];omega)]
theorem Av(H:SimH B S w β h){y:AV}{vy:Value}{rc:Nat}{rows:List (List AV)}(hy:Rep S w β y vy)(hr:mQ h y=some (rc,rows))(hlk:xB h y):
  ∃ u,RowsU S w noB rc rows u∧(∀ w1:World,(Builtin.lenOf vy).run C.P w1=.ok rows.length w1)∧
   ∀ w1:World,(∀ b,b<w.heap.size→w1.heap[b]?=w.heap[b]?)→∀ n,n≤rows.length→(Builtin.firstCells rc n vy).run C.P w1=.ok (kI n rc u).toArray w1:=by
 have mem:∀ (b o:Nat) (A:Option Addr) (len c:Nat) (rows:List (List AV)) (u:Nat→Nat→Value),RowsU S w noB rc rows u→len=rows.length→(0<len→A=some ⟨b,o,none⟩)→
   (∀ (i:Nat) row (j:Nat) a,rows[i]?=some row→row[j]?=some a→w.cell? ⟨b,o+i * rc+j,none⟩=some (u i j))→
   ∀ w1:World,(∀ b,b<w.heap.size→w1.heap[b]?=w.heap[b]?)→∀ n,n≤rows.length→(Builtin.firstCells rc n (.slice A len c)).run C.P w1=.ok (kI n rc u).toArray w1:=by
  intro b o A len c rows u R hl hA hw w1 hw1 n hn;rcases al_Nat_eq_zero_or_pos n with h0|h0
  ·subst h0;have:kI 0 rc u=[]:=by simp[kI]
   rw[this]
   cases A with
   |none=>exact run_firstCells_none w1 rc 0 len c
   |some A=>exact run_firstCells_some w1 rc 0 A len c [] (by simp) (by simp)
  ·rw[hA (by omega)];refine run_firstCells_some w1 rc n ⟨b,o,none⟩ len c (kI n rc u) (fN _ _ _) λ k x hk=>?_;have hlt:k<n * rc:=by rw[←fN n rc u];exact (DK.1 hk).1
   rw[uP _ _ _ _ hlt]at hk;injection hk with hk;subst hk;have hr0:0<rc:=eX λ e=>by subst e;simp at hlt
   have hi:k / rc<rows.length:=Nat.lt_of_lt_of_le (jD (by rw[lE];exact hlt)) hn;have hrow:rows[k / rc]?=some rows[k / rc]:=aA hi;have hj:k % rc<rows[k / rc].length:=by rw[R.len _ (aB hrow)];exact aY _ hr0
   have:=hw _ _ _ _ hrow (aA hj);rw[Addr.add_mid];have hk':k / rc * rc+k % rc=k:=by rw[lE];exact Nat.div_add_mod k rc
   rw[dV,hk']at this;have hb:b<w.heap.size:=World.block_lt_of_cell? w _ this;rw[tO (hw1 b hb)];exact this
 cases hy with
 | v =>
  simp only[mQ]at hr;split at hr
  ·rename_i st hst;injection hst with hst;subst hst;injection hr with hr;injection hr with e1 e2;subst e1;subst e2;have hlen:(bY st).length=st.size:=by simp[bY]
   refine⟨λ i _=>.int .u8 (st.data.toList.getD i 0).toNat,⟨λ row hrow=>?_,λ i row j a h1 h2=>?_⟩,λ w1=>by rw[hlen];rfl,λ w1 _ n hn=>?_⟩
   ·simp only[bY,sF]at hrow;obtain⟨b,_,rfl⟩:=hrow;rfl
   ·simp only[bY,aZ]at h1;obtain⟨b,hb,rfl⟩:=wV.1 h1
    cases j with
    |zero=>
     simp only[cJ,Option.some.injEq]at h2;subst h2;refine⟨rfl,?_⟩;rw[bC,hb,gK]
     exact .v _
    |succ j=>simp at h2
   ·rw[hlen]at hn;simp only[Builtin.firstCells,Sem.run_pure];congr 1;apply Array.ext';simp only[jR,kI,iX,tM];apply dL;intro k;simp only[aZ];by_cases hk:k<n
    ·have hkl:k<st.data.toList.length:=by simpa using Nat.lt_of_lt_of_le hk hn
     have:(st.extract 0 n).data.toList[k]?=st.data.toList[k]? :=by
      simp[hk]
     rw[this,aA hkl,gC hk,dI,dI,bC,aA hkl];rfl
    ·have:(st.extract 0 n).data.toList[k]?=none:=by
      apply bM;simp;omega
     rw[this,bM (by simp;omega)];rfl
  ·rename_i he;cases he
  ·rename_i he;cases he
  ·cases hr
 |sl rs rows' clip A c b o u hc hm hcl hrs hA hw h1 hr'=>
  simp only[mQ]at hr;injection hr with hr;injection hr with e1 e2;subst e1;subst e2;have R:RowsU S w noB rs rows' u:=⟨hrs,λ i row j a p q=>⟨h1 i j,hr' i row j a p q⟩⟩
  exact⟨u,R,λ _=>rfl,mem b o A _ c rows' u R rfl (λ h0=>(hA h0).1) hw⟩
 | osl s0 lo len clip l A c hl hc hm hcl hA cs e fr hb room=>
  simp only[mQ]at hr;split at hr
  ·rename_i rows' rs hs;injection hr with hr;injection hr with e1 e2;subst e1;subst e2;obtain⟨l',ds,e',fr',k1,k2,k3,k4,k5,k6,k7,k8⟩:=H.own s0 _ hs;obtain rfl:l'=l:=by rw[hl]at k1;exact (Option.some.inj k1).symm
   subst k6;have hlk':lo+len≤rows'.length:=by simpa [xB,hs]using hlk
   have hlen:((rows'.drop lo).take len).length=len:=by rw[aN,bD];omega
   have sub:∀ (i:Nat) row,((rows'.drop lo).take len)[i]?=some row→rows'[lo+i]?=some row:=by
    intro i row hi;rw[cN]at hi;split at hi
    ·rwa [dD]at hi
    ·cases hi
   have R:RowsU S w noB l'.rs ((rows'.drop lo).take len) (λ i j=>ds.getD (l'.base+(lo+i) * l'.rs+j) undef):=by
    refine⟨λ row hrow=>k7 row (eW (cK hrow)),λ i row j a hi hj=>?_⟩;obtain⟨u,q1,q2,q3⟩:=k8 _ _ _ _ (sub i row hi) hj;rw[show ds.getD (l'.base+(lo+i) * l'.rs+j) undef=u by rw[aI,q1];rfl];exact⟨q2,q3⟩
   refine⟨_,R,λ _=>by rw[hlen];rfl,mem l'.blk (l'.base+lo * l'.rs) A len c _ _ R hlen.symm (λ h0=>hA (by omega)) λ i row j a hi hj=>?_⟩;obtain⟨u,q1,q2,q3⟩:=k8 _ _ _ _ (sub i row hi) hj;rw[gQ k2,show l'.base+lo * l'.rs+i * l'.rs+j=l'.base+(lo+i) * l'.rs+j by rw[bZ];omega,q1,aI,q1];rfl
  ·cases hr
 |_=>simp only[mQ]at hr;cases hr
theorem RT(hC:CtxOk C)(H:SimH B S w β h)(hs:β s=none){e:TypeId}{ei:TI}(he:C.ty e=some ei){z:Value}(hzs:z.cells.size=ei.sz){rows:List (List AV)}{u:Nat→Nat→Value}(R:RowsU S w noB ei.sz rows u)(cap:Nat)(hcap:rows.length≤cap)(hm:cap≤maxLen){w':World}
  (hw:w'.heap=w.heap.push (.cells ((kI rows.length ei.sz u).toArray++Builtin.zeroCells z.cells (cap - rows.length)) e)) (hbel:Below B w w'):
  Rep S w' (upd β s (some ⟨w.heap.size,0,ei.sz⟩)) (.osl s 0 rows.length false) (.slice (some ⟨w.heap.size,0,none⟩) rows.length cap)∧
  SimH B S w' (upd β s (some ⟨w.heap.size,0,ei.sz⟩)) (upd h s (some (.arr rows ei.sz)))∧StepK B S w β s S w' (upd β s (some ⟨w.heap.size,0,ei.sz⟩)):=by
 have hE:Evo S w w':=Evo.of_kept (λ b hb=>iH hw hb) H.lt;obtain⟨p1,p2⟩:=Au H hs hw (λ o _=>by simp) hbel (l:=⟨w.heap.size,0,ei.sz⟩) (blk:=.arr rows ei.sz) rfl ⟨rfl,R.len,λ i row j a hi hj=>by
  have hjl:j<ei.sz:=by rw[←R.len row (aB hi)];exact (DK.1 hj).1
  have hil:i<rows.length:=(DK.1 hi).1;obtain⟨r1,r2⟩:=R.rep i row j a hi hj;refine⟨u i j,?_,r1,r2.mono (λ _ h=>h) hE (LT.refl _)⟩;rw[bR,dN (by simp only[kH,fN];exact uQ hil hjl),dY];exact GW _ _ _ hil hjl⟩
 refine⟨.osl s 0 rows.length false ⟨w.heap.size,0,ei.sz⟩ _ cap (cZ _ _ _) hcap hm (λ h=>by cases h) (λ _=>by simp) _ e _ (rI hw) ?_,p1,p2⟩;simp only[Array.size_append,kH,fN,size_zeroCells,hzs,bR];rw[←bZ];exact eI _ (by omega)
theorem OJ(H:SimH B S w β h){tx:TypeId}{tk:TI}(htx:(∃ e',C.P.underlying tx=some (.slice e'))∨C.P.underlying tx=some .string){y:AV}{vy:Value}{rc:Nat}{rows:List (List AV)}(hy:Rep S w β y vy)(hr:mQ h y=some (rc,rows))(hlk:xB h y):
  ∃ u,RowsU S w noB rc rows u∧Src C.P rc tx vy rows.length (kI rows.length rc u) w:=by
 obtain⟨u,R,hl,hf⟩:=Av (C:=C) H hy hr hlk;exact⟨u,R,⟨htx,hl,hf w (λ _ _=>rfl) _ (aC _),hf w.drew (λ _ _=>rfl) _ (aC _),fN _ _ _,R.one⟩⟩
theorem OK(hC:CtxOk C){tx:TypeId}{tk:TI}(ht:C.ty tx=some tk)(hk:Nn tk.kd=true):(∃ e',C.P.underlying tx=some (.slice e'))∨C.P.underlying tx=some .string:=by
 have:=(hC.ty tx _ ht).kd;cases hq:tk.kd<;>rw[hq]at hk this<;>simp only[Nn,bQ]at hk
 ·exact .inr this
 ·exact .inl ⟨_,this⟩
theorem yD(hC:CtxOk C)(H:SimH B S w β h)(hs:β s=none){t tx ty e:TypeId}{ti tk ei:TI}(hte:C.P.underlying t=some (.slice e))(htx:C.ty tx=some tk)(hk:Nn tk.kd=true)(he:C.ty e=some ei)
  {y:AV} {A:Option Addr} {vy:Value} {n cap:Nat} {ra rc:Nat} {a c:List (List AV)} {ua:Nat→Nat→Value} (Ra:RowsU S w noB ei.sz a ua) (han:a.length=n)
  (hold:(Builtin.firstCells ei.sz n (.slice A n cap)).run C.P w.drew=.ok (kI n ei.sz ua).toArray w.drew) (hy:Rep S w β y vy) (hr:mQ h y=some (ei.sz,c)) (hlk:xB h y)
  (hg:cap<n+c.length) (hcm:n+c.length≤oZ):
  Post B S w β s ((do pure (.value (←Builtin.append_ #[t,tx] ty #[.slice A n cap,vy])):Sem Next).run C.P w) (.osl s 0 (n+c.length) false) (upd h s (some (.arr (a++c) ei.sz))):=by
 obtain⟨uc,Rc,src⟩:=OJ (tk:=tk) H (OK hC htx hk) hy hr hlk;obtain⟨inf,z,i1,i2,i3,i4,i5,i6,i7,i8⟩:=(hC.ty e _ he).info;have hcap1:n+c.length≤1000000:=hcm;have hm:n+c.length≤maxLen:=by unfold maxLen;omega
 have run:=run_append_grow_src (P:=C.P) w t tx ty e inf z hte i1 i4 A n cap (kI n ei.sz ua) (by rw[i2];exact hold) vy c.length (kI c.length ei.sz uc) (by rw[i2];exact src) hg (by omega)
  (growslice_fits hg (by rw[i3];exact aL (tH hcap1 i8) (by omega)))
 subst han;rw[IR]at run;have R:=Ra.append Rc;rw[←aR]at run;have G:=RT (s:=s) hC H hs he i6 R (grownCap w (a.length+c.length) cap e) (by rw[aR];exact grownCap_ge _ _ _ _) (grownCap_le_maxLen _ _ _ _ hm) (w':=w.drew.alloc (.cells ((kI (a++c).length ei.sz _).toArray++Builtin.zeroCells z.cells (grownCap w (a.length+c.length) cap e - (a.length+c.length))) e))
  (by rw[aR];rfl) ((Below.refl B w).drew.alloc H.big _)
 rw[aR]at G run;exact⟨_,_,S,_,.inl (by simp only[Sem.run_bind,run,Result.andThen_ok,Sem.run_pure]),G.1,G.2.1,G.2.2⟩
end
end Go.Proofs.YtlhofpglndhfaaaGreatDoor
namespace Go.Proofs.YtlhofpglndhfaaaGreatDoor
open Go.RowKit
section
variable {C:Ctx}{S:Nat→Prop}{w w':World}{β:Bt}{B:Nat}{h:AH}{s:Nat}
def zK(B:Nat)(S:Nat→Prop)(w:World)(β:Bt)(h:AH)(s:Nat)(r:Result Next):Res→Prop
 | .bad=>True
 | .ok x=>Post B S w β s r x h
 | .need p x=>p→Post B S w β s r x h
 | .idx rows i f=>∀ row x,0≤i→rows[i.toNat]?=some row→f row=some x→Post B S w β s r x h
 | .fx p x h'=>p→Post B S w β s r x h'
 | .idxfx rows i f=>∀ row h',0≤i→rows[i.toNat]?=some row→f row=some h'→Post B S w β s r .any h'
 | .str p rows=>∀ l,p→iJ rows=some l→Post B S w β s r (.v (.string ⟨l.toArray⟩)) h
 | .call _ _=>False
theorem rD.post{P:Program}{x:Res}{r:Sem Value}(H:SimH B S w β h)(hr:rD P S w β r x):zK B S w β h s ((do pure (.value (←r)):Sem Next).run P w) x:=by
 cases x<;>simp only[rD,zK]at hr⊢
 ·exact Post.of_yld H hr
 ·exact λ hp=>Post.of_yld H (hr hp)
 ·exact λ row x h0 h1 h2=>Post.of_yld H (hr row x h0 h1 h2)
 ·exact λ l hp h0=>Post.of_yld H (hr l hp h0)
theorem KC(hC:CtxOk C)(H:SimH B S w β h)(hs:β s=none){t tx ty e:TypeId}{tk ei:TI}(hte:C.P.underlying t=some (.slice e))(htx:C.ty tx=some tk)(hk:Nn tk.kd=true)(he:C.ty e=some ei)
  {y:AV} {vx vy:Value} {s0 lo n cap:Nat} {A:Option Addr} {rows c:List (List AV)} (hx:Rep S w β (.osl s0 lo n false) (.slice A n cap)) (h0:h s0=some (.arr rows ei.sz)) (hln:lo+n=rows.length) (hy:Rep S w β y vy) (hr:mQ h y=some (ei.sz,c)) (hlk:xB h y)
  (hg:n+c.length≤cap):
  Post B S w β s ((do pure (.value (←Builtin.append_ #[t,tx] ty #[.slice A n cap,vy])):Sem Next).run C.P w) (.osl s 0 (n+c.length) false) (upd (upd h s0 none) s (some (.arr ((rows.drop lo).take n++c) ei.sz))):=by
 obtain⟨uc,Rc,src⟩:=OJ (tk:=tk) H (OK hC htx hk) hy hr hlk;obtain⟨inf,z,i1,i2,i3,i4,i5,i6,i7,i8⟩:=(hC.ty e _ he).info;obtain⟨l,cs,ee,fr,k1,k2,k3,k4,k5,k6,k7,k8⟩:=H.own s0 _ h0
 cases hx with
 |osl _ _ _ _ l' _ _ hl hc hm hcl hA cs' e' fr' hb room=>
 obtain rfl:l'=l:=by rw[hl]at k1;exact Option.some.inj k1
 rw[k2]at hb;injection hb with hb;injection hb with q1 q2 q3;subst q1;subst q2;subst q3;have hss0:s≠s0:=λ e=>by rw[e,hl]at hs;cases hs
 have fit:l'.base+lo * l'.rs+n * l'.rs+(kI c.length ei.sz uc).length≤cs.size:=by
  rw[fN, ←k6,dV,dV, ←bZ, ←bZ];exact aL (oL (eI _ (by omega)) _) room
 obtain⟨cs',a1,a2,a3,a4,a5⟩:=yC l'.blk (kI c.length ei.sz uc) (l'.base+lo * l'.rs+n * l'.rs) w cs ee fr k2 fit;have hbel:=wJ (B:=B) k4 (kI c.length ei.sz uc) (l'.base+lo * l'.rs+n * l'.rs) w;have run:(Builtin.append_ #[t,tx] ty #[.slice A n cap,vy]).run C.P w=.ok (.slice A (n+c.length) cap) (w.setCells l'.blk (l'.base+lo * l'.rs+n * l'.rs) (kI c.length ei.sz uc)):=by
  rcases al_Nat_eq_zero_or_pos cap with hc0|hc0
  ·have hn0:n=0:=by omega
   have hcl0:c.length=0:=by omega
   have hlen:=src.len;rw[hcl0]at hlen;have hcells:=src.cells;rw[hcl0]at hcells;have hfl:kI 0 ei.sz uc=[]:=by simp[kI]
   rw[hcl0,hfl];rw[hfl]at hcells;subst hn0;rcases src.kind with ⟨e',hk'⟩|hk'<;>cases A<;>simp[Builtin.append_,run_underlying hte,run_underlying hk',sizeOf,typeInfo,i1,i2,hlen,hcells,World.setCells,storeCells]
  ·rw[hA hc0];have h1:∀ j,j<(kI c.length ei.sz uc).length→(w.cell? ⟨l'.blk,l'.base+lo * l'.rs+n * inf.size+j,none⟩).isSome=true:=λ j hj=>by
    rw[i2, ←k6,gQ k2,aO (by omega)];rfl
   have h2:∀ j,j<(kI c.length ei.sz uc).length→w.frozen? ⟨l'.blk,l'.base+lo * l'.rs+n * inf.size+j,none⟩=false:=λ j hj=>by
    rw[i2, ←k6];exact uS k2 k3 _ (by omega)
   have:=run_append_room_src (P:=C.P) w t tx ty e inf hte i1 l'.blk (l'.base+lo * l'.rs) n cap vy c.length (kI c.length ei.sz uc) (by rw[i2];exact src) hg h1 h2;rw[i2, ←k6]at this;rw[←k6];exact this
 have hle:LT β (upd β s (some ⟨l'.blk,l'.base+lo * l'.rs,l'.rs⟩)):=LT.upd hs _;have hE:Evo S w (w.setCells l'.blk (l'.base+lo * l'.rs+n * l'.rs) (kI c.length ei.sz uc)):=⟨λ b hSb=>a5 b (λ e=>k5 (e ▸ hSb)),λ b c1 e1 f1 h1=>by
  by_cases hq:b=l'.blk
  ·subst hq;rw[k2]at h1;injection h1 with h1;injection h1 with q1 q2 q3;subst q1;subst q2;subst q3;exact⟨cs',a1,a2⟩
  ·exact⟨c1,(a5 b hq).trans h1,rfl⟩⟩
 have htl:((rows.drop lo).take n).length=n:=by rw[aN,bD];omega
 refine⟨.slice A (n+c.length) cap,_,S,upd β s (some ⟨l'.blk,l'.base+lo * l'.rs,l'.rs⟩),.inl (by simp only[Sem.run_bind,run,Result.andThen_ok,Sem.run_pure]),?_,?_,⟨λ _ h=>h,hE,hbel,hle,λ x k hx=>?_,λ _ h=>.inl h,λ b _ hne=>a5 b (λ e=>hne s0 l' hl e.symm)⟩⟩
 ·refine .osl s 0 (n+c.length) false ⟨l'.blk,l'.base+lo * l'.rs,l'.rs⟩ A cap (cZ _ _ _) hg hm (λ h=>by cases h) (λ h0=>by rw[hA h0];simp) cs' ee fr a1 ?_;rw[a2];show l'.base+lo * l'.rs+(0+cap) * l'.rs≤cs.size;rw[dV, ←bZ,bR];exact room
 ·refine⟨λ s' blk' hs'=>?_,λ s1 s2 l1 l2 h1 h2 e1 e2 hbb=>?_,λ b hb=>by have:=H.lt b hb;rw[a4];exact this,by rw[a4];exact H.big⟩
  ·by_cases he':s'=s
   ·subst he';rw[cZ]at hs';injection hs' with hs';subst hs';refine⟨⟨l'.blk,l'.base+lo * l'.rs,l'.rs⟩,cs',ee,fr,cZ _ _ _,a1,by rw[a2];exact k3,k4,k5,k6,λ row hrow=>?_,λ i row j a hi hj=>?_⟩
    ·rcases al_List_mem_append.1 hrow with h|h
     ·exact k7 row (eW (cK h))
     ·exact Rc.len row h
    ·suffices hh:∃ u,cs'[l'.base+lo * l'.rs+i * l'.rs+j]?=some u∧u.oneCell'=true∧Rep S (w.setCells l'.blk (l'.base+lo * l'.rs+n * l'.rs) (kI c.length ei.sz uc)) noB a u by
      obtain⟨u,hu,hu2⟩:=hh;exact⟨u,by show cs'[l'.base+lo * l'.rs+i * ei.sz+j]?=_;rw[←k6];exact hu,hu2⟩
     by_cases hin:i<n
     ·rw[cI (by rw[htl];exact hin),cN,if_pos hin,dD]at hi;obtain⟨u,p1,p2,p3⟩:=k8 (lo+i) row j a hi hj;have hjl:j<l'.rs:=by rw[k6, ←k7 row (aB hi)];exact (DK.1 hj).1
      refine⟨u,?_,p2,p3.mono (λ _ h=>h) hE (LT.refl _)⟩;rw[a3,if_neg ?_]
      ·rw[←p1, ←k6];congr 1;rw[bZ];omega
      ·rintro ⟨g1,_⟩;have:=uQ hin hjl;omega
     ·rw[bS (by rw[htl];omega),htl]at hi;have hjl:j<l'.rs:=by rw[k6, ←Rc.len row (aB hi)];exact (DK.1 hj).1
      have hil:i - n<c.length:=(DK.1 hi).1;obtain⟨r1,r2⟩:=Rc.rep _ row j a hi hj;refine⟨uc (i - n) j,?_,r1,r2.mono (λ _ h=>h) hE (LT.refl _)⟩;have e1:i * l'.rs=n * l'.rs+(i - n) * l'.rs:=by rw[←bZ];congr 1;omega
      have hlt:=uQ (rc:=l'.rs) hil hjl;rw[a3,if_pos (by rw[fN, ←k6];omega),show l'.base+lo * l'.rs+i * l'.rs+j - (l'.base+lo * l'.rs+n * l'.rs)=(i - n) * l'.rs+j by omega, ←k6];exact GW _ _ _ hil hjl
   ·rw[cA _ _ he']at hs';by_cases he2:s'=s0
    ·subst he2;rw[cZ]at hs';cases hs'
    ·rw[cA _ _ he2]at hs';obtain⟨l2,cs2,e2,fr2,j1,j2,j3,j4,j5,j6⟩:=H.own s' blk' hs';have hne:l2.blk≠l'.blk:=λ q=>he2 (H.inj s' s0 l2 l' (by rw[hs'];simp) (by rw[h0];simp) j1 hl q);exact⟨l2,cs2,e2,fr2,hle _ _ j1,(a5 _ hne).trans j2,j3,j4,j5,j6.mono (λ _ h=>h) hE hle⟩
  ·have old:∀ s1 l1,s1≠s→upd (upd h s0 none) s (some (.arr ((rows.drop lo).take n++c) ei.sz)) s1≠none→upd β s (some ⟨l'.blk,l'.base+lo * l'.rs,l'.rs⟩) s1=some l1→s1≠s0∧h s1≠none∧β s1=some l1:=by
    intro s1 l1 hn h1 e1;rw[cA _ _ hn]at h1 e1;by_cases he2:s1=s0
    ·rw[he2,cZ]at h1;exact absurd rfl h1
    ·rw[cA _ _ he2]at h1;exact⟨he2,h1,e1⟩
   by_cases n1:s1=s
   ·by_cases n2:s2=s
    ·rw[n1,n2]
    ·subst n1;rw[cZ]at e1;injection e1 with e1;subst e1;obtain⟨b0,b1,b2⟩:=old s2 l2 n2 h2 e2;exact absurd (H.inj s2 s0 l2 l' b1 (by rw[h0];simp) b2 hl hbb.symm) b0
   ·by_cases n2:s2=s
    ·subst n2;rw[cZ]at e2;injection e2 with e2;subst e2;obtain⟨b0,b1,b2⟩:=old s1 l1 n1 h1 e1;exact absurd (H.inj s1 s0 l1 l' b1 (by rw[h0];simp) b2 hl hbb) b0
    ·obtain⟨_,a1',a2'⟩:=old s1 l1 n1 h1 e1;obtain⟨_,b1,b2⟩:=old s2 l2 n2 h2 e2;exact H.inj s1 s2 l1 l2 a1' b1 a2' b2 hbb
 ·by_cases he':x=s
  ·refine .inr ⟨he',.inr ⟨s0,l',hl,?_⟩⟩;subst he';rw[cZ]at hx;injection hx with hx;subst hx;rfl
  ·rw[cA _ _ he']at hx;exact .inl hx
theorem SimH.forget(H:SimH B S w β h)(s0:Nat):SimH B S w β (upd h s0 none):=by
 have old:∀ s1,upd h s0 none s1≠none→h s1≠none:=λ s1 h1=>by
  by_cases he:s1=s0
  ·rw[he,cZ]at h1;exact absurd rfl h1
  ·rwa [cA _ _ he]at h1
 refine⟨λ s' blk hs'=>?_,λ s1 s2 l1 l2 h1 h2 e1 e2 hb=>H.inj s1 s2 l1 l2 (old s1 h1) (old s2 h2) e1 e2 hb,H.lt,H.big⟩;by_cases he:s'=s0
 ·rw[he,cZ]at hs';cases hs'
 ·rw[cA _ _ he]at hs';exact H.own s' blk hs'
theorem Post.forget{r:Result Next}{x:AV}{h':AH}(s0:Nat)(hp:Post B S w β s r x h'):Post B S w β s r x (upd h' s0 none):=
 let ⟨v,w',S',β',a,b,c,d⟩:=hp;⟨v,w',S',β',a,b,c.forget s0,d⟩
theorem KD(hC:CtxOk C)(H:SimH B S w β h){t tx ty e:TypeId}{tk ei:TI}(hte:C.P.underlying t=some (.slice e))(htx:C.ty tx=some tk)(hk:Nn tk.kd=true)(he:C.ty e=some ei)
  {y:AV} {vy:Value} {n cap:Nat} {A:Option Addr} (hy:Rep S w β y vy) (hr:mQ h y=some (ei.sz,[])) (hlk:xB h y) (hc:n≤cap):
  (Builtin.append_ #[t,tx] ty #[.slice A n cap,vy]).run C.P w=.ok (.slice A n cap) w:=by
 obtain⟨uc,Rc,src⟩:=OJ (tk:=tk) H (OK hC htx hk) hy hr hlk;obtain⟨inf,z,i1,i2,i3,i4,i5,i6,i7,i8⟩:=(hC.ty e _ he).info;have hlen:=src.len;have hcells:=src.cells;have hfl:kI ([]:List (List AV)).length ei.sz uc=[]:=by simp[kI]
 rw[hfl]at hcells;simp only[cR]at hlen hcells;rcases src.kind with ⟨e',hk'⟩|hk'<;>cases A<;>simp[Builtin.append_,run_underlying hte,run_underlying hk',sizeOf,typeInfo,i1,i2,hlen,hcells,hc,storeCells]
theorem OL(hC:CtxOk C)(H:SimH B S w β h)(hs:β s=none)(t tx ty:TypeId){x y:AV}{vx vy:Value}(hx:Rep S w β x vx)(hy:Rep S w β y vy):
  zK B S w β h s ((do pure (.value (←Builtin.append_ #[t,tx] ty #[vx,vy])):Sem Next).run C.P w) (bH C h s .append [t,tx] [x,y]):=by
 simp only[bH,qD];split
 ·rename_i e sz ag z by_ eq tk ht htx;have hte:C.P.underlying t=some (.slice e):=(hC.ty t _ ht).kd;split
  ·rename_i ei he;split
   ·rename_i r0 rows0 ra a rc c hk hrc hra;simp only[mQ]at hra;injection hra with hra;injection hra with q1 q2;subst q1;subst q2;split
    ·rename_i e1 e3;have e3:=aK e3;subst e3;rintro ⟨p1,p2,p3,p4⟩
     cases hx with
     |sl _ _ _ A cc b o u hc hm hcl hrs hA hw h1 hr'=>
     have ha:rows0=[]:=bA p1;subst ha;have hcc:=hcl rfl;have hold:(Builtin.firstCells ei.sz 0 (.slice A 0 cc)).run C.P w.drew=.ok (kI 0 ei.sz (λ _ _=>undef)).toArray w.drew:=by
      have:kI 0 ei.sz (λ _ _=>undef)=[]:=by simp[kI]
      rw[this]
      cases A with
      |none=>exact run_firstCells_none w.drew ei.sz 0 0 cc
      |some A=>exact run_firstCells_some w.drew ei.sz 0 A 0 cc [] (by simp) (by simp)
     have:=yD (s:=s) (ti:=⟨.slice e,sz,ag,z,by_,eq⟩) (ra:=0) (rc:=0) hC H hs hte htx hk he (a:=[]) (ua:=λ _ _=>undef) (n:=0) ⟨by simp,by simp⟩ rfl hold hy hrc p4 (by simp at hcc;omega) (by omega) (ty:=ty);simpa using this
    ·rename_i e1 e2 e3;have e2:=aK e2;have e3:=aK e3;subst e3;split
     ·rintro ⟨p3,p4⟩;have hx':=hx
      cases hx with
      |sl _ _ _ A cc b o u' hc hm hcl hrs hA hw h1 hr'=>
      exact⟨_,w,S,β,.inl (by simp only[Sem.run_bind,KD hC H hte htx hk he hy hrc p4 hc,Result.andThen_ok,Sem.run_pure]),hx',H,StepK.refl _ _ _ _ _⟩
     ·rintro ⟨p1,p2,p3,p4⟩;obtain⟨u,R,hl,hf⟩:=Av (C:=C) H hx (rc:=r0) (rows:=rows0) rfl p3
      cases hx with
      |sl _ _ _ A cc b o u' hc hm hcl hrs hA hw h1 hr'=>
      subst e2;have hcc:=hcl rfl;exact yD (s:=s) (ti:=⟨.slice e,sz,ag,z,by_,eq⟩) (ra:=0) (rc:=0) hC H hs hte htx hk he R rfl (hf w.drew (λ _ _=>rfl) _ (aC _)) hy hrc p4 (by omega) (by omega) (ty:=ty)
    ·trivial
   ·rename_i s0 lo len ra a rc c hk hrc hra;split
    ·rename_i e2 e3;have e2:=aK e2;have e3:=aK e3;subst e2;subst e3;rintro ⟨p1,p2,p3,p4⟩;obtain⟨u,R,hl,hf⟩:=Av (C:=C) H hx hra p3
     cases hx with
     |osl _ _ _ _ l A cc hl' hc hm hcl hA cs ee fr hb room=>
     have hcc:=hcl rfl;have hn:a.length=len:=by
      have:=hl w;simp only[Builtin.lenOf,Sem.run_pure]at this;injection this with this _;exact this.symm
     subst hn;exact yD (s:=s) (ti:=⟨.slice e,sz,ag,z,by_,eq⟩) (ra:=0) (rc:=0) hC H hs hte htx hk he R rfl (hf w.drew (λ _ _=>rfl) _ (aC _)) hy hrc p4 (by omega) (by omega) (ty:=ty)
    ·trivial
   ·rename_i s0 lo len ra a rc c hk hrc hra;split
    ·rename_i rows rs h0 e2 e3;have h0:h s0=some (.arr rows rs):=h0;have e2:=aK e2;have e3:=aK e3;subst e2;subst e3;rintro ⟨p1,p2,p4⟩;have p3:xB h (.osl s0 lo len false):=by simp only[xB,h0];omega
     obtain⟨u,R,hl,hf⟩:=Av (C:=C) H hx hra p3;simp only[mQ,h0]at hra;injection hra with hra;injection hra with q1 q2;subst q1;have htl:a.length=len:=by rw[←q2,aN,bD];omega
     have hx':=hx
     cases hx with
     |osl _ _ _ _ l A cap hl' hc hm hcl hA cs ee fr hb room=>
     by_cases hg:len+c.length≤cap
     ·have:=KC (s:=s) hC H hs hte htx hk he (ty:=ty) (vx:=undef) hx' h0 p2 hy hrc p4 hg;rw[q2]at this;rw[htl];exact this
     ·subst htl;have:=(yD (s:=s) (ti:=⟨.slice e,sz,ag,z,by_,eq⟩) (ra:=0) (rc:=0) hC H hs hte htx hk he R rfl (hf w.drew (λ _ _=>rfl) _ (aC _)) hy hrc p4 (by omega) (by omega) (ty:=ty)).forget s0;have hss0:s≠s0:=λ e=>by rw[e,hl']at hs;cases hs
      rw[show upd (upd h s (some (.arr (a++c) ei.sz))) s0 none=upd (upd h s0 none) s (some (.arr (a++c) ei.sz))from by
       funext k;by_cases h1:k=s0
       ·subst h1;rw[cZ,cA _ _ (Ne.symm hss0),cZ]
       ·rw[cA _ _ h1];by_cases h2:k=s
        ·subst h2;rw[cZ,cZ]
        ·rw[cA _ _ h2,cA _ _ h2,cA _ _ h1]]at this
      exact this
    ·trivial
   ·trivial
  ·trivial
 ·trivial
end
end Go.Proofs.YtlhofpglndhfaaaGreatDoor
namespace Go.Proofs.YtlhofpglndhfaaaGreatDoor
open Go.RowKit
section
variable {C:Ctx}{S:Nat→Prop}{w w':World}{β:Bt}{B:Nat}{h:AH}{s:Nat}
theorem Vf(hC:CtxOk C)(H:SimH B S w β h)(ts:List TypeId)(ty:TypeId){x y:AV}{vx vy:Value}(hx:Rep S w β x vx)(hy:Rep S w β y vy):
  zK B S w β h s ((do pure (.value (←Builtin.copy_ ts.toArray ty #[vx,vy])):Sem Next).run C.P w) (DY C h ts x y):=by
 unfold DY;split
 ·trivial
 ·rename_i t rest;split
  ·rename_i e sz ag z by_ eq ht;have hte:C.P.underlying t=some (.slice e):=(hC.ty t _ ht).kd;split
   ·rename_i ei s0 lo len clip he;split
    ·rename_i rows rs rc c h0 hrc;split
     ·rename_i e1 e2;have e1:=aK e1;have e2:=aK e2;subst e1;subst e2;rintro ⟨p1,p2⟩;obtain⟨u,R,hlen,hf⟩:=Av (C:=C) H hy hrc p2;obtain⟨l,cs,ee,fr,k1,k2,k3,k4,k5,k6,k7,k8⟩:=H.own s0 _ h0
      cases hx with
      |osl _ _ _ _ l' A cap hl hc hm hcl hA cs' e' fr' hb room=>
      obtain rfl:l'=l:=by rw[hl]at k1;exact Option.some.inj k1
      rw[k2]at hb;injection hb with hb;injection hb with q1 q2 q3;subst q1;subst q2;subst q3;have hn:min c.length len≤c.length:=Nat.min_le_left _ _;have hn2:min c.length len≤len:=fC _ _;have hfirst:=hf w (λ _ _=>rfl) (min c.length len) hn;have fit:l'.base+lo * l'.rs+(kI (min c.length len) ei.sz u).length≤cs.size:=by
       rw[fN, ←k6,dV, ←bZ];exact aL (oL (eI _ (by omega)) _) room
      have hone:∀ x∈kI (min c.length len) ei.sz u,x.oneCell'=true:=by
       intro x hx;simp only[kI,sF,mZ]at hx;obtain⟨k,hk,rfl⟩:=hx;have h0':0<ei.sz:=eX λ e=>by rw[e]at hk;simp at hk
       have hi:k / ei.sz<c.length:=Nat.lt_of_lt_of_le (jD (by rw[lE];exact hk)) hn;have hr:c[k / ei.sz]?=some c[k / ei.sz]:=aA hi;have hj:k % ei.sz<c[k / ei.sz].length:=by rw[R.len _ (aB hr)];exact aY _ h0'
       exact (R.rep _ _ _ _ hr (aA hj)).1
      have run:(Builtin.copy_ (t::rest).toArray ty #[.slice A len cap,vy]).run C.P w=.ok (.int .i64 ((min c.length len:Nat):Int)) (w.setCells l'.blk (l'.base+lo * l'.rs) (kI (min c.length len) ei.sz u)):=by
       have hst:∀ a,A=some a→(storeCells a (kI (min c.length len) ei.sz u)).run C.P w=.ok () (w.setCells l'.blk (l'.base+lo * l'.rs) (kI (min c.length len) ei.sz u)):=by
        intro a ha;rcases al_Nat_eq_zero_or_pos cap with hc0|hc0
        ·have:min c.length len=0:=by omega
         rw[this];simp[kI,storeCells,World.setCells]
        ·rw[hA hc0]at ha;injection ha with ha;subst ha;have:=run_storeCells_cells (P:=C.P) l'.blk (l'.base+lo * l'.rs) (kI (min c.length len) ei.sz u) 0 w (λ j hj=>by rw[gQ k2,aO (by omega)];rfl) (λ j hj=>uS k2 k3 _ (by omega)) hone;simpa using this
       have hnone:A=none→min c.length len=0:=λ ha=>by
        rcases al_Nat_eq_zero_or_pos cap with hc0|hc0
        ·omega
        ·rw[hA hc0]at ha;cases ha
       cases A with
       |none=>
        have hz:=hnone rfl;rw[hz]at hfirst⊢;have hz':Nat.min c.length len=0:=hz;simp only[Builtin.copy_,dY,cJ,dC,Sem.run_bind,run_underlying hte,Result.andThen_ok,hlen,Ax hC he,hz',hfirst,Sem.run_pure,goInt]
        simp[kI,World.setCells]
       |some a=>
        have hmin:Nat.min c.length len=min c.length len:=rfl;simp only[Builtin.copy_,dY,cJ,dC,Sem.run_bind,run_underlying hte,Result.andThen_ok,hlen,Ax hC he,hmin,hfirst,hst a rfl,Sem.run_pure,goInt]
      have hrow:∀ (i:Nat) row,(rows.take lo++c.take (min c.length len)++rows.drop (lo+min c.length len))[i]?=some row→(lo≤i∧i<lo+min c.length len∧c[i - lo]?=some row)∨(¬ (lo≤i∧i<lo+min c.length len)∧rows[i]?=some row):=by
       intro i row hi;have h1:(rows.take lo).length=lo:=by rw[aN];omega
       have h2:(c.take (min c.length len)).length=min c.length len:=by rw[aN];omega
       by_cases g1:i<lo
       ·rw[fG,cI (by omega),cN,if_pos g1]at hi;exact .inr ⟨by omega,hi⟩
       ·by_cases g2:i<lo+min c.length len
        ·rw[fG,bS (by omega),cI (by omega),cN,h1,if_pos (by omega)]at hi;exact .inl ⟨by omega,g2,hi⟩
        ·rw[bS (by rw[aR];omega),dD,aR,h1,h2]at hi;refine .inr ⟨by omega,?_⟩;rw[←hi];congr 1;omega
      obtain⟨r1,r2⟩:=Dz (s:=s) H h0 hl k2 k4 (kI (min c.length len) ei.sz u) (l'.base+lo * l'.rs) fit (blk:=.arr (rows.take lo++c.take (min c.length len)++rows.drop (lo+min c.length len)) ei.sz) (λ w' cs' hE hget=>by
       refine⟨k6,λ row hr=>?_,λ i row j a hi hj=>?_⟩
       ·obtain⟨i,hi⟩:=List.mem_iff_getElem?.1 hr;rcases hrow i row hi with ⟨_,_,hh⟩|⟨_,hh⟩
        ·exact R.len row (aB hh)
        ·exact k7 row (aB hh)
       ·rw [←k6];rcases hrow i row hi with ⟨g1,g2,hh⟩|⟨g1,hh⟩
        ·have hjl:j<l'.rs:=by rw[k6, ←R.len row (aB hh)];exact (DK.1 hj).1
         obtain⟨t1,t2⟩:=R.rep _ row j a hh hj;refine⟨u (i - lo) j,?_,t1,t2.mono (λ _ h=>h) hE (LT.refl _)⟩;have hlt:=uQ (rc:=l'.rs) (by omega:i - lo<min c.length len) hjl;have e1:i * l'.rs=lo * l'.rs+(i - lo) * l'.rs:=by rw[←bZ];congr 1;omega
         rw[hget,if_pos (by rw[fN, ←k6];omega),show l'.base+i * l'.rs+j - (l'.base+lo * l'.rs)=(i - lo) * l'.rs+j by omega, ←k6];exact GW _ _ _ (by omega) hjl
        ·have hjl:j<l'.rs:=by rw[k6, ←k7 row (aB hh)];exact (DK.1 hj).1
         obtain⟨v,t0,t1,t2⟩:=k8 i row j a hh hj;rw[←k6]at t0;refine⟨v,?_,t1,t2.mono (λ _ h=>h) hE (LT.refl _)⟩;rw[hget,if_neg ?_]
         ·exact t0
         ·rw[fN, ←k6];rintro ⟨q1,q2⟩;by_cases g2:i<lo
          ·have:=uQ g2 hjl;omega
          ·have g3:lo+min c.length len≤i:=by omega
           have:(lo+min c.length len) * l'.rs≤i * l'.rs:=eI _ g3;rw[bZ]at this;omega)
      exact⟨_,_,S,β,.inl (by simp only[Sem.run_bind,run,Result.andThen_ok,Sem.run_pure]),.v _,r1,r2⟩
     ·trivial
    ·trivial
   ·trivial
  ·trivial
end
end Go.Proofs.YtlhofpglndhfaaaGreatDoor
namespace Go.Proofs.YtlhofpglndhfaaaGreatDoor
open Go.RowKit
section
variable {C:Ctx}{S:Nat→Prop}{w w':World}{β:Bt}{B:Nat}{h:AH}{s:Nat}
theorem Vg(hC:CtxOk C)(H:SimH B S w β h)(hs:β s=none){t e:TypeId}{ei:TI}(hte:C.P.underlying t=some (.slice e))(he:C.ty e=some ei){z:List AV}(hz:kO ei.zero=some z)(hcz:gE z=true)(kl kc:IntKind)(l c:Int)(h0:0≤l)(h1:l≤c)(h2:c≤oZ):
  Post B S w β s ((do pure (.value (←Instr.makeSlice t (.int kl l) (.int kc c))):Sem Next).run C.P w) (.osl s 0 l.toNat false) (upd h s (some (.arr (List.replicate l.toNat z) z.length))):=by
 obtain⟨inf,zv,i1,i2,i3,i4,i5,i6,i7,i8⟩:=Cs (S:=S) (w:=w) (β:=β) hC he hz;have hzl:z.length=ei.sz:=by rw[i4.rep.1, ←i5];simp
 have hcap:c≤1000000:=h2;have hb:(inf.bytes:Int) * c≤281474976710656:=by
  have e1:(inf.bytes:Int)≤1000:=by rw[i6];omega
  have:(inf.bytes:Int) * c≤1000 * 1000000:=Int.mul_le_mul e1 hcap (by omega) (by omega);omega
 have run:=run_make (P:=C.P) w t e inf zv hte i1 i3 kl kc l c h0 h1 hb (by omega);have hw:(w.alloc (.cells (madeCells zv.cells (c.toNat * inf.size)) e)).heap=w.heap.push (.cells (madeCells zv.cells (c.toNat * inf.size)) e):=rfl;have hle:LT β (upd β s (some ⟨w.heap.size,0,z.length⟩)):=LT.upd hs _;have hE:Evo S w (w.alloc (.cells (madeCells zv.cells (c.toNat * inf.size)) e)):=Evo.of_kept (λ b hb=>iH hw hb) H.lt;obtain⟨p1,p2⟩:=Au H hs hw (λ o _=>by simp) ((Below.refl B w).alloc H.big _) (l:=⟨w.heap.size,0,z.length⟩) (blk:=.arr (List.replicate l.toNat z) z.length) rfl ⟨rfl,λ row hr=>by rw[(List.mem_replicate.1 hr).2],λ i row j a hi hj=>by
  have hil:i<l.toNat:=by have:=(DK.1 hi).1;simpa using this
  rw[lM,if_pos hil]at hi;injection hi with hi;subst hi;have hjl:j<z.length:=(DK.1 hj).1;have hjv:j<zv.cells.toList.length:=by rw[←i4.rep.1];exact hjl
  have hjz:zv.cells.toList[j]?=some zv.cells.toList[j]:=aA hjv;refine⟨zv.cells.toList[j],?_,i4.one j _ hjz,lO ((i4.rep.2 j a _ hj hjz).mono (λ _ h=>h) hE hle) (fY z hcz j a hj) _⟩;have hlt:i * z.length+j<c.toNat * inf.size:=by rw[i2, ←hzl];exact uQ (by omega) hjl
  rw[bR];simp only[madeCells,pH];rw[show (Array.range (c.toNat * inf.size))[i * z.length+j]?=some (i * z.length+j) by simp[hlt],dI,i5, ←hzl,(OI hjl).2];congr 1;have:j<zv.cells.size:=by simpa using hjv
  rw[getElem!_pos zv.cells j this];rfl⟩
 refine⟨.slice (some ⟨w.heap.size,0,none⟩) l.toNat c.toNat,_,S,_,.inl (by simp only[Sem.run_bind,run,Result.andThen_ok,Sem.run_pure]),?_,p1,p2⟩;refine .osl s 0 l.toNat false ⟨w.heap.size,0,z.length⟩ _ c.toNat (cZ _ _ _) (by omega) (by unfold maxLen;omega) (λ h=>by cases h) (λ _=>by simp) _ e _ (rI hw) ?_;show 0+(0+c.toNat) * z.length≤_;rw[size_madeCells,i2,hzl,bR,bR];exact aC _
theorem KE(hC:CtxOk C)(H:SimH B S w β h)(hs:β s=none){src dst e:TypeId}(hsrc:C.P.underlying src=some .string)(hdst:C.P.underlying dst=some (.slice e))(he:C.P.underlying e=some (.int .u8))(b:ByteArray)(hb:b.size≤oZ):
  Post B S w β s ((do pure (.value (←convert src dst (.string b))):Sem Next).run C.P w) (.osl s 0 b.size false) (upd h s (some (.arr (bY b) 1))):=by
 have run:=run_bytes_of_string (P:=C.P) w src dst e b hsrc hdst he;have hcap:b.size≤1000000:=hb;have hge:=grownCap_ge w b.size 0 e;have hm:grownCap w b.size 0 e≤maxLen:=grownCap_le_maxLen _ _ _ _ (by unfold maxLen;omega);have hsz:(bytesRow b (grownCap w b.size 0 e)).size=grownCap w b.size 0 e:=by
  have:b.data.size=b.size:=rfl;simp[bytesRow,this];omega
 have hw:(w.drew.alloc (.cells (bytesRow b (grownCap w b.size 0 e)) e ((bytesRow b (grownCap w b.size 0 e)).size,(bytesRow b (grownCap w b.size 0 e)).size+1))).heap=w.heap.push (.cells (bytesRow b (grownCap w b.size 0 e)) e ((bytesRow b (grownCap w b.size 0 e)).size,(bytesRow b (grownCap w b.size 0 e)).size+1)):=rfl;have hlen:(bY b).length=b.size:=by simp[bY]
 obtain⟨p1,p2⟩:=Au H hs hw (λ o ho=>by simp;omega) ((Below.refl B w).drew.alloc H.big _) (l:=⟨w.heap.size,0,1⟩) (blk:=.arr (bY b) 1) rfl ⟨rfl,λ row hr=>by
   simp only[bY,sF]at hr;obtain⟨x,_,rfl⟩:=hr;rfl,λ i row j a hi hj=>by
  have hil:i<b.size:=by rw[←hlen];exact (DK.1 hi).1
  simp only[bY,aZ]at hi;obtain⟨x,hx,rfl⟩:=wV.1 hi
  cases j with
  |succ j=>simp at hj
  |zero=>
   simp only[cJ,Option.some.injEq]at hj;subst hj;refine⟨.int .u8 x.toNat,?_,rfl,.v _⟩;rw[bF]at hx;have hbd:b.data.size=b.size:=rfl;simp only[bytesRow,bR,iX,jA];rw[dN (by simp;omega),pH,hx];rfl⟩
 refine⟨.slice (some ⟨w.heap.size,0,none⟩) b.size (grownCap w b.size 0 e),_,S,_,.inl (by simp only[Sem.run_bind,run,Result.andThen_ok,Sem.run_pure]),?_,p1,p2⟩;refine .osl s 0 b.size false ⟨w.heap.size,0,1⟩ _ _ (cZ _ _ _) hge hm (λ h=>by cases h) (λ _=>by simp) _ e _ (rI hw) ?_;show 0+(0+grownCap w b.size 0 e) * 1≤_;rw[hsz];omega
theorem CM:∀ (rows:List (List AV)) (l:List UInt8),iJ rows=some l→∃ ns:List Int,rows=ns.map (λ n=>[.v (.int .u8 n)])∧l=ns.map (λ n=>UInt8.ofNat n.toNat)
 |[],l,h=>by simp only[iJ]at h;injection h with h;subst h;exact⟨[],rfl,rfl⟩
 | r::rows,l,h=>by
  unfold iJ at h;split at h
  ·rename_i he;cases he
  ·rename_i n rs he;injection he with e1 e2;subst e1;subst e2;split at h
   ·rename_i l' hl';injection h with h;subst h;obtain⟨ns,h1,h2⟩:=CM rows l' hl';exact⟨n::ns,by rw[h1];rfl,by rw[h2];rfl⟩
   ·cases h
  ·cases h
theorem FR:∀ (ns:List Int) (r:ByteArray),ns.foldl (λ r n=>r.push (UInt8.ofNat n.toNat)) r=⟨r.data++(ns.map λ n=>UInt8.ofNat n.toNat).toArray⟩
 |[],r=>by simp
 |n::ns,r=>by
  simp only[oV,gO];rw[FR ns];simp[ByteArray.push]
theorem KF(hC:CtxOk C)(H:SimH B S w β h){src dst e:TypeId}(hsrc:C.P.underlying src=some (.slice e))(hdst:C.P.underlying dst=some .string)(he:C.P.underlying e=some (.int .u8)){x:AV}{vx:Value}{rc:Nat}{rows:List (List AV)}
  (hx:Rep S w β x vx) (hns:∀ b,x≠ .v (.string b)) (hr:mQ h x=some (rc,rows)) (hlk:xB h x) (l:List UInt8) (hl:iJ rows=some l):Yld C.P S w β (.v (.string ⟨l.toArray⟩)) (convert src dst vx):=by
 obtain⟨u,R,hlen,hf⟩:=Av (C:=C) H hx hr hlk;obtain⟨ns,e1,e2⟩:=CM rows l hl;obtain⟨A,c,hv⟩:∃ A c,vx=.slice A rows.length c:=by
  have hl':=hlen w
  cases hx with
  |v=>cases vx<;>first|exact absurd rfl (hns _)|(simp[mQ]at hr;done)
  |sl rs rows' clip A c b o u hc hm hcl hrs hA hw h1 hr'=>
   simp only[mQ]at hr;injection hr with hr;injection hr with q1 q2;subst q2
   exact⟨A,c,rfl⟩
  |osl s0 lo len clip l A c hl hc hm hcl hA cs e fr hb room=>
   simp only[Builtin.lenOf,Sem.run_pure]at hl';injection hl' with hl' _
   exact⟨A,c,by rw[hl']⟩
  |_=>simp only[mQ]at hr;cases hr
 subst hv;refine⟨_,?_,.v _⟩;rw[run_convert_bytes_string w src dst e A rows.length c hsrc he hdst];have hrc:0<rows.length→rc=1:=λ h0=>by
  obtain⟨row,hrow⟩:=List.exists_mem_of_length_pos h0;rw[←R.len row hrow];rw[e1]at hrow;obtain⟨n,_,rfl⟩:=sF.1 hrow;rfl
 have hu:∀ i,i<rows.length→u i 0=.int .u8 (ns.getD i 0):=λ i hi=>by
  have hn:i<ns.length:=by rw[e1]at hi;simpa using hi
  have hrow:rows[i]?=some [.v (.int .u8 (ns.getD i 0))]:=by
   rw[e1,aZ,aA hn,bC,aA hn];rfl
  exact (lH (R.rep i _ 0 _ hrow rfl).2)
 have hnl:ns.length=rows.length:=by rw[e1];simp
 cases A with
 | none=>
  have h0:rows.length=0:=by
   rcases al_Nat_eq_zero_or_pos rows.length with h|h
   ·exact h
   ·have:=hf w (λ _ _=>rfl) rows.length (aC _);rw[run_firstCells_none]at this;injection this with this _;have h2:=congrArg Array.size this;rw[hrc h]at h2;simp[fN]at h2;omega
  have:ns=[]:=bA (by omega);subst this;subst e2
  rfl
 | some a=>
  have hload:(loadCells a rows.length).run C.P w=.ok (ns.map (Value.int .u8)).toArray w:=by
   rcases al_Nat_eq_zero_or_pos rows.length with h|h
   ·have:ns=[]:=bA (by omega);subst this;rw[h];rfl
   ·have:=hf w (λ _ _=>rfl) rows.length (aC _);rw[hrc h]at this;simp only[Builtin.firstCells,iX]at this;rw[this];congr 2;apply dL;intro k;by_cases hk:k<rows.length
    ·rw[uP _ _ _ _ (by omega),tM,Nat.mod_one,hu k hk,aZ,aA (by omega),bC,aA (by omega)];rfl
    ·rw[bM (by rw[fN];omega),bM (by simp;omega)]
  rw[run_bytesToString w a rows.length c ns hload,FR,e2];have he0:ByteArray.empty.data= #[]:=rfl;rw[he0];simp
theorem KG:∀ (n:Nat) (cs l:List AV),n+cs.length≤l.length→zM n cs l=l.take n++cs++l.drop (n+cs.length)
 |0,[],l,_=>by simp[zM]
 |0,c::cs,x::l,h=>by simp[zM,KG 0 cs l (by simp at h;omega)]
 |0,c::cs,[],h=>by simp at h
 |n+1,cs,x::l,h=>by
  simp only[zM,KG n cs l (by simp at h;omega),oK,nV,fG]
  rw[show n+1+cs.length=(n+cs.length)+1 by omega,List.drop_succ_cons]
 |n+1,cs,[],h=>by simp at h
theorem FT(sz:Nat):∀ (ps:List (Nat×AV)) (k:Nat) (rows:List (List AV)) (cells:List AV),Fl sz k ps=some rows→cells.length=(k+rows.length) * sz→
  Hl C (λ i=>some (i * sz,sz)) cells ps=some (cells.take (k * sz)++rows.flatten)
 |[],k,rows,cells,h,hl=>by
  simp only[Fl]at h;injection h with h;subst h;simp only[Hl,List.flatten_nil,dZ]
  rw[aM (by rw[hl];simp)]
 | (i,x)::ps,k,rows,cells,h,hl=>by
  simp only[Fl]at h;split at h
  ·rename_i cs rows' h1 h2 h3;split at h
   ·rename_i h4 h5;injection h with h;subst h;have h1:=aK h1;subst h1;have h4:=aK h4;subst h4;simp only[bJ]at hl;have e1:i * cs.length+cs.length≤cells.length:=by
     rw[hl];have:(i+1) * cs.length≤(i+(rows'.length+1)) * cs.length:=eI _ (by omega);rw[bZ,kP]at this;exact this
    have hp:=KG (i * cs.length) cs cells e1;have hpl:=uR (i * cs.length) cs cells e1;have ih:=FT cs.length ps (i+1) rows' (zM (i * cs.length) cs cells) h3 (by rw[hpl,hl];congr 1;omega);simp only[Hl,h2];rw[show Nat.beq cs.length cs.length=true from mY _,show Nat.ble (i * cs.length+cs.length) cells.length=true from jY e1];simp only;rw[ih,hp];congr 1;have ht:(cells.take (i * cs.length)).length=i * cs.length:=by rw[aN];omega
    rw[List.take_append_of_le_length (by rw[aR,ht,bZ,kP];exact aC _),aM (by rw[aR,ht,bZ,kP];exact aC _)];simp
   ·cases h
  ·cases h
theorem DU{sz:Nat}:∀ (rows:List (List AV)),(∀ row∈rows,row.length=sz)→∀ (i:Nat) row (j:Nat) a,rows[i]?=some row→row[j]?=some a→rows.flatten[i * sz+j]?=some a
 |[],_,i,row,j,a,h,_=>by simp at h
 |r::rows,hl,0,row,j,a,h,hj=>by
  simp only[cJ,Option.some.injEq]at h;subst h;rw[mM,Nat.zero_mul,bR,cI (DK.1 hj).1]
  exact hj
 |r::rows,hl,i+1,row,j,a,h,hj=>by
  have hr:r.length=sz:=hl r (al_List_mem_cons_self);rw[mM,bS (by rw[hr,bZ];omega),hr,show (i+1) * sz+j - sz=i * sz+j by rw[bZ];omega];exact DU rows (λ row hrow=>hl row (bE _ hrow)) i row j a (by simpa using h) hj
theorem FU(sz:Nat):∀ (ps:List (Nat×AV)) (k:Nat) (rows:List (List AV)),Fl sz k ps=some rows→∀ row∈rows,row.length=sz∧gE row=true
 |[],k,rows,h,row,hr=>by
  simp only[Fl]at h;injection h with h;subst h
  cases hr
 | (i,x)::ps,k,rows,h,row,hr=>by
  simp only[Fl]at h;split at h
  ·rename_i cs rows' h1 h2 h3;split at h
   ·rename_i h4 h5;injection h with h;subst h;rcases al_List_mem_cons.1 hr with rfl|hr
    ·exact⟨aK h4,h5⟩
    ·exact FU sz ps (k+1) rows' h3 row hr
   ·cases h
  ·cases h
theorem GX(hC:CtxOk C)(H:SimH B S w β h){t e:TypeId}{ei:TI}(hte:C.P.underlying t=some (.slice e))(he:C.ty e=some ei)(ps:List (Nat×AV))(qs:Array (Nat×Value))(hq:DW S w β ps qs.toList){rows:List (List AV)}(hr:Fl ei.sz 0 ps=some rows)
  {len:Nat} (hl:rows.length=len) (h0:0<len) (hb:len * ei.sz≤16777216):Post B S w β s ((do pure (.value (←Instr.buildSlice t len qs)):Sem Next).run C.P w) (.sl ei.sz rows true) h:=by
 obtain⟨inf,z,i1,i2,i3,i4,i5,i6,i7,i8⟩:=(hC.ty e _ he).info;have hz:CellL S w β (List.replicate (len * ei.sz) AV.any) ((Array.range (len * ei.sz)).map (z.cells[· % z.cells.size]!)).toList:=by
  have hone:∀ (i:Nat) u,z.cells[i]?=some u→u.oneCell'=true:=(hC.ty e _ he).one inf z i1 i4;refine⟨⟨by simp,λ i a u p q=>by
   rw[lM]at p;split at p
   ·injection p with p;subst p;exact .any _
   ·cases p⟩,λ i u hu=>?_⟩
  simp only[bF,pH]at hu;obtain⟨k,hk,rfl⟩:=wV.1 hu;have hlt:k % z.cells.size<z.cells.size:=aY _ (by omega);rw[getElem!_pos z.cells _ hlt];exact hone _ _ (aO hlt)
 obtain⟨vr,g1,g2⟩:=Hg (C:=C) (pv:=λ i=>some (i * ei.sz,ei.sz)) (λ i x hx=>hx) ps qs.toList _ _ _ hq hz (FT ei.sz ps 0 rows _ hr (by rw[cQ,hl,bR]));have hpos: ¬ len * ei.sz=0:=Nat.ne_of_gt (Nat.mul_pos h0 i7);have run:=run_buildSlice (P:=C.P) w t e len qs vr inf z hte i1 i4 (by rw[i2];omega) (by rw[i2];exact hpos) (by rw[i2];exact g1);have hw:(w.alloc (.cells vr e)).heap=w.heap.push (.cells vr e):=rfl;have hE:Evo S w (w.alloc (.cells vr e)):=Evo.of_kept (λ b hb=>iH hw hb) H.lt;have spec:=FU ei.sz ps 0 rows hr;have g2':CellL S w β rows.flatten vr.toList:=by simpa using g2
 have hS:∀ b,S b→S b∨b=w.heap.size:=λ b hb=>.inl hb;have cell:∀ (i:Nat) row (j:Nat) a,rows[i]?=some row→row[j]?=some a→∃ u,vr[i * ei.sz+j]?=some u∧u.oneCell'=true∧Rep S w β a u:=by
  intro i row j a hi hj;have hf:=DU rows (λ r hr=>(spec r hr).1) i row j a hi hj;have hlt:i * ei.sz+j<vr.toList.length:=by rw[←g2'.rep.1];exact (DK.1 hf).1
  exact⟨vr.toList[i * ei.sz+j],by rw[←bF,aA hlt],g2'.one _ _ (aA hlt),g2'.rep.2 _ _ _ hf (aA hlt)⟩
 refine⟨.slice (some ⟨w.heap.size,0,none⟩) len len,_,(λ b=>S b∨b=w.heap.size),β,.inl (by simp only[Sem.run_bind,run,Result.andThen_ok,Sem.run_pure]),?_,?_,⟨hS,hE,(Below.refl B w).alloc H.big _,LT.refl _,λ _ _ hx=>.inl hx,λ b hb=>hb.imp id λ e=>⟨by rw[e];exact H.big,.inl (by rw[e];exact aC _)⟩,λ b hb _=>iH hw hb⟩⟩
 ·have hm:len≤maxLen:=by
   have:len * 1≤len * ei.sz:=Nat.mul_le_mul_left _ i7;unfold maxLen;omega
  rw[←hl];refine .sl ei.sz rows true _ rows.length w.heap.size 0 (λ i j=>if i<rows.length∧j<ei.sz then vr.getD (i * ei.sz+j) (.bool false)else .bool false) (aC _) (by rw[hl];exact hm) (λ _=>rfl) (λ row hrow=>(spec row hrow).1) (λ _=>⟨rfl,.inr rfl⟩) (λ i row j a hi hj=>?_) (λ i j=>?_) λ i row j a hi hj=>?_
  ·obtain⟨u,k1,k2,k3⟩:=cell i row j a hi hj;have hil:=(DK.1 hi).1;have hjl:j<ei.sz:=by rw[←(spec row (aB hi)).1];exact (DK.1 hj).1
   rw[if_pos ⟨hil,hjl⟩,gQ (rI hw),bR,aI,k1];rfl
  ·show (if i<rows.length∧j<ei.sz then vr.getD (i * ei.sz+j) (.bool false)else .bool false).oneCell'=true;by_cases hc:i<rows.length∧j<ei.sz
   ·have hrow:rows[i]?=some rows[i]:=aA hc.1;have hjl:j<rows[i].length:=by rw[(spec _ (aB hrow)).1];exact hc.2
    obtain⟨u,k1,k2,k3⟩:=cell i _ j _ hrow (aA hjl);rw[if_pos hc,aI,k1];exact k2
   ·rw[if_neg hc];rfl
  ·obtain⟨u,k1,k2,k3⟩:=cell i row j a hi hj;have hil:=(DK.1 hi).1;have hjl:j<ei.sz:=by rw[←(spec row (aB hi)).1];exact (DK.1 hj).1
   rw[if_pos ⟨hil,hjl⟩,aI,k1];exact lO (k3.mono hS hE (LT.refl _)) (fY row (spec row (aB hi)).2 j a hj) noB
 ·have hsz:(w.alloc (.cells vr e)).heap.size=w.heap.size+1:=by rw[hw];simp
  refine⟨λ s' blk' hs'=>?_,H.inj,λ b hb=>?_,by rw[hsz];have:=H.big;omega⟩
  ·obtain⟨l',cs',e',fr',k1,k2,k3,k4,k5,k6⟩:=H.own s' blk' hs';refine⟨l',cs',e',fr',k1,(iH hw (fP k2)).trans k2,k3,k4,λ hb=>?_,k6.mono hS hE (LT.refl _)⟩;rcases hb with hb|hb
   ·exact k5 hb
   ·have:=fP k2;omega
  ·rw[hsz];rcases hb with hb|hb
   ·have:=H.lt b hb;omega
   ·omega
theorem Fi(hC:CtxOk C)(H:SimH B S w β h){t e:TypeId}{ei:TI}(hte:C.P.underlying t=some (.slice e))(he:C.ty e=some ei)(qs:Array (Nat×Value))(hq:qs.toList=[]):
  Post B S w β s ((do pure (.value (←Instr.buildSlice t 0 qs)):Sem Next).run C.P w) (.sl ei.sz [] true) h:=by
 obtain⟨inf,z,i1,i2,i3,i4,i5,i6,i7,i8⟩:=(hC.ty e _ he).info;have run:(Instr.buildSlice t 0 qs).run C.P w=.ok (.slice (some ⟨w.heap.size,0,none⟩) 0 0) (w.alloc (.cells #[] e)):=by
  have hr:Array.range 0= #[]:=rfl;unfold Instr.buildSlice;simp[run_underlying hte,sizeOf,typeInfo,i1,hq,hr,Instr.fill,newRow,newObj,Sem.run_bind,Result.andThen];rfl
 have hw:(w.alloc (.cells #[] e)).heap=w.heap.push (.cells #[] e):=rfl;have hE:Evo S w (w.alloc (.cells #[] e)):=Evo.of_kept (λ b hb=>iH hw hb) H.lt;refine⟨.slice (some ⟨w.heap.size,0,none⟩) 0 0,_,S,β,.inl (by simp only[Sem.run_bind,run,Result.andThen_ok,Sem.run_pure]),?_,?_,⟨λ _ h=>h,hE,(Below.refl B w).alloc H.big _,LT.refl _,λ _ _ hx=>.inl hx,λ b hb=>.inl hb,λ b hb _=>iH hw hb⟩⟩
 ·exact .sl ei.sz [] true _ 0 0 0 (λ _ _=>.bool false) (by simp) (by simp) (λ _=>rfl) (λ _ h=>by simp at h) (λ h=>by simp at h) (λ i row j a h=>by simp at h) (λ _ _=>rfl) (λ i row j a h=>by simp at h)
 ·have hsz:(w.alloc (.cells #[] e)).heap.size=w.heap.size+1:=by rw[hw];simp
  refine⟨λ s' blk' hs'=>?_,H.inj,λ b hb=>?_,by rw[hsz];have:=H.big;omega⟩
  ·obtain⟨l',cs',e',fr',k1,k2,k3,k4,k5,k6⟩:=H.own s' blk' hs';exact⟨l',cs',e',fr',k1,(iH hw (fP k2)).trans k2,k3,k4,k5,k6.mono (λ _ h=>h) hE (LT.refl _)⟩
  ·have:=H.lt b hb;rw[hsz];omega
end
section
variable {C:Ctx}{V:Inv C.fr}{S:Nat→Prop}{w w':World}{β:Bt}{B:Nat}{h:AH}{s:Nat}
theorem RepL.of_map{ev:Operand→AV}{ρ:Operand→Value}:∀ (l:List Operand),(∀ x∈l,Rep S w β (ev x) (ρ x))→RepL S w β (l.map ev) (l.map ρ)
 |[],_=>RepL.nil _ _ _
 |x::l,H=>RepL.cons (H x (al_List_mem_cons_self)) (RepL.of_map l λ y hy=>H y (bE _ hy))
theorem RepL.append{a b:List AV}{u v:List Value}(h:RepL S w β a u)(k:RepL S w β b v):RepL S w β (a++b) (u++v):=by
 refine⟨by simp[h.1,k.1],λ i x y p q=>?_⟩;by_cases hi:i<a.length
 ·rw[cI hi]at p;rw[cI (by rw[←h.1];exact hi)]at q;exact h.2 i x y p q
 ·rw[bS (by omega)]at p;rw[bS (by rw[←h.1];omega)]at q;exact k.2 _ x y p (by rw[h.1];exact q)
theorem DW.of_map{ev:Operand→AV}{ρ:Operand→Value}:∀ (l:List (Nat×Operand)),(∀ x∈l,Rep S w β (ev x.2) (ρ x.2))→DW S w β (l.map λ p=>(p.1,ev p.2)) (l.map λ p=>(p.1,ρ p.2))
 |[],_=>trivial
 |x::l,H=>⟨rfl,H x (al_List_mem_cons_self),DW.of_map l λ y hy=>H y (bE _ hy)⟩
def LP(P:Program)(B:Nat)(S:Nat→Prop)(w:World)(β:Bt)(h:AH)(s:Nat)(m:Sem Next):Res→Prop
 | .call f args=>∃ vs,RepL S w β args vs∧m.run P w=(callFunc f vs.toArray).run P w
 |r=>zK B S w β h s (m.run P w) r
theorem LP.of{P:Program}{m:Sem Next}{r:Res}(hr:zK B S w β h s (m.run P w) r):LP P B S w β h s m r:=by
 cases r<;>first|exact hr|exact hr.elim
theorem LQ(hC:CtxOk C)(H:SimH B S w β h)(hs:β s=none)(ev:Operand→AV)(ρ:Operand→Value)(o:Oper)(hev:∀ x∈o.op.operands,Rep S w β (ev x) (ρ x))(hρ:∀ v,ρ (.const v)=v):
  LP C.P B S w β h s (execOp ρ o) (opA C ev h s o.op):=by
 obtain⟨dst,op,type,pos,after,guard⟩:=o;cases op<;>simp only[opA]<;>simp only[Op.operands]at hev<;>try (exact trivial)
 case move x=>exact⟨_,_,S,β,.inl rfl,hev x (by simp),H,StepK.refl _ _ _ _ _⟩
 case assign x=>exact⟨_,_,S,β,.inl rfl,hev x (by simp),H,StepK.refl _ _ _ _ _⟩
 case pick c a b=>
  have:=(Vh (P:=C.P) (hev c (by simp)) (hev a (by simp)) (hev b (by simp))).post (s:=s) H;exact LP.of (by simpa only[execOp,bind_pure_comp,Functor.map_map]using this)
 case alloc t=>
  split
  ·rename_i cs hcs;simp only[Ay]at hcs;split at hcs
   ·rename_i i hi;exact λ _=>RS hC H hs t hi hcs
   ·cases hcs
  ·trivial
 case box t x=>
  split
  ·rename_i cs hcs;exact λ _=>Uk (C:=C) H hs t (hev x (by simp)) hcs
  ·trivial
 case build t parts=>
  have hq:DW S w β (parts.toList.map λ p=>(p.1,ev p.2)) (parts.map λ (i,x)=>(i,ρ x)).toList:=by
   rw[jR];exact DW.of_map parts.toList λ x hx=>hev x.2 (by simp;exact⟨x.1,by simpa using hx⟩)
  exact LP.of ((Sb hC t _ _ hq).post (s:=s) H)
 case buildSlice t len parts=>
  have hq:DW S w β (parts.toList.map λ p=>(p.1,ev p.2)) (parts.map λ (i,x)=>(i,ρ x)).toList:=by
   rw[jR];exact DW.of_map parts.toList λ x hx=>hev x.2 (by simp;exact⟨x.1,by simpa using hx⟩)
  split
  ·rename_i e sz ag z by_ eq ht;have hte:C.P.underlying t=some (.slice e):=(hC.ty t _ ht).kd;split
   ·rename_i ei he;split
    ·rename_i rows hr;split
     ·rename_i h1 h3;have h1:=aK h1;rcases al_Nat_eq_zero_or_pos len with h0|h0
      ·subst h0;have hr0:rows=[]:=bA h1;subst hr0;have hp:(parts.toList.map λ p=>(p.1,ev p.2))=[]:=by
        cases hpp:(parts.toList.map λ p=>(p.1,ev p.2))with
        |nil=>rfl
        |cons p ps=>
         rw[hpp]at hr;obtain⟨i,x⟩:=p;simp only[Fl]at hr;split at hr
         ·split at hr<;>simp at hr
         ·cases hr
       have hp0:parts.toList=[]:=by simpa using hp
       exact Fi hC H hte he _ (by rw[jR,hp0];rfl)
      ·exact GX hC H hte he _ _ hq hr h1 h0 (aP h3)
     ·trivial
    ·trivial
   ·trivial
  ·trivial
 case load t a=>exact LP.of ((Vl hC H t (hev a (by simp))).post (s:=s) H)
 case store t a x=>
  have ha:=hev a (by simp);have hx:=hev x (by simp);split
  ·rename_i ti cs ht hcs;split
   ·rename_i hl;split
    ·rename_i b c hea;split
     ·rename_i cells hb;split
      ·rename_i hroom;rw[hea]at ha;exact λ _=>Kz hC H ht hcs (aK hl) hb (aP hroom) ha hx
      ·trivial
     ·trivial
    ·rename_i b r c hea;split
     ·rename_i rows rs hb;rw[hea]at ha;intro row h' h0 hrow hf;dsimp only at hf;split at hf
      ·rename_i hroom hcl;injection hf with hf;subst hf;exact KA hC H ht hcs (aK hl) hb (by simpa using hrow) (aP hroom) hcl ha hx
      ·cases hf
     ·rename_i cells hb;rw[hea]at ha;intro row h' h0 hrow hf;dsimp only at hf;split at hf
      ·injection hf with hf;subst hf;have hlt:r<cells.length:=by
        have:=(DK.1 (show (cells.map λ x=>[x])[r]?=some row by simpa using hrow)).1;simpa using this
       exact KB hC H ht hcs (aK hl) hb hlt ha hx
      ·cases hf
     ·trivial
    ·trivial
   ·trivial
  ·trivial
 case nilCheck x=>
  have hx:=hev x (by simp);have pass:∀ (a:AV) (v:Value),Rep S w β a v→ρ x=v→(execOp ρ ⟨dst,.nilCheck x,type,pos,after,guard⟩).run C.P w=.ok (.value v) w→LP C.P B S w β h s (execOp ρ ⟨dst,.nilCheck x,type,pos,after,guard⟩) (.ok a):=λ a v hr hv hrun=>
   ⟨v,w,S,β,.inl hrun,hr,H,StepK.refl _ _ _ _ _⟩
  generalize hv:ρ x=v at hx;unfold Sh;split
  ·rename_i b c he;rw[he]at hx;have hx':=hx
   cases hx with
   |ptr _ _ l hl=>exact pass _ _ hx' hv (by simp only[execOp,hv,Sem.run_pure])
  ·rename_i b r c he;rw[he]at hx;have hx':=hx
   cases hx with
   |ptr2 _ _ _ l hl=>exact pass _ _ hx' hv (by simp only[execOp,hv,Sem.run_pure])
  ·rename_i a b c he;rw[he]at hx;have hx':=hx
   cases hx with
   |dp=>exact pass _ _ hx' hv (by simp only[execOp,hv,Sem.run_pure])
  ·rename_i a b c he;rw[he]at hx;have hx':=hx
   cases hx with
   |clo=>exact pass _ _ hx' hv (by simp only[execOp,hv,Sem.run_pure])
  ·trivial
 case binOp op t x y yt=>
  split
  ·rename_i neq hn;exact LP.of ((Xs hC op t x y hn (λ v hv=>by rw[hv];exact hρ v) (hev x (by simp))).post (s:=s) H)
  ·exact LP.of ((Xr hC op t x y (hev x (by simp)) (hev y (by simp))).post (s:=s) H)
 case unOp op t x=>exact LP.of ((Ze (P:=C.P) op (hev x (by simp))).post (s:=s) H)
 case convert src dst x=>
  have hx:=hev x (by simp);have plain:zK B S w β h s ((do pure (.value (←convert src dst (ρ x))):Sem Next).run C.P w) (Di C src dst (ev x)):=(Vk hC src dst hx).post H;unfold Fm;split
  ·rename_i e _ _ _ _ _ h1 h2;split
   ·rename_i b _ _ _ _ _ he hq;rw[he]at hx;have hb:=lH hx;refine λ hb'=>?_;have:=KE hC H hs (hC.ty _ _ h1).kd (hC.ty _ _ h2).kd (hC.ty _ _ hq).kd b hb';rw[←hb]at this;exact this
   ·trivial
  ·rename_i e _ _ _ _ _ h1 h2;split
   ·trivial
   ·rename_i a hna;split
    ·rename_i rc rows hq hr;intro l hlk hl;exact Post.of_yld H (KF hC H (hC.ty _ _ h1).kd (hC.ty _ _ h2).kd (hC.ty _ _ hq).kd hx (λ b hb=>hna _ hb) hr hlk l hl)
    ·trivial
  ·exact LP.of plain
 case makeFunc fn first caps=>
  cases fn with
  |func f=>
   refine⟨.func (.func f) (first.map ρ) (caps.map ρ),w,S,β,.inl rfl,?_,H,StepK.refl _ _ _ _ _⟩;have h1:=RepL.of_map (S:=S) (w:=w) (β:=β) (ev:=ev) (ρ:=ρ) first.toList λ x hx=>hev x (by simp;exact .inl (by simpa using hx));have h2:=RepL.of_map (S:=S) (w:=w) (β:=β) (ev:=ev) (ρ:=ρ) caps.toList λ x hx=>hev x (by simp;exact .inr (by simpa using hx))
   exact .clo f _ _ _ _ (by simp) (λ i a u p q=>h1.2 i a u p (by rw[←jR,bF];exact q)) (by simp) (λ i a u p q=>h2.2 i a u p (by rw[←jR,bF];exact q))
  |_=>exact trivial
 case makeSlice t l c=>
  have hl:=hev l (by simp);have hc:=hev c (by simp);unfold IY;split
  ·rename_i e _ _ _ _ _ kl l' kc c' ht hel hec;rw[hel]at hl;rw[hec]at hc;have hl':=lH hl;have hc':=lH hc;split
   ·rename_i ei he;split
    ·rename_i z hz;split
     ·rename_i hcz;rintro ⟨p0,p1,p2⟩;have:=Vg hC H hs (hC.ty _ _ ht).kd he hz hcz kl kc l' c' p0 p1 p2;rw[←hl', ←hc']at this;exact this
     ·trivial
    ·trivial
   ·trivial
  ·trivial
 case slice t x lo hi mx=>
  have opt:∀ (y:Option Operand),(∀ z,y=some z→Rep S w β (ev z) (ρ z))→(∀ a,y.map ev=some a→∃ u,y.map ρ=some u∧Rep S w β a u)∧(y.map ev=none→y.map ρ=none):=by
   intro y hy
   cases y with
   |none=>exact⟨λ a h=>(by cases h),λ _=>rfl⟩
   |some z=>exact⟨λ a h=>(by injection h with h;subst h;exact⟨_,rfl,hy z rfl⟩),λ h=>(by cases h)⟩
  have h1:=opt lo λ z hz=>hev z (by subst hz;simp);have h2:=opt hi λ z hz=>hev z (by subst hz;simp);have h3:=opt mx λ z hz=>hev z (by subst hz;simp);exact LP.of ((Sa hC H t (hev x (by simp)) h1.1 h1.2 h2.1 h2.2 h3.1 h3.2).post (s:=s) H)
 case fieldAddr t x f=>exact LP.of ((IU hC t f (hev x (by simp))).post (s:=s) H)
 case field t x f=>exact LP.of ((RY hC t f (hev x (by simp))).post (s:=s) H)
 case indexAddr t x i=>exact LP.of ((IV hC H t (hev x (by simp)) (hev i (by simp))).post (s:=s) H)
 case index t x i=>exact LP.of ((RZ hC t (hev x (by simp)) (hev i (by simp))).post (s:=s) H)
 case extract x i=>exact LP.of ((Nl (P:=C.P) i (hev x (by simp))).post (s:=s) H)
 case call c=>
  obtain⟨callee,args,argTypes⟩:=c
  cases callee with
  | builtin b=>
   simp only[Call.operands,Array.empty_append]at hev;have hargs:RepL S w β (args.toList.map ev) (args.toList.map ρ):=RepL.of_map _ λ x hx=>hev x (by simpa using hx);have key:∀ (m:Sem Value) (r:Res),(∀ consts,Go.builtin b argTypes type consts (args.map ρ)=(do pure (.value (←m)):Sem Next))→zK B S w β h s ((do pure (.value (←m)):Sem Next).run C.P w) r→
     LP C.P B S w β h s (execOp ρ ⟨dst,.call ⟨.builtin b,args,argTypes⟩,type,pos,after,guard⟩) r:=by
    intro m r h1 h2;refine LP.of ?_;have:(execOp ρ ⟨dst,.call ⟨.builtin b,args,argTypes⟩,type,pos,after,guard⟩).run C.P w=(do pure (.value (←m)):Sem Next).run C.P w:=by
     simp only[execOp,resolve,Sem.run_bind,Sem.run_pure,Result.andThen_ok,invoke,h1]
    rw[this];exact h2
   have one:∀ (x:AV),args.toList.map ev=[x]→∃ v,args.map ρ= #[v]∧Rep S w β x v:=by
    intro x hx;rw[hx]at hargs;have hl:args.toList.length=1:=by simpa using hargs.1.symm
    match hq:args.toList,hl with
    |[a],_=>
     refine⟨ρ a,(by apply Array.ext';simp[hq]),hargs.2 0 x (ρ a) rfl (by simp[hq])⟩
   have two:∀ (x y:AV),args.toList.map ev=[x,y]→∃ v u,args.map ρ= #[v,u]∧Rep S w β x v∧Rep S w β y u:=by
    intro x y hx;rw[hx]at hargs;have hl:args.toList.length=2:=by simpa using hargs.1.symm
    match hq:args.toList,hl with
    |[a,b],_=>
     refine⟨ρ a,ρ b,(by apply Array.ext';simp[hq]),hargs.2 0 x (ρ a) rfl (by simp[hq]),hargs.2 1 y (ρ b) rfl (by simp[hq])⟩
   have hat:∀ t tx,argTypes.toList=[t,tx]→argTypes= #[t,tx]:=λ t tx he=>by apply Array.ext';simp[he]
   have hat1:∀ t,argTypes.toList=[t]→argTypes= #[t]:=λ t he=>by apply Array.ext';simp[he]
   simp only;cases b<;>try (simp only[bH];exact trivial)
   case append=>
    match hA:args.toList.map ev with
    |[]=>simp only[bH];exact trivial
    |[_]=>simp only[bH];exact trivial
    |_::_::_::_=>simp only[bH];exact trivial
    | [x,y]=>
     match hT:argTypes.toList with
     |[]=>simp only[bH];exact trivial
     |[_]=>simp only[bH];exact trivial
     |_::_::_::_=>simp only[bH];exact trivial
     |[t,tx]=>
      obtain⟨v,u,hv,hx,hy⟩:=two x y hA;refine key (Builtin.append_ argTypes type (args.map ρ)) _ (λ _=>rfl) ?_;rw[hv,hat t tx hT];exact OL hC H hs t tx type hx hy
   case copy=>
    match hA:args.toList.map ev with
    |[]=>simp only[bH];exact trivial
    |[_]=>simp only[bH];exact trivial
    |_::_::_::_=>simp only[bH];exact trivial
    |[x,y]=>
     obtain⟨v,u,hv,hx,hy⟩:=two x y hA;simp only[bH];refine key (Builtin.copy_ argTypes type (args.map ρ)) _ (λ _=>rfl) ?_;rw[hv];exact Vf hC H argTypes.toList type hx hy
   case len=>
    match hA:args.toList.map ev with
    |[]=>simp only[bH];exact trivial
    |_::_::_=>simp only[bH];exact trivial
    | [x]=>
     match hT:argTypes.toList with
     |[]=>simp only[bH];exact trivial
     |_::_::_=>simp only[bH];exact trivial
     |[t]=>
      obtain⟨v,hv,hx⟩:=one x hA;simp only[bH];refine key (Builtin.len_ argTypes type (args.map ρ)) _ (λ _=>rfl) ?_;rw[hv,hat1 t hT];exact (Xv hC t type hx).post H
   case max=>
    match hA:args.toList.map ev with
    |[]=>simp only[bH];exact trivial
    |[_]=>simp only[bH];exact trivial
    |_::_::_::_=>simp only[bH];exact trivial
    |[x,y]=>
     obtain⟨v,u,hv,hx,hy⟩:=two x y hA;simp only[bH];refine key (Builtin.max_ argTypes type (args.map ρ)) _ (λ _=>rfl) ?_;rw[hv];exact (Xu (P:=C.P) _ _ hx hy).post H
   case min=>
    match hA:args.toList.map ev with
    |[]=>simp only[bH];exact trivial
    |[_]=>simp only[bH];exact trivial
    |_::_::_::_=>simp only[bH];exact trivial
    |[x,y]=>
     obtain⟨v,u,hv,hx,hy⟩:=two x y hA;simp only[bH];refine key (Builtin.min_ argTypes type (args.map ρ)) _ (λ _=>rfl) ?_;rw[hv]
     exact (Xt (P:=C.P) _ _ hx hy).post H
  |invoke r m=>trivial
  | value f=>
   simp only;split
   ·rename_i g first caps he
    have hf:=hev f (by simp[Call.operands]);rw[he]at hf;generalize hv:ρ f=v at hf
    cases hf with
    |clo _ _ _ vs us hl hr hl' hr'=>
    refine⟨vs.toList++args.toList.map ρ++us.toList,?_,?_⟩
    ·refine RepL.append (RepL.append ⟨by simpa using hl,λ i a u p q=>hr i a u p (by simpa using q)⟩ (RepL.of_map _ λ x hx=>hev x (by simp[Call.operands];exact .inr (by simpa using hx)))) ⟨by simpa using hl',λ i a u p q=>hr' i a u p (by simpa using q)⟩
    ·simp only[execOp,resolve,hv,Deferred.ofValue,Sem.run_bind,Sem.run_pure,Result.andThen_ok,invoke];congr 2;apply Array.ext';simp
   ·trivial
end
end Go.Proofs.YtlhofpglndhfaaaGreatDoor
namespace Go.Proofs.YtlhofpglndhfaaaGreatDoor
open Go.RowKit
def GOk(C:Ctx)(S:Nat→Prop)(w:World):Prop:=∀ g cells,C.G g=some cells→Rep S w noB (.dp cells.length 0 cells) (.pointer (some ⟨g,0,none⟩))
theorem GOk.g{C:Ctx}{S:Nat→Prop}{w:World}(h:GOk C S w):aaJ C.G S w:=h
def bT(C:Ctx)(f:FuncId)(args:List AV)(r:AV):Prop:=
 (∃ fn,C.P.funcs[f]?=some fn∧fn.body.isSome=true∧(fn.name== "runtime.NumGoroutine")=false)∧
 ∀ (S:Nat→Prop) (w:World) (vs:List Value),(∀ b,S b→b<w.heap.size)→GOk C S w→RepL S w noB args vs→
  Calls C.P f vs.toArray w λ e w'=>∃ v,e=.returned v∧Below w.heap.size w w'∧Rep (λ b=>S b∨(w.heap.size≤b∧b<w'.heap.size)) w' noB r v
def NodeR(C:Ctx)(R:FuncId→List AV→AV→Prop)(h:AH)(r:Res)(x:AV)(h':AH):Prop:=
 match r with
 | .bad=>False
 | .ok y=>x=y∧h'=h
 | .need p y=>p∧x=y∧h'=h
 | .idx rows i f=>∃ row,0≤i∧rows[i.toNat]?=some row∧f row=some x∧h'=h
 | .fx p y h2=>p∧x=y∧h'=h2
 | .idxfx rows i f=>∃ row,0≤i∧rows[i.toNat]?=some row∧f row=some h'∧x=.any
 | .str p rows=>∃ l,p∧iJ rows=some l∧x=.v (.string ⟨l.toArray⟩)∧h'=h
 | .call f args=>gE (rG h args)=true∧(oP args=true∨(Ct x=true∧jW h args))∧eZ x=true∧R f (rG h args) x∧h'=h
def isFx:Res→Bool
 | .fx _ _ _| .idxfx _ _ _| .bad=>true
 |_=>false
def StepR(C:Ctx)(R:FuncId→List AV→AV→Prop)(all:List Oper)(o:Oper)(s:Nat)(t:Nat→AV)(h:AH)(x:AV)(h':AH):Prop:=
  match o.guard with
  |none=>NodeR C R h (opA C (evA C t) h s o.op) x h'
  | some (i,pol)=>∃ d g y,(all[i]?).bind (·.dst)=some d∧zO (t d) pol=some g∧((x=.opt g y∧h'=h∧
    ((condsO t o.op=none∧(g=true→isFx (opA C (evA C t) h s o.op)=false∧NodeR C R h (opA C (evA C t) h s o.op) y h))∨
     ∃ c,condsO t o.op=some c∧(g=true→c=true)∧(g=true→isFx (opA C (evS C t o.op) h s o.op)=false∧NodeR C R h (opA C (evS C t o.op) h s o.op) y h)))∨(g=true∧NodeR C R h (opA C (evA C t) h s o.op) x h'))
def NoH(C:Ctx):Prop:=∀ f args h s Post, ¬ C.H f args h s Post
section
variable {C:Ctx}{V:Inv C.fr}{R:FuncId→List AV→AV→Prop}{all:List Oper}{o:Oper}{s:Nat}{t:Nat→AV}{h h':AH}{K:AV→AH→Prop}
theorem RQ{r:Res}(hn:node C R h s r K):(∃ x h',NodeR C R h r x h'∧K x h')∨∃ f args Post,r=.call f args∧C.H f args h s Post∧∀ x h',Post x h'→K x h':=by
 cases r<;>simp only[node]at hn
 case ok x=>exact .inl ⟨x,h,⟨rfl,rfl⟩,hn⟩
 case need p x=>obtain⟨hp,hk⟩:=hn;exact .inl ⟨x,h,⟨hp rfl,rfl,rfl⟩,hk⟩
 case idx rows i f=>
  obtain⟨row,hr,hk⟩:=hn;split at hk
  ·rename_i x hx;exact .inl ⟨x,h,⟨row,(hr rfl).1,(hr rfl).2,hx,rfl⟩,hk⟩
  ·exact hk.elim
 case fx p x h2=>obtain⟨hp,hk⟩:=hn;exact .inl ⟨x,h2,⟨hp rfl,rfl,rfl⟩,hk⟩
 case idxfx rows i f=>
  obtain⟨row,hr,hk⟩:=hn;split at hk
  ·rename_i h2 hx;exact .inl ⟨.any,h2,⟨row,(hr rfl).1,(hr rfl).2,hx,rfl⟩,hk⟩
  ·exact hk.elim
 case str p rows=>obtain⟨l,hl,hk⟩:=hn;exact .inl ⟨_,h,⟨l,(hl rfl).1,(hl rfl).2,rfl,rfl⟩,hk⟩
 case call f args=>
  rcases hn with hn|hn
  ·obtain⟨x,h1,h2,h3,h4,hk⟩:=hn;exact .inl ⟨x,h,⟨h1,h2,h3,h4 rfl,rfl⟩,hk⟩
  ·obtain⟨Post,hH,hk⟩:=hn;exact .inr ⟨f,args,Post,rfl,hH,hk⟩
theorem IP{g:Bool}{r:Res}(hn:Dk C R h g r K):∃ y,isFx r=false∧(g=true→NodeR C R h r y h)∧K (.opt g y) h:=by
 cases r<;>simp only[Dk]at hn
 case ok x=>exact⟨x,rfl,λ _=>⟨rfl,rfl⟩,hn⟩
 case need p x=>obtain⟨hp,hk⟩:=hn;exact⟨x,rfl,λ hg=>⟨hp hg,rfl,rfl⟩,hk⟩
 case idx rows i f=>
  obtain⟨row,hr,hk⟩:=hn;split at hk
  ·rename_i x hx;exact⟨x,rfl,λ hg=>⟨row,(hr hg).1,(hr hg).2,hx,rfl⟩,hk⟩
  ·exact hk.elim
 case str p rows=>obtain⟨l,hl,hk⟩:=hn;exact⟨_,rfl,λ hg=>⟨l,(hl hg).1,(hl hg).2,rfl,rfl⟩,hk⟩
 case call f args=>obtain⟨x,h1,h2,h3,h4,hk⟩:=hn;exact⟨x,rfl,λ hg=>⟨h1,h2,h3,h4 hg,rfl⟩,hk⟩
theorem OD{r:Res}(hn:Np r K):∃ x h',NodeR C R h r x h'∧K x h':=by
 cases r<;>simp only[Np]at hn
 case fx p x h2=>obtain⟨hp,hk⟩:=hn;exact⟨x,h2,⟨hp rfl,rfl,rfl⟩,hk⟩
theorem step_inv(hs:wK C R all o s t h K):(∃ x h',StepR C R all o s t h x h'∧K x h')∨(o.guard=none∧∃ f args Post,opA C (evA C t) h s o.op=.call f args∧C.H f args h s Post∧∀ x h',Post x h'→K x h'):=by
 unfold wK at hs;unfold StepR
 cases hg:o.guard with
 |none=>simp only[hg]at hs;exact (RQ hs).imp id λ h=>⟨rfl,h⟩
 | some q=>
  obtain⟨i,pol⟩:=q;simp only[hg]at hs;split at hs
  ·exact hs.elim
  ·rename_i d hd;split at hs
   ·exact hs.elim
   ·rename_i g hgv;split at hs
    ·rename_i hc;rcases hs with hs|⟨hg1,hs⟩
     ·obtain⟨y,h1,h2,h3⟩:=IP hs;exact .inl ⟨_,h,⟨d,g,y,hd,hgv,.inl ⟨rfl,rfl,.inl ⟨hc,λ hg=>⟨h1,h2 hg⟩⟩⟩⟩,h3⟩
     ·obtain⟨x,h',h1,h2⟩:=OD (C:=C) (R:=R) (h:=h) hs;exact .inl ⟨x,h',⟨d,g,x,hd,hgv,.inr ⟨hg1,h1⟩⟩,h2⟩
    ·rename_i c hc;obtain⟨hs1,hs2⟩:=hs;obtain⟨y,h1,h2,h3⟩:=IP hs2;exact .inl ⟨_,h,⟨d,g,y,hd,hgv,.inl ⟨rfl,rfl,.inr ⟨c,hc,hs1,λ hg=>⟨h1,h2 hg⟩⟩⟩⟩,h3⟩
end
structure SimD(C:Ctx)(V:Inv C.fr)(w0:World)(S0:Nat→Prop)(N:Nat)(D:Nat→Prop)(t:Nat→AV)(h:AH)(a:Act)(w:World)(S:Nat→Prop)(β:Bt):Prop where
 T:∀ i,Rep S w β (t i) (a.tmps.getD i undef)
 H:SimH w0.heap.size S w β h
 B:Below w0.heap.size w0 w
 dom:∀ x l,β x=some l→D x
 df:a.defers=C.df
 sz:a.tmps.size=N
 G:GOk C S w
 nw:∀ b,S b→S0 b∨w0.heap.size≤b
 iv:V.p S w β
section
variable {C:Ctx}{V:Inv C.fr}{R:FuncId→List AV→AV→Prop}{all:List Oper}{o:Oper}{s N:Nat}{t:Nat→AV}{h h':AH}{a:Act}{w w0:World}{D:Nat→Prop}{S0:Nat→Prop}{S:Nat→Prop}{β:Bt}
theorem sK(M:SimD C V w0 S0 N D t h a w S β)(x:Operand):Rep S w β (evA C t x) (a.eval x):=by
 cases x with
 |tmp i=>exact M.T i
 |const v=>exact Hc v
 | global g=>
  show Rep S w β (match C.G g with|some cells=>.dp cells.length 0 cells|none=>.any) _;split
  ·rename_i cells hg;exact (M.G g cells hg).mono (λ _ h=>h) (Evo.refl _ _) (λ s l x=>by cases x)
  ·exact .any _
 |func f=>exact .clo f [] [] #[] #[] rfl (λ i a u h=>by simp at h) rfl (λ i a u h=>by simp at h)
theorem Cr:∀ (l:List Operand),uT t l=none→∀ i,.tmp i∈l→LV (t i)=none
 |[],_,i,hi=>by cases hi
 | x::l,hc,i,hi=>by
  cases x with
  | tmp j=>
   simp only[uT]at hc;split at hc
   ·rename_i r h1;rcases al_List_mem_cons.1 hi with he|hi
    ·injection he with he;subst he;exact h1
    ·exact Cr l hc i hi
   ·cases hc
   ·cases hc
  |_=>
   simp only[uT]at hc;rcases al_List_mem_cons.1 hi with he|hi
   ·cases he
   ·exact Cr l hc i hi
theorem wY:∀ (l:List Operand) (c:Bool),uT t l=some c→c=true→∀ i g,.tmp i∈l→LV (t i)=some g→g=true
 |[],_,hc,_,_,_,hi,_=>by cases hi
 | x::l,c,hc,hct,i,g,hi,hg=>by
  cases x with
  | tmp j=>
   simp only[uT]at hc;split at hc
   ·rename_i r h1;rcases al_List_mem_cons.1 hi with he|hi
    ·injection he with he;subst he;rw[hg]at h1;cases h1
    ·exact wY l c hc hct i g hi hg
   ·rename_i g' h1 h2;injection hc with hc;subst hc;rcases al_List_mem_cons.1 hi with he|hi
    ·injection he with he;subst he;rw[hg]at h1;injection h1 with h1;rw[h1];exact hct
    ·have:=Cr l h2 i hi;rw[hg]at this;cases this
   ·rename_i g' r h1 h2;injection hc with hc;subst hc;simp only[aH]at hct;rcases al_List_mem_cons.1 hi with he|hi
    ·injection he with he;subst he;rw[hg]at h1;injection h1 with h1;rw[h1];exact hct.1
    ·exact wY l r h2 hct.2 i g hi hg
  |_=>
   simp only[uT]at hc;rcases al_List_mem_cons.1 hi with he|hi
   ·cases he
   ·exact wY l c hc hct i g hi hg
theorem IQ(M:SimD C V w0 S0 N D t h a w S β)(x:Operand)(hx:∀ i g,x=.tmp i→LV (t i)=some g→g=true):Rep S w β (AZ (evA C t x)) (a.eval x):=by
 have hr:=sK M x
 cases x with
 | tmp i=>
  show Rep S w β (AZ (t i)) _;have hr':Rep S w β (t i) (a.eval (.tmp i)):=hr
  cases ht:t i with
  |opt g y=>
   rw[ht]at hr'
   exact Hd hr' (hx i g rfl (by rw[ht];rfl))
  |_=>rw[ht]at hr';exact hr'
 | const v=>
  have:AZ (Om v)=Om v:=by
   unfold Om;split
   ·rfl
   ·split<;>rfl
   ·rfl
  show Rep S w β (AZ (Om v)) _
  rw[this];exact hr
 |global g=>
  have hr':Rep S w β (evA C t (.global g)) (a.eval (.global g)):=hr;show Rep S w β (AZ (evA C t (.global g))) _;simp only[evA]at hr' ⊢
  split<;>rename_i hq<;>simp only[hq]at hr'<;>exact hr'
 |func f=>exact hr
theorem Kx(M:SimD C V w0 S0 N D t h a w S β)(op:Op){c:Bool}(hc:condsO t op=some c)(hct:c=true)(x:Operand)(hx:x∈op.operands):Rep S w β (evS C t op x) (a.eval x):=by
 have full:uT t op.operands.toList=some c→Rep S w β (AZ (evA C t x)) (a.eval x):=λ hc=>IQ M x λ k g hk hgk=>by
  subst hk;exact wY _ c hc hct k g (by simpa using hx) hgk
 cases op<;>first|exact full hc|skip
 case pick cc aa bb=>
  show Rep S w β (match KI cc x with|true=>AZ (evA C t x)|false=>evA C t x) _
  cases hs:KI cc x with
  |false=>exact sK M x
  |true=>
   refine IQ M x λ k g hk hgk=>?_;subst hk;cases cc<;>simp only[KI]at hs<;>try (cases hs;done)
   rename_i i;rw[←aK hs]at hgk;exact wY _ c hc hct i g (by simp) hgk
theorem FQ(M:SimD C V w0 S0 N D t h a w S β){ops:Array Oper}(hall:ops.toList=all){i d:Nat}{pol g:Bool}(hgd:o.guard=some (i,pol))(hd:(all[i]?).bind (·.dst)=some d)(hg:zO (t d) pol=some g)(hlt:d<N):
  Region.wanted o (yielded ops a.tmps)=g:=by
 have hd':(ops[i]?).bind (·.dst)=some d:=by rw[←hd, ←hall,bF]
 have hT:=M.T d;have hsz:d<a.tmps.size:=by rw[M.sz];exact hlt
 have hget:a.tmps[d]?=some (a.tmps.getD d undef):=by rw[aO hsz,aI,aO hsz];rfl
 have hw:Region.wanted o (yielded ops a.tmps)=(yielded ops a.tmps i==some pol):=by simp only[Region.wanted,hgd]
 have hy:yielded ops a.tmps i=(match (some (a.tmps.getD d undef):Option Value)with|some (.bool b)=>some b|_=>none):=by
  simp only[yielded,hd',Option.bind_some,hget];cases a.tmps.getD d undef<;>rfl
 rw[hw,hy];unfold zO at hg;split at hg
 ·rename_i b hb;rw[hb]at hT;rw[lH hT];injection hg with hg;subst hg;cases pol<;>cases b<;>rfl
 ·rename_i a' b hb;rw[hb]at hT;injection hg with hg;subst hg;generalize a.tmps.getD d undef=v at hT
  cases hT with
  |optT _ _ _ ha hr=>rw[lH hr,ha];cases pol<;>cases b<;>rfl
  |optF _ _ ha=>rw[ha];rfl
 ·cases hg
mutual
theorem OE(h:AH):∀ (a:AV),Hn a=true→jU h a
 | .osl _ _ _ _,e=>by simp only[Hn]at e;cases e
 | .agg cs,e=>As h cs e
 | .tup cs,e=>by
  show (match oP cs with|true=>True|false=>jW h cs);rw[show oP cs=true from e]
  trivial
 | .clo _ a b,e=>by
  simp only[Hn]at e;split at e
  ·rename_i ha;exact⟨As h a ha,As h b e⟩
  ·cases e
 | .v _,_=>trivial
 | .sl _ _ _,_=>trivial
 | .dp _ _ _,_=>trivial
 | .ptr _ _,_=>trivial
 | .ptr2 _ _ _,_=>trivial
 | .opt _ _,_=>trivial
 | .any,_=>trivial
theorem As(h:AH):∀ (cs:List AV),oP cs=true→jW h cs
 |[],_=>trivial
 |x::xs,e=>by
  simp only[oP]at e;split at e
  ·rename_i ha;exact⟨OE h x ha,As h xs e⟩
  ·cases e
end
theorem Bq:∀ (cs:List AV),(RA cs).length=cs.length
 |[]=>rfl
 |_::cs=>congrArg (· +1) (Bq cs)
theorem LR:∀ (cs:List AV) (j:Nat) (a:AV),(RA cs)[j]?=some a→∃ b,cs[j]?=some b∧(a=.any∨(a=b∧eZ b=true))
 |[],j,a,h=>by simp[RA]at h
 |c::cs,0,a,h=>by
  simp only[RA,cJ,Option.some.injEq]at h;refine⟨c,rfl,?_⟩
  cases hc:eZ c with
  |true=>rw[hc]at h;exact .inr ⟨h.symm,rfl⟩
  |false=>rw[hc]at h;exact .inl h.symm
 |c::cs,j+1,a,h=>by
  simp only[RA,dC]at h⊢;exact LR cs j a h
theorem Br{β:Bt}{a:AV}{v:Value}{B:Nat}(H:SimH B S w β h)(hr:Rep S w β a v):jU h a→Rep (λ b=>S b∨(B≤b∧b<w.heap.size)) w β (uU h a) v:=by
 have hS:∀ b,S b→S b∨(B≤b∧b<w.heap.size):=λ b hb=>.inl hb;have plain:∀ {a:AV} {v:Value},Rep S w β a v→Rep (λ b=>S b∨(B≤b∧b<w.heap.size)) w β a v:=λ h=>h.mono hS (Evo.refl _ _) (LT.refl _);have datL_get:∀ (cs:List AV) (i:Nat) (x:AV),(rG h cs)[i]?=some x→∃ y,cs[i]?=some y∧x=uU h y:=by
  intro cs
  induction cs with
  |nil=>intro i x hx;simp[rG]at hx
  |cons c cs ih=>
   intro i x hx
   cases i with
   |zero=>simp[rG]at hx;exact⟨c,rfl,hx.symm⟩
   |succ i=>simp[rG]at hx;exact ih i x hx
 have datL_len:∀ (cs:List AV),(rG h cs).length=cs.length:=by
  intro cs
  induction cs with
  |nil=>rfl
  |cons c cs ih=>simp[rG,ih]
 have len_get:∀ (cs:List AV),jW h cs→∀ (i:Nat) y,cs[i]?=some y→jU h y:=by
  intro cs
  induction cs with
  |nil=>intro _ i y hy;simp at hy
  |cons c cs ih=>
   intro hl i y hy;simp only[jW]at hl
   cases i with
   |zero=>simp at hy;subst hy;exact hl.1
   |succ i=>exact ih hl.2 i y (by simpa using hy)
 induction hr with
 |v x=>intro _;exact .v x
 |agg cs vs hl h1 hr ih=>
  intro hlk;simp only[jU]at hlk;show Rep _ w _ (.agg (rG h cs)) _;refine .agg _ _ (by rw[datL_len];exact hl) h1 λ i x u p q=>?_;obtain⟨y,hy,rfl⟩:=datL_get cs i x p
  exact ih i y u hy q H plain (len_get cs hlk i y hy)
 |tup cs vs hl hr ih=>
  intro hlk
  cases hq:oP cs with
  |true=>rw[show uU h (.tup cs)=.tup cs by simp only[uU,hq]];exact plain (.tup cs vs hl hr)
  |false=>
  have hlk':jW h cs:=by simpa only[jU,hq]using hlk
  rw[show uU h (.tup cs)=.tup (rG h cs) by simp only[uU,hq]];refine .tup _ _ (by rw[datL_len];exact hl) λ i x u p q=>?_;obtain⟨y,hy,rfl⟩:=datL_get cs i x p
  exact ih i y u hy q H plain (len_get cs hlk' i y hy)
 | osl s lo len clip l A c hl hc hm hcl hA cs e fr hb room=>
  rename_i β';intro hlk;simp only[jU]at hlk;show Rep _ w _ (match h s with|some (.arr rows rs)=>.sl rs ((rows.drop lo).take len) clip|_=>.any) _;split
  ·rename_i rows rs hs;simp only[hs]at hlk;obtain⟨l',ds,e',fr',k1,k2,k3,k4,k5,k6,k7,k8⟩:=H.own s _ hs;obtain rfl:l'=l:=by rw[hl]at k1;exact (Option.some.inj k1).symm
   subst k6;have hlen:((rows.drop lo).take len).length=len:=by rw[aN,bD];omega
   have sub:∀ (i:Nat) row,((rows.drop lo).take len)[i]?=some row→rows[lo+i]?=some row:=by
    intro i row hi;rw[cN]at hi;split at hi
    ·rwa [dD]at hi
    ·cases hi
   have hds:∀ (i:Nat) row (j:Nat) a,((rows.drop lo).take len)[i]?=some row→row[j]?=some a→i<len∧j<l'.rs∧(ds.getD (l'.base+(lo+i) * l'.rs+j) undef).oneCell'=true∧ds[l'.base+(lo+i) * l'.rs+j]?=some (ds.getD (l'.base+(lo+i) * l'.rs+j) undef)∧Rep S w noB a (ds.getD (l'.base+(lo+i) * l'.rs+j) undef):=by
    intro i row j a hi hj;obtain⟨u,q1,q2,q3⟩:=k8 _ _ _ _ (sub i row hi) hj;have hg:ds.getD (l'.base+(lo+i) * l'.rs+j) undef=u:=by rw[aI,q1];rfl
    rw[hg];exact⟨by rw[←hlen];exact (DK.1 hi).1,by rw[←k7 row (aB (sub i row hi))];exact (DK.1 hj).1,q2,q1,q3⟩
   have hval:(Value.slice A len c)=.slice A ((rows.drop lo).take len).length c:=by rw[hlen]
   rw[hval];refine .sl l'.rs _ clip A c l'.blk (l'.base+lo * l'.rs) (λ i j=>if i<len∧j<l'.rs then ds.getD (l'.base+(lo+i) * l'.rs+j) undef else .bool false) (by rw[hlen];exact hc) hm (by rw[hlen];exact hcl) (λ row hrow=>k7 row (eW (cK hrow)))
    (λ h0=>⟨hA (by rw[hlen]at h0;omega),.inr ⟨k4,fP k2⟩⟩) (λ i row j a hi hj=>?_) (λ i j=>?_) λ i row j a hi hj=>?_
   ·obtain⟨t1,t2,t3,t4,t5⟩:=hds i row j a hi hj;rw[if_pos ⟨t1,t2⟩,gQ k2, ←t4];congr 1;rw[bZ];omega
   ·show (if i<len∧j<l'.rs then ds.getD (l'.base+(lo+i) * l'.rs+j) undef else .bool false).oneCell'=true;by_cases hij:i<len∧j<l'.rs
    ·have hi:((rows.drop lo).take len)[i]?=some (((rows.drop lo).take len)[i]'(by rw[hlen];exact hij.1)):=aA _;have hjl:j<(((rows.drop lo).take len)[i]'(by rw[hlen];exact hij.1)).length:=by
      rw[k7 _ (aB (sub i _ hi))];exact hij.2
     obtain⟨t1,t2,t3,t4,t5⟩:=hds i _ j _ hi (aA hjl);rw[if_pos hij];exact t3
    ·rw[if_neg hij];rfl
   ·obtain⟨t1,t2,t3,t4,t5⟩:=hds i row j a hi hj;rw[if_pos ⟨t1,t2⟩];exact t5.mono hS (Evo.refl _ _) (LT.refl _)
  ·exact .any _
 |sl rs rows clip A c b o u hc hm hcl hrs hA hw h1 hr ih=>intro _;exact plain (.sl rs rows clip A c b o u hc hm hcl hrs hA hw h1 hr)
 |dp rs col row b o u hrs hb hw h1 hr ih=>intro _;exact plain (.dp rs col row b o u hrs hb hw h1 hr)
 | ptr s col l hl=>
  intro _;show Rep _ w _ (match h s with|some (.box cells)=>.dp cells.length col (RA cells)|_=>.any) _;split
  ·rename_i cells hs;obtain⟨l',ds,e',fr',k1,k2,k3,k4,k5,k6⟩:=H.own s _ hs;obtain rfl:l'=l:=by rw[hl]at k1;exact (Option.some.inj k1).symm
   have hlt:∀ (j:Nat) a,(RA cells)[j]?=some a→ds[l'.base+j]?=some (ds.getD (l'.base+j) undef)∧(ds.getD (l'.base+j) undef).oneCell'=true∧Rep S w noB a (ds.getD (l'.base+j) undef):=by
    intro j a hj;obtain⟨b,hb,hab⟩:=LR cells j a hj;obtain⟨u,q1,q2,q3⟩:=k6 j b hb;have hg:ds.getD (l'.base+j) undef=u:=by rw[aI,q1];rfl
    rw[hg];rcases hab with rfl|⟨rfl,hcl⟩
    ·exact⟨q1,q2,.any _⟩
    ·exact⟨q1,q2,lO q3 hcl _⟩
   refine .dp cells.length col (RA cells) l'.blk l'.base (λ j=>if j<cells.length then ds.getD (l'.base+j) undef else .bool false) (Bq cells) (.inr ⟨k4,fP k2⟩) (λ j a hj=>?_) (λ j=>?_) λ j a hj=>?_
   ·have hjl:j<cells.length:=by rw[←Bq cells];exact (DK.1 hj).1
    rw[if_pos hjl,gQ k2];exact (hlt j a hj).1
   ·show (if j<cells.length then ds.getD (l'.base+j) undef else .bool false).oneCell'=true;by_cases hjl:j<cells.length
    ·rw[if_pos hjl];exact (hlt j _ (aA (by rw[Bq];exact hjl))).2.1
    ·rw[if_neg hjl];rfl
   ·have hjl:j<cells.length:=by rw[←Bq cells];exact (DK.1 hj).1
    rw[if_pos hjl];exact (hlt j a hj).2.2.mono hS (Evo.refl _ _) (LT.refl _)
  ·exact .any _
 |ptr2 s row col l hl=>intro _;exact plain (.ptr2 s row col l hl)
 | clo f first caps vs us hl h hl' h' ih ih'=>
  intro hlk;simp only[jU]at hlk;rename_i hh0;refine .clo f _ _ vs us (by rw[datL_len];exact hl) (λ i x u p q=>?_) (by rw[datL_len];exact hl') λ i x u p q=>?_
  ·obtain⟨y,hy,rfl⟩:=datL_get first i x p
   exact ih i y u hy q H plain (len_get first hlk.1 i y hy)
  ·obtain⟨y,hy,rfl⟩:=datL_get caps i x p
   exact ih' i y u hy q H plain (len_get caps hlk.2 i y hy)
 |optT g a x hg h ih=>intro _;exact plain (.optT g a x hg h)
 |optF g a hg=>intro _;exact .optF g a hg
 |any x=>intro _;exact .any x
theorem LS{β β':Bt}{S S':Nat→Prop}{w w':World}{a:AV}{v:Value}(hr:Rep S w β a v):Ct a=true→Rep S' w' β' a v:=by
 have get:∀ (cs:List AV),OS cs=true→∀ (i:Nat) x,cs[i]?=some x→Ct x=true:=by
  intro cs
  induction cs with
  |nil=>intro _ i x hx;simp at hx
  | cons c cs ih=>
   intro hf i x hx;simp only[OS]at hf;split at hf
   ·rename_i hc
    cases i with
    |zero=>simp at hx;subst hx;exact hc
    |succ i=>exact ih hf i x (by simpa using hx)
   ·cases hf
 induction hr with
 |v x=>intro _;exact .v x
 |agg cs vs hl h1 h ih=>intro hf;exact .agg cs vs hl h1 λ i a u p q=>ih i a u p q (get cs (by simpa [Ct]using hf) i a p)
 |tup cs vs hl h ih=>intro hf;exact .tup cs vs hl λ i a u p q=>ih i a u p q (get cs (by simpa [Ct]using hf) i a p)
 |_=>intro hf;simp[Ct]at hf
theorem OG:∀ (cs:List AV),oP cs=true→rG h cs=cs:=by
 have key:∀ (n:Nat) (cs:List AV),SizeOf.sizeOf cs≤n→oP cs=true→rG h cs=cs:=by
  intro n
  induction n with
  |zero=>intro cs hn;cases cs<;>simp at hn
  | succ n ih=>
   intro cs hn hc
   cases cs with
   |nil=>rfl
   | cons x xs=>
    simp only[oP]at hc;split at hc
    ·rename_i hx;have h2:=ih xs (by simp at hn;omega) hc;simp only[rG,h2];congr 1
     cases x with
     |agg ds=>
      have:=ih ds (by simp at hn;omega) (by simpa [Hn]using hx)
      simp only[uU,this]
     |tup ds=>
      have hq:oP ds=true:=by simpa [Hn]using hx
      simp only[uU,hq]
     |osl=>simp[Hn]at hx
     |ptr=>simp[Hn]at hx
     | clo f a b=>
      simp only[Hn]at hx;split at hx
      ·rename_i ha;have e1:=ih a (by simp at hn;omega) ha;have e2:=ih b (by simp at hn;omega) hx;simp only[uU,e1,e2]
      ·cases hx
     |_=>rfl
    ·cases hc
 exact λ cs hc=>key _ cs (aC _) hc
theorem Nk{f:FuncId}{args:List AV}{x:AV}{vs:List Value}(M:SimD C V w0 S0 N D t h a w S β)(hargs:RepL S w β args vs)(hcl:gE (rG h args)=true)(hf:oP args=true∨(Ct x=true∧jW h args))(hcx:eZ x=true)(hR:bT C f (rG h args) x):
  (callFunc f vs.toArray).run C.P w=.ok (.enter f vs.toArray) w∧Calls C.P f vs.toArray w λ e w'=>∃ v S',e=.returned v∧Rep S' w' β x v∧SimH w0.heap.size S' w' β h∧StepK w0.heap.size S w β s S' w' β:=by
 obtain⟨⟨fn,g1,g2,g3⟩,hcall⟩:=hR;have lenL:∀ (cs:List AV),(rG h cs).length=cs.length:=by
  intro cs
  induction cs with
  |nil=>rfl
  |cons c cs ih=>simp[rG,ih]
 constructor
 ·simp only[callFunc,Sem.run_bind,program,Sem.run,Result.andThen_ok,g1];have:fn.body.isNone=false:=by cases hb:fn.body<;>simp_all
  simp[g3,this]
 ·
  have after:∀ (S1:Nat→Prop),(∀ b,S1 b→b<w.heap.size)→(∀ w' v,Below w.heap.size w w'→Rep (λ b=>S1 b∨(w.heap.size≤b∧b<w'.heap.size)) w' noB x v→∃ S',Rep S' w' β x v∧(∀ b,S b→S' b)∧(∀ b,S' b→S b∨w.heap.size≤b)∧∀ b,S' b→b<w'.heap.size)→RepL S1 w noB (rG h args) vs→GOk C S1 w→
    Calls C.P f vs.toArray w λ e w'=>∃ v S',e=.returned v∧Rep S' w' β x v∧SimH w0.heap.size S' w' β h∧StepK w0.heap.size S w β s S' w' β:=by
   intro S1 hS1 hback hrep hG;refine (hcall S1 w vs hS1 hG hrep).mono ?_;rintro e w' ⟨v,he,hB,hr⟩;obtain⟨S',r1,r2,r3,r4⟩:=hback w' v hB hr;have hE:Evo S w w':=Evo.of_kept (λ b hb=>hB.block b hb) M.H.lt;refine⟨v,S',he,r1,⟨λ s' blk hs'=>?_,M.H.inj,r4,aL M.H.big hB.size⟩,⟨r2,hE,hB.mono M.H.big,LT.refl _,λ _ _ hx=>.inl hx,λ b hb=>(r3 b hb).imp id λ h=>⟨aL M.H.big h,.inl h⟩,λ b hb _=>hB.block b hb⟩⟩;obtain⟨l,cs,e',fr,k1,k2,k3,k4,k5,k6⟩:=M.H.own s' blk hs';have hlt:=fP k2;refine⟨l,cs,e',fr,k1,(hB.block _ hlt).trans k2,k3,k4,λ hb=>?_,k6.mono r2 hE (LT.refl _)⟩;rcases r3 _ hb with hb|hb
   ·exact k5 hb
   ·omega
  rcases hf with hf|⟨hf,hlk⟩
  ·have e1:=OG (h:=h) args hf;rw[e1]at hcl;refine after S M.H.lt (λ w' v hB hr=>⟨λ b=>S b∨(w.heap.size≤b∧b<w'.heap.size),?_,λ b hb=>.inl hb,λ b hb=>hb.imp id (·.1),λ b hb=>?_⟩) (by rw[e1];exact⟨hargs.1,λ i y u p q=>lO (hargs.2 i y u p q) (fY args hcl i y p) _⟩) M.G
   ·exact hr.mono (λ _ h=>h) (Evo.refl _ _) (λ s l x=>by cases x)
   ·rcases hb with hb|hb
    ·exact Nat.lt_of_lt_of_le (M.H.lt b hb) hB.size
    ·exact hb.2
  ·have datL_get:∀ (cs:List AV) (i:Nat) (x:AV),(rG h cs)[i]?=some x→∃ y,cs[i]?=some y∧x=uU h y:=by
    intro cs
    induction cs with
    |nil=>intro i x hx;simp[rG]at hx
    |cons c cs ih=>
     intro i x hx
     cases i with
     |zero=>simp[rG]at hx;exact⟨c,rfl,hx.symm⟩
     |succ i=>simp[rG]at hx;exact ih i x hx
   have len_get:∀ (cs:List AV),jW h cs→∀ (i:Nat) y,cs[i]?=some y→jU h y:=by
    intro cs
    induction cs with
    |nil=>intro _ i y hy;simp at hy
    |cons c cs ih=>
     intro hl i y hy;simp only[jW]at hl
     cases i with
     |zero=>simp at hy;subst hy;exact hl.1
     |succ i=>exact ih hl.2 i y (by simpa using hy)
   refine after (λ b=>b<w.heap.size) (λ _ h=>h) (λ w' v hB hr=>⟨S,LS hr hf,λ _ h=>h,λ b hb=>.inl hb,λ b hb=>Nat.lt_of_lt_of_le (M.H.lt b hb) hB.size⟩) ⟨by rw[lenL];exact hargs.1,λ i y u p q=>?_⟩ λ g cells hg=>(M.G g cells hg).mono M.H.lt (Evo.refl _ _) (LT.refl _);obtain⟨z,hz,rfl⟩:=datL_get args i y p;exact lO ((Br M.H (hargs.2 i z u hz q) (len_get args hlk i z hz)).mono (λ b hb=>hb.elim (M.H.lt b) (·.2)) (Evo.refl _ _) (LT.refl _)) (fY _ hcl i _ p) _
end
end Go.Proofs.YtlhofpglndhfaaaGreatDoor
namespace Go.Proofs.YtlhofpglndhfaaaGreatDoor
open Go.RowKit
section
variable {C:Ctx}{V:Inv C.fr}{all:List Oper}{o:Oper}{s N:Nat}{t:Nat→AV}{h h':AH}{a:Act}{w w0:World}{D:Nat→Prop}{S0:Nat→Prop}{S:Nat→Prop}{β:Bt}
theorem OH(a:Act){d:Option Nat}{v:Value}{x:AV}{S':Nat→Prop}{w':World}{β':Bt}(hT:∀ i,Rep S' w' β' (t i) (a.tmps.getD i undef))(hx:Rep S' w' β' x v)(hd:∀ k,d=some k→k<a.tmps.size):
  ∀ i,Rep S' w' β' (zL t d x i) ((a.put d v).tmps.getD i undef):=by
 intro i
 cases d with
 |none=>exact hT i
 | some k=>
  have hk:=hd k rfl;by_cases hi:i=k
  ·subst hi;have:((a.put (some i) v).tmps.getD i undef)=v:=by simp[Act.put,aI,hk]
   rw[this];show Rep S' w' β' (upd t i x i) v;rw[cZ];exact hx
  ·have:((a.put (some k) v).tmps.getD i undef)=a.tmps.getD i undef:=by simp[Act.put,aI,cU (Ne.symm hi)]
   rw[this];show Rep S' w' β' (upd t k x i) _;rw[cA _ _ hi];exact hT i
theorem At(M:SimD C V w0 S0 N D t h a w S β){S':Nat→Prop}{w':World}{β':Bt}{h':AH}(K:StepK w0.heap.size S w β s S' w' β')(H:SimH w0.heap.size S' w' β' h'){x:AV}{v:Value}(hx:Rep S' w' β' x v){d:Option Nat}(hd:∀ k,d=some k→k<N):
  SimD C V w0 S0 N (λ n=>D n∨n=s) (zL t d x) h' (a.put d v) w' S' β':=by
 refine⟨OH a (λ i=>(M.T i).mono K.hS K.hE K.hle) hx (λ k hk=>by rw[M.sz];exact hd k hk),H,M.B.trans K.hB,λ y l hy=>(K.hdom y l hy).imp (M.dom y l) (·.1),?_,?_,λ g cells hg=>(M.G g cells hg).mono K.hS K.hE (LT.refl _),λ b hb=>(K.hN b hb).elim (M.nw b) (λ h=>.inr h.1),V.mono M.iv K⟩
 ·cases d<;>exact M.df
 ·cases d with
  |none=>exact M.sz
  |some k=>simp only[Act.put,jC];exact M.sz
theorem yB(hC:CtxOk C)(M:SimD C V w0 S0 N D t h a w S β)(hs:β s=none)(ev:Operand→AV)(hev:∀ x∈o.op.operands,Rep S w β (ev x) (a.eval x)){x:AV}(hn:NodeR C (bT C) h (opA C ev h s o.op) x h')(hd:∀ k,o.dst=some k→k<N)
  {K:Act→World→Prop} {Q:Exit→Act→World→Prop} (hK:∀ v w' S' β',Rep S' w' β' x v→SimH w0.heap.size S' w' β' h'→StepK w0.heap.size S w β s S' w' β'→K (a.put o.dst v) w'):o.wp C.P a w K Q:=by
 have hop:=LQ (B:=w0.heap.size) hC M.H hs ev a.eval o hev (λ _=>rfl);have fin:Post w0.heap.size S w β s ((execOp a.eval o).run C.P w) x h'→o.wp C.P a w K Q:=by
  rintro ⟨v,w',S',β',h1,h2,h3,h4⟩;unfold Oper.wp;rcases h1 with h1|⟨h1,hv⟩
  ·rw[h1];exact hK v w' S' β' h2 h3 h4
  ·rw[h1];subst hv;exact hK undef w' S' β' h2 h3 h4
 cases hr:opA C ev h s o.op with
 |bad=>rw[hr]at hn;exact hn.elim
 |ok y=>rw[hr]at hn hop;obtain⟨rfl,rfl⟩:=hn;exact fin hop
 |need p y=>rw[hr]at hn hop;obtain⟨hp,rfl,rfl⟩:=hn;exact fin (hop hp)
 |idx rows i f=>rw[hr]at hn hop;obtain⟨row,h0,h1,h2,rfl⟩:=hn;exact fin (hop row x h0 h1 h2)
 |fx p y h2=>rw[hr]at hn hop;obtain⟨hp,rfl,rfl⟩:=hn;exact fin (hop hp)
 |idxfx rows i f=>rw[hr]at hn hop;obtain⟨row,h0,h1,h2,rfl⟩:=hn;exact fin (hop row h' h0 h1 h2)
 |str p rows=>rw[hr]at hn hop;obtain⟨l,hp,h1,rfl,rfl⟩:=hn;exact fin (hop l hp h1)
 |call f args=>
  rw[hr]at hn hop;obtain⟨c1,c2,c3,c4,rfl⟩:=hn;obtain⟨vs,e1,e2⟩:=hop;obtain⟨g1,g2⟩:=Nk (s:=s) M e1 c1 c2 c3 c4;unfold Oper.wp;rw[e2,g1];show Calls C.P f vs.toArray w _;refine g2.mono ?_;rintro e w' ⟨v,S',he,k1,k2,k3⟩;subst he;exact hK v w' S' β k1 k2 k3
theorem Ky(hC:CtxOk C)(M:SimD C V w0 S0 N D t h a w S β)(hsD:∀ x,D x→x<s){f:FuncId}{args:List AV}{Post:AV→AH→Prop}(hx:opA C (evA C t) h s o.op=.call f args)(hH:C.H f args h s Post)
  {K:Act→World→Prop} {Q:Exit→Act→World→Prop} (hd:∀ k,o.dst=some k→k<N) (hK:∀ x h' a' w' S' β',Post x h'→SimD C V w0 S0 N (λ n=>D n∨n=s) (zL t o.dst x) h' a' w' S' β'→K a' w'):o.wp C.P a w K Q:=by
 have hop:=LQ (B:=w0.heap.size) hC M.H (show β s=none from by
  cases hq:β s with
  |none=>rfl
  |some l=>exact absurd (hsD s (M.dom s l hq)) (dU _)) (evA C t) a.eval o (λ x _=>sK M x) (λ _=>rfl)
 rw[hx]at hop;obtain⟨vs,e1,e2⟩:=hop;obtain⟨⟨fn,g1,g2,g3⟩,hcall⟩:=hC.hH _ _ _ _ _ hH;unfold Oper.wp;have g:(callFunc f vs.toArray).run C.P w=.ok (.enter f vs.toArray) w:=by
  simp only[callFunc,Sem.run_bind,program,Sem.run,Result.andThen_ok,g1];have:fn.body.isNone=false:=by cases hb:fn.body<;>simp_all
  simp[g3,this]
 rw[e2,g];show Calls C.P f vs.toArray w _;refine (hcall _ S w β vs M.H (λ x l hx=>hsD x (M.dom x l hx)) M.G.g e1).mono ?_;rintro e w' ⟨v,S',β',r,h',hP,he,k1,k2,k3⟩;subst he;exact hK r h' _ _ _ _ hP (At M k3 k2 k1 hd)
theorem wZ(hC:CtxOk C)(M:SimD C V w0 S0 N D t h a w S β)(hs:β s=none){ops:Array Oper}(hall:ops.toList=all){x:AV}(hst:StepR C (bT C) all o s t h x h')(hd:∀ k,o.dst=some k→k<N)(hgd:∀ i pol d,o.guard=some (i,pol)→(all[i]?).bind (·.dst)=some d→d<N)
  {K:Act→World→Prop} {Q:Exit→Act→World→Prop} (hK:∀ a' w' S' β',SimD C V w0 S0 N (λ n=>D n∨n=s) (zL t o.dst x) h' a' w' S' β'→K a' w'):
  if Region.wanted o (yielded ops a.tmps)then o.wp C.P a w K Q∨(o.asks C.P a w∧LetsOut Q)else K (a.put o.dst undef) w:=by
 unfold StepR at hst
 cases hg:o.guard with
 |none=>
  simp only[hg]at hst;have:Region.wanted o (yielded ops a.tmps)=true:=by simp[Region.wanted,hg]
  rw[if_pos this]
  exact .inl (yB hC M hs _ (λ x _=>sK M x) hst hd λ v w' S' β' h1 h2 h3=>hK _ _ S' β' (At M h3 h2 h1 hd))
 | some q=>
  obtain⟨i,pol⟩:=q;simp only[hg]at hst;obtain⟨d,g,y,q1,q2,⟨rfl,rfl,q3⟩|⟨rfl,q3⟩⟩:=hst
  case inr=>
   rw[FQ M hall hg q1 q2 (hgd i pol d hg q1),if_pos rfl];exact .inl (yB hC M hs _ (λ x _=>sK M x) q3 hd λ v w' S' β' h1 h2 h3=>hK _ _ S' β' (At M h3 h2 h1 hd))
  rw[FQ M hall hg q1 q2 (hgd i pol d hg q1)]
  cases g with
  |false=>
   rw[if_neg (by simp)]
   exact hK _ _ S β (At M (StepK.refl _ _ _ _ _) M.H (.optF false y rfl) hd)
  |true=>
   rw[if_pos rfl];refine .inl ?_;rcases q3 with ⟨_,q5⟩|⟨c,q4,q5,q6⟩
   ·exact yB hC M hs _ (λ x _=>sK M x) (q5 rfl).2 hd λ v w' S' β' h1 h2 h3=>hK _ _ S' β' (At M h3 h2 (.optT true y v rfl h1) hd)
   ·exact yB hC M hs _ (Kx M o.op q4 (q5 rfl)) (q6 rfl).2 hd λ v w' S' β' h1 h2 h3=>hK _ _ S' β' (At M h3 h2 (.optT true y v rfl h1) hd)
def uO(N:Nat)(l:List Oper):Bool:=l.all λ o=>match o.dst with|some d=>Nat.blt d N|none=>true
theorem vV{l:List Oper}(hb:uO N l=true){o:Oper}(ho:o∈l):∀ k,o.dst=some k→k<N:=λ k hk=>by
 have:=iO.1 hb o ho;simp only[hk]at this;exact aP this
theorem Bs(hb:uO N all=true):∀ (i d:Nat),(all[i]?).bind (λ (o:Oper)=>o.dst)=some d→d<N:=λ i d h=>by
 obtain⟨o,ho,hd⟩:=Option.bind_eq_some_iff.1 h;exact vV hb (aB ho) d hd
theorem DS(hC:CtxOk C){ops:Array Oper}(hall:ops.toList=all)(hb:uO N all=true){K:ASt→Prop}{Q:Exit→Act→World→Prop}{n:Nat}:∀ (rest:List Oper) (j:Nat) (t:Nat→AV) (h:AH) (a:Act) (w:World) (S:Nat→Prop) (β:Bt),all.drop j=rest→kX C (bT C) all rest j ⟨t,h,n⟩ K→SimD C V w0 S0 N (· <n+j) t h a w S β→
  (∀ st a' w' S' β',K st→SimD C V w0 S0 N (· <st.n) st.t st.h a' w' S' β'→Q .normal a' w')→wpOps C.P ops Q (List.range' j rest.length) a w
 |[],j,t,h,a,w,S,β,_,hr,M,hQ=>hQ ⟨t,h,n+j⟩ a w S β hr M
 | o::rest,j,t,h,a,w,S,β,hdrop,hr,M,hQ=>by
  have hj:all[j]?=some o:=by
   have:(all.drop j)[0]?=some o:=by rw[hdrop];rfl
   simpa using this
  have hoj:ops[j]?=some o:=by rw[←hj, ←hall,bF]
  have hmem:o∈all:=aB hj;have hs:β (n+j)=none:=by
   cases hq:β (n+j)with
   |none=>rfl
   |some l=>have:=M.dom _ _ hq;omega
  rw[bJ,nX];simp only[wpOps,hoj];have next:∀ (x:AV) (h':AH),kX C (bT C) all rest (j+1) ⟨zL t o.dst x,h',n⟩ K→∀ a' w' S' β',SimD C V w0 S0 N (λ y=>y<n+j∨y=n+j) (zL t o.dst x) h' a' w' S' β'→wpOps C.P ops Q (List.range' (j+1) rest.length) a' w':=λ x h' h2 a' w' S' β' M'=>by
   refine DS hC hall hb rest (j+1) _ h' a' w' S' β' ?_ h2 ?_ hQ
   ·rw[←kV,hdrop];rfl
   ·exact⟨M'.T,M'.H,M'.B,λ y l hy=>(M'.dom y l hy).elim (λ (h:y<n+j)=>show y<n+(j+1) by omega) (λ (h:y=n+j)=>show y<n+(j+1) by omega),M'.df,M'.sz,M'.G,M'.nw,M'.iv⟩
  rcases step_inv hr with ⟨x,h',h1,h2⟩|⟨hg,f,args,Post,hx,hH,hk⟩
  rotate_left
  ·have:Region.wanted o (yielded ops a.tmps)=true:=by simp[Region.wanted,hg]
   rw[if_pos this];exact .inl (Ky hC M (λ x (hx:x<n+j)=>hx) hx hH (vV hb hmem) λ x h' a' w' S' β' hP M'=>next x h' (hk x h' hP) a' w' S' β' M')
  refine wZ hC M hs hall h1 (vV hb hmem) (λ i pol d _ hd=>Bs hb i d hd) λ a' w' S' β' M'=>next x h' h2 a' w' S' β' M'
end
end Go.Proofs.YtlhofpglndhfaaaGreatDoor
