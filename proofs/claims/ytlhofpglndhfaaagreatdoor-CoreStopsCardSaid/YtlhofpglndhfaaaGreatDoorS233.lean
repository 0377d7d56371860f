/- Joined texts. -/
import Derived.Test.YtlhofpglndhfaaaGreatDoorS201
import Derived.Test.YtlhofpglndhfaaaGreatDoorS228
import Derived.Test.YtlhofpglndhfaaaGreatDoorS232
set_option linter.unusedVariables false
set_option linter.unusedSimpArgs false
namespace Go.Proofs.YtlhofpglndhfaaaGreatDoor
set_option maxRecDepth 100000
set_option maxHeartbeats 4000000
open Go.RowKit
theorem abH(n:Nat):(if (0:Int)>(n:Int)then (0:Int)else (n:Int))=(n:Int):=if_neg omT
theorem YG{n:Nat}(h:n≤1000):IntKind.wrap .i64 ((n:Int) - 1)=(n:Int) - 1:=wrap_i64 omT omT
theorem WF{k:Nat}(h0:0<k)(h:k≤1000):IntKind.wrap .i64 (((k:Int) - 1) - 1)=((k - 1:Nat):Int) - 1:=by rw[wrap_i64 omT omT];omega
theorem ZX{a b:Nat}(h:b≤a)(ha:a≤4294967295):IntKind.wrap .u32 ((a:Int) - (b:Int))=((a - b:Nat):Int):=by
 rw[show ((a:Int) - (b:Int))=((a - b:Nat):Int) by omega];exact IG (by omega:a - b≤4294967295) rfl
theorem Ts(a n:Nat)(ha:a≤4294967295)(hn:n≤1000):bT C0 233 [vU a,vN n] (.v (.int .u64 ((a+n:Nat):Int))):=by
 refine bT.intro c0Ok Tryz.func233 rfl rfl (by kernel_rfl) rfl<|cSR<|oR 1 rfl<|rE 1<|cSR<|oR 1 rfl<|rW (.v (.int .u64 (a:Int))) rfl (okI (IG ha rfl))<|oR 1 rfl<|rW (vN n) rfl (okI (abH n))<|rW (.v (.int .u64 (n:Int))) rfl (okI (IG hn rfl)) ?_;have b1:a+n≤4294968295:=aG ha hn;refine rW (.v (.int .u64 ((a+n:Nat):Int))) rfl (okI (IG b1 rfl))<|oR 1 rfl<|rE 8<|cO ?_;exact fT rfl rfl
theorem YH(a n b m:Nat)(ha:a≤4294967295)(hn:n≤1000)(hb:b≤4294967295)(hm:m≤1000):bT C0 221 [vU a,vN n,vU b,vN m] (vB (Fx a n b m)):=by
 refine bT.intro c0Ok Tryz.func221 rfl rfl (by kernel_rfl) rfl<|cSR<|oR 1 rfl<|rE 1<|bK<|cSR<|oR 1 rfl<|rW (vB (decide (n≤0))) rfl (okB (leN _ _))<|oR 1 rfl<|gN rfl<|gBS (x:=vB (decide (m≤0))) rfl id (okB (leN _ _))<|cS rfl rfl rfl (by simp)<|rE 7<|aV rfl (λ h1=>?_) (λ h1=>?_)
 ·refine cSR<|oR 1 rfl<|rE 8<|cO ?_;exact fT rfl (dM (by have z:=h1;simp only[cOr,qA,Fx]at z⊢ <;>grind))
 ·refine bB<|cSR<|oR 1 rfl<|rW (.v (.int .u64 (a:Int))) rfl (okI (IG ha rfl))<|oR 2 rfl<|rCi rfl (Ts b m hb hm)<|rW (vB (decide (a<(b+m)))) rfl (okB (ltN _ _))<|oR 1 rfl<|gN rfl<|gBS (x:=.v (.int .u64 (b:Int))) rfl id (okI (IG hb rfl))<|gN rfl<|gN rfl<|lX (x:=.v (.int .u64 ((a+n:Nat):Int))) (g:=decide (a<(b+m))) rfl rfl rfl rfl hsT rfl rfl rfl (.inl rfl) rfl (λ hg=>Ts a n ha hn)<|gBS (x:=vB (decide (b<(a+n)))) rfl hsT (okB (ltN _ _))<|cS rfl rfl rfl (λ h=>h)<|oR 1 rfl<|rE 22<|cO ?_;exact fT rfl (dM (by have z:=h1;simp only[cOr,qA,Fx]at z⊢ <;>grind))
theorem WG(a n b m:Nat)(ha:a≤4294967295)(hn:n≤1000)(hb:b≤4294967295)(hm:m≤1000):bT C0 222 [vU a,vN n,vU b,vN m] (vB (EA a n b m)):=by
 refine bT.intro c0Ok Tryz.func222 rfl rfl (by kernel_rfl) rfl<|cSR<|oR 1 rfl<|rE 1<|cSR<|oR 1 rfl<|rW (vB (decide (m>0))) rfl (okB (gtN _ _))<|oR 1 rfl<|gN rfl<|gN rfl<|gBS (x:=vB (decide (a≤b))) rfl hsT (okB (leN _ _))<|cS rfl rfl rfl (λ h=>h)<|oR 1 rfl<|gN rfl<|gN rfl<|lX (x:=.v (.int .u64 ((b+m:Nat):Int))) (g:=dE (decide (m>0)) (decide (a≤b)) false) rfl rfl rfl rfl hsT rfl rfl rfl (.inl rfl) rfl (λ hg=>Ts b m hb hm)<|gN rfl<|gN rfl<|lX (x:=.v (.int .u64 ((a+n:Nat):Int))) (g:=dE (decide (m>0)) (decide (a≤b)) false) rfl rfl rfl rfl hsT rfl rfl rfl (.inl rfl) rfl (λ hg=>Ts a n ha hn)<|gBS (x:=vB (decide ((b+m)≤(a+n)))) rfl hsT (okB (leN _ _))<|cS rfl rfl rfl (λ h=>h)<|oR 1 rfl<|rE 18<|cO ?_;exact fT rfl (dM (by simp only[cOr,qA,EA]<;>grind))
def abI(s:Std):Value:=.agg #[.int .u32 (s.addr:Int),.int .i64 (s.size:Int),.string s.data,.bool s.there]
def YI(s:Std):Array Value:= #[abI s]
abbrev sdL(s:Std):List AV:=[vU s.addr,vN s.size,.v (.string s.data),vB s.there]
def MP(R:List Ent)(k:Nat):List Std:=(((R.drop k).filter λ e=>isK e 4).map Ez).reverse
def Tt(R:List Ent)(S:List Pt)(k:Nat):List Std:=MP R 0++((S.drop k).map CA).reverse
theorem MQ(R:List Ent)(S:List Pt):Fw R S=MP R 0++(S.map CA).reverse:=rfl
theorem EN{α:Type}{l:List α}{k:Nat}{x:α}(h0:0<k)(h:l[k - 1]?=some x):l.drop (k - 1)=x::l.drop k:=by
 obtain⟨hl,rfl⟩:=DK.1 h;rw[eJ hl,show k - 1+1=k by omega]
theorem MR{R:List Ent}{k:Nat}{x:Ent}(h0:0<k)(h:R[k - 1]?=some x)(hk:isK x 4=true):MP R (k - 1)=MP R k++[Ez x]:=by
 unfold MP;rw[EN h0 h,List.filter_cons_of_pos (by simpa using hk)];simp
theorem WI{R:List Ent}{k:Nat}{x:Ent}(h0:0<k)(h:R[k - 1]?=some x)(hk:isK x 4=false):MP R k=MP R (k - 1):=by
 unfold MP;rw[EN h0 h,List.filter_cons_of_neg (by simpa using hk)]
theorem Tu(R:List Ent)(S:List Pt)(k:Nat):MP R k <+: Fw R S:=by
 rw[MQ];refine List.IsPrefix.trans ?_ (List.prefix_append _ _);refine⟨(((R.take k).filter λ e=>isK e 4).map Ez).reverse,?_⟩;unfold MP;rw[←List.reverse_append, ←eA, ←iT,gF,cH]
theorem NW(R:List Ent):MP R R.length=[]:=by unfold MP;rw[List.drop_length];rfl
theorem JX{R:List Ent}{S:List Pt}{k:Nat}{x:Pt}(h0:0<k)(h:S[k - 1]?=some x):Tt R S (k - 1)=Tt R S k++[CA x]:=by
 unfold Tt;rw[EN h0 h];simp
theorem Tv(R:List Ent)(S:List Pt)(k:Nat):Tt R S k <+: Fw R S:=by
 rw[MQ];unfold Tt;rw[List.prefix_append_right_inj];refine⟨((S.take k).map CA).reverse,?_⟩;rw[←List.reverse_append, ←eA,gF]
theorem NY(R:List Ent)(S:List Pt):Tt R S S.length=MP R 0:=by unfold Tt;rw[List.drop_length];simp
theorem Tw(R:List Ent)(S:List Pt):Tt R S 0=Fw R S:=rfl
theorem Tx{R:List Ent}{S:List Pt}(ho:∀ x∈R,x.ok)(hso:∀ x∈S,x.ok)(hss:∀ x∈S,x.data.size≤4){s:Std}(h:s∈Fw R S):s.addr≤4294967295∧s.size≤4∧s.data.size=s.size:=by
 unfold Fw at h;rcases al_List_mem_append.1 h with h|h
 ·obtain⟨e,he,rfl⟩:=sF.1 (List.mem_reverse.1 h);exact⟨(ho e (List.mem_filter.1 he).1).addr,tL _,yR _ _⟩
 ·obtain⟨p,hp,rfl⟩:=sF.1 (List.mem_reverse.1 h);exact⟨(hso p hp).addr,hss p hp,rfl⟩
theorem Dc{at_ n:Nat}:∀ {l:List Std},(∀ s,s∈l→Fx s.addr s.size at_ n=false)→wP at_ n l=(2,nE)
 |[],_=>rfl
 |s::l,h=>by
  simp only[wP];rw[if_pos (h s al_List_mem_cons_self)];exact Dc λ y hy=>h y (bE _ hy)
theorem CI{at_ n:Nat}{s:Std}:∀ {pre l:List Std},pre++[s] <+: l→(∀ y,y∈pre→Fx y.addr y.size at_ n=false)→Fx s.addr s.size at_ n=true→
  wP at_ n l=if EA s.addr s.size at_ n=false∨s.there=false then (0,nE)else (1,s.data.extract (at_ - s.addr) (at_ - s.addr+n))
 |[],[],h,_,_=>by have:=h.length_le;simp at this
 |[],y::l,h,_,hs=>by
  obtain⟨t,ht⟩:=h;obtain⟨rfl, -⟩:=List.cons.inj ht
  simp only[wP];rw[if_neg (by simp[hs])]
 |y::pre,[],h,_,_=>by have:=h.length_le;simp at this
 |y::pre,z::l,h,hN,hs=>by
  obtain⟨t,ht⟩:=h;obtain⟨h3,h4⟩:=List.cons.inj ht;subst h3;simp only[wP];rw[if_pos (hN y al_List_mem_cons_self)];exact CI ⟨t,h4⟩ (λ y hy=>hN y (bE _ hy)) hs
theorem QQ(R:List Ent)(S:List Pt)(ck ck2:Bool)(hl:R.length≤1000)(ho:∀ x∈R,x.ok)(hst:S.length≤1000)(hso:∀ x∈S,x.ok):Tp C0 232 [.dp 1 0 ([.sl 17 (R.map enL) ck]),.dp 1 0 ([.sl 2 (S.map ptL) ck2])] YI (Fw R S):=by
 refine Tp.intro c0Ok Tryz.func232 rfl rfl (by kernel_rfl) rfl ?_;intro y;refine vQ<|vQ<|sB rfl<|cRg<|oR 1 rfl<|rW (vN R.length) rfl (cG enL R)<|rW (vI (((R.length:Nat):Int) - 1)) rfl (okI (YG hl))<|oR 1 rfl<|rE 4<|CH<|QI (κ:=Nat) (λ k=>⟨slotsF [(0,.v y),(1,.dp 1 0 ([.sl 17 (R.map enL) ck])),(2,.dp 1 0 ([.sl 2 (S.map ptL) ck2])),(4,vI ((k:Int) - 1))],heapF [],4⟩) (λ k=>MP R k) (λ k=>k≤R.length) (λ k=>k) R.length (λ s=>s) (Weak.of_lists (λ s=>s) wT trivial rfl) rfl (NW R) (aC _) ?_;intro k hk;have hkB:k≤1000:=by have:k≤R.length:=hk;omega
 refine vQ<|vQ<|sB rfl<|cRg<|oR 1 rfl<|rV (vB (decide (((k:Int) - 1)≥0))) rfl<|rE 6<|EK (v:=decide (((k:Int) - 1)≥0)) rfl (λ h1=>?_) (λ h1=>?_)
 ·have h1p:=of_decide_eq_true h1;have hk0:0<k:=by omega
  refine sB rfl<|bB<|vQ<|CH<|vQ<|sB rfl<|cRg<|oR 2 rfl ?_;obtain⟨x,hx⟩:∃ y_,R[k - 1]?=some y_:=⟨_,aA omT⟩;have hxo:=ho x (aB hx);refine CP (enL x) (x:=.dp 17 0 (enL x)) rfl rfl rfl (⟨by omega,by rw[show ((k:Int) - 1).toNat=k - 1 by omega];exact jH hx⟩) rfl<|oR 1 rfl<|rAl 10 rfl rfl<|rSt rfl<|rE 12<|vQ<|vQ<|sB rfl<|cRg<|oR 2 rfl<|rCi rfl (qR x.i)<|rW (vB ((kindOf x.i.op) != 4)) rfl (okB (neN _ _))<|rE 16<|EK (v:=(kindOf x.i.op) != 4) rfl (λ h2=>?_) (λ h2=>?_)
  ·have h2p:=wN h2;have hkf:isK x 4=false:=by unfold isK;simpa using h2p
   refine sB rfl<|eP<|sB rfl<|cRg<|oR 1 rfl<|rW (vI (((k - 1:Nat):Int) - 1)) rfl (okI (WF hk0 hkB))<|oR 1 rfl<|rE 19 ?_;refine⟨rfl,k - 1,λ s=>s,Weak.of_lists _ wT trivial rfl,rfl,(WI hk0 hx hkf).symm,(by show k - 1≤R.length;omega),(by show k - 1<k;omega)⟩
  ·have h2p:=wO h2;have hkt:isK x 4=true:=by unfold isK;simpa using h2p
   refine sB rfl<|bB<|vQ<|sB rfl<|cRg<|oR 2 rfl<|rCi rfl (Ie x.i)<|oR 1 rfl<|rE 20<|vQ<|sB rfl<|cRg<|oR 3 rfl<|rCi rfl (Qi x.value (dB x.i.op) (BT hxo.value) (tL x.i.op))<|oR 5 rfl<|rE 29<|vQ<|QJ rfl 9 rfl rfl rfl<|oR 7 rfl<|rV (vB (x.is==3)) rfl<|rV (.agg [vU x.addr,vN (dB x.i.op),.v (.string (rY x.value (dB x.i.op))),vB (x.is==3)]) rfl<|rE 38 ?_;refine⟨Ez x,_,⟨slotsF [(0,.v y),(1,.dp 1 0 ([.sl 17 (R.map enL) ck])),(2,.dp 1 0 ([.sl 2 (S.map ptL) ck2])),(4,vI ((k:Int) - 1)),(36,.v y),(44,.agg [vU x.addr,vN (dB x.i.op),.v (.string (rY x.value (dB x.i.op))),vB (x.is==3)])],heapF [],0⟩,λ s=>s,Weak.of_lists _ wT trivial rfl,rfl,rfl,rfl,rfl,rfl,rfl,(by rw[←MR hk0 hx hkt];exact Tu R S _),λ yb1=>?_⟩;refine oR 1 rfl<|rE 40<|EK (v:= !yb1) rfl (λ h3=>?_) (λ h3=>?_)
   ·refine sB rfl<|cO ?_;intro hs;rw[h3]at hs;cases hs
   ·refine sB rfl<|bB<|sB rfl<|cRg<|oR 1 rfl<|rW (vI (((k - 1:Nat):Int) - 1)) rfl (okI (WF hk0 hkB))<|oR 1 rfl<|rE 43 ?_;refine⟨h3,k - 1,λ s=>s,Weak.of_lists _ wT trivial rfl,rfl,(MR hk0 hx hkt),(by show k - 1≤R.length;omega),(by show k - 1<k;omega)⟩
 ·have h1p:=aE h1;refine sB rfl<|eP<|vQ<|sB rfl<|cRg<|oR 1 rfl<|rW (vN S.length) rfl (cG ptL S)<|rW (vI (((S.length:Nat):Int) - 1)) rfl (okI (YG hst))<|oR 1 rfl<|rE 10<|CH ?_;obtain hk_:k=0:=by omega
  subst hk_;refine QI (κ:=Nat) (λ j=>⟨slotsF [(0,.v y),(1,.dp 1 0 ([.sl 17 (R.map enL) ck])),(2,.dp 1 0 ([.sl 2 (S.map ptL) ck2])),(9,vI ((j:Int) - 1))],heapF [],10⟩) (λ j=>Tt R S j) (λ j=>j≤S.length) (λ j=>j) S.length (λ s=>s) (Weak.of_lists (λ s=>s) wT trivial rfl) rfl (NY R S) (aC _) ?_;intro j hj;have hjB:j≤1000:=by have:j≤S.length:=hj;omega
  refine vQ<|vQ<|sB rfl<|cRg<|oR 1 rfl<|rV (vB (decide (((j:Int) - 1)≥0))) rfl<|rE 12<|EK (v:=decide (((j:Int) - 1)≥0)) rfl (λ h4=>?_) (λ h4=>?_)
  ·have h4p:=of_decide_eq_true h4;have hj0:0<j:=by omega
   refine sB rfl<|bB<|vQ<|CH<|vQ<|sB rfl<|cRg<|oR 2 rfl ?_;obtain⟨p,hp⟩:∃ y_,S[j - 1]?=some y_:=⟨_,aA omT⟩;have hpo:=hso p (aB hp);refine CP (ptL p) (x:=.dp 2 0 (ptL p)) rfl rfl rfl (⟨by omega,by rw[show ((j:Int) - 1).toNat=j - 1 by omega];exact jH hp⟩) rfl<|oR 1 rfl<|rAl 16 rfl rfl<|rSt rfl<|rE 18<|vQ<|QJ rfl 9 rfl rfl rfl<|oR 5 rfl<|rV (vN p.data.size) rfl<|oR 2 rfl<|rV (.agg [vU p.addr,vN p.data.size,.v (.string p.data),vB true]) rfl<|rE 27 ?_;refine⟨CA p,_,⟨slotsF [(0,.v y),(1,.dp 1 0 ([.sl 17 (R.map enL) ck])),(2,.dp 1 0 ([.sl 2 (S.map ptL) ck2])),(9,vI ((j:Int) - 1)),(58,.v y),(66,.agg [vU p.addr,vN p.data.size,.v (.string p.data),vB true])],heapF [],0⟩,λ s=>s,Weak.of_lists _ wT trivial rfl,rfl,rfl,rfl,rfl,rfl,rfl,(by rw[←JX hj0 hp];exact Tv R S _),λ yb2=>?_⟩;refine oR 1 rfl<|rE 29<|EK (v:= !yb2) rfl (λ h5=>?_) (λ h5=>?_)
   ·refine sB rfl<|cO ?_;intro hs;rw[h5]at hs;cases hs
   ·refine sB rfl<|bB<|sB rfl<|cRg<|oR 1 rfl<|rW (vI (((j - 1:Nat):Int) - 1)) rfl (okI (WF hj0 hjB))<|oR 1 rfl<|rE 32 ?_;refine⟨h5,j - 1,λ s=>s,Weak.of_lists _ wT trivial rfl,rfl,(JX hj0 hp),(by show j - 1≤S.length;omega),(by show j - 1<j;omega)⟩
  ·have h4p:=aE h4;refine sB rfl<|eP ?_;intro _;obtain hj_:j=0:=by omega
   subst hj_;exact Tw R S
theorem QR(R:List Ent)(S:List Pt)(ck ck2:Bool)(hl:R.length≤1000)(ho:∀ x∈R,x.ok)(hst:S.length≤1000)(hso:∀ x∈S,x.ok):bT C0 220 [.sl 17 (R.map enL) ck,.sl 2 (S.map ptL) ck2] (.clo 232 [] [.dp 1 0 [.sl 17 (R.map enL) ck],.dp 1 0 [.sl 2 (S.map ptL) ck2]]):=by
 refine bT.intro c0Ok Tryz.func220 rfl rfl (by kernel_rfl) rfl<|cSR<|rAl 0 rfl rfl<|rAl 1 rfl rfl<|oR 1 rfl<|rE 3<|cSR<|rV (.clo 232 [] [.ptr 0 0,.ptr 1 0]) rfl<|oR 1 rfl<|rE 5<|cO ?_;exact eQ rfl tvT rfl rfl
theorem Ty{l:List Ent}{k:Nat}{x:Ent}(h:∀ y,y∈l.take k→Aj y=false)(hx:l[k]?=some x)(hv:Aj x=false):∀ y,y∈l.take (k+1)→Aj y=false:=by
 intro y hy;rw[bV,hx]at hy;rcases al_List_mem_append.1 hy with hy|hy
 ·exact h y hy
 ·have:y=x:=by simpa using hy
  rw[this];exact hv
theorem Tz{rob:List Ent}{stores:List Pt}{i:Nat}{e:Ent}(he:rob[i]?=some e)(hk: ¬ kindOf e.i.op=3):kZ rob stores i=(0,nE):=by
 unfold kZ;rw[he];exact if_pos hk
theorem QS{rob:List Ent}{stores:List Pt}{i k:Nat}{e x:Ent}(he:rob[i]?=some e)(hk:kindOf e.i.op=3)(hx:(rob.take i)[k]?=some x)(hv:Aj x=true):kZ rob stores i=(0,nE):=by
 unfold kZ;rw[he];exact (if_neg (λ h=>h hk)).trans (if_pos (LK.2 ⟨x,aB hx,hv⟩))
theorem QT{rob:List Ent}{stores:List Pt}{i k:Nat}{e:Ent}(he:rob[i]?=some e)(hk:kindOf e.i.op=3)(hN:∀ y,y∈(rob.take i).take k→Aj y=false)(hle:(rob.take i).length≤k):kZ rob stores i=wP e.addr (dB e.i.op) (Fw (rob.take i) stores):=by
 unfold kZ;rw[he];refine (if_neg (λ h=>h hk)).trans (if_neg λ h=>?_);obtain⟨x,hx,hv⟩:=LK.1 h;rw[aM hle]at hN;rw[hN x hx]at hv;cases hv
theorem WJ(rob:List Ent)(stores:List Pt)(ck ck2:Bool)(i:Nat)(hl:rob.length≤1000)(ho:∀ x∈rob,x.ok)(hst:stores.length≤1000)(hso:∀ x∈stores,x.ok)(hss:∀ x∈stores,x.data.size≤4)(hi:i<rob.length):bT C0 207 [.sl 17 (rob.map enL) ck,.sl 2 (stores.map ptL) ck2,vN i] (.tup [vI (kZ rob stores i).1,.v (.string (kZ rob stores i).2)]):=by
 refine dc1 (bT.introR (C:=C1) (λ d=>c1Ok.wd d) (λ n=>c1Ok.at) Tryz.func207 rfl rfl (by kernel_rfl) rfl ?_);have hiB:i≤1000:=by omega
 have htl:(rob.take i).length≤1000:=by rw[aN];omega
 have hto:∀ x∈rob.take i,x.ok:=λ x hx=>ho x (cK hx);refine zG<|yU rfl<|cRg<|rAl 0 rfl rfl<|rAl 1 rfl rfl<|rE 2<|Wz<|zG<|zG<|yU rfl<|cRg<|oR 1 rfl<|rW (vB (decide (i<0))) rfl (okB (ltN _ _))<|oR 1 rfl<|gN rfl<|gN rfl<|gBS (x:=vN rob.length) rfl id (cG enL rob)<|gBS (x:=vB (decide (i≥rob.length))) rfl hsT (okB (geN _ _))<|cS rfl rfl rfl (by simp)<|oR 1 rfl<|gN rfl<|gN rfl ?_;obtain⟨e,he⟩:∃ y_,rob[i]?=some y_:=⟨_,aA omT⟩;have heo:=ho e (aB he);refine KL (enL e) (x:=.dp 17 0 (enL e)) (g:= !(dE (decide (i<0)) true (decide (i≥rob.length)))) rfl rfl rfl rfl hsT rfl rfl (λ hg=>⟨aF _,jH he⟩) rfl<|gS rfl id<|gS rfl id<|lX (x:=vN (kindOf e.i.op)) (g:= !(dE (decide (i<0)) true (decide (i≥rob.length)))) rfl rfl rfl rfl (λ h=>h) rfl rfl rfl (.inl rfl) rfl (λ hg=>qR e.i)<|gBS (x:=vB ((kindOf e.i.op) != 3)) rfl id (okB (neN _ _))<|cS rfl rfl rfl (by simp)<|rE 19<|UI (v:=dE (dE (decide (i<0)) true (decide (i≥rob.length))) true ((kindOf e.i.op) != 3)) rfl (λ h1=>?_) (λ h1=>?_)
 ·have hk3: ¬ kindOf e.i.op=3:=by have z:=h1;simp only[cOr]at z;grind
  refine zG<|yU rfl<|cRg<|rSt rfl<|rSt rfl<|rE 21<|yU rfl<|cO ?_;have e1:=Tz (stores:=stores) he hk3;rw[e1];exact fT rfl rfl
 ·have hk3:kindOf e.i.op=3:=by have z:=h1;simp only[cOr]at z;grind
  refine yU rfl<|bB<|zG<|zG<|yU rfl<|cRg<|oR 2 rfl<|nW (.sl 17 ((rob.take i).map enL) (ck&&false)) rfl (xJ (vF enL rob i)) slT<|rW (vN i) rfl (vD enL (rob.take i) omT)<|oR 1 rfl<|rE 24<|Lq<|YB<|oE (κ:=Nat) (λ k=>⟨slotsF [(0,.sl 17 (rob.map enL) ck),(1,.sl 2 (stores.map ptL) ck2),(2,vN i),(6,.ptr 0 0),(7,.ptr 1 0),(30,vB (dE (dE (decide (i<0)) true (decide (i≥rob.length))) true ((kindOf e.i.op) != 3))),(33,.sl 17 ((rob.take i).map enL) (ck&&false)),(34,vN i),(35,vN k)],heapF [(0,.box [vI 0]),(1,.box [.v (.string (⟨#[]⟩:ByteArray))])],24⟩) (λ k=>k≤i∧∀ y,y∈(rob.take i).take k→Aj y=false) (λ k=>i - k) 0 (λ s=>s) (Weak.of_lists (λ s=>s) wT wH rfl) (⟨aD _,(λ y hy=>by cases hy)⟩) ?_;intro k hk;have hkn:k≤i:=hk.1;have hkB:k≤1000000:=by omega
  refine cSR<|rW (vB (decide (k<i))) rfl (okB (ltN _ _))<|rE 25<|bK<|aV rfl (λ h2=>?_) (λ h2=>?_)
  ·have h2p:=of_decide_eq_true h2;refine bB<|bK<|bL<|cSR ?_;obtain⟨x,hx⟩:∃ y_,(rob.take i)[k]?=some y_:=⟨_,aA omT⟩;have hxo:=(yL ho) x (aB hx);refine rIx (enL x) (.dp 17 0 (enL x)) rfl rfl (jH hx) rfl<|oR 1 rfl<|rAl 27 rfl rfl<|rSt rfl<|rE 29<|cSR<|oR 2 rfl<|rCi rfl (qR x.i)<|rW (vB ((kindOf x.i.op)==4)) rfl (okB (eqN _ _))<|oR 1 rfl<|gN rfl<|gS rfl id<|gS rfl id<|gS rfl id<|gN rfl<|gS rfl id<|gBS (x:=vB (x.halt != 0)) rfl id rfl<|vW (x:=vB (dE (!x.known) true (x.halt != 0))) (g:=(kindOf x.i.op)==4) rfl rfl rfl rfl (λ h=>h) rfl rfl (λ hg hc=>by first|(rw[hg,hc];rfl)|simp_all)<|cS rfl rfl rfl (λ h=>h)<|rE 43<|aV rfl (λ h3=>?_) (λ h3=>?_)
   ·have hv:Aj x=true:=by have z:=h3;unfold Aj isK;simp only[cOr,qA]at z⊢;grind
    refine cSR<|rSt rfl<|rSt rfl<|rE 45<|cO ?_;have e1:=QS (stores:=stores) he hk3 hx hv;rw[e1];exact fT rfl rfl
   ·have hv:Aj x=false:=by have z:=h3;unfold Aj isK;simp only[cOr,qA]at z⊢;grind
    refine bB<|cRg ?_;have b1:k+1≤1000001:=aG hkB (aC 1);refine rW (vN (k+1)) rfl (okI (bU b1 rfl))<|oR 1 rfl<|rE 45 ?_;refine⟨k+1,λ s=>s,Weak.of_lists _ wT wH rfl,⟨by omega,Ty hk.2 hx hv⟩,by show i - (k+1)<i - k;omega⟩
  ·have h2p:=aE h2;have hN0:=hk.2;have hk0:(rob.take i).length≤k:=by rw[aN];omega
   refine eP<|zG<|yU rfl<|cRg<|oR 2 rfl<|rIx (enL e) (.dp 17 0 (enL e)) rfl rfl (jH he) rfl<|oR 4 rfl<|rIx (enL e) (.dp 17 0 (enL e)) rfl rfl (jH he) rfl<|oR 2 rfl<|rCi rfl (Ie e.i)<|rAl 36 rfl rfl<|rAl 37 rfl rfl<|rSt rfl<|rSt rfl<|rE 40<|zG<|yU rfl<|YC<|zG<|zG<|yU rfl<|cRg<|oR 2 rfl<|nW (.sl 17 ((rob.take i).map enL) (ck&&false)) rfl (xJ (vF enL rob i)) slT<|oR 1 rfl<|rCi rfl (QR (rob.take i) stores (ck&&false) ck2 htl hto hst hso)<|rE 45<|Lq<|QH (.mk _ (.refl _) ⟨⟨slotsF [(6,.ptr 0 0),(7,.ptr 1 0),(10,.ptr 2 0),(11,.ptr 3 0),(69,.clo 232 [] [.dp 1 0 ([.sl 17 ((rob.take i).map enL) (ck&&false)]),.dp 1 0 ([.sl 2 (stores.map ptL) ck2])])],heapF [(0,.box [vI 0]),(1,.box [.v (.string (⟨#[]⟩:ByteArray))]),(2,.box [vU e.addr]),(3,.box [vN (dB e.i.op)])],4⟩,λ s=>match s with|2=>36|3=>37|s=>s,Weak.of_lists _ wT wH rfl,rfl,?_⟩);refine .mk Std 232 [.dp 1 0 ([.sl 17 ((rob.take i).map enL) (ck&&false)]),.dp 1 0 ([.sl 2 (stores.map ptL) ck2])] (λ s:Std=>[.agg (sdL s)]) YI (Fw (rob.take i) stores) (λ s:Std=>Fx s.addr s.size e.addr (dB e.i.op)=false) rfl rfl ⟨_,Tryz.func232,rfl,rfl⟩ (QQ (rob.take i) stores (ck&&false) ck2 htl hto hst hso) (λ x S w β=>Dw (show IF [.agg (sdL x)]=some _ from rfl)) (λ _=>rfl) rfl ?_ ?_
   ·intro pre_ s hp_ hN_;have hsk:=Tx hto hso hss (hp_.subset (List.mem_append_right _ (tW.2 rfl)));have hsz:s.size≤1000:=by omega
    have hne:dB e.i.op≤1000:=aL (tL e.i.op) (by decide);refine cRg<|rAl 4 rfl rfl<|rSt rfl<|rE 6 ?_;refine⟨rfl,?_⟩;refine bL<|bK<|cSR<|oR 6 rfl<|rCi rfl (YH s.addr s.size e.addr (dB e.i.op) hsk.1 hsz heo.addr hne)<|oR 1 rfl<|rE 14<|aV rfl (λ h4=>?_) (λ h4=>?_)
    ·have hlp:Fx s.addr s.size e.addr (dB e.i.op)=false:=by simpa using h4
     refine eP ?_;exact⟨hlp,.mk _ (.refl _) ⟨λ s=>s,rfl,Weak.of_lists (l:=[]) (hp:=[(0,.box [vI 0]),(1,.box [.v (.string (⟨#[]⟩:ByteArray))]),(2,.box [vU e.addr]),(3,.box [vN (dB e.i.op)])]) (λ s=>s) trivial wH rfl⟩⟩
    ·have hlp:Fx s.addr s.size e.addr (dB e.i.op)=true:=by simpa using h4
     refine bB<|bK<|cSR<|oR 6 rfl<|rCi rfl (WG s.addr s.size e.addr (dB e.i.op) hsk.1 hsz heo.addr hne)<|oR 2 rfl<|gN rfl<|gS rfl id<|gS rfl id<|cS rfl rfl rfl (by simp)<|rE 27<|aV rfl (λ h5=>?_) (λ h5=>?_)
     ·have hhd:EA s.addr s.size e.addr (dB e.i.op)=false∨s.there=false:=by have z:=h5;simp only[cOr]at z;grind
      refine cSR<|rSt rfl<|rSt rfl<|rE 29<|cO<|.mk _ (.refl _) ⟨heapF [(0,.box [vI 0]),(1,.box [.v (.string (⟨#[]⟩:ByteArray))]),(2,.box [vU e.addr]),(3,.box [vN (dB e.i.op)])],λ s=>s,rfl,Weak.of_lists (l:=[]) (hp:=[(0,.box [vI 0]),(1,.box [.v (.string (⟨#[]⟩:ByteArray))]),(2,.box [vU e.addr]),(3,.box [vN (dB e.i.op)])]) (λ s=>s) trivial wH rfl,?_⟩;intro D;have e1:=(QT (stores:=stores) he hk3 hN0 hk0).trans ((CI hp_ hN_ hlp).trans (if_pos hhd));rw[e1];exact fT rfl rfl
     ·have hhd: ¬ (EA s.addr s.size e.addr (dB e.i.op)=false∨s.there=false):=by have z:=h5;simp only[cOr]at z;grind
      have hlh:s.addr≤e.addr∧e.addr+dB e.i.op≤s.addr+s.size:=by have z:=hhd;simp only[not_or,Bool.not_eq_false]at z;have y:=z.1;unfold EA at y;simp only[aH,aS]at y;omega
      refine bB<|cSR<|oR 3 rfl<|rW (vU (e.addr - s.addr)) rfl (okI (ZX hlh.1 heo.addr))<|rW (vN (e.addr - s.addr)) rfl (okI (bU (aL (jT _ _) heo.addr) rfl))<|oR 1 rfl<|rE 33<|bK<|Fp rfl rfl<|oR 5 rfl ?_;have b2:(e.addr - s.addr)+(dB e.i.op)≤4294967299:=aG (aL (jT _ _) heo.addr) (tL e.i.op);refine rW (vN ((e.addr - s.addr)+(dB e.i.op))) rfl (okI (bU b2 rfl))<|nW (.v (.string (s.data.extract (e.addr - s.addr) ((e.addr - s.addr)+(dB e.i.op))))) rfl rfl (by refine⟨?_,?_,?_⟩<;>(first|exact aF _|decide|(apply Ff.2;exact omT)))<|rSt rfl<|rSt rfl<|rE 42<|And.intro (by kernel_rfl)<|cO<|.mk _ (.refl _) ⟨heapF [(0,.box [vI 1]),(1,.box [.v (.string (s.data.extract (e.addr - s.addr) ((e.addr - s.addr)+(dB e.i.op))))]),(2,.box [vU e.addr]),(3,.box [vN (dB e.i.op)])],λ s=>s,rfl,Weak.of_lists (l:=[]) (hp:=[(0,.box [vI 1]),(1,.box [.v (.string (s.data.extract (e.addr - s.addr) ((e.addr - s.addr)+(dB e.i.op))))]),(2,.box [vU e.addr]),(3,.box [vN (dB e.i.op)])]) (λ s=>s) trivial wH rfl,?_⟩;intro D;have e1:=(QT (stores:=stores) he hk3 hN0 hk0).trans ((CI hp_ hN_ hlp).trans (if_neg hhd));rw[e1];exact fT rfl rfl
   ·intro hN D;refine zG<|yU rfl<|cRg<|rSt rfl<|rSt rfl<|rE 6<|yU rfl<|cO ?_;have e1:=(QT (stores:=stores) he hk3 hN0 hk0).trans (Dc hN);rw[e1];exact fT rfl rfl
section
variable {α:Type}{f:α→List AV}{A l B:List α}{lo:Nat}
theorem jO{x:α}{i:Nat}(hlo:A.length=lo)(hx:l[i]?=some x):(A++l++B)[lo+i]?=some x:=by
 have hi:=(DK.1 hx).1;rw[fG,bS omT, ←hlo,Nat.add_sub_cancel_left,cI hi,hx]
theorem tK{n:Nat}(hlo:A.length=lo)(hn:l.length=n):List.take n (List.drop lo ((A++l++B).map f))=l.map f:=by
 subst hlo;subst hn;rw[←lU, ←fU];congr 1;rw[fG,List.drop_left,List.take_left]
theorem VN{x:α}{i:Nat}(hlo:A.length=lo)(hi:i<l.length):(A++l++B).set (lo+i) x=A++l.set i x++B:=by
 subst hlo;rw[fG,kA _ _ omT,Nat.add_sub_cancel_left,List.set_append_left _ _ hi,fG]
theorem uC{x:α}{i:Nat}{h:AH}{b rs:Nat}(hlo:A.length=lo)(hi:i<l.length):some (upd h b (some (.arr (((A++l++B).map f).set (lo+i) (f x)) rs)))=some (upd h b (some (.arr ((A++l.set i x++B).map f) rs))):=by
 rw[←List.map_set,VN hlo hi]
end
theorem SF(op:Int)(s:ByteArray):loadP op s≤4294967295:=by
 unfold loadP;split
 ·rename_i h;have h4:s.size≤4:=by have:=tL op;omega
  have:=EF s h4;split
  ·exact aT (KM _ _ omT)
  ·split
   ·exact aT (KM _ _ omT)
   ·omega
 ·exact aD _
theorem PD{e:Ent}(he:e.ok){a b:Nat}(ha:a≤4294967295)(hb:b≤4294967295):(oU e a b).ok:=by
 have hv:tS e a b≤4294967295:=by
  unfold tS;split
  ·exact aD _
  ·exact aT (Wk _ _ _ _ _ (BT he.imm) (BT ha) (BT hb))
 have hu:up4 e.pc≤4294967295:=by unfold up4;omega
 have hx:wS e.i.op e.i.imm e.pc a b≤4294967295:=aT (MB _ _ _ _ _);unfold oU
 repeat' split
 all_goals first|exact he|exact⟨he.pc,he.imm,he.guess,hv,hu,he.addr⟩|exact⟨he.pc,he.imm,he.guess,hv,hx,he.addr⟩|exact⟨he.pc,he.imm,he.guess,aD _,hu,he.addr⟩
theorem PE{e:Ent}(he:e.ok):(goE e).ok:=by
 unfold goE;repeat' split
 all_goals first|exact he|exact⟨he.pc,he.imm,he.guess,he.value,he.next,he.addr⟩
theorem Hz{e:Ent}(he:e.ok)(size:Int)(a:Nat):(qO e size a).ok:=by
 have hx:(a+e.i.imm) % 4294967296≤4294967295:=by omega
 unfold qO;repeat' split
 all_goals first|exact he|exact⟨he.pc,he.imm,he.guess,he.value,he.next,hx⟩
theorem HA{e:Ent}(he:e.ok)(s:ByteArray):(rU e s).ok:=by
 have hl:loadP e.i.op s≤4294967295:=SF e.i.op s;unfold rU;split
 ·exact he
 ·refine⟨he.pc,he.imm,he.guess,?_,he.next,he.addr⟩;show (if wr e.i=0 then 0 else loadP e.i.op s)≤_;split<;>omega
theorem Jt(rob:List Ent)(stores:List Pt)(i:Nat):(kZ rob stores i).2.size≤100:=by
 have hs:∀ (l:List Std) (a n:Nat),n≤4→(wP a n l).2.size≤100:=by
  intro l a n hn
  induction l with
  |nil=>exact aD _
  | cons s l ih=>
   unfold wP;split
   ·exact ih
   ·split
    ·exact aD _
    ·show (s.data.extract _ _).size≤100;rw[cY];omega
 unfold kZ;split
 ·exact aD _
 ·split
  ·exact aD _
  ·split
   ·exact aD _
   ·exact hs _ _ _ (tL _)
theorem Gi{c:Co}(h:c.mem.size≤256)(e:Ent):(oG c e).size≤1000:=by
 unfold oG Wi;split
 ·rw[cY];have:=BM c.stores c.data c.bus c.mem;unfold tT;omega
 ·exact aD _
theorem Ju(q:List Req)(line:Nat)(k:Int):Lv q line [k]=DE q line k:=by unfold Lv DE;congr 1;funext x;simp
theorem Zr(c:Co)(nb:Nat)(hm:c.okM nb)(i:Nat)(hi:i<c.rob.length)(A B:List Ent)(lo n:Nat)(kR kF kS kT:Bool)(xF xT:List (List AV))(hlo:A.length=lo)(hn:c.rob.length=n)(hA:A.length+n+B.length≤1000):pL C0.P C0.G 167 [.ptr 0 0,vN i] (heapF [(0,.box (mcX c (.osl 1 lo n kR) (.sl 2 xF kF) (.sl 2 (c.stores.map ptL) kS) (.sl 9 xT kT))),(1,.arr ((A++(c).rob++B).map enL) 17)]) 2 (λ x h'=>x=.tup []∧h'=heapF [(0,.box (mcX (jM c i) (.osl 1 lo n kR) (.sl 2 xF kF) (.sl 2 (c.stores.map ptL) kS) (.sl 9 xT kT))),(1,.arr ((A++((jM c i)).rob++B).map enL) 17)]):=by
 refine HCall.intro (C:=C1) (s:=2) c1Ok.at Tryz.func167 rfl rfl (by kernel_rfl) rfl rfl<|cSR<|oR 6 rfl<|nW (.ptr2 1 (lo+i) 0) rfl rfl ixT ?_;obtain⟨x,hx⟩:∃ y_,c.rob[i]?=some y_:=⟨_,aA omT⟩;have hxo:=hm.ok.robo x (aB hx);refine rIx (enL x) (.agg (enL x)) rfl rfl (jH (jO hlo hx)) rfl<|rAl 10 rfl rfl<|rSt rfl<|rE 12<|bK<|cSR<|oR 3 rfl<|rE 15<|aV rfl (λ h1=>?_) (λ h1=>?_)
 ·refine cO ?_;have e:jM c i=c:=by unfold jM;rw[hx];dsimp only;rw[if_pos (Fv h1)];try rfl
  rw[e];exact pE (rs:=[]) rfl (σ:=λ z=>z) ⟨rfl,rfl⟩ rfl (cB (λ z=>z) rfl rfl wH rfl)
 ·refine bB<|cSR<|oR 11 rfl<|rCl (x:=.tup [vI ((kZ c.rob c.stores i).1),.v (.string ((kZ c.rob c.stores i).2))]) rfl (.inr ⟨rfl,⟨(by show lo+n≤((A++c.rob++B).map enL).length;exact omT),trivial,trivial,trivial⟩⟩) ((show bT C0 207 [.sl 17 (List.take n (List.drop lo ((A++c.rob++B).map enL))) kR,.sl 2 (c.stores.map ptL) kS,vN i] _ from by rw[tK (l:=c.rob) hlo (by first|exact hn|(rw[bN];exact hn)|(simp only[bN];exact hn))];exact WJ c.rob c.stores kR kS i hm.rob hm.ok.robo hm.sto hm.ok.stoo hm.std hi))<|oR 5 rfl<|rE 32<|cSR<|oR 2 rfl<|rCi rfl (tC x.addr hxo.addr)<|oR 1 rfl<|rE 36<|bL<|cSR<|oR 1 rfl<|rV (vB (((kZ c.rob c.stores i).1)==1)) rfl<|oR 1 rfl<|rE 39<|aV rfl (λ h2=>?_) (λ h2=>?_)
  ·have h2p:=mC h2;refine cRg<|oR 8 rfl<|rCi rfl (QN x ((kZ c.rob c.stores i).2) hxo (bI (Jt c.rob c.stores i) (by decide)))<|nW (.ptr2 1 (lo+i) 0) rfl rfl ixT ?_;refine oS (enL x) (h':=upd _ 1 (some (.arr ((A++(c.rob.set i (rU x ((kZ c.rob c.stores i).2)))++B).map enL) 17))) rfl rfl rfl (⟨aF _,jH ((jO hlo hx))⟩) (uC (f:=enL) (x:=(rU x ((kZ c.rob c.stores i).2))) (l:=c.rob) (i:=i) hlo omT)<|rE 50 ?_;have e:jM c i=setE c i (rU x ((kZ c.rob c.stores i).2)):=by unfold jM;rw[hx];dsimp only;rw[if_neg (rN h1),if_pos h2p];try rfl
   rw[e];exact pE (rs:=[]) rfl (σ:=λ z=>z) ⟨rfl,rfl⟩ rfl (cB (λ z=>z) rfl rfl wH rfl)
  ·have h2p:=mD h2;refine cSR<|oR 1 rfl<|rV (vB (((kZ c.rob c.stores i).1) != 2)) rfl<|oR 1 rfl<|rE 42<|aV rfl (λ h3=>?_) (λ h3=>?_)
   ·have h3p:=wN h3;refine cO ?_;have e:jM c i=c:=by unfold jM;rw[hx];dsimp only;rw[if_neg (rN h1),if_neg h2p,if_pos h3p];try rfl
    rw[e];exact pE (rs:=[]) rfl (σ:=λ z=>z) ⟨rfl,rfl⟩ rfl (cB (λ z=>z) rfl rfl wH rfl)
   ·have h3p:=wO h3;refine cSR<|oR 2 rfl<|fR (args:=[.ptr 0 0,vU (lineOf x.addr)]) (d:=56) _ rfl rfl rfl (pL.of_dcall (C:=C0) (show bT C0 208 [.dp 64 0 (mcX c (.sl 17 (List.take n (List.drop lo ((A++c.rob++B).map enL))) kR) (.sl 2 xF kF) (.sl 2 (c.stores.map ptL) kS) (.sl 9 xT kT)),vU (lineOf x.addr)] _ from by rw[tK (l:=c.rob) hlo (by first|exact hn|(rw[bN];exact hn)|(simp only[bN];exact hn))];exact VO c nb hm (.sl 2 xF kF) (.sl 2 (c.stores.map ptL) kS) (.sl 9 xT kT) kR (lineOf x.addr) (dR hxo.addr)) (by rfl) (by exact⟨⟨rfl,(r4 (r4 (r4 (r4 (r4 (r4 (r4 (r4 (r4 (r4 (r4 (r4 ⟨(by show lo+n≤((A++c.rob++B).map enL).length;simp only[aJ,aR,bN];omega),tvT⟩))))))))))))⟩,trivial,trivial⟩) (by rfl)) ?_;rintro _ _ ⟨rfl,rfl⟩;refine oR 1 rfl<|rE 46<|aV rfl (λ h4=>?_) (λ h4=>?_)
    ·refine cRg<|oR 9 rfl<|rCl rfl (.inr ⟨rfl,⟨trivial,tvT,trivial⟩⟩) (Mh c nb hm .any (.sl 2 xF kF) (.sl 9 xT kT) kS x hxo)<|rCi rfl (QN x (oG c x) hxo (by have:=Gi (c:=c) (by have:=hm.mem;omega) x;omega))<|nW (.ptr2 1 (lo+i) 0) rfl rfl ixT ?_;refine oS (enL x) (h':=upd _ 1 (some (.arr ((A++(c.rob.set i (rU x (oG c x)))++B).map enL) 17))) rfl rfl rfl (⟨aF _,jH ((jO hlo hx))⟩) (uC (f:=enL) (x:=(rU x (oG c x))) (l:=c.rob) (i:=i) hlo omT)<|rE 59 ?_;have e:jM c i=setE c i (rU x (oG c x)):=by unfold jM;rw[hx];dsimp only;rw[if_neg (rN h1),if_neg h2p,if_neg (λ q=>q h3p),if_pos h4];try rfl
     rw[e];exact pE (rs:=[]) rfl (σ:=λ z=>z) ⟨rfl,rfl⟩ rfl (cB (λ z=>z) rfl rfl wH rfl)
    ·refine cSR<|oR 6 rfl<|rV (.sl 1 ([[vI 1]]) true) rfl<|rCl (x:=vB (DE c.bus (lineOf x.addr) 1)) rfl (.inl rfl) ((show bT C0 _ [_,_,.sl 1 ([(1:Int)].map jL) true] _ from by rw[←Ju];exact QM c.bus (lineOf x.addr) [1] false true (by have:=hm.bus;omega) (λ x hx=>(hm.ok.buso x hx).line) (dR hxo.addr) (by decide)))<|oR 1 rfl<|rE 55<|aV rfl (λ h5=>?_) (λ h5=>?_)
     ·refine cRg<|oR 6 rfl<|nW (.ptr2 1 (lo+i) 0) rfl rfl ixT<|oR 1 rfl ?_;refine oS (enL x) (h':=upd _ 1 (some (.arr ((A++(c.rob.set i (⟨x.no,x.pc,⟨x.i.op,x.i.rd,x.i.rs1,x.i.rs2,x.i.imm⟩,x.guess,2,x.left,x.value,x.next,x.addr,x.halt,x.took,x.known,x.filled⟩:Ent))++B).map enL) 17))) rfl rfl rfl (⟨aF _,jH ((jO hlo hx))⟩) (uC (f:=enL) (x:=(⟨x.no,x.pc,⟨x.i.op,x.i.rd,x.i.rs1,x.i.rs2,x.i.imm⟩,x.guess,2,x.left,x.value,x.next,x.addr,x.halt,x.took,x.known,x.filled⟩:Ent)) (l:=c.rob) (i:=i) hlo omT)<|rE 64 ?_;have e:jM c i=setE c i (⟨x.no,x.pc,⟨x.i.op,x.i.rd,x.i.rs1,x.i.rs2,x.i.imm⟩,x.guess,2,x.left,x.value,x.next,x.addr,x.halt,x.took,x.known,x.filled⟩:Ent):=by unfold jM;rw[hx];dsimp only;rw[if_neg (rN h1),if_neg h2p,if_neg (λ q=>q h3p),if_neg (by rw[h4];decide),if_pos h5];try rfl
      rw[e];exact pE (rs:=[]) rfl (σ:=λ z=>z) ⟨rfl,rfl⟩ rfl (cB (λ z=>z) rfl rfl wH rfl)
     ·refine cSR<|oR 7 rfl<|rCl (x:=vB (uJ c.rob i)) rfl (.inr ⟨rfl,⟨(by show lo+n≤((A++c.rob++B).map enL).length;exact omT),trivial,trivial⟩⟩) ((show bT C0 206 [.sl 17 (List.take n (List.drop lo ((A++c.rob++B).map enL))) kR,vN i] _ from by rw[tK (l:=c.rob) hlo (by first|exact hn|(rw[bN];exact hn)|(simp only[bN];exact hn))];exact Mj c.rob kR i hm.rob hm.ok.robo (by have:=hm.rob;omega)))<|fR (args:=[.ptr 0 0,vB (uJ c.rob i)]) (d:=95) _ rfl rfl rfl (pL.of_dcall (C:=C0) (show bT C0 116 [.dp 64 0 (mcX c (.sl 17 (List.take n (List.drop lo ((A++c.rob++B).map enL))) kR) (.sl 2 xF kF) (.sl 2 (c.stores.map ptL) kS) (.sl 9 xT kT)),vB (uJ c.rob i)] _ from by rw[tK (l:=c.rob) hlo (by first|exact hn|(rw[bN];exact hn)|(simp only[bN];exact hn))];exact SG c nb hm (.sl 17 (c.rob.map enL) kR) (.sl 2 xF kF) (.sl 2 (c.stores.map ptL) kS) (.sl 9 xT kT) (uJ c.rob i)) (by rfl) (by exact⟨⟨rfl,(r4 (r4 (r4 (r4 (r4 (r4 (r4 (r4 (r4 (r4 (r4 (r4 ⟨(by show lo+n≤((A++c.rob++B).map enL).length;simp only[aJ,aR,bN];omega),tvT⟩))))))))))))⟩,trivial,trivial⟩) (by rfl)) ?_;rintro _ _ ⟨rfl,rfl⟩;refine oR 1 rfl<|gN rfl<|gS rfl id<|gS rfl id<|gS rfl id<|gS rfl id<|gN rfl<|gB (x:=.sl 1 ([[vI 3]]) true) rfl rfl<|lX (args:=[.sl 4 (c.bus.map rqL) false,vU (lineOf x.addr),.sl 1 ([[vI 3]]) true]) (x:=vB (DE c.bus (lineOf x.addr) 3)) (g:=qL c (uJ c.rob i)) rfl rfl rfl rfl hsT rfl rfl rfl (.inl rfl) rfl (λ hg=>(show bT C0 _ [_,_,.sl 1 ([(3:Int)].map jL) true] _ from by rw[←Ju];exact QM c.bus (lineOf x.addr) [3] false true (by have:=hm.bus;omega) (λ x hx=>(hm.ok.buso x hx).line) (dR hxo.addr) (by decide)))<|gS rfl id<|cS rfl rfl rfl (λ h=>h)<|oR 1 rfl<|rE 76<|aV rfl (λ h6=>?_) (λ h6=>?_)
      ·refine cSR<|oR 2 rfl<|fR (args:=[.ptr 0 0,vI 1,vU (lineOf x.addr),.v (.string (⟨#[]⟩:ByteArray))]) (d:=109) _ rfl rfl rfl ((Zs c nb hm 1 (lineOf x.addr) (⟨#[]⟩:ByteArray) (dR hxo.addr) lo n kR ((A++c.rob++B).map enL) kF xF kS (c.stores.map ptL) kT xT).frameB (λ z=>z) _ _ rfl ⟨⟨rfl,rfl,rfl,rfl⟩,⟨rfl,rfl,rfl,rfl⟩,trivial⟩ rfl rfl rfl rfl) ?_;rintro _ _ ⟨rfl,rfl⟩;refine rE 79<|cRg<|oR 6 rfl<|nW (.ptr2 1 (lo+i) 0) rfl rfl ixT<|oR 1 rfl ?_;refine oS (enL x) (h':=upd _ 1 (some (.arr ((A++(c.rob.set i (⟨x.no,x.pc,⟨x.i.op,x.i.rd,x.i.rs1,x.i.rs2,x.i.imm⟩,x.guess,2,x.left,x.value,x.next,x.addr,x.halt,x.took,x.known,x.filled⟩:Ent))++B).map enL) 17))) rfl rfl rfl (⟨aF _,jH ((jO hlo hx))⟩) (uC (f:=enL) (x:=(⟨x.no,x.pc,⟨x.i.op,x.i.rd,x.i.rs1,x.i.rs2,x.i.imm⟩,x.guess,2,x.left,x.value,x.next,x.addr,x.halt,x.took,x.known,x.filled⟩:Ent)) (l:=c.rob) (i:=i) hlo omT)<|rE 88 ?_;have e:jM c i=setE (iR c 1 (lineOf x.addr) (⟨#[]⟩:ByteArray)) i (⟨x.no,x.pc,⟨x.i.op,x.i.rd,x.i.rs1,x.i.rs2,x.i.imm⟩,x.guess,2,x.left,x.value,x.next,x.addr,x.halt,x.took,x.known,x.filled⟩:Ent):=by unfold jM;rw[hx];dsimp only;rw[if_neg (rN h1),if_neg h2p,if_neg (λ q=>q h3p),if_neg (by rw[h4];decide),if_neg (by rw[h5];decide),if_pos (by have z:=h6;simp only[qA]at z;simpa using z)];try rfl
       rw[e];exact pE (rs:=[]) rfl (σ:=λ z=>z) ⟨rfl,rfl⟩ rfl (cB (λ z=>z) rfl rfl wH rfl)
      ·refine bB ?_;have e:jM c i=c:=by unfold jM;rw[hx];dsimp only;rw[if_neg (rN h1),if_neg h2p,if_neg (λ q=>q h3p),if_neg (by rw[h4];decide),if_neg (by rw[h5];decide),if_neg (by have z:=h6;simp only[qA]at z;simpa using z)];try rfl
       rw[e];exact pE (rs:=[]) rfl (σ:=λ z=>z) ⟨rfl,rfl⟩ rfl (cB (λ z=>z) rfl rfl wH rfl)
theorem pL.frameB2{P:Program}{G:Nat→Option (List AV)}{f:FuncId}{args:List AV}{b0 b1 c0 c1:Blk}{L:List (Nat×Blk)}{s:Nat}{r:AV}(H:pL P G f args (heapF ((0,b0)::(1,b1)::L)) s (λ x h'=>x=r∧h'=heapF ((0,c0)::(1,c1)::L)))(ρ:Nat→Nat)(K:AH)(s2:Nat)(hfull:Dr (heapF ((0,b0)::(1,b1)::L)) s=true)(hL:FrL ρ K s s2 ((0,b0)::(1,b1)::L))(hi:To ρ s=true)(ha:pX s args=true)(hr:eZ r=true)(hb0:tP s c0=true)(hb1:tP s c1=true):
  pL P G f (Cl ρ args) K s2 (λ x h'=>x=r∧h'=upd (upd K (ρ 0) (some (Fn ρ c0))) (ρ 1) (some (Fn ρ c1))):=by
 have hs:1<s:=aP hL.2.1.2.1;refine H.frameL ρ K s2 hfull hL hi ha _ λ r' h' hP=>?_;obtain⟨rfl,rfl⟩:=hP;refine⟨_,⟨yM _ _ hr,rfl⟩,λ y blk hy=>?_⟩;by_cases he1:y=ρ 1
 ·subst he1;rw[cZ]at hy;injection hy with hy;exact .inl ⟨1,c1,rfl,(rA ρ omT).symm,by rw[←hy,xU ρ s s2 c1 hb1]⟩
 rw[cA _ _ he1]at hy;by_cases he:y=ρ 0
 ·subst he;rw[cZ]at hy;injection hy with hy;exact .inl ⟨0,c0,rfl,(rA ρ omT).symm,by rw[←hy,xU ρ s s2 c0 hb0]⟩
 ·rw[cA _ _ he]at hy;by_cases hx:∃ x,x<s∧ρ x=y
  ·obtain⟨x,hxs,rfl⟩:=hx;have hx0:x≠0:=λ e=>he (by rw[e]);have hx1:x≠1:=λ e=>he1 (by rw[e]);obtain⟨blk0,hb⟩:=Dv.1 (tV hfull x hxs);have hk:=hL.get x blk0 hb;rw[hk.2.2.2]at hy;injection hy with hy;refine .inl ⟨x,blk0,?_,(rA ρ omT).symm,?_⟩
   ·have q0:Nat.beq 0 x=false:=by rw[←eO];exact λ e=>hx0 (aK e).symm
    have q1:Nat.beq 1 x=false:=by rw[←eO];exact λ e=>hx1 (aK e).symm
    simp only[heapF,q0,q1]at hb⊢;exact hb
   ·rw[←hy];exact (xU ρ s s2 blk0 hk.2.2.1).symm
  ·exact .inr ⟨hy,λ x hxs e=>hx ⟨x,hxs,e⟩⟩
theorem wB{c:Co}{n:Nat}(h:c.okM n)(i:Nat){e:Ent}(he:e.ok):(setE c i e).okM n:=by
 have hl:(c.rob.set i e).length=c.rob.length:=bN ..;exact⟨⟨h.ok.conf,h.ok.prog,h.ok.progo,h.ok.r,h.ok.fetch,h.ok.fet,h.ok.feto,by show (c.rob.set i e).length≤_;rw[hl];exact h.ok.rob,mem_set (P:=Ent.ok) h.ok.robo he,h.ok.sto,h.ok.stoo,h.ok.data,h.ok.words,h.ok.bus,h.ok.buso,h.ok.asked,h.ok.guessed,h.ok.mem,h.ok.guess,h.ok.ret,h.ok.reto⟩,h.nb,h.cf,h.data,h.words,h.guess,by show (c.rob.set i e).length≤_;rw[hl];exact h.rob,h.fet,h.sto,h.prog,h.mem,h.std⟩
theorem AA{rob:List Ent}{r:Nat→Nat}(ho:∀ x∈rob,x.ok)(hr:∀ k,r k≤4294967295)(i:Nat):(lI rob r i).1≤4294967295∧(lI rob r i).2.1≤4294967295:=by
 unfold lI;split
 ·exact⟨BN ho hr _ _,BN ho hr _ _⟩
 ·exact⟨aD _,aD _⟩
theorem Uw(c:Co)(nb:Nat)(hm:c.okM nb)(i:Nat)(hi:i<c.rob.length)(A B:List Ent)(lo n:Nat)(kR kF kS kT:Bool)(xF xT:List (List AV))(hlo:A.length=lo)(hn:c.rob.length=n)(hA:A.length+n+B.length≤1000):pL C0.P C0.G 111 [.ptr 0 0,vN i] (heapF [(0,.box (mcX c (.osl 1 lo n kR) (.sl 2 xF kF) (.sl 2 (c.stores.map ptL) kS) (.sl 9 xT kT))),(1,.arr ((A++(c).rob++B).map enL) 17)]) 2 (λ x h'=>x=.tup []∧h'=heapF [(0,.box (mcX (eN c i) (.osl 1 lo n kR) (.sl 2 xF kF) (.sl 2 (c.stores.map ptL) kS) (.sl 9 xT kT))),(1,.arr ((A++((eN c i)).rob++B).map enL) 17)]):=by
 refine HCall.intro (C:=C1) (s:=2) c1Ok.at Tryz.func111 rfl rfl (by kernel_rfl) rfl rfl<|cSR<|oR 6 rfl<|nW (.ptr2 1 (lo+i) 0) rfl rfl ixT ?_;obtain⟨x,hx⟩:∃ y_,c.rob[i]?=some y_:=⟨_,aA omT⟩;have hxo:=hm.ok.robo x (aB hx);refine rIx (enL x) (.agg (enL x)) rfl rfl (jH (jO hlo hx)) rfl<|rAl 10 rfl rfl<|rSt rfl<|rE 12<|cSR<|oR 11 rfl<|rCl (x:=.tup [vU ((lI c.rob c.r i).1),vU ((lI c.rob c.r i).2.1),vB ((lI c.rob c.r i).2.2)]) rfl (.inr ⟨rfl,⟨(by show lo+n≤((A++c.rob++B).map enL).length;exact omT),tvT,trivial,trivial⟩⟩) ((show bT C0 164 [.sl 17 (List.take n (List.drop lo ((A++c.rob++B).map enL))) kR,.agg (Jy c.r),vN i] _ from by rw[tK (l:=c.rob) hlo (by first|exact hn|(rw[bN];exact hn)|(simp only[bN];exact hn))];exact Ux c.rob c.r kR i hm.rob hm.ok.robo hm.ok.r (by have:=hm.rob;omega)))<|oR 7 rfl<|rE 31<|cSR<|oR 2 rfl<|rCi rfl (qR x.i)<|rE 34<|bL<|cSR<|rW (vB ((kindOf x.i.op)==4)) rfl (okB (eqN _ _))<|oR 1 rfl<|rE 36<|aV rfl (λ h1=>?_) (λ h1=>?_)
 ·have h1p:=mC h1;refine cRg<|oR 12 rfl<|rV (vN c.mem.size) rfl<|oR 1 rfl<|rCi rfl (UK x ((c.mem.size:Nat):Int) ((lI c.rob c.r i).1) hxo (by have:=hm.mem;omega) (AA hm.ok.robo hm.ok.r i).1)<|nW (.ptr2 1 (lo+i) 0) rfl rfl ixT ?_;refine oS (enL x) (h':=upd _ 1 (some (.arr ((A++(c.rob.set i (qO x ((c.mem.size:Nat):Int) ((lI c.rob c.r i).1)))++B).map enL) 17))) rfl rfl rfl (⟨aF _,jH ((jO hlo hx))⟩) (uC (f:=enL) (x:=(qO x ((c.mem.size:Nat):Int) ((lI c.rob c.r i).1))) (l:=c.rob) (i:=i) hlo omT)<|rE 53 ?_;have e:eN c i=setE c i (qO x ((c.mem.size:Nat):Int) ((lI c.rob c.r i).1)):=by unfold eN;rw[hx];dsimp only;rw[if_pos h1p]
  rw[e];exact pE (rs:=[]) rfl (σ:=λ z=>z) ⟨rfl,rfl⟩ rfl (cB (λ z=>z) rfl rfl wH rfl)
 ·have h1p:=mD h1;refine cSR<|rW (vB ((kindOf x.i.op)==3)) rfl (okB (eqN _ _))<|oR 1 rfl<|rE 38<|aV rfl (λ h2=>?_) (λ h2=>?_)
  ·have h2p:=mC h2;refine cSR<|oR 12 rfl<|rV (vN c.mem.size) rfl<|oR 1 rfl<|rCi rfl (UK x ((c.mem.size:Nat):Int) ((lI c.rob c.r i).1) hxo (by have:=hm.mem;omega) (AA hm.ok.robo hm.ok.r i).1)<|nW (.ptr2 1 (lo+i) 0) rfl rfl ixT ?_;refine oS (enL x) (h':=upd _ 1 (some (.arr ((A++(c.rob.set i (qO x ((c.mem.size:Nat):Int) ((lI c.rob c.r i).1)))++B).map enL) 17))) rfl rfl rfl (⟨aF _,jH ((jO hlo hx))⟩) (uC (f:=enL) (x:=(qO x ((c.mem.size:Nat):Int) ((lI c.rob c.r i).1))) (l:=c.rob) (i:=i) hlo omT)<|rE 55<|cRg<|oR 2 rfl<|fR _ rfl rfl rfl ((Zr (setE c i (qO x ((c.mem.size:Nat):Int) ((lI c.rob c.r i).1))) nb (wB hm i (Hz hxo _ _)) i (by show i<(c.rob.set i _).length;rw[bN];exact hi) A B lo n kR kF kS kT xF xT hlo (by show (c.rob.set i _).length=n;rw[bN];exact hn) hA).frameB2 (λ z=>z) _ _ rfl ⟨⟨rfl,rfl,rfl,rfl⟩,⟨rfl,rfl,rfl,rfl⟩,trivial⟩ rfl rfl rfl rfl rfl) ?_;rintro _ _ ⟨rfl,rfl⟩;refine rE 58 ?_;have e:eN c i=jM (setE c i (qO x (c.mem.size:Int) (lI c.rob c.r i).1)) i:=by unfold eN;rw[hx];dsimp only;rw[if_neg h1p,if_pos h2p]
   rw[e];exact pE (rs:=[]) rfl (σ:=λ z=>z) ⟨rfl,rfl⟩ rfl (cB (λ z=>z) rfl rfl wH rfl)
  ·have h2p:=mD h2;refine cRg<|oR 9 rfl<|rCi rfl (WD x ((lI c.rob c.r i).1) ((lI c.rob c.r i).2.1) hxo (AA hm.ok.robo hm.ok.r i).1 (AA hm.ok.robo hm.ok.r i).2)<|nW (.ptr2 1 (lo+i) 0) rfl rfl ixT ?_;refine oS (enL x) (h':=upd _ 1 (some (.arr ((A++(c.rob.set i (oU x ((lI c.rob c.r i).1) ((lI c.rob c.r i).2.1)))++B).map enL) 17))) rfl rfl rfl (⟨aF _,jH ((jO hlo hx))⟩) (uC (f:=enL) (x:=(oU x ((lI c.rob c.r i).1) ((lI c.rob c.r i).2.1))) (l:=c.rob) (i:=i) hlo omT)<|rE 50 ?_;have e:eN c i=setE c i (oU x ((lI c.rob c.r i).1) ((lI c.rob c.r i).2.1)):=by unfold eN;rw[hx];dsimp only;rw[if_neg h1p,if_neg h2p]
   rw[e];exact pE (rs:=[]) rfl (σ:=λ z=>z) ⟨rfl,rfl⟩ rfl (cB (λ z=>z) rfl rfl wH rfl)
structure WyG(n k:Nat)(w:Wy):Prop where
 line:lineOf w.line=w.line
 set:w.line / 16 % n=k
 data:w.data.size=0∨w.data.size=16
 le:w.line≤4294967295
structure SetG(n:Nat)(ways:Int)(k:Nat)(s:List Wy):Prop where
 len:(s.length:Int)≤ways
 way:∀ w∈s,WyG n k w
 one:(s.map (·.line)).Nodup
structure CaG(c:Ca):Prop where
 sets:c.sets.length=1∨c.sets.length=2∨c.sets.length=4
 ways:c.ways=1∨c.ways=2
 set:∀ k s,c.sets[k]?=some s→SetG c.sets.length c.ways k s
theorem Pz:∀ {s:List Wy} {line:Nat},iZ s line=none↔∀ w∈s,w.line≠line
 |[],_=>by simp[iZ]
 |w::l,line=>by
  unfold iZ;by_cases h:w.line=line
  ·rw[if_pos h];simp[h]
  ·rw[if_neg h,Option.map_eq_none_iff,Pz];simp[h]
theorem VM:∀ {s:List Wy},(∀ i x,s[i]?=some x→iZ (s.take i) x.line=none)↔(s.map (·.line)).Nodup:=by
 intro s;rw[List.nodup_iff_pairwise_ne,List.pairwise_map,List.pairwise_iff_getElem];constructor
 ·intro h i j hi hj hij e;exact Pz.1 (h j s[j] (aA hj)) s[i] (aB (i:=i) (by rw[cN,if_pos hij,aA hi])) e
 ·intro h j x hx;obtain⟨hj,rfl⟩:=DK.1 hx;refine Pz.2 λ w hw=>?_;obtain⟨i,hi,rfl⟩:=eC hw;rw[aN]at hi;rw[List.getElem_take];exact h i j omT hj omT
theorem Zq{c:Ca}:CaG c↔iW c=true∧c.ok:=by
 constructor
 ·intro h;refine⟨(mK c).2 ⟨⟨h.sets,h.ways⟩,λ k s hs=>(mE c k s).2 ?_⟩,⟨by have:=h.sets;omega,λ s hs=>?_⟩⟩
  ·have g:=h.set k s hs;refine⟨g.len,λ i x hx=>?_⟩;have gw:=g.way x (aB hx);exact⟨gw.line,gw.set,gw.data,VM.2 g.one i x hx⟩
  ·obtain⟨k,hk,rfl⟩:=eC hs;have g:=h.set k _ (aA hk);refine⟨by have:=g.len;have:=h.ways;omega,λ x hx=>⟨(g.way x hx).le⟩⟩
 ·rintro ⟨h,ok⟩;obtain⟨⟨h1,h2⟩,h3⟩:=(mK c).1 h;refine⟨h1,h2,λ k s hs=>?_⟩;obtain⟨g1,g2⟩:=(mE c k s).1 (h3 k s hs);refine⟨g1,λ w hw=>?_,VM.1 λ i x hx=>(g2 i x hx).2.2.2⟩;obtain⟨i,hi,rfl⟩:=eC hw;have g:=g2 i _ (aA hi);exact⟨g.1,g.2.1,g.2.2.1,((ok.set s (aB hs)).2 _ hw).line⟩
theorem CaG.with{c:Ca}(h:CaG c){k:Nat}{s:List Wy}(hs:SetG c.sets.length c.ways k s):CaG (nL c k s):=by
 have hl:(c.sets.set k s).length=c.sets.length:=bN ..;refine⟨by show (c.sets.set k s).length=1∨(c.sets.set k s).length=2∨(c.sets.set k s).length=4;rw[hl];exact h.sets,h.ways,λ j t ht=>?_⟩;show SetG (c.sets.set k s).length c.ways j t;rw[hl];rw[show (nL c k s).sets=c.sets.set k s from rfl,qF]at ht;split at ht
 ·rename_i e;subst e;split at ht
  ·injection ht with ht;subst ht;exact hs
  ·cases ht
 ·exact h.set j t ht
theorem zZ{α:Type}{l:List α}{k:Nat}(h:k<l.length):(eR l k).Perm l:=by
 unfold eR;rw[aA h];show ([l[k]]++l.take k++l.drop (k+1)).Perm l;rw[List.singleton_append,nV];refine (List.perm_middle.symm).trans ?_;rw[←eJ h,gF]
theorem SetG.perm{n:Nat}{ways:Int}{k:Nat}{s t:List Wy}(h:SetG n ways k s)(p:t.Perm s):SetG n ways k t:=
 ⟨by rw[p.length_eq];exact h.len,λ w hw=>h.way w (p.mem_iff.1 hw),(p.map _).nodup_iff.2 h.one⟩
theorem SetG.modHd{n:Nat}{ways:Int}{k:Nat}{s:List Wy}(h:SetG n ways k s){f:Wy→Wy}(hf:∀ w∈s,(f w).line=w.line∧((f w).data.size=0∨(f w).data.size=16)):SetG n ways k (modHd f s):=by
 cases s with
 |nil=>exact h
 | cons x l=>
  have hx:=hf x (al_List_mem_cons_self ..);have g:=h.way x (al_List_mem_cons_self ..);refine⟨h.len,λ w hw=>?_,?_⟩
  ·rcases al_List_mem_cons.1 hw with rfl|hw
   ·exact⟨by rw[hx.1];exact g.line,by rw[hx.1];exact g.set,hx.2,by rw[hx.1];exact g.le⟩
   ·exact h.way w (bE _ hw)
  ·show ((f x).line::l.map (·.line)).Nodup;rw[hx.1];exact h.one
theorem CaG.at{c:Ca}(h:CaG c){k:Nat}(hk:k<c.sets.length):SetG c.sets.length c.ways k (kD c k):=by
 rw[rO (aA hk)];exact h.set k _ (aA hk)
theorem CaG.touch{c:Ca}(h:CaG c)(line:Nat):CaG (mL c line):=by
 by_cases hF:(aX c line).2.isSome=true
 ·rw[Ad hF];have ff:=jX hF;exact h.with ((h.at ff.2.2.1).perm (zZ ff.2.2.2))
 ·rw[Ae (by simpa using hF)];exact h
theorem PA(d:ByteArray):(cP d).size=0∨(cP d).size=16:=by
 unfold cP;split
 ·right;assumption
 ·left;rfl
theorem CaG.put{c:Ca}(h:CaG c){line:Nat}(hl:line≤4294967295)(d:ByteArray)(b:Bool):CaG (mF c line d b).1:=by
 have hR:=(Zq.1 h).1;by_cases hF:(aX c line).2.isSome=true
 ·rw[BR hF];have ff:=jX hF;have g:=(h.at ff.2.2.1).perm (zZ ff.2.2.2);refine h.with (g.modHd λ w hw=>⟨rfl,?_⟩);show (if (cP d).size=0 then w.data else cP d).size=0∨_;split
  ·exact (g.way w hw).data
  ·exact PA d
 ·have hF':(aX c line).2.isSome=false:=by simpa using hF
  rw[xI hR hF'];have e:=mB (line:=line) hR;have hk:(aX c line).1<c.sets.length:=by rw[e];exact yJ (jP hR).1 _
  have hn:iZ (kD c (aX c line).1) (lineOf line)=none:=by rw[e]at hF' ⊢;simpa using hF'
  have g:=h.at hk;have gw:WyG c.sets.length (aX c line).1 ⟨lineOf line,b,cP d⟩:=⟨by show lineOf (lineOf line)=lineOf line;unfold lineOf;omega,by rw[e];rfl,PA d,dR hl⟩;split
  ·rename_i hw;refine h.with ⟨?_,λ w hw=>?_,?_⟩
   ·have:=h.ways;rw[bJ,oC];omega
   ·rcases al_List_mem_cons.1 hw with rfl|hw
    ·exact gw
    ·exact g.way w (kM _ hw)
   ·rw[gO,List.nodup_cons];refine⟨λ hm=>?_,g.one.sublist ((List.dropLast_sublist _).map _)⟩;obtain⟨w,hw,e⟩:=sF.1 hm;exact Pz.1 hn w (kM _ hw) e
  ·rename_i hw;refine h.with ⟨?_,λ w hw=>?_,?_⟩
   ·have:=g.len;rw[bJ];push_cast;omega
   ·rcases al_List_mem_cons.1 hw with rfl|hw
    ·exact gw
    ·exact g.way w hw
   ·rw[gO,List.nodup_cons];refine⟨λ hm=>?_,g.one⟩;obtain⟨w,hw,e⟩:=sF.1 hm;exact Pz.1 hn w hw e
theorem ND{d b:ByteArray}{a:Nat}(h:b.size+a≤d.size):(yO d a b).size=d.size:=by
 unfold yO;simp only[gG,cY];omega
theorem CaG.write{c:Ca}(h:CaG c)(a:Nat)(b:ByteArray):CaG (mV c a b).1:=by
 by_cases hF:(aX c a).2.isSome=true
 ·have ff:=jX hF;rw[wC b hF rfl (aA ff.2.2.2)];split
  ·exact h
  ·rename_i hq;have g:=(h.at ff.2.2.1).perm (zZ ff.2.2.2);have hd:=(h.at ff.2.2.1).way _ (iP ff.2.2.2);have hd2:=hd.data;have e:eR (kD c (aX c a).1) ((aX c a).2.getD 0)=(kD c (aX c a).1)[(aX c a).2.getD 0]::((kD c (aX c a).1).take ((aX c a).2.getD 0)++(kD c (aX c a).1).drop ((aX c a).2.getD 0+1)):=by
    unfold eR;rw[aA ff.2.2.2];rfl
   refine h.with ?_;rw[e]at g⊢;have g1:=g.way _ (al_List_mem_cons_self ..);refine⟨g.len,λ w hw=>?_,g.one⟩;rcases al_List_mem_cons.1 hw with rfl|hw
   ·refine⟨g1.line,g1.set,.inr ?_,g1.le⟩;show (yO _ _ _).size=16;rw[ND omT];omega
   ·exact g.way w (bE _ hw)
 ·rw[Cz b (by simpa using hF)];exact h
theorem CaG.clean{c:Ca}(h:CaG c)(line:Nat):CaG (mW c line):=by
 by_cases hF:(aX c line).2.isSome=true
 ·have ff:=jX hF;rw[Ag hF rfl];have g:=h.at ff.2.2.1;have hm:(((kD c (aX c line).1).modify ((aX c line).2.getD 0) λ w=>{w with dirty:=false}).map (·.line))=(kD c (aX c line).1).map (·.line):=by
   apply dL;intro i;simp only[aZ,oD];split<;>simp[Option.map_map,Function.comp_def]
  refine h.with ⟨by rw[List.length_modify];exact g.len,λ w hw=>?_,by rw[hm];exact g.one⟩;obtain⟨i,hi⟩:=List.getElem?_of_mem hw;rw[oD]at hi;obtain⟨v,hv,rfl⟩:=wV.1 hi;have gv:=g.way v (aB hv);split
  ·exact⟨gv.line,gv.set,gv.data,gv.le⟩
  ·exact gv
 ·rw[Ah (by simpa using hF)];exact h
theorem CaG.dirty{c:Ca}(h:CaG c){w:Wy}(hw:cM c=some w):w.line≤4294967295:=by
 unfold cM at hw;split at hw
 ·have:=List.mem_of_find?_eq_some hw;obtain⟨s,hs,hw⟩:=List.mem_flatten.1 this;obtain⟨k,hk,rfl⟩:=eC hs;exact ((h.set k _ (aA hk)).way w hw).le
 ·cases hw
theorem Mg{q:List Req}(h:∀ x∈q,x.ok){kind:Int}{line:Nat}{left:Int}{d:ByteArray}(hl:line≤4294967295):∀ x∈oY q kind line left d,x.ok:=by
 intro x hx;unfold oY at hx;rcases al_List_mem_append.1 hx with hx|hx
 ·exact h x hx
 ·rw[tW.1 hx];exact⟨hl⟩
theorem Js(q:List Req)(kind:Int)(line:Nat)(left:Int)(d:ByteArray):(oY q kind line left d).length=q.length+1:=by unfold oY;simp
theorem Co.okM.gd{c:Co}{n:Nat}(h:c.okM n):CaG c.data:=Zq.2 ⟨h.data,h.ok.data⟩
theorem Co.okM.gw{c:Co}{n:Nat}(h:c.okM n):CaG c.words:=Zq.2 ⟨h.words,h.ok.words⟩
theorem Co.okM.mono{c:Co}{n m:Nat}(h:c.okM n)(hm:n≤m)(hb:m≤890000):c.okM m:=
 ⟨⟨h.ok.conf,h.ok.prog,h.ok.progo,h.ok.r,h.ok.fetch,h.ok.fet,h.ok.feto,h.ok.rob,h.ok.robo,h.ok.sto,h.ok.stoo,h.ok.data,h.ok.words,aL h.ok.bus hm,h.ok.buso,h.ok.asked,h.ok.guessed,h.ok.mem,h.ok.guess,aL h.ok.ret hm,h.ok.reto⟩,hb,h.cf,h.data,h.words,h.guess,h.rob,h.fet,h.sto,h.prog,h.mem,h.std⟩
theorem Er(z:Int):wrap64 z≤9223372036854775807:=by unfold wrap64;omega
theorem Co.okM.busData{c:Co}{n:Nat}(h:c.okM n){q:List Req}{d:Ca}{a:Int}(hq:q.length≤n+1)(hqo:∀ x∈q,x.ok)(hd:CaG d)(ha:a≤9223372036854775807)(hb:n+1≤890000):Co.okM {c with bus:=q,data:=d,asked:=a} (n+1):=
 ⟨⟨h.ok.conf,h.ok.prog,h.ok.progo,h.ok.r,h.ok.fetch,h.ok.fet,h.ok.feto,h.ok.rob,h.ok.robo,h.ok.sto,h.ok.stoo,(Zq.1 hd).2,h.ok.words,hq,hqo,ha,h.ok.guessed,h.ok.mem,h.ok.guess,qG h.ok.ret,h.ok.reto⟩,hb,h.cf,(Zq.1 hd).1,h.words,h.guess,h.rob,h.fet,h.sto,h.prog,h.mem,h.std⟩
theorem rM{c:Co}{n:Nat}(h:c.okM n)(hb:n+1≤890000)(kind:Int){line:Nat}(hl:line≤4294967295)(d:ByteArray):(iR c kind line d).okM (n+1):=
 h.busData (by rw[Js];have:=h.ok.bus;omega) (Mg h.ok.buso hl) h.gd (Er _) hb
theorem PB{d:Ca}{q:List Req}{m:ByteArray}{line:Nat}{left:Int}(hd:CaG d)(hq:∀ x∈q,x.ok)(hl:line≤4294967295):CaG (gD d q m line left).1∧(gD d q m line left).2.1.length≤q.length+1∧∀ x∈(gD d q m line left).2.1,x.ok:=by
 unfold gD;split
 ·exact⟨hd,fK _,hq⟩
 ·split
  ·exact⟨hd.touch _,fK _,hq⟩
  ·have hp:=hd.put (dR hl) (AE (fW q m) (lineOf line)) false;have hg:=Gm (Zq.1 hd).2 (lineOf line) (AE (fW q m) (lineOf line)) false;generalize mF d (lineOf line) (AE (fW q m) (lineOf line)) false=t at hp hg;obtain⟨e,gone,went⟩:=t;dsimp only at hp hg⊢;split
   ·exact⟨hp,by rw[Js];exact aC _,Mg hq hg⟩
   ·exact⟨hp,fK _,hq⟩
theorem Es{c:Co}{n:Nat}(h:c.okM n)(hb:n+1≤890000){line:Nat}(hl:line≤4294967295):(eG c line).okM (n+1):=by
 have hk:=PB (m:=c.mem) (left:=kK c.conf c.asked) h.gd h.ok.buso hl;unfold eG;generalize gD c.data c.bus c.mem line (kK c.conf c.asked)=t at hk;obtain⟨d,q,a⟩:=t;dsimp only at hk⊢;refine h.busData (by have:=h.ok.bus;omega) hk.2.2 hk.1 ?_ hb;split
 ·exact Er _
 ·exact h.ok.asked
theorem PC{l:List Pt}{c:Ca}(hc:CaG c):CaG (lJ l c).2.1∧(lJ l c).1.length≤l.length∧∀ x∈(lJ l c).1,x∈l:=by
 unfold lJ
 cases l with
 |nil=>exact⟨hc,aC _,λ x h=>h⟩
 |cons p l=>
  dsimp only;split
  ·exact⟨hc.write _ _,fK _,λ x h=>bE _ h⟩
  ·exact⟨hc,aC _,λ x h=>h⟩
theorem eT{c:Co}{n:Nat}(h:c.okM n):(aQ c).okM n:=by
 have hk:=PC (l:=c.stores) h.gd;exact⟨⟨h.ok.conf,h.ok.prog,h.ok.progo,h.ok.r,h.ok.fetch,h.ok.fet,h.ok.feto,h.ok.rob,h.ok.robo,aL hk.2.1 h.ok.sto,λ x hx=>h.ok.stoo x (hk.2.2 x hx),(Zq.1 hk.1).2,h.ok.words,h.ok.bus,h.ok.buso,h.ok.asked,h.ok.guessed,h.ok.mem,h.ok.guess,h.ok.ret,h.ok.reto⟩,h.nb,h.cf,(Zq.1 hk.1).1,h.words,h.guess,h.rob,h.fet,aL hk.2.1 h.sto,h.prog,h.mem,λ x hx=>h.std x (hk.2.2 x hx)⟩
theorem iK(c:Co):kJ c=iM (if (lJ c.stores c.data).2.2=false∧(aQ c).stores≠[]then jK (aQ c)else aQ c):=by
 unfold kJ aQ
 cases hs:c.stores with
 |nil=>simp[lJ]
 | cons p l=>
  dsimp only
  cases hq:(lJ (p::l) c.data).2.2 with
  |true=>simp
  | false=>
   have:(lJ (p::l) c.data).1=p::l:=by
    unfold lJ at hq⊢;dsimp only at hq⊢;by_cases hw:(mV c.data p.addr p.data).2=true
    ·rw[if_pos hw]at hq;cases hq
    ·rw[if_neg hw]
   simp[this]
theorem c2a{a b:Bool}:dE a b false=(a&&b):=by cases a<;>rfl
theorem c2o{a b:Bool}:dE a true b=(a||b):=by cases a<;>rfl
theorem sX{d:Co}{p:Pt}(hp:d.stores[0]?=some p):jK d=if DE d.bus (lineOf p.addr) 3=false∧qL d true=true then iR d 3 (lineOf p.addr) nE else d:=by
 unfold jK
 cases hs:d.stores with
 |nil=>rw[hs]at hp;simp at hp
 |cons y l=>rw[hs]at hp;simp at hp;subst hp;rfl
theorem uI{d:Co}(h:(cM d.data).isSome=true∧((cM d.data).getD pD).data.size≠0):kE d={iR d 4 ((cM d.data).getD pD).line ((cM d.data).getD pD).data with data:=mW d.data ((cM d.data).getD pD).line}:=by
 unfold kE
 cases hd:cM d.data with
 |none=>rw[hd]at h;simp at h
 |some w=>rw[hd]at h;exact if_pos h.2
theorem wA{d:Co}(h: ¬ ((cM d.data).isSome=true∧((cM d.data).getD pD).data.size≠0)):kE d=d:=by
 unfold kE
 cases hd:cM d.data with
 |none=>rfl
 |some w=>rw[hd]at h;exact if_neg λ e=>h ⟨rfl,e⟩
theorem CaG.dirtyLe{c:Ca}(h:CaG c):((cM c).getD pD).line≤4294967295:=by
 cases hd:cM c with
 |none=>exact aD _
 |some w=>exact h.dirty hd
theorem VL(c:Co)(nb:Nat)(hm:c.okM nb)(hb:nb+2≤890000)(kR:Bool)(xR:List (List AV))(kF:Bool)(xF:List (List AV))(kT:Bool)(xT:List (List AV)):pL C0.P C0.G 58 [.ptr 0 0] (heapF [(0,.box (mcX c (.sl 17 xR kR) (.sl 2 xF kF) (.sl 2 (c.stores.map ptL) false) (.sl 9 xT kT)))]) 1 (λ x h'=>x=.tup []∧h'=heapF [(0,.box (mcX (kJ c) (.sl 17 xR kR) (.sl 2 xF kF) (.sl 2 ((kJ c).stores.map ptL) false) (.sl 9 xT kT)))]):=by
 refine HCall.intro (C:=C1) (s:=1) c1Ok.at Tryz.func58 rfl rfl (by kernel_rfl) rfl rfl<|cSR<|oR 10 rfl<|rCi rfl (Yc c.stores c.data hm.ok.data (by have:=hm.sto;omega) hm.ok.stoo)<|oR 4 rfl<|rAl 16 rfl rfl<|oR 1 rfl<|rSt rfl<|oR 1 rfl<|rE 20<|bK<|Fp rfl rfl<|oR 7 rfl<|rSt rfl<|oR 3 rfl ?_;refine rSx 0 (mcX ({c with data:=(aQ c).data}:Co) (.sl 17 xR kR) (.sl 2 xF kF) (.sl 2 (((aQ c).stores).map ptL) false) (.sl 9 xT kT)) rfl rfl rfl<|rE 32<|And.intro (by kernel_rfl)<|bK<|cSR<|oR 3 rfl<|gN rfl<|gS rfl id<|gS rfl id<|gS rfl id<|gS rfl id<|gBS (x:=vN (((aQ c).stores).length)) rfl id (cG ptL ((aQ c).stores))<|gBS (x:=vB (decide ((((aQ c).stores).length)>0))) rfl id (okB (gtN _ _))<|cS rfl rfl rfl (λ h=>h)<|rE 43 ?_;refine aV rfl (λ h1=>?_) (λ h1=>?_)
 ·have hns:((lJ c.stores c.data).2.2=false∧(aQ c).stores≠[]):=by have z:=h1;simpa [c2a,fE]using z
  have hpos:0<(aQ c).stores.length:=fE.2 hns.2;refine cSR<|oR 5 rfl ?_;obtain⟨p,hp⟩:∃ y_,((aQ c).stores)[0]?=some y_:=⟨_,aA omT⟩;have hpo:=(eT hm).ok.stoo p (aB hp);refine CP (ptL p) (x:=.dp 2 0 (ptL p)) rfl rfl rfl (⟨by decide,jH hp⟩) rfl<|oR 2 rfl<|rCi rfl (tC p.addr hpo.addr)<|oR 1 rfl<|rE 53<|cSR<|oR 6 rfl<|rV (.sl 1 ([[vI 3]]) true) rfl<|rCl (x:=vB (DE c.bus (lineOf p.addr) 3)) rfl (.inl rfl) ((show bT C0 _ [_,_,.sl 1 ([(3:Int)].map jL) true] _ from by rw[←Ju];exact QM c.bus (lineOf p.addr) [3] false true (by have:=hm.bus;omega) (λ x hx=>(hm.ok.buso x hx).line) (dR hpo.addr) (by decide)))<|oR 2 rfl<|gN rfl<|lX (args:=[.ptr 0 0,vB true]) (x:=vB (qL (aQ c) true)) (g:= !(DE c.bus (lineOf p.addr) 3)) rfl rfl rfl rfl (λ h=>h) rfl rfl rfl (.inr ⟨rfl,⟨trivial,trivial,trivial⟩⟩) rfl (λ hg=>SG (aQ c) nb (eT hm) (.sl 17 xR kR) (.sl 2 xF kF) (.sl 2 (((aQ c).stores).map ptL) false) (.sl 9 xT kT) true)<|cS rfl rfl rfl (λ h=>h)<|rE 66 ?_;refine aV rfl (λ h2=>?_) (λ h2=>?_)
  ·have hra:(DE (aQ c).bus (lineOf p.addr) 3=false∧qL (aQ c) true=true):=by have z:=h2;show (DE c.bus _ _=false∧_);simpa [c2a]using z
   refine cRg<|oR 2 rfl<|fR (args:=[.ptr 0 0,vI 3,vU (lineOf p.addr),.v (.string (⟨#[]⟩:ByteArray))]) (d:=68) _ rfl rfl rfl ((XR (aQ c) nb (eT hm) 3 (lineOf p.addr) (⟨#[]⟩:ByteArray) (dR hpo.addr) kR xR kF xF false ((aQ c).stores.map ptL) kT xT).frameB (λ z=>z) _ _ rfl ⟨⟨rfl,rfl,rfl,rfl⟩,trivial⟩ rfl rfl rfl rfl) ?_;rintro _ _ ⟨rfl,rfl⟩;refine rE 69<|bK<|cSR<|oR 5 rfl<|rW (vN (((aQ c).stores).length)) rfl (cG ptL ((aQ c).stores))<|rW (vB (decide ((((aQ c).stores).length)>0))) rfl (okB (gtN _ _))<|oR 1 rfl<|gN rfl<|gS rfl id<|gS rfl id<|gS rfl id<|gS rfl id<|gBS (x:=vB (((iR (aQ c) 3 (lineOf p.addr) (⟨#[]⟩:ByteArray)).halt)==0)) rfl id rfl<|cS rfl rfl rfl (by simp)<|rE 84 ?_;refine aV rfl (λ h3=>?_) (λ h3=>?_)
   ·have hlt:((aQ c).stores≠[]∨(iR (aQ c) 3 (lineOf p.addr) (⟨#[]⟩:ByteArray)).halt=0):=by have z:=h3;simpa [c2o,fE]using z
    refine cO ?_;rw[iK,if_pos hns,sX hp,if_pos hra];rw[show iM (iR (aQ c) 3 (lineOf p.addr) nE)=(iR (aQ c) 3 (lineOf p.addr) nE)from if_pos hlt];exact pE (rs:=[]) rfl (σ:=λ z=>z) ⟨rfl,rfl⟩ rfl (cB (λ z=>z) rfl rfl wH rfl)
   ·have hlt: ¬ ((aQ c).stores≠[]∨(iR (aQ c) 3 (lineOf p.addr) (⟨#[]⟩:ByteArray)).halt=0):=by have z:=h3;simpa [c2o,fE]using z
    refine bB<|cSR<|oR 5 rfl<|rCi rfl (HQ (iR (aQ c) 3 (lineOf p.addr) (⟨#[]⟩:ByteArray)).data (rM (eT hm) omT 3 (dR hpo.addr) nE).ok.data)<|oR 3 rfl<|rAl 93 rfl rfl<|rSt rfl<|oR 1 rfl<|rE 96<|cSR<|oR 2 rfl<|gN rfl<|gS rfl id<|gBS (x:=vB (!((((cM (iR (aQ c) 3 (lineOf p.addr) (⟨#[]⟩:ByteArray)).data).getD pD).data).toList==(⟨#[]⟩:ByteArray).toList))) rfl id rfl ?_;refine cS rfl rfl rfl (λ h=>h)<|rE 102 ?_;refine aV rfl (λ h4=>?_) (λ h4=>?_)
    ·have hq4:((cM (iR (aQ c) 3 (lineOf p.addr) (⟨#[]⟩:ByteArray)).data).isSome=true∧((cM (iR (aQ c) 3 (lineOf p.addr) (⟨#[]⟩:ByteArray)).data).getD pD).data.size≠0):=by have z:=h4;rw[yZ]at z;simpa [qA]using z
     have hcd:Ca.ok (iR (aQ c) 3 (lineOf p.addr) (⟨#[]⟩:ByteArray)).data:=(rM (eT hm) omT 3 (dR hpo.addr) nE).ok.data;refine cSR<|oR 5 rfl<|fR (args:=[.ptr 0 0,vI 4,vU (((cM (iR (aQ c) 3 (lineOf p.addr) (⟨#[]⟩:ByteArray)).data).getD pD).line),.v (.string (((cM (iR (aQ c) 3 (lineOf p.addr) (⟨#[]⟩:ByteArray)).data).getD pD).data))]) (d:=104) _ rfl rfl rfl ((XR (iR (aQ c) 3 (lineOf p.addr) (⟨#[]⟩:ByteArray)) (nb+1) (rM (eT hm) omT 3 (dR hpo.addr) nE) 4 (((cM (iR (aQ c) 3 (lineOf p.addr) (⟨#[]⟩:ByteArray)).data).getD pD).line) (((cM (iR (aQ c) 3 (lineOf p.addr) (⟨#[]⟩:ByteArray)).data).getD pD).data) ((rM (eT hm) omT 3 (dR hpo.addr) nE).gd.dirtyLe) kR xR kF xF false ((aQ c).stores.map ptL) kT xT).frameB (λ z=>z) _ _ rfl ⟨⟨rfl,rfl,rfl,rfl⟩,trivial⟩ rfl rfl rfl rfl) ?_;rintro _ _ ⟨rfl,rfl⟩;refine rE 108<|cRg<|oR 8 rfl<|rCi rfl (HP ((iR (iR (aQ c) 3 (lineOf p.addr) (⟨#[]⟩:ByteArray)) 4 (((cM (iR (aQ c) 3 (lineOf p.addr) (⟨#[]⟩:ByteArray)).data).getD pD).line) (((cM (iR (aQ c) 3 (lineOf p.addr) (⟨#[]⟩:ByteArray)).data).getD pD).data)).data) (((cM (iR (aQ c) 3 (lineOf p.addr) (⟨#[]⟩:ByteArray)).data).getD pD).line) hcd ((rM (eT hm) omT 3 (dR hpo.addr) nE).gd.dirtyLe))<|oR 3 rfl<|rSx 0 (mcX ({iR (iR (aQ c) 3 (lineOf p.addr) (⟨#[]⟩:ByteArray)) 4 (((cM (iR (aQ c) 3 (lineOf p.addr) (⟨#[]⟩:ByteArray)).data).getD pD).line) (((cM (iR (aQ c) 3 (lineOf p.addr) (⟨#[]⟩:ByteArray)).data).getD pD).data)with data:=(mW ((iR (iR (aQ c) 3 (lineOf p.addr) (⟨#[]⟩:ByteArray)) 4 (((cM (iR (aQ c) 3 (lineOf p.addr) (⟨#[]⟩:ByteArray)).data).getD pD).line) (((cM (iR (aQ c) 3 (lineOf p.addr) (⟨#[]⟩:ByteArray)).data).getD pD).data)).data) (((cM (iR (aQ c) 3 (lineOf p.addr) (⟨#[]⟩:ByteArray)).data).getD pD).line))}:Co) (.sl 17 xR kR) (.sl 2 xF kF) (.sl 2 (((aQ c).stores).map ptL) false) (.sl 9 xT kT)) rfl rfl rfl<|rE 121 ?_;rw[iK,if_pos hns,sX hp,if_pos hra];rw[show iM (iR (aQ c) 3 (lineOf p.addr) nE)=kE (iR (aQ c) 3 (lineOf p.addr) nE)from if_neg hlt,uI (d:=(iR (aQ c) 3 (lineOf p.addr) nE)) hq4];exact pE (rs:=[]) rfl (σ:=λ z=>z) ⟨rfl,rfl⟩ rfl (cB (λ z=>z) rfl rfl wH rfl)
    ·have hq4: ¬ ((cM (iR (aQ c) 3 (lineOf p.addr) (⟨#[]⟩:ByteArray)).data).isSome=true∧((cM (iR (aQ c) 3 (lineOf p.addr) (⟨#[]⟩:ByteArray)).data).getD pD).data.size≠0):=by have z:=h4;rw[yZ]at z;simpa [qA]using z
     refine bB ?_;rw[iK,if_pos hns,sX hp,if_pos hra];rw[show iM (iR (aQ c) 3 (lineOf p.addr) nE)=kE (iR (aQ c) 3 (lineOf p.addr) nE)from if_neg hlt,wA (d:=(iR (aQ c) 3 (lineOf p.addr) nE)) hq4];exact pE (rs:=[]) rfl (σ:=λ z=>z) ⟨rfl,rfl⟩ rfl (cB (λ z=>z) rfl rfl wH rfl)
  ·have hra: ¬ (DE (aQ c).bus (lineOf p.addr) 3=false∧qL (aQ c) true=true):=by have z:=h2;show ¬ (DE c.bus _ _=false∧_);simpa [c2a]using z
   refine bB<|bK<|cSR<|oR 5 rfl<|rW (vN (((aQ c).stores).length)) rfl (cG ptL ((aQ c).stores))<|rW (vB (decide ((((aQ c).stores).length)>0))) rfl (okB (gtN _ _))<|oR 1 rfl<|gN rfl<|gS rfl id<|gS rfl id<|gS rfl id<|gS rfl id<|gBS (x:=vB (c.halt==0)) rfl id rfl<|cS rfl rfl rfl (by simp)<|rE 81 ?_;refine aV rfl (λ h5=>?_) (λ h5=>?_)
   ·have hlt:((aQ c).stores≠[]∨c.halt=0):=by have z:=h5;simpa [c2o,fE]using z
    refine cO ?_;rw[iK,if_pos hns,sX hp,if_neg hra];rw[show iM (aQ c)=(aQ c)from if_pos hlt];exact pE (rs:=[]) rfl (σ:=λ z=>z) ⟨rfl,rfl⟩ rfl (cB (λ z=>z) rfl rfl wH rfl)
   ·have hlt: ¬ ((aQ c).stores≠[]∨c.halt=0):=by have z:=h5;simpa [c2o,fE]using z
    refine bB<|cSR<|oR 5 rfl<|rCi rfl (HQ (aQ c).data (eT hm).ok.data)<|oR 3 rfl<|rAl 90 rfl rfl<|rSt rfl<|oR 1 rfl<|rE 93<|cSR<|oR 2 rfl<|gN rfl<|gS rfl id<|gBS (x:=vB (!((((cM (aQ c).data).getD pD).data).toList==(⟨#[]⟩:ByteArray).toList))) rfl id rfl ?_;refine cS rfl rfl rfl (λ h=>h)<|rE 99 ?_;refine aV rfl (λ h6=>?_) (λ h6=>?_)
    ·have hq4:((cM (aQ c).data).isSome=true∧((cM (aQ c).data).getD pD).data.size≠0):=by have z:=h6;rw[yZ]at z;simpa [qA]using z
     have hcd:Ca.ok (aQ c).data:=(eT hm).ok.data;refine cSR<|oR 5 rfl<|fR (args:=[.ptr 0 0,vI 4,vU (((cM (aQ c).data).getD pD).line),.v (.string (((cM (aQ c).data).getD pD).data))]) (d:=104) _ rfl rfl rfl ((XR (aQ c) nb (eT hm) 4 (((cM (aQ c).data).getD pD).line) (((cM (aQ c).data).getD pD).data) ((eT hm).gd.dirtyLe) kR xR kF xF false ((aQ c).stores.map ptL) kT xT).frameB (λ z=>z) _ _ rfl ⟨⟨rfl,rfl,rfl,rfl⟩,trivial⟩ rfl rfl rfl rfl) ?_;rintro _ _ ⟨rfl,rfl⟩;refine rE 105<|cRg<|oR 8 rfl<|rCi rfl (HP ((iR (aQ c) 4 (((cM (aQ c).data).getD pD).line) (((cM (aQ c).data).getD pD).data)).data) (((cM (aQ c).data).getD pD).line) hcd ((eT hm).gd.dirtyLe))<|oR 3 rfl<|rSx 0 (mcX ({iR (aQ c) 4 (((cM (aQ c).data).getD pD).line) (((cM (aQ c).data).getD pD).data)with data:=(mW ((iR (aQ c) 4 (((cM (aQ c).data).getD pD).line) (((cM (aQ c).data).getD pD).data)).data) (((cM (aQ c).data).getD pD).line))}:Co) (.sl 17 xR kR) (.sl 2 xF kF) (.sl 2 (((aQ c).stores).map ptL) false) (.sl 9 xT kT)) rfl rfl rfl<|rE 118 ?_;rw[iK,if_pos hns,sX hp,if_neg hra];rw[show iM (aQ c)=kE (aQ c)from if_neg hlt,uI (d:=(aQ c)) hq4];exact pE (rs:=[]) rfl (σ:=λ z=>z) ⟨rfl,rfl⟩ rfl (cB (λ z=>z) rfl rfl wH rfl)
    ·have hq4: ¬ ((cM (aQ c).data).isSome=true∧((cM (aQ c).data).getD pD).data.size≠0):=by have z:=h6;rw[yZ]at z;simpa [qA]using z
     refine bB ?_;rw[iK,if_pos hns,sX hp,if_neg hra];rw[show iM (aQ c)=kE (aQ c)from if_neg hlt,wA (d:=(aQ c)) hq4];exact pE (rs:=[]) rfl (σ:=λ z=>z) ⟨rfl,rfl⟩ rfl (cB (λ z=>z) rfl rfl wH rfl)
 ·have hns: ¬ ((lJ c.stores c.data).2.2=false∧(aQ c).stores≠[]):=by have z:=h1;simpa [c2a,fE]using z
  refine bB<|bK<|cSR<|oR 5 rfl<|rW (vN (((aQ c).stores).length)) rfl (cG ptL ((aQ c).stores))<|rW (vB (decide ((((aQ c).stores).length)>0))) rfl (okB (gtN _ _))<|oR 1 rfl<|gN rfl<|gS rfl id<|gS rfl id<|gS rfl id<|gS rfl id<|gBS (x:=vB (c.halt==0)) rfl id rfl<|cS rfl rfl rfl (by simp)<|rE 58 ?_;refine aV rfl (λ h7=>?_) (λ h7=>?_)
  ·have hlt:((aQ c).stores≠[]∨c.halt=0):=by have z:=h7;simpa [c2o,fE]using z
   refine cO ?_;rw[iK,if_neg hns];rw[show iM (aQ c)=(aQ c)from if_pos hlt];exact pE (rs:=[]) rfl (σ:=λ z=>z) ⟨rfl,rfl⟩ rfl (cB (λ z=>z) rfl rfl wH rfl)
  ·have hlt: ¬ ((aQ c).stores≠[]∨c.halt=0):=by have z:=h7;simpa [c2o,fE]using z
   refine bB<|cSR<|oR 5 rfl<|rCi rfl (HQ (aQ c).data (eT hm).ok.data)<|oR 3 rfl<|rAl 67 rfl rfl<|rSt rfl<|oR 1 rfl<|rE 70<|cSR<|oR 2 rfl<|gN rfl<|gS rfl id<|gBS (x:=vB (!((((cM (aQ c).data).getD pD).data).toList==(⟨#[]⟩:ByteArray).toList))) rfl id rfl ?_;refine cS rfl rfl rfl (λ h=>h)<|rE 76 ?_;refine aV rfl (λ h8=>?_) (λ h8=>?_)
   ·have hq4:((cM (aQ c).data).isSome=true∧((cM (aQ c).data).getD pD).data.size≠0):=by have z:=h8;rw[yZ]at z;simpa [qA]using z
    have hcd:Ca.ok (aQ c).data:=(eT hm).ok.data;refine cSR<|oR 5 rfl<|fR (args:=[.ptr 0 0,vI 4,vU (((cM (aQ c).data).getD pD).line),.v (.string (((cM (aQ c).data).getD pD).data))]) (d:=104) _ rfl rfl rfl ((XR (aQ c) nb (eT hm) 4 (((cM (aQ c).data).getD pD).line) (((cM (aQ c).data).getD pD).data) ((eT hm).gd.dirtyLe) kR xR kF xF false ((aQ c).stores.map ptL) kT xT).frameB (λ z=>z) _ _ rfl ⟨⟨rfl,rfl,rfl,rfl⟩,trivial⟩ rfl rfl rfl rfl) ?_;rintro _ _ ⟨rfl,rfl⟩;refine rE 82<|cRg<|oR 8 rfl<|rCi rfl (HP ((iR (aQ c) 4 (((cM (aQ c).data).getD pD).line) (((cM (aQ c).data).getD pD).data)).data) (((cM (aQ c).data).getD pD).line) hcd ((eT hm).gd.dirtyLe))<|oR 3 rfl<|rSx 0 (mcX ({iR (aQ c) 4 (((cM (aQ c).data).getD pD).line) (((cM (aQ c).data).getD pD).data)with data:=(mW ((iR (aQ c) 4 (((cM (aQ c).data).getD pD).line) (((cM (aQ c).data).getD pD).data)).data) (((cM (aQ c).data).getD pD).line))}:Co) (.sl 17 xR kR) (.sl 2 xF kF) (.sl 2 (((aQ c).stores).map ptL) false) (.sl 9 xT kT)) rfl rfl rfl<|rE 95 ?_;rw[iK,if_neg hns];rw[show iM (aQ c)=kE (aQ c)from if_neg hlt,uI (d:=(aQ c)) hq4];exact pE (rs:=[]) rfl (σ:=λ z=>z) ⟨rfl,rfl⟩ rfl (cB (λ z=>z) rfl rfl wH rfl)
   ·have hq4: ¬ ((cM (aQ c).data).isSome=true∧((cM (aQ c).data).getD pD).data.size≠0):=by have z:=h8;rw[yZ]at z;simpa [qA]using z
    refine bB ?_;rw[iK,if_neg hns];rw[show iM (aQ c)=kE (aQ c)from if_neg hlt,wA (d:=(aQ c)) hq4];exact pE (rs:=[]) rfl (σ:=λ z=>z) ⟨rfl,rfl⟩ rfl (cB (λ z=>z) rfl rfl wH rfl)
theorem WK(a:Addr)(k:Nat)(w:World):Calls Tryz.prog 86 #[.slice (some a) 0 k] w λ e w'=>∃ v,e=.returned v∧Below w.heap.size w w'∧∃ A c,v=.slice A 0 c∧c≤maxLen:=by
 obtain⟨i0,z0,hi, -⟩:=(c0Ok.ty 95 _ rfl).info
 go_enter Tryz.func86,Tryz.ntmps86
 have hb:Sem.run Tryz.prog (binOp .eql 29 (.slice (some a) 0 k) (.slice none 0 0)) w=.ok (.bool false) w:=by
  have e1:(Op.equal 29 (.slice (some a) 0 k) (.slice none 0 0)).run Tryz.prog w=.ok (some a).isNone w:=AY Tryz.prog w 9999 _ 95 (c0Ok.ty 29 _ rfl).kd _ _ _;simp only[binOp,Sem.run_bind,e1,Result.andThen_ok];rfl
 go_wp2_with (first|(rw[hb];simp only[Result.andThen_ok,Oper.upon])|(at_builtin;refine xL rfl (.tmp 5) (.tmp 6) 29 rfl 95 i0 (c0Ok.ty 29 _ rfl).kd hi _ _ _ _ rfl rfl ?_))
 go_ret
 exact⟨_,rfl,(Below.refl _ _).alloc (aC _) _,_,_,rfl,aD _⟩
theorem MS(k:Nat):bT C0 86 [.v (.slice none 0 k)] (.sl 0 [] true):=by
 refine bT.intro c0Ok Tryz.func86 rfl rfl (by kernel_rfl) rfl<|cSR<|oR 1 rfl<|rE 1<|bK<|cSR<|oR 1 rfl<|rV (vB true) rfl<|rE 3<|aV rfl (λ _=>?_) (λ h=>by cases h);refine cSR<|oR 1 rfl<|rE 4<|cO ?_;exact fT rfl rfl
theorem TA(ck:Bool):bT C0 86 [.sl 17 [] ck] (.sl 17 [] false):=by
 refine⟨(MS 0).1,λ S w vs hS hG hr=>?_⟩
 match vs,hr with
 |[],hr=>simp[RepL]at hr
 |_::_::_,hr=>simp[RepL]at hr
 | [v],hr=>
  have h0:=hr.2 0 _ v rfl rfl
  cases h0 with
  | sl _ _ _ A c b o u hc hm hcl hrs hA hw h1 h'=>
   cases A with
   |none=>exact ((MS c).sub (vG 17 false)).2 S w _ hS hG (RepL.cons (.v _) (RepL.nil _ _ _))
   |some a=>
    exact (WK a c w).mono λ e w' ⟨v,h1,h2,A,c',h3,h4⟩=>⟨v,h1,h2,h3 ▸ .sl 17 [] false A c' 0 0 (λ _ _=>.bool false) (aD _) h4 (λ h=>by cases h) (λ _ h=>by cases h) (λ h=>absurd h (dU 0)) (λ i row j a h=>by simp at h) (λ _ _=>rfl) λ i row j a h=>by simp at h⟩
theorem TB{p:Prop}{H:AH}{s:Nat}(e:Ent)(l:List Ent):Res.fx p (.osl s 0 (([]:List (List AV)).length+((e::l).map enL).length) false) (upd H s (some (.arr (([]:List (List AV))++(e::l).map enL) 17)))=.fx p (.osl s 0 (l.length+1) false) (upd H s (some (.arr ((e::l).map enL) 17))):=by
 rw[iA,aJ,bJ,cR,bR]
theorem WL(e:Ent)(l:List Ent)(ck:Bool)(hl:l.length≤1000):pL C0.P C0.G 86 [.sl 17 ((e::l).map enL) ck] (heapF []) 0 (λ x h'=>x=.osl 0 0 (l.length+1) false∧h'=heapF [(0,.arr ((e::l).map enL) 17)]):=by
 refine HCall.intro (C:=C0) (s:=0) c0Ok.at Tryz.func86 rfl rfl (by kernel_rfl) rfl rfl<|cSR<|oR 1 rfl<|rE 1<|bK<|cSR<|oR 1 rfl<|rV (vB false) rfl<|rE 3<|aV rfl (λ h=>by cases h) (λ _=>?_);refine bB<|cSR<|rV (.sl 17 ([]) true) rfl<|oR 1 rfl<|rFx (x:=.osl 5 0 (l.length+1) false) (h':=upd _ 5 (some (.arr ((e::l).map enL) 17))) rfl rfl (TB e l) (⟨by simp only[aJ,bJ,cR,oZ];omega,by simp,trivial,trivial⟩)<|oR 1 rfl<|rE 7<|cO ?_;exact pE (rs:=[.osl 5 0 (l.length+1) false]) rfl (r:=.osl 0 0 (l.length+1) false) (h':=heapF [(0,.arr ((e::l).map enL) 17)]) (σ:=λ _=>5) ⟨rfl,rfl⟩ rfl (cB (λ _=>5) rfl rfl wH rfl)
theorem UL(l:List Ft)(ck:Bool)(hl:l.length≤1000000):bT C0 87 [.sl 2 (l.map ftL) ck] (.sl 2 (l.map ftL) true):=by
 refine bT.intro c0Ok Tryz.func87 rfl rfl (by kernel_rfl) rfl<|cSR<|oR 1 rfl<|rE 1<|cSR<|oR 2 rfl<|rW (vN l.length) rfl (cG ftL l)<|oR 1 rfl<|rW (vN l.length) rfl (cG ftL l)<|nW (.sl 2 ((l.take l.length).map ftL) true) rfl (xJ (vF ftL l l.length)) (by refine⟨?_,?_,?_,?_⟩;all_goals (first|exact aF _|decide|(apply Ff.2;exact omT)|(show (_:Int)=(_:Int);congr 1;omega)|rfl))<|oR 1 rfl<|rE 8<|cO<|fT rfl ?_;show AV.sl 2 (List.map ftL (List.take l.length l)) true=_;rw[dJ]
theorem UM(l:List Pt)(ck:Bool)(hl:l.length≤1000000):bT C0 88 [.sl 2 (l.map ptL) ck] (.sl 2 (l.map ptL) true):=by
 refine bT.intro c0Ok Tryz.func88 rfl rfl (by kernel_rfl) rfl<|cSR<|oR 1 rfl<|rE 1<|cSR<|oR 2 rfl<|rW (vN l.length) rfl (cG ptL l)<|oR 1 rfl<|rW (vN l.length) rfl (cG ptL l)<|nW (.sl 2 ((l.take l.length).map ptL) true) rfl (xJ (vF ptL l l.length)) (by refine⟨?_,?_,?_,?_⟩;all_goals (first|exact aF _|decide|(apply Ff.2;exact omT)|(show (_:Int)=(_:Int);congr 1;omega)|rfl))<|oR 1 rfl<|rE 8<|cO<|fT rfl ?_;show AV.sl 2 (List.map ptL (List.take l.length l)) true=_;rw[dJ]
theorem UN(l:List Req)(ck:Bool)(hl:l.length≤1000000):bT C0 89 [.sl 4 (l.map rqL) ck] (.sl 4 (l.map rqL) true):=by
 refine bT.intro c0Ok Tryz.func89 rfl rfl (by kernel_rfl) rfl<|cSR<|oR 1 rfl<|rE 1<|cSR<|oR 2 rfl<|rW (vN l.length) rfl (cG rqL l)<|oR 1 rfl<|rW (vN l.length) rfl (cG rqL l)<|nW (.sl 4 ((l.take l.length).map rqL) true) rfl (xJ (vF rqL l l.length)) (by refine⟨?_,?_,?_,?_⟩;all_goals (first|exact aF _|decide|(apply Ff.2;exact omT)|(show (_:Int)=(_:Int);congr 1;omega)|rfl))<|oR 1 rfl<|rE 8<|cO<|fT rfl ?_;show AV.sl 4 (List.map rqL (List.take l.length l)) true=_;rw[dJ]
theorem UO(l:List Sp)(ck:Bool)(hl:l.length≤1000000):bT C0 90 [.sl 9 (l.map spL) ck] (.sl 9 (l.map spL) true):=by
 refine bT.intro c0Ok Tryz.func90 rfl rfl (by kernel_rfl) rfl<|cSR<|oR 1 rfl<|rE 1<|cSR<|oR 2 rfl<|rW (vN l.length) rfl (cG spL l)<|oR 1 rfl<|rW (vN l.length) rfl (cG spL l)<|nW (.sl 9 ((l.take l.length).map spL) true) rfl (xJ (vF spL l l.length)) (by refine⟨?_,?_,?_,?_⟩;all_goals (first|exact aF _|decide|(apply Ff.2;exact omT)|(show (_:Int)=(_:Int);congr 1;omega)|rfl))<|oR 1 rfl<|rE 8<|cO<|fT rfl ?_;show AV.sl 9 (List.map spL (List.take l.length l)) true=_;rw[dJ]
theorem qS{c:Co}{fz:Fz}{R R' F F' S S' T T':AV}(hR:LeZ fz R R')(hF:LeZ fz F F')(hS:LeZ fz S S')(hT:LeZ fz T T'):LeL fz (mcX c R F S T) (mcX c R' F' S' T'):=
 ⟨.refl _,.refl _,.refl _,.refl _,.refl _,.refl _,.refl _,.refl _,.refl _,.refl _,.refl _,.refl _,.refl _,.refl _,.refl _,.refl _,.refl _,.refl _,.refl _,.refl _,.refl _,.refl _,.refl _,.refl _,.refl _,.refl _,.refl _,.refl _,.refl _,.refl _,.refl _,.refl _,.refl _,.refl _,.refl _,.refl _,.refl _,.refl _,.refl _,.refl _,.refl _,.refl _,.refl _,.refl _,.refl _,.refl _,.refl _,hF,hR,.refl _,hS,.refl _,.refl _,.refl _,.refl _,.refl _,.refl _,.refl _,.refl _,.refl _,.refl _,.refl _,.refl _,hT,trivial⟩
theorem Zc{C:Ctx}{fn:Func}{Post:AV→AH→Prop}{s:Nat}{st stg:ASt}{rs:List AV}(h1:resA C st fn.results.toList=some rs)(hg:Ghosts ⟨FC (CO rs),st.h,st.n⟩ stg){r:AV}{h':AH}{σ:Nat→Nat}(hP:Post r h')(hk:keepB s σ (s+1)=true)(hW:Weak stg ⟨FC r,h',s+1⟩ σ):
  ∃ rs,resA C st fn.results.toList=some rs∧GhostN ⟨FC (CO rs),st.h,st.n⟩ (λ stg=>∃ r h' σ,Post r h'∧keepB s σ (s+1)=true∧Weak stg ⟨FC r,h',s+1⟩ σ):=
 ⟨rs,h1,.mk _ hg ⟨r,h',σ,hP,hk,hW⟩⟩
theorem Ck{x r:AV}{h:AH}{n0:Nat}{hp:List (Nat×Blk)}{n:Nat}(σ:Nat→Nat)(hx:x=uV σ r)(hb:nJ n r=true)(hh:WH ⟨slotsF [(0,x)],h,n0⟩ n σ hp)(hi:DL ((hp.map (·.1)).map σ)=true):Weak ⟨slotsF [(0,x)],h,n0⟩ ⟨FC r,heapF hp,n⟩ σ:=by
 have W:=Weak.of_lists (st:=⟨slotsF [(0,x)],h,n0⟩) (l:=[(0,r)]) (hp:=hp) (n:=n) σ ⟨⟨hx,hb⟩,trivial⟩ hh hi;refine⟨λ i=>?_,W.h,W.inj⟩;have:=W.t i
 cases i with
 |zero=>exact this
 |succ i=>exact .inl rfl
theorem Ghosts.snoc{a b c:ASt}{fz:Fz}(h:Ghosts a b)(k:Ghost b c fz):Ghosts a c:=by
 induction h with
 |refl=>exact .step fz k (.refl _)
 |step f g _ ih=>exact .step f g (ih k)
abbrev fzB (fz:Fz) (i:Nat):Prop:=match fz with|some (b,_,_)=>Nat.beq i b=false|none=>True
abbrev fzH (fz:Fz) (h:AH):Prop:=match fz with|some (x,rs,rows)=>h x=some (.arr rows rs)|none=>True
theorem ghX{st:ASt}{fz:Fz}{i:Nat}{cs ds:List AV}{l:List (Nat×Blk)}(h0:st.h i=some (.box cs))(hle:LeL fz cs ds)(hl:GH st fz l)(hz:fzB fz i:=by first|exact trivial|rfl):GH st fz ((i,.box ds)::l):=⟨⟨by rcases fz with _|⟨b,r,q⟩<;>exact hz,_,h0,.boxL hle⟩,hl⟩
theorem ghA{st:ASt}{fz:Fz}{i:Nat}{b:Blk}{l:List (Nat×Blk)}(h0:st.h i=some b)(hl:GH st fz l)(hz:fzB fz i:=by first|exact trivial|rfl):GH st fz ((i,b)::l):=⟨⟨by rcases fz with _|⟨b,r,q⟩<;>exact hz,_,h0,.refl _⟩,hl⟩
theorem Dt{C:Ctx}{fn:Func}{Post:AV→AH→Prop}{s:Nat}{st a:ASt}{hp:List (Nat×Blk)}(hg:Ghosts ⟨FC (.tup []),st.h,st.n⟩ a)(fz:Fz)(hP:Post (.tup []) (heapF hp))(hG:GH a fz hp)(h1:resA C st fn.results.toList=some []:=by rfl)(hb:fzH fz a.h:=by first|exact trivial|rfl)(ht:LeZ fz (a.t 0) (.tup []):=by exact .refl _)(hk:keepB s (λ z=>z) (s+1)=true:=by rfl)(hh:WH ⟨slotsF [(0,.tup [])],heapF hp,a.n⟩ (s+1) (λ z=>z) hp:=by exact wH)(hi:DL ((hp.map (·.1)).map (λ z=>z))=true:=by rfl):
  ∃ rs,resA C st fn.results.toList=some rs∧GhostN ⟨FC (CO rs),st.h,st.n⟩ (λ stg=>∃ r h' σ,Post r h'∧keepB s σ (s+1)=true∧Weak stg ⟨FC r,h',s+1⟩ σ):=
 Zc (rs:=[]) h1 (hg.snoc (Ghost.of_lists (l:=[(0,.tup [])]) (by rcases fz with _|⟨b,r,q⟩<;>exact hb) ⟨ht,trivial⟩ hG)) hP hk (Ck (λ z=>z) rfl rfl hh hi)
theorem ZY(c:Co)(nb:Nat)(hm:c.okM nb)(kR kF kS kT:Bool):pL C0.P C0.G 51 [.ptr 0 0] (heapF [(0,.box (mcX c (.sl 17 [] kR) (.sl 2 (c.fetched.map ftL) kF) (.sl 2 (c.stores.map ptL) kS) (.sl 9 (c.retired.map spL) kT)))]) 1 (λ x h'=>x=.tup []∧h'=heapF [(0,.box (mcX c (.sl 17 [] false) (.sl 2 (c.fetched.map ftL) true) (.sl 2 (c.stores.map ptL) true) (.sl 9 (c.retired.map spL) true)))]):=by
 refine HCall.intro (C:=C0) (s:=1) c0Ok.at Tryz.func51 rfl rfl (by kernel_rfl) rfl rfl<|cSR<|oR 6 rfl<|rCi rfl (TA kR)<|oR 3 rfl<|rSx 0 (mcX c (.sl 17 ([]) false) (.sl 2 (c.fetched.map ftL) kF) (.sl 2 (c.stores.map ptL) kS) (.sl 9 (c.retired.map spL) kT)) rfl rfl rfl<|rE 12<|cSR<|oR 6 rfl<|rCi rfl (UL c.fetched kF (by have:=hm.fet;omega))<|oR 3 rfl<|rSx 0 (mcX c (.sl 17 ([]) false) (.sl 2 (c.fetched.map ftL) true) (.sl 2 (c.stores.map ptL) kS) (.sl 9 (c.retired.map spL) kT)) rfl rfl rfl<|rE 23<|bK ?_;refine cRg<|oR 6 rfl<|rCi rfl (UM c.stores kS (by have:=hm.sto;omega))<|oR 3 rfl<|rSx 0 (mcX c (.sl 17 ([]) false) (.sl 2 (c.fetched.map ftL) true) (.sl 2 (c.stores.map ptL) true) (.sl 9 (c.retired.map spL) kT)) rfl rfl rfl<|rE 34<|cSR<|oR 6 rfl<|rCi rfl (UN c.bus false (by have:=hm.bus;omega))<|oR 3 rfl<|rSt rfl<|rE 45<|cRg<|oR 6 rfl<|rCi rfl (UO c.retired kT (by have:=hm.ret;omega)) ?_;refine oR 3 rfl<|rSt rfl<|rE 56 ?_;exact Zc (rs:=[]) rfl (.step none (Ghost.of_lists (l:=[(0,.tup [])]) (hp:=[(0,.box (mcX c (.sl 17 [] false) (.sl 2 (c.fetched.map ftL) true) (.sl 2 (c.stores.map ptL) true) (.sl 9 (c.retired.map spL) true)))]) trivial ⟨.refl _,trivial⟩ ⟨⟨trivial,_,rfl,LeB.boxL ⟨.refl _,.refl _,.refl _,.refl _,.refl _,.refl _,.refl _,.refl _,.refl _,.refl _,.refl _,.refl _,.refl _,.refl _,.refl _,.refl _,.refl _,.refl _,.refl _,.refl _,.refl _,.refl _,.refl _,.refl _,.refl _,.refl _,.refl _,.refl _,.refl _,.refl _,.refl _,.refl _,.refl _,.refl _,.refl _,.refl _,.refl _,.refl _,.refl _,.refl _,.refl _,.refl _,.refl _,.refl _,.refl _,.refl _,.refl _,.refl _,.refl _,.refl _,.refl _,.refl _,.refl _,.refl _,.refl _,.clip _ _,.refl _,.refl _,.refl _,.refl _,.refl _,.refl _,.refl _,.refl _,trivial⟩⟩,trivial⟩) (.refl _)) (r:=.tup []) (h':=heapF [(0,.box (mcX c (.sl 17 [] false) (.sl 2 (c.fetched.map ftL) true) (.sl 2 (c.stores.map ptL) true) (.sl 9 (c.retired.map spL) true)))]) (σ:=λ z=>z) ⟨rfl,rfl⟩ rfl (Ck (λ z=>z) rfl rfl wH rfl)
theorem ZZ(c:Co)(nb:Nat)(hm:c.okM nb)(e:Ent)(l:List Ent)(hel:(e::l).length≤1000)(kR kF kS kT:Bool):pL C0.P C0.G 51 [.ptr 0 0] (heapF [(0,.box (mcX c (.sl 17 ((e::l).map enL) kR) (.sl 2 (c.fetched.map ftL) kF) (.sl 2 (c.stores.map ptL) kS) (.sl 9 (c.retired.map spL) kT)))]) 1 (λ x h'=>x=.tup []∧h'=heapF [(0,.box (mcX c (.osl 1 0 (l.length+1) false) (.sl 2 (c.fetched.map ftL) true) (.sl 2 (c.stores.map ptL) true) (.sl 9 (c.retired.map spL) true))),(1,.arr ((e::l).map enL) 17)]):=by
 refine HCall.intro (C:=C0) (s:=1) c0Ok.at Tryz.func51 rfl rfl (by kernel_rfl) rfl rfl ?_;have hel2:l.length+1≤1000:=hel;refine cSR<|oR 6 rfl<|fR (args:=[.sl 17 ((e::l).map enL) kR]) (d:=8) _ rfl rfl rfl ((WL e l kR omT).frame0 _ _ rfl) ?_;rintro _ _ ⟨rfl,rfl⟩;refine oR 3 rfl<|rSx 0 (mcX c (.osl 7 0 (l.length+1) false) (.sl 2 (c.fetched.map ftL) kF) (.sl 2 (c.stores.map ptL) kS) (.sl 9 (c.retired.map spL) kT)) rfl rfl rfl<|rE 12<|cSR<|oR 6 rfl<|rCi rfl (UL c.fetched kF (by have:=hm.fet;omega))<|oR 3 rfl<|rSx 0 (mcX c (.osl 7 0 (l.length+1) false) (.sl 2 (c.fetched.map ftL) true) (.sl 2 (c.stores.map ptL) kS) (.sl 9 (c.retired.map spL) kT)) rfl rfl rfl<|rE 23<|cSR<|oR 6 rfl<|rCi rfl (UM c.stores kS (by have:=hm.sto;omega))<|oR 3 rfl<|rSx 0 (mcX c (.osl 7 0 (l.length+1) false) (.sl 2 (c.fetched.map ftL) true) (.sl 2 (c.stores.map ptL) true) (.sl 9 (c.retired.map spL) kT)) rfl rfl rfl ?_;refine rE 34<|cSR<|oR 6 rfl<|rCi rfl (UN c.bus false (by have:=hm.bus;omega))<|oR 3 rfl<|rSt rfl<|rE 45<|cRg<|oR 6 rfl<|rCi rfl (UO c.retired kT (by have:=hm.ret;omega))<|oR 3 rfl<|rSt rfl<|rE 56 ?_;exact Zc (rs:=[]) rfl (.step none (Ghost.of_lists (l:=[(0,.tup [])]) (hp:=[(0,.box (mcX c (.osl 7 0 (l.length+1) false) (.sl 2 (c.fetched.map ftL) true) (.sl 2 (c.stores.map ptL) true) (.sl 9 (c.retired.map spL) true))),(7,.arr ((e::l).map enL) 17)]) trivial ⟨.refl _,trivial⟩ ⟨⟨trivial,_,rfl,LeB.boxL ⟨.refl _,.refl _,.refl _,.refl _,.refl _,.refl _,.refl _,.refl _,.refl _,.refl _,.refl _,.refl _,.refl _,.refl _,.refl _,.refl _,.refl _,.refl _,.refl _,.refl _,.refl _,.refl _,.refl _,.refl _,.refl _,.refl _,.refl _,.refl _,.refl _,.refl _,.refl _,.refl _,.refl _,.refl _,.refl _,.refl _,.refl _,.refl _,.refl _,.refl _,.refl _,.refl _,.refl _,.refl _,.refl _,.refl _,.refl _,.refl _,.refl _,.refl _,.refl _,.refl _,.refl _,.refl _,.refl _,.clip _ _,.refl _,.refl _,.refl _,.refl _,.refl _,.refl _,.refl _,.refl _,trivial⟩⟩,⟨trivial,_,rfl,.refl _⟩,trivial⟩) (.refl _)) (r:=.tup []) (h':=heapF [(0,.box (mcX c (.osl 1 0 (l.length+1) false) (.sl 2 (c.fetched.map ftL) true) (.sl 2 (c.stores.map ptL) true) (.sl 9 (c.retired.map spL) true))),(1,.arr ((e::l).map enL) 17)]) (σ:=λ z=>match z with|1=>7|z=>z) ⟨rfl,rfl⟩ rfl (Ck (λ z=>match z with|1=>7|z=>z) rfl rfl wH rfl)
theorem Pw{g:Gu}(h:g.ok)(pc:Nat)(i:SI):wE g pc i≤4294967295:=by
 unfold wE;split
 ·split
  ·cases hl:g.rets.getLast? with
   |none=>exact aD _
   |some x=>exact h.ro x (List.mem_of_getLast? hl)
  ·cases hs:g.slots[gP g pc]? with
   |none=>exact zC _
   |some s=>
    dsimp only;split
    ·exact (h.so s (aB hs)).next
    ·exact zC _
 ·exact zC _
theorem Px{c:Cf}(h:∀ x∈c.tape,x≤4294967295)(k:Int)(pc:Nat):xN c k pc≤4294967295:=by
 have hp:=HI h;unfold xN;generalize (bO c).tape=l at hp
 cases l with
 |nil=>exact zC _
 |cons y l=>
  show (y::l).getD _ _≤_;rw[bC]
  cases hq:(y::l)[(max k 0).toNat % (y::l).length]? with
  |none=>exact aD _
  |some x=>exact hp x (aB hq)
theorem Py{c:Co}{n:Nat}(h:c.okM n)(w:Nat):(cF c w).2≤4294967295:=by
 unfold cF;split
 ·exact zC _
 ·split
  ·exact Pw h.ok.guess _ _
  ·exact Px h.conf.tp _ _
theorem AP(c:Co)(w:Nat):(cF c w).1.fetched=c.fetched:=by
 unfold cF;split
 ·rfl
 ·split<;>rfl
def gY(d:Co):Co:={d with words:=mL d.words (lineOf d.fetch)}
theorem Az{c:Co}{n:Nat}(h:c.okM n):(gY c).okM n:=by
 have g:=Zq.1 (h.gw.touch (lineOf c.fetch));exact⟨⟨h.ok.conf,h.ok.prog,h.ok.progo,h.ok.r,h.ok.fetch,h.ok.fet,h.ok.feto,h.ok.rob,h.ok.robo,h.ok.sto,h.ok.stoo,h.ok.data,g.2,h.ok.bus,h.ok.buso,h.ok.asked,h.ok.guessed,h.ok.mem,h.ok.guess,h.ok.ret,h.ok.reto⟩,h.nb,h.cf,h.data,g.1,h.guess,h.rob,h.fet,h.sto,h.prog,h.mem,h.std⟩
theorem NC{c:Co}{n:Nat}(h:c.okM n)(w:Nat):(cF c w).1.okM n:=by
 unfold cF;split
 ·exact h
 ·split
  ·exact h
  ·exact⟨⟨h.ok.conf,h.ok.prog,h.ok.progo,h.ok.r,h.ok.fetch,h.ok.fet,h.ok.feto,h.ok.rob,h.ok.robo,h.ok.sto,h.ok.stoo,h.ok.data,h.ok.words,h.ok.bus,h.ok.buso,h.ok.asked,Er _,h.ok.mem,h.ok.guess,h.ok.ret,h.ok.reto⟩,h.nb,h.cf,h.data,h.words,h.guess,h.rob,h.fet,h.sto,h.prog,h.mem,h.std⟩
theorem KX{c:Co}{n:Nat}(h:c.okM n)(hf:c.fetched.length≤999){x:Nat}(hx:x≤4294967295):(Lg c x).okM n:=by
 have hl:(c.fetched++[(⟨c.fetch,x⟩:Ft)]).length≤1000:=by simp;omega
 exact⟨⟨h.ok.conf,h.ok.prog,h.ok.progo,h.ok.r,hx,aL hl (by decide),rP h.ok.feto (rQ ⟨h.ok.fetch,hx⟩),h.ok.rob,h.ok.robo,h.ok.sto,h.ok.stoo,h.ok.data,h.ok.words,h.ok.bus,h.ok.buso,h.ok.asked,h.ok.guessed,h.ok.mem,h.ok.guess,h.ok.ret,h.ok.reto⟩,h.nb,h.cf,h.data,h.words,h.guess,h.rob,hl,h.sto,h.prog,h.mem,h.std⟩
def xG(d:Co):Co:=Lg (cF (gY d) (fetchW d.prog d.fetch)).1 (cF (gY d) (fetchW d.prog d.fetch)).2
theorem tJ(d:Co):(xG d).fetched=d.fetched++[⟨(cF (gY d) (fetchW d.prog d.fetch)).1.fetch,(cF (gY d) (fetchW d.prog d.fetch)).2⟩]:=by
 show (cF (gY d) _).1.fetched++_=_;rw[AP];rfl
theorem Cy{c:Co}{n:Nat}(h:c.okM n)(hf:c.fetched.length≤999):(xG c).okM n:=
 KX (NC (Az h) _) (by rw[AP];exact hf) (Py (Az h) _)
theorem pO{d:Co}{n:Nat}(h:d.stop=true∨(d.fetched.length:Int)≥d.conf.queue):dS n d=d:=by
 cases n with
 |zero=>rfl
 |succ n=>exact if_pos h
theorem qX{d:Co}{n:Nat}(hn:0<n)(h: ¬ (d.stop=true∨(d.fetched.length:Int)≥d.conf.queue))(hf:(fetchP d.prog d.fetch).isSome=false):dS n d={d with fetched:=d.fetched++[⟨d.fetch,up4 d.fetch⟩],stop:=true}:=by
 cases n with
 |zero=>cases hn
 |succ n=>exact (if_neg h).trans (if_pos hf)
theorem nK{d:Co}{n:Nat}(hn:0<n)(h: ¬ (d.stop=true∨(d.fetched.length:Int)≥d.conf.queue))(hf: ¬ (fetchP d.prog d.fetch).isSome=false)(hw:(aX d.words (lineOf d.fetch)).2.isSome=false):dS n d=if DE d.bus (lineOf d.fetch) 2=false∧qL d false=true then iR d 2 (lineOf d.fetch) nE else d:=by
 cases n with
 |zero=>cases hn
 |succ n=>exact ((if_neg h).trans (if_neg hf)).trans (if_pos hw)
theorem sW{d:Co}{n k:Nat}(hn:k<n)(h: ¬ (d.stop=true∨(d.fetched.length:Int)≥d.conf.queue))(hf: ¬ (fetchP d.prog d.fetch).isSome=false)(hw: ¬ (aX d.words (lineOf d.fetch)).2.isSome=false):dS (n - (k+1)) (xG d)=dS (n - k) d:=by
 rw[show n - k=(n - (k+1))+1 by omega];exact (((if_neg h).trans (if_neg hf)).trans (if_neg hw)).symm
theorem VK(c:Co)(nb:Nat)(hm:c.okM nb)(w:Nat)(hw:w≤4294967295)(kR:Bool)(xR:List (List AV))(kF:Bool)(xF:List (List AV))(kS:Bool)(xS:List (List AV))(kT:Bool)(xT:List (List AV)):pL C0.P C0.G 119 [.ptr 0 0,vU w] (heapF [(0,.box (mcX c (.sl 17 xR kR) (.sl 2 xF kF) (.sl 2 xS kS) (.sl 9 xT kT)))]) 1 (λ x h'=>x=vU (cF c w).2∧h'=heapF [(0,.box (mcX (cF c w).1 (.sl 17 xR kR) (.sl 2 xF kF) (.sl 2 xS kS) (.sl 9 xT kT)))]):=by
 refine HCall.intro (C:=C1) (s:=1) c1Ok.at Tryz.func119 rfl rfl (by kernel_rfl) rfl rfl<|cSR<|oR 1 rfl<|rE 2<|cSR<|oR 1 rfl<|rCi rfl (Lo w (BT hw))<|oR 3 rfl<|rAl 7 rfl rfl<|rSt rfl<|oR 1 rfl<|rE 10<|bK<|bK ?_;refine cRg<|oR 1 rfl<|rW (vB ((decE w) != 0)) rfl (okB (neN _ _))<|oR 1 rfl<|gN rfl<|lX (args:=[.agg [vI ((lL w).op),vI ((lL w).rd),vI ((lL w).rs1),vI ((lL w).rs2),vU ((lL w).imm)]]) (x:=vN (kindOf (lL w).op)) (g:= !((decE w) != 0)) rfl rfl rfl rfl (λ h=>h) rfl rfl rfl (.inl rfl) rfl (λ hg=>qR (lL w))<|gBS (x:=vB ((kindOf (lL w).op) != 5)) rfl id (okB (neN _ _))<|cS rfl rfl rfl (by simp)<|rE 17 ?_;refine aV rfl (λ h1=>?_) (λ h1=>?_)
 ·have hk1:(Fr w=0∨kindOf (lL w).op≠5):=by have z:=h1;have e:=CW w;simp only[c2o,dH,dW,pV,iC,ne_eq]at z;grind
  refine cSR<|oR 5 rfl ?_;have b1:(c.fetch+4) % 4294967296≤4294967295:=aT (aY _ (by decide));refine rV (vU ((c.fetch+4) % 4294967296)) rfl<|oR 1 rfl<|rE 24<|cO ?_;rw[show cF c w=(c,up4 c.fetch)from if_pos hk1];exact pE (rs:=[vU ((c.fetch+4) % 4294967296)]) rfl (r:=vU ((c.fetch+4) % 4294967296)) (σ:=λ z=>z) ⟨rfl,rfl⟩ rfl (cB (λ z=>z) rfl rfl wH rfl)
 ·have hk1: ¬ (Fr w=0∨kindOf (lL w).op≠5):=by have z:=h1;have e:=CW w;simp only[c2o,dH,dW,pV,iC,ne_eq]at z;grind
  refine bB<|bK<|cSR<|oR 6 rfl<|rE 23 ?_;refine aV rfl (λ h2=>?_) (λ h2=>?_)
  ·refine cSR<|oR 11 rfl<|rCi rfl (QD c.guess c.fetch (lL w) hm.ok.guess hm.ok.fetch (aT (Ik w)))<|oR 1 rfl<|rE 36<|cO ?_;rw[show cF c w=(c,wE c.guess c.fetch (lL w))from (if_neg hk1).trans (if_pos h2)];exact pE (rs:=[vU (wE c.guess c.fetch (lL w))]) rfl (r:=vU (wE c.guess c.fetch (lL w))) (σ:=λ z=>z) ⟨rfl,rfl⟩ rfl (cB (λ z=>z) rfl rfl wH rfl)
  ·refine bB<|cSR<|oR 15 rfl<|rCi rfl (PS c.conf c.guessed c.fetch hm.conf hm.ok.guessed hm.ok.fetch)<|oR 1 rfl<|rE 40<|cSR<|oR 5 rfl<|rW (vI (wrap64 (c.guessed+1))) rfl (okI (w64 _))<|oR 3 rfl<|rSx 0 (mcX ({c with guessed:=wrap64 (c.guessed+1)}:Co) (.sl 17 xR kR) (.sl 2 xF kF) (.sl 2 xS kS) (.sl 9 xT kT)) rfl rfl rfl<|rE 50<|cSR ?_;refine oR 2 rfl<|rE 52<|cO ?_;rw[show cF c w=({c with guessed:=wrap64 (c.guessed+1)},xN c.conf c.guessed c.fetch)from (if_neg hk1).trans (if_neg (by rw[h2];decide))];exact pE (rs:=[vU (xN c.conf c.guessed c.fetch)]) rfl (r:=vU (xN c.conf c.guessed c.fetch)) (σ:=λ z=>z) ⟨rfl,rfl⟩ rfl (cB (λ z=>z) rfl rfl wH rfl)
theorem SD(c:Co)(nb:Nat)(hm:c.okM nb)(w:Nat)(hw:w≤4294967295)(kR:Bool)(xR:List (List AV))(lF nF:Nat)(kF:Bool)(rF:List (List AV))(kS:Bool)(xS:List (List AV))(kT:Bool)(xT:List (List AV)):pL C0.P C0.G 119 [.ptr 0 0,vU w] (heapF [(0,.box (mcX c (.sl 17 xR kR) (.osl 1 lF nF kF) (.sl 2 xS kS) (.sl 9 xT kT))),(1,.arr rF 2)]) 2 (λ x h'=>x=vU (cF c w).2∧h'=heapF [(0,.box (mcX (cF c w).1 (.sl 17 xR kR) (.osl 1 lF nF kF) (.sl 2 xS kS) (.sl 9 xT kT))),(1,.arr rF 2)]):=by
 refine HCall.intro (C:=C1) (s:=2) c1Ok.at Tryz.func119 rfl rfl (by kernel_rfl) rfl rfl<|cSR<|oR 1 rfl<|rE 3<|cSR<|oR 1 rfl<|rCi rfl (Lo w (BT hw))<|oR 3 rfl<|rAl 8 rfl rfl<|rSt rfl<|oR 1 rfl<|rE 11<|bK<|bK ?_;refine cRg<|oR 1 rfl<|rW (vB ((decE w) != 0)) rfl (okB (neN _ _))<|oR 1 rfl<|gN rfl<|lX (args:=[.agg [vI ((lL w).op),vI ((lL w).rd),vI ((lL w).rs1),vI ((lL w).rs2),vU ((lL w).imm)]]) (x:=vN (kindOf (lL w).op)) (g:= !((decE w) != 0)) rfl rfl rfl rfl (λ h=>h) rfl rfl rfl (.inl rfl) rfl (λ hg=>qR (lL w))<|gBS (x:=vB ((kindOf (lL w).op) != 5)) rfl id (okB (neN _ _))<|cS rfl rfl rfl (by simp)<|rE 18 ?_;refine aV rfl (λ h1=>?_) (λ h1=>?_)
 ·have hk1:(Fr w=0∨kindOf (lL w).op≠5):=by have z:=h1;have e:=CW w;simp only[c2o,dH,dW,pV,iC,ne_eq]at z;grind
  refine cSR<|oR 5 rfl ?_;have b1:(c.fetch+4) % 4294967296≤4294967295:=aT (aY _ (by decide));refine rV (vU ((c.fetch+4) % 4294967296)) rfl<|oR 1 rfl<|rE 25<|cO ?_;rw[show cF c w=(c,up4 c.fetch)from if_pos hk1];exact pE (rs:=[vU ((c.fetch+4) % 4294967296)]) rfl (r:=vU ((c.fetch+4) % 4294967296)) (σ:=λ z=>z) ⟨rfl,rfl⟩ rfl (cB (λ z=>z) rfl rfl wH rfl)
 ·have hk1: ¬ (Fr w=0∨kindOf (lL w).op≠5):=by have z:=h1;have e:=CW w;simp only[c2o,dH,dW,pV,iC,ne_eq]at z;grind
  refine bB<|bK<|cSR<|oR 6 rfl<|rE 24 ?_;refine aV rfl (λ h2=>?_) (λ h2=>?_)
  ·refine cSR<|oR 11 rfl<|rCi rfl (QD c.guess c.fetch (lL w) hm.ok.guess hm.ok.fetch (aT (Ik w)))<|oR 1 rfl<|rE 37<|cO ?_;rw[show cF c w=(c,wE c.guess c.fetch (lL w))from (if_neg hk1).trans (if_pos h2)];exact pE (rs:=[vU (wE c.guess c.fetch (lL w))]) rfl (r:=vU (wE c.guess c.fetch (lL w))) (σ:=λ z=>z) ⟨rfl,rfl⟩ rfl (cB (λ z=>z) rfl rfl wH rfl)
  ·refine bB<|cSR<|oR 15 rfl<|rCi rfl (PS c.conf c.guessed c.fetch hm.conf hm.ok.guessed hm.ok.fetch)<|oR 1 rfl<|rE 41<|cSR<|oR 5 rfl<|rW (vI (wrap64 (c.guessed+1))) rfl (okI (w64 _))<|oR 3 rfl<|rSx 0 (mcX ({c with guessed:=wrap64 (c.guessed+1)}:Co) (.sl 17 xR kR) (.osl 1 lF nF kF) (.sl 2 xS kS) (.sl 9 xT kT)) rfl rfl rfl<|rE 51<|cSR ?_;refine oR 2 rfl<|rE 53<|cO ?_;rw[show cF c w=({c with guessed:=wrap64 (c.guessed+1)},xN c.conf c.guessed c.fetch)from (if_neg hk1).trans (if_neg (by rw[h2];decide))];exact pE (rs:=[vU (xN c.conf c.guessed c.fetch)]) rfl (r:=vU (xN c.conf c.guessed c.fetch)) (σ:=λ z=>z) ⟨rfl,rfl⟩ rfl (cB (λ z=>z) rfl rfl wH rfl)
theorem SE(c:Co)(nb:Nat)(hm:c.okM nb)(kR:Bool)(xR:List (List AV))(kS:Bool)(xS:List (List AV))(kT:Bool)(xT:List (List AV)):pL C0.P C0.G 57 [.ptr 0 0] (heapF [(0,.box (mcX c (.sl 17 xR kR) (.sl 2 (c.fetched.map ftL) true) (.sl 2 xS kS) (.sl 9 xT kT)))]) 1 (λ x h'=>x=.tup []∧h'=heapF [(0,.box (mcX (cX c) (.sl 17 xR kR) (.sl 2 ((cX c).fetched.map ftL) false) (.sl 2 xS kS) (.sl 9 xT kT)))]):=by
 refine HCall.intro (C:=C1) (s:=1) c1Ok.at Tryz.func57 rfl rfl (by kernel_rfl) rfl rfl ?_;obtain⟨W,hW,hW2⟩:∃ W:Nat,c.conf.width=(W:Int)∧W≤2:=⟨c.conf.width.toNat,by have:=mR hm.cf;omega,by have:=mR hm.cf;omega⟩;refine bK<|cSR<|oR 5 rfl<|rV (vB (c.halt != 0)) rfl<|rE 7<|aV rfl (λ h1=>?_) (λ h1=>?_)
 ·have h1p:=wN h1;refine cO ?_;have e:cX c=c:=if_pos h1p;rw[e];exact Dt (.refl _) none ⟨rfl,rfl⟩ (ghX rfl (qS (.refl _) (.clip _ _) (.refl _) (.refl _)) trivial)
 ·have h1p:=wO h1;refine bB<|cSR<|oR 7 rfl<|rE 14<|bL<|rH (κ:=Nat×Co×Bool) (λ z_=>match z_ with|(k,d,false)=>⟨slotsF [(0,.ptr 0 0),(14,vB (c.halt != 0)),(20,vI c.conf.width),(21,vN k)],heapF [(0,.box (mcX d (.sl 17 xR kR) (.sl 2 (d.fetched.map ftL) true) (.sl 2 xS kS) (.sl 9 xT kT)))],15⟩|(k,d,true)=>⟨slotsF [(0,.ptr 0 0),(14,vB (c.halt != 0)),(20,vI c.conf.width),(21,vN k)],heapF [(0,.box (mcX d (.sl 17 xR kR) (.osl 14 0 d.fetched.length false) (.sl 2 xS kS) (.sl 9 xT kT))),(14,.arr (d.fetched.map ftL) 2)],15⟩) (λ z_=>match z_ with|(k,d,_)=>k≤W∧d.okM nb∧dS (W - k) d=dS W c) (λ z_=>W - z_.1) (0,c,false) (λ s=>s) (Weak.of_lists (λ s=>s) wT wH rfl) rfl (⟨aD _,hm,rfl⟩) ?_;intro z_ hk;obtain⟨k,d,b_⟩:=z_;cases b_
  ·have hkn:k≤W:=hk.1;have hkB:k≤2:=by omega
   have hd:d.okM nb:=hk.2.1;have hG:dS (W - k) d=dS W c:=hk.2.2;refine cSR<|rV (vB (decide ((k:Int)<c.conf.width))) rfl<|rE 16<|bK<|aV rfl (λ h2=>?_) (λ h2=>?_)
   ·have h2p:=of_decide_eq_true h2;refine bB<|bK<|bL<|bK<|cSR<|oR 6 rfl<|gN rfl<|gS rfl id<|gS rfl id<|gS rfl id<|gS rfl id<|gBS (x:=vN d.fetched.length) rfl id (cG ftL d.fetched)<|gN rfl<|gS rfl id<|gS rfl id<|gS rfl id<|gS rfl id<|gS rfl id<|gBS (x:=vB (decide (((d.fetched.length:Nat):Int)≥d.conf.queue))) rfl hsT rfl<|cS rfl rfl rfl (by simp)<|rE 36<|aV rfl (λ h3=>?_) (λ h3=>?_)
    ·have hst:(d.stop=true∨(d.fetched.length:Int)≥d.conf.queue):=by have z:=h3;simpa [c2o]using z
     refine cO ?_;have e0:cX c=dS W c:=by show (if c.halt≠0 then c else dS c.conf.width.toNat c)=_;rw[if_neg (λ q=>q h1p),hW];rfl
     have e:cX c=d:=by rw[e0, ←hG];exact pO hst
     rw[e];exact Dt (.refl _) none ⟨rfl,rfl⟩ (ghX rfl (qS (.refl _) (.clip _ _) (.refl _) (.refl _)) trivial)
    ·have hst: ¬ (d.stop=true∨(d.fetched.length:Int)≥d.conf.queue):=by have z:=h3;simpa [c2o]using z
     have hfl:d.fetched.length≤3:=by have:=mR hd.cf;omega
     refine bB<|cSR<|oR 10 rfl<|rCi rfl (Qu d.prog d.fetch false hd.ok.progo (by have:=hd.prog;omega) hd.ok.fetch)<|oR 5 rfl<|rE 52<|bK<|cSR<|oR 2 rfl<|rE 54<|aV rfl (λ h4=>?_) (λ h4=>?_)
     ·refine cSR<|oR 16 rfl ?_;have b1:(d.fetch+4) % 4294967296≤4294967295:=aT (aY _ (by decide));refine rV (vU ((d.fetch+4) % 4294967296)) rfl<|rV (.agg [vU d.fetch,vU ((d.fetch+4) % 4294967296)]) rfl<|rV (.sl 2 ([[vU d.fetch,vU ((d.fetch+4) % 4294967296)]]) true) rfl<|rFx (x:=.osl 73 0 (d.fetched.length+1) false) (h':=upd _ 73 (some (.arr ((d.fetched++([(⟨d.fetch,(d.fetch+4) % 4294967296⟩:Ft)])).map ftL) 2))) rfl rfl (tR ftL d.fetched ([(⟨d.fetch,(d.fetch+4) % 4294967296⟩:Ft)]) omT) (⟨by exact omT,by exact omT,trivial,trivial⟩)<|oR 3 rfl<|rSt rfl<|rE 78<|cSR<|oR 4 rfl<|rSx 0 (mcX ({d with stop:=true}:Co) (.sl 17 xR kR) (.osl 73 0 (d.fetched.length+1) false) (.sl 2 xS kS) (.sl 9 xT kT)) rfl rfl rfl<|rE 83<|cO ?_;have e0:cX c=dS W c:=by show (if c.halt≠0 then c else dS c.conf.width.toNat c)=_;rw[if_neg (λ q=>q h1p),hW];rfl
      have e:cX c={d with fetched:=d.fetched++[⟨d.fetch,up4 d.fetch⟩],stop:=true}:=by rw[e0, ←hG];exact qX omT hst (Fv h4)
      rw[e];exact Dt (.refl _) (some (73,2,(d.fetched++([(⟨d.fetch,(d.fetch+4) % 4294967296⟩:Ft)])).map ftL)) ⟨rfl,rfl⟩ (ghX rfl (qS (.refl _) (mT (by exact omT)) (.refl _) (.refl _)) trivial)
     ·refine bB<|cSR<|oR 5 rfl<|rCi rfl (tC d.fetch hd.ok.fetch)<|oR 1 rfl<|rE 61<|bK<|cSR<|oR 6 rfl<|rCi rfl (Af d.words (lineOf d.fetch) hd.ok.words (dR hd.ok.fetch))<|oR 7 rfl<|rE 75<|cSR<|oR 2 rfl<|rE 77<|aV rfl (λ h5=>?_) (λ h5=>?_)
      ·refine bK<|cSR<|oR 6 rfl<|rV (.sl 1 ([[vI 2]]) true) rfl<|rCl (x:=vB (DE d.bus (lineOf d.fetch) 2)) rfl (.inl rfl) ((show bT C0 _ [_,_,.sl 1 ([(2:Int)].map jL) true] _ from by rw[←Ju];exact QM d.bus (lineOf d.fetch) [2] false true (by have:=hd.bus;omega) (λ x hx=>(hd.ok.buso x hx).line) (dR hd.ok.fetch) (by decide)))<|oR 2 rfl<|gN rfl<|lX (x:=vB (qL d false)) (g:= !(DE d.bus (lineOf d.fetch) 2)) rfl rfl rfl rfl (λ h=>h) rfl rfl rfl (.inr ⟨rfl,⟨trivial,trivial,trivial⟩⟩) rfl (λ hg=>SG d nb hd (.sl 17 xR kR) (.sl 2 (d.fetched.map ftL) true) (.sl 2 xS kS) (.sl 9 xT kT) false)<|cS rfl rfl rfl (λ h=>h)<|rE 90<|aV rfl (λ h6=>?_) (λ h6=>?_)
       ·have hra:(DE d.bus (lineOf d.fetch) 2=false∧qL d false=true):=by have z:=h6;simpa [c2a]using z
        refine cRg<|oR 2 rfl<|fR _ rfl rfl rfl ((XR d nb hd 2 (lineOf d.fetch) nE (dR hd.ok.fetch) kR xR true (d.fetched.map ftL) kS xS kT xT).frameB (λ z=>z) _ _ rfl ⟨⟨rfl,rfl,rfl,rfl⟩,trivial⟩ rfl rfl rfl rfl) ?_;rintro _ _ ⟨rfl,rfl⟩;refine rE 93<|cO ?_;have e0:cX c=dS W c:=by show (if c.halt≠0 then c else dS c.conf.width.toNat c)=_;rw[if_neg (λ q=>q h1p),hW];rfl
        have e:cX c=iR d 2 (lineOf d.fetch) nE:=by rw[e0, ←hG];exact (nK omT hst (rN h4) (Fv h5)).trans (if_pos hra)
        rw[e];exact Dt (.refl _) none ⟨rfl,rfl⟩ (ghX rfl (qS (.refl _) (.clip _ _) (.refl _) (.refl _)) trivial)
       ·have hra: ¬ (DE d.bus (lineOf d.fetch) 2=false∧qL d false=true):=by have z:=h6;simpa [c2a]using z
        refine bB<|cO ?_;have e0:cX c=dS W c:=by show (if c.halt≠0 then c else dS c.conf.width.toNat c)=_;rw[if_neg (λ q=>q h1p),hW];rfl
        have e:cX c=d:=by rw[e0, ←hG];exact (nK omT hst (rN h4) (Fv h5)).trans (if_neg hra)
        rw[e];exact Dt (.refl _) none ⟨rfl,rfl⟩ (ghX rfl (qS (.refl _) (.clip _ _) (.refl _) (.refl _)) trivial)
      ·refine bB<|cSR<|oR 7 rfl<|rCi rfl (HL d.words (lineOf d.fetch) hd.ok.words (dR hd.ok.fetch))<|oR 3 rfl<|rSx 0 (mcX ({d with words:=(mL d.words (lineOf d.fetch))}:Co) (.sl 17 xR kR) (.sl 2 (d.fetched.map ftL) true) (.sl 2 xS kS) (.sl 9 xT kT)) rfl rfl rfl<|rE 89<|cSR<|oR 2 rfl<|fR _ rfl rfl rfl ((VK (gY d) nb (Az hd) (fetchW d.prog d.fetch) (HH hd.ok.progo d.fetch) kR xR true (d.fetched.map ftL) kS xS kT xT).frameB (λ z=>z) _ _ rfl ⟨⟨rfl,rfl,rfl,rfl⟩,trivial⟩ rfl rfl rfl rfl) ?_;rintro _ _ ⟨rfl,rfl⟩;refine oR 1 rfl<|rE 93<|cSR<|oR 12 rfl<|rV (.agg [vU ((cF (gY d) (fetchW d.prog d.fetch)).1.fetch),vU ((cF (gY d) (fetchW d.prog d.fetch)).2)]) rfl<|rV (.sl 2 ([[vU ((cF (gY d) (fetchW d.prog d.fetch)).1.fetch),vU ((cF (gY d) (fetchW d.prog d.fetch)).2)]]) true) rfl<|rFx (x:=.osl 107 0 (d.fetched.length+1) false) (h':=upd _ 107 (some (.arr ((d.fetched++([(⟨(cF (gY d) (fetchW d.prog d.fetch)).1.fetch,(cF (gY d) (fetchW d.prog d.fetch)).2⟩:Ft)])).map ftL) 2))) rfl rfl (tR ftL d.fetched ([(⟨(cF (gY d) (fetchW d.prog d.fetch)).1.fetch,(cF (gY d) (fetchW d.prog d.fetch)).2⟩:Ft)]) omT) (⟨by exact omT,by exact omT,trivial,trivial⟩)<|oR 3 rfl<|rSt rfl<|rE 112<|cRg<|oR 5 rfl<|rSx 0 (mcX ({ (cF (gY d) (fetchW d.prog d.fetch)).1 with fetch:=(cF (gY d) (fetchW d.prog d.fetch)).2}:Co) (.sl 17 xR kR) (.osl 107 0 (d.fetched.length+1) false) (.sl 2 xS kS) (.sl 9 xT kT)) rfl rfl rfl<|rE 118<|cRg ?_;have b2:k+1≤3:=aG hkB (aC 1);refine rW (vN (k+1)) rfl (okI (bU b2 rfl))<|oR 1 rfl<|rE 120<|.mk _ (.refl _) ⟨(k+1,xG d,true),λ i=>match i with|14=>107|i=>i,Weak.of_lists _ wT ⟨⟨rfl,(congrArg (λ z:Nat=>some (Blk.box (mcX (xG d) (.sl 17 xR kR) (.osl 107 0 z false) (.sl 2 xS kS) (.sl 9 xT kT)))) (show d.fetched.length+1=(xG d).fetched.length from by rw[tJ];simp)),rfl⟩,⟨rfl,(congrArg (λ z:List Ft=>some (Blk.arr (z.map ftL) 2)) (tJ d).symm),rfl⟩,trivial⟩ rfl,rfl,⟨by omega,Cy hd omT,(sW omT hst (rN h4) (rN h5)).trans hG⟩,by show W - (k+1)<W - k;omega⟩
   ·have h2p:=aE h2;refine eP ?_;have e0:cX c=dS W c:=by show (if c.halt≠0 then c else dS c.conf.width.toNat c)=_;rw[if_neg (λ q=>q h1p),hW];rfl
    have e:cX c=d:=by rw[e0, ←hG];rw[show W - k=0 by omega];rfl
    rw[e];exact Dt (.refl _) none ⟨rfl,rfl⟩ (ghX rfl (qS (.refl _) (.clip _ _) (.refl _) (.refl _)) trivial)
  ·have hkn:k≤W:=hk.1;have hkB:k≤2:=by omega
   have hd:d.okM nb:=hk.2.1;have hG:dS (W - k) d=dS W c:=hk.2.2;refine cSR<|rV (vB (decide ((k:Int)<c.conf.width))) rfl<|rE 16<|bK<|aV rfl (λ h7=>?_) (λ h7=>?_)
   ·have h7p:=of_decide_eq_true h7;refine bB<|bK<|bL<|bK<|cSR<|oR 6 rfl<|gN rfl<|gS rfl id<|gS rfl id<|gS rfl id<|gS rfl id<|gBS (x:=vI (d.fetched.length:Int)) rfl id rfl<|gN rfl<|gS rfl id<|gS rfl id<|gS rfl id<|gS rfl id<|gS rfl id<|gBS (x:=vB (decide ((d.fetched.length:Int)≥d.conf.queue))) rfl hsT rfl<|cS rfl rfl rfl (by simp)<|rE 36<|aV rfl (λ h8=>?_) (λ h8=>?_)
    ·have hst:(d.stop=true∨(d.fetched.length:Int)≥d.conf.queue):=by have z:=h8;simpa [c2o]using z
     refine cO ?_;have e0:cX c=dS W c:=by show (if c.halt≠0 then c else dS c.conf.width.toNat c)=_;rw[if_neg (λ q=>q h1p),hW];rfl
     have e:cX c=d:=by rw[e0, ←hG];exact pO hst
     rw[e];exact Dt (.refl _) (some (14,2,d.fetched.map ftL)) ⟨rfl,rfl⟩ (ghX rfl (qS (.refl _) (mT (by exact omT)) (.refl _) (.refl _)) trivial)
    ·have hst: ¬ (d.stop=true∨(d.fetched.length:Int)≥d.conf.queue):=by have z:=h8;simpa [c2o]using z
     have hfl:d.fetched.length≤3:=by have:=mR hd.cf;omega
     refine bB<|cSR<|oR 10 rfl<|rCi rfl (Qu d.prog d.fetch false hd.ok.progo (by have:=hd.prog;omega) hd.ok.fetch)<|oR 5 rfl<|rE 52<|bK<|cSR<|oR 2 rfl<|rE 54<|aV rfl (λ h9=>?_) (λ h9=>?_)
     ·refine cSR<|oR 16 rfl ?_;have b3:(d.fetch+4) % 4294967296≤4294967295:=aT (aY _ (by decide));refine rV (vU ((d.fetch+4) % 4294967296)) rfl<|rV (.agg [vU d.fetch,vU ((d.fetch+4) % 4294967296)]) rfl<|rV (.sl 2 ([[vU d.fetch,vU ((d.fetch+4) % 4294967296)]]) true) rfl<|rFx (x:=.osl 73 0 (d.fetched.length+1) false) (h':=upd (upd _ 14 none) 73 (some (.arr ((d.fetched++([(⟨d.fetch,(d.fetch+4) % 4294967296⟩:Ft)])).map ftL) 2))) rfl rfl (gT ftL d.fetched ([(⟨d.fetch,(d.fetch+4) % 4294967296⟩:Ft)]) omT omT) (⟨by exact omT,by exact omT,trivial⟩)<|oR 3 rfl<|rSt rfl<|rE 78<|cSR<|oR 4 rfl<|rSx 0 (mcX ({d with stop:=true}:Co) (.sl 17 xR kR) (.osl 73 0 (d.fetched.length+1) false) (.sl 2 xS kS) (.sl 9 xT kT)) rfl rfl rfl<|rE 83<|cO ?_;have e0:cX c=dS W c:=by show (if c.halt≠0 then c else dS c.conf.width.toNat c)=_;rw[if_neg (λ q=>q h1p),hW];rfl
      have e:cX c={d with fetched:=d.fetched++[⟨d.fetch,up4 d.fetch⟩],stop:=true}:=by rw[e0, ←hG];exact qX omT hst (Fv h9)
      rw[e];exact Dt (.refl _) (some (73,2,(d.fetched++([(⟨d.fetch,(d.fetch+4) % 4294967296⟩:Ft)])).map ftL)) ⟨rfl,rfl⟩ (ghX rfl (qS (.refl _) (mT (by exact omT)) (.refl _) (.refl _)) trivial)
     ·refine bB<|cSR<|oR 5 rfl<|rCi rfl (tC d.fetch hd.ok.fetch)<|oR 1 rfl<|rE 61<|bK<|cSR<|oR 6 rfl<|rCi rfl (Af d.words (lineOf d.fetch) hd.ok.words (dR hd.ok.fetch))<|oR 7 rfl<|rE 75<|cSR<|oR 2 rfl<|rE 77<|aV rfl (λ h10=>?_) (λ h10=>?_)
      ·refine bK<|cSR<|oR 6 rfl<|rV (.sl 1 ([[vI 2]]) true) rfl<|rCl (x:=vB (DE d.bus (lineOf d.fetch) 2)) rfl (.inl rfl) ((show bT C0 _ [_,_,.sl 1 ([(2:Int)].map jL) true] _ from by rw[←Ju];exact QM d.bus (lineOf d.fetch) [2] false true (by have:=hd.bus;omega) (λ x hx=>(hd.ok.buso x hx).line) (dR hd.ok.fetch) (by decide)))<|oR 2 rfl<|gN rfl<|lX (x:=vB (qL d false)) (g:= !(DE d.bus (lineOf d.fetch) 2)) rfl rfl rfl rfl (λ h=>h) rfl rfl rfl (.inr ⟨rfl,⟨trivial,trivial,trivial⟩⟩) rfl (λ hg=>SG d nb hd (.sl 17 xR kR) .any (.sl 2 xS kS) (.sl 9 xT kT) false)<|cS rfl rfl rfl (λ h=>h)<|rE 90<|aV rfl (λ h11=>?_) (λ h11=>?_)
       ·have hra:(DE d.bus (lineOf d.fetch) 2=false∧qL d false=true):=by have z:=h11;simpa [c2a]using z
        refine cRg<|oR 2 rfl<|fR _ rfl rfl rfl ((Zt d nb hd 2 (lineOf d.fetch) nE (dR hd.ok.fetch) kR xR 0 d.fetched.length false (d.fetched.map ftL) kS xS kT xT).frameB (λ z=>match z with|1=>14|z=>z) _ _ rfl ⟨⟨rfl,rfl,rfl,rfl⟩,⟨rfl,rfl,rfl,rfl⟩,trivial⟩ rfl rfl rfl rfl) ?_;rintro _ _ ⟨rfl,rfl⟩;refine rE 93<|cO ?_;have e0:cX c=dS W c:=by show (if c.halt≠0 then c else dS c.conf.width.toNat c)=_;rw[if_neg (λ q=>q h1p),hW];rfl
        have e:cX c=iR d 2 (lineOf d.fetch) nE:=by rw[e0, ←hG];exact (nK omT hst (rN h9) (Fv h10)).trans (if_pos hra)
        rw[e];exact Dt (.refl _) (some (14,2,d.fetched.map ftL)) ⟨rfl,rfl⟩ (ghX rfl (qS (.refl _) (mT (by exact omT)) (.refl _) (.refl _)) trivial)
       ·have hra: ¬ (DE d.bus (lineOf d.fetch) 2=false∧qL d false=true):=by have z:=h11;simpa [c2a]using z
        refine bB<|cO ?_;have e0:cX c=dS W c:=by show (if c.halt≠0 then c else dS c.conf.width.toNat c)=_;rw[if_neg (λ q=>q h1p),hW];rfl
        have e:cX c=d:=by rw[e0, ←hG];exact (nK omT hst (rN h9) (Fv h10)).trans (if_neg hra)
        rw[e];exact Dt (.refl _) (some (14,2,d.fetched.map ftL)) ⟨rfl,rfl⟩ (ghX rfl (qS (.refl _) (mT (by exact omT)) (.refl _) (.refl _)) trivial)
      ·refine bB<|cSR<|oR 7 rfl<|rCi rfl (HL d.words (lineOf d.fetch) hd.ok.words (dR hd.ok.fetch))<|oR 3 rfl<|rSx 0 (mcX ({d with words:=(mL d.words (lineOf d.fetch))}:Co) (.sl 17 xR kR) (.osl 14 0 d.fetched.length false) (.sl 2 xS kS) (.sl 9 xT kT)) rfl rfl rfl<|rE 89<|cSR<|oR 2 rfl<|fR _ rfl rfl rfl ((SD (gY d) nb (Az hd) (fetchW d.prog d.fetch) (HH hd.ok.progo d.fetch) kR xR 0 d.fetched.length false (d.fetched.map ftL) kS xS kT xT).frameB (λ z=>match z with|1=>14|z=>z) _ _ rfl ⟨⟨rfl,rfl,rfl,rfl⟩,⟨rfl,rfl,rfl,rfl⟩,trivial⟩ rfl rfl rfl rfl) ?_;rintro _ _ ⟨rfl,rfl⟩;refine oR 1 rfl<|rE 93<|cSR<|oR 12 rfl<|rV (.agg [vU ((cF (gY d) (fetchW d.prog d.fetch)).1.fetch),vU ((cF (gY d) (fetchW d.prog d.fetch)).2)]) rfl<|rV (.sl 2 ([[vU ((cF (gY d) (fetchW d.prog d.fetch)).1.fetch),vU ((cF (gY d) (fetchW d.prog d.fetch)).2)]]) true) rfl<|rFx (x:=.osl 107 0 (d.fetched.length+1) false) (h':=upd (upd _ 14 none) 107 (some (.arr ((d.fetched++([(⟨(cF (gY d) (fetchW d.prog d.fetch)).1.fetch,(cF (gY d) (fetchW d.prog d.fetch)).2⟩:Ft)])).map ftL) 2))) rfl rfl (gT ftL d.fetched ([(⟨(cF (gY d) (fetchW d.prog d.fetch)).1.fetch,(cF (gY d) (fetchW d.prog d.fetch)).2⟩:Ft)]) omT omT) (⟨by exact omT,by exact omT,trivial⟩)<|oR 3 rfl<|rSt rfl<|rE 112<|cRg<|oR 5 rfl<|rSx 0 (mcX ({ (cF (gY d) (fetchW d.prog d.fetch)).1 with fetch:=(cF (gY d) (fetchW d.prog d.fetch)).2}:Co) (.sl 17 xR kR) (.osl 107 0 (d.fetched.length+1) false) (.sl 2 xS kS) (.sl 9 xT kT)) rfl rfl rfl<|rE 118<|cRg ?_;have b4:k+1≤3:=aG hkB (aC 1);refine rW (vN (k+1)) rfl (okI (bU b4 rfl))<|oR 1 rfl<|rE 120<|.mk _ (.refl _) ⟨(k+1,xG d,true),λ i=>match i with|14=>107|i=>i,Weak.of_lists _ wT ⟨⟨rfl,(congrArg (λ z:Nat=>some (Blk.box (mcX (xG d) (.sl 17 xR kR) (.osl 107 0 z false) (.sl 2 xS kS) (.sl 9 xT kT)))) (show d.fetched.length+1=(xG d).fetched.length from by rw[tJ];simp)),rfl⟩,⟨rfl,(congrArg (λ z:List Ft=>some (Blk.arr (z.map ftL) 2)) (tJ d).symm),rfl⟩,trivial⟩ rfl,rfl,⟨by omega,Cy hd omT,(sW omT hst (rN h9) (rN h10)).trans hG⟩,by show W - (k+1)<W - k;omega⟩
   ·have h7p:=aE h7;refine eP ?_;have e0:cX c=dS W c:=by show (if c.halt≠0 then c else dS c.conf.width.toNat c)=_;rw[if_neg (λ q=>q h1p),hW];rfl
    have e:cX c=d:=by rw[e0, ←hG];rw[show W - k=0 by omega];rfl
    rw[e];exact Dt (.refl _) (some (14,2,d.fetched.map ftL)) ⟨rfl,rfl⟩ (ghX rfl (qS (.refl _) (mT (by exact omT)) (.refl _) (.refl _)) trivial)
end Go.Proofs.YtlhofpglndhfaaaGreatDoor
