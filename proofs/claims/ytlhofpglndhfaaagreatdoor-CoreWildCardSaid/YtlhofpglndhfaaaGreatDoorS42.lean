/- Joined texts. -/
import Derived.Test.YtlhofpglndhfaaaGreatDoorS1
import Derived.Test.YtlhofpglndhfaaaGreatDoorS32
import Derived.Test.YtlhofpglndhfaaaGreatDoorS40
import Derived.Test.YtlhofpglndhfaaaGreatDoorS41
namespace Go.Proofs.YtlhofpglndhfaaaGreatDoor
set_option maxRecDepth 100000
set_option maxHeartbeats 4000000
open Go.RowKit
theorem So(n:Nat):(if (0:Int)>(n:Int)then (0:Int)else (n:Int))=(n:Int):=if_neg omT
theorem QR{n:Nat}(h:n≤1000):IntKind.wrap .i64 ((n:Int) - 1)=(n:Int) - 1:=wrap_i64 omT omT
theorem Pb{k:Nat}(h0:0<k)(h:k≤1000):IntKind.wrap .i64 (((k:Int) - 1) - 1)=((k - 1:Nat):Int) - 1:=by rw[wrap_i64 omT omT];omega
theorem RN{a b:Nat}(h:b≤a)(ha:a≤4294967295):IntKind.wrap .u32 ((a:Int) - (b:Int))=((a - b:Nat):Int):=by
 rw[show ((a:Int) - (b:Int))=((a - b:Nat):Int) by omega];exact CT (by omega:a - b≤4294967295) rfl
theorem ME(a n:Nat)(ha:a≤4294967295)(hn:n≤1000):aT C0 233 [vU a,vN n] (.v (.int .u64 ((a+n:Nat):Int))):=by
 refine aT.intro c0Ok Tryz.func233 rfl rfl (by kernel_rfl) rfl<|aA<|aB rfl<|oR 1 rfl<|rE 1<|aA<|aB rfl<|oR 1 rfl<|rW (.v (.int .u64 (a:Int))) rfl (okI (CT ha rfl))<|oR 1 rfl<|rW (vN n) rfl (okI (So n))<|rW (.v (.int .u64 (n:Int))) rfl (okI (CT hn rfl)) ?_;have b1:a+n≤4294968295:=SY ha hn;refine rW (.v (.int .u64 ((a+n:Nat):Int))) rfl (okI (CT b1 rfl))<|oR 1 rfl<|rE 8<|bC ?_;exact fT rfl rfl
theorem QS(a n b m:Nat)(ha:a≤4294967295)(hn:n≤1000)(hb:b≤4294967295)(hm:m≤1000):aT C0 221 [vU a,vN n,vU b,vN m] (vB (Al a n b m)):=by
 refine aT.intro c0Ok Tryz.func221 rfl rfl (by kernel_rfl) rfl<|aA<|aB rfl<|oR 1 rfl<|rE 1<|aA<|aA<|aB rfl<|oR 1 rfl<|rW (vB (decide (n≤0))) rfl (okB (leN _ _))<|oR 1 rfl<|gN rfl<|gBS (x:=vB (decide (m≤0))) rfl id (okB (leN _ _))<|aG rfl rfl rfl (by simp)<|rE 7 ?_;refine aE rfl (λ h1=>?_) (λ h1=>?_)
 ·refine aA<|aB rfl<|oR 1 rfl<|rE 8<|bC ?_;exact fT rfl (bE (by have z:=h1;simp only[cOr,iG,Al]at z⊢ <;>grind))
 ·refine aF<|aA<|aB rfl<|oR 1 rfl<|rW (.v (.int .u64 (a:Int))) rfl (okI (CT ha rfl))<|oR 2 rfl<|rCi rfl (ME b m hb hm)<|rW (vB (decide (a<(b+m)))) rfl (okB (ltN _ _))<|oR 1 rfl<|gN rfl<|gBS (x:=.v (.int .u64 (b:Int))) rfl id (okI (CT hb rfl))<|gN rfl<|gN rfl<|dZ (args:=[vU a,vN n]) (x:=.v (.int .u64 ((a+n:Nat):Int))) (g:=decide (a<(b+m))) rfl rfl rfl rfl hsT rfl rfl rfl (.inl rfl) rfl (λ hg=>ME a n ha hn)<|gBS (x:=vB (decide (b<(a+n)))) rfl hsT (okB (ltN _ _))<|aG rfl rfl rfl (λ h=>h) ?_;refine oR 1 rfl<|rE 22<|bC ?_;exact fT rfl (bE (by have z:=h1;simp only[cOr,iG,Al]at z⊢ <;>grind))
theorem Pc(a n b m:Nat)(ha:a≤4294967295)(hn:n≤1000)(hb:b≤4294967295)(hm:m≤1000):aT C0 222 [vU a,vN n,vU b,vN m] (vB (zE a n b m)):=by
 refine aT.intro c0Ok Tryz.func222 rfl rfl (by kernel_rfl) rfl<|aA<|aB rfl<|oR 1 rfl<|rE 1<|aA<|aB rfl<|oR 1 rfl<|rW (vB (decide (m>0))) rfl (okB (gtN _ _))<|oR 1 rfl<|gN rfl<|gN rfl<|gBS (x:=vB (decide (a≤b))) rfl hsT (okB (leN _ _))<|aG rfl rfl rfl (λ h=>h)<|oR 1 rfl<|gN rfl ?_;refine gN rfl<|dZ (args:=[vU b,vN m]) (x:=.v (.int .u64 ((b+m:Nat):Int))) (g:=aO (decide (m>0)) (decide (a≤b)) false) rfl rfl rfl rfl hsT rfl rfl rfl (.inl rfl) rfl (λ hg=>ME b m hb hm)<|gN rfl<|gN rfl<|dZ (args:=[vU a,vN n]) (x:=.v (.int .u64 ((a+n:Nat):Int))) (g:=aO (decide (m>0)) (decide (a≤b)) false) rfl rfl rfl rfl hsT rfl rfl rfl (.inl rfl) rfl (λ hg=>ME a n ha hn)<|gBS (x:=vB (decide ((b+m)≤(a+n)))) rfl hsT (okB (leN _ _))<|aG rfl rfl rfl (λ h=>h)<|oR 1 rfl<|rE 18<|bC ?_;exact fT rfl (bE (by simp only[cOr,iG,zE]<;>grind))
def Sq(s:Std):Value:=.agg #[.int .u32 (s.addr:Int),.int .i64 (s.size:Int),.string s.data,.bool s.there]
def QT(s:Std):Array Value:= #[Sq s]
abbrev sdL(s:Std):List AV:=[vU s.addr,vN s.size,.v (.string s.data),vB s.there]
def GG(R:List Ent)(k:Nat):List Std:=(((R.drop k).filter λ e=>isK e 4).map zD).reverse
def MF(R:List Ent)(S:List Pt)(k:Nat):List Std:=GG R 0++((S.drop k).map vK).reverse
theorem GI(R:List Ent)(S:List Pt):Aj R S=GG R 0++(S.map vK).reverse:=rfl
theorem zV{α:Type}{l:List α}{k:Nat}{x:α}(h0:0<k)(h:l[k - 1]?=some x):l.drop (k - 1)=x::l.drop k:=by
 obtain⟨hl,rfl⟩:=WB.1 h;rw[Uf hl,show k - 1+1=k by omega]
theorem GJ{R:List Ent}{k:Nat}{x:Ent}(h0:0<k)(h:R[k - 1]?=some x)(hk:isK x 4=true):GG R (k - 1)=GG R k++[zD x]:=by
 unfold GG;rw[zV h0 h,List.filter_cons_of_pos (by simpa using hk)];simp
theorem Pd{R:List Ent}{k:Nat}{x:Ent}(h0:0<k)(h:R[k - 1]?=some x)(hk:isK x 4=false):GG R k=GG R (k - 1):=by
 unfold GG;rw[zV h0 h,List.filter_cons_of_neg (by simpa using hk)]
theorem MG(R:List Ent)(S:List Pt)(k:Nat):GG R k <+: Aj R S:=by
 rw[GI];refine List.IsPrefix.trans ?_ (List.prefix_append _ _);refine⟨(((R.take k).filter λ e=>isK e 4).map zD).reverse,?_⟩;unfold GG;rw[←List.reverse_append, ←Ux, ←Vy,Uy,TJ]
theorem HL(R:List Ent):GG R R.length=[]:=by unfold GG;rw[List.drop_length];rfl
theorem Eh{R:List Ent}{S:List Pt}{k:Nat}{x:Pt}(h0:0<k)(h:S[k - 1]?=some x):MF R S (k - 1)=MF R S k++[vK x]:=by
 unfold MF;rw[zV h0 h];simp
theorem MH(R:List Ent)(S:List Pt)(k:Nat):MF R S k <+: Aj R S:=by
 rw[GI];unfold MF;rw[List.prefix_append_right_inj];refine⟨((S.take k).map vK).reverse,?_⟩;rw[←List.reverse_append, ←Ux,Uy]
theorem HP(R:List Ent)(S:List Pt):MF R S S.length=GG R 0:=by unfold MF;rw[List.drop_length];simp
theorem MI(R:List Ent)(S:List Pt):MF R S 0=Aj R S:=rfl
theorem MJ{R:List Ent}{S:List Pt}(ho:∀ x∈R,x.ok)(hso:∀ x∈S,x.ok)(hss:∀ x∈S,x.data.size≤4){s:Std}(h:s∈Aj R S):s.addr≤4294967295∧s.size≤4∧s.data.size=s.size:=by
 unfold Aj at h;rcases al_List_mem_append.1 h with h|h
 ·obtain⟨e,he,rfl⟩:=Wo.1 (List.mem_reverse.1 h);exact⟨(ho e (List.mem_filter.1 he).1).addr,kO _,pW _ _⟩
 ·obtain⟨p,hp,rfl⟩:=Wo.1 (List.mem_reverse.1 h);exact⟨(hso p hp).addr,hss p hp,rfl⟩
theorem wM{at_ n:Nat}:∀ {l:List Std},(∀ s,s∈l→Al s.addr s.size at_ n=false)→oD at_ n l=(2,fH)
 |[],_=>rfl
 |s::l,h=>by
  simp only[oD];rw[if_pos (h s Tv)];exact wM λ y hy=>h y (TC _ hy)
theorem vT{at_ n:Nat}{s:Std}:∀ {pre l:List Std},pre++[s] <+: l→(∀ y,y∈pre→Al y.addr y.size at_ n=false)→Al s.addr s.size at_ n=true→
  oD at_ n l=if zE s.addr s.size at_ n=false∨s.there=false then (0,fH)else (1,s.data.extract (at_ - s.addr) (at_ - s.addr+n))
 |[],[],h,_,_=>by have:=h.length_le;simp at this
 |[],y::l,h,_,hs=>by
  obtain⟨t,ht⟩:=h;obtain⟨rfl, -⟩:=List.cons.inj ht
  simp only[oD];rw[if_neg (by simp[hs])]
 |y::pre,[],h,_,_=>by have:=h.length_le;simp at this
 |y::pre,z::l,h,hN,hs=>by
  obtain⟨t,ht⟩:=h;obtain⟨h3,h4⟩:=List.cons.inj ht;subst h3;simp only[oD];rw[if_pos (hN y Tv)];exact vT ⟨t,h4⟩ (λ y hy=>hN y (TC _ hy)) hs
theorem KN(R:List Ent)(S:List Pt)(ck ck2:Bool)(hl:R.length≤1000)(ho:∀ x∈R,x.ok)(hst:S.length≤1000)(hso:∀ x∈S,x.ok):MC C0 232 [.dp 1 0 ([.sl 17 (R.map enL) ck]),.dp 1 0 ([.sl 2 (S.map ptL) ck2])] QT (Aj R S):=by
 refine MC.intro c0Ok Tryz.func232 rfl rfl (by kernel_rfl) rfl ?_;intro y;refine nA<|nA<|jT rfl<|aB rfl<|oR 1 rfl<|rW (vN R.length) rfl (aN enL R)<|rW (vI (((R.length:Nat):Int) - 1)) rfl (okI (QR hl))<|oR 1 rfl<|rE 4<|vS<|KE (κ:=Nat) (λ k=>⟨aY [(0,.v y),(1,.dp 1 0 ([.sl 17 (R.map enL) ck])),(2,.dp 1 0 ([.sl 2 (S.map ptL) ck2])),(4,vI ((k:Int) - 1))],heapF [],4⟩) (λ k=>GG R k) (λ k=>k≤R.length) (λ k=>k) R.length (λ s=>s) (Weak.of_lists (λ s=>s) wT trivial rfl) rfl (HL R) (SU _) ?_;intro k hk;have hkB:k≤1000:=by have:k≤R.length:=hk;omega
 refine nA<|nA<|jT rfl<|aB rfl<|oR 1 rfl<|rV (vB (decide (((k:Int) - 1)≥0))) rfl<|rE 6 ?_;refine zR (v:=decide (((k:Int) - 1)≥0)) rfl (λ h1=>?_) (λ h1=>?_)
 ·have h1p:=of_decide_eq_true h1;have hk0:0<k:=by omega
  refine jT rfl<|aF<|nA<|vS<|nA<|jT rfl<|aB rfl<|oR 2 rfl ?_;obtain⟨x,hx⟩:∃ y_,R[k - 1]?=some y_:=⟨_,SS omT⟩;have hxo:=ho x (ST hx);refine dS (enL x) (x:=.dp 17 0 (enL x)) rfl rfl rfl (⟨by omega,by rw[show ((k:Int) - 1).toNat=k - 1 by omega];exact cX hx⟩) rfl<|oR 1 rfl<|rAl 10 rfl rfl<|rSt rfl<|rE 12<|nA<|nA<|jT rfl<|aB rfl<|oR 2 rfl<|rCi rfl (iV x.i)<|rW (vB ((kindOf x.i.op) != 4)) rfl (okB (neN _ _))<|rE 16 ?_;refine zR (v:=(kindOf x.i.op) != 4) rfl (λ h2=>?_) (λ h2=>?_)
  ·have h2p:=nY h2;have hkf:isK x 4=false:=by unfold isK;simpa using h2p
   refine jT rfl<|bU<|jT rfl<|aB rfl<|oR 1 rfl<|rW (vI (((k - 1:Nat):Int) - 1)) rfl (okI (Pb hk0 hkB))<|oR 1 rfl<|rE 19 ?_;refine⟨rfl,k - 1,λ s=>s,Weak.of_lists _ wT trivial rfl,rfl,(Pd hk0 hx hkf).symm,(by show k - 1≤R.length;omega),(by show k - 1<k;omega)⟩
  ·have h2p:=nZ h2;have hkt:isK x 4=true:=by unfold isK;simpa using h2p
   refine jT rfl<|aF<|nA<|jT rfl<|aB rfl<|oR 2 rfl<|rCi rfl (Cv x.i)<|oR 1 rfl<|rE 20<|nA<|jT rfl<|aB rfl<|oR 3 rfl<|rCi rfl (JZ x.value (bL x.i.op) (uU hxo.value) (kO x.i.op))<|oR 5 rfl<|rE 29 ?_;refine nA<|KF rfl 9 rfl rfl rfl<|oR 7 rfl<|rV (vB (x.is==3)) rfl<|rV (.agg [vU x.addr,vN (bL x.i.op),.v (.string (jW x.value (bL x.i.op))),vB (x.is==3)]) rfl<|rE 38 ?_;refine⟨zD x,_,⟨aY [(0,.v y),(1,.dp 1 0 ([.sl 17 (R.map enL) ck])),(2,.dp 1 0 ([.sl 2 (S.map ptL) ck2])),(4,vI ((k:Int) - 1)),(36,.v y),(44,.agg [vU x.addr,vN (bL x.i.op),.v (.string (jW x.value (bL x.i.op))),vB (x.is==3)])],heapF [],0⟩,λ s=>s,Weak.of_lists _ wT trivial rfl,rfl,rfl,rfl,rfl,rfl,rfl,(by rw[←GJ hk0 hx hkt];exact MG R S _),λ yb1=>?_⟩;refine oR 1 rfl<|rE 40 ?_;refine zR (v:= !yb1) rfl (λ h3=>?_) (λ h3=>?_)
   ·refine jT rfl<|bC ?_;intro hs;rw[h3]at hs;cases hs
   ·refine jT rfl<|aF<|jT rfl<|aB rfl<|oR 1 rfl<|rW (vI (((k - 1:Nat):Int) - 1)) rfl (okI (Pb hk0 hkB))<|oR 1 rfl<|rE 43 ?_;refine⟨h3,k - 1,λ s=>s,Weak.of_lists _ wT trivial rfl,rfl,(GJ hk0 hx hkt),(by show k - 1≤R.length;omega),(by show k - 1<k;omega)⟩
 ·have h1p:=SW h1;refine jT rfl<|bU<|nA<|jT rfl<|aB rfl<|oR 1 rfl<|rW (vN S.length) rfl (aN ptL S)<|rW (vI (((S.length:Nat):Int) - 1)) rfl (okI (QR hst))<|oR 1 rfl<|rE 10<|vS ?_;obtain hk_:k=0:=by omega
  subst hk_;refine KE (κ:=Nat) (λ j=>⟨aY [(0,.v y),(1,.dp 1 0 ([.sl 17 (R.map enL) ck])),(2,.dp 1 0 ([.sl 2 (S.map ptL) ck2])),(9,vI ((j:Int) - 1))],heapF [],10⟩) (λ j=>MF R S j) (λ j=>j≤S.length) (λ j=>j) S.length (λ s=>s) (Weak.of_lists (λ s=>s) wT trivial rfl) rfl (HP R S) (SU _) ?_;intro j hj;have hjB:j≤1000:=by have:j≤S.length:=hj;omega
  refine nA<|nA<|jT rfl<|aB rfl<|oR 1 rfl<|rV (vB (decide (((j:Int) - 1)≥0))) rfl<|rE 12 ?_;refine zR (v:=decide (((j:Int) - 1)≥0)) rfl (λ h4=>?_) (λ h4=>?_)
  ·have h4p:=of_decide_eq_true h4;have hj0:0<j:=by omega
   refine jT rfl<|aF<|nA<|vS<|nA<|jT rfl<|aB rfl<|oR 2 rfl ?_;obtain⟨p,hp⟩:∃ y_,S[j - 1]?=some y_:=⟨_,SS omT⟩;have hpo:=hso p (ST hp);refine dS (ptL p) (x:=.dp 2 0 (ptL p)) rfl rfl rfl (⟨by omega,by rw[show ((j:Int) - 1).toNat=j - 1 by omega];exact cX hp⟩) rfl<|oR 1 rfl<|rAl 16 rfl rfl<|rSt rfl<|rE 18<|nA<|KF rfl 9 rfl rfl rfl<|oR 5 rfl<|rV (vN p.data.size) rfl<|oR 2 rfl<|rV (.agg [vU p.addr,vN p.data.size,.v (.string p.data),vB true]) rfl<|rE 27 ?_;refine⟨vK p,_,⟨aY [(0,.v y),(1,.dp 1 0 ([.sl 17 (R.map enL) ck])),(2,.dp 1 0 ([.sl 2 (S.map ptL) ck2])),(9,vI ((j:Int) - 1)),(58,.v y),(66,.agg [vU p.addr,vN p.data.size,.v (.string p.data),vB true])],heapF [],0⟩,λ s=>s,Weak.of_lists _ wT trivial rfl,rfl,rfl,rfl,rfl,rfl,rfl,(by rw[←Eh hj0 hp];exact MH R S _),λ yb2=>?_⟩;refine oR 1 rfl<|rE 29 ?_;refine zR (v:= !yb2) rfl (λ h5=>?_) (λ h5=>?_)
   ·refine jT rfl<|bC ?_;intro hs;rw[h5]at hs;cases hs
   ·refine jT rfl<|aF<|jT rfl<|aB rfl<|oR 1 rfl<|rW (vI (((j - 1:Nat):Int) - 1)) rfl (okI (Pb hj0 hjB))<|oR 1 rfl<|rE 32 ?_;refine⟨h5,j - 1,λ s=>s,Weak.of_lists _ wT trivial rfl,rfl,(Eh hj0 hp),(by show j - 1≤S.length;omega),(by show j - 1<j;omega)⟩
  ·have h4p:=SW h4;refine jT rfl<|bU ?_;intro _;obtain hj_:j=0:=by omega
   subst hj_;exact MI R S
theorem KO(R:List Ent)(S:List Pt)(ck ck2:Bool)(hl:R.length≤1000)(ho:∀ x∈R,x.ok)(hst:S.length≤1000)(hso:∀ x∈S,x.ok):aT C0 220 [.sl 17 (R.map enL) ck,.sl 2 (S.map ptL) ck2] (.clo 232 [] [.dp 1 0 [.sl 17 (R.map enL) ck],.dp 1 0 [.sl 2 (S.map ptL) ck2]]):=by
 refine aT.intro c0Ok Tryz.func220 rfl rfl (by kernel_rfl) rfl<|aA<|aB rfl<|rAl 0 rfl rfl<|rAl 1 rfl rfl<|oR 1 rfl<|rE 3<|aA<|aB rfl<|rV (.clo 232 [] [.ptr 0 0,.ptr 1 0]) rfl<|oR 1 rfl<|rE 5<|bC ?_;exact aL rfl tvT rfl rfl
theorem MK{l:List Ent}{k:Nat}{x:Ent}(h:∀ y,y∈l.take k→rJ y=false)(hx:l[k]?=some x)(hv:rJ x=false):∀ y,y∈l.take (k+1)→rJ y=false:=by
 intro y hy;rw[TD,hx]at hy;rcases al_List_mem_append.1 hy with hy|hy
 ·exact h y hy
 ·have:y=x:=by simpa using hy
  rw[this];exact hv
theorem ML{rob:List Ent}{stores:List Pt}{i:Nat}{e:Ent}(he:rob[i]?=some e)(hk: ¬ kindOf e.i.op=3):eN rob stores i=(0,fH):=by
 unfold eN;rw[he];exact if_pos hk
theorem KP{rob:List Ent}{stores:List Pt}{i k:Nat}{e x:Ent}(he:rob[i]?=some e)(hk:kindOf e.i.op=3)(hx:(rob.take i)[k]?=some x)(hv:rJ x=true):eN rob stores i=(0,fH):=by
 unfold eN;rw[he];exact (if_neg (λ h=>h hk)).trans (if_pos (WJ.2 ⟨x,ST hx,hv⟩))
theorem KQ{rob:List Ent}{stores:List Pt}{i k:Nat}{e:Ent}(he:rob[i]?=some e)(hk:kindOf e.i.op=3)(hN:∀ y,y∈(rob.take i).take k→rJ y=false)(hle:(rob.take i).length≤k):eN rob stores i=oD e.addr (bL e.i.op) (Aj (rob.take i) stores):=by
 unfold eN;rw[he];refine (if_neg (λ h=>h hk)).trans (if_neg λ h=>?_);obtain⟨x,hx,hv⟩:=WJ.1 h;rw[Te hle]at hN;rw[hN x hx]at hv;cases hv
theorem Pe(rob:List Ent)(stores:List Pt)(ck ck2:Bool)(i:Nat)(hl:rob.length≤1000)(ho:∀ x∈rob,x.ok)(hst:stores.length≤1000)(hso:∀ x∈stores,x.ok)(hss:∀ x∈stores,x.data.size≤4)(hi:i<rob.length):aT C0 207 [.sl 17 (rob.map enL) ck,.sl 2 (stores.map ptL) ck2,vN i] (.tup [vI (eN rob stores i).1,.v (.string (eN rob stores i).2)]):=by
 refine dc1 (aT.introR (C:=C1) (λ d=>c1Ok.wd d) (λ n=>c1Ok.at) Tryz.func207 rfl rfl (by kernel_rfl) rfl ?_);have hiB:i≤1000:=by omega
 have htl:(rob.take i).length≤1000:=by rw[Tg];omega
 have hto:∀ x∈rob.take i,x.ok:=λ x hx=>ho x (TH hx);refine qM<|pY rfl<|aB rfl<|rAl 0 rfl rfl<|rAl 1 rfl rfl<|rE 2<|OV<|qM<|qM<|pY rfl<|aB rfl<|oR 1 rfl<|rW (vB (decide (i<0))) rfl (okB (ltN _ _))<|oR 1 rfl<|gN rfl<|gN rfl ?_;refine gBS (x:=vN rob.length) rfl id (aN enL rob)<|gBS (x:=vB (decide (i≥rob.length))) rfl hsT (okB (geN _ _))<|aG rfl rfl rfl (by simp)<|oR 1 rfl<|gN rfl<|gN rfl ?_;obtain⟨e,he⟩:∃ y_,rob[i]?=some y_:=⟨_,SS omT⟩;have heo:=ho e (ST he);refine EH (enL e) (x:=.dp 17 0 (enL e)) (g:= !(aO (decide (i<0)) true (decide (i≥rob.length)))) rfl rfl rfl rfl hsT rfl rfl (λ hg=>⟨SZ _,cX he⟩) rfl<|gS rfl id<|gS rfl id<|dZ (args:=[.agg [vI e.i.op,vI e.i.rd,vI e.i.rs1,vI e.i.rs2,vU e.i.imm]]) (x:=vN (kindOf e.i.op)) (g:= !(aO (decide (i<0)) true (decide (i≥rob.length)))) rfl rfl rfl rfl (λ h=>h) rfl rfl rfl (.inl rfl) rfl (λ hg=>iV e.i)<|gBS (x:=vB ((kindOf e.i.op) != 3)) rfl id (okB (neN _ _))<|aG rfl rfl rfl (by simp)<|rE 19 ?_;refine Nv (v:=aO (aO (decide (i<0)) true (decide (i≥rob.length))) true ((kindOf e.i.op) != 3)) rfl (λ h1=>?_) (λ h1=>?_)
 ·have hk3: ¬ kindOf e.i.op=3:=by have z:=h1;simp only[cOr]at z;grind
  refine qM<|pY rfl<|aB rfl<|rSt rfl<|rSt rfl<|rE 21<|pY rfl<|bC ?_;have e1:=ML (stores:=stores) he hk3;rw[e1];exact fT rfl rfl
 ·have hk3:kindOf e.i.op=3:=by have z:=h1;simp only[cOr]at z;grind
  refine pY rfl<|aF<|qM<|qM<|pY rfl<|aB rfl<|oR 2 rfl ?_;refine nW (.sl 17 ((rob.take i).map enL) (ck&&false)) rfl (oO (mM enL rob i)) slT ?_;refine rW (vN i) rfl (kH enL (rob.take i) omT)<|oR 1 rfl<|rE 24<|Fl<|QM<|fU (κ:=Nat) (λ k=>⟨aY [(0,.sl 17 (rob.map enL) ck),(1,.sl 2 (stores.map ptL) ck2),(2,vN i),(6,.ptr 0 0),(7,.ptr 1 0),(30,vB (aO (aO (decide (i<0)) true (decide (i≥rob.length))) true ((kindOf e.i.op) != 3))),(33,.sl 17 ((rob.take i).map enL) (ck&&false)),(34,vN i),(35,vN k)],heapF [(0,.box [vI 0]),(1,.box [.v (.string (⟨#[]⟩:ByteArray))])],24⟩) (λ k=>k≤i∧∀ y,y∈(rob.take i).take k→rJ y=false) (λ k=>i - k) 0 (λ s=>s) (Weak.of_lists (λ s=>s) wT wH rfl) (⟨SV _,(λ y hy=>by cases hy)⟩) ?_;intro k hk;have hkn:k≤i:=hk.1;have hkB:k≤1000000:=by omega
  refine aA<|aB rfl<|rW (vB (decide (k<i))) rfl (okB (ltN _ _))<|rE 25<|aA ?_;refine aE rfl (λ h2=>?_) (λ h2=>?_)
  ·have h2p:=of_decide_eq_true h2;refine aF<|aA<|aK<|aA<|aB rfl ?_;obtain⟨x,hx⟩:∃ y_,(rob.take i)[k]?=some y_:=⟨_,SS omT⟩;have hxo:=(nN ho) x (ST hx);refine rIx (enL x) (.dp 17 0 (enL x)) rfl rfl (cX hx) rfl<|oR 1 rfl<|rAl 27 rfl rfl<|rSt rfl<|rE 29<|aA<|aB rfl<|oR 2 rfl<|rCi rfl (iV x.i)<|rW (vB ((kindOf x.i.op)==4)) rfl (okB (eqN _ _))<|oR 1 rfl<|gN rfl<|gS rfl id<|gS rfl id<|gS rfl id<|gN rfl ?_;refine gS rfl id<|gBS (x:=vB (x.halt != 0)) rfl id rfl<|nG (x:=vB (aO (!x.known) true (x.halt != 0))) (g:=(kindOf x.i.op)==4) rfl rfl rfl rfl (λ h=>h) rfl rfl (λ hg hc=>by first|(rw[hg,hc];rfl)|simp_all)<|aG rfl rfl rfl (λ h=>h)<|rE 43 ?_;refine aE rfl (λ h3=>?_) (λ h3=>?_)
   ·have hv:rJ x=true:=by have z:=h3;unfold rJ isK;simp only[cOr,iG]at z⊢;grind
    refine aA<|aB rfl<|rSt rfl<|rSt rfl<|rE 45<|bC ?_;have e1:=KP (stores:=stores) he hk3 hx hv;rw[e1];exact fT rfl rfl
   ·have hv:rJ x=false:=by have z:=h3;unfold rJ isK;simp only[cOr,iG]at z⊢;grind
    refine aF<|aB rfl ?_;have b1:k+1≤1000001:=SY hkB (SU 1);refine rW (vN (k+1)) rfl (okI (aQ b1 rfl))<|oR 1 rfl<|rE 45 ?_;refine⟨k+1,λ s=>s,Weak.of_lists _ wT wH rfl,⟨by omega,MK hk.2 hx hv⟩,by show i - (k+1)<i - k;omega⟩
  ·have h2p:=SW h2;have hN0:=hk.2;have hk0:(rob.take i).length≤k:=by rw[Tg];omega
   refine bU<|qM<|pY rfl<|aB rfl<|oR 2 rfl<|rIx (enL e) (.dp 17 0 (enL e)) rfl rfl (cX he) rfl<|oR 4 rfl<|rIx (enL e) (.dp 17 0 (enL e)) rfl rfl (cX he) rfl<|oR 2 rfl<|rCi rfl (Cv e.i)<|rAl 36 rfl rfl<|rAl 37 rfl rfl<|rSt rfl<|rSt rfl<|rE 40<|qM ?_;refine pY rfl<|QN<|qM<|qM<|pY rfl<|aB rfl<|oR 2 rfl ?_;refine nW (.sl 17 ((rob.take i).map enL) (ck&&false)) rfl (oO (mM enL rob i)) slT ?_;refine oR 1 rfl<|rCi rfl (KO (rob.take i) stores (ck&&false) ck2 htl hto hst hso)<|rE 45<|Fl ?_;refine KD (.mk _ (.refl _) ⟨⟨aY [(6,.ptr 0 0),(7,.ptr 1 0),(10,.ptr 2 0),(11,.ptr 3 0),(69,.clo 232 [] [.dp 1 0 ([.sl 17 ((rob.take i).map enL) (ck&&false)]),.dp 1 0 ([.sl 2 (stores.map ptL) ck2])])],heapF [(0,.box [vI 0]),(1,.box [.v (.string (⟨#[]⟩:ByteArray))]),(2,.box [vU e.addr]),(3,.box [vN (bL e.i.op)])],4⟩,λ s=>match s with|2=>36|3=>37|s=>s,Weak.of_lists _ wT wH rfl,rfl,?_⟩);refine .mk Std 232 [.dp 1 0 ([.sl 17 ((rob.take i).map enL) (ck&&false)]),.dp 1 0 ([.sl 2 (stores.map ptL) ck2])] (λ s:Std=>[.agg (sdL s)]) QT (Aj (rob.take i) stores) (λ s:Std=>Al s.addr s.size e.addr (bL e.i.op)=false) rfl rfl ⟨_,Tryz.func232,rfl,rfl⟩ (KN (rob.take i) stores (ck&&false) ck2 htl hto hst hso) (λ x S w β=>Bl (show El [.agg (sdL x)]=some _ from rfl)) (λ _=>rfl) rfl ?_ ?_
   ·intro pre_ s hp_ hN_;have hsk:=MJ hto hso hss (hp_.subset (List.mem_append_right _ (Ww.2 rfl)));have hsz:s.size≤1000:=by omega
    have hne:bL e.i.op≤1000:=Tb (kO e.i.op) (by decide);refine aB rfl<|rAl 4 rfl rfl<|rSt rfl<|rE 6 ?_;refine⟨rfl,?_⟩;refine aK<|aA<|aA<|aB rfl<|oR 6 rfl<|rCi rfl (QS s.addr s.size e.addr (bL e.i.op) hsk.1 hsz heo.addr hne)<|oR 1 rfl<|rE 14 ?_;refine aE rfl (λ h4=>?_) (λ h4=>?_)
    ·have hlp:Al s.addr s.size e.addr (bL e.i.op)=false:=by simpa using h4
     refine bU ?_;exact⟨hlp,.mk _ (.refl _) ⟨λ s=>s,rfl,Weak.of_lists (l:=[]) (hp:=[(0,.box [vI 0]),(1,.box [.v (.string (⟨#[]⟩:ByteArray))]),(2,.box [vU e.addr]),(3,.box [vN (bL e.i.op)])]) (λ s=>s) trivial wH rfl⟩⟩
    ·have hlp:Al s.addr s.size e.addr (bL e.i.op)=true:=by simpa using h4
     refine aF<|aA<|aA<|aB rfl<|oR 6 rfl<|rCi rfl (Pc s.addr s.size e.addr (bL e.i.op) hsk.1 hsz heo.addr hne)<|oR 2 rfl<|gN rfl<|gS rfl id<|gS rfl id<|aG rfl rfl rfl (by simp)<|rE 27 ?_;refine aE rfl (λ h5=>?_) (λ h5=>?_)
     ·have hhd:zE s.addr s.size e.addr (bL e.i.op)=false∨s.there=false:=by have z:=h5;simp only[cOr]at z;grind
      refine aA<|aB rfl<|rSt rfl<|rSt rfl<|rE 29<|bC ?_;refine .mk _ (.refl _) ⟨heapF [(0,.box [vI 0]),(1,.box [.v (.string (⟨#[]⟩:ByteArray))]),(2,.box [vU e.addr]),(3,.box [vN (bL e.i.op)])],λ s=>s,rfl,Weak.of_lists (l:=[]) (hp:=[(0,.box [vI 0]),(1,.box [.v (.string (⟨#[]⟩:ByteArray))]),(2,.box [vU e.addr]),(3,.box [vN (bL e.i.op)])]) (λ s=>s) trivial wH rfl,?_⟩;intro D;have e1:=(KQ (stores:=stores) he hk3 hN0 hk0).trans ((vT hp_ hN_ hlp).trans (if_pos hhd));rw[e1];exact fT rfl rfl
     ·have hhd: ¬ (zE s.addr s.size e.addr (bL e.i.op)=false∨s.there=false):=by have z:=h5;simp only[cOr]at z;grind
      have hlh:s.addr≤e.addr∧e.addr+bL e.i.op≤s.addr+s.size:=by have z:=hhd;simp only[not_or,Bool.not_eq_false]at z;have y:=z.1;unfold zE at y;simp only[Tc,Tk]at y;omega
      refine aF<|aA<|aB rfl<|oR 3 rfl<|rW (vU (e.addr - s.addr)) rfl (okI (RN hlh.1 heo.addr))<|rW (vN (e.addr - s.addr)) rfl (okI (aQ (Tb (UO _ _) heo.addr) rfl))<|oR 1 rfl<|rE 33<|aA<|uA rfl rfl<|oR 5 rfl ?_;have b2:(e.addr - s.addr)+(bL e.i.op)≤4294967299:=SY (Tb (UO _ _) heo.addr) (kO e.i.op);refine rW (vN ((e.addr - s.addr)+(bL e.i.op))) rfl (okI (aQ b2 rfl)) ?_;refine nW (.v (.string (s.data.extract (e.addr - s.addr) ((e.addr - s.addr)+(bL e.i.op))))) rfl rfl (by refine⟨?_,?_,?_⟩<;>(first|exact SZ _|decide|(apply WD.2;exact omT))) ?_;refine rSt rfl<|rSt rfl<|rE 42<|And.intro (by kernel_rfl)<|bC ?_;refine .mk _ (.refl _) ⟨heapF [(0,.box [vI 1]),(1,.box [.v (.string (s.data.extract (e.addr - s.addr) ((e.addr - s.addr)+(bL e.i.op))))]),(2,.box [vU e.addr]),(3,.box [vN (bL e.i.op)])],λ s=>s,rfl,Weak.of_lists (l:=[]) (hp:=[(0,.box [vI 1]),(1,.box [.v (.string (s.data.extract (e.addr - s.addr) ((e.addr - s.addr)+(bL e.i.op))))]),(2,.box [vU e.addr]),(3,.box [vN (bL e.i.op)])]) (λ s=>s) trivial wH rfl,?_⟩;intro D;have e1:=(KQ (stores:=stores) he hk3 hN0 hk0).trans ((vT hp_ hN_ hlp).trans (if_neg hhd));rw[e1];exact fT rfl rfl
   ·intro hN D;refine qM<|pY rfl<|aB rfl<|rSt rfl<|rSt rfl<|rE 6<|pY rfl<|bC ?_;have e1:=(KQ (stores:=stores) he hk3 hN0 hk0).trans (wM hN);rw[e1];exact fT rfl rfl
section
variable {α:Type}{f:α→List AV}{A l B:List α}{lo:Nat}
theorem dQ{x:α}{i:Nat}(hlo:A.length=lo)(hx:l[i]?=some x):(A++l++B)[lo+i]?=some x:=by
 have hi:=(WB.1 hx).1;rw[Uq,TA omT, ←hlo,Nat.add_sub_cancel_left,TF hi,hx]
theorem kN{n:Nat}(hlo:A.length=lo)(hn:l.length=n):List.take n (List.drop lo ((A++l++B).map f))=l.map f:=by
 subst hlo;subst hn;rw[←Vu, ←Uu];congr 1;rw[Uq,List.drop_left,List.take_left]
theorem Ok{x:α}{i:Nat}(hlo:A.length=lo)(hi:i<l.length):(A++l++B).set (lo+i) x=A++l.set i x++B:=by
 subst hlo;rw[Uq,Va _ _ omT,Nat.add_sub_cancel_left,List.set_append_left _ _ hi,Uq]
theorem lH{x:α}{i:Nat}{h:AH}{b rs:Nat}(hlo:A.length=lo)(hi:i<l.length):some (upd h b (some (.arr (((A++l++B).map f).set (lo+i) (f x)) rs)))=some (upd h b (some (.arr ((A++l.set i x++B).map f) rs))):=by
 rw[←List.map_set,Ok hlo hi]
end
theorem LW(op:Int)(s:ByteArray):loadP op s≤4294967295:=by
 unfold loadP;split
 ·rename_i h;have h4:s.size≤4:=by have:=kO op;omega
  have:=zM s h4;split
  ·exact Ti (qW _ _ omT)
  ·split
   ·exact Ti (qW _ _ omT)
   ·omega
 ·exact SV _
theorem Jt{e:Ent}(he:e.ok){a b:Nat}(ha:a≤4294967295)(hb:b≤4294967295):(jB e a b).ok:=by
 have hv:kZ e a b≤4294967295:=by
  unfold kZ;split
  ·exact SV _
  ·exact Ti (ON _ _ _ _ _ (uU he.imm) (uU ha) (uU hb))
 have hu:up4 e.pc≤4294967295:=by unfold up4;omega
 have hx:oF e.i.op e.i.imm e.pc a b≤4294967295:=Ti (Gr _ _ _ _ _);unfold jB
 repeat' split
 all_goals first|exact he|exact⟨he.pc,he.imm,he.guess,hv,hu,he.addr⟩|exact⟨he.pc,he.imm,he.guess,hv,hx,he.addr⟩|exact⟨he.pc,he.imm,he.guess,SV _,hu,he.addr⟩
theorem Ju{e:Ent}(he:e.ok):(goE e).ok:=by
 unfold goE;repeat' split
 all_goals first|exact he|exact⟨he.pc,he.imm,he.guess,he.value,he.next,he.addr⟩
theorem Cb{e:Ent}(he:e.ok)(size:Int)(a:Nat):(oA e size a).ok:=by
 have hx:(a+e.i.imm) % 4294967296≤4294967295:=by omega
 unfold oA;repeat' split
 all_goals first|exact he|exact⟨he.pc,he.imm,he.guess,he.value,he.next,hx⟩
theorem Cc{e:Ent}(he:e.ok)(s:ByteArray):(lI e s).ok:=by
 have hl:loadP e.i.op s≤4294967295:=LW e.i.op s;unfold lI;split
 ·exact he
 ·refine⟨he.pc,he.imm,he.guess,?_,he.next,he.addr⟩;show (if wr e.i=0 then 0 else loadP e.i.op s)≤_;split<;>omega
theorem DD(rob:List Ent)(stores:List Pt)(i:Nat):(eN rob stores i).2.size≤100:=by
 have hs:∀ (l:List Std) (a n:Nat),n≤4→(oD a n l).2.size≤100:=by
  intro l a n hn
  induction l with
  |nil=>exact SV _
  | cons s l ih=>
   unfold oD;split
   ·exact ih
   ·split
    ·exact SV _
    ·show (s.data.extract _ _).size≤100;rw[Uh];omega
 unfold eN;split
 ·exact SV _
 ·split
  ·exact SV _
  ·split
   ·exact SV _
   ·exact hs _ _ _ (kO _)
theorem AU{c:Co}(h:c.mem.size≤256)(e:Ent):(gG c e).size≤1000:=by
 unfold gG OL;split
 ·rw[Uh];have:=FU c.stores c.data c.bus c.mem;unfold OE;omega
 ·exact SV _
theorem DE(q:List Req)(line:Nat)(k:Int):Fq q line [k]=xJ q line k:=by unfold Fq xJ;congr 1;funext x;simp
theorem Rx(c:Co)(nb:Nat)(hm:c.okM nb)(i:Nat)(hi:i<c.rob.length)(A B:List Ent)(lo n:Nat)(kR kF kS kT:Bool)(xF xT:List (List AV))(hlo:A.length=lo)(hn:c.rob.length=n)(hA:A.length+n+B.length≤1000):iK C0.P C0.G 167 [.ptr 0 0,vN i] (heapF [(0,.box (mcX c (.osl 1 lo n kR) (.sl 2 xF kF) (.sl 2 (c.stores.map ptL) kS) (.sl 9 xT kT))),(1,.arr ((A++(c).rob++B).map enL) 17)]) 2 (λ x h'=>x=.tup []∧h'=heapF [(0,.box (mcX (fP c i) (.osl 1 lo n kR) (.sl 2 xF kF) (.sl 2 (c.stores.map ptL) kS) (.sl 9 xT kT))),(1,.arr ((A++((fP c i)).rob++B).map enL) 17)]):=by
 refine HCall.intro (C:=C1) (s:=2) c1Ok.at Tryz.func167 rfl rfl (by kernel_rfl) rfl rfl<|aA<|aB rfl<|oR 6 rfl<|nW (.ptr2 1 (lo+i) 0) rfl rfl ixT ?_;obtain⟨x,hx⟩:∃ y_,c.rob[i]?=some y_:=⟨_,SS omT⟩;have hxo:=hm.ok.robo x (ST hx);refine rIx (enL x) (.agg (enL x)) rfl rfl (cX (dQ hlo hx)) rfl<|rAl 10 rfl rfl<|rSt rfl<|rE 12<|aA<|aA<|aB rfl<|oR 3 rfl<|rE 15 ?_;refine aE rfl (λ h1=>?_) (λ h1=>?_)
 ·refine bC ?_;have e:fP c i=c:=by unfold fP;rw[hx];dsimp only;rw[if_pos (yW h1)];try rfl
  rw[e];exact gY (rs:=[]) rfl (σ:=λ z=>z) ⟨rfl,rfl⟩ rfl (aV (λ z=>z) rfl rfl wH rfl)
 ·refine aF<|aA<|aB rfl<|oR 11 rfl<|rCl (x:=.tup [vI ((eN c.rob c.stores i).1),.v (.string ((eN c.rob c.stores i).2))]) rfl (.inr ⟨rfl,⟨(by show lo+n≤((A++c.rob++B).map enL).length;exact omT),trivial,trivial,trivial⟩⟩) ((show aT C0 207 [.sl 17 (List.take n (List.drop lo ((A++c.rob++B).map enL))) kR,.sl 2 (c.stores.map ptL) kS,vN i] _ from by rw[kN (l:=c.rob) hlo (by first|exact hn|(rw[TB];exact hn)|(simp only[TB];exact hn))];exact Pe c.rob c.stores kR kS i hm.rob hm.ok.robo hm.sto hm.ok.stoo hm.std hi))<|oR 5 rfl<|rE 32<|aA<|aB rfl<|oR 2 rfl<|rCi rfl (iS x.addr hxo.addr)<|oR 1 rfl<|rE 36<|aK<|aA<|aB rfl ?_;refine oR 1 rfl<|rV (vB (((eN c.rob c.stores i).1)==1)) rfl<|oR 1 rfl<|rE 39 ?_;refine aE rfl (λ h2=>?_) (λ h2=>?_)
  ·have h2p:=eP h2;refine aB rfl<|oR 8 rfl<|rCi rfl (KJ x ((eN c.rob c.stores i).2) hxo (Tt (DD c.rob c.stores i) (by decide)))<|nW (.ptr2 1 (lo+i) 0) rfl rfl ixT ?_;have hx1:(c.rob.set i (lI x ((eN c.rob c.stores i).2)))[i]?=some (lI x ((eN c.rob c.stores i).2)):=Tl omT;refine gI (enL x) (h':=upd _ 1 (some (.arr ((A++(c.rob.set i (lI x ((eN c.rob c.stores i).2)))++B).map enL) 17))) rfl rfl rfl (⟨SZ _,cX ((dQ hlo hx))⟩) (lH (f:=enL) (x:=(lI x ((eN c.rob c.stores i).2))) (l:=c.rob) (i:=i) hlo omT)<|rE 50 ?_;have e:fP c i=CN c i (lI x ((eN c.rob c.stores i).2)):=by unfold fP;rw[hx];dsimp only;rw[if_neg (jF h1),if_pos h2p];try rfl
   rw[e];exact gY (rs:=[]) rfl (σ:=λ z=>z) ⟨rfl,rfl⟩ rfl (aV (λ z=>z) rfl rfl wH rfl)
  ·have h2p:=eQ h2;refine aA<|aB rfl<|oR 1 rfl<|rV (vB (((eN c.rob c.stores i).1) != 2)) rfl<|oR 1 rfl<|rE 42 ?_;refine aE rfl (λ h3=>?_) (λ h3=>?_)
   ·have h3p:=nY h3;refine bC ?_;have e:fP c i=c:=by unfold fP;rw[hx];dsimp only;rw[if_neg (jF h1),if_neg h2p,if_pos h3p];try rfl
    rw[e];exact gY (rs:=[]) rfl (σ:=λ z=>z) ⟨rfl,rfl⟩ rfl (aV (λ z=>z) rfl rfl wH rfl)
   ·have h3p:=nZ h3;refine aA<|aB rfl<|oR 2 rfl<|bP (args:=[.ptr 0 0,vU (lineOf x.addr)]) (d:=56) _ rfl rfl rfl (iK.of_dcall (C:=C0) (show aT C0 208 [.dp 64 0 (mcX c (.sl 17 (List.take n (List.drop lo ((A++c.rob++B).map enL))) kR) (.sl 2 xF kF) (.sl 2 (c.stores.map ptL) kS) (.sl 9 xT kT)),vU (lineOf x.addr)] _ from by rw[kN (l:=c.rob) hlo (by first|exact hn|(rw[TB];exact hn)|(simp only[TB];exact hn))];exact Ol c nb hm (.sl 2 xF kF) (.sl 2 (c.stores.map ptL) kS) (.sl 9 xT kT) kR (lineOf x.addr) (bI hxo.addr)) (by rfl) (by exact⟨⟨rfl,(r4 (r4 (r4 (r4 (r4 (r4 (r4 (r4 (r4 (r4 (r4 (r4 ⟨(by show lo+n≤((A++c.rob++B).map enL).length;simp only[Td,To,TB];omega),tvT⟩))))))))))))⟩,trivial,trivial⟩) (by rfl)) ?_;rintro _ _ ⟨rfl,rfl⟩;refine oR 1 rfl<|rE 46 ?_;refine aE rfl (λ h4=>?_) (λ h4=>?_)
    ·refine aB rfl<|oR 9 rfl<|rCl rfl (.inr ⟨rfl,⟨trivial,tvT,trivial⟩⟩) (FV c nb hm .any (.sl 2 xF kF) (.sl 9 xT kT) kS x hxo)<|rCi rfl (KJ x (gG c x) hxo (by have:=AU (c:=c) (by have:=hm.mem;omega) x;omega))<|nW (.ptr2 1 (lo+i) 0) rfl rfl ixT ?_;have hx2:(c.rob.set i (lI x (gG c x)))[i]?=some (lI x (gG c x)):=Tl omT;refine gI (enL x) (h':=upd _ 1 (some (.arr ((A++(c.rob.set i (lI x (gG c x)))++B).map enL) 17))) rfl rfl rfl (⟨SZ _,cX ((dQ hlo hx))⟩) (lH (f:=enL) (x:=(lI x (gG c x))) (l:=c.rob) (i:=i) hlo omT)<|rE 59 ?_;have e:fP c i=CN c i (lI x (gG c x)):=by unfold fP;rw[hx];dsimp only;rw[if_neg (jF h1),if_neg h2p,if_neg (λ q=>q h3p),if_pos h4];try rfl
     rw[e];exact gY (rs:=[]) rfl (σ:=λ z=>z) ⟨rfl,rfl⟩ rfl (aV (λ z=>z) rfl rfl wH rfl)
    ·refine aA<|aB rfl<|oR 6 rfl<|rV (.sl 1 ([[vI 1]]) true) rfl<|rCl (x:=vB (xJ c.bus (lineOf x.addr) 1)) rfl (.inl rfl) ((show aT C0 _ [_,_,.sl 1 ([(1:Int)].map dD) true] _ from by rw[←DE];exact KI c.bus (lineOf x.addr) [1] false true (by have:=hm.bus;omega) (λ x hx=>(hm.ok.buso x hx).line) (bI hxo.addr) (by decide)))<|oR 1 rfl<|rE 55 ?_;refine aE rfl (λ h5=>?_) (λ h5=>?_)
     ·refine aB rfl<|oR 6 rfl<|nW (.ptr2 1 (lo+i) 0) rfl rfl ixT<|oR 1 rfl ?_;have hx3:(c.rob.set i (⟨x.no,x.pc,⟨x.i.op,x.i.rd,x.i.rs1,x.i.rs2,x.i.imm⟩,x.guess,2,x.left,x.value,x.next,x.addr,x.halt,x.took,x.known,x.filled⟩:Ent))[i]?=some (⟨x.no,x.pc,⟨x.i.op,x.i.rd,x.i.rs1,x.i.rs2,x.i.imm⟩,x.guess,2,x.left,x.value,x.next,x.addr,x.halt,x.took,x.known,x.filled⟩:Ent):=Tl omT;refine gI (enL x) (h':=upd _ 1 (some (.arr ((A++(c.rob.set i (⟨x.no,x.pc,⟨x.i.op,x.i.rd,x.i.rs1,x.i.rs2,x.i.imm⟩,x.guess,2,x.left,x.value,x.next,x.addr,x.halt,x.took,x.known,x.filled⟩:Ent))++B).map enL) 17))) rfl rfl rfl (⟨SZ _,cX ((dQ hlo hx))⟩) (lH (f:=enL) (x:=(⟨x.no,x.pc,⟨x.i.op,x.i.rd,x.i.rs1,x.i.rs2,x.i.imm⟩,x.guess,2,x.left,x.value,x.next,x.addr,x.halt,x.took,x.known,x.filled⟩:Ent)) (l:=c.rob) (i:=i) hlo omT)<|rE 64 ?_;have e:fP c i=CN c i (⟨x.no,x.pc,⟨x.i.op,x.i.rd,x.i.rs1,x.i.rs2,x.i.imm⟩,x.guess,2,x.left,x.value,x.next,x.addr,x.halt,x.took,x.known,x.filled⟩:Ent):=by unfold fP;rw[hx];dsimp only;rw[if_neg (jF h1),if_neg h2p,if_neg (λ q=>q h3p),if_neg (by rw[h4];decide),if_pos h5];try rfl
      rw[e];exact gY (rs:=[]) rfl (σ:=λ z=>z) ⟨rfl,rfl⟩ rfl (aV (λ z=>z) rfl rfl wH rfl)
     ·refine aA<|aB rfl<|oR 7 rfl<|rCl (x:=vB (lV c.rob i)) rfl (.inr ⟨rfl,⟨(by show lo+n≤((A++c.rob++B).map enL).length;exact omT),trivial,trivial⟩⟩) ((show aT C0 206 [.sl 17 (List.take n (List.drop lo ((A++c.rob++B).map enL))) kR,vN i] _ from by rw[kN (l:=c.rob) hlo (by first|exact hn|(rw[TB];exact hn)|(simp only[TB];exact hn))];exact FX c.rob kR i hm.rob hm.ok.robo (by have:=hm.rob;omega)))<|bP (args:=[.ptr 0 0,vB (lV c.rob i)]) (d:=95) _ rfl rfl rfl (iK.of_dcall (C:=C0) (show aT C0 116 [.dp 64 0 (mcX c (.sl 17 (List.take n (List.drop lo ((A++c.rob++B).map enL))) kR) (.sl 2 xF kF) (.sl 2 (c.stores.map ptL) kS) (.sl 9 xT kT)),vB (lV c.rob i)] _ from by rw[kN (l:=c.rob) hlo (by first|exact hn|(rw[TB];exact hn)|(simp only[TB];exact hn))];exact LX c nb hm (.sl 17 (c.rob.map enL) kR) (.sl 2 xF kF) (.sl 2 (c.stores.map ptL) kS) (.sl 9 xT kT) (lV c.rob i)) (by rfl) (by exact⟨⟨rfl,(r4 (r4 (r4 (r4 (r4 (r4 (r4 (r4 (r4 (r4 (r4 (r4 ⟨(by show lo+n≤((A++c.rob++B).map enL).length;simp only[Td,To,TB];omega),tvT⟩))))))))))))⟩,trivial,trivial⟩) (by rfl)) ?_;rintro _ _ ⟨rfl,rfl⟩;refine oR 1 rfl<|gN rfl<|gS rfl id<|gS rfl id<|gS rfl id<|gS rfl id<|gN rfl<|gB (x:=.sl 1 ([[vI 3]]) true) rfl rfl<|dZ (args:=[.sl 4 (c.bus.map rqL) false,vU (lineOf x.addr),.sl 1 ([[vI 3]]) true]) (x:=vB (xJ c.bus (lineOf x.addr) 3)) (g:=jV c (lV c.rob i)) rfl rfl rfl rfl hsT rfl rfl rfl (.inl rfl) rfl (λ hg=>(show aT C0 _ [_,_,.sl 1 ([(3:Int)].map dD) true] _ from by rw[←DE];exact KI c.bus (lineOf x.addr) [3] false true (by have:=hm.bus;omega) (λ x hx=>(hm.ok.buso x hx).line) (bI hxo.addr) (by decide)))<|gS rfl id<|aG rfl rfl rfl (λ h=>h)<|oR 1 rfl<|rE 76 ?_;refine aE rfl (λ h6=>?_) (λ h6=>?_)
      ·refine aA<|aB rfl<|oR 2 rfl<|bP (args:=[.ptr 0 0,vI 1,vU (lineOf x.addr),.v (.string (⟨#[]⟩:ByteArray))]) (d:=109) _ rfl rfl rfl ((Ry c nb hm 1 (lineOf x.addr) (⟨#[]⟩:ByteArray) (bI hxo.addr) lo n kR ((A++c.rob++B).map enL) kF xF kS (c.stores.map ptL) kT xT).frameB (λ z=>z) _ _ rfl ⟨⟨rfl,rfl,rfl,rfl⟩,⟨rfl,rfl,rfl,rfl⟩,trivial⟩ rfl rfl rfl rfl) ?_;rintro _ _ ⟨rfl,rfl⟩;refine rE 79<|aB rfl<|oR 6 rfl<|nW (.ptr2 1 (lo+i) 0) rfl rfl ixT<|oR 1 rfl ?_;have hx4:(c.rob.set i (⟨x.no,x.pc,⟨x.i.op,x.i.rd,x.i.rs1,x.i.rs2,x.i.imm⟩,x.guess,2,x.left,x.value,x.next,x.addr,x.halt,x.took,x.known,x.filled⟩:Ent))[i]?=some (⟨x.no,x.pc,⟨x.i.op,x.i.rd,x.i.rs1,x.i.rs2,x.i.imm⟩,x.guess,2,x.left,x.value,x.next,x.addr,x.halt,x.took,x.known,x.filled⟩:Ent):=Tl omT;refine gI (enL x) (h':=upd _ 1 (some (.arr ((A++(c.rob.set i (⟨x.no,x.pc,⟨x.i.op,x.i.rd,x.i.rs1,x.i.rs2,x.i.imm⟩,x.guess,2,x.left,x.value,x.next,x.addr,x.halt,x.took,x.known,x.filled⟩:Ent))++B).map enL) 17))) rfl rfl rfl (⟨SZ _,cX ((dQ hlo hx))⟩) (lH (f:=enL) (x:=(⟨x.no,x.pc,⟨x.i.op,x.i.rd,x.i.rs1,x.i.rs2,x.i.imm⟩,x.guess,2,x.left,x.value,x.next,x.addr,x.halt,x.took,x.known,x.filled⟩:Ent)) (l:=c.rob) (i:=i) hlo omT)<|rE 88 ?_;have e:fP c i=CN (dI c 1 (lineOf x.addr) (⟨#[]⟩:ByteArray)) i (⟨x.no,x.pc,⟨x.i.op,x.i.rd,x.i.rs1,x.i.rs2,x.i.imm⟩,x.guess,2,x.left,x.value,x.next,x.addr,x.halt,x.took,x.known,x.filled⟩:Ent):=by unfold fP;rw[hx];dsimp only;rw[if_neg (jF h1),if_neg h2p,if_neg (λ q=>q h3p),if_neg (by rw[h4];decide),if_neg (by rw[h5];decide),if_pos (by have z:=h6;simp only[iG]at z;simpa using z)];try rfl
       rw[e];exact gY (rs:=[]) rfl (σ:=λ z=>z) ⟨rfl,rfl⟩ rfl (aV (λ z=>z) rfl rfl wH rfl)
      ·refine aF ?_;have e:fP c i=c:=by unfold fP;rw[hx];dsimp only;rw[if_neg (jF h1),if_neg h2p,if_neg (λ q=>q h3p),if_neg (by rw[h4];decide),if_neg (by rw[h5];decide),if_neg (by have z:=h6;simp only[iG]at z;simpa using z)];try rfl
       rw[e];exact gY (rs:=[]) rfl (σ:=λ z=>z) ⟨rfl,rfl⟩ rfl (aV (λ z=>z) rfl rfl wH rfl)
theorem iK.frameB2{P:Program}{G:Nat→Option (List AV)}{f:FuncId}{args:List AV}{b0 b1 c0 c1:Blk}{L:List (Nat×Blk)}{s:Nat}{r:AV}(H:iK P G f args (heapF ((0,b0)::(1,b1)::L)) s (λ x h'=>x=r∧h'=heapF ((0,c0)::(1,c1)::L)))(ρ:Nat→Nat)(K:AH)(s2:Nat)(hfull:wW (heapF ((0,b0)::(1,b1)::L)) s=true)(hL:FrL ρ K s s2 ((0,b0)::(1,b1)::L))(hi:MB ρ s=true)(ha:iE s args=true)(hr:cA r=true)(hb0:kV s c0=true)(hb1:kV s c1=true):
  iK P G f (uT ρ args) K s2 (λ x h'=>x=r∧h'=upd (upd K (ρ 0) (some (Ae ρ c0))) (ρ 1) (some (Ae ρ c1))):=by
 have hs:1<s:=Tf hL.2.1.2.1;refine H.frameL ρ K s2 hfull hL hi ha _ λ r' h' hP=>?_;obtain⟨rfl,rfl⟩:=hP;refine⟨_,⟨pR _ _ hr,rfl⟩,λ y blk hy=>?_⟩;by_cases he1:y=ρ 1
 ·subst he1;rw[bG]at hy;injection hy with hy;exact .inl ⟨1,c1,rfl,(jC ρ omT).symm,by rw[←hy,oX ρ s s2 c1 hb1]⟩
 rw[aU _ _ he1]at hy;by_cases he:y=ρ 0
 ·subst he;rw[bG]at hy;injection hy with hy;exact .inl ⟨0,c0,rfl,(jC ρ omT).symm,by rw[←hy,oX ρ s s2 c0 hb0]⟩
 ·rw[aU _ _ he]at hy;by_cases hx:∃ x,x<s∧ρ x=y
  ·obtain⟨x,hxs,rfl⟩:=hx;have hx0:x≠0:=λ e=>he (by rw[e]);have hx1:x≠1:=λ e=>he1 (by rw[e]);obtain⟨blk0,hb⟩:=WA.1 (lE hfull x hxs);have hk:=hL.get x blk0 hb;rw[hk.2.2.2]at hy;injection hy with hy;refine .inl ⟨x,blk0,?_,(jC ρ omT).symm,?_⟩
   ·have q0:Nat.beq 0 x=false:=by rw[←Ui];exact λ e=>hx0 (Ta e).symm
    have q1:Nat.beq 1 x=false:=by rw[←Ui];exact λ e=>hx1 (Ta e).symm
    simp only[heapF,q0,q1]at hb⊢;exact hb
   ·rw[←hy];exact (oX ρ s s2 blk0 hk.2.2.1).symm
  ·exact .inr ⟨hy,λ x hxs e=>hx ⟨x,hxs,e⟩⟩
theorem nM{c:Co}{n:Nat}(h:c.okM n)(i:Nat){e:Ent}(he:e.ok):(CN c i e).okM n:=by
 have hl:(c.rob.set i e).length=c.rob.length:=TB ..;exact⟨⟨h.ok.conf,h.ok.prog,h.ok.progo,h.ok.r,h.ok.fetch,h.ok.fet,h.ok.feto,by show (c.rob.set i e).length≤_;rw[hl];exact h.ok.rob,pQ (P:=Ent.ok) h.ok.robo he,h.ok.sto,h.ok.stoo,h.ok.data,h.ok.words,h.ok.bus,h.ok.buso,h.ok.asked,h.ok.guessed,h.ok.mem,h.ok.guess,h.ok.ret,h.ok.reto⟩,h.nb,h.cf,h.data,h.words,h.guess,by show (c.rob.set i e).length≤_;rw[hl];exact h.rob,h.fet,h.sto,h.prog,h.mem,h.std⟩
theorem uE{rob:List Ent}{r:Nat→Nat}(ho:∀ x∈rob,x.ok)(hr:∀ k,r k≤4294967295)(i:Nat):(eR rob r i).1≤4294967295∧(eR rob r i).2.1≤4294967295:=by
 unfold eR;split
 ·exact⟨uF ho hr _ _,uF ho hr _ _⟩
 ·exact⟨SV _,SV _⟩
theorem Nj(c:Co)(nb:Nat)(hm:c.okM nb)(i:Nat)(hi:i<c.rob.length)(A B:List Ent)(lo n:Nat)(kR kF kS kT:Bool)(xF xT:List (List AV))(hlo:A.length=lo)(hn:c.rob.length=n)(hA:A.length+n+B.length≤1000):iK C0.P C0.G 111 [.ptr 0 0,vN i] (heapF [(0,.box (mcX c (.osl 1 lo n kR) (.sl 2 xF kF) (.sl 2 (c.stores.map ptL) kS) (.sl 9 xT kT))),(1,.arr ((A++(c).rob++B).map enL) 17)]) 2 (λ x h'=>x=.tup []∧h'=heapF [(0,.box (mcX (dB c i) (.osl 1 lo n kR) (.sl 2 xF kF) (.sl 2 (c.stores.map ptL) kS) (.sl 9 xT kT))),(1,.arr ((A++((dB c i)).rob++B).map enL) 17)]):=by
 refine HCall.intro (C:=C1) (s:=2) c1Ok.at Tryz.func111 rfl rfl (by kernel_rfl) rfl rfl<|aA<|aB rfl<|oR 6 rfl<|nW (.ptr2 1 (lo+i) 0) rfl rfl ixT ?_;obtain⟨x,hx⟩:∃ y_,c.rob[i]?=some y_:=⟨_,SS omT⟩;have hxo:=hm.ok.robo x (ST hx);refine rIx (enL x) (.agg (enL x)) rfl rfl (cX (dQ hlo hx)) rfl<|rAl 10 rfl rfl<|rSt rfl<|rE 12<|aA<|aB rfl<|oR 11 rfl<|rCl (x:=.tup [vU ((eR c.rob c.r i).1),vU ((eR c.rob c.r i).2.1),vB ((eR c.rob c.r i).2.2)]) rfl (.inr ⟨rfl,⟨(by show lo+n≤((A++c.rob++B).map enL).length;exact omT),tvT,trivial,trivial⟩⟩) ((show aT C0 164 [.sl 17 (List.take n (List.drop lo ((A++c.rob++B).map enL))) kR,.agg (DM c.r),vN i] _ from by rw[kN (l:=c.rob) hlo (by first|exact hn|(rw[TB];exact hn)|(simp only[TB];exact hn))];exact Nk c.rob c.r kR i hm.rob hm.ok.robo hm.ok.r (by have:=hm.rob;omega)))<|oR 7 rfl<|rE 31<|aA<|aB rfl<|oR 2 rfl<|rCi rfl (iV x.i)<|rE 34<|aK ?_;refine aA<|aB rfl<|rW (vB ((kindOf x.i.op)==4)) rfl (okB (eqN _ _))<|oR 1 rfl<|rE 36 ?_;refine aE rfl (λ h1=>?_) (λ h1=>?_)
 ·have h1p:=eP h1;refine aB rfl<|oR 12 rfl<|rV (vN c.mem.size) rfl<|oR 1 rfl<|rCi rfl (Nx x ((c.mem.size:Nat):Int) ((eR c.rob c.r i).1) hxo (by have:=hm.mem;omega) (uE hm.ok.robo hm.ok.r i).1)<|nW (.ptr2 1 (lo+i) 0) rfl rfl ixT ?_;have hx1:(c.rob.set i (oA x ((c.mem.size:Nat):Int) ((eR c.rob c.r i).1)))[i]?=some (oA x ((c.mem.size:Nat):Int) ((eR c.rob c.r i).1)):=Tl omT;refine gI (enL x) (h':=upd _ 1 (some (.arr ((A++(c.rob.set i (oA x ((c.mem.size:Nat):Int) ((eR c.rob c.r i).1)))++B).map enL) 17))) rfl rfl rfl (⟨SZ _,cX ((dQ hlo hx))⟩) (lH (f:=enL) (x:=(oA x ((c.mem.size:Nat):Int) ((eR c.rob c.r i).1))) (l:=c.rob) (i:=i) hlo omT)<|rE 53 ?_;have e:dB c i=CN c i (oA x ((c.mem.size:Nat):Int) ((eR c.rob c.r i).1)):=by unfold dB;rw[hx];dsimp only;rw[if_pos h1p]
  rw[e];exact gY (rs:=[]) rfl (σ:=λ z=>z) ⟨rfl,rfl⟩ rfl (aV (λ z=>z) rfl rfl wH rfl)
 ·have h1p:=eQ h1;refine aA<|aB rfl<|rW (vB ((kindOf x.i.op)==3)) rfl (okB (eqN _ _))<|oR 1 rfl<|rE 38 ?_;refine aE rfl (λ h2=>?_) (λ h2=>?_)
  ·have h2p:=eP h2;refine aA<|aB rfl<|oR 12 rfl<|rV (vN c.mem.size) rfl<|oR 1 rfl<|rCi rfl (Nx x ((c.mem.size:Nat):Int) ((eR c.rob c.r i).1) hxo (by have:=hm.mem;omega) (uE hm.ok.robo hm.ok.r i).1)<|nW (.ptr2 1 (lo+i) 0) rfl rfl ixT ?_;have hx2:(c.rob.set i (oA x ((c.mem.size:Nat):Int) ((eR c.rob c.r i).1)))[i]?=some (oA x ((c.mem.size:Nat):Int) ((eR c.rob c.r i).1)):=Tl omT;refine gI (enL x) (h':=upd _ 1 (some (.arr ((A++(c.rob.set i (oA x ((c.mem.size:Nat):Int) ((eR c.rob c.r i).1)))++B).map enL) 17))) rfl rfl rfl (⟨SZ _,cX ((dQ hlo hx))⟩) (lH (f:=enL) (x:=(oA x ((c.mem.size:Nat):Int) ((eR c.rob c.r i).1))) (l:=c.rob) (i:=i) hlo omT)<|rE 55<|aB rfl<|oR 2 rfl<|bP (args:=[.ptr 0 0,vN i]) (d:=84) _ rfl rfl rfl ((Rx (CN c i (oA x ((c.mem.size:Nat):Int) ((eR c.rob c.r i).1))) nb (nM hm i (Cb hxo _ _)) i (by show i<(c.rob.set i _).length;rw[TB];exact hi) A B lo n kR kF kS kT xF xT hlo (by show (c.rob.set i _).length=n;rw[TB];exact hn) hA).frameB2 (λ z=>z) _ _ rfl ⟨⟨rfl,rfl,rfl,rfl⟩,⟨rfl,rfl,rfl,rfl⟩,trivial⟩ rfl rfl rfl rfl rfl) ?_;rintro _ _ ⟨rfl,rfl⟩;refine rE 58 ?_;have e:dB c i=fP (CN c i (oA x (c.mem.size:Int) (eR c.rob c.r i).1)) i:=by unfold dB;rw[hx];dsimp only;rw[if_neg h1p,if_pos h2p]
   rw[e];exact gY (rs:=[]) rfl (σ:=λ z=>z) ⟨rfl,rfl⟩ rfl (aV (λ z=>z) rfl rfl wH rfl)
  ·have h2p:=eQ h2;refine aB rfl<|oR 9 rfl<|rCi rfl (OZ x ((eR c.rob c.r i).1) ((eR c.rob c.r i).2.1) hxo (uE hm.ok.robo hm.ok.r i).1 (uE hm.ok.robo hm.ok.r i).2)<|nW (.ptr2 1 (lo+i) 0) rfl rfl ixT ?_;have hx3:(c.rob.set i (jB x ((eR c.rob c.r i).1) ((eR c.rob c.r i).2.1)))[i]?=some (jB x ((eR c.rob c.r i).1) ((eR c.rob c.r i).2.1)):=Tl omT;refine gI (enL x) (h':=upd _ 1 (some (.arr ((A++(c.rob.set i (jB x ((eR c.rob c.r i).1) ((eR c.rob c.r i).2.1)))++B).map enL) 17))) rfl rfl rfl (⟨SZ _,cX ((dQ hlo hx))⟩) (lH (f:=enL) (x:=(jB x ((eR c.rob c.r i).1) ((eR c.rob c.r i).2.1))) (l:=c.rob) (i:=i) hlo omT)<|rE 50 ?_;have e:dB c i=CN c i (jB x ((eR c.rob c.r i).1) ((eR c.rob c.r i).2.1)):=by unfold dB;rw[hx];dsimp only;rw[if_neg h1p,if_neg h2p]
   rw[e];exact gY (rs:=[]) rfl (σ:=λ z=>z) ⟨rfl,rfl⟩ rfl (aV (λ z=>z) rfl rfl wH rfl)
structure WyG(n k:Nat)(w:Wy):Prop where
 line:lineOf w.line=w.line
 set:w.line / 16 % n=k
 data:w.data.size=0∨w.data.size=16
 le:w.line≤4294967295
structure SetG(n:Nat)(ways:Int)(k:Nat)(s:List Wy):Prop where
 len:(s.length:Int)≤ways
 way:∀ w∈s,WyG n k w
 one:(s.map (·.line)).Nodup
structure CaG(c:Ca):Prop where
 sets:c.sets.length=1∨c.sets.length=2∨c.sets.length=4
 ways:c.ways=1∨c.ways=2
 set:∀ k s,c.sets[k]?=some s→SetG c.sets.length c.ways k s
theorem Jp:∀ {s:List Wy} {line:Nat},dU s line=none↔∀ w∈s,w.line≠line
 |[],_=>by simp[dU]
 |w::l,line=>by
  unfold dU;by_cases h:w.line=line
  ·rw[if_pos h];simp[h]
  ·rw[if_neg h,Option.map_eq_none_iff,Jp];simp[h]
theorem Oj:∀ {s:List Wy},(∀ i x,s[i]?=some x→dU (s.take i) x.line=none)↔(s.map (·.line)).Nodup:=by
 intro s;rw[List.nodup_iff_pairwise_ne,List.pairwise_map,List.pairwise_iff_getElem];constructor
 ·intro h i j hi hj hij e;exact Jp.1 (h j s[j] (SS hj)) s[i] (ST (i:=i) (by rw[TL,if_pos hij,SS hi])) e
 ·intro h j x hx;obtain⟨hj,rfl⟩:=WB.1 hx;refine Jp.2 λ w hw=>?_;obtain⟨i,hi,rfl⟩:=Uv hw;rw[Tg]at hi;rw[List.getElem_take];exact h i j omT hj omT
theorem Rw{c:Ca}:CaG c↔cM c=true∧c.ok:=by
 constructor
 ·intro h;refine⟨(fG c).2 ⟨⟨h.sets,h.ways⟩,λ k s hs=>(fD c k s).2 ?_⟩,⟨by have:=h.sets;omega,λ s hs=>?_⟩⟩
  ·have g:=h.set k s hs;refine⟨g.len,λ i x hx=>?_⟩;have gw:=g.way x (ST hx);exact⟨gw.line,gw.set,gw.data,Oj.2 g.one i x hx⟩
  ·obtain⟨k,hk,rfl⟩:=Uv hs;have g:=h.set k _ (SS hk);refine⟨by have:=g.len;have:=h.ways;omega,λ x hx=>⟨(g.way x hx).le⟩⟩
 ·rintro ⟨h,ok⟩;obtain⟨⟨h1,h2⟩,h3⟩:=(fG c).1 h;refine⟨h1,h2,λ k s hs=>?_⟩;obtain⟨g1,g2⟩:=(fD c k s).1 (h3 k s hs);refine⟨g1,λ w hw=>?_,Oj.1 λ i x hx=>(g2 i x hx).2.2.2⟩;obtain⟨i,hi,rfl⟩:=Uv hw;have g:=g2 i _ (SS hi);exact⟨g.1,g.2.1,g.2.2.1,((ok.set s (ST hs)).2 _ hw).line⟩
theorem CaG.with{c:Ca}(h:CaG c){k:Nat}{s:List Wy}(hs:SetG c.sets.length c.ways k s):CaG (gL c k s):=by
 have hl:(c.sets.set k s).length=c.sets.length:=TB ..;refine⟨by show (c.sets.set k s).length=1∨(c.sets.set k s).length=2∨(c.sets.set k s).length=4;rw[hl];exact h.sets,h.ways,λ j t ht=>?_⟩;show SetG (c.sets.set k s).length c.ways j t;rw[hl];rw[show (gL c k s).sets=c.sets.set k s from rfl,Wi]at ht;split at ht
 ·rename_i e;subst e;split at ht
  ·injection ht with ht;subst ht;exact hs
  ·cases ht
 ·exact h.set j t ht
theorem yR{α:Type}{l:List α}{k:Nat}(h:k<l.length):(bT l k).Perm l:=by
 unfold bT;rw[SS h];show ([l[k]]++l.take k++l.drop (k+1)).Perm l;rw[List.singleton_append,VK];refine (List.perm_middle.symm).trans ?_;rw[←Uf h,Uy]
theorem SetG.perm{n:Nat}{ways:Int}{k:Nat}{s t:List Wy}(h:SetG n ways k s)(p:t.Perm s):SetG n ways k t:=
 ⟨by rw[p.length_eq];exact h.len,λ w hw=>h.way w (p.mem_iff.1 hw),(p.map _).nodup_iff.2 h.one⟩
theorem SetG.modHd{n:Nat}{ways:Int}{k:Nat}{s:List Wy}(h:SetG n ways k s){f:Wy→Wy}(hf:∀ w∈s,(f w).line=w.line∧((f w).data.size=0∨(f w).data.size=16)):SetG n ways k (modHd f s):=by
 cases s with
 |nil=>exact h
 | cons x l=>
  have hx:=hf x (Tv ..);have g:=h.way x (Tv ..);refine⟨h.len,λ w hw=>?_,?_⟩
  ·rcases al_List_mem_cons.1 hw with rfl|hw
   ·exact⟨by rw[hx.1];exact g.line,by rw[hx.1];exact g.set,hx.2,by rw[hx.1];exact g.le⟩
   ·exact h.way w (TC _ hw)
  ·show ((f x).line::l.map (·.line)).Nodup;rw[hx.1];exact h.one
theorem CaG.at{c:Ca}(h:CaG c){k:Nat}(hk:k<c.sets.length):SetG c.sets.length c.ways k (gW c k):=by
 rw[jO (SS hk)];exact h.set k _ (SS hk)
theorem CaG.touch{c:Ca}(h:CaG c)(line:Nat):CaG (kI c line):=by
 by_cases hF:(aH c line).2.isSome=true
 ·rw[wF hF];have ff:=gD hF;exact h.with ((h.at ff.2.2.1).perm (yR ff.2.2.2))
 ·rw[wG (by simpa using hF)];exact h
theorem Jq(d:ByteArray):(eS d).size=0∨(eS d).size=16:=by
 unfold eS;split
 ·right;assumption
 ·left;rfl
theorem CaG.put{c:Ca}(h:CaG c){line:Nat}(hl:line≤4294967295)(d:ByteArray)(b:Bool):CaG (iU c line d b).1:=by
 have hR:=(Rw.1 h).1;by_cases hF:(aH c line).2.isSome=true
 ·rw[uH hF];have ff:=gD hF;have g:=(h.at ff.2.2.1).perm (yR ff.2.2.2);refine h.with (g.modHd λ w hw=>⟨rfl,?_⟩);show (if (eS d).size=0 then w.data else eS d).size=0∨_;split
  ·exact (g.way w hw).data
  ·exact Jq d
 ·have hF':(aH c line).2.isSome=false:=by simpa using hF
  rw[mA hR hF'];have e:=jA (line:=line) hR;have hk:(aH c line).1<c.sets.length:=by rw[e];exact sH (eB hR).1 _
  have hn:dU (gW c (aH c line).1) (lineOf line)=none:=by rw[e]at hF' ⊢;simpa using hF'
  have g:=h.at hk;have gw:WyG c.sets.length (aH c line).1 ⟨lineOf line,b,eS d⟩:=⟨by show lineOf (lineOf line)=lineOf line;unfold lineOf;omega,by rw[e];rfl,Jq d,bI hl⟩;split
  ·rename_i hw;refine h.with ⟨?_,λ w hw=>?_,?_⟩
   ·have:=h.ways;rw[Tu,VQ];omega
   ·rcases al_List_mem_cons.1 hw with rfl|hw
    ·exact gw
    ·exact g.way w (VR _ hw)
   ·rw[UR,List.nodup_cons];refine⟨λ hm=>?_,g.one.sublist ((List.dropLast_sublist _).map _)⟩;obtain⟨w,hw,e⟩:=Wo.1 hm;exact Jp.1 hn w (VR _ hw) e
  ·rename_i hw;refine h.with ⟨?_,λ w hw=>?_,?_⟩
   ·have:=g.len;rw[Tu];push_cast;omega
   ·rcases al_List_mem_cons.1 hw with rfl|hw
    ·exact gw
    ·exact g.way w hw
   ·rw[UR,List.nodup_cons];refine⟨λ hm=>?_,g.one⟩;obtain⟨w,hw,e⟩:=Wo.1 hm;exact Jp.1 hn w hw e
theorem Ho{d b:ByteArray}{a:Nat}(h:b.size+a≤d.size):(zI d a b).size=d.size:=by
 unfold zI;simp only[Vc,Uh];omega
theorem CaG.write{c:Ca}(h:CaG c)(a:Nat)(b:ByteArray):CaG (oE c a b).1:=by
 by_cases hF:(aH c a).2.isSome=true
 ·have ff:=gD hF;rw[rG b hF rfl (SS ff.2.2.2)];split
  ·exact h
  ·rename_i hq;have g:=(h.at ff.2.2.1).perm (yR ff.2.2.2);have hd:=(h.at ff.2.2.1).way _ (Vn ff.2.2.2);have hd2:=hd.data;have e:bT (gW c (aH c a).1) ((aH c a).2.getD 0)=(gW c (aH c a).1)[(aH c a).2.getD 0]::((gW c (aH c a).1).take ((aH c a).2.getD 0)++(gW c (aH c a).1).drop ((aH c a).2.getD 0+1)):=by
    unfold bT;rw[SS ff.2.2.2];rfl
   refine h.with ?_;rw[e]at g⊢;have g1:=g.way _ (Tv ..);refine⟨g.len,λ w hw=>?_,g.one⟩;rcases al_List_mem_cons.1 hw with rfl|hw
   ·refine⟨g1.line,g1.set,.inr ?_,g1.le⟩;show (zI _ _ _).size=16;rw[Ho omT];omega
   ·exact g.way w (TC _ hw)
 ·rw[Ba b (by simpa using hF)];exact h
theorem CaG.clean{c:Ca}(h:CaG c)(line:Nat):CaG (mP c line):=by
 by_cases hF:(aH c line).2.isSome=true
 ·have ff:=gD hF;rw[wI hF rfl];have g:=h.at ff.2.2.1;have hm:(((gW c (aH c line).1).modify ((aH c line).2.getD 0) λ w=>{w with dirty:=false}).map (·.line))=(gW c (aH c line).1).map (·.line):=by
   apply Ua;intro i;simp only[Tq,VS];split<;>simp[Option.map_map,Function.comp_def]
  refine h.with ⟨by rw[List.length_modify];exact g.len,λ w hw=>?_,by rw[hm];exact g.one⟩;obtain⟨i,hi⟩:=List.getElem?_of_mem hw;rw[VS]at hi;obtain⟨v,hv,rfl⟩:=WF.1 hi;have gv:=g.way v (ST hv);split
  ·exact⟨gv.line,gv.set,gv.data,gv.le⟩
  ·exact gv
 ·rw[wJ (by simpa using hF)];exact h
theorem CaG.dirty{c:Ca}(h:CaG c){w:Wy}(hw:aZ c=some w):w.line≤4294967295:=by
 unfold aZ at hw;split at hw
 ·have:=List.mem_of_find?_eq_some hw;obtain⟨s,hs,hw⟩:=List.mem_flatten.1 this;obtain⟨k,hk,rfl⟩:=Uv hs;exact ((h.set k _ (SS hk)).way w hw).le
 ·cases hw
theorem FT{q:List Req}(h:∀ x∈q,x.ok){kind:Int}{line:Nat}{left:Int}{d:ByteArray}(hl:line≤4294967295):∀ x∈sQ q kind line left d,x.ok:=by
 intro x hx;unfold sQ at hx;rcases al_List_mem_append.1 hx with hx|hx
 ·exact h x hx
 ·rw[Ww.1 hx];exact⟨hl⟩
theorem DC(q:List Req)(kind:Int)(line:Nat)(left:Int)(d:ByteArray):(sQ q kind line left d).length=q.length+1:=by unfold sQ;simp
theorem Co.okM.gd{c:Co}{n:Nat}(h:c.okM n):CaG c.data:=Rw.2 ⟨h.data,h.ok.data⟩
theorem Co.okM.gw{c:Co}{n:Nat}(h:c.okM n):CaG c.words:=Rw.2 ⟨h.words,h.ok.words⟩
theorem Co.okM.mono{c:Co}{n m:Nat}(h:c.okM n)(hm:n≤m)(hb:m≤890000):c.okM m:=
 ⟨⟨h.ok.conf,h.ok.prog,h.ok.progo,h.ok.r,h.ok.fetch,h.ok.fet,h.ok.feto,h.ok.rob,h.ok.robo,h.ok.sto,h.ok.stoo,h.ok.data,h.ok.words,Tb h.ok.bus hm,h.ok.buso,h.ok.asked,h.ok.guessed,h.ok.mem,h.ok.guess,Tb h.ok.ret hm,h.ok.reto⟩,hb,h.cf,h.data,h.words,h.guess,h.rob,h.fet,h.sto,h.prog,h.mem,h.std⟩
theorem yS(z:Int):wrap64 z≤9223372036854775807:=by unfold wrap64;omega
theorem Co.okM.busData{c:Co}{n:Nat}(h:c.okM n){q:List Req}{d:Ca}{a:Int}(hq:q.length≤n+1)(hqo:∀ x∈q,x.ok)(hd:CaG d)(ha:a≤9223372036854775807)(hb:n+1≤890000):Co.okM {c with bus:=q,data:=d,asked:=a} (n+1):=
 ⟨⟨h.ok.conf,h.ok.prog,h.ok.progo,h.ok.r,h.ok.fetch,h.ok.fet,h.ok.feto,h.ok.rob,h.ok.robo,h.ok.sto,h.ok.stoo,(Rw.1 hd).2,h.ok.words,hq,hqo,ha,h.ok.guessed,h.ok.mem,h.ok.guess,Wj h.ok.ret,h.ok.reto⟩,hb,h.cf,(Rw.1 hd).1,h.words,h.guess,h.rob,h.fet,h.sto,h.prog,h.mem,h.std⟩
theorem jN{c:Co}{n:Nat}(h:c.okM n)(hb:n+1≤890000)(kind:Int){line:Nat}(hl:line≤4294967295)(d:ByteArray):(dI c kind line d).okM (n+1):=
 h.busData (by rw[DC];have:=h.ok.bus;omega) (FT h.ok.buso hl) h.gd (yS _) hb
theorem Jr{d:Ca}{q:List Req}{m:ByteArray}{line:Nat}{left:Int}(hd:CaG d)(hq:∀ x∈q,x.ok)(hl:line≤4294967295):CaG (cZ d q m line left).1∧(cZ d q m line left).2.1.length≤q.length+1∧∀ x∈(cZ d q m line left).2.1,x.ok:=by
 unfold cZ;split
 ·exact⟨hd,Us _,hq⟩
 ·split
  ·exact⟨hd.touch _,Us _,hq⟩
  ·have hp:=hd.put (bI hl) (Ao (dV q m) (lineOf line)) false;have hg:=AY (Rw.1 hd).2 (lineOf line) (Ao (dV q m) (lineOf line)) false;generalize iU d (lineOf line) (Ao (dV q m) (lineOf line)) false=t at hp hg;obtain⟨e,gone,went⟩:=t;dsimp only at hp hg⊢;split
   ·exact⟨hp,by rw[DC];exact SU _,FT hq hg⟩
   ·exact⟨hp,Us _,hq⟩
theorem yT{c:Co}{n:Nat}(h:c.okM n)(hb:n+1≤890000){line:Nat}(hl:line≤4294967295):(bA c line).okM (n+1):=by
 have hk:=Jr (m:=c.mem) (left:=eE c.conf c.asked) h.gd h.ok.buso hl;unfold bA;generalize cZ c.data c.bus c.mem line (eE c.conf c.asked)=t at hk;obtain⟨d,q,a⟩:=t;dsimp only at hk⊢;refine h.busData (by have:=h.ok.bus;omega) hk.2.2 hk.1 ?_ hb;split
 ·exact yS _
 ·exact h.ok.asked
theorem Js{l:List Pt}{c:Ca}(hc:CaG c):CaG (jP l c).2.1∧(jP l c).1.length≤l.length∧∀ x∈(jP l c).1,x∈l:=by
 unfold jP
 cases l with
 |nil=>exact⟨hc,SU _,λ x h=>h⟩
 |cons p l=>
  dsimp only;split
  ·exact⟨hc.write _ _,Us _,λ x h=>TC _ h⟩
  ·exact⟨hc,SU _,λ x h=>h⟩
theorem bW{c:Co}{n:Nat}(h:c.okM n):(aD c).okM n:=by
 have hk:=Js (l:=c.stores) h.gd;exact⟨⟨h.ok.conf,h.ok.prog,h.ok.progo,h.ok.r,h.ok.fetch,h.ok.fet,h.ok.feto,h.ok.rob,h.ok.robo,Tb hk.2.1 h.ok.sto,λ x hx=>h.ok.stoo x (hk.2.2 x hx),(Rw.1 hk.1).2,h.ok.words,h.ok.bus,h.ok.buso,h.ok.asked,h.ok.guessed,h.ok.mem,h.ok.guess,h.ok.ret,h.ok.reto⟩,h.nb,h.cf,(Rw.1 hk.1).1,h.words,h.guess,h.rob,h.fet,Tb hk.2.1 h.sto,h.prog,h.mem,λ x hx=>h.std x (hk.2.2 x hx)⟩
end Go.Proofs.YtlhofpglndhfaaaGreatDoor
