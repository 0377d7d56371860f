/- Joined texts. -/
import Derived.Test.YtgleompefdogkaaGreatDoorS1
import Derived.Test.YtgleompefdogkaaGreatDoorS28
import Derived.Test.YtgleompefdogkaaGreatDoorS36
set_option linter.unusedVariables false
set_option linter.unusedSimpArgs false
set_option linter.defProp false
namespace Go.Proofs.YtgleompefdogkaaGreatDoor
set_option maxRecDepth 100000
set_option maxHeartbeats 4000000
open Go.RowKit
theorem ad4{prog:List Nat}:∀{a b:Nat} {s:St},a<=b->cntN prog a s=min a (cntN prog b s)
 |0,b,s,_=>by rw[Nat.zero_min];rfl
 |a+1,0,s,h=>absurd h (Nat.not_succ_le_zero a)
 |a+1,b+1,s,h=>by
  have:=ad4 (prog:=prog) (a:=a) (b:=b) (s:=(Ig prog s).1) omT;unfold cntN;split<;>omega
def adC(prog:List Nat)(m:ByteArray){a b:Int}(ld:Bool)(h:a<=b):ab2 prog m a ld=(ab2 prog m b ld).take (min a 10000).toNat:=by
 unfold ab2 xsN;rw[ad4 (b:=(min b 10000).toNat) omT, <-eZ, <-eZ, <-eZ,List.take_range]
theorem acQ:∀(k:Nat) (a b:List EvnT),sameP (a.take k) (b.take k)=min k (sameP a b)
 |0,a,b=>by rw[Nat.zero_min];rfl
 |k+1,[],b=>by simp[sameP]
 |k+1,_::_,[]=>by simp[sameP]
 |k+1,x::a,y::b=>by
  have:=acQ k a b;simp only[oM,sameP];split<;>omega
def aeH{a b:List EvnT}{f g:Int}{p q:Nat}(hg:0<=g)(hfg:g<=f)(h:acS a b f p q=true):acS (a.take g.toNat) (b.take g.toNat) g p q=true:=by
 have h1:=abZ a b;unfold acS at h⊢;rw[acQ];by_cases hp:p=q
 ·subst hp;simp only[ne_eq,not_true_eq_false,iJ]at h⊢;by_cases hs:((sameP a b:Nat):Int)>=g
  ·rw[if_pos omT]
  ·rw[if_neg omT]at h;rw[if_neg omT];simp only[aJ,pY,bB]at h⊢;obtain⟨e1,e2,e3,e4⟩:=h;have e:min g.toNat (sameP a b)=sameP a b:=by omega
   rw[e,aM omT,aM omT];exact⟨e1,e2,e3,e4⟩
 ·rw[if_pos hp]at h;cases h
theorem first_ge:∀(a b:List Seen) (k:Nat),xV a b k= -1∨(k:Int)<=xV a b k
 |[],[],k=>.inl rfl
 |[],_::_,k=>.inr (iE _)
 |_::_,[],k=>.inr (iE _)
 | x::a,y::b,k=>by
  simp only[xV];split
  ·rcases first_ge a b (k+1)with h|h
   ·exact .inl h
   ·exact .inr omT
  ·exact .inr (iE _)
theorem first_take:∀(a b:List Seen) (l k:Nat),a.length=b.length->(xV (a.take l) (b.take l) k=xV a b k∧0<=xV a b k)∨(xV (a.take l) (b.take l) k= -1∧(xV a b k= -1∨(k:Int)+l<=xV a b k))
 |[],[],l,k,_=>by cases l<;>exact .inr ⟨rfl,.inl rfl⟩
 |[],_::_,l,k,h=>by cases h
 |_::_,[],l,k,h=>by cases h
 |x::a,y::b,0,k,_=>by
  refine .inr ⟨rfl,?_⟩;rcases first_ge (x::a) (y::b) k with h|h
  ·exact .inl h
  ·exact .inr omT
 | x::a,y::b,l+1,k,h=>by
  simp only[oM,xV];split
  ·rcases first_take a b l (k+1) (by simpa using h)with h1|⟨h1,h2⟩
   ·exact .inl h1
   ·refine .inr ⟨h1,h2.imp id λh=>by omega⟩
  ·exact .inl ⟨rfl,by omega⟩
def acR(X:Co){a b:Nat}(h:a<=b):iH X a=(iH X b).take a:=by
 unfold iH;rw[<-eZ,List.take_range,tB h]
def ae8(c:Cf){a b:Int}(h:a<=b):abY c a<=abY c b:=by
 unfold abY;have h0:1<=(cD c).width∧(cD c).width<=2:=ac3 c.width 1 2 (by decide);have h2:(cD c).width=1∨(cD c).width=2:=by omega
 rcases h2 with h2|h2<;>rw[h2]<;>omega
def ad5{F1 F2:Int}{L:Nat}(h:(F2=F1∧0<=F1)∨(F2= -1∧(F1= -1∨(L:Int)<=F1))):(F2<0∨F1=F2)∧(F2>=0∨F1<0∨F1>=L):=by omega
def adG(cf:Cf)(prog:List Nat)(m w:ByteArray)(n:Int)(less:Int)(ld:Bool)(hc:cf.ok)(hp:∀x∈prog,x<=4294967295)(hl:prog.length<=9223372036854775807)(hm:m.size<=9223372036854775807)(hw:w.size<=9223372036854775807):cA C0 5 [.agg (cfL cf false false),.sl 1 (prog.map eE) false,.v (.string m),.v (.string w),vI n,vI less,vB ld] (vB true):=by
 refine dc1 (cA.intro c1Ok Tryz.func5 rfl rfl (by kernel_rfl) rfl ?_);obtain⟨N,hNe⟩:∃N,N=upTo n 80:=⟨_,rfl⟩;have hNi:(if(80:Int)<max n 0 then(80:Int)else max n 0)=(N:Int):=hNe ▸ ac0 n 80;have hN:N<=80:=hNe ▸ acZ _ _;obtain⟨L,hLe⟩:∃L,L=upTo less N:=⟨_,rfl⟩;have hLi:(if(N:Int)<max less 0 then(N:Int)else max less 0)=(L:Int):=hLe ▸ ac0 less N;have hLN:L<=N:=hLe ▸ acZ _ _;have hl2:(abX prog).length<=1000:=by unfold abX;rw[aL];omega
 have hp2:=AQ (P:=λx=>x<=4294967295) (n:=min prog.length 64) hp;have hT1:=aeD cf (abX prog) (abW m) (abW w) (N:Nat) ld hc hp2 hl2;have hT2:=aeD cf (abX prog) (abW m) (abW w) (L:Nat) ld hc hp2 hl2;have hfl:=ae8 cf (show(L:Int)<=(N:Int) by omega);have hm1:=adV cf (L:Nat);have hr1:=adW cf;have hf0:0<=abY cf (L:Nat)∧abY cf (L:Nat)<=10000:=by unfold abY;omega
 rw[adC (abX prog) (abW m) ld hfl,adC (abX prog) (abW w) ld hfl,acQ,Int.min_eq_left hf0.2]at hT2;rw[adO omT]at hT1 hT2;rw[acR _ hLN,acR (gP cf (abX prog) (abW w)) hLN]at hT2;have hF:=first_take (iH (gP cf (abX prog) (abW m)) N) (iH (gP cf (abX prog) (abW w)) N) L 0 (by rw[Nv,Nv]);have hg:=aeH (a:=(ab2 (abX prog) (abW m) (abY cf (N:Nat)) ld)) (b:=(ab2 (abX prog) (abW w) (abY cf (N:Nat)) ld)) (f:=abY cf (N:Nat)) (p:=(sW (abW m)).size) (q:=(sW (abW w)).size) hf0.1 hfl;have hz:sameP (ab2 (abX prog) (abW m) (abY cf (N:Nat)) ld) (ab2 (abX prog) (abW w) (abY cf (N:Nat)) ld)<=10000:=aN (abZ _ _).1 (acB ..);generalize xV (List.take L _) _ 0=F2 at hT2 hF;generalize xV _ _ 0=F1 at hT1 hF;generalize acS (List.take _ _) _ _ _ _=G2 at hT2 hg;generalize acS _ _ _ _ _=G1 at hT1 hg;generalize sameP _ _=K1 at hT1 hT2 hz;obtain⟨K2,hK2e⟩:∃z,z=min (abY cf (L:Nat)).toNat K1:=⟨_,rfl⟩;rw[<-hK2e]at hT2;have hK1:K1<=10000:=hz;have hK21:K2<=K1:=by omega
 have hK2:K2<=10000:=by omega
 have hE:=ad5 (F1:=F1) (F2:=F2) (L:=L) omT;refine qS 0 rfl<|rCi rfl (adQ prog m w hl hm hw)<|qR 0 rfl<|rW (vI (max n 0)) rfl (okI (ac7 n 0))<|rW (vN N) rfl (okI hNi) ?_;refine qR 0 rfl<|rW (vI (max less 0)) rfl (okI (ac7 less 0))<|qR 0 rfl<|rW (vN L) rfl (okI hLi)<|qRC 0 rfl<|cRg<|oR 6 rfl<|rCi rfl (hT1)<|oR 6 rfl<|rCi rfl (hT2) ?_;refine rAl 36 rfl rfl<|rAl 37 rfl rfl<|rSt rfl<|rSt rfl<|rE 40<|qX 0 rfl<|rCi rfl (adP)<|qR 0 rfl<|gS rfl id<|gS rfl id<|gS rfl id<|qR 0 rfl<|gS rfl id<|uV (x:=vB (cR (!G1) true G2)) (g:=true) rfl rfl rfl rfl (λh=>h) rfl rfl (λhg hc=>by first|(rw[hg,hc];rfl)|simp_all) ?_;refine cU rfl rfl rfl (λh=>h)<|qR 0 rfl<|gS rfl id<|gBS (x:=vB (decide (F2<0))) rfl id rfl<|gS rfl id<|qR 0 rfl<|gS rfl id<|qR 0 rfl<|gS rfl id<|gBS (x:=vB (F1==F2)) rfl hsT rfl<|uV (x:=vB (cR (decide (F2<0)) true (F1==F2))) (g:=cR true (cR (!G1) true G2) false) rfl rfl rfl rfl (λh=>h) rfl rfl (λhg hc=>by first|(rw[hg,hc];rfl)|simp_all)<|cU rfl rfl rfl (λh=>h)<|qR 0 rfl<|gS rfl id ?_;refine gBS (x:=vB (decide (F2>=0))) rfl id rfl<|gS rfl id<|qR 0 rfl<|gS rfl id<|gBS (x:=vB (decide (F1<0))) rfl id rfl<|uV (x:=vB (cR (decide (F2>=0)) true (decide (F1<0)))) (g:=cR (cR true (cR (!G1) true G2) false) (cR (decide (F2<0)) true (F1==F2)) false) rfl rfl rfl rfl (λh=>h) rfl rfl (λhg hc=>by first|(rw[hg,hc];rfl)|simp_all)<|gS rfl id<|qR 0 rfl<|gS rfl id<|qR 0 rfl<|gBS (x:=vB (decide (F1>=(L:Int)))) rfl hsT rfl<|uV (x:=vB (cR (cR (decide (F2>=0)) true (decide (F1<0))) true (decide (F1>=(L:Int))))) (g:=cR (cR true (cR (!G1) true G2) false) (cR (decide (F2<0)) true (F1==F2)) false) rfl rfl rfl rfl (λh=>h) rfl rfl (λhg hc=>by first|(rw[hg,hc];rfl)|simp_all)<|cU rfl rfl rfl (λh=>h)<|qR 0 rfl<|gS rfl id ?_;refine qR 0 rfl<|gS rfl id<|gBS (x:=vB (decide (K2<=K1))) rfl hsT (okB (leN _ _))<|cU rfl rfl rfl (λh=>h)<|qRF 0 rfl ?_;exact fT rfl (dM (by have h1:=hE.1;have h2:=hE.2;cases G1<;>simp[c2a,c2o,hK21]<;>first|exact⟨hg rfl,by omega,by omega⟩|exact⟨by omega,by omega⟩|grind))
end Go.Proofs.YtgleompefdogkaaGreatDoor
