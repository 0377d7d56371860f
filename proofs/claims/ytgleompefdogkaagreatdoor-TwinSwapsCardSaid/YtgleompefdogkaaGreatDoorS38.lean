/- Joined texts. -/
import Derived.Test.YtgleompefdogkaaGreatDoorS1
import Derived.Test.YtgleompefdogkaaGreatDoorS28
import Derived.Test.YtgleompefdogkaaGreatDoorS36
set_option linter.unusedVariables false
set_option linter.unusedSimpArgs false
set_option linter.defProp false
namespace Go.Proofs.YtgleompefdogkaaGreatDoor
set_option maxRecDepth 100000
set_option maxHeartbeats 4000000
open Go.RowKit
theorem acM:∀a b:List EvnT,sameP a b=sameP b a
 |[],[]=>rfl
 |[],_::_=>rfl
 |_::_,[]=>rfl
 |x::a,y::b=>by simp only[sameP,adN x y,acM a b]
theorem adA:∀{a b:List EvnT} {k:Nat},k<sameP a b->a[k]?=b[k]?
 |[],_,k,h=>absurd h (dD k)
 |_::_,[],k,h=>absurd h (dD k)
 | x::a,y::b,k,h=>by
  simp only[sameP]at h;split at h
  ·rename_i e;obtain rfl:=(acF x y).1 e
   cases k with
   |zero=>rfl
   |succ k=>exact adA (a:=a) (b:=b) omT
  ·omega
def ad8(A B:List EvnT)(f:Int)(p q:Nat):acS A B f p q=acS B A f q p:=by
 unfold acS;rw[acM B A];by_cases h:p=q
 ·subst h;simp only[ne_eq,not_true_eq_false,iJ];by_cases hf:((sameP A B:Nat):Int)>=f
  ·rw[if_pos hf,if_pos hf]
  ·rw[if_neg hf,if_neg hf];by_cases h0:0<sameP A B
   ·rw[adA (a:=A) (b:=B) (k:=sameP A B-1) omT];cases(sameP A B==A.length)<;>cases(sameP A B==B.length)<;>rfl
   ·rw[tA h0];simp
 ·rw[if_pos h,if_pos (λe=>h e.symm)]
theorem acT:∀(a b:List Seen) (k:Nat),xV a b k=xV b a k
 |[],[],_=>rfl
 |[],_::_,_=>rfl
 |_::_,[],_=>rfl
 |x::a,y::b,k=>by simp only[xV,ac8 x y,acT a b]
def aeP{x y:Sp}(h:adR (evP true x) (evP true y)=true):adR (evP false x) (evP false y)=true:=by
 rw[acF]at h⊢;injection h with h1 h2 h3 h4 h5 h6;simp only[evP,h1,h2,h3,h4,h6,bZ,false_and,iJ]
theorem acN:∀l r:List Sp,sameP (l.map (evP true)) (r.map (evP true))<=sameP (l.map (evP false)) (r.map (evP false))
 |[],_=>aE _
 |_::_,[]=>aE _
 |x::l,y::r=>by
  have:=acN l r;simp only[jI,sameP];split
  ·rename_i h;rw[if_pos (aeP h)];omega
  ·exact aE _
def ad9(l r:List Sp)(f:Int)(p q:Nat)(h:acS (l.map (evP true)) (r.map (evP true)) f p q=true):acS (l.map (evP false)) (r.map (evP false)) f p q=true:=by
 have hl:=acN l r;have h1:=abZ (l.map (evP false)) (r.map (evP false));unfold acS at h⊢;rw[aG,aG]at h1;by_cases hp:p=q
 ·subst hp;simp only[ne_eq,not_true_eq_false,iJ]at h⊢;by_cases hf:((sameP (l.map (evP false)) (r.map (evP false)):Nat):Int)>=f
  ·rw[if_pos hf]
  ·rw[if_neg omT]at h;rw[if_neg hf];simp only[aJ,pY,bB,aG]at h⊢;obtain⟨e1,e2,e3,e4⟩:=h;have e:sameP (l.map (evP false)) (r.map (evP false))=sameP (l.map (evP true)) (r.map (evP true)):=by omega
   rw[e];refine⟨e1,e2,e3,?_⟩;rw[bD]at e4⊢
   cases hx:l[sameP (l.map (evP true)) (r.map (evP true))-1]? with
   |none=>rw[hx]at e4;simp at e4
   |some x=>rw[hx]at e4;exact e4
 ·rw[if_pos hp]at h;cases h
def aeA(prog:List Nat)(m w:ByteArray)(n:Int):sameP (ab2 prog m n true) (ab2 prog w n true)<=sameP (ab2 prog m n false) (ab2 prog w n false):=acN _ _
def aeQ(prog:List Nat)(m w:ByteArray)(n f:Int)(p q:Nat)(h:acS (ab2 prog m n true) (ab2 prog w n true) f p q=true):acS (ab2 prog m n false) (ab2 prog w n false) f p q=true:=ad9 _ _ f p q h
def aeB(K:Nat)(G:Bool)(F:Int):(((K:Int)==(K:Int))&&((G==G)&&((F==F)&&true)))=true:=by simp
def adF(cf:Cf)(prog:List Nat)(m w:ByteArray)(n:Int)(hc:cf.ok)(hp:∀x∈prog,x<=4294967295)(hl:prog.length<=9223372036854775807)(hm:m.size<=9223372036854775807)(hw:w.size<=9223372036854775807):cA C0 4 [.agg (cfL cf false false),.sl 1 (prog.map eE) false,.v (.string m),.v (.string w),vI n] (vB true):=by
 refine dc1 (cA.intro c1Ok Tryz.func4 rfl rfl (by kernel_rfl) rfl ?_);obtain⟨N,hNe⟩:∃N,N=upTo n 80:=⟨_,rfl⟩;have hNi:(if(80:Int)<max n 0 then(80:Int)else max n 0)=(N:Int):=hNe ▸ ac0 n 80;have hN:N<=80:=hNe ▸ acZ _ _;have hl2:(abX prog).length<=1000:=by unfold abX;rw[aL];omega
 have hp2:=AQ (P:=λx=>x<=4294967295) (n:=min prog.length 64) hp;have hT1:=aeD cf (abX prog) (abW m) (abW w) (N:Nat) true hc hp2 hl2;have hT2:=aeD cf (abX prog) (abW w) (abW m) (N:Nat) true hc hp2 hl2;have hT3:=adY cf (abX prog) (abW m) (abW w) (N:Nat) false hc hp2 hl2;rw[acM,ad8,acT]at hT2;have hq:=aeA (abX prog) (abW m) (abW w) (abY cf (N:Nat));have hg:=aeQ (abX prog) (abW m) (abW w) (abY cf (N:Nat)) (abY cf (N:Nat)) (sW (abW m)).size (sW (abW w)).size;have hz:sameP (ab2 (abX prog) (abW m) (abY cf (N:Nat)) true) (ab2 (abX prog) (abW w) (abY cf (N:Nat)) true)<=10000:=aN (abZ _ _).1 (acB ..);have hz3:sameP (ab2 (abX prog) (abW m) (abY cf (N:Nat)) false) (ab2 (abX prog) (abW w) (abY cf (N:Nat)) false)<=10000:=aN (abZ _ _).1 (acB ..);generalize xV _ _ 0=F1 at hT1 hT2;generalize hK1e:sameP (ab2 (abX prog) (abW m) (abY cf (N:Nat)) true) (ab2 (abX prog) (abW w) (abY cf (N:Nat)) true)=K1 at hT1 hT2 hq hz;generalize acS (ab2 (abX prog) (abW m) (abY cf (N:Nat)) true) (ab2 (abX prog) (abW w) (abY cf (N:Nat)) true) _ _ _=G1 at hT1 hT2 hg;generalize sameP _ _=K3 at hT3 hq hz3;generalize acS _ _ _ _ _=G3 at hT3 hg;have hK1:K1<=10000:=hz;have hK3:K3<=10000:=hz3;refine qS 0 rfl<|rCi rfl (adQ prog m w hl hm hw)<|qR 0 rfl<|rW (vI (max n 0)) rfl (okI (ac7 n 0))<|rW (vN N) rfl (okI hNi) ?_;refine qRC 0 rfl<|cRg<|oR 5 rfl<|rCi rfl (hT1)<|oR 5 rfl<|rCi rfl (hT2)<|rAl 29 rfl rfl<|rAl 30 rfl rfl<|rSt rfl<|rSt rfl<|rE 33 ?_;refine qX 0 rfl<|rCi rfl (hT3)<|qR 0 rfl<|rCi rfl (adP)<|qR 0 rfl<|gBS (x:=vB true) rfl hsT (okB (aeB K1 G1 F1))<|cU rfl rfl rfl (λh=>h)<|qR 0 rfl<|gS rfl id<|gBS (x:=vB (decide (K3>=K1))) rfl hsT (okB (geN _ _)) ?_;refine cU rfl rfl rfl (λh=>h)<|qR 0 rfl<|gS rfl id<|gS rfl id<|gS rfl id<|qR 0 rfl<|uV (x:=vB (cR (!G1) true G3)) (g:=cR (cR true true false) (decide (K3>=K1)) false) rfl rfl rfl rfl (λh=>h) rfl rfl (λhg hc=>by first|(rw[hg,hc];rfl)|simp_all)<|cU rfl rfl rfl (λh=>h)<|qRF 0 rfl ?_;exact fT rfl (dM (by cases G1<;>simp[c2a,c2o,hq]<;>exact hg rfl))
end Go.Proofs.YtgleompefdogkaaGreatDoor
